/-
  Parts of the proof, merged: what the statement leans on.
-/
import Derived.Test.YtnbkjcmmjgkdaaaGreatProg
import Derived.KernelRfl
import Derived.Test.YtnbkjcmmjgkdaaaGreatZGbB
/-
  The functions' small code, as a program printed it off the translation; each held against the model's own code by the kernel.
-/
namespace Go.Proofs.YtnbkjcmmjgkdaaaGreat
open Go
set_option maxRecDepth 100000
/-- (*rundale/supply.Take).look -/
def c123 : Fu := ⟨34, [],
  (.sq (.rg [⟨(some 5), none, .mv (.t 0)⟩,
    ⟨(some 6), none, .nc (.t 5)⟩,
    ⟨(some 7), none, .fa (.t 6) 5⟩,
    ⟨(some 8), none, .ld (.t 7) 1 false⟩,
    ⟨(some 9), none, .nc (.t 8)⟩,
    ⟨(some 10), none, .fa (.t 9) 0⟩,
    ⟨(some 11), none, .ld (.t 10) 1 false⟩,
    ⟨(some 12), none, .ca 160 [(.t 11), (.c (.int .i64 2))]⟩,
    ⟨(some 4), none, .mv (.t 12)⟩,
    ⟨(some 13), none, .ex (.t 4) 0⟩,
    ⟨(some 14), none, .ex (.t 4) 1⟩,
    ⟨(some 2), none, .mv (.t 13)⟩,
    ⟨(some 3), none, .mv (.t 14)⟩])
  (.sq (.rg [⟨(some 15), none, .mv (.t 0)⟩,
    ⟨(some 16), none, .mv (.t 2)⟩,
    ⟨(some 17), none, .ca 92 [(.t 16)]⟩,
    ⟨(some 18), none, .nc (.t 15)⟩,
    ⟨(some 19), none, .fa (.t 18) 8⟩,
    ⟨none, none, .st (.t 19) (.t 17) 1⟩])
  (.sq (.rd [⟨0, 0, [0], ⟨(some 20), none, .mv (.t 0)⟩⟩,
    ⟨1, 1, [20], ⟨(some 21), none, .nc (.t 20)⟩⟩,
    ⟨2, 3, [21], ⟨(some 22), none, .fa (.t 21) 5⟩⟩,
    ⟨3, 7, [22], ⟨(some 23), none, .ld (.t 22) 1 false⟩⟩,
    ⟨4, 0, [0], ⟨(some 24), none, .mv (.t 0)⟩⟩,
    ⟨5, 16, [24], ⟨(some 25), none, .nc (.t 24)⟩⟩,
    ⟨6, 48, [25], ⟨(some 26), none, .fa (.t 25) 8⟩⟩,
    ⟨7, 112, [26], ⟨(some 27), none, .ld (.t 26) 1 false⟩⟩,
    ⟨8, 255, [23, 27], ⟨(some 28), none, .ca 88 [(.t 23), (.t 27)]⟩⟩])
  (.sq (.rg [⟨(some 29), none, .mv (.t 0)⟩,
    ⟨(some 30), none, .ca 121 [(.t 29)]⟩,
    ⟨(some 31), none, .nt (.t 30)⟩])
  (.cd (.t 31)
  (.rg [⟨(some 32), none, .mv (.t 0)⟩,
    ⟨(some 33), none, .ca 124 [(.t 32)]⟩])
  .sk)))))⟩
theorem k123 : cF Tryz.prog Tryz.f123 = some c123 := by kernel_rfl
/-- (*rundale/supply.Take).ask -/
def c124 : Fu := ⟨37, [],
  (.sq (.rd [⟨0, 0, [0], ⟨(some 2), none, .mv (.t 0)⟩⟩,
    ⟨1, 0, [0], ⟨(some 3), none, .mv (.t 0)⟩⟩,
    ⟨2, 2, [3], ⟨(some 4), none, .nc (.t 3)⟩⟩,
    ⟨3, 6, [4], ⟨(some 5), none, .fa (.t 4) 5⟩⟩,
    ⟨4, 14, [5], ⟨(some 6), none, .ld (.t 5) 1 false⟩⟩,
    ⟨5, 30, [6], ⟨(some 7), none, .nc (.t 6)⟩⟩,
    ⟨6, 62, [7], ⟨(some 8), none, .fa (.t 7) 7⟩⟩,
    ⟨7, 126, [8], ⟨(some 9), none, .ld (.t 8) 1 false⟩⟩,
    ⟨8, 0, [0], ⟨(some 10), none, .mv (.t 0)⟩⟩,
    ⟨9, 256, [10], ⟨(some 11), none, .nc (.t 10)⟩⟩,
    ⟨10, 768, [11], ⟨(some 12), none, .fa (.t 11) 5⟩⟩,
    ⟨11, 1792, [12], ⟨(some 13), none, .ld (.t 12) 1 false⟩⟩,
    ⟨12, 3840, [13], ⟨(some 14), none, .nc (.t 13)⟩⟩,
    ⟨13, 7936, [14], ⟨(some 15), none, .fa (.t 14) 1⟩⟩,
    ⟨14, 16128, [15], ⟨(some 16), none, .fa (.t 15) 5⟩⟩,
    ⟨15, 32512, [16], ⟨(some 17), none, .ld (.t 16) 1 false⟩⟩,
    ⟨16, 65534, [9, 17], ⟨(some 18), none, .ca 163 [(.t 9), (.t 17)]⟩⟩,
    ⟨17, 131071, [2], ⟨(some 19), none, .nc (.t 2)⟩⟩,
    ⟨18, 262143, [19], ⟨(some 20), none, .fa (.t 19) 6⟩⟩,
    ⟨19, 524287, [20, 18], ⟨none, none, .st (.t 20) (.t 18) 1⟩⟩])
  (.rd [⟨0, 0, [0], ⟨(some 21), none, .mv (.t 0)⟩⟩,
    ⟨1, 1, [21], ⟨(some 22), none, .nc (.t 21)⟩⟩,
    ⟨2, 3, [22], ⟨(some 23), none, .fa (.t 22) 0⟩⟩,
    ⟨3, 0, [0], ⟨(some 24), none, .mv (.t 0)⟩⟩,
    ⟨4, 8, [24], ⟨(some 25), none, .nc (.t 24)⟩⟩,
    ⟨5, 24, [25], ⟨(some 26), none, .fa (.t 25) 6⟩⟩,
    ⟨6, 56, [26], ⟨(some 27), none, .ld (.t 26) 1 false⟩⟩,
    ⟨7, 120, [27], ⟨(some 28), none, .mf (.func 164) [(.t 27)] []⟩⟩,
    ⟨8, 0, [0], ⟨(some 29), none, .mv (.t 0)⟩⟩,
    ⟨9, 256, [29], ⟨(some 30), none, .nc (.t 29)⟩⟩,
    ⟨10, 768, [30], ⟨(some 31), none, .fa (.t 30) 6⟩⟩,
    ⟨11, 1792, [31], ⟨(some 32), none, .ld (.t 31) 1 false⟩⟩,
    ⟨12, 3840, [32], ⟨(some 33), none, .mf (.func 165) [(.t 32)] []⟩⟩,
    ⟨13, 0, [0], ⟨(some 34), none, .mv (.t 0)⟩⟩,
    ⟨14, 8192, [34], ⟨(some 35), none, .mf (.func 166) [(.t 34)] []⟩⟩,
    ⟨15, 32767, [23, 28, 33, 35], ⟨(some 36), none, .ca 102 [(.t 23), (.t 28), (.t 33), (.t 35)]⟩⟩]))⟩
theorem k124 : cF Tryz.prog Tryz.f124 = some c124 := by kernel_rfl
/-- rundale/stack.New -/
def c125 : Fu := ⟨57, [.t 8, .t 9],
  (.sq (.rg [⟨(some 4), none, .bx 26 (.t 0)⟩,
    ⟨(some 8), none, .mv (.c (.pointer none))⟩,
    ⟨(some 9), none, .mv (.c (.int .i64 0))⟩])
  (.sq (.rg [⟨(some 11), none, .mf (.func 167) [] [(.t 4)]⟩,
    ⟨(some 10), none, .mv (.t 11)⟩])
  (.sq (.sq (.rg [⟨(some 12), none, .mv (.t 3)⟩,
    ⟨(some 13), none, .ib .lss (.t 12) (.c (.int .i64 1))⟩,
    ⟨(some 14), none, .mv (.t 13)⟩,
    ⟨(some 15), (some (14, false)), .mv (.t 3)⟩,
    ⟨(some 16), (some (14, false)), .ib .gtr (.t 15) (.c (.int .i64 4096))⟩,
    ⟨(some 17), none, .pk (.t 14) (.c (.bool true)) (.t 16)⟩,
    ⟨(some 18), none, .mv (.t 17)⟩,
    ⟨(some 19), (some (18, false)), .mv (.t 10)⟩,
    ⟨(some 20), (some (18, false)), .mv (.t 1)⟩,
    ⟨(some 21), (some (18, false)), .cl (.t 19) [(.t 20)]⟩,
    ⟨(some 22), (some (18, false)), .nt (.t 21)⟩,
    ⟨(some 23), none, .pk (.t 18) (.c (.bool true)) (.t 22)⟩,
    ⟨(some 24), none, .mv (.t 23)⟩,
    ⟨(some 25), (some (24, false)), .mv (.t 10)⟩,
    ⟨(some 26), (some (24, false)), .mv (.t 2)⟩,
    ⟨(some 27), (some (24, false)), .cl (.t 25) [(.t 26)]⟩,
    ⟨(some 28), (some (24, false)), .nt (.t 27)⟩,
    ⟨(some 29), none, .pk (.t 24) (.c (.bool true)) (.t 28)⟩,
    ⟨(some 30), none, .mv (.t 29)⟩,
    ⟨(some 31), (some (30, false)), .mv (.t 10)⟩,
    ⟨(some 32), (some (30, false)), .mv (.t 2)⟩,
    ⟨(some 33), (some (30, false)), .mv (.t 3)⟩,
    ⟨(some 34), (some (30, false)), .ib .add (.t 32) (.t 33)⟩,
    ⟨(some 35), (some (30, false)), .ib .sub (.t 34) (.c (.int .i64 1))⟩,
    ⟨(some 36), (some (30, false)), .cl (.t 31) [(.t 35)]⟩,
    ⟨(some 37), (some (30, false)), .nt (.t 36)⟩,
    ⟨(some 38), none, .pk (.t 30) (.c (.bool true)) (.t 37)⟩,
    ⟨(some 39), none, .mv (.t 38)⟩,
    ⟨(some 40), (some (39, false)), .mv (.t 1)⟩,
    ⟨(some 41), (some (39, false)), .mv (.t 2)⟩,
    ⟨(some 42), (some (39, false)), .ib .geq (.t 40) (.t 41)⟩,
    ⟨(some 43), (some (39, false)), .mv (.t 42)⟩,
    ⟨(some 44), (some (43, true)), .mv (.t 1)⟩,
    ⟨(some 45), (some (43, true)), .mv (.t 2)⟩,
    ⟨(some 46), (some (43, true)), .mv (.t 3)⟩,
    ⟨(some 47), (some (43, true)), .ib .add (.t 45) (.t 46)⟩,
    ⟨(some 48), (some (43, true)), .ib .lss (.t 44) (.t 47)⟩,
    ⟨(some 49), (some (39, false)), .pk (.t 43) (.t 48) (.c (.bool false))⟩,
    ⟨(some 50), none, .pk (.t 39) (.c (.bool true)) (.t 49)⟩])
  (.cd (.t 50)
  (.sq (.rg [⟨(some 8), none, .mv (.c (.pointer none))⟩,
    ⟨(some 9), none, .mv (.c (.int .i64 1))⟩])
  .rt)
  .sk))
  (.sq (.rg [⟨(some 51), none, .ld (.t 4) 1 false⟩,
    ⟨(some 52), none, .mv (.t 1)⟩,
    ⟨(some 53), none, .mv (.t 2)⟩,
    ⟨(some 54), none, .mv (.t 3)⟩,
    ⟨(some 55), none, .bd [(.pointer none), (.int .i64 0), (.int .i64 0), (.int .i64 0)] [(0, 1, (.t 51)), (1, 1, (.t 52)), (2, 1, (.t 53)), (3, 1, (.t 54))]⟩,
    ⟨(some 56), none, .bx 149 (.t 55)⟩,
    ⟨(some 8), none, .mv (.t 56)⟩,
    ⟨(some 9), none, .mv (.c (.int .i64 0))⟩])
  .rt))))⟩
theorem k125 : cF Tryz.prog Tryz.f125 = some c125 := by kernel_rfl
/-- rundale/lay.Link -/
def c126 : Fu := ⟨8, [.t 4],
  (.sq (.rg [⟨(some 2), none, .bx 24 (.t 0)⟩,
    ⟨(some 4), none, .mv (.c (.int .i64 0))⟩])
  (.sq (.rg [⟨(some 5), none, .ld (.t 2) 6 true⟩,
    ⟨(some 6), none, .mv (.t 1)⟩,
    ⟨(some 7), none, .ca 111 [(.t 5), (.c (.int .i64 6)), (.t 6)]⟩,
    ⟨(some 4), none, .mv (.t 7)⟩])
  .rt))⟩
theorem k126 : cF Tryz.prog Tryz.f126 = some c126 := by kernel_rfl
/-- (*rundale/stack.Stack).Fill -/
def c127 : Fu := ⟨57, [],
  (.sq (.sq (.rg [⟨(some 5), none, .mv (.t 0)⟩,
    ⟨(some 6), none, .nc (.t 5)⟩,
    ⟨(some 7), none, .fa (.t 6) 3⟩,
    ⟨(some 8), none, .ld (.t 7) 1 false⟩,
    ⟨(some 9), none, .mv (.c (.int .i64 0))⟩])
  (.bl 0
  (.lp
  (.sq (.rg [⟨(some 10), none, .ib .lss (.t 9) (.t 8)⟩])
  (.sq (.cd (.t 10)
  .sk
  (.ex 0))
  (.sq (.bl 1
  (.sq (.rg [⟨(some 11), none, .mv (.t 9)⟩,
    ⟨(some 2), none, .mv (.t 11)⟩])
  (.rd [⟨0, 0, [0], ⟨(some 12), none, .mv (.t 0)⟩⟩,
    ⟨1, 1, [12], ⟨(some 13), none, .nc (.t 12)⟩⟩,
    ⟨2, 3, [13], ⟨(some 14), none, .fa (.t 13) 0⟩⟩,
    ⟨3, 7, [14], ⟨(some 15), none, .ld (.t 14) 1 false⟩⟩,
    ⟨4, 0, [0], ⟨(some 16), none, .mv (.t 0)⟩⟩,
    ⟨5, 16, [16], ⟨(some 17), none, .nc (.t 16)⟩⟩,
    ⟨6, 48, [17], ⟨(some 18), none, .fa (.t 17) 2⟩⟩,
    ⟨7, 112, [18], ⟨(some 19), none, .ld (.t 18) 1 false⟩⟩,
    ⟨8, 0, [2], ⟨(some 20), none, .mv (.t 2)⟩⟩,
    ⟨9, 496, [19, 20], ⟨(some 21), none, .ib .add (.t 19) (.t 20)⟩⟩,
    ⟨10, 0, [2], ⟨(some 22), none, .mv (.t 2)⟩⟩,
    ⟨11, 1024, [22], ⟨(some 23), none, .ib .add (.t 22) (.c (.int .i64 2))⟩⟩,
    ⟨12, 3072, [23], ⟨(some 24), none, .cv .u64 (.t 23)⟩⟩,
    ⟨13, 8191, [15, 21, 24], ⟨(some 25), none, .ca 48 [(.t 15), (.t 21), (.t 24)]⟩⟩])))
  (.rg [⟨(some 26), none, .ib .add (.t 9) (.c (.int .i64 1))⟩,
    ⟨(some 9), none, .mv (.t 26)⟩])))))))
  (.sq (.rd [⟨0, 0, [0], ⟨(some 27), none, .mv (.t 0)⟩⟩,
    ⟨1, 1, [27], ⟨(some 28), none, .nc (.t 27)⟩⟩,
    ⟨2, 3, [28], ⟨(some 29), none, .fa (.t 28) 0⟩⟩,
    ⟨3, 7, [29], ⟨(some 30), none, .ld (.t 29) 1 false⟩⟩,
    ⟨4, 0, [0], ⟨(some 31), none, .mv (.t 0)⟩⟩,
    ⟨5, 16, [31], ⟨(some 32), none, .nc (.t 31)⟩⟩,
    ⟨6, 48, [32], ⟨(some 33), none, .fa (.t 32) 2⟩⟩,
    ⟨7, 112, [33], ⟨(some 34), none, .ld (.t 33) 1 false⟩⟩,
    ⟨8, 0, [0], ⟨(some 35), none, .mv (.t 0)⟩⟩,
    ⟨9, 256, [35], ⟨(some 36), none, .nc (.t 35)⟩⟩,
    ⟨10, 768, [36], ⟨(some 37), none, .fa (.t 36) 3⟩⟩,
    ⟨11, 1792, [37], ⟨(some 38), none, .ld (.t 37) 1 false⟩⟩,
    ⟨12, 4080, [34, 38], ⟨(some 39), none, .ib .add (.t 34) (.t 38)⟩⟩,
    ⟨13, 8176, [39], ⟨(some 40), none, .ib .sub (.t 39) (.c (.int .i64 1))⟩⟩,
    ⟨14, 16383, [30, 40], ⟨(some 41), none, .ca 48 [(.t 30), (.t 40), (.c (.int .u64 0))]⟩⟩])
  (.sq (.rg [⟨(some 43), none, .bd [(.int .i64 0), (.int .i64 0)] []⟩,
    ⟨(some 44), none, .ca 168 [(.t 43)]⟩,
    ⟨(some 42), none, .mv (.t 44)⟩,
    ⟨(some 45), none, .ex (.t 42) 0⟩,
    ⟨(some 46), none, .ex (.t 42) 1⟩,
    ⟨(some 3), none, .mv (.t 45)⟩,
    ⟨(some 4), none, .mv (.t 46)⟩])
  (.rd [⟨0, 0, [0], ⟨(some 47), none, .mv (.t 0)⟩⟩,
    ⟨1, 1, [47], ⟨(some 48), none, .nc (.t 47)⟩⟩,
    ⟨2, 3, [48], ⟨(some 49), none, .fa (.t 48) 0⟩⟩,
    ⟨3, 7, [49], ⟨(some 50), none, .ld (.t 49) 1 false⟩⟩,
    ⟨4, 0, [0], ⟨(some 51), none, .mv (.t 0)⟩⟩,
    ⟨5, 16, [51], ⟨(some 52), none, .nc (.t 51)⟩⟩,
    ⟨6, 48, [52], ⟨(some 53), none, .fa (.t 52) 1⟩⟩,
    ⟨7, 112, [53], ⟨(some 54), none, .ld (.t 53) 1 false⟩⟩,
    ⟨8, 0, [3], ⟨(some 55), none, .mv (.t 3)⟩⟩,
    ⟨9, 511, [50, 54, 55], ⟨(some 56), none, .ca 48 [(.t 50), (.t 54), (.t 55)]⟩⟩]))))⟩
theorem k127 : cF Tryz.prog Tryz.f127 = some c127 := by kernel_rfl
/-- rundale/rundaleref5.New -/
def c128 : Fu := ⟨7, [.t 2],
  (.sq (.rg [⟨(some 2), none, .mv (.c (.pointer none))⟩])
  (.sq (.rg [⟨(some 3), none, .mv (.t 0)⟩,
    ⟨(some 4), none, .mk 103 1 8 [(.int .u64 0)] (.t 3) (.t 3)⟩,
    ⟨(some 5), none, .bd [(.slice none 0 0), (.int .i64 0)] [(0, 1, (.t 4))]⟩,
    ⟨(some 6), none, .bx 108 (.t 5)⟩,
    ⟨(some 2), none, .mv (.t 6)⟩])
  .rt))⟩
theorem k128 : cF Tryz.prog Tryz.f128 = some c128 := by kernel_rfl
/-- rundale/rundaleref1.Len -/
def c129 : Fu := ⟨22, [.t 2],
  (.sq (.rg [⟨(some 1), none, .bx 24 (.t 0)⟩,
    ⟨(some 2), none, .mv (.c (.int .i64 0))⟩])
  (.sq (.sq (.rg [⟨(some 3), none, .ld (.t 1) 6 true⟩,
    ⟨(some 4), none, .ca 159 [(.t 3)]⟩,
    ⟨(some 5), none, .nt (.t 4)⟩])
  (.cd (.t 5)
  (.sq (.rg [⟨(some 2), none, .mv (.c (.int .i64 0))⟩])
  .rt)
  .sk))
  (.sq (.rg [⟨(some 6), none, .fa (.t 1) 0⟩,
    ⟨(some 7), none, .ld (.t 6) 1 false⟩,
    ⟨(some 8), none, .ib .add (.c (.int .i64 3)) (.t 7)⟩,
    ⟨(some 9), none, .fa (.t 1) 3⟩,
    ⟨(some 10), none, .ld (.t 9) 1 false⟩,
    ⟨(some 11), none, .ib .mul (.c (.int .i64 2)) (.t 10)⟩,
    ⟨(some 12), none, .ib .add (.t 8) (.t 11)⟩,
    ⟨(some 13), none, .fa (.t 1) 1⟩,
    ⟨(some 14), none, .ld (.t 13) 1 false⟩,
    ⟨(some 15), none, .ib .add (.t 12) (.t 14)⟩,
    ⟨(some 16), none, .fa (.t 1) 1⟩,
    ⟨(some 17), none, .ld (.t 16) 1 false⟩,
    ⟨(some 18), none, .fa (.t 1) 2⟩,
    ⟨(some 19), none, .ld (.t 18) 1 false⟩,
    ⟨(some 20), none, .ib .mul (.t 17) (.t 19)⟩,
    ⟨(some 21), none, .ib .add (.t 15) (.t 20)⟩,
    ⟨(some 2), none, .mv (.t 21)⟩])
  .rt)))⟩
theorem k129 : cF Tryz.prog Tryz.f129 = some c129 := by kernel_rfl
/-- rundale/rundaleref1.Link -/
def c130 : Fu := ⟨17, [.t 4],
  (.sq (.rg [⟨(some 2), none, .bx 24 (.t 0)⟩,
    ⟨(some 4), none, .mv (.c (.int .i64 0))⟩])
  (.sq (.rg [⟨(some 5), none, .ld (.t 2) 6 true⟩,
    ⟨(some 6), none, .fa (.t 2) 0⟩,
    ⟨(some 7), none, .ld (.t 6) 1 false⟩,
    ⟨(some 8), none, .ib .add (.c (.int .i64 3)) (.t 7)⟩,
    ⟨(some 9), none, .fa (.t 2) 3⟩,
    ⟨(some 10), none, .ld (.t 9) 1 false⟩,
    ⟨(some 11), none, .ib .mul (.c (.int .i64 2)) (.t 10)⟩,
    ⟨(some 12), none, .ib .add (.t 8) (.t 11)⟩,
    ⟨(some 13), none, .fa (.t 2) 1⟩,
    ⟨(some 14), none, .ld (.t 13) 1 false⟩,
    ⟨(some 15), none, .mv (.t 1)⟩,
    ⟨(some 16), none, .ca 109 [(.t 5), (.t 12), (.t 14), (.t 15)]⟩,
    ⟨(some 4), none, .mv (.t 16)⟩])
  .rt))⟩
theorem k130 : cF Tryz.prog Tryz.f130 = some c130 := by kernel_rfl
/-- (*rundale/rundaleref5.Stack).Fill -/
def c131 : Fu := ⟨75, [],
  (.sq (.rg [⟨(some 6), none, .bd [(.int .i64 0), (.int .i64 0)] [(0, 1, (.c (.int .i64 0)))]⟩,
    ⟨(some 7), none, .ca 169 [(.t 6)]⟩,
    ⟨(some 5), none, .mv (.t 7)⟩,
    ⟨(some 8), none, .ex (.t 5) 0⟩,
    ⟨(some 9), none, .ex (.t 5) 1⟩,
    ⟨(some 2), none, .mv (.t 8)⟩,
    ⟨(some 3), none, .mv (.t 9)⟩])
  (.sq (.rd [⟨0, 0, [0], ⟨(some 10), none, .mv (.t 0)⟩⟩,
    ⟨1, 1, [10], ⟨(some 11), none, .nc (.t 10)⟩⟩,
    ⟨2, 3, [11], ⟨(some 12), none, .fa (.t 11) 0⟩⟩,
    ⟨3, 7, [12], ⟨(some 13), none, .ld (.t 12) 1 false⟩⟩,
    ⟨4, 15, [13], ⟨(some 14), none, .nc (.t 13)⟩⟩,
    ⟨5, 31, [14], ⟨(some 15), none, .fa (.t 14) 0⟩⟩,
    ⟨6, 63, [15], ⟨(some 16), none, .ld (.t 15) 1 false⟩⟩,
    ⟨7, 0, [0], ⟨(some 17), none, .mv (.t 0)⟩⟩,
    ⟨8, 128, [17], ⟨(some 18), none, .nc (.t 17)⟩⟩,
    ⟨9, 384, [18], ⟨(some 19), none, .fa (.t 18) 1⟩⟩,
    ⟨10, 896, [19], ⟨(some 20), none, .ld (.t 19) 1 false⟩⟩,
    ⟨11, 0, [2], ⟨(some 21), none, .mv (.t 2)⟩⟩,
    ⟨12, 4095, [16, 20], ⟨(some 22), none, .ia (.t 16) (.t 20) 1⟩⟩,
    ⟨13, 8191, [22, 21], ⟨none, none, .st (.t 22) (.t 21) 1⟩⟩])
  (.sq (.rg [⟨(some 4), none, .mv (.c (.int .i64 0))⟩])
  (.bl 0
  (.lp
  (.sq (.sq (.rg [⟨(some 23), none, .mv (.t 4)⟩,
    ⟨(some 24), none, .mv (.t 0)⟩,
    ⟨(some 25), none, .nc (.t 24)⟩,
    ⟨(some 26), none, .fa (.t 25) 3⟩,
    ⟨(some 27), none, .ld (.t 26) 1 false⟩,
    ⟨(some 28), none, .ib .lss (.t 23) (.t 27)⟩])
  (.cd (.t 28)
  .sk
  (.ex 0)))
  (.sq (.bl 1
  (.sq (.rd [⟨0, 0, [0], ⟨(some 31), none, .mv (.t 0)⟩⟩,
    ⟨1, 1, [31], ⟨(some 32), none, .nc (.t 31)⟩⟩,
    ⟨2, 3, [32], ⟨(some 33), none, .fa (.t 32) 0⟩⟩,
    ⟨3, 7, [33], ⟨(some 34), none, .ld (.t 33) 1 false⟩⟩,
    ⟨4, 15, [34], ⟨(some 35), none, .nc (.t 34)⟩⟩,
    ⟨5, 31, [35], ⟨(some 36), none, .fa (.t 35) 0⟩⟩,
    ⟨6, 63, [36], ⟨(some 37), none, .ld (.t 36) 1 false⟩⟩,
    ⟨7, 0, [0], ⟨(some 38), none, .mv (.t 0)⟩⟩,
    ⟨8, 128, [38], ⟨(some 39), none, .nc (.t 38)⟩⟩,
    ⟨9, 384, [39], ⟨(some 40), none, .fa (.t 39) 2⟩⟩,
    ⟨10, 896, [40], ⟨(some 41), none, .ld (.t 40) 1 false⟩⟩,
    ⟨11, 0, [4], ⟨(some 42), none, .mv (.t 4)⟩⟩,
    ⟨12, 3968, [41, 42], ⟨(some 43), none, .ib .add (.t 41) (.t 42)⟩⟩,
    ⟨13, 0, [4], ⟨(some 44), none, .mv (.t 4)⟩⟩,
    ⟨14, 8192, [44], ⟨(some 45), none, .ib .add (.t 44) (.c (.int .i64 2))⟩⟩,
    ⟨15, 0, [0], ⟨(some 46), none, .mv (.t 0)⟩⟩,
    ⟨16, 32768, [46], ⟨(some 47), none, .nc (.t 46)⟩⟩,
    ⟨17, 98304, [47], ⟨(some 48), none, .fa (.t 47) 3⟩⟩,
    ⟨18, 229376, [48], ⟨(some 49), none, .ld (.t 48) 1 false⟩⟩,
    ⟨19, 491520, [49], ⟨(some 50), none, .ib .add (.t 49) (.c (.int .i64 1))⟩⟩,
    ⟨20, 1040384, [45, 50], ⟨(some 51), none, .ib .rem (.t 45) (.t 50)⟩⟩,
    ⟨21, 2088960, [51], ⟨(some 52), none, .cv .u64 (.t 51)⟩⟩,
    ⟨22, 4194303, [37, 43], ⟨(some 53), none, .ia (.t 37) (.t 43) 1⟩⟩,
    ⟨23, 8388607, [53, 52], ⟨none, none, .st (.t 53) (.t 52) 1⟩⟩])
  (.sq (.rg [⟨(some 54), none, .mv (.t 4)⟩,
    ⟨(some 55), none, .mv (.t 0)⟩,
    ⟨(some 56), none, .nc (.t 55)⟩,
    ⟨(some 57), none, .fa (.t 56) 3⟩,
    ⟨(some 58), none, .ld (.t 57) 1 false⟩,
    ⟨(some 59), none, .ib .sub (.t 58) (.c (.int .i64 1))⟩,
    ⟨(some 60), none, .ib .eql (.t 54) (.t 59)⟩])
  (.cd (.t 60)
  (.rd [⟨0, 0, [0], ⟨(some 61), none, .mv (.t 0)⟩⟩,
    ⟨1, 1, [61], ⟨(some 62), none, .nc (.t 61)⟩⟩,
    ⟨2, 3, [62], ⟨(some 63), none, .fa (.t 62) 0⟩⟩,
    ⟨3, 7, [63], ⟨(some 64), none, .ld (.t 63) 1 false⟩⟩,
    ⟨4, 15, [64], ⟨(some 65), none, .nc (.t 64)⟩⟩,
    ⟨5, 31, [65], ⟨(some 66), none, .fa (.t 65) 0⟩⟩,
    ⟨6, 63, [66], ⟨(some 67), none, .ld (.t 66) 1 false⟩⟩,
    ⟨7, 0, [0], ⟨(some 68), none, .mv (.t 0)⟩⟩,
    ⟨8, 128, [68], ⟨(some 69), none, .nc (.t 68)⟩⟩,
    ⟨9, 384, [69], ⟨(some 70), none, .fa (.t 69) 2⟩⟩,
    ⟨10, 896, [70], ⟨(some 71), none, .ld (.t 70) 1 false⟩⟩,
    ⟨11, 0, [4], ⟨(some 72), none, .mv (.t 4)⟩⟩,
    ⟨12, 3968, [71, 72], ⟨(some 73), none, .ib .add (.t 71) (.t 72)⟩⟩,
    ⟨13, 8191, [67, 73], ⟨(some 74), none, .ia (.t 67) (.t 73) 1⟩⟩,
    ⟨14, 16383, [74], ⟨none, none, .st (.t 74) (.c (.int .u64 0)) 1⟩⟩])
  .sk))))
  (.rg [⟨(some 29), none, .mv (.t 4)⟩,
    ⟨(some 30), none, .ib .add (.t 29) (.c (.int .i64 1))⟩,
    ⟨(some 4), none, .mv (.t 30)⟩]))))))))⟩
theorem k131 : cF Tryz.prog Tryz.f131 = some c131 := by kernel_rfl
/-- rundale/rundaleref5.NewStash -/
def c132 : Fu := ⟨8, [.t 2],
  (.sq (.rg [⟨(some 2), none, .mv (.c (.pointer none))⟩])
  (.sq (.rg [⟨(some 3), none, .mv (.t 0)⟩,
    ⟨(some 4), none, .mm true (.t 3) (.c (.int .i64 0))⟩,
    ⟨(some 5), none, .mm false (.t 4) (.c (.int .i64 64))⟩,
    ⟨(some 6), none, .bd [(.int .i64 0), (.slice none 0 0)] [(0, 1, (.t 5))]⟩,
    ⟨(some 7), none, .bx 154 (.t 6)⟩,
    ⟨(some 2), none, .mv (.t 7)⟩])
  .rt))⟩
theorem k132 : cF Tryz.prog Tryz.f132 = some c132 := by kernel_rfl
/-- rundale/rundaleref5.NewLimbo -/
def c133 : Fu := ⟨3, [.t 0],
  (.sq (.rg [⟨(some 0), none, .mv (.c (.pointer none))⟩])
  (.sq (.rg [⟨(some 1), none, .bd [(.int .i64 0), (.int .i64 0), (.int .i64 0), (.slice none 0 0), (.slice none 0 0), (.slice none 0 0), (.int .i64 0)] [(6, 1, (.c (.int .i64 (-1))))]⟩,
    ⟨(some 2), none, .bx 181 (.t 1)⟩,
    ⟨(some 0), none, .mv (.t 2)⟩])
  .rt))⟩
theorem k133 : cF Tryz.prog Tryz.f133 = some c133 := by kernel_rfl
/-- slices.Clone[[]int,int] -/
def c134 : Fu := ⟨8, [.t 2],
  (.sq (.rg [⟨(some 2), none, .mv (.c (.slice none 0 0))⟩])
  (.sq (.sq (.rg [⟨(some 3), none, .mv (.t 0)⟩,
    ⟨(some 4), none, .en 1 false (.t 3) (.c (.slice none 0 0))⟩])
  (.cd (.t 4)
  (.sq (.rg [⟨(some 2), none, .mv (.c (.slice none 0 0))⟩])
  .rt)
  .sk))
  (.sq (.rg [⟨(some 5), none, .bs 3 0 [] []⟩,
    ⟨(some 6), none, .mv (.t 0)⟩,
    ⟨(some 7), none, .ap 49 3 1 8 [(.int .i64 0)] (.t 5) (.t 6)⟩,
    ⟨(some 2), none, .mv (.t 7)⟩])
  .rt)))⟩
theorem k134 : cF Tryz.prog Tryz.f134 = some c134 := by kernel_rfl
/-- (*rundale/stack.Stack).Push -/
def c135 : Fu := ⟨58, [.t 4, .t 5],
  (.sq (.rg [⟨(some 4), none, .mv (.c (.pointer none))⟩,
    ⟨(some 5), none, .mv (.c (.int .i64 0))⟩])
  (.sq (.sq (.rg [⟨(some 9), none, .mv (.t 1)⟩,
    ⟨(some 10), none, .len (.t 9)⟩,
    ⟨(some 11), none, .mv (.c (.int .i64 0))⟩])
  (.bl 0
  (.lp
  (.sq (.rg [⟨(some 12), none, .ib .lss (.t 11) (.t 10)⟩])
  (.sq (.cd (.t 12)
  .sk
  (.ex 0))
  (.sq (.bl 1
  (.sq (.rg [⟨(some 13), none, .mv (.t 11)⟩,
    ⟨(some 14), none, .ia (.t 9) (.t 11) 1⟩,
    ⟨(some 15), none, .ld (.t 14) 1 false⟩,
    ⟨(some 6), none, .mv (.t 13)⟩,
    ⟨(some 7), none, .mv (.t 15)⟩])
  (.sq (.rg [⟨(some 16), none, .mv (.t 7)⟩,
    ⟨(some 17), none, .ib .lss (.t 16) (.c (.int .i64 0))⟩,
    ⟨(some 18), none, .mv (.t 17)⟩,
    ⟨(some 19), (some (18, false)), .mv (.t 7)⟩,
    ⟨(some 20), (some (18, false)), .mv (.t 0)⟩,
    ⟨(some 21), (some (18, false)), .nc (.t 20)⟩,
    ⟨(some 22), (some (18, false)), .fa (.t 21) 3⟩,
    ⟨(some 23), (some (18, false)), .ld (.t 22) 1 false⟩,
    ⟨(some 24), (some (18, false)), .ib .geq (.t 19) (.t 23)⟩,
    ⟨(some 25), none, .pk (.t 18) (.c (.bool true)) (.t 24)⟩,
    ⟨(some 26), none, .mv (.t 25)⟩,
    ⟨(some 27), (some (26, false)), .mv (.t 1)⟩,
    ⟨(some 28), (some (26, false)), .mv (.t 6)⟩,
    ⟨(some 29), (some (26, false)), .sl 1 (.t 27) none (some (.t 28)) none⟩,
    ⟨(some 30), (some (26, false)), .mv (.t 7)⟩,
    ⟨(some 31), (some (26, false)), .ca 170 [(.t 29), (.t 30)]⟩,
    ⟨(some 32), none, .pk (.t 26) (.c (.bool true)) (.t 31)⟩])
  (.cd (.t 32)
  (.sq (.rg [⟨(some 4), none, .mv (.c (.pointer none))⟩,
    ⟨(some 5), none, .mv (.c (.int .i64 1))⟩])
  .rt)
  .sk))))
  (.rg [⟨(some 33), none, .ib .add (.t 11) (.c (.int .i64 1))⟩,
    ⟨(some 11), none, .mv (.t 33)⟩])))))))
  (.sq (.rg [⟨(some 34), none, .mv (.t 0)⟩,
    ⟨(some 35), none, .mv (.t 1)⟩,
    ⟨(some 36), none, .ca 134 [(.t 35)]⟩,
    ⟨(some 37), none, .bd [.nilFunc, .nilFunc, .nilFunc, .nilFunc, (.int .i64 0), (.pointer none), (.slice none 0 0), (.int .i64 0), (.int .u64 0)] [(5, 1, (.t 34)), (6, 1, (.t 36))]⟩,
    ⟨(some 38), none, .bx 239 (.t 37)⟩,
    ⟨(some 8), none, .mv (.t 38)⟩])
  (.sq (.sq (.rg [⟨(some 39), none, .mv (.t 1)⟩,
    ⟨(some 40), none, .len (.t 39)⟩])
  (.bl 2
  (.sq (.rg [⟨(some 48), none, .ib .eql (.t 40) (.c (.int .i64 0))⟩,
    ⟨(some 47), none, .mv (.t 48)⟩])
  (.cd (.t 47)
  .sk
  (.sq (.rg [⟨(some 50), none, .ib .eql (.t 40) (.c (.int .i64 1))⟩,
    ⟨(some 49), none, .mv (.t 50)⟩])
  (.cd (.t 49)
  (.rg [⟨(some 51), none, .mv (.t 8)⟩,
    ⟨(some 52), none, .nc (.t 51)⟩,
    ⟨(some 53), none, .fa (.t 52) 0⟩,
    ⟨(some 54), none, .mv (.t 8)⟩,
    ⟨(some 55), none, .mf (.func 171) [(.t 54)] []⟩,
    ⟨(some 56), none, .ca 114 [(.t 53), (.t 55)]⟩])
  (.rg [⟨(some 41), none, .mv (.t 8)⟩,
    ⟨(some 42), none, .nc (.t 41)⟩,
    ⟨(some 43), none, .fa (.t 42) 0⟩,
    ⟨(some 44), none, .mv (.t 8)⟩,
    ⟨(some 45), none, .mf (.func 172) [(.t 44)] []⟩,
    ⟨(some 46), none, .ca 114 [(.t 43), (.t 45)]⟩])))))))
  (.sq (.rg [⟨(some 57), none, .mv (.t 8)⟩,
    ⟨(some 4), none, .mv (.t 57)⟩,
    ⟨(some 5), none, .mv (.c (.int .i64 0))⟩])
  .rt)))))⟩
theorem k135 : cF Tryz.prog Tryz.f135 = some c135 := by kernel_rfl
/-- (*rundale/stack.Push).Step -/
def c136 : Fu := ⟨7, [.t 2],
  (.sq (.rg [⟨(some 2), none, .mv (.c (.bool false))⟩])
  (.sq (.rg [⟨(some 3), none, .mv (.t 0)⟩,
    ⟨(some 4), none, .nc (.t 3)⟩,
    ⟨(some 5), none, .fa (.t 4) 0⟩,
    ⟨(some 6), none, .ca 93 [(.t 5)]⟩,
    ⟨(some 2), none, .mv (.t 6)⟩])
  .rt))⟩
theorem k136 : cF Tryz.prog Tryz.f136 = some c136 := by kernel_rfl
/-- (*rundale/stack.Push).Done -/
def c137 : Fu := ⟨7, [.t 2],
  (.sq (.rg [⟨(some 2), none, .mv (.c (.bool false))⟩])
  (.sq (.rg [⟨(some 3), none, .mv (.t 0)⟩,
    ⟨(some 4), none, .nc (.t 3)⟩,
    ⟨(some 5), none, .fa (.t 4) 0⟩,
    ⟨(some 6), none, .ca 97 [(.t 5)]⟩,
    ⟨(some 2), none, .mv (.t 6)⟩])
  .rt))⟩
theorem k137 : cF Tryz.prog Tryz.f137 = some c137 := by kernel_rfl
/-- (*rundale/supply.Give).end -/
def c138 : Fu := ⟨2, [],
  .sk⟩
theorem k138 : cF Tryz.prog Tryz.f138 = some c138 := by kernel_rfl
/-- (*rundale/stash.Stash).cut -/
def c139 : Fu := ⟨24, [.t 4],
  (.sq (.rg [⟨(some 4), none, .mv (.c (.slice none 0 0))⟩])
  (.sq (.rg [⟨(some 6), none, .mv (.t 0)⟩,
    ⟨(some 7), none, .nc (.t 6)⟩,
    ⟨(some 8), none, .fa (.t 7) 1⟩,
    ⟨(some 9), none, .ld (.t 8) 1 false⟩,
    ⟨(some 10), none, .mv (.t 1)⟩,
    ⟨(some 11), none, .sl 1 (.t 9) none (some (.t 10)) none⟩,
    ⟨(some 12), none, .ca 134 [(.t 11)]⟩,
    ⟨(some 5), none, .mv (.t 12)⟩])
  (.sq (.rg [⟨(some 13), none, .mv (.t 0)⟩,
    ⟨(some 14), none, .mv (.t 0)⟩,
    ⟨(some 15), none, .nc (.t 14)⟩,
    ⟨(some 16), none, .fa (.t 15) 1⟩,
    ⟨(some 17), none, .ld (.t 16) 1 false⟩,
    ⟨(some 18), none, .mv (.t 1)⟩,
    ⟨(some 19), none, .sl 1 (.t 17) (some (.t 18)) none none⟩,
    ⟨(some 20), none, .ca 134 [(.t 19)]⟩,
    ⟨(some 21), none, .nc (.t 13)⟩,
    ⟨(some 22), none, .fa (.t 21) 1⟩,
    ⟨none, none, .st (.t 22) (.t 20) 1⟩])
  (.sq (.rg [⟨(some 23), none, .mv (.t 5)⟩,
    ⟨(some 4), none, .mv (.t 23)⟩])
  .rt))))⟩
theorem k139 : cF Tryz.prog Tryz.f139 = some c139 := by kernel_rfl
/-- rundale/word.GetHead -/
def c140 : Fu := ⟨11, [.c 2 2 true],
  (.sq (.rg [⟨(some 2), none, .al 212 [(.int .i64 0), (.int .i64 0)]⟩])
  (.sq (.rg [⟨(some 3), none, .mv (.t 0)⟩,
    ⟨(some 4), none, .ca 173 [(.t 3), (.c (.int .i64 0)), (.c (.int .i64 32))]⟩,
    ⟨(some 5), none, .cv .i64 (.t 4)⟩,
    ⟨(some 6), none, .ib .sub (.t 5) (.c (.int .i64 1))⟩,
    ⟨(some 7), none, .mv (.t 0)⟩,
    ⟨(some 8), none, .ca 173 [(.t 7), (.c (.int .i64 32)), (.c (.int .i64 32))]⟩,
    ⟨(some 9), none, .cv .i64 (.t 8)⟩,
    ⟨(some 10), none, .bd [(.int .i64 0), (.int .i64 0)] [(0, 1, (.t 6)), (1, 1, (.t 9))]⟩,
    ⟨none, none, .st (.t 2) (.t 10) 2⟩])
  .rt))⟩
theorem k140 : cF Tryz.prog Tryz.f140 = some c140 := by kernel_rfl
/-- (*rundale/rundaleref11.Take).kept -/
def c141 : Fu := ⟨23, [],
  (.sq (.rg [⟨(some 5), none, .mv (.t 0)⟩,
    ⟨(some 6), none, .nc (.t 5)⟩,
    ⟨(some 7), none, .fa (.t 6) 0⟩,
    ⟨(some 8), none, .ld (.t 7) 1 false⟩,
    ⟨(some 9), none, .nc (.t 8)⟩,
    ⟨(some 10), none, .fa (.t 9) 1⟩,
    ⟨(some 11), none, .ld (.t 10) 1 false⟩,
    ⟨(some 12), none, .ca 174 [(.t 11)]⟩,
    ⟨(some 4), none, .mv (.t 12)⟩,
    ⟨(some 13), none, .ex (.t 4) 0⟩,
    ⟨(some 14), none, .ex (.t 4) 1⟩,
    ⟨(some 2), none, .mv (.t 13)⟩,
    ⟨(some 3), none, .mv (.t 14)⟩])
  (.sq (.rg [⟨(some 15), none, .mv (.t 3)⟩])
  (.cd (.t 15)
  (.rg [⟨(some 16), none, .mv (.t 0)⟩,
    ⟨(some 17), none, .mv (.t 0)⟩,
    ⟨(some 18), none, .mv (.t 2)⟩,
    ⟨(some 19), none, .nc (.t 16)⟩,
    ⟨(some 20), none, .fa (.t 19) 2⟩,
    ⟨none, none, .st (.t 20) (.t 18) 1⟩,
    ⟨(some 21), none, .nc (.t 17)⟩,
    ⟨(some 22), none, .fa (.t 21) 5⟩,
    ⟨none, none, .st (.t 22) (.c (.bool true)) 1⟩])
  .sk)))⟩
theorem k141 : cF Tryz.prog Tryz.f141 = some c141 := by kernel_rfl
/-- (*rundale/rundaleref11.Take).pop -/
def c142 : Fu := ⟨30, [],
  (.rd [⟨0, 0, [0], ⟨(some 2), none, .mv (.t 0)⟩⟩,
    ⟨1, 0, [0], ⟨(some 3), none, .mv (.t 0)⟩⟩,
    ⟨2, 0, [0], ⟨(some 4), none, .mv (.t 0)⟩⟩,
    ⟨3, 4, [4], ⟨(some 5), none, .nc (.t 4)⟩⟩,
    ⟨4, 12, [5], ⟨(some 6), none, .fa (.t 5) 0⟩⟩,
    ⟨5, 28, [6], ⟨(some 7), none, .ld (.t 6) 1 false⟩⟩,
    ⟨6, 60, [7], ⟨(some 8), none, .nc (.t 7)⟩⟩,
    ⟨7, 124, [8], ⟨(some 9), none, .fa (.t 8) 0⟩⟩,
    ⟨8, 252, [9], ⟨(some 10), none, .ld (.t 9) 1 false⟩⟩,
    ⟨9, 508, [10], ⟨(some 11), none, .nc (.t 10)⟩⟩,
    ⟨10, 1020, [11], ⟨(some 12), none, .fa (.t 11) 7⟩⟩,
    ⟨11, 2044, [12], ⟨(some 13), none, .ld (.t 12) 1 false⟩⟩,
    ⟨12, 0, [0], ⟨(some 14), none, .mv (.t 0)⟩⟩,
    ⟨13, 4096, [14], ⟨(some 15), none, .nc (.t 14)⟩⟩,
    ⟨14, 12288, [15], ⟨(some 16), none, .fa (.t 15) 0⟩⟩,
    ⟨15, 28672, [16], ⟨(some 17), none, .ld (.t 16) 1 false⟩⟩,
    ⟨16, 61440, [17], ⟨(some 18), none, .nc (.t 17)⟩⟩,
    ⟨17, 126976, [18], ⟨(some 19), none, .fa (.t 18) 0⟩⟩,
    ⟨18, 258048, [19], ⟨(some 20), none, .ld (.t 19) 1 false⟩⟩,
    ⟨19, 520192, [20], ⟨(some 21), none, .nc (.t 20)⟩⟩,
    ⟨20, 1044480, [21], ⟨(some 22), none, .fa (.t 21) 0⟩⟩,
    ⟨21, 2093056, [22], ⟨(some 23), none, .fa (.t 22) 5⟩⟩,
    ⟨22, 4190208, [23], ⟨(some 24), none, .ld (.t 23) 1 false⟩⟩,
    ⟨23, 8388604, [13, 24], ⟨(some 25), none, .ca 175 [(.t 13), (.t 24)]⟩⟩,
    ⟨24, 16777213, [2], ⟨(some 26), none, .nc (.t 2)⟩⟩,
    ⟨25, 33554429, [26], ⟨(some 27), none, .fa (.t 26) 1⟩⟩,
    ⟨26, 67108861, [27], ⟨none, none, .st (.t 27) (.c (.int .i64 1)) 1⟩⟩,
    ⟨27, 134217727, [3], ⟨(some 28), none, .nc (.t 3)⟩⟩,
    ⟨28, 268435455, [28], ⟨(some 29), none, .fa (.t 28) 4⟩⟩,
    ⟨29, 536870911, [29, 25], ⟨none, none, .st (.t 29) (.t 25) 1⟩⟩])⟩
theorem k142 : cF Tryz.prog Tryz.f142 = some c142 := by kernel_rfl
/-- (*rundale/rundaleref5.Pop).Step -/
def c143 : Fu := ⟨148, [.t 2],
  (.sq (.rg [⟨(some 2), none, .mv (.c (.bool false))⟩])
  (.sq (.sq (.rg [⟨(some 5), none, .mv (.t 0)⟩,
    ⟨(some 6), none, .nc (.t 5)⟩,
    ⟨(some 7), none, .fa (.t 6) 6⟩,
    ⟨(some 8), none, .ld (.t 7) 1 false⟩])
  (.cd (.t 8)
  (.sq (.rg [⟨(some 2), none, .mv (.c (.bool false))⟩])
  .rt)
  .sk))
  (.sq (.rg [⟨(some 9), none, .mv (.t 0)⟩,
    ⟨(some 10), none, .nc (.t 9)⟩,
    ⟨(some 11), none, .fa (.t 10) 0⟩,
    ⟨(some 12), none, .ld (.t 11) 1 false⟩,
    ⟨(some 3), none, .mv (.t 12)⟩])
  (.sq (.sq (.rg [⟨(some 13), none, .mv (.t 0)⟩,
    ⟨(some 14), none, .nc (.t 13)⟩,
    ⟨(some 15), none, .fa (.t 14) 2⟩,
    ⟨(some 16), none, .ld (.t 15) 1 false⟩])
  (.bl 0
  (.sq (.rg [⟨(some 46), none, .ib .eql (.t 16) (.c (.int .i64 0))⟩,
    ⟨(some 45), none, .mv (.t 46)⟩])
  (.cd (.t 45)
  (.sq (.rd [⟨0, 0, [0], ⟨(some 47), none, .mv (.t 0)⟩⟩,
    ⟨1, 0, [3], ⟨(some 48), none, .mv (.t 3)⟩⟩,
    ⟨2, 2, [48], ⟨(some 49), none, .nc (.t 48)⟩⟩,
    ⟨3, 6, [49], ⟨(some 50), none, .fa (.t 49) 0⟩⟩,
    ⟨4, 14, [50], ⟨(some 51), none, .ld (.t 50) 1 false⟩⟩,
    ⟨5, 0, [3], ⟨(some 52), none, .mv (.t 3)⟩⟩,
    ⟨6, 32, [52], ⟨(some 53), none, .nc (.t 52)⟩⟩,
    ⟨7, 96, [53], ⟨(some 54), none, .fa (.t 53) 1⟩⟩,
    ⟨8, 224, [54], ⟨(some 55), none, .ld (.t 54) 1 false⟩⟩,
    ⟨9, 510, [51, 55], ⟨(some 56), none, .ca 96 [(.t 51), (.t 55)]⟩⟩,
    ⟨10, 1023, [47], ⟨(some 57), none, .nc (.t 47)⟩⟩,
    ⟨11, 2047, [57], ⟨(some 58), none, .fa (.t 57) 4⟩⟩,
    ⟨12, 4095, [58, 56], ⟨none, none, .st (.t 58) (.t 56) 1⟩⟩])
  (.sq (.rg [⟨(some 59), none, .mv (.t 0)⟩,
    ⟨(some 60), none, .nc (.t 59)⟩,
    ⟨(some 61), none, .fa (.t 60) 5⟩,
    ⟨none, none, .st (.t 61) (.c (.slice none 0 0)) 1⟩])
  (.sq (.rg [⟨(some 62), none, .mv (.t 3)⟩,
    ⟨(some 63), none, .mv (.t 0)⟩,
    ⟨(some 64), none, .nc (.t 63)⟩,
    ⟨(some 65), none, .fa (.t 64) 4⟩,
    ⟨(some 66), none, .ld (.t 65) 1 false⟩,
    ⟨(some 67), none, .ca 90 [(.t 62), (.t 66)]⟩,
    ⟨(some 4), none, .mv (.t 67)⟩])
  (.sq (.rg [⟨(some 68), none, .mv (.t 4)⟩,
    ⟨(some 69), none, .ib .lss (.t 68) (.c (.int .i64 0))⟩])
  (.cd (.t 69)
  (.rg [⟨(some 70), none, .mv (.t 0)⟩,
    ⟨(some 71), none, .nc (.t 70)⟩,
    ⟨(some 72), none, .fa (.t 71) 6⟩,
    ⟨none, none, .st (.t 72) (.c (.bool true)) 1⟩])
  (.rg [⟨(some 73), none, .mv (.t 0)⟩,
    ⟨(some 74), none, .mv (.t 0)⟩,
    ⟨(some 75), none, .mv (.t 0)⟩,
    ⟨(some 76), none, .nc (.t 75)⟩,
    ⟨(some 77), none, .fa (.t 76) 5⟩,
    ⟨(some 78), none, .ld (.t 77) 1 false⟩,
    ⟨(some 79), none, .mv (.t 4)⟩,
    ⟨(some 80), none, .bs 3 1 [(.int .i64 0)] [(0, 1, (.t 79))]⟩,
    ⟨(some 81), none, .ap 49 3 1 8 [(.int .i64 0)] (.t 78) (.t 80)⟩,
    ⟨(some 82), none, .nc (.t 73)⟩,
    ⟨(some 83), none, .fa (.t 82) 5⟩,
    ⟨none, none, .st (.t 83) (.t 81) 1⟩,
    ⟨(some 84), none, .nc (.t 74)⟩,
    ⟨(some 85), none, .fa (.t 84) 2⟩,
    ⟨none, none, .st (.t 85) (.c (.int .i64 1)) 1⟩]))))))
  (.sq (.rg [⟨(some 87), none, .ib .eql (.t 16) (.c (.int .i64 1))⟩,
    ⟨(some 86), none, .mv (.t 87)⟩])
  (.cd (.t 86)
  (.sq (.rd [⟨0, 0, [0], ⟨(some 88), none, .mv (.t 0)⟩⟩,
    ⟨1, 0, [3], ⟨(some 89), none, .mv (.t 3)⟩⟩,
    ⟨2, 0, [3], ⟨(some 90), none, .mv (.t 3)⟩⟩,
    ⟨3, 4, [90], ⟨(some 91), none, .nc (.t 90)⟩⟩,
    ⟨4, 12, [91], ⟨(some 92), none, .fa (.t 91) 0⟩⟩,
    ⟨5, 28, [92], ⟨(some 93), none, .ld (.t 92) 1 false⟩⟩,
    ⟨6, 0, [3], ⟨(some 94), none, .mv (.t 3)⟩⟩,
    ⟨7, 64, [94], ⟨(some 95), none, .nc (.t 94)⟩⟩,
    ⟨8, 192, [95], ⟨(some 96), none, .fa (.t 95) 2⟩⟩,
    ⟨9, 448, [96], ⟨(some 97), none, .ld (.t 96) 1 false⟩⟩,
    ⟨10, 0, [0], ⟨(some 98), none, .mv (.t 0)⟩⟩,
    ⟨11, 1024, [98], ⟨(some 99), none, .nc (.t 98)⟩⟩,
    ⟨12, 3072, [99], ⟨(some 100), none, .fa (.t 99) 5⟩⟩,
    ⟨13, 7168, [100], ⟨(some 101), none, .ld (.t 100) 1 false⟩⟩,
    ⟨14, 0, [0], ⟨(some 102), none, .mv (.t 0)⟩⟩,
    ⟨15, 16384, [102], ⟨(some 103), none, .nc (.t 102)⟩⟩,
    ⟨16, 49152, [103], ⟨(some 104), none, .fa (.t 103) 5⟩⟩,
    ⟨17, 114688, [104], ⟨(some 105), none, .ld (.t 104) 1 false⟩⟩,
    ⟨18, 245760, [105], ⟨(some 106), none, .len (.t 105)⟩⟩,
    ⟨19, 507904, [106], ⟨(some 107), none, .ib .sub (.t 106) (.c (.int .i64 1))⟩⟩,
    ⟨20, 1047552, [101, 107], ⟨(some 108), none, .ia (.t 101) (.t 107) 1⟩⟩,
    ⟨21, 2096128, [108], ⟨(some 109), none, .ld (.t 108) 1 false⟩⟩,
    ⟨22, 4194240, [97, 109], ⟨(some 110), none, .ib .add (.t 97) (.t 109)⟩⟩,
    ⟨23, 8388604, [93, 110], ⟨(some 111), none, .ca 96 [(.t 93), (.t 110)]⟩⟩,
    ⟨24, 16777214, [89, 111], ⟨(some 112), none, .ca 91 [(.t 89), (.t 111)]⟩⟩,
    ⟨25, 33554431, [88], ⟨(some 113), none, .nc (.t 88)⟩⟩,
    ⟨26, 67108863, [113], ⟨(some 114), none, .fa (.t 113) 3⟩⟩,
    ⟨27, 134217727, [114, 112], ⟨none, none, .st (.t 114) (.t 112) 1⟩⟩])
  (.sq (.rd [⟨0, 0, [0], ⟨(some 115), none, .mv (.t 0)⟩⟩,
    ⟨1, 1, [115], ⟨(some 116), none, .nc (.t 115)⟩⟩,
    ⟨2, 3, [116], ⟨(some 117), none, .fa (.t 116) 3⟩⟩,
    ⟨3, 7, [117], ⟨(some 118), none, .ld (.t 117) 1 false⟩⟩,
    ⟨4, 15, [118], ⟨(some 119), none, .ib .geq (.t 118) (.c (.int .i64 0))⟩⟩,
    ⟨5, 31, [119], ⟨(some 120), none, .mv (.t 119)⟩⟩,
    ⟨6, 63, [0, 120], ⟨(some 121), (some (120, true)), .mv (.t 0)⟩⟩,
    ⟨7, 127, [121, 120], ⟨(some 122), (some (120, true)), .nc (.t 121)⟩⟩,
    ⟨8, 255, [122, 120], ⟨(some 123), (some (120, true)), .fa (.t 122) 5⟩⟩,
    ⟨9, 511, [123, 120], ⟨(some 124), (some (120, true)), .ld (.t 123) 1 false⟩⟩,
    ⟨10, 1023, [124, 120], ⟨(some 125), (some (120, true)), .len (.t 124)⟩⟩,
    ⟨11, 63, [0, 120], ⟨(some 126), (some (120, true)), .mv (.t 0)⟩⟩,
    ⟨12, 2111, [126, 120], ⟨(some 127), (some (120, true)), .nc (.t 126)⟩⟩,
    ⟨13, 6207, [127, 120], ⟨(some 128), (some (120, true)), .fa (.t 127) 1⟩⟩,
    ⟨14, 14399, [128, 120], ⟨(some 129), (some (120, true)), .ld (.t 128) 1 false⟩⟩,
    ⟨15, 32767, [125, 129, 120], ⟨(some 130), (some (120, true)), .ib .lss (.t 125) (.t 129)⟩⟩,
    ⟨16, 65535, [120, 130], ⟨(some 131), none, .pk (.t 120) (.t 130) (.c (.bool false))⟩⟩])
  (.cd (.t 131)
  (.rd [⟨0, 0, [0], ⟨(some 132), none, .mv (.t 0)⟩⟩,
    ⟨1, 0, [0], ⟨(some 133), none, .mv (.t 0)⟩⟩,
    ⟨2, 2, [133], ⟨(some 134), none, .nc (.t 133)⟩⟩,
    ⟨3, 6, [134], ⟨(some 135), none, .fa (.t 134) 5⟩⟩,
    ⟨4, 14, [135], ⟨(some 136), none, .ld (.t 135) 1 false⟩⟩,
    ⟨5, 0, [0], ⟨(some 137), none, .mv (.t 0)⟩⟩,
    ⟨6, 32, [137], ⟨(some 138), none, .nc (.t 137)⟩⟩,
    ⟨7, 96, [138], ⟨(some 139), none, .fa (.t 138) 3⟩⟩,
    ⟨8, 224, [139], ⟨(some 140), none, .ld (.t 139) 1 false⟩⟩,
    ⟨9, 480, [140], ⟨(some 141), none, .bs 3 1 [(.int .i64 0)] [(0, 1, (.t 140))]⟩⟩,
    ⟨10, 1022, [136, 141], ⟨(some 142), none, .ap 49 3 1 8 [(.int .i64 0)] (.t 136) (.t 141)⟩⟩,
    ⟨11, 2047, [132], ⟨(some 143), none, .nc (.t 132)⟩⟩,
    ⟨12, 4095, [143], ⟨(some 144), none, .fa (.t 143) 5⟩⟩,
    ⟨13, 8191, [144, 142], ⟨none, none, .st (.t 144) (.t 142) 1⟩⟩])
  (.rg [⟨(some 145), none, .mv (.t 0)⟩,
    ⟨(some 146), none, .nc (.t 145)⟩,
    ⟨(some 147), none, .fa (.t 146) 2⟩,
    ⟨none, none, .st (.t 147) (.c (.int .i64 2)) 1⟩]))))
  (.sq (.rd [⟨0, 0, [0], ⟨(some 17), none, .mv (.t 0)⟩⟩,
    ⟨1, 0, [3], ⟨(some 18), none, .mv (.t 3)⟩⟩,
    ⟨2, 2, [18], ⟨(some 19), none, .nc (.t 18)⟩⟩,
    ⟨3, 6, [19], ⟨(some 20), none, .fa (.t 19) 0⟩⟩,
    ⟨4, 14, [20], ⟨(some 21), none, .ld (.t 20) 1 false⟩⟩,
    ⟨5, 0, [3], ⟨(some 22), none, .mv (.t 3)⟩⟩,
    ⟨6, 32, [22], ⟨(some 23), none, .nc (.t 22)⟩⟩,
    ⟨7, 96, [23], ⟨(some 24), none, .fa (.t 23) 1⟩⟩,
    ⟨8, 224, [24], ⟨(some 25), none, .ld (.t 24) 1 false⟩⟩,
    ⟨9, 0, [0], ⟨(some 26), none, .mv (.t 0)⟩⟩,
    ⟨10, 512, [26], ⟨(some 27), none, .nc (.t 26)⟩⟩,
    ⟨11, 1536, [27], ⟨(some 28), none, .fa (.t 27) 4⟩⟩,
    ⟨12, 3584, [28], ⟨(some 29), none, .ld (.t 28) 1 false⟩⟩,
    ⟨13, 0, [0], ⟨(some 30), none, .mv (.t 0)⟩⟩,
    ⟨14, 8192, [30], ⟨(some 31), none, .nc (.t 30)⟩⟩,
    ⟨15, 24576, [31], ⟨(some 32), none, .fa (.t 31) 4⟩⟩,
    ⟨16, 57344, [32], ⟨(some 33), none, .ld (.t 32) 1 false⟩⟩,
    ⟨17, 0, [0], ⟨(some 34), none, .mv (.t 0)⟩⟩,
    ⟨18, 131072, [34], ⟨(some 35), none, .nc (.t 34)⟩⟩,
    ⟨19, 393216, [35], ⟨(some 36), none, .fa (.t 35) 3⟩⟩,
    ⟨20, 917504, [36], ⟨(some 37), none, .ld (.t 36) 1 false⟩⟩,
    ⟨21, 2088960, [33, 37], ⟨(some 38), none, .ca 176 [(.t 33), (.t 37)]⟩⟩,
    ⟨22, 4194302, [21, 25, 29, 38], ⟨(some 39), none, .ca 155 [(.t 21), (.t 25), (.t 29), (.t 38)]⟩⟩,
    ⟨23, 8388607, [17], ⟨(some 40), none, .nc (.t 17)⟩⟩,
    ⟨24, 16777215, [40], ⟨(some 41), none, .fa (.t 40) 6⟩⟩,
    ⟨25, 33554431, [41, 39], ⟨none, none, .st (.t 41) (.t 39) 1⟩⟩])
  (.rg [⟨(some 42), none, .mv (.t 0)⟩,
    ⟨(some 43), none, .nc (.t 42)⟩,
    ⟨(some 44), none, .fa (.t 43) 2⟩,
    ⟨none, none, .st (.t 44) (.c (.int .i64 0)) 1⟩]))))))))
  (.sq (.rg [⟨(some 2), none, .mv (.c (.bool true))⟩])
  .rt)))))⟩
theorem k143 : cF Tryz.prog Tryz.f143 = some c143 := by kernel_rfl
/-- (*rundale/rundaleref5.Pop).Got -/
def c144 : Fu := ⟨13, [.t 2],
  (.sq (.rg [⟨(some 2), none, .mv (.c (.slice none 0 0))⟩])
  (.sq (.sq (.rg [⟨(some 3), none, .mv (.t 0)⟩,
    ⟨(some 4), none, .nc (.t 3)⟩,
    ⟨(some 5), none, .fa (.t 4) 6⟩,
    ⟨(some 6), none, .ld (.t 5) 1 false⟩,
    ⟨(some 7), none, .nt (.t 6)⟩])
  (.cd (.t 7)
  (.sq (.rg [⟨(some 2), none, .mv (.c (.slice none 0 0))⟩])
  .rt)
  .sk))
  (.sq (.rg [⟨(some 8), none, .mv (.t 0)⟩,
    ⟨(some 9), none, .nc (.t 8)⟩,
    ⟨(some 10), none, .fa (.t 9) 5⟩,
    ⟨(some 11), none, .ld (.t 10) 1 false⟩,
    ⟨(some 12), none, .ap 49 3 1 8 [(.int .i64 0)] (.c (.slice none 0 0)) (.t 11)⟩,
    ⟨(some 2), none, .mv (.t 12)⟩])
  .rt)))⟩
theorem k144 : cF Tryz.prog Tryz.f144 = some c144 := by kernel_rfl
/-- (*rundale/supply.Give).Done -/
def c146 : Fu := ⟨7, [.t 2],
  (.sq (.rg [⟨(some 2), none, .mv (.c (.bool false))⟩])
  (.sq (.rg [⟨(some 3), none, .mv (.t 0)⟩,
    ⟨(some 4), none, .nc (.t 3)⟩,
    ⟨(some 5), none, .fa (.t 4) 0⟩,
    ⟨(some 6), none, .ca 97 [(.t 5)]⟩,
    ⟨(some 2), none, .mv (.t 6)⟩])
  .rt))⟩
theorem k146 : cF Tryz.prog Tryz.f146 = some c146 := by kernel_rfl
/-- (*rundale/rundaleref5.Limbo).Len -/
def c147 : Fu := ⟨23, [.t 2],
  (.sq (.rg [⟨(some 2), none, .mv (.c (.int .i64 0))⟩])
  (.sq (.rd [⟨0, 0, [0], ⟨(some 3), none, .mv (.t 0)⟩⟩,
    ⟨1, 1, [3], ⟨(some 4), none, .nc (.t 3)⟩⟩,
    ⟨2, 3, [4], ⟨(some 5), none, .fa (.t 4) 3⟩⟩,
    ⟨3, 7, [5], ⟨(some 6), none, .iaa (.t 5) (.c (.int .i64 0)) 3 1⟩⟩,
    ⟨4, 15, [6], ⟨(some 7), none, .ld (.t 6) 1 false⟩⟩,
    ⟨5, 31, [7], ⟨(some 8), none, .len (.t 7)⟩⟩,
    ⟨6, 0, [0], ⟨(some 9), none, .mv (.t 0)⟩⟩,
    ⟨7, 64, [9], ⟨(some 10), none, .nc (.t 9)⟩⟩,
    ⟨8, 192, [10], ⟨(some 11), none, .fa (.t 10) 3⟩⟩,
    ⟨9, 448, [11], ⟨(some 12), none, .iaa (.t 11) (.c (.int .i64 1)) 3 1⟩⟩,
    ⟨10, 960, [12], ⟨(some 13), none, .ld (.t 12) 1 false⟩⟩,
    ⟨11, 1984, [13], ⟨(some 14), none, .len (.t 13)⟩⟩,
    ⟨12, 4095, [8, 14], ⟨(some 15), none, .ib .add (.t 8) (.t 14)⟩⟩,
    ⟨13, 0, [0], ⟨(some 16), none, .mv (.t 0)⟩⟩,
    ⟨14, 8192, [16], ⟨(some 17), none, .nc (.t 16)⟩⟩,
    ⟨15, 24576, [17], ⟨(some 18), none, .fa (.t 17) 3⟩⟩,
    ⟨16, 57344, [18], ⟨(some 19), none, .iaa (.t 18) (.c (.int .i64 2)) 3 1⟩⟩,
    ⟨17, 122880, [19], ⟨(some 20), none, .ld (.t 19) 1 false⟩⟩,
    ⟨18, 253952, [20], ⟨(some 21), none, .len (.t 20)⟩⟩,
    ⟨19, 524287, [15, 21], ⟨(some 22), none, .ib .add (.t 15) (.t 21)⟩⟩,
    ⟨20, 1048575, [22], ⟨(some 2), none, .mv (.t 22)⟩⟩])
  .rt))⟩
theorem k147 : cF Tryz.prog Tryz.f147 = some c147 := by kernel_rfl
/-- (*rundale/limbo.Limbo).Ready -/
def c151 : Fu := ⟨51, [.t 4],
  (.sq (.rg [⟨(some 4), none, .mv (.c (.slice none 0 0))⟩])
  (.sq (.rg [⟨(some 5), none, .mv (.c (.slice none 0 0))⟩])
  (.sq (.bl 0
  (.lp
  (.sq (.sq (.rg [⟨(some 9), none, .mv (.t 1)⟩,
    ⟨(some 10), none, .ib .geq (.t 9) (.c (.int .i64 2))⟩])
  (.cd (.t 10)
  .sk
  (.ex 0)))
  (.bl 1
  (.sq (.rg [⟨(some 6), none, .mv (.c (.pointer none))⟩])
  (.sq (.sq (.rg [⟨(some 11), none, .mv (.c (.int .i64 0))⟩])
  (.bl 2
  (.lp
  (.sq (.rg [⟨(some 12), none, .ib .lss (.t 11) (.c (.int .i64 3))⟩])
  (.sq (.cd (.t 12)
  .sk
  (.ex 2))
  (.sq (.bl 3
  (.sq (.rg [⟨(some 13), none, .mv (.t 11)⟩,
    ⟨(some 7), none, .mv (.t 13)⟩])
  (.sq (.rg [⟨(some 14), none, .mv (.t 0)⟩,
    ⟨(some 15), none, .mv (.t 7)⟩,
    ⟨(some 16), none, .nc (.t 14)⟩,
    ⟨(some 17), none, .fa (.t 16) 0⟩,
    ⟨(some 18), none, .iaa (.t 17) (.t 15) 3 2⟩,
    ⟨(some 8), none, .mv (.t 18)⟩])
  (.sq (.rd [⟨0, 0, [8], ⟨(some 19), none, .mv (.t 8)⟩⟩,
    ⟨1, 0, [1], ⟨(some 20), none, .mv (.t 1)⟩⟩,
    ⟨2, 3, [19, 20], ⟨(some 21), none, .ca 179 [(.t 19), (.t 20)]⟩⟩,
    ⟨3, 7, [21], ⟨(some 22), none, .mv (.t 21)⟩⟩,
    ⟨4, 15, [6, 22], ⟨(some 23), (some (22, true)), .mv (.t 6)⟩⟩,
    ⟨5, 31, [23, 22], ⟨(some 24), (some (22, true)), .en 0 false (.t 23) (.c (.pointer none))⟩⟩,
    ⟨6, 63, [24, 22], ⟨(some 25), (some (22, true)), .mv (.t 24)⟩⟩,
    ⟨7, 127, [8, 25], ⟨(some 26), (some (25, false)), .mv (.t 8)⟩⟩,
    ⟨8, 255, [26, 25], ⟨(some 27), (some (25, false)), .nc (.t 26)⟩⟩,
    ⟨9, 511, [27, 25], ⟨(some 28), (some (25, false)), .fa (.t 27) 0⟩⟩,
    ⟨10, 1023, [28, 25], ⟨(some 29), (some (25, false)), .ld (.t 28) 1 false⟩⟩,
    ⟨11, 127, [6, 25], ⟨(some 30), (some (25, false)), .mv (.t 6)⟩⟩,
    ⟨12, 2175, [30, 25], ⟨(some 31), (some (25, false)), .nc (.t 30)⟩⟩,
    ⟨13, 6271, [31, 25], ⟨(some 32), (some (25, false)), .fa (.t 31) 0⟩⟩,
    ⟨14, 14463, [32, 25], ⟨(some 33), (some (25, false)), .ld (.t 32) 1 false⟩⟩,
    ⟨15, 32767, [29, 33, 25], ⟨(some 34), (some (25, false)), .ib .lss (.t 29) (.t 33)⟩⟩,
    ⟨16, 65535, [25, 34, 22], ⟨(some 35), (some (22, true)), .pk (.t 25) (.c (.bool true)) (.t 34)⟩⟩,
    ⟨17, 131071, [22, 35], ⟨(some 36), none, .pk (.t 22) (.t 35) (.c (.bool false))⟩⟩])
  (.cd (.t 36)
  (.rg [⟨(some 37), none, .mv (.t 8)⟩,
    ⟨(some 6), none, .mv (.t 37)⟩])
  .sk)))))
  (.rg [⟨(some 38), none, .ib .add (.t 11) (.c (.int .i64 1))⟩,
    ⟨(some 11), none, .mv (.t 38)⟩])))))))
  (.sq (.sq (.rg [⟨(some 39), none, .mv (.t 6)⟩,
    ⟨(some 40), none, .en 0 false (.t 39) (.c (.pointer none))⟩])
  (.cd (.t 40)
  (.ex 0)
  .sk))
  (.sq (.rg [⟨(some 41), none, .mv (.t 5)⟩,
    ⟨(some 42), none, .mv (.t 6)⟩,
    ⟨(some 43), none, .nc (.t 42)⟩,
    ⟨(some 44), none, .fa (.t 43) 1⟩,
    ⟨(some 45), none, .ld (.t 44) 1 false⟩,
    ⟨(some 46), none, .ap 49 3 1 8 [(.int .i64 0)] (.t 41) (.t 45)⟩,
    ⟨(some 5), none, .mv (.t 46)⟩])
  (.rg [⟨(some 47), none, .mv (.t 6)⟩,
    ⟨(some 48), none, .bd [(.int .i64 0), (.slice none 0 0)] []⟩,
    ⟨(some 49), none, .nc (.t 47)⟩,
    ⟨none, none, .st (.t 49) (.t 48) 2⟩])))))))))
  (.sq (.rg [⟨(some 50), none, .mv (.t 5)⟩,
    ⟨(some 4), none, .mv (.t 50)⟩])
  .rt))))⟩
theorem k151 : cF Tryz.prog Tryz.f151 = some c151 := by kernel_rfl
/-- (*rundale/rundaleref5.Limbo).Ready -/
def c152 : Fu := ⟨27, [.t 4],
  (.sq (.rg [⟨(some 4), none, .mv (.c (.slice none 0 0))⟩])
  (.sq (.rg [⟨(some 5), none, .mv (.c (.slice none 0 0))⟩])
  (.sq (.bl 0
  (.lp
  (.sq (.sq (.rg [⟨(some 7), none, .mv (.t 0)⟩,
    ⟨(some 8), none, .mv (.t 1)⟩,
    ⟨(some 9), none, .ca 180 [(.t 7), (.t 8)]⟩])
  (.cd (.t 9)
  .sk
  (.ex 0)))
  (.bl 1
  (.sq (.rg [⟨(some 10), none, .mv (.t 0)⟩,
    ⟨(some 11), none, .mv (.t 1)⟩,
    ⟨(some 12), none, .ca 181 [(.t 10), (.t 11)]⟩,
    ⟨(some 6), none, .mv (.t 12)⟩])
  (.sq (.rg [⟨(some 13), none, .mv (.t 5)⟩,
    ⟨(some 14), none, .mv (.t 0)⟩,
    ⟨(some 15), none, .mv (.t 6)⟩,
    ⟨(some 16), none, .nc (.t 14)⟩,
    ⟨(some 17), none, .fa (.t 16) 3⟩,
    ⟨(some 18), none, .iaa (.t 17) (.t 15) 3 1⟩,
    ⟨(some 19), none, .ld (.t 18) 1 false⟩,
    ⟨(some 20), none, .ap 49 3 1 8 [(.int .i64 0)] (.t 13) (.t 19)⟩,
    ⟨(some 5), none, .mv (.t 20)⟩])
  (.rg [⟨(some 21), none, .mv (.t 0)⟩,
    ⟨(some 22), none, .mv (.t 6)⟩,
    ⟨(some 23), none, .nc (.t 21)⟩,
    ⟨(some 24), none, .fa (.t 23) 3⟩,
    ⟨(some 25), none, .iaa (.t 24) (.t 22) 3 1⟩,
    ⟨none, none, .st (.t 25) (.c (.slice none 0 0)) 1⟩])))))))
  (.sq (.rg [⟨(some 26), none, .mv (.t 5)⟩,
    ⟨(some 4), none, .mv (.t 26)⟩])
  .rt))))⟩
theorem k152 : cF Tryz.prog Tryz.f152 = some c152 := by kernel_rfl
/-- rundale/rundaleref1.GetHead -/
def c153 : Fu := ⟨11, [.c 2 2 true],
  (.sq (.rg [⟨(some 2), none, .al 219 [(.int .i64 0), (.int .i64 0)]⟩])
  (.sq (.rg [⟨(some 3), none, .mv (.t 0)⟩,
    ⟨(some 4), none, .ib .rem (.t 3) (.c (.int .u64 4294967296))⟩,
    ⟨(some 5), none, .cv .i64 (.t 4)⟩,
    ⟨(some 6), none, .ib .sub (.t 5) (.c (.int .i64 1))⟩,
    ⟨(some 7), none, .mv (.t 0)⟩,
    ⟨(some 8), none, .ib .quo (.t 7) (.c (.int .u64 4294967296))⟩,
    ⟨(some 9), none, .cv .i64 (.t 8)⟩,
    ⟨(some 10), none, .bd [(.int .i64 0), (.int .i64 0)] [(0, 1, (.t 6)), (1, 1, (.t 9))]⟩,
    ⟨none, none, .st (.t 2) (.t 10) 2⟩])
  .rt))⟩
theorem k153 : cF Tryz.prog Tryz.f153 = some c153 := by kernel_rfl
/-- (*rundale/rundaleref5.M).Cas -/
def c155 : Fu := ⟨32, [.t 8],
  (.sq (.rg [⟨(some 8), none, .mv (.c (.bool false))⟩])
  (.sq (.rg [⟨(some 9), none, .mv (.t 0)⟩,
    ⟨(some 10), none, .nc (.t 9)⟩,
    ⟨(some 11), none, .fa (.t 10) 1⟩,
    ⟨(some 12), none, .ld (.t 11) 1 false⟩,
    ⟨(some 13), none, .ib .add (.t 12) (.c (.int .i64 1))⟩,
    ⟨(some 14), none, .nc (.t 9)⟩,
    ⟨(some 15), none, .fa (.t 14) 1⟩,
    ⟨none, none, .st (.t 15) (.t 13) 1⟩])
  (.sq (.sq (.rg [⟨(some 16), none, .mv (.t 0)⟩,
    ⟨(some 17), none, .nc (.t 16)⟩,
    ⟨(some 18), none, .fa (.t 17) 0⟩,
    ⟨(some 19), none, .ld (.t 18) 1 false⟩,
    ⟨(some 20), none, .mv (.t 1)⟩,
    ⟨(some 21), none, .ia (.t 19) (.t 20) 1⟩,
    ⟨(some 22), none, .ld (.t 21) 1 false⟩,
    ⟨(some 23), none, .mv (.t 2)⟩,
    ⟨(some 24), none, .ib .neq (.t 22) (.t 23)⟩])
  (.cd (.t 24)
  (.sq (.rg [⟨(some 8), none, .mv (.c (.bool false))⟩])
  .rt)
  .sk))
  (.sq (.rg [⟨(some 25), none, .mv (.t 0)⟩,
    ⟨(some 26), none, .nc (.t 25)⟩,
    ⟨(some 27), none, .fa (.t 26) 0⟩,
    ⟨(some 28), none, .ld (.t 27) 1 false⟩,
    ⟨(some 29), none, .mv (.t 1)⟩,
    ⟨(some 30), none, .mv (.t 3)⟩,
    ⟨(some 31), none, .ia (.t 28) (.t 29) 1⟩,
    ⟨none, none, .st (.t 31) (.t 30) 1⟩])
  (.sq (.rg [⟨(some 8), none, .mv (.c (.bool true))⟩])
  .rt)))))⟩
theorem k155 : cF Tryz.prog Tryz.f155 = some c155 := by kernel_rfl
/-- (*rundale/epoch.Advance).load -/
def c156 : Fu := ⟨29, [],
  (.sq (.rd [⟨0, 0, [0], ⟨(some 3), none, .mv (.t 0)⟩⟩,
    ⟨1, 0, [0], ⟨(some 4), none, .mv (.t 0)⟩⟩,
    ⟨2, 2, [4], ⟨(some 5), none, .nc (.t 4)⟩⟩,
    ⟨3, 6, [5], ⟨(some 6), none, .fa (.t 5) 5⟩⟩,
    ⟨4, 14, [6], ⟨(some 7), none, .ld (.t 6) 1 false⟩⟩,
    ⟨5, 30, [7], ⟨(some 8), none, .nc (.t 7)⟩⟩,
    ⟨6, 62, [8], ⟨(some 9), none, .fa (.t 8) 0⟩⟩,
    ⟨7, 126, [9], ⟨(some 10), none, .ld (.t 9) 1 false⟩⟩,
    ⟨8, 0, [0], ⟨(some 11), none, .mv (.t 0)⟩⟩,
    ⟨9, 256, [11], ⟨(some 12), none, .nc (.t 11)⟩⟩,
    ⟨10, 768, [12], ⟨(some 13), none, .fa (.t 12) 5⟩⟩,
    ⟨11, 1792, [13], ⟨(some 14), none, .ld (.t 13) 1 false⟩⟩,
    ⟨12, 3840, [14], ⟨(some 15), none, .nc (.t 14)⟩⟩,
    ⟨13, 7936, [15], ⟨(some 16), none, .fa (.t 15) 1⟩⟩,
    ⟨14, 16128, [16], ⟨(some 17), none, .ld (.t 16) 1 false⟩⟩,
    ⟨15, 32766, [10, 17], ⟨(some 18), none, .ca 160 [(.t 10), (.t 17)]⟩⟩,
    ⟨16, 65534, [18], ⟨(some 2), none, .mv (.t 18)⟩⟩,
    ⟨17, 131070, [2], ⟨(some 19), none, .ex (.t 2) 0⟩⟩,
    ⟨18, 131070, [2], ⟨(some 20), none, .ex (.t 2) 1⟩⟩,
    ⟨19, 262143, [3], ⟨(some 21), none, .nc (.t 3)⟩⟩,
    ⟨20, 786431, [21], ⟨(some 22), none, .fa (.t 21) 6⟩⟩,
    ⟨21, 1835007, [22, 19], ⟨none, none, .st (.t 22) (.t 19) 1⟩⟩])
  (.rg [⟨(some 23), none, .mv (.t 0)⟩,
    ⟨(some 24), none, .nc (.t 23)⟩,
    ⟨(some 25), none, .fa (.t 24) 0⟩,
    ⟨(some 26), none, .mv (.t 0)⟩,
    ⟨(some 27), none, .mf (.func 182) [(.t 26)] []⟩,
    ⟨(some 28), none, .ca 114 [(.t 25), (.t 27)]⟩]))⟩
theorem k156 : cF Tryz.prog Tryz.f156 = some c156 := by kernel_rfl
/-- (*rundale/run.Machine).on -/
def c157 : Fu := ⟨17, [],
  (.sq (.sq (.rg [⟨(some 2), none, .mv (.t 0)⟩,
    ⟨(some 3), none, .nc (.t 2)⟩,
    ⟨(some 4), none, .fa (.t 3) 2⟩,
    ⟨(some 5), none, .ld (.t 4) 1 false⟩,
    ⟨(some 6), none, .cl (.t 5) []⟩])
  (.cd (.t 6)
  (.sq (.rg [⟨(some 7), none, .mv (.t 0)⟩,
    ⟨(some 8), none, .nc (.t 7)⟩,
    ⟨(some 9), none, .fa (.t 8) 3⟩,
    ⟨(some 10), none, .ld (.t 9) 1 false⟩,
    ⟨(some 11), none, .cl (.t 10) []⟩])
  .rt)
  .sk))
  (.rg [⟨(some 12), none, .mv (.t 0)⟩,
    ⟨(some 13), none, .mv (.t 0)⟩,
    ⟨(some 14), none, .mf (.func 183) [(.t 13)] []⟩,
    ⟨(some 15), none, .nc (.t 12)⟩,
    ⟨(some 16), none, .fa (.t 15) 0⟩,
    ⟨none, none, .st (.t 16) (.t 14) 1⟩]))⟩
theorem k157 : cF Tryz.prog Tryz.f157 = some c157 := by kernel_rfl
/-- (*rundale/gather.Collect).look -/
def c158 : Fu := ⟨46, [],
  (.sq (.rg [⟨(some 5), none, .mv (.t 0)⟩,
    ⟨(some 6), none, .nc (.t 5)⟩,
    ⟨(some 7), none, .fa (.t 6) 5⟩,
    ⟨(some 8), none, .ld (.t 7) 1 false⟩,
    ⟨(some 9), none, .nc (.t 8)⟩,
    ⟨(some 10), none, .fa (.t 9) 0⟩,
    ⟨(some 11), none, .ld (.t 10) 1 false⟩,
    ⟨(some 12), none, .ca 160 [(.t 11), (.c (.int .i64 2))]⟩,
    ⟨(some 4), none, .mv (.t 12)⟩,
    ⟨(some 13), none, .ex (.t 4) 0⟩,
    ⟨(some 14), none, .ex (.t 4) 1⟩,
    ⟨(some 2), none, .mv (.t 13)⟩,
    ⟨(some 3), none, .mv (.t 14)⟩])
  (.sq (.rd [⟨0, 0, [0], ⟨(some 15), none, .mv (.t 0)⟩⟩,
    ⟨1, 1, [15], ⟨(some 16), none, .nc (.t 15)⟩⟩,
    ⟨2, 3, [16], ⟨(some 17), none, .fa (.t 16) 6⟩⟩,
    ⟨3, 7, [17], ⟨(some 18), none, .ld (.t 17) 1 false⟩⟩,
    ⟨4, 0, [2], ⟨(some 19), none, .mv (.t 2)⟩⟩,
    ⟨5, 16, [19], ⟨(some 20), none, .ca 92 [(.t 19)]⟩⟩,
    ⟨6, 63, [18, 20], ⟨(some 21), none, .ca 88 [(.t 18), (.t 20)]⟩⟩])
  (.sq (.rg [⟨(some 22), none, .mv (.t 0)⟩,
    ⟨(some 23), none, .mv (.t 0)⟩,
    ⟨(some 24), none, .nc (.t 23)⟩,
    ⟨(some 25), none, .fa (.t 24) 6⟩,
    ⟨(some 26), none, .ld (.t 25) 1 false⟩,
    ⟨(some 27), none, .ca 24 [(.t 26)]⟩,
    ⟨(some 28), none, .nc (.t 22)⟩,
    ⟨(some 29), none, .fa (.t 28) 8⟩,
    ⟨none, none, .st (.t 29) (.t 27) 1⟩])
  (.rd [⟨0, 0, [0], ⟨(some 30), none, .mv (.t 0)⟩⟩,
    ⟨1, 1, [30], ⟨(some 31), none, .nc (.t 30)⟩⟩,
    ⟨2, 3, [31], ⟨(some 32), none, .fa (.t 31) 0⟩⟩,
    ⟨3, 0, [0], ⟨(some 33), none, .mv (.t 0)⟩⟩,
    ⟨4, 8, [33], ⟨(some 34), none, .nc (.t 33)⟩⟩,
    ⟨5, 24, [34], ⟨(some 35), none, .fa (.t 34) 8⟩⟩,
    ⟨6, 56, [35], ⟨(some 36), none, .ld (.t 35) 1 false⟩⟩,
    ⟨7, 120, [36], ⟨(some 37), none, .mf (.func 74) [(.t 36)] []⟩⟩,
    ⟨8, 0, [0], ⟨(some 38), none, .mv (.t 0)⟩⟩,
    ⟨9, 256, [38], ⟨(some 39), none, .nc (.t 38)⟩⟩,
    ⟨10, 768, [39], ⟨(some 40), none, .fa (.t 39) 8⟩⟩,
    ⟨11, 1792, [40], ⟨(some 41), none, .ld (.t 40) 1 false⟩⟩,
    ⟨12, 3840, [41], ⟨(some 42), none, .mf (.func 146) [(.t 41)] []⟩⟩,
    ⟨13, 0, [0], ⟨(some 43), none, .mv (.t 0)⟩⟩,
    ⟨14, 8192, [43], ⟨(some 44), none, .mf (.func 184) [(.t 43)] []⟩⟩,
    ⟨15, 32767, [32, 37, 42, 44], ⟨(some 45), none, .ca 102 [(.t 32), (.t 37), (.t 42), (.t 44)]⟩⟩]))))⟩
theorem k158 : cF Tryz.prog Tryz.f158 = some c158 := by kernel_rfl
/-- rundale/rundaleref1.May -/
def c159 : Fu := ⟨37, [.t 2],
  (.sq (.rg [⟨(some 1), none, .bx 24 (.t 0)⟩,
    ⟨(some 2), none, .mv (.c (.bool false))⟩])
  (.sq (.rg [⟨(some 3), none, .fa (.t 1) 0⟩,
    ⟨(some 4), none, .ld (.t 3) 1 false⟩,
    ⟨(some 5), none, .ca 108 [(.t 4), (.c (.int .i64 1)), (.c (.int .i64 64))]⟩,
    ⟨(some 6), none, .mv (.t 5)⟩,
    ⟨(some 7), (some (6, true)), .fa (.t 1) 1⟩,
    ⟨(some 8), (some (6, true)), .ld (.t 7) 1 false⟩,
    ⟨(some 9), (some (6, true)), .ca 108 [(.t 8), (.c (.int .i64 1)), (.c (.int .i64 4096))]⟩,
    ⟨(some 10), none, .pk (.t 6) (.t 9) (.c (.bool false))⟩,
    ⟨(some 11), none, .mv (.t 10)⟩,
    ⟨(some 12), (some (11, true)), .fa (.t 1) 2⟩,
    ⟨(some 13), (some (11, true)), .ld (.t 12) 1 false⟩,
    ⟨(some 14), (some (11, true)), .ca 108 [(.t 13), (.c (.int .i64 8)), (.c (.int .i64 1024))]⟩,
    ⟨(some 15), none, .pk (.t 11) (.t 14) (.c (.bool false))⟩,
    ⟨(some 16), none, .mv (.t 15)⟩,
    ⟨(some 17), (some (16, true)), .fa (.t 1) 2⟩,
    ⟨(some 18), (some (16, true)), .ld (.t 17) 1 false⟩,
    ⟨(some 19), (some (16, true)), .ib .rem (.t 18) (.c (.int .i64 8))⟩,
    ⟨(some 20), (some (16, true)), .ib .eql (.t 19) (.c (.int .i64 0))⟩,
    ⟨(some 21), none, .pk (.t 16) (.t 20) (.c (.bool false))⟩,
    ⟨(some 22), none, .mv (.t 21)⟩,
    ⟨(some 23), (some (22, true)), .fa (.t 1) 3⟩,
    ⟨(some 24), (some (22, true)), .ld (.t 23) 1 false⟩,
    ⟨(some 25), (some (22, true)), .ca 108 [(.t 24), (.c (.int .i64 1)), (.c (.int .i64 4096))]⟩,
    ⟨(some 26), none, .pk (.t 22) (.t 25) (.c (.bool false))⟩,
    ⟨(some 27), none, .mv (.t 26)⟩,
    ⟨(some 28), (some (27, true)), .fa (.t 1) 4⟩,
    ⟨(some 29), (some (27, true)), .ld (.t 28) 1 false⟩,
    ⟨(some 30), (some (27, true)), .ca 108 [(.t 29), (.c (.int .i64 0)), (.c (.int .i64 64))]⟩,
    ⟨(some 31), none, .pk (.t 27) (.t 30) (.c (.bool false))⟩,
    ⟨(some 32), none, .mv (.t 31)⟩,
    ⟨(some 33), (some (32, true)), .fa (.t 1) 5⟩,
    ⟨(some 34), (some (32, true)), .ld (.t 33) 1 false⟩,
    ⟨(some 35), (some (32, true)), .ca 108 [(.t 34), (.c (.int .i64 1)), (.c (.int .i64 8))]⟩,
    ⟨(some 36), none, .pk (.t 32) (.t 35) (.c (.bool false))⟩,
    ⟨(some 2), none, .mv (.t 36)⟩])
  .rt))⟩
theorem k159 : cF Tryz.prog Tryz.f159 = some c159 := by kernel_rfl
/-- (*rundale/cells.Cells).Load -/
def c160 : Fu := ⟨20, [.t 4, .t 5],
  (.sq (.rg [⟨(some 4), none, .mv (.c (.int .u64 0))⟩,
    ⟨(some 5), none, .mv (.c (.int .i64 0))⟩])
  (.sq (.sq (.rg [⟨(some 6), none, .mv (.t 0)⟩,
    ⟨(some 7), none, .mv (.t 1)⟩,
    ⟨(some 8), none, .ca 110 [(.t 6), (.t 7)]⟩,
    ⟨(some 9), none, .nt (.t 8)⟩])
  (.cd (.t 9)
  (.sq (.rg [⟨(some 4), none, .mv (.c (.int .u64 0))⟩,
    ⟨(some 5), none, .mv (.c (.int .i64 1))⟩])
  .rt)
  .sk))
  (.sq (.rg [⟨(some 10), none, .mv (.t 0)⟩,
    ⟨(some 11), none, .mv (.t 1)⟩,
    ⟨(some 12), none, .mv (.t 0)⟩,
    ⟨(some 13), none, .nc (.t 12)⟩,
    ⟨(some 14), none, .fa (.t 13) 0⟩,
    ⟨(some 15), none, .ld (.t 14) 1 false⟩,
    ⟨(some 16), none, .mv (.t 1)⟩,
    ⟨(some 17), none, .ia (.t 15) (.t 16) 1⟩,
    ⟨(some 18), none, .ld (.t 17) 1 false⟩,
    ⟨(some 19), none, .ca 185 [(.t 10), (.c (.int .i64 1)), (.t 11), (.t 18), (.c (.bool true))]⟩,
    ⟨(some 4), none, .mv (.t 19)⟩,
    ⟨(some 5), none, .mv (.c (.int .i64 0))⟩])
  .rt)))⟩
theorem k160 : cF Tryz.prog Tryz.f160 = some c160 := by kernel_rfl
/-- (*rundale/epoch.Enter).store -/
def c161 : Fu := ⟨33, [],
  (.sq (.rg [⟨(some 5), none, .mv (.t 0)⟩,
    ⟨(some 6), none, .nc (.t 5)⟩,
    ⟨(some 7), none, .fa (.t 6) 7⟩,
    ⟨(some 8), none, .ld (.t 7) 1 false⟩,
    ⟨(some 9), none, .ca 186 [(.t 8)]⟩,
    ⟨(some 4), none, .mv (.t 9)⟩,
    ⟨(some 10), none, .ex (.t 4) 0⟩,
    ⟨(some 11), none, .ex (.t 4) 1⟩,
    ⟨(some 2), none, .mv (.t 10)⟩,
    ⟨(some 3), none, .mv (.t 11)⟩])
  (.rd [⟨0, 0, [0], ⟨(some 12), none, .mv (.t 0)⟩⟩,
    ⟨1, 1, [12], ⟨(some 13), none, .nc (.t 12)⟩⟩,
    ⟨2, 3, [13], ⟨(some 14), none, .fa (.t 13) 5⟩⟩,
    ⟨3, 7, [14], ⟨(some 15), none, .ld (.t 14) 1 false⟩⟩,
    ⟨4, 15, [15], ⟨(some 16), none, .nc (.t 15)⟩⟩,
    ⟨5, 31, [16], ⟨(some 17), none, .fa (.t 16) 0⟩⟩,
    ⟨6, 63, [17], ⟨(some 18), none, .ld (.t 17) 1 false⟩⟩,
    ⟨7, 0, [0], ⟨(some 19), none, .mv (.t 0)⟩⟩,
    ⟨8, 128, [19], ⟨(some 20), none, .nc (.t 19)⟩⟩,
    ⟨9, 384, [20], ⟨(some 21), none, .fa (.t 20) 5⟩⟩,
    ⟨10, 896, [21], ⟨(some 22), none, .ld (.t 21) 1 false⟩⟩,
    ⟨11, 1920, [22], ⟨(some 23), none, .nc (.t 22)⟩⟩,
    ⟨12, 3968, [23], ⟨(some 24), none, .fa (.t 23) 2⟩⟩,
    ⟨13, 8064, [24], ⟨(some 25), none, .ld (.t 24) 1 false⟩⟩,
    ⟨14, 0, [0], ⟨(some 26), none, .mv (.t 0)⟩⟩,
    ⟨15, 16384, [26], ⟨(some 27), none, .nc (.t 26)⟩⟩,
    ⟨16, 49152, [27], ⟨(some 28), none, .fa (.t 27) 6⟩⟩,
    ⟨17, 114688, [28], ⟨(some 29), none, .ld (.t 28) 1 false⟩⟩,
    ⟨18, 262016, [25, 29], ⟨(some 30), none, .ib .add (.t 25) (.t 29)⟩⟩,
    ⟨19, 0, [2], ⟨(some 31), none, .mv (.t 2)⟩⟩,
    ⟨20, 1048575, [18, 30, 31], ⟨(some 32), none, .ca 187 [(.t 18), (.t 30), (.t 31)]⟩⟩]))⟩
theorem k161 : cF Tryz.prog Tryz.f161 = some c161 := by kernel_rfl
/-- (*rundale/stash.Stash).Take -/
def c162 : Fu := ⟨35, [.t 2, .t 3],
  (.sq (.rg [⟨(some 2), none, .mv (.c (.int .i64 0))⟩,
    ⟨(some 3), none, .mv (.c (.bool false))⟩])
  (.sq (.sq (.rg [⟨(some 6), none, .mv (.t 0)⟩,
    ⟨(some 7), none, .nc (.t 6)⟩,
    ⟨(some 8), none, .fa (.t 7) 1⟩,
    ⟨(some 9), none, .ld (.t 8) 1 false⟩,
    ⟨(some 10), none, .len (.t 9)⟩,
    ⟨(some 11), none, .ib .eql (.t 10) (.c (.int .i64 0))⟩])
  (.cd (.t 11)
  (.sq (.rg [⟨(some 2), none, .mv (.c (.int .i64 0))⟩,
    ⟨(some 3), none, .mv (.c (.bool false))⟩])
  .rt)
  .sk))
  (.sq (.rg [⟨(some 12), none, .mv (.t 0)⟩,
    ⟨(some 13), none, .nc (.t 12)⟩,
    ⟨(some 14), none, .fa (.t 13) 1⟩,
    ⟨(some 15), none, .ld (.t 14) 1 false⟩,
    ⟨(some 16), none, .len (.t 15)⟩,
    ⟨(some 17), none, .ib .sub (.t 16) (.c (.int .i64 1))⟩,
    ⟨(some 4), none, .mv (.t 17)⟩])
  (.sq (.rg [⟨(some 18), none, .mv (.t 0)⟩,
    ⟨(some 19), none, .nc (.t 18)⟩,
    ⟨(some 20), none, .fa (.t 19) 1⟩,
    ⟨(some 21), none, .ld (.t 20) 1 false⟩,
    ⟨(some 22), none, .mv (.t 4)⟩,
    ⟨(some 23), none, .ia (.t 21) (.t 22) 1⟩,
    ⟨(some 24), none, .ld (.t 23) 1 false⟩,
    ⟨(some 5), none, .mv (.t 24)⟩])
  (.sq (.rg [⟨(some 25), none, .mv (.t 0)⟩,
    ⟨(some 26), none, .mv (.t 0)⟩,
    ⟨(some 27), none, .nc (.t 26)⟩,
    ⟨(some 28), none, .fa (.t 27) 1⟩,
    ⟨(some 29), none, .ld (.t 28) 1 false⟩,
    ⟨(some 30), none, .mv (.t 4)⟩,
    ⟨(some 31), none, .sl 1 (.t 29) none (some (.t 30)) none⟩,
    ⟨(some 32), none, .nc (.t 25)⟩,
    ⟨(some 33), none, .fa (.t 32) 1⟩,
    ⟨none, none, .st (.t 33) (.t 31) 1⟩])
  (.sq (.rg [⟨(some 34), none, .mv (.t 5)⟩,
    ⟨(some 2), none, .mv (.t 34)⟩,
    ⟨(some 3), none, .mv (.c (.bool true))⟩])
  .rt))))))⟩
theorem k162 : cF Tryz.prog Tryz.f162 = some c162 := by kernel_rfl
/-- (*rundale/stack.Stack).Pop -/
def c163 : Fu := ⟨19, [.t 4],
  (.sq (.rg [⟨(some 4), none, .mv (.c (.pointer none))⟩])
  (.sq (.rg [⟨(some 6), none, .mv (.t 0)⟩,
    ⟨(some 7), none, .mv (.t 1)⟩,
    ⟨(some 8), none, .mm true (.t 7) (.c (.int .i64 1))⟩,
    ⟨(some 9), none, .mm false (.t 8) (.c (.int .i64 8))⟩,
    ⟨(some 10), none, .bd [.nilFunc, .nilFunc, .nilFunc, .nilFunc, (.int .i64 0), (.pointer none), (.int .i64 0), (.int .i64 0), (.int .u64 0), (.slice none 0 0)] [(5, 1, (.t 6)), (6, 1, (.t 9))]⟩,
    ⟨(some 11), none, .bx 247 (.t 10)⟩,
    ⟨(some 5), none, .mv (.t 11)⟩])
  (.sq (.rg [⟨(some 12), none, .mv (.t 5)⟩,
    ⟨(some 13), none, .nc (.t 12)⟩,
    ⟨(some 14), none, .fa (.t 13) 0⟩,
    ⟨(some 15), none, .mv (.t 5)⟩,
    ⟨(some 16), none, .mf (.func 188) [(.t 15)] []⟩,
    ⟨(some 17), none, .ca 114 [(.t 14), (.t 16)]⟩])
  (.sq (.rg [⟨(some 18), none, .mv (.t 5)⟩,
    ⟨(some 4), none, .mv (.t 18)⟩])
  .rt))))⟩
theorem k163 : cF Tryz.prog Tryz.f163 = some c163 := by kernel_rfl
/-- (*rundale/stack.Pop).Step -/
def c164 : Fu := ⟨7, [.t 2],
  (.sq (.rg [⟨(some 2), none, .mv (.c (.bool false))⟩])
  (.sq (.rg [⟨(some 3), none, .mv (.t 0)⟩,
    ⟨(some 4), none, .nc (.t 3)⟩,
    ⟨(some 5), none, .fa (.t 4) 0⟩,
    ⟨(some 6), none, .ca 93 [(.t 5)]⟩,
    ⟨(some 2), none, .mv (.t 6)⟩])
  .rt))⟩
theorem k164 : cF Tryz.prog Tryz.f164 = some c164 := by kernel_rfl
/-- (*rundale/stack.Pop).Done -/
def c165 : Fu := ⟨7, [.t 2],
  (.sq (.rg [⟨(some 2), none, .mv (.c (.bool false))⟩])
  (.sq (.rg [⟨(some 3), none, .mv (.t 0)⟩,
    ⟨(some 4), none, .nc (.t 3)⟩,
    ⟨(some 5), none, .fa (.t 4) 0⟩,
    ⟨(some 6), none, .ca 97 [(.t 5)]⟩,
    ⟨(some 2), none, .mv (.t 6)⟩])
  .rt))⟩
theorem k165 : cF Tryz.prog Tryz.f165 = some c165 := by kernel_rfl
/-- (*rundale/supply.Take).popped -/
def c166 : Fu := ⟨27, [],
  (.sq (.rg [⟨(some 3), none, .mv (.t 0)⟩,
    ⟨(some 4), none, .nc (.t 3)⟩,
    ⟨(some 5), none, .fa (.t 4) 6⟩,
    ⟨(some 6), none, .ld (.t 5) 1 false⟩,
    ⟨(some 7), none, .ca 189 [(.t 6)]⟩,
    ⟨(some 2), none, .mv (.t 7)⟩])
  (.sq (.rg [⟨(some 8), none, .mv (.t 2)⟩,
    ⟨(some 9), none, .len (.t 8)⟩,
    ⟨(some 10), none, .ib .gtr (.t 9) (.c (.int .i64 0))⟩])
  (.cd (.t 10)
  (.sq (.rg [⟨(some 11), none, .mv (.t 0)⟩,
    ⟨(some 12), none, .mv (.t 0)⟩,
    ⟨(some 13), none, .mv (.t 2)⟩,
    ⟨(some 14), none, .ia (.t 13) (.c (.int .i64 0)) 1⟩,
    ⟨(some 15), none, .ld (.t 14) 1 false⟩,
    ⟨(some 16), none, .nc (.t 11)⟩,
    ⟨(some 17), none, .fa (.t 16) 7⟩,
    ⟨none, none, .st (.t 17) (.t 15) 1⟩,
    ⟨(some 18), none, .nc (.t 12)⟩,
    ⟨(some 19), none, .fa (.t 18) 9⟩,
    ⟨none, none, .st (.t 19) (.c (.bool true)) 1⟩])
  (.rd [⟨0, 0, [0], ⟨(some 20), none, .mv (.t 0)⟩⟩,
    ⟨1, 1, [20], ⟨(some 21), none, .nc (.t 20)⟩⟩,
    ⟨2, 3, [21], ⟨(some 22), none, .fa (.t 21) 5⟩⟩,
    ⟨3, 7, [22], ⟨(some 23), none, .ld (.t 22) 1 false⟩⟩,
    ⟨4, 0, [2], ⟨(some 24), none, .mv (.t 2)⟩⟩,
    ⟨5, 16, [24], ⟨(some 25), none, .sl 1 (.t 24) (some (.c (.int .i64 1))) none none⟩⟩,
    ⟨6, 63, [23, 25], ⟨(some 26), none, .ca 20 [(.t 23), (.t 25)]⟩⟩]))
  .sk)))⟩
theorem k166 : cF Tryz.prog Tryz.f166 = some c166 := by kernel_rfl
/-- rundale/stack.New$1 -/
def c167 : Fu := ⟨12, [.t 3],
  (.sq (.rg [⟨(some 3), none, .mv (.c (.bool false))⟩])
  (.sq (.rg [⟨(some 4), none, .mv (.t 0)⟩,
    ⟨(some 5), none, .ib .geq (.t 4) (.c (.int .i64 0))⟩,
    ⟨(some 6), none, .mv (.t 5)⟩,
    ⟨(some 7), (some (6, true)), .mv (.t 0)⟩,
    ⟨(some 8), (some (6, true)), .ld (.t 1) 1 false⟩,
    ⟨(some 9), (some (6, true)), .ca 58 [(.t 8)]⟩,
    ⟨(some 10), (some (6, true)), .ib .lss (.t 7) (.t 9)⟩,
    ⟨(some 11), none, .pk (.t 6) (.t 10) (.c (.bool false))⟩,
    ⟨(some 3), none, .mv (.t 11)⟩])
  .rt))⟩
theorem k167 : cF Tryz.prog Tryz.f167 = some c167 := by kernel_rfl
/-- rundale/word.PutHead -/
def c168 : Fu := ⟨31, [.t 2, .t 3],
  (.sq (.rg [⟨(some 1), none, .bx 212 (.t 0)⟩,
    ⟨(some 2), none, .mv (.c (.int .u64 0))⟩,
    ⟨(some 3), none, .mv (.c (.bool false))⟩])
  (.sq (.sq (.rg [⟨(some 6), none, .fa (.t 1) 0⟩,
    ⟨(some 7), none, .ld (.t 6) 1 false⟩,
    ⟨(some 8), none, .ca 190 [(.t 7), (.c (.int .i64 (-1))), (.c (.int .i64 4294967294))]⟩,
    ⟨(some 9), none, .nt (.t 8)⟩,
    ⟨(some 10), none, .mv (.t 9)⟩,
    ⟨(some 11), (some (10, false)), .fa (.t 1) 1⟩,
    ⟨(some 12), (some (10, false)), .ld (.t 11) 1 false⟩,
    ⟨(some 13), (some (10, false)), .ca 190 [(.t 12), (.c (.int .i64 0)), (.c (.int .i64 4294967295))]⟩,
    ⟨(some 14), (some (10, false)), .nt (.t 13)⟩,
    ⟨(some 15), none, .pk (.t 10) (.c (.bool true)) (.t 14)⟩])
  (.cd (.t 15)
  (.sq (.rg [⟨(some 2), none, .mv (.c (.int .u64 0))⟩,
    ⟨(some 3), none, .mv (.c (.bool false))⟩])
  .rt)
  .sk))
  (.sq (.rg [⟨(some 17), none, .fa (.t 1) 0⟩,
    ⟨(some 18), none, .ld (.t 17) 1 false⟩,
    ⟨(some 19), none, .ib .add (.t 18) (.c (.int .i64 1))⟩,
    ⟨(some 20), none, .cv .u64 (.t 19)⟩,
    ⟨(some 21), none, .ca 191 [(.c (.int .u64 0)), (.c (.int .i64 0)), (.c (.int .i64 32)), (.t 20)]⟩,
    ⟨(some 16), none, .mv (.t 21)⟩,
    ⟨(some 22), none, .ex (.t 16) 0⟩,
    ⟨(some 23), none, .ex (.t 16) 1⟩,
    ⟨(some 4), none, .mv (.t 22)⟩,
    ⟨(some 5), none, .mv (.t 23)⟩])
  (.sq (.rg [⟨(some 24), none, .mv (.t 4)⟩,
    ⟨(some 25), none, .fa (.t 1) 1⟩,
    ⟨(some 26), none, .ld (.t 25) 1 false⟩,
    ⟨(some 27), none, .cv .u64 (.t 26)⟩,
    ⟨(some 28), none, .ca 191 [(.t 24), (.c (.int .i64 32)), (.c (.int .i64 32)), (.t 27)]⟩,
    ⟨(some 29), none, .ex (.t 28) 0⟩,
    ⟨(some 30), none, .ex (.t 28) 1⟩,
    ⟨(some 2), none, .mv (.t 29)⟩,
    ⟨(some 3), none, .mv (.t 30)⟩])
  .rt))))⟩
theorem k168 : cF Tryz.prog Tryz.f168 = some c168 := by kernel_rfl
/-- rundale/rundaleref1.PutHead -/
def c169 : Fu := ⟨31, [.t 2, .t 3],
  (.sq (.rg [⟨(some 1), none, .bx 219 (.t 0)⟩,
    ⟨(some 2), none, .mv (.c (.int .u64 0))⟩,
    ⟨(some 3), none, .mv (.c (.bool false))⟩])
  (.sq (.sq (.rg [⟨(some 4), none, .fa (.t 1) 0⟩,
    ⟨(some 5), none, .ld (.t 4) 1 false⟩,
    ⟨(some 6), none, .ib .lss (.t 5) (.c (.int .i64 (-1)))⟩,
    ⟨(some 7), none, .mv (.t 6)⟩,
    ⟨(some 8), (some (7, false)), .fa (.t 1) 0⟩,
    ⟨(some 9), (some (7, false)), .ld (.t 8) 1 false⟩,
    ⟨(some 10), (some (7, false)), .ib .geq (.t 9) (.c (.int .i64 4294967295))⟩,
    ⟨(some 11), none, .pk (.t 7) (.c (.bool true)) (.t 10)⟩,
    ⟨(some 12), none, .mv (.t 11)⟩,
    ⟨(some 13), (some (12, false)), .fa (.t 1) 1⟩,
    ⟨(some 14), (some (12, false)), .ld (.t 13) 1 false⟩,
    ⟨(some 15), (some (12, false)), .ib .lss (.t 14) (.c (.int .i64 0))⟩,
    ⟨(some 16), none, .pk (.t 12) (.c (.bool true)) (.t 15)⟩,
    ⟨(some 17), none, .mv (.t 16)⟩,
    ⟨(some 18), (some (17, false)), .fa (.t 1) 1⟩,
    ⟨(some 19), (some (17, false)), .ld (.t 18) 1 false⟩,
    ⟨(some 20), (some (17, false)), .ib .gtr (.t 19) (.c (.int .i64 4294967295))⟩,
    ⟨(some 21), none, .pk (.t 17) (.c (.bool true)) (.t 20)⟩])
  (.cd (.t 21)
  (.sq (.rg [⟨(some 2), none, .mv (.c (.int .u64 0))⟩,
    ⟨(some 3), none, .mv (.c (.bool false))⟩])
  .rt)
  .sk))
  (.sq (.rg [⟨(some 22), none, .fa (.t 1) 1⟩,
    ⟨(some 23), none, .ld (.t 22) 1 false⟩,
    ⟨(some 24), none, .cv .u64 (.t 23)⟩,
    ⟨(some 25), none, .ib .mul (.t 24) (.c (.int .u64 4294967296))⟩,
    ⟨(some 26), none, .fa (.t 1) 0⟩,
    ⟨(some 27), none, .ld (.t 26) 1 false⟩,
    ⟨(some 28), none, .ib .add (.t 27) (.c (.int .i64 1))⟩,
    ⟨(some 29), none, .cv .u64 (.t 28)⟩,
    ⟨(some 30), none, .ib .add (.t 25) (.t 29)⟩,
    ⟨(some 2), none, .mv (.t 30)⟩,
    ⟨(some 3), none, .mv (.c (.bool true))⟩])
  .rt)))⟩
theorem k169 : cF Tryz.prog Tryz.f169 = some c169 := by kernel_rfl
/-- slices.Contains[[]int,int] -/
def c170 : Fu := ⟨9, [.t 4],
  (.sq (.rg [⟨(some 4), none, .mv (.c (.bool false))⟩])
  (.sq (.rg [⟨(some 5), none, .mv (.t 0)⟩,
    ⟨(some 6), none, .mv (.t 1)⟩,
    ⟨(some 7), none, .ca 192 [(.t 5), (.t 6)]⟩,
    ⟨(some 8), none, .ib .geq (.t 7) (.c (.int .i64 0))⟩,
    ⟨(some 4), none, .mv (.t 8)⟩])
  .rt))⟩
theorem k170 : cF Tryz.prog Tryz.f170 = some c170 := by kernel_rfl
/-- (*rundale/stack.Push).load -/
def c171 : Fu := ⟨29, [],
  (.sq (.rd [⟨0, 0, [0], ⟨(some 3), none, .mv (.t 0)⟩⟩,
    ⟨1, 0, [0], ⟨(some 4), none, .mv (.t 0)⟩⟩,
    ⟨2, 2, [4], ⟨(some 5), none, .nc (.t 4)⟩⟩,
    ⟨3, 6, [5], ⟨(some 6), none, .fa (.t 5) 5⟩⟩,
    ⟨4, 14, [6], ⟨(some 7), none, .ld (.t 6) 1 false⟩⟩,
    ⟨5, 30, [7], ⟨(some 8), none, .nc (.t 7)⟩⟩,
    ⟨6, 62, [8], ⟨(some 9), none, .fa (.t 8) 0⟩⟩,
    ⟨7, 126, [9], ⟨(some 10), none, .ld (.t 9) 1 false⟩⟩,
    ⟨8, 0, [0], ⟨(some 11), none, .mv (.t 0)⟩⟩,
    ⟨9, 256, [11], ⟨(some 12), none, .nc (.t 11)⟩⟩,
    ⟨10, 768, [12], ⟨(some 13), none, .fa (.t 12) 5⟩⟩,
    ⟨11, 1792, [13], ⟨(some 14), none, .ld (.t 13) 1 false⟩⟩,
    ⟨12, 3840, [14], ⟨(some 15), none, .nc (.t 14)⟩⟩,
    ⟨13, 7936, [15], ⟨(some 16), none, .fa (.t 15) 1⟩⟩,
    ⟨14, 16128, [16], ⟨(some 17), none, .ld (.t 16) 1 false⟩⟩,
    ⟨15, 32766, [10, 17], ⟨(some 18), none, .ca 160 [(.t 10), (.t 17)]⟩⟩,
    ⟨16, 65534, [18], ⟨(some 2), none, .mv (.t 18)⟩⟩,
    ⟨17, 131070, [2], ⟨(some 19), none, .ex (.t 2) 0⟩⟩,
    ⟨18, 131070, [2], ⟨(some 20), none, .ex (.t 2) 1⟩⟩,
    ⟨19, 262143, [3], ⟨(some 21), none, .nc (.t 3)⟩⟩,
    ⟨20, 786431, [21], ⟨(some 22), none, .fa (.t 21) 8⟩⟩,
    ⟨21, 1835007, [22, 19], ⟨none, none, .st (.t 22) (.t 19) 1⟩⟩])
  (.rg [⟨(some 23), none, .mv (.t 0)⟩,
    ⟨(some 24), none, .nc (.t 23)⟩,
    ⟨(some 25), none, .fa (.t 24) 0⟩,
    ⟨(some 26), none, .mv (.t 0)⟩,
    ⟨(some 27), none, .mf (.func 193) [(.t 26)] []⟩,
    ⟨(some 28), none, .ca 114 [(.t 25), (.t 27)]⟩]))⟩
theorem k171 : cF Tryz.prog Tryz.f171 = some c171 := by kernel_rfl
/-- (*rundale/stack.Push).link -/
def c172 : Fu := ⟨71, [],
  (.sq (.rd [⟨0, 0, [0], ⟨(some 2), none, .mv (.t 0)⟩⟩,
    ⟨1, 1, [2], ⟨(some 3), none, .nc (.t 2)⟩⟩,
    ⟨2, 3, [3], ⟨(some 4), none, .fa (.t 3) 5⟩⟩,
    ⟨3, 7, [4], ⟨(some 5), none, .ld (.t 4) 1 false⟩⟩,
    ⟨4, 15, [5], ⟨(some 6), none, .nc (.t 5)⟩⟩,
    ⟨5, 31, [6], ⟨(some 7), none, .fa (.t 6) 0⟩⟩,
    ⟨6, 63, [7], ⟨(some 8), none, .ld (.t 7) 1 false⟩⟩,
    ⟨7, 0, [0], ⟨(some 9), none, .mv (.t 0)⟩⟩,
    ⟨8, 128, [9], ⟨(some 10), none, .nc (.t 9)⟩⟩,
    ⟨9, 384, [10], ⟨(some 11), none, .fa (.t 10) 5⟩⟩,
    ⟨10, 896, [11], ⟨(some 12), none, .ld (.t 11) 1 false⟩⟩,
    ⟨11, 1920, [12], ⟨(some 13), none, .nc (.t 12)⟩⟩,
    ⟨12, 3968, [13], ⟨(some 14), none, .fa (.t 13) 2⟩⟩,
    ⟨13, 8064, [14], ⟨(some 15), none, .ld (.t 14) 1 false⟩⟩,
    ⟨14, 0, [0], ⟨(some 16), none, .mv (.t 0)⟩⟩,
    ⟨15, 16384, [16], ⟨(some 17), none, .nc (.t 16)⟩⟩,
    ⟨16, 49152, [17], ⟨(some 18), none, .fa (.t 17) 6⟩⟩,
    ⟨17, 114688, [18], ⟨(some 19), none, .ld (.t 18) 1 false⟩⟩,
    ⟨18, 0, [0], ⟨(some 20), none, .mv (.t 0)⟩⟩,
    ⟨19, 262144, [20], ⟨(some 21), none, .nc (.t 20)⟩⟩,
    ⟨20, 786432, [21], ⟨(some 22), none, .fa (.t 21) 7⟩⟩,
    ⟨21, 1835008, [22], ⟨(some 23), none, .ld (.t 22) 1 false⟩⟩,
    ⟨22, 4177920, [19, 23], ⟨(some 24), none, .ia (.t 19) (.t 23) 1⟩⟩,
    ⟨23, 8372224, [24], ⟨(some 25), none, .ld (.t 24) 1 false⟩⟩,
    ⟨24, 16777088, [15, 25], ⟨(some 26), none, .ib .add (.t 15) (.t 25)⟩⟩,
    ⟨25, 0, [0], ⟨(some 27), none, .mv (.t 0)⟩⟩,
    ⟨26, 33554432, [27], ⟨(some 28), none, .nc (.t 27)⟩⟩,
    ⟨27, 100663296, [28], ⟨(some 29), none, .fa (.t 28) 6⟩⟩,
    ⟨28, 234881024, [29], ⟨(some 30), none, .ld (.t 29) 1 false⟩⟩,
    ⟨29, 0, [0], ⟨(some 31), none, .mv (.t 0)⟩⟩,
    ⟨30, 536870912, [31], ⟨(some 32), none, .nc (.t 31)⟩⟩,
    ⟨31, 1610612736, [32], ⟨(some 33), none, .fa (.t 32) 7⟩⟩,
    ⟨32, 3758096384, [33], ⟨(some 34), none, .ld (.t 33) 1 false⟩⟩,
    ⟨33, 8053063680, [34], ⟨(some 35), none, .ib .add (.t 34) (.c (.int .i64 1))⟩⟩,
    ⟨34, 17146314752, [30, 35], ⟨(some 36), none, .ia (.t 30) (.t 35) 1⟩⟩,
    ⟨35, 34326183936, [36], ⟨(some 37), none, .ld (.t 36) 1 false⟩⟩,
    ⟨36, 68685922304, [37], ⟨(some 38), none, .ib .add (.t 37) (.c (.int .i64 1))⟩⟩,
    ⟨37, 137405399040, [38], ⟨(some 39), none, .cv .u64 (.t 38)⟩⟩,
    ⟨38, 274877906943, [8, 26, 39], ⟨(some 40), none, .ca 187 [(.t 8), (.t 26), (.t 39)]⟩⟩])
  (.sq (.rg [⟨(some 41), none, .mv (.t 0)⟩,
    ⟨(some 42), none, .nc (.t 41)⟩,
    ⟨(some 43), none, .fa (.t 42) 7⟩,
    ⟨(some 44), none, .ld (.t 43) 1 false⟩,
    ⟨(some 45), none, .ib .add (.t 44) (.c (.int .i64 1))⟩,
    ⟨(some 46), none, .nc (.t 41)⟩,
    ⟨(some 47), none, .fa (.t 46) 7⟩,
    ⟨none, none, .st (.t 47) (.t 45) 1⟩])
  (.sq (.rd [⟨0, 0, [0], ⟨(some 48), none, .mv (.t 0)⟩⟩,
    ⟨1, 1, [48], ⟨(some 49), none, .nc (.t 48)⟩⟩,
    ⟨2, 3, [49], ⟨(some 50), none, .fa (.t 49) 7⟩⟩,
    ⟨3, 7, [50], ⟨(some 51), none, .ld (.t 50) 1 false⟩⟩,
    ⟨4, 0, [0], ⟨(some 52), none, .mv (.t 0)⟩⟩,
    ⟨5, 16, [52], ⟨(some 53), none, .nc (.t 52)⟩⟩,
    ⟨6, 48, [53], ⟨(some 54), none, .fa (.t 53) 6⟩⟩,
    ⟨7, 112, [54], ⟨(some 55), none, .ld (.t 54) 1 false⟩⟩,
    ⟨8, 240, [55], ⟨(some 56), none, .len (.t 55)⟩⟩,
    ⟨9, 496, [56], ⟨(some 57), none, .ib .sub (.t 56) (.c (.int .i64 1))⟩⟩,
    ⟨10, 1023, [51, 57], ⟨(some 58), none, .ib .lss (.t 51) (.t 57)⟩⟩])
  (.cd (.t 58)
  (.rg [⟨(some 59), none, .mv (.t 0)⟩,
    ⟨(some 60), none, .nc (.t 59)⟩,
    ⟨(some 61), none, .fa (.t 60) 0⟩,
    ⟨(some 62), none, .mv (.t 0)⟩,
    ⟨(some 63), none, .mf (.func 172) [(.t 62)] []⟩,
    ⟨(some 64), none, .ca 114 [(.t 61), (.t 63)]⟩])
  (.rg [⟨(some 65), none, .mv (.t 0)⟩,
    ⟨(some 66), none, .nc (.t 65)⟩,
    ⟨(some 67), none, .fa (.t 66) 0⟩,
    ⟨(some 68), none, .mv (.t 0)⟩,
    ⟨(some 69), none, .mf (.func 171) [(.t 68)] []⟩,
    ⟨(some 70), none, .ca 114 [(.t 67), (.t 69)]⟩])))))⟩
theorem k172 : cF Tryz.prog Tryz.f172 = some c172 := by kernel_rfl
/-- rundale/bits.Get -/
def c173 : Fu := ⟨17, [.t 6],
  (.sq (.rg [⟨(some 6), none, .mv (.c (.int .u64 0))⟩])
  (.sq (.sq (.rg [⟨(some 7), none, .mv (.t 1)⟩,
    ⟨(some 8), none, .mv (.t 2)⟩,
    ⟨(some 9), none, .ca 194 [(.t 7), (.t 8)]⟩,
    ⟨(some 10), none, .nt (.t 9)⟩])
  (.cd (.t 10)
  (.sq (.rg [⟨(some 6), none, .mv (.c (.int .u64 0))⟩])
  .rt)
  .sk))
  (.sq (.rd [⟨0, 0, [0], ⟨(some 11), none, .mv (.t 0)⟩⟩,
    ⟨1, 0, [1], ⟨(some 12), none, .mv (.t 1)⟩⟩,
    ⟨2, 3, [11, 12], ⟨(some 13), none, .ib .shr (.t 11) (.t 12)⟩⟩,
    ⟨3, 0, [2], ⟨(some 14), none, .mv (.t 2)⟩⟩,
    ⟨4, 8, [14], ⟨(some 15), none, .ca 195 [(.t 14)]⟩⟩,
    ⟨5, 31, [13, 15], ⟨(some 16), none, .ib .and (.t 13) (.t 15)⟩⟩,
    ⟨6, 63, [16], ⟨(some 6), none, .mv (.t 16)⟩⟩])
  .rt)))⟩
theorem k173 : cF Tryz.prog Tryz.f173 = some c173 := by kernel_rfl
/-- (*rundale/rundaleref5.Stash).Take -/
def c174 : Fu := ⟨33, [.t 2, .t 3],
  (.sq (.rg [⟨(some 2), none, .mv (.c (.int .i64 0))⟩,
    ⟨(some 3), none, .mv (.c (.bool false))⟩])
  (.sq (.rg [⟨(some 6), none, .mv (.t 0)⟩,
    ⟨(some 7), none, .nc (.t 6)⟩,
    ⟨(some 8), none, .fa (.t 7) 1⟩,
    ⟨(some 9), none, .ld (.t 8) 1 false⟩,
    ⟨(some 10), none, .len (.t 9)⟩,
    ⟨(some 4), none, .mv (.t 10)⟩])
  (.sq (.sq (.rg [⟨(some 11), none, .mv (.t 4)⟩,
    ⟨(some 12), none, .ib .eql (.t 11) (.c (.int .i64 0))⟩])
  (.cd (.t 12)
  (.sq (.rg [⟨(some 2), none, .mv (.c (.int .i64 0))⟩,
    ⟨(some 3), none, .mv (.c (.bool false))⟩])
  .rt)
  .sk))
  (.sq (.rg [⟨(some 13), none, .mv (.t 0)⟩,
    ⟨(some 14), none, .nc (.t 13)⟩,
    ⟨(some 15), none, .fa (.t 14) 1⟩,
    ⟨(some 16), none, .ld (.t 15) 1 false⟩,
    ⟨(some 17), none, .mv (.t 4)⟩,
    ⟨(some 18), none, .ib .sub (.t 17) (.c (.int .i64 1))⟩,
    ⟨(some 19), none, .ia (.t 16) (.t 18) 1⟩,
    ⟨(some 20), none, .ld (.t 19) 1 false⟩,
    ⟨(some 5), none, .mv (.t 20)⟩])
  (.sq (.rg [⟨(some 21), none, .mv (.t 0)⟩,
    ⟨(some 22), none, .mv (.t 0)⟩,
    ⟨(some 23), none, .nc (.t 22)⟩,
    ⟨(some 24), none, .fa (.t 23) 1⟩,
    ⟨(some 25), none, .ld (.t 24) 1 false⟩,
    ⟨(some 26), none, .mv (.t 4)⟩,
    ⟨(some 27), none, .ib .sub (.t 26) (.c (.int .i64 1))⟩,
    ⟨(some 28), none, .sl 1 (.t 25) none (some (.t 27)) none⟩,
    ⟨(some 29), none, .ap 49 3 1 8 [(.int .i64 0)] (.c (.slice none 0 0)) (.t 28)⟩,
    ⟨(some 30), none, .nc (.t 21)⟩,
    ⟨(some 31), none, .fa (.t 30) 1⟩,
    ⟨none, none, .st (.t 31) (.t 29) 1⟩])
  (.sq (.rg [⟨(some 32), none, .mv (.t 5)⟩,
    ⟨(some 2), none, .mv (.t 32)⟩,
    ⟨(some 3), none, .mv (.c (.bool true))⟩])
  .rt))))))⟩
theorem k174 : cF Tryz.prog Tryz.f174 = some c174 := by kernel_rfl
/-- (*rundale/rundaleref5.Stack).Pop -/
def c175 : Fu := ⟨11, [.t 4],
  (.sq (.rg [⟨(some 4), none, .mv (.c (.pointer none))⟩])
  (.sq (.rg [⟨(some 5), none, .mv (.t 0)⟩,
    ⟨(some 6), none, .mv (.t 1)⟩,
    ⟨(some 7), none, .mm true (.t 6) (.c (.int .i64 1))⟩,
    ⟨(some 8), none, .mm false (.t 7) (.c (.int .i64 8))⟩,
    ⟨(some 9), none, .bd [(.pointer none), (.int .i64 0), (.int .i64 0), (.int .i64 0), (.int .u64 0), (.slice none 0 0), (.bool false)] [(0, 1, (.t 5)), (1, 1, (.t 8))]⟩,
    ⟨(some 10), none, .bx 215 (.t 9)⟩,
    ⟨(some 4), none, .mv (.t 10)⟩])
  .rt))⟩
theorem k175 : cF Tryz.prog Tryz.f175 = some c175 := by kernel_rfl
/-- rundale/rundaleref5.next -/
def c176 : Fu := ⟨16, [.t 4],
  (.sq (.rg [⟨(some 4), none, .mv (.c (.int .u64 0))⟩])
  (.sq (.rg [⟨(some 8), none, .mv (.t 0)⟩,
    ⟨(some 9), none, .ca 153 [(.t 8)]⟩,
    ⟨(some 10), none, .mv (.t 1)⟩,
    ⟨(some 11), none, .ca 196 [(.t 9), (.t 10)]⟩,
    ⟨(some 12), none, .ca 169 [(.t 11)]⟩,
    ⟨(some 7), none, .mv (.t 12)⟩,
    ⟨(some 13), none, .ex (.t 7) 0⟩,
    ⟨(some 14), none, .ex (.t 7) 1⟩,
    ⟨(some 5), none, .mv (.t 13)⟩,
    ⟨(some 6), none, .mv (.t 14)⟩])
  (.sq (.rg [⟨(some 15), none, .mv (.t 5)⟩,
    ⟨(some 4), none, .mv (.t 15)⟩])
  .rt)))⟩
theorem k176 : cF Tryz.prog Tryz.f176 = some c176 := by kernel_rfl
/-- (*rundale/limbo.bucket).open -/
def c179 : Fu := ⟨20, [.t 4],
  (.sq (.rg [⟨(some 4), none, .mv (.c (.bool false))⟩])
  (.sq (.rg [⟨(some 5), none, .mv (.t 0)⟩,
    ⟨(some 6), none, .nc (.t 5)⟩,
    ⟨(some 7), none, .fa (.t 6) 1⟩,
    ⟨(some 8), none, .ld (.t 7) 1 false⟩,
    ⟨(some 9), none, .len (.t 8)⟩,
    ⟨(some 10), none, .ib .gtr (.t 9) (.c (.int .i64 0))⟩,
    ⟨(some 11), none, .mv (.t 10)⟩,
    ⟨(some 12), (some (11, true)), .mv (.t 0)⟩,
    ⟨(some 13), (some (11, true)), .nc (.t 12)⟩,
    ⟨(some 14), (some (11, true)), .fa (.t 13) 0⟩,
    ⟨(some 15), (some (11, true)), .ld (.t 14) 1 false⟩,
    ⟨(some 16), (some (11, true)), .mv (.t 1)⟩,
    ⟨(some 17), (some (11, true)), .ib .sub (.t 16) (.c (.int .i64 2))⟩,
    ⟨(some 18), (some (11, true)), .ib .leq (.t 15) (.t 17)⟩,
    ⟨(some 19), none, .pk (.t 11) (.t 18) (.c (.bool false))⟩,
    ⟨(some 4), none, .mv (.t 19)⟩])
  .rt))⟩
theorem k179 : cF Tryz.prog Tryz.f179 = some c179 := by kernel_rfl
/-- (*rundale/rundaleref5.Limbo).Open -/
def c180 : Fu := ⟨13, [.t 4],
  (.sq (.rg [⟨(some 4), none, .mv (.c (.bool false))⟩])
  (.sq (.rg [⟨(some 5), none, .mv (.t 1)⟩,
    ⟨(some 6), none, .ib .geq (.t 5) (.c (.int .i64 2))⟩,
    ⟨(some 7), none, .mv (.t 6)⟩,
    ⟨(some 8), (some (7, true)), .mv (.t 0)⟩,
    ⟨(some 9), (some (7, true)), .mv (.t 1)⟩,
    ⟨(some 10), (some (7, true)), .ca 181 [(.t 8), (.t 9)]⟩,
    ⟨(some 11), (some (7, true)), .ib .geq (.t 10) (.c (.int .i64 0))⟩,
    ⟨(some 12), none, .pk (.t 7) (.t 11) (.c (.bool false))⟩,
    ⟨(some 4), none, .mv (.t 12)⟩])
  .rt))⟩
theorem k180 : cF Tryz.prog Tryz.f180 = some c180 := by kernel_rfl
/-- (*rundale/rundaleref5.Limbo).least -/
def c181 : Fu := ⟨51, [.t 4],
  (.sq (.rg [⟨(some 4), none, .mv (.c (.int .i64 0))⟩])
  (.sq (.rg [⟨(some 5), none, .mv (.c (.int .i64 (-1)))⟩])
  (.sq (.sq (.rg [⟨(some 6), none, .mv (.c (.int .i64 0))⟩])
  (.bl 0
  (.lp
  (.sq (.sq (.rg [⟨(some 7), none, .mv (.t 6)⟩,
    ⟨(some 8), none, .ib .lss (.t 7) (.c (.int .i64 3))⟩])
  (.cd (.t 8)
  .sk
  (.ex 0)))
  (.sq (.bl 1
  (.sq (.rd [⟨0, 0, [0], ⟨(some 11), none, .mv (.t 0)⟩⟩,
    ⟨1, 0, [6], ⟨(some 12), none, .mv (.t 6)⟩⟩,
    ⟨2, 1, [11], ⟨(some 13), none, .nc (.t 11)⟩⟩,
    ⟨3, 5, [13], ⟨(some 14), none, .fa (.t 13) 3⟩⟩,
    ⟨4, 15, [14, 12], ⟨(some 15), none, .iaa (.t 14) (.t 12) 3 1⟩⟩,
    ⟨5, 31, [15], ⟨(some 16), none, .ld (.t 15) 1 false⟩⟩,
    ⟨6, 63, [16], ⟨(some 17), none, .len (.t 16)⟩⟩,
    ⟨7, 127, [17], ⟨(some 18), none, .ib .gtr (.t 17) (.c (.int .i64 0))⟩⟩,
    ⟨8, 255, [18], ⟨(some 19), none, .mv (.t 18)⟩⟩,
    ⟨9, 511, [0, 19], ⟨(some 20), (some (19, true)), .mv (.t 0)⟩⟩,
    ⟨10, 511, [6, 19], ⟨(some 21), (some (19, true)), .mv (.t 6)⟩⟩,
    ⟨11, 1023, [20, 19], ⟨(some 22), (some (19, true)), .nc (.t 20)⟩⟩,
    ⟨12, 3071, [22, 19], ⟨(some 23), (some (19, true)), .fa (.t 22) 0⟩⟩,
    ⟨13, 8191, [23, 21, 19], ⟨(some 24), (some (19, true)), .iaa (.t 23) (.t 21) 3 1⟩⟩,
    ⟨14, 16383, [24, 19], ⟨(some 25), (some (19, true)), .ld (.t 24) 1 false⟩⟩,
    ⟨15, 511, [1, 19], ⟨(some 26), (some (19, true)), .mv (.t 1)⟩⟩,
    ⟨16, 33279, [26, 19], ⟨(some 27), (some (19, true)), .ib .sub (.t 26) (.c (.int .i64 2))⟩⟩,
    ⟨17, 131071, [25, 27, 19], ⟨(some 28), (some (19, true)), .ib .leq (.t 25) (.t 27)⟩⟩,
    ⟨18, 262143, [19, 28], ⟨(some 29), none, .pk (.t 19) (.t 28) (.c (.bool false))⟩⟩,
    ⟨19, 524287, [29], ⟨(some 30), none, .mv (.t 29)⟩⟩,
    ⟨20, 1048575, [5, 30], ⟨(some 31), (some (30, true)), .mv (.t 5)⟩⟩,
    ⟨21, 2097151, [31, 30], ⟨(some 32), (some (30, true)), .ib .lss (.t 31) (.c (.int .i64 0))⟩⟩,
    ⟨22, 4194303, [32, 30], ⟨(some 33), (some (30, true)), .mv (.t 32)⟩⟩,
    ⟨23, 8388607, [0, 33], ⟨(some 34), (some (33, false)), .mv (.t 0)⟩⟩,
    ⟨24, 8388607, [6, 33], ⟨(some 35), (some (33, false)), .mv (.t 6)⟩⟩,
    ⟨25, 16777215, [34, 33], ⟨(some 36), (some (33, false)), .nc (.t 34)⟩⟩,
    ⟨26, 50331647, [36, 33], ⟨(some 37), (some (33, false)), .fa (.t 36) 0⟩⟩,
    ⟨27, 134217727, [37, 35, 33], ⟨(some 38), (some (33, false)), .iaa (.t 37) (.t 35) 3 1⟩⟩,
    ⟨28, 268435455, [38, 33], ⟨(some 39), (some (33, false)), .ld (.t 38) 1 false⟩⟩,
    ⟨29, 8388607, [0, 33], ⟨(some 40), (some (33, false)), .mv (.t 0)⟩⟩,
    ⟨30, 8388607, [5, 33], ⟨(some 41), (some (33, false)), .mv (.t 5)⟩⟩,
    ⟨31, 545259519, [40, 33], ⟨(some 42), (some (33, false)), .nc (.t 40)⟩⟩,
    ⟨32, 2692743167, [42, 33], ⟨(some 43), (some (33, false)), .fa (.t 42) 0⟩⟩,
    ⟨33, 8061452287, [43, 41, 33], ⟨(some 44), (some (33, false)), .iaa (.t 43) (.t 41) 3 1⟩⟩,
    ⟨34, 16651386879, [44, 33], ⟨(some 45), (some (33, false)), .ld (.t 44) 1 false⟩⟩,
    ⟨35, 34359738367, [39, 45, 33], ⟨(some 46), (some (33, false)), .ib .lss (.t 39) (.t 45)⟩⟩,
    ⟨36, 68719476735, [33, 46, 30], ⟨(some 47), (some (30, true)), .pk (.t 33) (.c (.bool true)) (.t 46)⟩⟩,
    ⟨37, 137438953471, [30, 47], ⟨(some 48), none, .pk (.t 30) (.t 47) (.c (.bool false))⟩⟩])
  (.cd (.t 48)
  (.rg [⟨(some 49), none, .mv (.t 6)⟩,
    ⟨(some 5), none, .mv (.t 49)⟩])
  .sk)))
  (.rg [⟨(some 9), none, .mv (.t 6)⟩,
    ⟨(some 10), none, .ib .add (.t 9) (.c (.int .i64 1))⟩,
    ⟨(some 6), none, .mv (.t 10)⟩]))))))
  (.sq (.rg [⟨(some 50), none, .mv (.t 5)⟩,
    ⟨(some 4), none, .mv (.t 50)⟩])
  .rt))))⟩
theorem k181 : cF Tryz.prog Tryz.f181 = some c181 := by kernel_rfl
/-- (*rundale/epoch.Advance).look -/
def c182 : Fu := ⟨75, [],
  (.sq (.rd [⟨0, 0, [0], ⟨(some 7), none, .mv (.t 0)⟩⟩,
    ⟨1, 1, [7], ⟨(some 8), none, .nc (.t 7)⟩⟩,
    ⟨2, 3, [8], ⟨(some 9), none, .fa (.t 8) 5⟩⟩,
    ⟨3, 7, [9], ⟨(some 10), none, .ld (.t 9) 1 false⟩⟩,
    ⟨4, 15, [10], ⟨(some 11), none, .nc (.t 10)⟩⟩,
    ⟨5, 31, [11], ⟨(some 12), none, .fa (.t 11) 0⟩⟩,
    ⟨6, 63, [12], ⟨(some 13), none, .ld (.t 12) 1 false⟩⟩,
    ⟨7, 0, [0], ⟨(some 14), none, .mv (.t 0)⟩⟩,
    ⟨8, 128, [14], ⟨(some 15), none, .nc (.t 14)⟩⟩,
    ⟨9, 384, [15], ⟨(some 16), none, .fa (.t 15) 5⟩⟩,
    ⟨10, 896, [16], ⟨(some 17), none, .ld (.t 16) 1 false⟩⟩,
    ⟨11, 1920, [17], ⟨(some 18), none, .nc (.t 17)⟩⟩,
    ⟨12, 3968, [18], ⟨(some 19), none, .fa (.t 18) 2⟩⟩,
    ⟨13, 8064, [19], ⟨(some 20), none, .ld (.t 19) 1 false⟩⟩,
    ⟨14, 0, [0], ⟨(some 21), none, .mv (.t 0)⟩⟩,
    ⟨15, 16384, [21], ⟨(some 22), none, .nc (.t 21)⟩⟩,
    ⟨16, 49152, [22], ⟨(some 23), none, .fa (.t 22) 7⟩⟩,
    ⟨17, 114688, [23], ⟨(some 24), none, .ld (.t 23) 1 false⟩⟩,
    ⟨18, 262016, [20, 24], ⟨(some 25), none, .ib .add (.t 20) (.t 24)⟩⟩,
    ⟨19, 524287, [13, 25], ⟨(some 26), none, .ca 160 [(.t 13), (.t 25)]⟩⟩,
    ⟨20, 1048575, [26], ⟨(some 6), none, .mv (.t 26)⟩⟩,
    ⟨21, 2097151, [6], ⟨(some 27), none, .ex (.t 6) 0⟩⟩,
    ⟨22, 2097151, [6], ⟨(some 28), none, .ex (.t 6) 1⟩⟩,
    ⟨23, 4194303, [27], ⟨(some 2), none, .mv (.t 27)⟩⟩,
    ⟨24, 16777215, [28], ⟨(some 3), none, .mv (.t 28)⟩⟩])
  (.sq (.sq (.rg [⟨(some 30), none, .mv (.t 2)⟩,
    ⟨(some 31), none, .ca 197 [(.t 30)]⟩,
    ⟨(some 29), none, .mv (.t 31)⟩,
    ⟨(some 32), none, .ex (.t 29) 0⟩,
    ⟨(some 33), none, .ex (.t 29) 1⟩,
    ⟨(some 4), none, .mv (.t 32)⟩,
    ⟨(some 5), none, .mv (.t 33)⟩])
  (.sq (.rg [⟨(some 34), none, .mv (.t 5)⟩,
    ⟨(some 35), none, .mv (.t 34)⟩,
    ⟨(some 36), (some (35, true)), .mv (.t 4)⟩,
    ⟨(some 37), (some (35, true)), .mv (.t 0)⟩,
    ⟨(some 38), (some (35, true)), .nc (.t 37)⟩,
    ⟨(some 39), (some (35, true)), .fa (.t 38) 6⟩,
    ⟨(some 40), (some (35, true)), .ld (.t 39) 1 false⟩,
    ⟨(some 41), (some (35, true)), .ca 92 [(.t 40)]⟩,
    ⟨(some 42), (some (35, true)), .ib .neq (.t 36) (.t 41)⟩,
    ⟨(some 43), none, .pk (.t 35) (.t 42) (.c (.bool false))⟩])
  (.cd (.t 43)
  .rt
  .sk)))
  (.sq (.rg [⟨(some 44), none, .mv (.t 0)⟩,
    ⟨(some 45), none, .nc (.t 44)⟩,
    ⟨(some 46), none, .fa (.t 45) 7⟩,
    ⟨(some 47), none, .ld (.t 46) 1 false⟩,
    ⟨(some 48), none, .ib .add (.t 47) (.c (.int .i64 1))⟩,
    ⟨(some 49), none, .nc (.t 44)⟩,
    ⟨(some 50), none, .fa (.t 49) 7⟩,
    ⟨none, none, .st (.t 50) (.t 48) 1⟩])
  (.sq (.rd [⟨0, 0, [0], ⟨(some 51), none, .mv (.t 0)⟩⟩,
    ⟨1, 1, [51], ⟨(some 52), none, .nc (.t 51)⟩⟩,
    ⟨2, 3, [52], ⟨(some 53), none, .fa (.t 52) 7⟩⟩,
    ⟨3, 7, [53], ⟨(some 54), none, .ld (.t 53) 1 false⟩⟩,
    ⟨4, 0, [0], ⟨(some 55), none, .mv (.t 0)⟩⟩,
    ⟨5, 16, [55], ⟨(some 56), none, .nc (.t 55)⟩⟩,
    ⟨6, 48, [56], ⟨(some 57), none, .fa (.t 56) 5⟩⟩,
    ⟨7, 112, [57], ⟨(some 58), none, .ld (.t 57) 1 false⟩⟩,
    ⟨8, 240, [58], ⟨(some 59), none, .nc (.t 58)⟩⟩,
    ⟨9, 496, [59], ⟨(some 60), none, .fa (.t 59) 3⟩⟩,
    ⟨10, 1008, [60], ⟨(some 61), none, .ld (.t 60) 1 false⟩⟩,
    ⟨11, 2047, [54, 61], ⟨(some 62), none, .ib .lss (.t 54) (.t 61)⟩⟩])
  (.cd (.t 62)
  (.rg [⟨(some 63), none, .mv (.t 0)⟩,
    ⟨(some 64), none, .nc (.t 63)⟩,
    ⟨(some 65), none, .fa (.t 64) 0⟩,
    ⟨(some 66), none, .mv (.t 0)⟩,
    ⟨(some 67), none, .mf (.func 182) [(.t 66)] []⟩,
    ⟨(some 68), none, .ca 114 [(.t 65), (.t 67)]⟩])
  (.rg [⟨(some 69), none, .mv (.t 0)⟩,
    ⟨(some 70), none, .nc (.t 69)⟩,
    ⟨(some 71), none, .fa (.t 70) 0⟩,
    ⟨(some 72), none, .mv (.t 0)⟩,
    ⟨(some 73), none, .mf (.func 198) [(.t 72)] []⟩,
    ⟨(some 74), none, .ca 114 [(.t 71), (.t 73)]⟩]))))))⟩
theorem k182 : cF Tryz.prog Tryz.f182 = some c182 := by kernel_rfl
/-- (*rundale/run.Machine).through -/
def c183 : Fu := ⟨9, [],
  (.sq (.rg [⟨(some 2), none, .mv (.t 0)⟩,
    ⟨(some 3), none, .nc (.t 2)⟩,
    ⟨(some 4), none, .fa (.t 3) 1⟩,
    ⟨(some 5), none, .ld (.t 4) 1 false⟩,
    ⟨(some 6), none, .cl (.t 5) []⟩])
  (.rg [⟨(some 7), none, .mv (.t 0)⟩,
    ⟨(some 8), none, .ca 157 [(.t 7)]⟩]))⟩
theorem k183 : cF Tryz.prog Tryz.f183 = some c183 := by kernel_rfl
/-- (*rundale/gather.Collect).over -/
def c184 : Fu := ⟨2, [],
  .sk⟩
theorem k184 : cF Tryz.prog Tryz.f184 = some c184 := by kernel_rfl
/-- (*rundale/cells.Cells).stroke -/
def c185 : Fu := ⟨43, [.t 10],
  (.sq (.rg [⟨(some 10), none, .mv (.c (.int .u64 0))⟩])
  (.sq (.rg [⟨(some 12), none, .mv (.t 0)⟩,
    ⟨(some 13), none, .nc (.t 12)⟩,
    ⟨(some 14), none, .fa (.t 13) 0⟩,
    ⟨(some 15), none, .ld (.t 14) 1 false⟩,
    ⟨(some 16), none, .mv (.t 2)⟩,
    ⟨(some 17), none, .ia (.t 15) (.t 16) 1⟩,
    ⟨(some 18), none, .ld (.t 17) 1 false⟩,
    ⟨(some 11), none, .mv (.t 18)⟩])
  (.sq (.rg [⟨(some 19), none, .mv (.t 0)⟩,
    ⟨(some 20), none, .nc (.t 19)⟩,
    ⟨(some 21), none, .fa (.t 20) 0⟩,
    ⟨(some 22), none, .ld (.t 21) 1 false⟩,
    ⟨(some 23), none, .mv (.t 2)⟩,
    ⟨(some 24), none, .mv (.t 3)⟩,
    ⟨(some 25), none, .ia (.t 22) (.t 23) 1⟩,
    ⟨none, none, .st (.t 25) (.t 24) 1⟩])
  (.sq (.rg [⟨(some 26), none, .mv (.t 0)⟩,
    ⟨(some 27), none, .nc (.t 26)⟩,
    ⟨(some 28), none, .fa (.t 27) 1⟩,
    ⟨(some 29), none, .ld (.t 28) 1 false⟩,
    ⟨(some 30), none, .ib .add (.t 29) (.c (.int .i64 1))⟩,
    ⟨(some 31), none, .nc (.t 26)⟩,
    ⟨(some 32), none, .fa (.t 31) 1⟩,
    ⟨none, none, .st (.t 32) (.t 30) 1⟩])
  (.sq (.rg [⟨(some 33), none, .mv (.t 0)⟩,
    ⟨(some 34), none, .mv (.t 1)⟩,
    ⟨(some 35), none, .mv (.t 2)⟩,
    ⟨(some 36), none, .mv (.t 11)⟩,
    ⟨(some 37), none, .mv (.t 3)⟩,
    ⟨(some 38), none, .mv (.t 4)⟩,
    ⟨(some 39), none, .bd [(.int .i64 0), (.int .i64 0), (.int .u64 0), (.int .u64 0), (.bool false)] [(0, 1, (.t 34)), (1, 1, (.t 35)), (2, 1, (.t 36)), (3, 1, (.t 37)), (4, 1, (.t 38))]⟩,
    ⟨(some 40), none, .nc (.t 33)⟩,
    ⟨(some 41), none, .fa (.t 40) 2⟩,
    ⟨none, none, .st (.t 41) (.t 39) 5⟩])
  (.sq (.rg [⟨(some 42), none, .mv (.t 11)⟩,
    ⟨(some 10), none, .mv (.t 42)⟩])
  .rt))))))⟩
theorem k185 : cF Tryz.prog Tryz.f185 = some c185 := by kernel_rfl
/-- rundale/word.PutPin -/
def c186 : Fu := ⟨12, [.t 2, .t 3],
  (.sq (.rg [⟨(some 2), none, .mv (.c (.int .u64 0))⟩,
    ⟨(some 3), none, .mv (.c (.bool false))⟩])
  (.sq (.sq (.rg [⟨(some 4), none, .mv (.t 0)⟩,
    ⟨(some 5), none, .ca 190 [(.t 4), (.c (.int .i64 0)), (.c (.int .i64 4611686018427387903))]⟩,
    ⟨(some 6), none, .nt (.t 5)⟩])
  (.cd (.t 6)
  (.sq (.rg [⟨(some 2), none, .mv (.c (.int .u64 0))⟩,
    ⟨(some 3), none, .mv (.c (.bool false))⟩])
  .rt)
  .sk))
  (.sq (.rg [⟨(some 7), none, .mv (.t 0)⟩,
    ⟨(some 8), none, .cv .u64 (.t 7)⟩,
    ⟨(some 9), none, .ca 191 [(.c (.int .u64 1)), (.c (.int .i64 1)), (.c (.int .i64 63)), (.t 8)]⟩,
    ⟨(some 10), none, .ex (.t 9) 0⟩,
    ⟨(some 11), none, .ex (.t 9) 1⟩,
    ⟨(some 2), none, .mv (.t 10)⟩,
    ⟨(some 3), none, .mv (.t 11)⟩])
  .rt)))⟩
theorem k186 : cF Tryz.prog Tryz.f186 = some c186 := by kernel_rfl
/-- (*rundale/cells.Cells).Store -/
def c187 : Fu := ⟨15, [.t 6],
  (.sq (.rg [⟨(some 6), none, .mv (.c (.int .i64 0))⟩])
  (.sq (.sq (.rg [⟨(some 7), none, .mv (.t 0)⟩,
    ⟨(some 8), none, .mv (.t 1)⟩,
    ⟨(some 9), none, .ca 110 [(.t 7), (.t 8)]⟩,
    ⟨(some 10), none, .nt (.t 9)⟩])
  (.cd (.t 10)
  (.sq (.rg [⟨(some 6), none, .mv (.c (.int .i64 1))⟩])
  .rt)
  .sk))
  (.sq (.rg [⟨(some 11), none, .mv (.t 0)⟩,
    ⟨(some 12), none, .mv (.t 1)⟩,
    ⟨(some 13), none, .mv (.t 2)⟩,
    ⟨(some 14), none, .ca 185 [(.t 11), (.c (.int .i64 2)), (.t 12), (.t 13), (.c (.bool true))]⟩])
  (.sq (.rg [⟨(some 6), none, .mv (.c (.int .i64 0))⟩])
  .rt))))⟩
theorem k187 : cF Tryz.prog Tryz.f187 = some c187 := by kernel_rfl
/-- (*rundale/stack.Pop).load -/
def c188 : Fu := ⟨54, [],
  (.sq (.rd [⟨0, 0, [0], ⟨(some 4), none, .mv (.t 0)⟩⟩,
    ⟨1, 0, [0], ⟨(some 5), none, .mv (.t 0)⟩⟩,
    ⟨2, 2, [5], ⟨(some 6), none, .nc (.t 5)⟩⟩,
    ⟨3, 6, [6], ⟨(some 7), none, .fa (.t 6) 5⟩⟩,
    ⟨4, 14, [7], ⟨(some 8), none, .ld (.t 7) 1 false⟩⟩,
    ⟨5, 30, [8], ⟨(some 9), none, .nc (.t 8)⟩⟩,
    ⟨6, 62, [9], ⟨(some 10), none, .fa (.t 9) 0⟩⟩,
    ⟨7, 126, [10], ⟨(some 11), none, .ld (.t 10) 1 false⟩⟩,
    ⟨8, 0, [0], ⟨(some 12), none, .mv (.t 0)⟩⟩,
    ⟨9, 256, [12], ⟨(some 13), none, .nc (.t 12)⟩⟩,
    ⟨10, 768, [13], ⟨(some 14), none, .fa (.t 13) 5⟩⟩,
    ⟨11, 1792, [14], ⟨(some 15), none, .ld (.t 14) 1 false⟩⟩,
    ⟨12, 3840, [15], ⟨(some 16), none, .nc (.t 15)⟩⟩,
    ⟨13, 7936, [16], ⟨(some 17), none, .fa (.t 16) 1⟩⟩,
    ⟨14, 16128, [17], ⟨(some 18), none, .ld (.t 17) 1 false⟩⟩,
    ⟨15, 32766, [11, 18], ⟨(some 19), none, .ca 160 [(.t 11), (.t 18)]⟩⟩,
    ⟨16, 65534, [19], ⟨(some 3), none, .mv (.t 19)⟩⟩,
    ⟨17, 131070, [3], ⟨(some 20), none, .ex (.t 3) 0⟩⟩,
    ⟨18, 131070, [3], ⟨(some 21), none, .ex (.t 3) 1⟩⟩,
    ⟨19, 262143, [4], ⟨(some 22), none, .nc (.t 4)⟩⟩,
    ⟨20, 786431, [22], ⟨(some 23), none, .fa (.t 22) 8⟩⟩,
    ⟨21, 1835007, [23, 20], ⟨none, none, .st (.t 23) (.t 20) 1⟩⟩])
  (.sq (.rg [⟨(some 24), none, .mv (.t 0)⟩,
    ⟨(some 25), none, .nc (.t 24)⟩,
    ⟨(some 26), none, .fa (.t 25) 9⟩,
    ⟨none, none, .st (.t 26) (.c (.slice none 0 0)) 1⟩])
  (.sq (.rd [⟨0, 0, [0], ⟨(some 27), none, .mv (.t 0)⟩⟩,
    ⟨1, 1, [27], ⟨(some 28), none, .nc (.t 27)⟩⟩,
    ⟨2, 3, [28], ⟨(some 29), none, .fa (.t 28) 5⟩⟩,
    ⟨3, 7, [29], ⟨(some 30), none, .ld (.t 29) 1 false⟩⟩,
    ⟨4, 0, [0], ⟨(some 31), none, .mv (.t 0)⟩⟩,
    ⟨5, 16, [31], ⟨(some 32), none, .nc (.t 31)⟩⟩,
    ⟨6, 48, [32], ⟨(some 33), none, .fa (.t 32) 8⟩⟩,
    ⟨7, 112, [33], ⟨(some 34), none, .ld (.t 33) 1 false⟩⟩,
    ⟨8, 255, [30, 34], ⟨(some 35), none, .ca 77 [(.t 30), (.t 34)]⟩⟩,
    ⟨9, 511, [35], ⟨(some 2), none, .mv (.t 35)⟩⟩])
  (.sq (.rg [⟨(some 36), none, .mv (.t 2)⟩,
    ⟨(some 37), none, .ib .geq (.t 36) (.c (.int .i64 0))⟩])
  (.cd (.t 37)
  (.sq (.rg [⟨(some 38), none, .mv (.t 0)⟩,
    ⟨(some 39), none, .mv (.t 0)⟩,
    ⟨(some 40), none, .nc (.t 39)⟩,
    ⟨(some 41), none, .fa (.t 40) 9⟩,
    ⟨(some 42), none, .ld (.t 41) 1 false⟩,
    ⟨(some 43), none, .mv (.t 2)⟩,
    ⟨(some 44), none, .bs 3 1 [(.int .i64 0)] [(0, 1, (.t 43))]⟩,
    ⟨(some 45), none, .ap 49 3 1 8 [(.int .i64 0)] (.t 42) (.t 44)⟩,
    ⟨(some 46), none, .nc (.t 38)⟩,
    ⟨(some 47), none, .fa (.t 46) 9⟩,
    ⟨none, none, .st (.t 47) (.t 45) 1⟩])
  (.rg [⟨(some 48), none, .mv (.t 0)⟩,
    ⟨(some 49), none, .nc (.t 48)⟩,
    ⟨(some 50), none, .fa (.t 49) 0⟩,
    ⟨(some 51), none, .mv (.t 0)⟩,
    ⟨(some 52), none, .mf (.func 199) [(.t 51)] []⟩,
    ⟨(some 53), none, .ca 114 [(.t 50), (.t 52)]⟩]))
  .sk)))))⟩
theorem k188 : cF Tryz.prog Tryz.f188 = some c188 := by kernel_rfl
/-- (*rundale/stack.Pop).Got -/
def c189 : Fu := ⟨11, [.t 2],
  (.sq (.rg [⟨(some 2), none, .mv (.c (.slice none 0 0))⟩])
  (.sq (.sq (.rg [⟨(some 3), none, .mv (.t 0)⟩,
    ⟨(some 4), none, .ca 165 [(.t 3)]⟩,
    ⟨(some 5), none, .nt (.t 4)⟩])
  (.cd (.t 5)
  (.sq (.rg [⟨(some 2), none, .mv (.c (.slice none 0 0))⟩])
  .rt)
  .sk))
  (.sq (.rg [⟨(some 6), none, .mv (.t 0)⟩,
    ⟨(some 7), none, .nc (.t 6)⟩,
    ⟨(some 8), none, .fa (.t 7) 9⟩,
    ⟨(some 9), none, .ld (.t 8) 1 false⟩,
    ⟨(some 10), none, .ca 134 [(.t 9)]⟩,
    ⟨(some 2), none, .mv (.t 10)⟩])
  .rt)))⟩
theorem k189 : cF Tryz.prog Tryz.f189 = some c189 := by kernel_rfl
/-- rundale/word.within -/
def c190 : Fu := ⟨15, [.t 6],
  (.sq (.rg [⟨(some 6), none, .mv (.c (.bool false))⟩])
  (.sq (.rg [⟨(some 7), none, .mv (.t 0)⟩,
    ⟨(some 8), none, .mv (.t 1)⟩,
    ⟨(some 9), none, .ib .geq (.t 7) (.t 8)⟩,
    ⟨(some 10), none, .mv (.t 9)⟩,
    ⟨(some 11), (some (10, true)), .mv (.t 0)⟩,
    ⟨(some 12), (some (10, true)), .mv (.t 2)⟩,
    ⟨(some 13), (some (10, true)), .ib .leq (.t 11) (.t 12)⟩,
    ⟨(some 14), none, .pk (.t 10) (.t 13) (.c (.bool false))⟩,
    ⟨(some 6), none, .mv (.t 14)⟩])
  .rt))⟩
theorem k190 : cF Tryz.prog Tryz.f190 = some c190 := by kernel_rfl
/-- rundale/bits.Put -/
def c191 : Fu := ⟨30, [.t 8, .t 9],
  (.sq (.rg [⟨(some 8), none, .mv (.c (.int .u64 0))⟩,
    ⟨(some 9), none, .mv (.c (.bool false))⟩])
  (.sq (.sq (.rg [⟨(some 10), none, .mv (.t 1)⟩,
    ⟨(some 11), none, .mv (.t 2)⟩,
    ⟨(some 12), none, .ca 194 [(.t 10), (.t 11)]⟩,
    ⟨(some 13), none, .nt (.t 12)⟩,
    ⟨(some 14), none, .mv (.t 13)⟩,
    ⟨(some 15), (some (14, false)), .mv (.t 3)⟩,
    ⟨(some 16), (some (14, false)), .mv (.t 2)⟩,
    ⟨(some 17), (some (14, false)), .ca 200 [(.t 15), (.t 16)]⟩,
    ⟨(some 18), (some (14, false)), .nt (.t 17)⟩,
    ⟨(some 19), none, .pk (.t 14) (.c (.bool true)) (.t 18)⟩])
  (.cd (.t 19)
  (.sq (.rg [⟨(some 8), none, .mv (.c (.int .u64 0))⟩,
    ⟨(some 9), none, .mv (.c (.bool false))⟩])
  .rt)
  .sk))
  (.sq (.rd [⟨0, 0, [0], ⟨(some 20), none, .mv (.t 0)⟩⟩,
    ⟨1, 0, [2], ⟨(some 21), none, .mv (.t 2)⟩⟩,
    ⟨2, 2, [21], ⟨(some 22), none, .ca 195 [(.t 21)]⟩⟩,
    ⟨3, 0, [1], ⟨(some 23), none, .mv (.t 1)⟩⟩,
    ⟨4, 14, [22, 23], ⟨(some 24), none, .ib .shl (.t 22) (.t 23)⟩⟩,
    ⟨5, 31, [20, 24], ⟨(some 25), none, .ib .andNot (.t 20) (.t 24)⟩⟩,
    ⟨6, 0, [3], ⟨(some 26), none, .mv (.t 3)⟩⟩,
    ⟨7, 0, [1], ⟨(some 27), none, .mv (.t 1)⟩⟩,
    ⟨8, 192, [26, 27], ⟨(some 28), none, .ib .shl (.t 26) (.t 27)⟩⟩,
    ⟨9, 511, [25, 28], ⟨(some 29), none, .ib .or (.t 25) (.t 28)⟩⟩,
    ⟨10, 1023, [29], ⟨(some 8), none, .mv (.t 29)⟩⟩,
    ⟨11, 2047, [], ⟨(some 9), none, .mv (.c (.bool true))⟩⟩])
  .rt)))⟩
theorem k191 : cF Tryz.prog Tryz.f191 = some c191 := by kernel_rfl
/-- slices.Index[[]int,int] -/
def c192 : Fu := ⟨19, [.t 4],
  (.sq (.rg [⟨(some 4), none, .mv (.c (.int .i64 0))⟩])
  (.sq (.sq (.rg [⟨(some 6), none, .mv (.t 0)⟩,
    ⟨(some 7), none, .len (.t 6)⟩,
    ⟨(some 8), none, .mv (.c (.int .i64 0))⟩])
  (.bl 0
  (.lp
  (.sq (.rg [⟨(some 9), none, .ib .lss (.t 8) (.t 7)⟩])
  (.sq (.cd (.t 9)
  .sk
  (.ex 0))
  (.sq (.bl 1
  (.sq (.rg [⟨(some 10), none, .mv (.t 8)⟩,
    ⟨(some 5), none, .mv (.t 10)⟩])
  (.sq (.rg [⟨(some 11), none, .mv (.t 1)⟩,
    ⟨(some 12), none, .mv (.t 0)⟩,
    ⟨(some 13), none, .mv (.t 5)⟩,
    ⟨(some 14), none, .ia (.t 12) (.t 13) 1⟩,
    ⟨(some 15), none, .ld (.t 14) 1 false⟩,
    ⟨(some 16), none, .ib .eql (.t 11) (.t 15)⟩])
  (.cd (.t 16)
  (.sq (.rg [⟨(some 17), none, .mv (.t 5)⟩,
    ⟨(some 4), none, .mv (.t 17)⟩])
  .rt)
  .sk))))
  (.rg [⟨(some 18), none, .ib .add (.t 8) (.c (.int .i64 1))⟩,
    ⟨(some 8), none, .mv (.t 18)⟩])))))))
  (.sq (.rg [⟨(some 4), none, .mv (.c (.int .i64 (-1)))⟩])
  .rt)))⟩
theorem k192 : cF Tryz.prog Tryz.f192 = some c192 := by kernel_rfl
/-- (*rundale/stack.Push).last -/
def c193 : Fu := ⟨47, [],
  (.sq (.rd [⟨0, 0, [0], ⟨(some 2), none, .mv (.t 0)⟩⟩,
    ⟨1, 1, [2], ⟨(some 3), none, .nc (.t 2)⟩⟩,
    ⟨2, 3, [3], ⟨(some 4), none, .fa (.t 3) 5⟩⟩,
    ⟨3, 7, [4], ⟨(some 5), none, .ld (.t 4) 1 false⟩⟩,
    ⟨4, 15, [5], ⟨(some 6), none, .nc (.t 5)⟩⟩,
    ⟨5, 31, [6], ⟨(some 7), none, .fa (.t 6) 0⟩⟩,
    ⟨6, 63, [7], ⟨(some 8), none, .ld (.t 7) 1 false⟩⟩,
    ⟨7, 0, [0], ⟨(some 9), none, .mv (.t 0)⟩⟩,
    ⟨8, 128, [9], ⟨(some 10), none, .nc (.t 9)⟩⟩,
    ⟨9, 384, [10], ⟨(some 11), none, .fa (.t 10) 5⟩⟩,
    ⟨10, 896, [11], ⟨(some 12), none, .ld (.t 11) 1 false⟩⟩,
    ⟨11, 1920, [12], ⟨(some 13), none, .nc (.t 12)⟩⟩,
    ⟨12, 3968, [13], ⟨(some 14), none, .fa (.t 13) 2⟩⟩,
    ⟨13, 8064, [14], ⟨(some 15), none, .ld (.t 14) 1 false⟩⟩,
    ⟨14, 0, [0], ⟨(some 16), none, .mv (.t 0)⟩⟩,
    ⟨15, 16384, [16], ⟨(some 17), none, .nc (.t 16)⟩⟩,
    ⟨16, 49152, [17], ⟨(some 18), none, .fa (.t 17) 6⟩⟩,
    ⟨17, 114688, [18], ⟨(some 19), none, .ld (.t 18) 1 false⟩⟩,
    ⟨18, 0, [0], ⟨(some 20), none, .mv (.t 0)⟩⟩,
    ⟨19, 262144, [20], ⟨(some 21), none, .nc (.t 20)⟩⟩,
    ⟨20, 786432, [21], ⟨(some 22), none, .fa (.t 21) 6⟩⟩,
    ⟨21, 1835008, [22], ⟨(some 23), none, .ld (.t 22) 1 false⟩⟩,
    ⟨22, 3932160, [23], ⟨(some 24), none, .len (.t 23)⟩⟩,
    ⟨23, 8126464, [24], ⟨(some 25), none, .ib .sub (.t 24) (.c (.int .i64 1))⟩⟩,
    ⟨24, 16760832, [19, 25], ⟨(some 26), none, .ia (.t 19) (.t 25) 1⟩⟩,
    ⟨25, 33538048, [26], ⟨(some 27), none, .ld (.t 26) 1 false⟩⟩,
    ⟨26, 67108736, [15, 27], ⟨(some 28), none, .ib .add (.t 15) (.t 27)⟩⟩,
    ⟨27, 0, [0], ⟨(some 29), none, .mv (.t 0)⟩⟩,
    ⟨28, 134217728, [29], ⟨(some 30), none, .nc (.t 29)⟩⟩,
    ⟨29, 402653184, [30], ⟨(some 31), none, .fa (.t 30) 5⟩⟩,
    ⟨30, 939524096, [31], ⟨(some 32), none, .ld (.t 31) 1 false⟩⟩,
    ⟨31, 0, [0], ⟨(some 33), none, .mv (.t 0)⟩⟩,
    ⟨32, 2147483648, [33], ⟨(some 34), none, .nc (.t 33)⟩⟩,
    ⟨33, 6442450944, [34], ⟨(some 35), none, .fa (.t 34) 8⟩⟩,
    ⟨34, 15032385536, [35], ⟨(some 36), none, .ld (.t 35) 1 false⟩⟩,
    ⟨35, 34225520640, [32, 36], ⟨(some 37), none, .ca 77 [(.t 32), (.t 36)]⟩⟩,
    ⟨36, 68585259008, [37], ⟨(some 38), none, .ib .add (.t 37) (.c (.int .i64 1))⟩⟩,
    ⟨37, 137304735744, [38], ⟨(some 39), none, .cv .u64 (.t 38)⟩⟩,
    ⟨38, 274877906943, [8, 28, 39], ⟨(some 40), none, .ca 187 [(.t 8), (.t 28), (.t 39)]⟩⟩])
  (.rg [⟨(some 41), none, .mv (.t 0)⟩,
    ⟨(some 42), none, .nc (.t 41)⟩,
    ⟨(some 43), none, .fa (.t 42) 0⟩,
    ⟨(some 44), none, .mv (.t 0)⟩,
    ⟨(some 45), none, .mf (.func 201) [(.t 44)] []⟩,
    ⟨(some 46), none, .ca 114 [(.t 43), (.t 45)]⟩]))⟩
theorem k193 : cF Tryz.prog Tryz.f193 = some c193 := by kernel_rfl
/-- rundale/bits.field -/
def c194 : Fu := ⟨21, [.t 4],
  (.sq (.rg [⟨(some 4), none, .mv (.c (.bool false))⟩])
  (.sq (.rg [⟨(some 5), none, .mv (.t 1)⟩,
    ⟨(some 6), none, .ib .geq (.t 5) (.c (.int .i64 0))⟩,
    ⟨(some 7), none, .mv (.t 6)⟩,
    ⟨(some 8), (some (7, true)), .mv (.t 1)⟩,
    ⟨(some 9), (some (7, true)), .ib .leq (.t 8) (.c (.int .i64 64))⟩,
    ⟨(some 10), none, .pk (.t 7) (.t 9) (.c (.bool false))⟩,
    ⟨(some 11), none, .mv (.t 10)⟩,
    ⟨(some 12), (some (11, true)), .mv (.t 0)⟩,
    ⟨(some 13), (some (11, true)), .ib .geq (.t 12) (.c (.int .i64 0))⟩,
    ⟨(some 14), none, .pk (.t 11) (.t 13) (.c (.bool false))⟩,
    ⟨(some 15), none, .mv (.t 14)⟩,
    ⟨(some 16), (some (15, true)), .mv (.t 0)⟩,
    ⟨(some 17), (some (15, true)), .mv (.t 1)⟩,
    ⟨(some 18), (some (15, true)), .ib .sub (.c (.int .i64 64)) (.t 17)⟩,
    ⟨(some 19), (some (15, true)), .ib .leq (.t 16) (.t 18)⟩,
    ⟨(some 20), none, .pk (.t 15) (.t 19) (.c (.bool false))⟩,
    ⟨(some 4), none, .mv (.t 20)⟩])
  .rt))⟩
theorem k194 : cF Tryz.prog Tryz.f194 = some c194 := by kernel_rfl
/-- rundale/bits.Mask -/
def c195 : Fu := ⟨8, [.t 2],
  (.sq (.rg [⟨(some 2), none, .mv (.c (.int .u64 0))⟩])
  (.sq (.rg [⟨(some 3), none, .mv (.t 0)⟩,
    ⟨(some 4), none, .mm true (.t 3) (.c (.int .i64 0))⟩,
    ⟨(some 5), none, .mm false (.t 4) (.c (.int .i64 64))⟩,
    ⟨(some 6), none, .ib .shl (.c (.int .u64 1)) (.t 5)⟩,
    ⟨(some 7), none, .ib .sub (.t 6) (.c (.int .u64 1))⟩,
    ⟨(some 2), none, .mv (.t 7)⟩])
  .rt))⟩
theorem k195 : cF Tryz.prog Tryz.f195 = some c195 := by kernel_rfl
/-- rundale/rundaleref1.Next -/
def c196 : Fu := ⟨20, [.c 4 2 true],
  (.sq (.rg [⟨(some 2), none, .bx 219 (.t 0)⟩,
    ⟨(some 4), none, .al 219 [(.int .i64 0), (.int .i64 0)]⟩])
  (.sq (.sq (.rg [⟨(some 5), none, .fa (.t 2) 1⟩,
    ⟨(some 6), none, .ld (.t 5) 1 false⟩,
    ⟨(some 7), none, .ib .lss (.t 6) (.c (.int .i64 0))⟩,
    ⟨(some 8), none, .mv (.t 7)⟩,
    ⟨(some 9), (some (8, false)), .fa (.t 2) 1⟩,
    ⟨(some 10), (some (8, false)), .ld (.t 9) 1 false⟩,
    ⟨(some 11), (some (8, false)), .ib .geq (.t 10) (.c (.int .i64 4294967295))⟩,
    ⟨(some 12), none, .pk (.t 8) (.c (.bool true)) (.t 11)⟩])
  (.cd (.t 12)
  (.sq (.rg [⟨(some 13), none, .mv (.t 1)⟩,
    ⟨(some 14), none, .bd [(.int .i64 0), (.int .i64 0)] [(0, 1, (.t 13)), (1, 1, (.c (.int .i64 0)))]⟩,
    ⟨none, none, .st (.t 4) (.t 14) 2⟩])
  .rt)
  .sk))
  (.sq (.rg [⟨(some 15), none, .mv (.t 1)⟩,
    ⟨(some 16), none, .fa (.t 2) 1⟩,
    ⟨(some 17), none, .ld (.t 16) 1 false⟩,
    ⟨(some 18), none, .ib .add (.t 17) (.c (.int .i64 1))⟩,
    ⟨(some 19), none, .bd [(.int .i64 0), (.int .i64 0)] [(0, 1, (.t 15)), (1, 1, (.t 18))]⟩,
    ⟨none, none, .st (.t 4) (.t 19) 2⟩])
  .rt)))⟩
theorem k196 : cF Tryz.prog Tryz.f196 = some c196 := by kernel_rfl
/-- rundale/word.GetPin -/
def c197 : Fu := ⟨10, [.t 2, .t 3],
  (.sq (.rg [⟨(some 2), none, .mv (.c (.int .i64 0))⟩,
    ⟨(some 3), none, .mv (.c (.bool false))⟩])
  (.sq (.sq (.rg [⟨(some 4), none, .mv (.t 0)⟩,
    ⟨(some 5), none, .ca 173 [(.t 4), (.c (.int .i64 0)), (.c (.int .i64 1))]⟩,
    ⟨(some 6), none, .ib .eql (.t 5) (.c (.int .u64 0))⟩])
  (.cd (.t 6)
  (.sq (.rg [⟨(some 2), none, .mv (.c (.int .i64 0))⟩,
    ⟨(some 3), none, .mv (.c (.bool false))⟩])
  .rt)
  .sk))
  (.sq (.rg [⟨(some 7), none, .mv (.t 0)⟩,
    ⟨(some 8), none, .ca 173 [(.t 7), (.c (.int .i64 1)), (.c (.int .i64 63))]⟩,
    ⟨(some 9), none, .cv .i64 (.t 8)⟩,
    ⟨(some 2), none, .mv (.t 9)⟩,
    ⟨(some 3), none, .mv (.c (.bool true))⟩])
  .rt)))⟩
theorem k197 : cF Tryz.prog Tryz.f197 = some c197 := by kernel_rfl
/-- (*rundale/epoch.Advance).cas -/
def c198 : Fu := ⟨32, [],
  (.rd [⟨0, 0, [0], ⟨(some 3), none, .mv (.t 0)⟩⟩,
    ⟨1, 0, [0], ⟨(some 4), none, .mv (.t 0)⟩⟩,
    ⟨2, 2, [4], ⟨(some 5), none, .nc (.t 4)⟩⟩,
    ⟨3, 6, [5], ⟨(some 6), none, .fa (.t 5) 5⟩⟩,
    ⟨4, 14, [6], ⟨(some 7), none, .ld (.t 6) 1 false⟩⟩,
    ⟨5, 30, [7], ⟨(some 8), none, .nc (.t 7)⟩⟩,
    ⟨6, 62, [8], ⟨(some 9), none, .fa (.t 8) 0⟩⟩,
    ⟨7, 126, [9], ⟨(some 10), none, .ld (.t 9) 1 false⟩⟩,
    ⟨8, 0, [0], ⟨(some 11), none, .mv (.t 0)⟩⟩,
    ⟨9, 256, [11], ⟨(some 12), none, .nc (.t 11)⟩⟩,
    ⟨10, 768, [12], ⟨(some 13), none, .fa (.t 12) 5⟩⟩,
    ⟨11, 1792, [13], ⟨(some 14), none, .ld (.t 13) 1 false⟩⟩,
    ⟨12, 3840, [14], ⟨(some 15), none, .nc (.t 14)⟩⟩,
    ⟨13, 7936, [15], ⟨(some 16), none, .fa (.t 15) 1⟩⟩,
    ⟨14, 16128, [16], ⟨(some 17), none, .ld (.t 16) 1 false⟩⟩,
    ⟨15, 0, [0], ⟨(some 18), none, .mv (.t 0)⟩⟩,
    ⟨16, 32768, [18], ⟨(some 19), none, .nc (.t 18)⟩⟩,
    ⟨17, 98304, [19], ⟨(some 20), none, .fa (.t 19) 6⟩⟩,
    ⟨18, 229376, [20], ⟨(some 21), none, .ld (.t 20) 1 false⟩⟩,
    ⟨19, 0, [0], ⟨(some 22), none, .mv (.t 0)⟩⟩,
    ⟨20, 524288, [22], ⟨(some 23), none, .nc (.t 22)⟩⟩,
    ⟨21, 1572864, [23], ⟨(some 24), none, .fa (.t 23) 6⟩⟩,
    ⟨22, 3670016, [24], ⟨(some 25), none, .ld (.t 24) 1 false⟩⟩,
    ⟨23, 7864320, [25], ⟨(some 26), none, .ib .add (.t 25) (.c (.int .u64 1))⟩⟩,
    ⟨24, 16777214, [10, 17, 21, 26], ⟨(some 27), none, .ca 202 [(.t 10), (.t 17), (.t 21), (.t 26)]⟩⟩,
    ⟨25, 33554430, [27], ⟨(some 2), none, .mv (.t 27)⟩⟩,
    ⟨26, 67108862, [2], ⟨(some 28), none, .ex (.t 2) 0⟩⟩,
    ⟨27, 67108862, [2], ⟨(some 29), none, .ex (.t 2) 1⟩⟩,
    ⟨28, 134217727, [3], ⟨(some 30), none, .nc (.t 3)⟩⟩,
    ⟨29, 402653183, [30], ⟨(some 31), none, .fa (.t 30) 8⟩⟩,
    ⟨30, 939524095, [31, 28], ⟨none, none, .st (.t 31) (.t 28) 1⟩⟩])⟩
theorem k198 : cF Tryz.prog Tryz.f198 = some c198 := by kernel_rfl
/-- (*rundale/stack.Pop).link -/
def c199 : Fu := ⟨86, [],
  (.sq (.rd [⟨0, 0, [0], ⟨(some 5), none, .mv (.t 0)⟩⟩,
    ⟨1, 1, [5], ⟨(some 6), none, .nc (.t 5)⟩⟩,
    ⟨2, 3, [6], ⟨(some 7), none, .fa (.t 6) 5⟩⟩,
    ⟨3, 7, [7], ⟨(some 8), none, .ld (.t 7) 1 false⟩⟩,
    ⟨4, 15, [8], ⟨(some 9), none, .nc (.t 8)⟩⟩,
    ⟨5, 31, [9], ⟨(some 10), none, .fa (.t 9) 0⟩⟩,
    ⟨6, 63, [10], ⟨(some 11), none, .ld (.t 10) 1 false⟩⟩,
    ⟨7, 0, [0], ⟨(some 12), none, .mv (.t 0)⟩⟩,
    ⟨8, 128, [12], ⟨(some 13), none, .nc (.t 12)⟩⟩,
    ⟨9, 384, [13], ⟨(some 14), none, .fa (.t 13) 5⟩⟩,
    ⟨10, 896, [14], ⟨(some 15), none, .ld (.t 14) 1 false⟩⟩,
    ⟨11, 1920, [15], ⟨(some 16), none, .nc (.t 15)⟩⟩,
    ⟨12, 3968, [16], ⟨(some 17), none, .fa (.t 16) 2⟩⟩,
    ⟨13, 8064, [17], ⟨(some 18), none, .ld (.t 17) 1 false⟩⟩,
    ⟨14, 0, [0], ⟨(some 19), none, .mv (.t 0)⟩⟩,
    ⟨15, 16384, [19], ⟨(some 20), none, .nc (.t 19)⟩⟩,
    ⟨16, 49152, [20], ⟨(some 21), none, .fa (.t 20) 9⟩⟩,
    ⟨17, 114688, [21], ⟨(some 22), none, .ld (.t 21) 1 false⟩⟩,
    ⟨18, 0, [0], ⟨(some 23), none, .mv (.t 0)⟩⟩,
    ⟨19, 262144, [23], ⟨(some 24), none, .nc (.t 23)⟩⟩,
    ⟨20, 786432, [24], ⟨(some 25), none, .fa (.t 24) 9⟩⟩,
    ⟨21, 1835008, [25], ⟨(some 26), none, .ld (.t 25) 1 false⟩⟩,
    ⟨22, 3932160, [26], ⟨(some 27), none, .len (.t 26)⟩⟩,
    ⟨23, 8126464, [27], ⟨(some 28), none, .ib .sub (.t 27) (.c (.int .i64 1))⟩⟩,
    ⟨24, 16760832, [22, 28], ⟨(some 29), none, .ia (.t 22) (.t 28) 1⟩⟩,
    ⟨25, 33538048, [29], ⟨(some 30), none, .ld (.t 29) 1 false⟩⟩,
    ⟨26, 67108736, [18, 30], ⟨(some 31), none, .ib .add (.t 18) (.t 30)⟩⟩,
    ⟨27, 134217727, [11, 31], ⟨(some 32), none, .ca 160 [(.t 11), (.t 31)]⟩⟩,
    ⟨28, 268435455, [32], ⟨(some 4), none, .mv (.t 32)⟩⟩,
    ⟨29, 536870911, [4], ⟨(some 33), none, .ex (.t 4) 0⟩⟩,
    ⟨30, 536870911, [4], ⟨(some 34), none, .ex (.t 4) 1⟩⟩,
    ⟨31, 1073741823, [33], ⟨(some 2), none, .mv (.t 33)⟩⟩,
    ⟨32, 4294967295, [34], ⟨(some 3), none, .mv (.t 34)⟩⟩])
  (.sq (.rg [⟨(some 35), none, .mv (.t 0)⟩,
    ⟨(some 36), none, .mv (.t 0)⟩,
    ⟨(some 37), none, .nc (.t 36)⟩,
    ⟨(some 38), none, .fa (.t 37) 5⟩,
    ⟨(some 39), none, .ld (.t 38) 1 false⟩,
    ⟨(some 40), none, .mv (.t 2)⟩,
    ⟨(some 41), none, .ca 79 [(.t 39), (.t 40)]⟩,
    ⟨(some 42), none, .nc (.t 35)⟩,
    ⟨(some 43), none, .fa (.t 42) 7⟩,
    ⟨none, none, .st (.t 43) (.t 41) 1⟩])
  (.sq (.rd [⟨0, 0, [0], ⟨(some 44), none, .mv (.t 0)⟩⟩,
    ⟨1, 1, [44], ⟨(some 45), none, .nc (.t 44)⟩⟩,
    ⟨2, 3, [45], ⟨(some 46), none, .fa (.t 45) 7⟩⟩,
    ⟨3, 7, [46], ⟨(some 47), none, .ld (.t 46) 1 false⟩⟩,
    ⟨4, 15, [47], ⟨(some 48), none, .ib .geq (.t 47) (.c (.int .i64 0))⟩⟩,
    ⟨5, 31, [48], ⟨(some 49), none, .mv (.t 48)⟩⟩,
    ⟨6, 63, [0, 49], ⟨(some 50), (some (49, true)), .mv (.t 0)⟩⟩,
    ⟨7, 127, [50, 49], ⟨(some 51), (some (49, true)), .nc (.t 50)⟩⟩,
    ⟨8, 255, [51, 49], ⟨(some 52), (some (49, true)), .fa (.t 51) 9⟩⟩,
    ⟨9, 511, [52, 49], ⟨(some 53), (some (49, true)), .ld (.t 52) 1 false⟩⟩,
    ⟨10, 1023, [53, 49], ⟨(some 54), (some (49, true)), .len (.t 53)⟩⟩,
    ⟨11, 63, [0, 49], ⟨(some 55), (some (49, true)), .mv (.t 0)⟩⟩,
    ⟨12, 2111, [55, 49], ⟨(some 56), (some (49, true)), .nc (.t 55)⟩⟩,
    ⟨13, 6207, [56, 49], ⟨(some 57), (some (49, true)), .fa (.t 56) 6⟩⟩,
    ⟨14, 14399, [57, 49], ⟨(some 58), (some (49, true)), .ld (.t 57) 1 false⟩⟩,
    ⟨15, 32767, [54, 58, 49], ⟨(some 59), (some (49, true)), .ib .lss (.t 54) (.t 58)⟩⟩,
    ⟨16, 65535, [49, 59], ⟨(some 60), none, .pk (.t 49) (.t 59) (.c (.bool false))⟩⟩])
  (.cd (.t 60)
  (.sq (.rd [⟨0, 0, [0], ⟨(some 61), none, .mv (.t 0)⟩⟩,
    ⟨1, 0, [0], ⟨(some 62), none, .mv (.t 0)⟩⟩,
    ⟨2, 2, [62], ⟨(some 63), none, .nc (.t 62)⟩⟩,
    ⟨3, 6, [63], ⟨(some 64), none, .fa (.t 63) 9⟩⟩,
    ⟨4, 14, [64], ⟨(some 65), none, .ld (.t 64) 1 false⟩⟩,
    ⟨5, 0, [0], ⟨(some 66), none, .mv (.t 0)⟩⟩,
    ⟨6, 32, [66], ⟨(some 67), none, .nc (.t 66)⟩⟩,
    ⟨7, 96, [67], ⟨(some 68), none, .fa (.t 67) 7⟩⟩,
    ⟨8, 224, [68], ⟨(some 69), none, .ld (.t 68) 1 false⟩⟩,
    ⟨9, 480, [69], ⟨(some 70), none, .bs 3 1 [(.int .i64 0)] [(0, 1, (.t 69))]⟩⟩,
    ⟨10, 1022, [65, 70], ⟨(some 71), none, .ap 49 3 1 8 [(.int .i64 0)] (.t 65) (.t 70)⟩⟩,
    ⟨11, 2047, [61], ⟨(some 72), none, .nc (.t 61)⟩⟩,
    ⟨12, 4095, [72], ⟨(some 73), none, .fa (.t 72) 9⟩⟩,
    ⟨13, 8191, [73, 71], ⟨none, none, .st (.t 73) (.t 71) 1⟩⟩])
  (.rg [⟨(some 74), none, .mv (.t 0)⟩,
    ⟨(some 75), none, .nc (.t 74)⟩,
    ⟨(some 76), none, .fa (.t 75) 0⟩,
    ⟨(some 77), none, .mv (.t 0)⟩,
    ⟨(some 78), none, .mf (.func 199) [(.t 77)] []⟩,
    ⟨(some 79), none, .ca 114 [(.t 76), (.t 78)]⟩]))
  (.rg [⟨(some 80), none, .mv (.t 0)⟩,
    ⟨(some 81), none, .nc (.t 80)⟩,
    ⟨(some 82), none, .fa (.t 81) 0⟩,
    ⟨(some 83), none, .mv (.t 0)⟩,
    ⟨(some 84), none, .mf (.func 203) [(.t 83)] []⟩,
    ⟨(some 85), none, .ca 114 [(.t 82), (.t 84)]⟩])))))⟩
theorem k199 : cF Tryz.prog Tryz.f199 = some c199 := by kernel_rfl
/-- rundale/bits.Fits -/
def c200 : Fu := ⟨10, [.t 4],
  (.sq (.rg [⟨(some 4), none, .mv (.c (.bool false))⟩])
  (.sq (.rg [⟨(some 5), none, .mv (.t 0)⟩,
    ⟨(some 6), none, .mv (.t 1)⟩,
    ⟨(some 7), none, .ca 195 [(.t 6)]⟩,
    ⟨(some 8), none, .ib .andNot (.t 5) (.t 7)⟩,
    ⟨(some 9), none, .ib .eql (.t 8) (.c (.int .u64 0))⟩,
    ⟨(some 4), none, .mv (.t 9)⟩])
  .rt))⟩
theorem k200 : cF Tryz.prog Tryz.f200 = some c200 := by kernel_rfl
/-- (*rundale/stack.Push).cas -/
def c201 : Fu := ⟨24, [],
  (.sq (.rd [⟨0, 0, [0], ⟨(some 2), none, .mv (.t 0)⟩⟩,
    ⟨1, 1, [2], ⟨(some 3), none, .nc (.t 2)⟩⟩,
    ⟨2, 3, [3], ⟨(some 4), none, .fa (.t 3) 5⟩⟩,
    ⟨3, 7, [4], ⟨(some 5), none, .ld (.t 4) 1 false⟩⟩,
    ⟨4, 0, [0], ⟨(some 6), none, .mv (.t 0)⟩⟩,
    ⟨5, 16, [6], ⟨(some 7), none, .nc (.t 6)⟩⟩,
    ⟨6, 48, [7], ⟨(some 8), none, .fa (.t 7) 8⟩⟩,
    ⟨7, 112, [8], ⟨(some 9), none, .ld (.t 8) 1 false⟩⟩,
    ⟨8, 0, [0], ⟨(some 10), none, .mv (.t 0)⟩⟩,
    ⟨9, 256, [10], ⟨(some 11), none, .nc (.t 10)⟩⟩,
    ⟨10, 768, [11], ⟨(some 12), none, .fa (.t 11) 6⟩⟩,
    ⟨11, 1792, [12], ⟨(some 13), none, .ld (.t 12) 1 false⟩⟩,
    ⟨12, 3840, [13], ⟨(some 14), none, .ia (.t 13) (.c (.int .i64 0)) 1⟩⟩,
    ⟨13, 7936, [14], ⟨(some 15), none, .ld (.t 14) 1 false⟩⟩,
    ⟨14, 16383, [5, 9, 15], ⟨(some 16), none, .ca 204 [(.t 5), (.t 9), (.t 15)]⟩⟩,
    ⟨15, 32767, [16], ⟨(some 17), none, .nt (.t 16)⟩⟩])
  (.cd (.t 17)
  (.rg [⟨(some 18), none, .mv (.t 0)⟩,
    ⟨(some 19), none, .nc (.t 18)⟩,
    ⟨(some 20), none, .fa (.t 19) 0⟩,
    ⟨(some 21), none, .mv (.t 0)⟩,
    ⟨(some 22), none, .mf (.func 171) [(.t 21)] []⟩,
    ⟨(some 23), none, .ca 114 [(.t 20), (.t 22)]⟩])
  .sk))⟩
theorem k201 : cF Tryz.prog Tryz.f201 = some c201 := by kernel_rfl
/-- (*rundale/cells.Cells).Cas -/
def c202 : Fu := ⟨37, [.t 8, .t 9],
  (.sq (.rg [⟨(some 8), none, .mv (.c (.bool false))⟩,
    ⟨(some 9), none, .mv (.c (.int .i64 0))⟩])
  (.sq (.sq (.rg [⟨(some 10), none, .mv (.t 0)⟩,
    ⟨(some 11), none, .mv (.t 1)⟩,
    ⟨(some 12), none, .ca 110 [(.t 10), (.t 11)]⟩,
    ⟨(some 13), none, .nt (.t 12)⟩])
  (.cd (.t 13)
  (.sq (.rg [⟨(some 8), none, .mv (.c (.bool false))⟩,
    ⟨(some 9), none, .mv (.c (.int .i64 1))⟩])
  .rt)
  .sk))
  (.sq (.sq (.rg [⟨(some 14), none, .mv (.t 0)⟩,
    ⟨(some 15), none, .nc (.t 14)⟩,
    ⟨(some 16), none, .fa (.t 15) 0⟩,
    ⟨(some 17), none, .ld (.t 16) 1 false⟩,
    ⟨(some 18), none, .mv (.t 1)⟩,
    ⟨(some 19), none, .ia (.t 17) (.t 18) 1⟩,
    ⟨(some 20), none, .ld (.t 19) 1 false⟩,
    ⟨(some 21), none, .mv (.t 2)⟩,
    ⟨(some 22), none, .ib .neq (.t 20) (.t 21)⟩])
  (.cd (.t 22)
  (.sq (.rg [⟨(some 23), none, .mv (.t 0)⟩,
    ⟨(some 24), none, .mv (.t 1)⟩,
    ⟨(some 25), none, .mv (.t 0)⟩,
    ⟨(some 26), none, .nc (.t 25)⟩,
    ⟨(some 27), none, .fa (.t 26) 0⟩,
    ⟨(some 28), none, .ld (.t 27) 1 false⟩,
    ⟨(some 29), none, .mv (.t 1)⟩,
    ⟨(some 30), none, .ia (.t 28) (.t 29) 1⟩,
    ⟨(some 31), none, .ld (.t 30) 1 false⟩,
    ⟨(some 32), none, .ca 185 [(.t 23), (.c (.int .i64 3)), (.t 24), (.t 31), (.c (.bool false))]⟩])
  (.sq (.rg [⟨(some 8), none, .mv (.c (.bool false))⟩,
    ⟨(some 9), none, .mv (.c (.int .i64 0))⟩])
  .rt))
  .sk))
  (.sq (.rg [⟨(some 33), none, .mv (.t 0)⟩,
    ⟨(some 34), none, .mv (.t 1)⟩,
    ⟨(some 35), none, .mv (.t 3)⟩,
    ⟨(some 36), none, .ca 185 [(.t 33), (.c (.int .i64 3)), (.t 34), (.t 35), (.c (.bool true))]⟩])
  (.sq (.rg [⟨(some 8), none, .mv (.c (.bool true))⟩,
    ⟨(some 9), none, .mv (.c (.int .i64 0))⟩])
  .rt)))))⟩
theorem k202 : cF Tryz.prog Tryz.f202 = some c202 := by kernel_rfl
/-- (*rundale/stack.Pop).cas -/
def c203 : Fu := ⟨22, [],
  (.sq (.rd [⟨0, 0, [0], ⟨(some 2), none, .mv (.t 0)⟩⟩,
    ⟨1, 1, [2], ⟨(some 3), none, .nc (.t 2)⟩⟩,
    ⟨2, 3, [3], ⟨(some 4), none, .fa (.t 3) 5⟩⟩,
    ⟨3, 7, [4], ⟨(some 5), none, .ld (.t 4) 1 false⟩⟩,
    ⟨4, 0, [0], ⟨(some 6), none, .mv (.t 0)⟩⟩,
    ⟨5, 16, [6], ⟨(some 7), none, .nc (.t 6)⟩⟩,
    ⟨6, 48, [7], ⟨(some 8), none, .fa (.t 7) 8⟩⟩,
    ⟨7, 112, [8], ⟨(some 9), none, .ld (.t 8) 1 false⟩⟩,
    ⟨8, 0, [0], ⟨(some 10), none, .mv (.t 0)⟩⟩,
    ⟨9, 256, [10], ⟨(some 11), none, .nc (.t 10)⟩⟩,
    ⟨10, 768, [11], ⟨(some 12), none, .fa (.t 11) 7⟩⟩,
    ⟨11, 1792, [12], ⟨(some 13), none, .ld (.t 12) 1 false⟩⟩,
    ⟨12, 4095, [5, 9, 13], ⟨(some 14), none, .ca 204 [(.t 5), (.t 9), (.t 13)]⟩⟩,
    ⟨13, 8191, [14], ⟨(some 15), none, .nt (.t 14)⟩⟩])
  (.cd (.t 15)
  (.rg [⟨(some 16), none, .mv (.t 0)⟩,
    ⟨(some 17), none, .nc (.t 16)⟩,
    ⟨(some 18), none, .fa (.t 17) 0⟩,
    ⟨(some 19), none, .mv (.t 0)⟩,
    ⟨(some 20), none, .mf (.func 188) [(.t 19)] []⟩,
    ⟨(some 21), none, .ca 114 [(.t 18), (.t 20)]⟩])
  .sk))⟩
theorem k203 : cF Tryz.prog Tryz.f203 = some c203 := by kernel_rfl
/-- (*rundale/stack.Stack).exchange -/
def c204 : Fu := ⟨34, [.t 6],
  (.sq (.rg [⟨(some 6), none, .mv (.c (.bool false))⟩])
  (.sq (.rg [⟨(some 12), none, .mv (.t 1)⟩,
    ⟨(some 13), none, .ca 140 [(.t 12)]⟩,
    ⟨(some 14), none, .mv (.t 2)⟩,
    ⟨(some 15), none, .ca 205 [(.t 13), (.t 14)]⟩,
    ⟨(some 16), none, .ca 168 [(.t 15)]⟩,
    ⟨(some 11), none, .mv (.t 16)⟩,
    ⟨(some 17), none, .ex (.t 11) 0⟩,
    ⟨(some 18), none, .ex (.t 11) 1⟩,
    ⟨(some 7), none, .mv (.t 17)⟩,
    ⟨(some 8), none, .mv (.t 18)⟩])
  (.sq (.rd [⟨0, 0, [0], ⟨(some 20), none, .mv (.t 0)⟩⟩,
    ⟨1, 1, [20], ⟨(some 21), none, .nc (.t 20)⟩⟩,
    ⟨2, 3, [21], ⟨(some 22), none, .fa (.t 21) 0⟩⟩,
    ⟨3, 7, [22], ⟨(some 23), none, .ld (.t 22) 1 false⟩⟩,
    ⟨4, 0, [0], ⟨(some 24), none, .mv (.t 0)⟩⟩,
    ⟨5, 16, [24], ⟨(some 25), none, .nc (.t 24)⟩⟩,
    ⟨6, 48, [25], ⟨(some 26), none, .fa (.t 25) 1⟩⟩,
    ⟨7, 112, [26], ⟨(some 27), none, .ld (.t 26) 1 false⟩⟩,
    ⟨8, 0, [1], ⟨(some 28), none, .mv (.t 1)⟩⟩,
    ⟨9, 0, [7], ⟨(some 29), none, .mv (.t 7)⟩⟩,
    ⟨10, 1023, [23, 27, 28, 29], ⟨(some 30), none, .ca 202 [(.t 23), (.t 27), (.t 28), (.t 29)]⟩⟩,
    ⟨11, 2047, [30], ⟨(some 19), none, .mv (.t 30)⟩⟩,
    ⟨12, 4095, [19], ⟨(some 31), none, .ex (.t 19) 0⟩⟩,
    ⟨13, 4095, [19], ⟨(some 32), none, .ex (.t 19) 1⟩⟩,
    ⟨14, 8191, [31], ⟨(some 9), none, .mv (.t 31)⟩⟩,
    ⟨15, 32767, [32], ⟨(some 10), none, .mv (.t 32)⟩⟩])
  (.sq (.rg [⟨(some 33), none, .mv (.t 9)⟩,
    ⟨(some 6), none, .mv (.t 33)⟩])
  .rt))))⟩
theorem k204 : cF Tryz.prog Tryz.f204 = some c204 := by kernel_rfl
/-- rundale/word.Next -/
def c205 : Fu := ⟨15, [.c 4 2 true],
  (.sq (.rg [⟨(some 2), none, .bx 212 (.t 0)⟩,
    ⟨(some 4), none, .al 212 [(.int .i64 0), (.int .i64 0)]⟩])
  (.sq (.rg [⟨(some 5), none, .mv (.c (.int .i64 0))⟩])
  (.sq (.sq (.rg [⟨(some 6), none, .fa (.t 2) 1⟩,
    ⟨(some 7), none, .ld (.t 6) 1 false⟩,
    ⟨(some 8), none, .ca 190 [(.t 7), (.c (.int .i64 0)), (.c (.int .i64 4294967294))]⟩])
  (.cd (.t 8)
  (.rg [⟨(some 9), none, .fa (.t 2) 1⟩,
    ⟨(some 10), none, .ld (.t 9) 1 false⟩,
    ⟨(some 11), none, .ib .add (.t 10) (.c (.int .i64 1))⟩,
    ⟨(some 5), none, .mv (.t 11)⟩])
  .sk))
  (.sq (.rg [⟨(some 12), none, .mv (.t 1)⟩,
    ⟨(some 13), none, .mv (.t 5)⟩,
    ⟨(some 14), none, .bd [(.int .i64 0), (.int .i64 0)] [(0, 1, (.t 12)), (1, 1, (.t 13))]⟩,
    ⟨none, none, .st (.t 4) (.t 14) 2⟩])
  .rt))))⟩
theorem k205 : cF Tryz.prog Tryz.f205 = some c205 := by kernel_rfl
end Go.Proofs.YtnbkjcmmjgkdaaaGreat

/-
  The functions' small code, all of it.
-/
namespace Go.Proofs.YtnbkjcmmjgkdaaaGreat
end Go.Proofs.YtnbkjcmmjgkdaaaGreat

/-
  The stash (chapter 8): what its functions do to it.
-/
set_option linter.unusedVariables false
namespace Go.Proofs.YtnbkjcmmjgkdaaaGreat
open Go
attribute [local irreducible] Sx Cx Rx Fx Krg Ksq Kbl Klp Kr
/-- Whole numbers as cells. -/
def ints (xs : List Int) : List Value := xs.map (Value.int .i64)
theorem length_ints (xs : List Int) : (ints xs).length = xs.length := by simp [ints]
theorem ones_ints (xs : List Int) : ones (ints xs) = true := by simp [ones, ints, Value.oneCell']
theorem ints_append (xs ys : List Int) : ints (xs ++ ys) = ints xs ++ ints ys := by simp [ints]
theorem ints_take (xs : List Int) (n : Nat) : (ints xs).take n = ints (xs.take n) := by simp [ints, List.map_take]
theorem ints_drop (xs : List Int) (n : Nat) : (ints xs).drop n = ints (xs.drop n) := by simp [ints, List.map_drop]
section
variable {L F : St}
theorem Ent.rownil (E sz : Nat) : Ent L (pt none (Row E sz 0 0 []) :: L) := .of fun h H =>
  ⟨Hp.no, h, fun _ => .inl rfl, by funext k; simp [Hp.join, Hp.no], ⟨by simp, .inl ⟨rfl, rfl, rfl, rfl⟩⟩, H⟩
theorem Row.shrink {E sz n cap m : Nat} {xs : List Value} {a : Option Addr} (hm : m ≤ n) : ∀ g, pt a (Row E sz n cap xs) g → pt a (Row E sz m cap (xs.take (m * sz))) g := by
  rintro h ⟨hx, hh⟩
  have hms : m * sz ≤ n * sz := Nat.mul_le_mul_right _ hm
  refine ⟨by rw [List.length_take, hx]; omega, ?_⟩
  rcases hh with ⟨h1, h2, h3, h4⟩ | ⟨g, cur, h1, h2, h3, h4, h5, h6⟩
  · exact .inl ⟨h1, by omega, h3, h4⟩
  · refine .inr ⟨g, cur, h1, h2, by omega, h4, h5, ?_⟩
    rw [← h6, List.take_take, Nat.min_eq_left hms]
/-- slices.Clone, of whole numbers. -/
theorem clone {a : Option Addr} {m c : Nat} {vs : List Value} (hr : Rd L 1 a m vs) (h1 : ones vs = true) (hm : m ≤ 1000000000) :
    Fx Tryz.prog 134 [.slice a m c] L (fun v L' => ∃ a' c', v = .slice a' m c' ∧ L' = pt a' (Row 3 1 m c' vs) :: L) := by
  refine Fx.mk Tryz.func134 k134 (Nat.le_of_ble_eq_true rfl) ?_
  dsimp only [c134, envOf, Nat.reduceAdd]
  cases a with
  | none =>
    refine go ?_
    have hm0 : m = 0 := by
      rcases hr.2 with h | ⟨b, o, h, _⟩
      · exact h
      · cases h
    subst hm0
    have hv : vs = [] := List.eq_nil_of_length_eq_zero (by simpa using hr.1)
    subst hv
    exact Kr.one (.inr rfl) rfl (Ent.rownil _ _) ⟨none, 0, rfl, rfl⟩
  | some a =>
    refine go ?_
    refine Sx.bs (sz := 1) rfl rfl fun g => ?_
    refine go ?_
    refine Sx.ap rfl rfl (hr.ent Ent.drop) h1 (by simp [maxLen]; omega) (by omega) fun ra ca hc => ?_
    refine go ?_
    refine Kr.one (.inr rfl) rfl (Ent.refl _) ⟨ra, ca, ?_, ?_⟩
    · simp
    · simp
/-- A stash: how many it keeps, what it has. -/
def StashT (T : TypeId) (most : Int) (xs : List Int) (a : Option Addr) : As :=
  exs fun (y : Option Addr × Nat) => [pt a (Blk T [.int .i64 most, .slice y.1 xs.length y.2]), pt y.1 (Row 3 1 xs.length y.2 (ints xs))]
abbrev StashO := StashT 204
theorem StashO.close {T : TypeId} {most : Int} {xs : List Int} {a r : Option Addr} {cap n : Nat} {v : Value} {vs : List Value} {F G : St} [t : Take L a (Blk T [v, .slice r n cap]) F] [u : Take F r (Row 3 1 n cap vs) G]
    (hn : n = xs.length) (hv : v = .int .i64 most) (hvs : vs = ints xs) : Ent L (pt a (StashT T most xs) :: G) := by
  subst hn; subst hv; subst hvs
  exact (Ent.take1 (t := t) (Ent.of u.out)).trans (Ent.close (f := fun (y : Option Addr × Nat) => [pt a (Blk T [.int .i64 most, .slice y.1 xs.length y.2]), pt y.1 (Row 3 1 xs.length y.2 (ints xs))]) rfl (r, cap))
theorem stashNew (m : Int) : Fx Tryz.prog 119 [.int .i64 m] L (fun v L' => ∃ g, v = .pointer (some ⟨g, 0, none⟩) ∧ L' = pt (some ⟨g, 0, none⟩) (StashO (min (max m 0) 64) []) :: L) := by
  refine Fx.mk Tryz.func119 k119 (Nat.le_of_ble_eq_true rfl) ?_
  dsimp only [c119, envOf, Nat.reduceAdd]
  refine go ?_
  refine Sx.bx rfl rfl fun g => ?_
  refine go ?_
  refine Kr.one (.inr rfl) rfl (Ent.trans (Ent.rownil 3 1) (StashO.close (xs := []) rfl ?_ rfl)) ⟨g, rfl, rfl⟩
  simp only [cond_true, cond_false]
  congr 1
  omega
theorem stashGive {b : Nat} {most : Int} {xs ys : List Int} {ya : Option Addr} {m c : Nat} {F : St} [t : Take L (some ⟨b, 0, none⟩) (StashO most xs) F] (hr : Rd F 1 ya m (ints ys)) (hb : xs.length + m ≤ 1000000000) :
    Fx Tryz.prog 73 [.pointer (some ⟨b, 0, none⟩), .slice ya m c] L (fun v L' => v = .tuple #[] ∧ L' = pt (some ⟨b, 0, none⟩) (StashO most (xs ++ ys)) :: F) := by
  refine Fx.mk Tryz.func73 k73 (Nat.le_of_ble_eq_true rfl) ?_
  dsimp only [c73, envOf, Nat.reduceAdd]
  refine Cx.openp (t := t) rfl ?_
  rintro ⟨r, cap⟩
  simp only [List.cons_append, List.nil_append]
  refine go ?_
  refine Sx.ap rfl rfl (hr.ent (Ent.drop.trans Ent.drop)) (ones_ints ys) (by simp [maxLen]; omega) (by omega) fun ra ca hc => ?_
  refine go ?_
  have hm : m = ys.length := by have := hr.1; simp [length_ints] at this; omega
  exact Kr.none (.inl rfl) (StashO.close (by simp [hm]) rfl (by simp [ints])) ⟨rfl, rfl⟩
theorem stashTakeNone {b : Nat} {most : Int} {F : St} [t : Take L (some ⟨b, 0, none⟩) (StashO most []) F] :
    Fx Tryz.prog 162 [.pointer (some ⟨b, 0, none⟩)] L (fun v L' => v = .tuple #[.int .i64 0, .bool false] ∧ L' = pt (some ⟨b, 0, none⟩) (StashO most []) :: F) := by
  refine Fx.mk Tryz.func162 k162 (Nat.le_of_ble_eq_true rfl) ?_
  dsimp only [c162, envOf, Nat.reduceAdd]
  refine Cx.openp (t := t) rfl ?_
  rintro ⟨r, cap⟩
  simp only [List.cons_append, List.nil_append]
  refine go ?_
  exact Kr.two (.inr rfl) rfl rfl (StashO.close rfl rfl rfl) ⟨rfl, rfl⟩
theorem stashTakeSome {b : Nat} {most : Int} {xs : List Int} {x : Int} {F : St} [t : Take L (some ⟨b, 0, none⟩) (StashO most (xs ++ [x])) F] (hb : xs.length ≤ 1000000000) :
    Fx Tryz.prog 162 [.pointer (some ⟨b, 0, none⟩)] L (fun v L' => v = .tuple #[.int .i64 x, .bool true] ∧ L' = pt (some ⟨b, 0, none⟩) (StashO most xs) :: F) := by
  refine Fx.mk Tryz.func162 k162 (Nat.le_of_ble_eq_true rfl) ?_
  dsimp only [c162, envOf, Nat.reduceAdd]
  refine Cx.openp (t := t) rfl ?_
  rintro ⟨r, cap⟩
  simp only [List.cons_append, List.nil_append]
  generalize hn : (xs ++ [x]).length = n
  have hn' : n = xs.length + 1 := by simp at hn; omega
  clear hn
  refine Cx.rowkey (a := r) fun _ hnc _ hk => ?_
  obtain ⟨g, rfl⟩ : ∃ g, r = some ⟨g, 0, none⟩ := by
    rcases hk with h | h
    · exfalso; omega
    · exact h
  have hw : IntKind.i64.wrap ((n : Int) - 1) = (xs.length : Int) := by rw [w64 (by omega) (by omega)]; omega
  refine go ?_
  refine Cx.cno rfl (by simp; omega) ?_
  refine go ?_
  rw [hw]
  refine go ?_
  refine Sx.pv rfl ⟨by omega, by omega⟩ ?_
  refine Sx.ldr rfl (v := .int .i64 x) ?_ ?_
  · simp [ints]
  refine go ?_
  refine Sx.pv rfl ⟨by omega, by omega⟩ ?_
  refine go ?_
  refine Kr.two (.inr rfl) rfl rfl ?_ ⟨rfl, rfl⟩
  refine Ent.trans (Ent.take1 (a := some ⟨g, 0, none⟩) (Ent.refl _)) (Ent.trans (Ent.head (Row.shrink (m := xs.length) (by omega))) ?_)
  refine StashO.close (by simp) rfl ?_
  simp [ints]
theorem Rd.prefix_ {a : Option Addr} {E sz n cap m : Nat} {xs : List Value} [t : Take L a (Row E sz n cap xs) F] (hx : xs.length = n * sz) (hk : (a = none ∧ n = 0 ∧ cap = 0) ∨ ∃ g, a = some ⟨g, 0, none⟩) (hm : m ≤ n) : Rd L sz a m (xs.take (m * sz)) := by
  have hms : m * sz ≤ n * sz := Nat.mul_le_mul_right _ hm
  refine ⟨by rw [List.length_take]; omega, ?_⟩
  rcases hk with ⟨_, h, _⟩ | ⟨g, rfl⟩
  · left; omega
  · right
    have h := Has.row (L := L) (b := g) (E := E) (sz := sz) (n := n) (cap := cap) (xs := xs) (off := 0) (m := m * sz)
    rw [List.drop_zero] at h
    exact ⟨g, 0, rfl, h⟩
theorem Rd.suffix_ {g : Nat} {E sz n cap i : Nat} {xs : List Value} [t : Take L (some ⟨g, 0, none⟩) (Row E sz n cap xs) F] (hx : xs.length = n * sz) (hn : n ≤ cap) (hi : i ≤ n) : Rd L sz (some ⟨g, 0 + skp cap i sz, none⟩) (n - i) (xs.drop (i * sz)) := by
  have hms : i * sz ≤ n * sz := Nat.mul_le_mul_right _ hi
  refine ⟨by rw [List.length_drop, hx, Nat.sub_mul], ?_⟩
  by_cases hc : cap = i
  · left; omega
  · right
    refine ⟨g, 0 + skp cap i sz, rfl, ?_⟩
    have h := Has.row (L := L) (b := g) (E := E) (sz := sz) (n := n) (cap := cap) (xs := xs) (off := i * sz) (m := (xs.drop (i * sz)).length)
    rw [List.take_length] at h
    simp only [skp, hc, if_false, Nat.zero_add]
    exact h
theorem stashCut {b : Nat} {most : Int} {xs : List Int} {k : Nat} {F : St} [t : Take L (some ⟨b, 0, none⟩) (StashO most xs) F] (hb : xs.length ≤ 1000000000) (hk : k ≤ xs.length) :
    Fx Tryz.prog 139 [.pointer (some ⟨b, 0, none⟩), .int .i64 k] L (fun v L' => ∃ a c, v = .slice a k c ∧ L' = pt a (Row 3 1 k c (ints (xs.take k))) :: pt (some ⟨b, 0, none⟩) (StashO most (xs.drop k)) :: F) := by
  refine Fx.mk Tryz.func139 k139 (Nat.le_of_ble_eq_true rfl) ?_
  dsimp only [c139, envOf, Nat.reduceAdd]
  refine Cx.openp (t := t) rfl ?_
  rintro ⟨r, cap⟩
  simp only [List.cons_append, List.nil_append]
  refine Cx.rowkey (a := r) fun hx hnc _ hkey => ?_
  refine go ?_
  refine Sx.pv rfl ⟨by omega, by omega⟩ ?_
  have h1 := Rd.prefix_ (L := pt (some ⟨b, 0, none⟩) (Blk 204 [.int .i64 most, .slice r xs.length cap]) :: pt r (Row 3 1 xs.length cap (ints xs)) :: F) (a := r) hx hkey hk
  simp only [Nat.mul_one, ints_take] at h1
  refine Sx.ca rfl (clone (by simpa using h1) (ones_ints _) (by omega)) ?_
  rintro v L' ⟨a1, c1, rfl, rfl⟩
  refine go ?_
  rcases hkey with ⟨rfl, h0, rfl⟩ | ⟨g, rfl⟩
  · have hx0 : xs = [] := List.eq_nil_of_length_eq_zero h0
    subst hx0
    have hk0 : k = 0 := by simpa using hk
    subst hk0
    refine Sx.pv rfl (by simp) ?_
    refine Sx.ca rfl (clone (vs := []) (Rd.nil _ _ _) rfl (by omega)) ?_
    rintro v L' ⟨a2, c2, rfl, rfl⟩
    refine go ?_
    refine Kr.one (.inr rfl) rfl ?_ ⟨a1, c1, rfl, rfl⟩
    refine Ent.trans (StashO.close (a := some ⟨b, 0, none⟩) (r := a2) (xs := []) rfl rfl rfl) ?_
    simp only [Int.toNat_natCast, List.take_nil, List.drop_nil, ints, List.map_nil]
    exact ent
  · refine Sx.pv rfl ⟨by omega, by omega⟩ ?_
    have h2 := Rd.suffix_ (L := pt a1 (Row 3 1 k c1 (ints (xs.take k))) :: pt (some ⟨b, 0, none⟩) (Blk 204 [.int .i64 most, .slice (some ⟨g, 0, none⟩) xs.length cap]) :: pt (some ⟨g, 0, none⟩) (Row 3 1 xs.length cap (ints xs)) :: F) (g := g) hx hnc hk
    simp only [Nat.mul_one, ints_drop] at h2
    refine Sx.ca rfl (clone (vs := ints (xs.drop k)) (by simpa using h2) (ones_ints _) (by omega)) ?_
    rintro v L' ⟨a2, c2, rfl, rfl⟩
    refine go ?_
    refine Kr.one (.inr rfl) rfl ?_ ⟨a1, c1, rfl, rfl⟩
    refine Ent.trans (StashO.close (a := some ⟨b, 0, none⟩) (r := a2) (xs := xs.drop k) (by simp) rfl rfl) ?_
    simp only [Int.toNat_natCast]
    exact ent
theorem stashAll {b : Nat} {most : Int} {xs : List Int} {F : St} [t : Take L (some ⟨b, 0, none⟩) (StashO most xs) F] (hb : xs.length ≤ 1000000000) :
    Fx Tryz.prog 80 [.pointer (some ⟨b, 0, none⟩)] L (fun v L' => ∃ a c, v = .slice a xs.length c ∧ L' = pt a (Row 3 1 xs.length c (ints xs)) :: pt (some ⟨b, 0, none⟩) (StashO most []) :: F) := by
  refine Fx.mk Tryz.func80 k80 (Nat.le_of_ble_eq_true rfl) ?_
  dsimp only [c80, envOf, Nat.reduceAdd]
  refine Cx.openp (t := t) rfl ?_
  rintro ⟨r, cap⟩
  simp only [List.cons_append, List.nil_append]
  refine go ?_
  refine Sx.ent (StashO.close (a := some ⟨b, 0, none⟩) (r := r) (xs := xs) rfl rfl rfl) ?_
  refine Sx.ca rfl (stashCut (b := b) (most := most) (xs := xs) (k := xs.length) hb (Nat.le_refl _)) ?_
  rintro v L' ⟨a, c, rfl, rfl⟩
  refine go ?_
  refine Kr.one (.inr rfl) rfl ?_ ⟨a, c, rfl, rfl⟩
  simp only [List.take_length, List.drop_length]
  exact Ent.refl _
theorem stashList {b : Nat} {most : Int} {xs : List Int} {F : St} [t : Take L (some ⟨b, 0, none⟩) (StashO most xs) F] (hb : xs.length ≤ 1000000000) :
    Fx Tryz.prog 72 [.pointer (some ⟨b, 0, none⟩)] L (fun v L' => ∃ a c, v = .slice a xs.length c ∧ L' = pt a (Row 3 1 xs.length c (ints xs)) :: pt (some ⟨b, 0, none⟩) (StashO most xs) :: F) := by
  refine Fx.mk Tryz.func72 k72 (Nat.le_of_ble_eq_true rfl) ?_
  dsimp only [c72, envOf, Nat.reduceAdd]
  refine Cx.openp (t := t) rfl ?_
  rintro ⟨r, cap⟩
  simp only [List.cons_append, List.nil_append]
  refine Cx.rowkey (a := r) fun hx hnc _ hkey => ?_
  refine go ?_
  have h1 := Rd.prefix_ (L := pt (some ⟨b, 0, none⟩) (Blk 204 [.int .i64 most, .slice r xs.length cap]) :: pt r (Row 3 1 xs.length cap (ints xs)) :: F) (a := r) hx hkey (Nat.le_refl _)
  simp only [Nat.mul_one, ints_take, List.take_length] at h1
  refine Sx.ca rfl (clone h1 (ones_ints _) (by omega)) ?_
  rintro v L' ⟨a1, c1, rfl, rfl⟩
  refine go ?_
  refine Kr.one (.inr rfl) rfl ?_ ⟨a1, c1, rfl, rfl⟩
  refine Ent.trans (StashO.close (a := some ⟨b, 0, none⟩) (r := r) (xs := xs) rfl rfl rfl) ?_
  exact ent
end
end Go.Proofs.YtnbkjcmmjgkdaaaGreat

/-
  Plain helpers of the statements (numbers, lists of numbers), and the reference's stash.
-/
set_option linter.unusedVariables false
namespace Go.Proofs.YtnbkjcmmjgkdaaaGreat
open Go
attribute [local irreducible] Sx Cx Rx Fx Krg Ksq Kbl Klp Kr
section
variable {P : Program} {N : Nat} {e : En} {K : En → St → Prop} {L F : St} {l : List G}
/-- Appending to nothing. -/
theorem Sx.apn {d : Option Nat} {T E sz by_ : Nat} {z : List Value} {x y : X} {ya : Option Addr} {m c : Nat} {ys : List Value}
    (hx : x.get e = some (.slice none 0 0)) (hy : y.get e = some (.slice ya m c)) (hr : Rd L sz ya m ys) (h1 : ones ys = true) (hm : m ≤ maxLen) (hb : m * by_ ≤ 140737488355328)
    (k : ∀ ra' cap', m ≤ cap' → Sx P N l (e.put d (.slice ra' m cap')) K (pt ra' (Row E sz m cap' ys) :: L)) : Sx P N (⟨d, none, .ap T E sz by_ z x y⟩ :: l) e K L := by
  refine Sx.ent (Ent.rownil E sz) ?_
  refine Sx.ap (ra := none) (n := 0) (cap := 0) (xs := []) hx hy (hr.ent Ent.drop) h1 (by omega) (by simpa using hb) fun ra ca hc => ?_
  simp only [Nat.zero_add, List.nil_append] at hc ⊢
  exact k ra ca hc
/-- One element read through. -/
theorem Has.at_ {b o i : Nat} {vs : List Value} {v : Value} (h : Has L b o vs) (hv : vs[i]? = some v) : Has L b (o + i) [v] := by
  have := Has.sub (i := i) (n := 1) h
  rwa [take_one hv] at this
end
section
variable {L F : St}
theorem number (v n : Int) (hn : 0 < n) (hn2 : n ≤ 4611686018427387904) : Fx Tryz.prog 12 [.int .i64 v, .int .i64 n] L (fun r L' => r = .int .i64 (v % n) ∧ L = L') := by
  have h1 := Int.tmod_lt_of_pos v hn
  have h2 : v % n = if v.tmod n < 0 then v.tmod n + n else v.tmod n := by
    rw [Int.tmod_eq_emod]
    have h3 := Int.emod_nonneg v (show n ≠ 0 by omega)
    have h4 := Int.emod_lt_of_pos v hn
    have h5 : (n.natAbs : Int) = n := by omega
    split <;> split <;> omega
  have h6 : -n < v.tmod n := by
    rw [Int.tmod_eq_emod]
    have h3 := Int.emod_nonneg v (show n ≠ 0 by omega)
    have h4 := Int.emod_lt_of_pos v hn
    have h5 : (n.natAbs : Int) = n := by omega
    split <;> omega
  refine Fx.mk Tryz.func12 k12 (Nat.le_of_ble_eq_true rfl) ?_
  dsimp only [c12, envOf, Nat.reduceAdd]
  refine go ?_
  refine Sx.pv rfl (by omega) ?_
  refine go ?_
  refine Cx.ifp rfl (fun h => ?_) (fun h => ?_)
  · refine go ?_
    refine Kr.one (.inr rfl) rfl (Ent.refl _) ⟨?_, rfl⟩
    rw [w64 (by omega) (by omega), h2, if_pos h]
  · refine go ?_
    refine Kr.one (.inr rfl) rfl (Ent.refl _) ⟨?_, rfl⟩
    rw [h2, if_neg h]
/-- The reference's stash. -/
abbrev RefO := StashT 154
theorem refNew (m : Int) : Fx Tryz.prog 132 [.int .i64 m] L (fun v L' => ∃ g, v = .pointer (some ⟨g, 0, none⟩) ∧ L' = pt (some ⟨g, 0, none⟩) (RefO (min (max m 0) 64) []) :: L) := by
  refine Fx.mk Tryz.func132 k132 (Nat.le_of_ble_eq_true rfl) ?_
  dsimp only [c132, envOf, Nat.reduceAdd]
  refine go ?_
  refine Sx.bx rfl rfl fun g => ?_
  refine go ?_
  refine Kr.one (.inr rfl) rfl (Ent.trans (Ent.rownil 3 1) (StashO.close (xs := []) rfl ?_ rfl)) ⟨g, rfl, rfl⟩
  simp only [cond_true, cond_false]
  congr 1
  omega
theorem refGive {b : Nat} {most : Int} {xs ys : List Int} {ya : Option Addr} {m c : Nat} [t : Take L (some ⟨b, 0, none⟩) (RefO most xs) F] (hr : Rd F 1 ya m (ints ys)) (hb : xs.length + m ≤ 1000000000) :
    Fx Tryz.prog 45 [.pointer (some ⟨b, 0, none⟩), .slice ya m c] L (fun v L' => v = .tuple #[] ∧ L' = pt (some ⟨b, 0, none⟩) (RefO most (xs ++ ys)) :: F) := by
  refine Fx.mk Tryz.func45 k45 (Nat.le_of_ble_eq_true rfl) ?_
  dsimp only [c45, envOf, Nat.reduceAdd]
  refine Cx.openp (t := t) rfl ?_
  rintro ⟨r, cap⟩
  simp only [List.cons_append, List.nil_append]
  refine Cx.rowkey (a := r) fun hx hnc _ hkey => ?_
  refine go ?_
  refine Sx.apn rfl rfl (Rd.any (a := r) hx (hkey.imp (fun h => h.2.1) id)) (ones_ints xs) (by simp [maxLen]; omega) (by omega) fun r1 c1 h1 => ?_
  refine go ?_
  refine Sx.ap rfl rfl (hr.ent (Ent.drop.trans (Ent.drop.trans Ent.drop))) (ones_ints ys) (by simp [maxLen]; omega) (by omega) fun r2 c2 h2 => ?_
  refine go ?_
  have hm : m = ys.length := by have := hr.1; simp [length_ints] at this; omega
  refine Kr.none (.inl rfl) ?_ ⟨rfl, rfl⟩
  refine Ent.trans (StashO.close (a := some ⟨b, 0, none⟩) (r := r2) (xs := xs ++ ys) (by simp [hm]) rfl (by simp [ints])) ?_
  exact ent
theorem refTakeNone {b : Nat} {most : Int} [t : Take L (some ⟨b, 0, none⟩) (RefO most []) F] :
    Fx Tryz.prog 174 [.pointer (some ⟨b, 0, none⟩)] L (fun v L' => v = .tuple #[.int .i64 0, .bool false] ∧ L' = pt (some ⟨b, 0, none⟩) (RefO most []) :: F) := by
  refine Fx.mk Tryz.func174 k174 (Nat.le_of_ble_eq_true rfl) ?_
  dsimp only [c174, envOf, Nat.reduceAdd]
  refine Cx.openp (t := t) rfl ?_
  rintro ⟨r, cap⟩
  simp only [List.cons_append, List.nil_append]
  refine go ?_
  exact Kr.two (.inr rfl) rfl rfl (StashO.close rfl rfl rfl) ⟨rfl, rfl⟩
theorem refTakeSome {b : Nat} {most : Int} {xs : List Int} {x : Int} [t : Take L (some ⟨b, 0, none⟩) (RefO most (xs ++ [x])) F] (hb : xs.length ≤ 100000000) :
    Fx Tryz.prog 174 [.pointer (some ⟨b, 0, none⟩)] L (fun v L' => v = .tuple #[.int .i64 x, .bool true] ∧ L' = pt (some ⟨b, 0, none⟩) (RefO most xs) :: F) := by
  refine Fx.mk Tryz.func174 k174 (Nat.le_of_ble_eq_true rfl) ?_
  dsimp only [c174, envOf, Nat.reduceAdd]
  refine Cx.openp (t := t) rfl ?_
  rintro ⟨r, cap⟩
  simp only [List.cons_append, List.nil_append]
  generalize hn : (xs ++ [x]).length = n
  have hn' : n = xs.length + 1 := by simp at hn; omega
  clear hn
  refine Cx.rowkey (a := r) fun hx hnc _ hk => ?_
  obtain ⟨g, rfl⟩ : ∃ g, r = some ⟨g, 0, none⟩ := by
    rcases hk with h | h
    · exfalso; omega
    · exact h
  have hw : IntKind.i64.wrap ((n : Int) - 1) = (xs.length : Int) := by rw [w64 (by omega) (by omega)]; omega
  refine go ?_
  refine Cx.cno rfl (by simp; omega) ?_
  refine go ?_
  rw [hw]
  refine go ?_
  refine Sx.pv rfl ⟨by omega, by omega⟩ ?_
  refine Sx.ldr rfl (v := .int .i64 x) ?_ ?_
  · simp [ints]
  refine go ?_
  rw [hw]
  refine go ?_
  refine Sx.pv rfl ⟨by omega, by omega⟩ ?_
  have h1 := Rd.prefix_ (L := pt (some ⟨b, 0, none⟩) (Blk 154 [.int .i64 most, .slice (some ⟨g, 0, none⟩) n cap]) :: pt (some ⟨g, 0, none⟩) (Row 3 1 n cap (ints (xs ++ [x]))) :: F) (m := xs.length) (a := some ⟨g, 0, none⟩) hx (.inr ⟨g, rfl⟩) (by omega)
  have h2 : (ints (xs ++ [x])).take (xs.length * 1) = ints xs := by simp [ints]
  rw [h2] at h1
  refine Sx.apn rfl rfl (by simpa using h1) (ones_ints xs) (by simp [maxLen]; omega) (by omega) fun r1 c1 h3 => ?_
  refine go ?_
  refine Kr.two (.inr rfl) rfl rfl ?_ ⟨rfl, rfl⟩
  refine Ent.trans (StashO.close (a := some ⟨b, 0, none⟩) (r := r1) (xs := xs) (by simp) rfl rfl) ?_
  exact ent
end
end Go.Proofs.YtnbkjcmmjgkdaaaGreat

/-
  More rules: calls that leave a part as it was; regions that draw their order, walked at the head.
-/
set_option linter.unusedVariables false
set_option linter.unusedSimpArgs false
namespace Go.Proofs.YtnbkjcmmjgkdaaaGreat
open Go
section
variable {P : Program} {N : Nat} {L M F : St}
/-- A call that leaves a part as it was. -/
theorem Fx.kept {f : FuncId} {vs : List Value} {v : Value} {a : Option Addr} {R : Option Addr → As} [t : Take L a R F] (h : Fx P f vs L (fun v' L' => v' = v ∧ L' = pt a R :: F)) : Fx P f vs L (fun v' L' => v' = v ∧ L = L') :=
  fun w0 w s => (h w0 w s).mono fun en w' ⟨v', L', he, ⟨hv, hL⟩, hS⟩ => ⟨v', L, he, ⟨hv, rfl⟩, hS.ent (by subst hL; exact Ent.of t.back)⟩
/-- What the memory that comes of a call tells. -/
theorem Fx.pure {f : FuncId} {vs : List Value} {R : Value → St → Prop} (x : Fx P f vs L R) {p : Value → St → Prop} (hp : ∀ v L', R v L' → ∀ h, holds L' h → p v L') : Fx P f vs L (fun v L' => R v L' ∧ p v L') :=
  fun w0 w s => (x w0 w s).mono fun en w' ⟨v, L', he, hR, hS⟩ => by
    obtain ⟨h, hh, _⟩ := hS.heap
    exact ⟨v, L', he, ⟨hR, hp v L' hR h hh⟩, hS⟩
/-! Ends that hold as well where more is known of the temporaries. -/
class Mono (Kf : En → St → Prop) : Prop where
  le : ∀ e e' L, sub e e' → Kf e L → Kf e' L
instance Mono.cx {c : C} {K : Kx} : Mono (fun e L => Cx P N c e K L) := ⟨fun _ _ _ hs h => Cx.less hs h⟩
instance Mono.sq {c : C} {K : Kx} : Mono (fun e L => Ksq P N c K .nm e L) := ⟨fun _ _ _ hs h => Cx.less hs h⟩
instance Mono.bl {K : Kx} {i : Nat} [m : Mono (fun e L => K .nm e L)] : Mono (fun e L => Kbl i K .nm e L) := ⟨fun e e' L hs h => m.le e e' L hs h⟩
instance Mono.lp {α : Type _} {K : Kx} {T : α → En} {S : α → St} {μ : α → Nat} {x : α} : Mono (fun e L => Klp K T S μ x .nm e L) := ⟨fun _ _ _ hs h => Klp.mono _ _ hs h⟩
instance Mono.jn {β : Type _} {K : Kx} {T : β → En} {S : β → St} : Mono (fun e L => Kjn K T S .nm e L) := ⟨fun _ _ _ hs h => Kjn.mono _ _ hs h⟩
instance Mono.kr {rs : List RV} {R : Value → St → Prop} : Mono (fun e L => Kr P N rs R .nm e L) := ⟨fun e e' L hs ⟨h1, v, L', h2, h3, h4⟩ => ⟨h1, v, L', fun fn a w0 w hr ok s => h2 fn a w0 w hr (ok.sub hs) s, h3, h4⟩⟩
/-! Only which operations are left counts, not how they are listed. -/
theorem Ev.same {Kf : En → St → Prop} {rem : List It} {ms : List (Nat × (St → Prop))} {e : En} {L : St} (h : Ev P N Kf rem ms e L) : ∀ {rem2 : List It}, (∀ x, x ∈ rem2 ↔ x ∈ rem) → Ev P N Kf rem2 ms e L := by
  induction h with
  | nil h =>
    intro rem2 hm
    cases rem2 with
    | nil => exact .nil h
    | cons x r => exact absurd ((hm x).1 (by simp)) (by simp)
  | free x hx v h k ih => exact fun hm => .free x ((hm x).2 hx) v h (ih fun y => by rw [mem_without, mem_without, hm])
  | looks x hx v Φ hΦ h k ih => exact fun hm => .looks x ((hm x).2 hx) v Φ hΦ h (ih fun y => by rw [mem_without, mem_without, hm])
  | turns x hx R h1 h2 h k ih =>
    intro rem2 hm
    refine .turns x ((hm x).2 hx) R (List.all_eq_true.2 fun y hy => List.all_eq_true.1 h1 y ?_) h2 h fun v L' hR => ih v L' hR fun y => by rw [mem_without, mem_without, hm]
    rw [mem_without] at hy ⊢
    exact ⟨(hm y).1 hy.1, hy.2⟩
def pull : Nat → List It → Option (It × List It)
  | _, [] => none
  | 0, x :: r => some (x, r)
  | n + 1, x :: r => match pull n r with
    | some (y, k) => some (y, x :: k)
    | none => none
theorem pull_mem : ∀ {n : Nat} {l : List It} {x : It} {r : List It}, pull n l = some (x, r) → ∀ y, y ∈ l ↔ y ∈ x :: r
  | 0, [], _, _, h, _ => by cases h
  | n + 1, [], _, _, h, _ => by cases h
  | 0, a :: l, x, r, h, y => by cases h; rfl
  | n + 1, a :: l, x, r, h, y => by
    simp only [pull] at h
    split at h
    · rename_i z k hz
      cases h
      have := pull_mem hz y
      simp only [List.mem_cons] at this ⊢
      rw [this]
      constructor
      · rintro (h | h | h) <;> simp [h]
      · rintro (h | h | h) <;> simp [h]
    · cases h
section
variable {Kf : En → St → Prop} {e : En} {rem rem' r : List It} {ms : List (Nat × (St → Prop))} {i ds sz : Nat} {rs : List Nat} {d : Option Nat} {g : Option (Nat × Bool)}
/-- One operation comes to the head. -/
theorem Ev.bring (j : Nat) {x : It} (h : pull j rem = some (x, r)) (k : Ev P N Kf (x :: r) ms e L) : Ev P N Kf rem ms e L := k.same fun y => pull_mem h y
/-- No two of one place. -/
def dist : List It → Bool
  | [] => true
  | x :: l => l.all (fun y => !(Nat.beq y.i x.i)) && dist l
theorem without_head {x : It} (h : r.all (fun y => !(Nat.beq y.i x.i)) = true) : without (x :: r) x.i = r := by
  unfold without
  rw [List.filter_cons]
  simp only [Nat.beq_refl, Bool.not_true, Bool.false_eq_true, if_false]
  rw [List.filter_eq_self]
  exact fun y hy => List.all_eq_true.1 h y hy
theorem dist_move {x : It} {r : List It} : ∀ {pre : List It}, dist (pre ++ x :: r) = true → dist (x :: (pre ++ r)) = true
  | [], hd => hd
  | y :: pre, hd => by
    simp only [List.cons_append, dist, Bool.and_eq_true, List.all_append, List.all_cons] at hd
    obtain ⟨⟨h1, h2, h3⟩, h4⟩ := hd
    have := dist_move h4
    simp only [List.cons_append, dist, Bool.and_eq_true, List.all_append, List.all_cons] at this ⊢
    refine ⟨⟨?_, this.1⟩, ⟨h1, h3⟩, this.2⟩
    simp only [Bool.not_eq_true'] at h2 ⊢
    cases hb : Nat.beq y.i x.i with
    | false => rfl
    | true => rw [Nat.eq_of_beq_eq_true hb] at h2; simp at h2
/-- Plain operations, in one pass; so many that cannot be told yet are passed by. -/
def pass : Nat → List It → En → Option (List It × En)
  | _, [], _ => none
  | n, x :: r, e => match stepM x e with
    | some v => match x.g.d with
      | some t => match pass n r ((t, v) :: e) with
        | some q => some q
        | none => some (r, (t, v) :: e)
      | none => match pass n r e with
        | some q => some q
        | none => some (r, e)
    | none => match n with
      | 0 => none
      | n + 1 => match pass n r e with
        | some (k, e') => some (x :: k, e')
        | none => none
theorem pass_ev : ∀ {n : Nat} {r : List It} {e : En} {rem' : List It} {e' : En}, pass n r e = some (rem', e') → ∀ pre : List It, dist (pre ++ r) = true → Ev P N Kf (pre ++ rem') ms e' L → Ev P N Kf (pre ++ r) ms e L
  | _, [], _, _, _, h, _, _, _ => by cases h
  | n, x :: r, e, rem', e', h, pre, hd, k => by
    have hd' : dist (x :: (pre ++ r)) = true := dist_move hd
    have hd2 : (pre ++ r).all (fun y => !(Nat.beq y.i x.i)) = true ∧ dist (pre ++ r) = true := by simpa [dist] using hd'
    rw [pass.eq_def] at h
    simp only at h
    have tell : ∀ {v : Value}, stepM x e = some v → Ev P N Kf (pre ++ r) ms (e.put x.g.d v) L → Ev P N Kf (pre ++ x :: r) ms e L := by
      intro v hv k
      refine Ev.same (rem := x :: (pre ++ r)) (Ev.stp (x := x) (by simp) hv ?_) fun y => by simp only [List.mem_append, List.mem_cons]; constructor <;> (rintro (h | h | h) <;> simp [h])
      rw [without_head hd2.1]
      exact k
    split at h
    · rename_i v hv
      refine tell hv ?_
      split at h
      · rename_i t ht
        rw [ht]
        split at h
        · rename_i q hq
          cases h
          exact pass_ev hq pre hd2.2 k
        · cases h
          exact k
      · rename_i ht
        rw [ht]
        split at h
        · rename_i q hq
          cases h
          exact pass_ev hq pre hd2.2 k
        · cases h
          exact k
    · cases n with
      | zero => cases h
      | succ n =>
        simp only at h
        split at h
        · rename_i kk ee hq
          cases h
          have := pass_ev hq (pre ++ [x]) (by simpa using hd) (by simpa using k)
          simpa using this
        · cases h
theorem Ev.pass (n : Nat) {e' : En} (h : Proofs.YtnbkjcmmjgkdaaaGreat.pass n rem e = some (rem', e')) (hd : dist rem = true) (k : Ev P N Kf rem' ms e' L) : Ev P N Kf rem ms e L := pass_ev h [] hd k
/-- One plain operation at the head. -/
theorem Ev.stpH {x : It} {v : Value} {e' : En} (hd : dist (x :: r) = true) (h : stepM x e = some v) (he : (match x.g.d with | some t => (t, v) :: e | none => e) = e') (k : Ev P N Kf r ms e' L) : Ev P N Kf (x :: r) ms e L := by
  refine Ev.stp (x := x) (by simp) h ?_
  rw [without_head (by simp only [dist, Bool.and_eq_true] at hd; exact hd.1)]
  subst he
  cases hx : x.g.d with
  | none => rw [hx] at k; exact k
  | some t => rw [hx] at k; exact k
/-- What is known may be less. -/
theorem only_sub {T e : En} (hs : sub T e) (rs : List Nat) : sub (T.only rs) (e.only rs) := by
  intro t u h
  have ⟨hm, hu⟩ := only_get h
  have hu' := hs t u hu
  clear h hu hs
  induction rs with
  | nil => cases hm
  | cons a r ih =>
    unfold En.only
    by_cases hat : a = t
    · subst hat
      rw [hu']
      simp [En.get]
    · have hm' : t ∈ r := by
        rcases List.mem_cons.1 hm with h | h
        · exact absurd h.symm hat
        · exact h
      have hb : Nat.beq a t = false := by
        cases hb : Nat.beq a t with
        | false => rfl
        | true => exact absurd (Nat.eq_of_beq_eq_true hb) hat
      split
      · simp only [En.get, hb, cond_false]; exact ih hm'
      · exact ih hm'
theorem sub.trans {a b c : En} (h : sub a b) (k : sub b c) : sub a c := fun i v x => k i v (h i v x)
theorem sub.put {a b : En} (h : sub a b) (d : Option Nat) (v : Value) : sub (a.put d v) (b.put d v) := by
  intro i u hi
  cases d with
  | none => exact h i u hi
  | some t =>
    simp only [En.put, En.get] at hi ⊢
    cases hb : Nat.beq t i with
    | true => simp only [hb, cond_true] at hi ⊢; exact hi
    | false => simp only [hb, cond_false] at hi ⊢; exact h i u hi
theorem Ev.less {T : En} (hK : ∀ e e' L, sub e e' → Kf e L → Kf e' L) (h : Ev P N Kf rem ms T L) : ∀ {e : En}, sub T e → Ev P N Kf rem ms e L := by
  induction h with
  | nil h => exact fun hs => .nil (hK _ _ _ hs h)
  | free x hx v h k ih => exact fun hs => .free x hx v (fun L e' he => h L e' ((only_sub hs _).trans he)) (ih (hs.put _ _))
  | looks x hx v Φ hΦ h k ih => exact fun hs => .looks x hx v Φ hΦ (fun M hM e' he => h M hM e' ((only_sub hs _).trans he)) (ih (hs.put _ _))
  | turns x hx R h1 h2 h k ih => exact fun hs => .turns x hx R h1 h2 (fun e' he => h e' ((only_sub hs _).trans he)) fun v L' hR => ih v L' hR (hs.put _ _)
theorem sub_learn {t : Nat} {p q : Value} (h : e.get t = some p) (hq : p = q) : sub ((t, q) :: e) e := by
  subst hq
  intro i u hi
  simp only [En.get] at hi
  cases hb : Nat.beq t i with
  | true => rw [hb, cond_true] at hi; rw [← Nat.eq_of_beq_eq_true hb, h]; exact hi
  | false => rw [hb, cond_false] at hi; exact hi
/-- A value known otherwise. -/
theorem Ev.learn [hK : Mono Kf] (t : Nat) {p q : Value} (h : e.get t = some p) (hq : p = q) (k : Ev P N Kf rem ms ((t, q) :: e) L) : Ev P N Kf rem ms e L := Ev.less hK.le k (sub_learn h hq)
theorem Ev.yes [hK : Mono Kf] (t : Nat) {p : Bool} (h : e.get t = some (.bool p)) (hp : p = true) (k : Ev P N Kf rem ms ((t, .bool true) :: e) L) : Ev P N Kf rem ms e L := .learn t h (by rw [hp]) k
theorem Ev.no [hK : Mono Kf] (t : Nat) {p : Bool} (h : e.get t = some (.bool p)) (hp : p = false) (k : Ev P N Kf rem ms ((t, .bool false) :: e) L) : Ev P N Kf rem ms e L := .learn t h (by rw [hp]) k
theorem Ev.fin (h : Kf e L) : Ev P N Kf [] ms e L := .nil h
/-- What is known, but for what is to be written; told cell by cell. -/
def clr (ds : List Nat) : En → Option En
  | [] => some []
  | (i, v) :: r => match clr ds r with
    | some q => bif ds.any (Nat.beq i) then some q else some ((i, v) :: q)
    | none => none
def dsts : List It → List Nat
  | [] => []
  | x :: r => match x.g.d with | some d => d :: dsts r | none => dsts r
theorem clr_any {l : List It} {i : Nat} : (dsts l).any (Nat.beq i) = true → ∃ y ∈ l, y.g.d = some i := by
  induction l with
  | nil => intro h; cases h
  | cons x r ih =>
    intro h
    unfold dsts at h
    split at h
    · rename_i d hd
      simp only [List.any_cons, Bool.or_eq_true] at h
      rcases h with h | h
      · exact ⟨x, by simp, by rw [hd, Nat.eq_of_beq_eq_true h]⟩
      · obtain ⟨y, hy, he⟩ := ih h; exact ⟨y, by simp [hy], he⟩
    · obtain ⟨y, hy, he⟩ := ih h; exact ⟨y, by simp [hy], he⟩
theorem clr_eq {l : List It} : ∀ {e q : En}, clr (dsts l) e = some q → q = e.clear l
  | [], q, h => by cases h; rfl
  | (i, v) :: r, q, h => by
    simp only [clr] at h
    split at h
    · rename_i q' hq
      have ih := clr_eq hq
      subst ih
      unfold En.clear
      rw [List.filter_cons]
      cases hb : (dsts l).any (Nat.beq i) with
      | true =>
        rw [hb, cond_true] at h; cases h
        obtain ⟨y, hy, he⟩ := clr_any hb
        rw [if_neg]
        · rfl
        · intro hh
          have := List.all_eq_true.1 hh y hy
          rw [he] at this; simp at this
      | false =>
        rw [hb, cond_false] at h; cases h
        rw [if_pos]
        · rfl
        · refine List.all_eq_true.2 fun y hy => ?_
          cases hyd : y.g.d with
          | none => rfl
          | some d =>
            simp only [Bool.not_eq_true']
            cases hdi : Nat.beq d i with
            | false => rfl
            | true =>
              exfalso
              rw [Nat.eq_of_beq_eq_true hdi] at hyd
              have : (dsts l).any (Nat.beq i) = true := by
                clear hb hq
                induction l with
                | nil => cases hy
                | cons x l ih =>
                  unfold dsts
                  rcases List.mem_cons.1 hy with rfl | hy
                  · rw [hyd]; simp
                  · split
                    · simp only [List.any_cons, Bool.or_eq_true]; exact .inr (ih hy)
                    · exact ih hy
              rw [hb] at this; cases this
    · cases h
theorem Cx.ordc {l : List It} {e q : En} {d : C} {K : Kx} (hq : clr (dsts l) e = some q) (hc : chkO l = true) (h : Ev P N (fun fin L => Cx P N d fin K L) l [] q L) : Cx P N (.rd l) e (Ksq P N d K) L := by
  refine Cx.ord hc ?_
  rw [← clr_eq hq]
  exact h
/-- At the end of a block, of a loop's body, of a function. -/
theorem Cx.orde {l : List It} {e q : En} {K : Kx} [hK : Mono (fun e L => K .nm e L)] (hq : clr (dsts l) e = some q) (hc : chkO l = true) (h : Ev P N (fun fin L => K .nm fin L) l [] q L) : Cx P N (.rd l) e K L := by
  rw [clr_eq hq] at h
  simp only [chkO, Bool.and_eq_true] at hc
  refine Cx.rd ?_
  refine ev_run (Kf := Krg K) hc.1 hc.2.1 hc.2.2 hK.le l.length l [] (e.clear l) L h [] l e rfl (fun _ h => h) (fun x => by simp) (fun _ h => by cases h) (fun _ h => by cases h) (fun y hy d hyd => ?_) (fun t u ht _ => clear_sub ht)
  cases hg : (e.clear l).get d with
  | none => rfl
  | some u => exact absurd hyd ((clear_get hg).1 y hy)
/-- The last one behind all others: it may write what they read. -/
def lastOne (l : List It) (y : It) : Bool := l.all fun x => bit y.ds x.i && !(Nat.beq y.i x.i)
theorem Cx.ordl {l : List It} {y : It} {e q : En} {K : Kx} [hK : Mono (fun e L => K .nm e L)] (hq : clr (dsts l) e = some q) (hc : chkO l = true) (hy : lastOne l y = true)
    (h : Ev P N (fun fin L => Sx P N [y.g] fin (fun e L => K .nm e L) L) l [] q L) : Cx P N (.rd (l ++ [y])) e K L := by
  rw [clr_eq hq] at h
  simp only [chkO, Bool.and_eq_true] at hc
  refine Cx.rd ?_
  refine ev_runT (Kf := fun fin L => Sx P N [y.g] fin (fun e L => K .nm e L) L) (Kt := Krg K) hc.1 hc.2.1 hc.2.2 (fun z hz x hx => ?_) (fun e e' L hs hk => ?_) l.length l [] (e.clear l) L h [] l e rfl (fun _ h => h) (fun x => by simp) (fun _ h => by cases h) (fun _ h => by cases h) (fun y hy d hyd => ?_) (fun t u ht _ => clear_sub ht)
  · have : z = y := by simpa using hz
    subst this
    simp only [lastOne, List.all_eq_true, Bool.and_eq_true] at hy
    refine ⟨(hy x hx).1, fun e => ?_⟩
    have := (hy x hx).2
    rw [e] at this; simp at this
  · refine Rx.all (fun h => by cases h) fun x hx => ⟨by simp, ?_⟩
    have hxy : x = y := by
      have : x ∈ [y] := (List.mem_filter.1 hx).1
      simpa using this
    subst hxy
    intro ops os Q a w0 w hc2 ok s kk
    refine hk ops os Q a w0 w hc2 (ok.sub hs) s fun a' w' e2 L2 h2 => kk a' w' e2 L2 ⟨trivial, ?_⟩
    have hw : without [x] x.i = [] := by simp [without]
    rw [hw]
    exact Rx.nil h2
  · cases hg : (e.clear l).get d with
    | none => rfl
    | some u => exact absurd hyd ((clear_get hg).1 y hy)
def unsnoc : List It → Option (List It × It)
  | [] => none
  | x :: r => match r with
    | [] => some ([], x)
    | _ :: _ => match unsnoc r with
      | some (l, y) => some (x :: l, y)
      | none => none
theorem unsnoc_eq : ∀ {l0 l : List It} {y : It}, unsnoc l0 = some (l, y) → l0 = l ++ [y]
  | [], _, _, h => by cases h
  | [x], l, y, h => by cases h; rfl
  | x :: z :: r, l, y, h => by
    have ih := @unsnoc_eq (z :: r)
    unfold unsnoc at h
    simp only at h
    split at h
    · rename_i l' y' hq
      cases h
      rw [ih hq]; rfl
    · cases h
theorem Cx.ordu {l0 l : List It} {y : It} {e q : En} {K : Kx} [hK : Mono (fun e L => K .nm e L)] (hu : unsnoc l0 = some (l, y)) (hq : clr (dsts l) e = some q) (hc : chkO l = true) (hy : lastOne l y = true)
    (h : Ev P N (fun fin L => Sx P N [y.g] fin (fun e L => K .nm e L) L) l [] q L) : Cx P N (.rd l0) e K L := by
  rw [unsnoc_eq hu]
  exact Cx.ordl hq hc hy h
/-- At the head: whatever looks. -/
theorem Ev.lookH {s : S} {v : Value} (Φ : St → Prop) (hd : dist (⟨i, ds, rs, ⟨d, g, s⟩⟩ :: r) = true) (hg : gon (e.only rs) g = true) (hΦ : Φ L) (h : ∀ M, Φ M → ∀ e', sub (e.only rs) e' → Sc P N ⟨d, none, s⟩ e' v M)
    (k : Ev P N Kf r ((i, Φ) :: ms) (e.put d v) L) : Ev P N Kf (⟨i, ds, rs, ⟨d, g, s⟩⟩ :: r) ms e L :=
  .looks ⟨i, ds, rs, ⟨d, g, s⟩⟩ (by simp) v Φ hΦ (fun M hM e' hs => .gon hg hs (h M hM e' hs)) (by
    rw [show without (⟨i, ds, rs, ⟨d, g, s⟩⟩ :: r) i = r from without_head (x := ⟨i, ds, rs, ⟨d, g, s⟩⟩) (by simp only [dist, Bool.and_eq_true] at hd; exact hd.1)]
    exact k)
/-- A load. -/
theorem Ev.ldH {x : X} {n b off : Nat} {ag : Bool} {vs : List Value} {v : Value} (hd : dist (⟨i, ds, rs, ⟨d, g, .ld x n ag⟩⟩ :: r) = true) (hg : gon (e.only rs) g = true) (hx : x.get (e.only rs) = some (.pointer (some ⟨b, off, none⟩))) (hh : Has L b off vs) (hv : ldv n ag vs = some v)
    (k : Ev P N Kf r ((i, fun M => Has M b off vs) :: ms) (e.put d v) L) : Ev P N Kf (⟨i, ds, rs, ⟨d, g, .ld x n ag⟩⟩ :: r) ms e L :=
  .lookH (fun M => Has M b off vs) hd hg hh (fun M hM e' hs K k => Sx.ld (X.get_sub hx hs) hM hv (Sx.nil k)) k
theorem Ev.ldbH {x : X} {b off : Nat} {T : TypeId} {cs : List Value} {v : Value} [t : Take L (some ⟨b, 0, none⟩) (Blk T cs) F] (hd : dist (⟨i, ds, rs, ⟨d, g, .ld x 1 false⟩⟩ :: r) = true) (hg : gon (e.only rs) g = true) (hx : x.get (e.only rs) = some (.pointer (some ⟨b, off, none⟩)))
    (hv : cs[off]? = some v) (k : Ev P N Kf r ((i, fun M => Has M b off [v]) :: ms) (e.put d v) L) : Ev P N Kf (⟨i, ds, rs, ⟨d, g, .ld x 1 false⟩⟩ :: r) ms e L :=
  .ldH hd hg hx ((Has.blk (T := T) (cs := cs) (n := 1)).one (take_one hv)) rfl k
theorem Ev.ldrH {x : X} {b off E sz n cap : Nat} {xs : List Value} {v : Value} [t : Take L (some ⟨b, 0, none⟩) (Row E sz n cap xs) F] (hd : dist (⟨i, ds, rs, ⟨d, g, .ld x 1 false⟩⟩ :: r) = true) (hg : gon (e.only rs) g = true) (hx : x.get (e.only rs) = some (.pointer (some ⟨b, off, none⟩)))
    (hv : xs[off]? = some v) (k : Ev P N Kf r ((i, fun M => Has M b off [v]) :: ms) (e.put d v) L) : Ev P N Kf (⟨i, ds, rs, ⟨d, g, .ld x 1 false⟩⟩ :: r) ms e L :=
  .ldH hd hg hx ((Has.row (E := E) (sz := sz) (n := n) (cap := cap) (xs := xs) (m := 1)).one (take_one hv)) rfl k
theorem Ev.ldbsH {x : X} {b off n : Nat} {T : TypeId} {cs : List Value} [t : Take L (some ⟨b, 0, none⟩) (Blk T cs) F] (hd : dist (⟨i, ds, rs, ⟨d, g, .ld x n true⟩⟩ :: r) = true) (hg : gon (e.only rs) g = true) (hx : x.get (e.only rs) = some (.pointer (some ⟨b, off, none⟩)))
    (hn : Nat.ble (off + n) cs.length = true) (k : Ev P N Kf r ((i, fun M => Has M b off ((cs.drop off).take n)) :: ms) (e.put d (.agg ((cs.drop off).take n).toArray)) L) : Ev P N Kf (⟨i, ds, rs, ⟨d, g, .ld x n true⟩⟩ :: r) ms e L := by
  refine .ldH hd hg hx (Has.blk (T := T) (cs := cs) (n := n)) ?_ k
  have h1 := Nat.le_of_ble_eq_true hn
  have h2 : ((cs.drop off).take n).length = n := by simp; omega
  simp [ldv, h2]
/-- A plain operation that asks for something. -/
theorem Ev.pvH {s : S} {φ : Prop} {v : Value} (hd : dist (⟨i, ds, rs, ⟨d, g, s⟩⟩ :: r) = true) (hg : gon (e.only rs) g = true) (hp : Proofs.YtnbkjcmmjgkdaaaGreat.pv (e.only rs) s = some (φ, v)) (hφ : φ) (k : Ev P N Kf r ms (e.put d v) L) :
    Ev P N Kf (⟨i, ds, rs, ⟨d, g, s⟩⟩ :: r) ms e L :=
  .free ⟨i, ds, rs, ⟨d, g, s⟩⟩ (by simp) v (fun L e' hs => .gon hg hs (.pv hp hφ hs)) (by
    rw [without_head (x := ⟨i, ds, rs, ⟨d, g, s⟩⟩) (by simp only [dist, Bool.and_eq_true] at hd; exact hd.1)]
    exact k)
/-- A call that leaves what is known. -/
theorem Ev.cakH {f : FuncId} {xs : List X} {vs : List Value} {v : Value} (hd : dist (⟨i, ds, rs, ⟨d, g, .ca f xs⟩⟩ :: r) = true) (hg : gon (e.only rs) g = true) (hx : gets (e.only rs) xs = some vs) (hf : Fx P f vs L (fun v' L' => v' = v ∧ L = L'))
    (k : Ev P N Kf r ((i, fun M => Fx P f vs M (fun v' L' => v' = v ∧ M = L')) :: ms) (e.put d v) L) : Ev P N Kf (⟨i, ds, rs, ⟨d, g, .ca f xs⟩⟩ :: r) ms e L :=
  .lookH (fun M => Fx P f vs M (fun v' L' => v' = v ∧ M = L')) hd hg hf (fun M hM e' hs K k => Sx.ca (gets_sub hs hx) hM fun v' L' h => by
    obtain ⟨rfl, rfl⟩ := h
    exact Sx.nil k) k
theorem Se.gon {T e' : En} {s : S} {R : Value → St → Prop} (hg : Proofs.YtnbkjcmmjgkdaaaGreat.gon T g = true) (hs : sub T e') (h : Se P N ⟨d, none, s⟩ e' L R) : Se P N ⟨d, g, s⟩ e' L R := by
  unfold Proofs.YtnbkjcmmjgkdaaaGreat.gon at hg
  split at hg
  · exact h
  · rename_i t b
    split at hg
    · rename_i c hc
      have hcb : c = b := by simpa using hg
      subst hcb
      exact fun K k => Sx.on (hs _ _ hc) (h K k)
    · cases hg
/-- What is left depends on it. -/
def lastly (i : Nat) (r : List It) : Bool := r.all fun y => !(Nat.beq y.i i) && bit y.ds i
theorem lastly_all {i : Nat} {r : List It} (h : lastly i r = true) : r.all (fun y => bit y.ds i) = true ∧ r.all (fun y => !(Nat.beq y.i i)) = true := by
  simp only [lastly, Bool.and_eq_true, List.all_eq_true] at h ⊢
  exact ⟨fun y hy => (h y hy).2, fun y hy => (h y hy).1⟩
/-- What has looked is ahead of it, or what it came to holds still. -/
inductive Pres (ds : Nat) (R : Value → St → Prop) : List (Nat × (St → Prop)) → Prop
  | nil : Pres ds R []
  | dep {m : Nat} {Φ : St → Prop} {l : List (Nat × (St → Prop))} (h : bit ds m = true) (k : Pres ds R l) : Pres ds R ((m, Φ) :: l)
  | keep {m : Nat} {Φ : St → Prop} {l : List (Nat × (St → Prop))} (h : ∀ v L', R v L' → Φ L') (k : Pres ds R l) : Pres ds R ((m, Φ) :: l)
theorem Pres.all {ds : Nat} {R : Value → St → Prop} {ms : List (Nat × (St → Prop))} (h : Pres ds R ms) : ∀ q ∈ ms, bit ds q.1 = true ∨ ∀ v L', R v L' → q.2 L' := by
  induction h with
  | nil => intro q hq; cases hq
  | dep h k ih =>
    intro q hq
    rcases List.mem_cons.1 hq with rfl | hq
    · exact .inl h
    · exact ih q hq
  | keep h k ih =>
    intro q hq
    rcases List.mem_cons.1 hq with rfl | hq
    · exact .inr h
    · exact ih q hq
/-- All of them ahead of it. -/
theorem Pres.deps {ds : Nat} {R : Value → St → Prop} : ∀ {ms : List (Nat × (St → Prop))}, (ms.all fun q => bit ds q.1) = true → Pres ds R ms
  | [], _ => .nil
  | q :: l, h => by
    simp only [List.all_cons, Bool.and_eq_true] at h
    exact .dep h.1 (Pres.deps h.2)
/-- An operation that turns what is known. -/
theorem Ev.genH {s : S} {R : Value → St → Prop} (hd : lastly i r = true) (hp : Pres ds R ms) (hg : gon (e.only rs) g = true) (h : ∀ e', sub (e.only rs) e' → Se P N ⟨d, none, s⟩ e' L R)
    (k : ∀ v L', R v L' → Ev P N Kf r ms (e.put d v) L') : Ev P N Kf (⟨i, ds, rs, ⟨d, g, s⟩⟩ :: r) ms e L := by
  have hw := without_head (x := ⟨i, ds, rs, ⟨d, g, s⟩⟩) (lastly_all hd).2
  refine .turns ⟨i, ds, rs, ⟨d, g, s⟩⟩ (by simp) R ?_ hp.all (fun e' hs => .gon hg hs (h e' hs)) fun v L' hR => ?_
  · rw [show without (_ :: r) i = r from hw]; exact (lastly_all hd).1
  · rw [show without (_ :: r) i = r from hw]; exact k v L' hR
/-- A call that turns what is known. -/
theorem Ev.caH {f : FuncId} {xs : List X} {vs : List Value} {R : Value → St → Prop} (hd : lastly i r = true) (hg : gon (e.only rs) g = true) (hx : gets (e.only rs) xs = some vs) (hf : Fx P f vs L R) (hp : Pres ds R ms)
    (k : ∀ v L', R v L' → Ev P N Kf r ms (e.put d v) L') : Ev P N Kf (⟨i, ds, rs, ⟨d, g, .ca f xs⟩⟩ :: r) ms e L :=
  .genH hd hp hg (fun e' hs K kk => Sx.ca (gets_sub hs hx) hf fun v' L' h => Sx.nil (kk v' L' h)) k
/-- An append to a row. -/
theorem Ev.apH {T E sz by_ : Nat} {z : List Value} {x y : X} {ra ya : Option Addr} {n cap m c : Nat} {xs ys : List Value} [t : Take L ra (Row E sz n cap xs) F] (hd : lastly i r = true) (hg : gon (e.only rs) g = true)
    (hx : x.get (e.only rs) = some (.slice ra n cap)) (hy : y.get (e.only rs) = some (.slice ya m c)) (hr : Rd L sz ya m ys) (h1 : ones ys = true) (hm : n + m ≤ maxLen) (hb : (n + m) * by_ ≤ 140737488355328)
    (hp : Pres ds (fun v L' => ∃ ra' cap', n + m ≤ cap' ∧ (n + m = 0 ∨ ∃ g, ra' = some ⟨g, 0, none⟩) ∧ v = .slice ra' (n + m) cap' ∧ L' = pt ra' (Row E sz (n + m) cap' (xs ++ ys)) :: F) ms)
    (k : ∀ ra' cap', n + m ≤ cap' → (n + m = 0 ∨ ∃ g, ra' = some ⟨g, 0, none⟩) → Ev P N Kf r ms (e.put d (.slice ra' (n + m) cap')) (pt ra' (Row E sz (n + m) cap' (xs ++ ys)) :: F)) : Ev P N Kf (⟨i, ds, rs, ⟨d, g, .ap T E sz by_ z x y⟩⟩ :: r) ms e L :=
  .genH hd hp hg (fun e' hs K kk => Sx.ap (t := t) (X.get_sub hx hs) (X.get_sub hy hs) hr h1 hm hb fun ra' cap' hc => Sx.rowkey (a := ra') fun _ _ _ hk => Sx.nil (kk _ _ ⟨ra', cap', hc, hk.imp (fun h => h.2.1) id, rfl, rfl⟩))
    (fun v L' ⟨ra', cap', hc, hk, e1, e2⟩ => by subst e1; subst e2; exact k ra' cap' hc hk)
theorem fills_sub {T e' : En} (hs : sub T e') : ∀ {ps : List (Nat × Nat × X)} {z cs : List Value}, fills T z ps = some cs → fills e' z ps = some cs
  | [], _, _, h => h
  | (off, sz, x) :: l, z, cs, h => by
    unfold fills at h ⊢
    split at h
    · rename_i v hv
      rw [X.get_sub hv hs]
      split at h
      · rename_i vs hvs
        simp only [hvs]
        cases hb : (Nat.beq vs.length sz && Nat.ble (off + sz) z.length) with
        | true => rw [hb, cond_true] at h; rw [cond_true]; exact fills_sub hs h
        | false => rw [hb, cond_false] at h; cases h
      · cases h
    · cases h
/-- A slice's own new cells. -/
theorem Ev.bsH {E len : Nat} {z : List Value} {ps : List (Nat × Nat × X)} {cs : List Value} (hd : lastly i r = true) (hg : gon (e.only rs) g = true) (hf : fills (e.only rs) z ps = some cs) (hl : z.length = len * sz)
    (hp : Pres ds (fun v L' => ∃ q, v = .slice (some ⟨q, 0, none⟩) len len ∧ L' = pt (some ⟨q, 0, none⟩) (Row E sz len len cs) :: L) ms)
    (k : ∀ q, Ev P N Kf r ms (e.put d (.slice (some ⟨q, 0, none⟩) len len)) (pt (some ⟨q, 0, none⟩) (Row E sz len len cs) :: L)) : Ev P N Kf (⟨i, ds, rs, ⟨d, g, .bs E len z ps⟩⟩ :: r) ms e L :=
  .genH hd hp hg (fun e' hs K kk => Sx.bs (sz := sz) (fills_sub hs hf) hl fun q => Sx.nil (kk _ _ ⟨q, rfl, rfl⟩))
    (fun v L' ⟨q, e1, e2⟩ => by subst e1; subst e2; exact k q)
/-- New blocks. -/
theorem Ev.bxH {E : TypeId} {x : X} {u : Value} {vs : List Value} (hd : lastly i r = true) (hg : gon (e.only rs) g = true) (hx : x.get (e.only rs) = some u) (hu : cellsOf u = some vs)
    (hp : Pres ds (fun v L' => ∃ q, v = .pointer (some ⟨q, 0, none⟩) ∧ L' = pt (some ⟨q, 0, none⟩) (Blk E vs) :: L) ms)
    (k : ∀ q, Ev P N Kf r ms (e.put d (.pointer (some ⟨q, 0, none⟩))) (pt (some ⟨q, 0, none⟩) (Blk E vs) :: L)) : Ev P N Kf (⟨i, ds, rs, ⟨d, g, .bx E x⟩⟩ :: r) ms e L :=
  .genH hd hp hg (fun e' hs K kk => Sx.bx (X.get_sub hx hs) hu fun q => Sx.nil (kk _ _ ⟨q, rfl, rfl⟩))
    (fun v L' ⟨q, e1, e2⟩ => by subst e1; subst e2; exact k q)
/-- A store of one cell. -/
theorem Ev.stbH {x v : X} {b off : Nat} {T : TypeId} {cs ds' : List Value} {u : Value} [t : Take L (some ⟨b, 0, none⟩) (Blk T cs) F] (hd : lastly i r = true) (hg : gon (e.only rs) g = true)
    (hx : x.get (e.only rs) = some (.pointer (some ⟨b, off, none⟩))) (hv : v.get (e.only rs) = some u) (hu : cellsOf u = some [u]) (h1 : u.oneCell' = true) (hl : Nat.blt off cs.length = true) (hds : cs.set off u = ds')
    (hp : Pres ds (fun v L' => v = undef ∧ L' = pt (some ⟨b, 0, none⟩) (Blk T ds') :: F) ms)
    (k : Ev P N Kf r ms (e.put d undef) (pt (some ⟨b, 0, none⟩) (Blk T ds') :: F)) : Ev P N Kf (⟨i, ds, rs, ⟨d, g, .st x v 1⟩⟩ :: r) ms e L :=
  .genH hd hp hg (fun e' hs K kk => Sx.stb (t := t) (X.get_sub hx hs) (X.get_sub hv hs) hu h1 hl hds (Sx.nil (kk _ _ ⟨rfl, rfl⟩)))
    (fun v L' ⟨e1, e2⟩ => by subst e1; subst e2; exact k)
end
end
/- The rules' short names. -/
abbrev Ze0 := @Ev.pass
abbrev Ze1 := @Ev.stpH
abbrev Ze2 := @Ev.done
abbrev Ze3 := @Ev.fin
abbrev Ze4 := @Ev.ldbH
abbrev Ze5 := @Ev.ldbsH
theorem ge {A B : Prop} (k : B) (h : Wrap B → A := by intro r; (repeat (first|refine Ze0 0 rfl (by kernel_rfl) ?_|refine Ze1 (by kernel_rfl) rfl rfl ?_|refine Ze2 ?_|refine Ze3 ?_|refine Ze4 (by kernel_rfl) rfl rfl (by rfl) ?_|refine Ze5 (by kernel_rfl) rfl rfl rfl ?_|refine Ev.pvH (by kernel_rfl) rfl rfl ⟨by omega, by omega⟩ ?_|refine Ev.pvH (by kernel_rfl) rfl rfl (by decide) ?_|fail)); exact r.out) : A := h ⟨k⟩
end Go.Proofs.YtnbkjcmmjgkdaaaGreat

/-
  Plain numbers and lists: memories, heads, stacks; what a Push and a Pop do, one access at a time.
-/
set_option linter.unusedVariables false
set_option linter.unusedSimpArgs false
namespace Go.Proofs.YtnbkjcmmjgkdaaaGreat
/-- A memory: what the cells hold, how many accesses there were. -/
structure Mm where
  ws : List Nat
  n : Nat
def Mm.at_ (m : Mm) (i : Nat) : Nat := m.ws.getD i 0
def Mm.tick (m : Mm) : Mm := ⟨m.ws, m.n + 1⟩
def Mm.put (m : Mm) (i v : Nat) : Mm := ⟨m.ws.set i v, m.n + 1⟩
def Mm.lay (m : Mm) (i v : Nat) : Mm := ⟨m.ws.set i v, m.n⟩
def Mm.cas (m : Mm) (i o v : Nat) : Mm := if m.at_ i = o then m.put i v else m.tick
/-- Each word has 64 bits. -/
def Mm.ok (m : Mm) : Prop := ∀ w ∈ m.ws, w < 18446744073709551616
theorem Mm.at_lt {m : Mm} (h : m.ok) (i : Nat) : m.at_ i < 18446744073709551616 := by
  unfold Mm.at_
  rw [List.getD_eq_getElem?_getD]
  cases hg : m.ws[i]? with
  | none => simp
  | some w => exact h w (List.mem_of_getElem? hg)
theorem Mm.get {m : Mm} {i : Nat} (h : i < m.ws.length) : m.ws[i]? = some (m.at_ i) := by
  unfold Mm.at_
  rw [List.getD_eq_getElem?_getD, List.getElem?_eq_getElem h]; rfl
theorem Mm.at_lay {m : Mm} {i v : Nat} (j : Nat) (h : i < m.ws.length) : (m.lay i v).at_ j = if i = j then v else m.at_ j := by
  unfold Mm.at_ Mm.lay
  simp only [List.getD_eq_getElem?_getD, List.getElem?_set]
  split <;> simp_all
theorem Mm.at_put {m : Mm} {i v : Nat} (j : Nat) (h : i < m.ws.length) : (m.put i v).at_ j = if i = j then v else m.at_ j := Mm.at_lay j h
theorem Mm.len_put {m : Mm} {i v : Nat} : (m.put i v).ws.length = m.ws.length := by simp [Mm.put]
theorem Mm.len_lay {m : Mm} {i v : Nat} : (m.lay i v).ws.length = m.ws.length := by simp [Mm.lay]
theorem Mm.len_cas {m : Mm} {i o v : Nat} : (m.cas i o v).ws.length = m.ws.length := by unfold Mm.cas; split <;> simp [Mm.put, Mm.tick]
theorem Mm.ok_lay {m : Mm} {i v : Nat} (h : m.ok) (hv : v < 18446744073709551616) : (m.lay i v).ok := by
  intro w hw
  rcases List.mem_or_eq_of_mem_set hw with h1 | rfl
  · exact h w h1
  · exact hv
theorem Mm.ok_put {m : Mm} {i v : Nat} (h : m.ok) (hv : v < 18446744073709551616) : (m.put i v).ok := Mm.ok_lay (m := m) h hv
theorem Mm.ok_tick {m : Mm} (h : m.ok) : m.tick.ok := h
theorem Mm.ok_cas {m : Mm} {i o v : Nat} (h : m.ok) (hv : v < 18446744073709551616) : (m.cas i o v).ok := by
  unfold Mm.cas; split
  · exact Mm.ok_put h hv
  · exact Mm.ok_tick h
/-! Heads: the index and 1 in the lower half, the tag in the upper one. -/
def hdI (w : Nat) : Int := (w % 4294967296 : Nat) - 1
def hdT (w : Nat) : Nat := w / 4294967296
def laterT (t : Nat) : Nat := if t < 4294967295 then t + 1 else 0
/-- A head's word behind an exchange: of an item, or none (-1). -/
def nextW (w : Nat) (i : Int) : Nat := laterT (hdT w) * 4294967296 + (i + 1).toNat
theorem hdT_lt {w : Nat} (h : w < 18446744073709551616) : hdT w < 4294967296 := by unfold hdT; omega
theorem laterT_lt {t : Nat} (h : t < 4294967296) : laterT t < 4294967296 := by unfold laterT; split <;> omega
theorem nextW_lt {w : Nat} {i : Int} (h : w < 18446744073709551616) (hi : i < 4294967295) : nextW w i < 18446744073709551616 := by
  have := laterT_lt (hdT_lt h)
  unfold nextW; omega
theorem hdI_next {w : Nat} {i : Int} (h1 : -1 ≤ i) (h2 : i < 4294967295) : hdI (nextW w i) = i := by unfold hdI nextW; omega
/-- A stack's places: its head's cell, its links' first cell, how many items. -/
structure Sk where
  head : Nat
  links : Nat
  n : Nat
/-- Whether a stack may be over so many cells. -/
structure Sk.ok (k : Sk) (len : Nat) : Prop where
  n1 : 1 ≤ k.n
  n2 : k.n ≤ 4096
  h : k.head < len
  l : k.links + k.n ≤ len
  a : k.head < k.links ∨ k.links + k.n ≤ k.head
  z : len ≤ 8388608
/-- A head's item, a link's item; -1: none. -/
def Sk.top (k : Sk) (w : Nat) : Int := if hdI w < k.n then hdI w else -1
def Sk.below (k : Sk) (w : Nat) : Int := if k.n < w then -1 else (w : Int) - 1
theorem Sk.top_ge (k : Sk) (w : Nat) : -1 ≤ k.top w := by unfold Sk.top hdI; split <;> omega
theorem Sk.top_lt (k : Sk) (w : Nat) : k.top w < k.n := by unfold Sk.top; split <;> omega
theorem Sk.below_ge (k : Sk) (w : Nat) : -1 ≤ k.below w := by unfold Sk.below; split <;> omega
theorem Sk.below_lt (k : Sk) (w : Nat) : k.below w < k.n := by unfold Sk.below; split <;> omega
/-- A Pop: at: 0: the Load of the head, 1: of a link, 2: the Cas. -/
structure PopS where
  most : Int
  at_ : Nat
  under : Int
  was : Nat
  got : List Int
  done : Bool
def PopS.init (most : Int) : PopS := ⟨min (max most 1) 8, 0, 0, 0, [], false⟩
/-- The last one of a list. -/
def lastI (l : List Int) : Int := l.getLastD 0
def popStep (k : Sk) (m : Mm) (q : PopS) : PopS × Mm :=
  if q.done then (q, m) else
  match q.at_ with
  | 0 => if 0 ≤ k.top (m.at_ k.head) then ({ q with was := m.at_ k.head, got := [k.top (m.at_ k.head)], at_ := 1 }, m.tick) else ({ q with was := m.at_ k.head, got := [], done := true }, m.tick)
  | 1 => if 0 ≤ k.below (m.at_ (k.links + (lastI q.got).toNat)) ∧ (q.got.length : Int) < q.most then
      ({ q with under := k.below (m.at_ (k.links + (lastI q.got).toNat)), got := q.got ++ [k.below (m.at_ (k.links + (lastI q.got).toNat))] }, m.tick)
      else ({ q with under := k.below (m.at_ (k.links + (lastI q.got).toNat)), at_ := 2 }, m.tick)
  | _ => ({ q with at_ := 0, done := decide (m.at_ k.head = q.was) }, m.cas k.head q.was (nextW q.was q.under))
/-- What may be of a Pop. -/
structure PopS.ok (k : Sk) (q : PopS) : Prop where
  m1 : 1 ≤ q.most
  m2 : q.most ≤ 8
  a : q.at_ ≤ 2
  u1 : -1 ≤ q.under
  u2 : q.under < k.n
  w : q.was < 18446744073709551616
  g : ∀ x ∈ q.got, 0 ≤ x ∧ x < k.n
  ne : q.done = false → q.at_ ≠ 0 → q.got ≠ []
  len : q.got.length ≤ 8
theorem PopS.ok_init {k : Sk} (h : 1 ≤ k.n) (most : Int) : (PopS.init most).ok k := by
  unfold PopS.init
  refine ⟨by dsimp only; omega, by dsimp only; omega, by simp, by simp, by simp; omega, by simp, by simp, by simp, by simp⟩
theorem lastI_mem {l : List Int} (h : l ≠ []) : lastI l ∈ l := by
  unfold lastI
  rw [List.getLastD_eq_getLast?, List.getLast?_eq_some_getLast h]
  exact List.getLast_mem h
theorem popStep_ok {k : Sk} {m : Mm} {q : PopS} {len : Nat} (hk : k.ok len) (hm : m.ok) (h : q.ok k) : (popStep k m q).1.ok k := by
  have t1 := k.top_ge (m.at_ k.head)
  have t2 := k.top_lt (m.at_ k.head)
  have hw := Mm.at_lt hm k.head
  have hn := hk.n1
  unfold popStep
  split
  · exact h
  · rename_i hd
    split
    · split
      · rename_i h0
        exact ⟨h.m1, h.m2, by simp, h.u1, h.u2, hw, fun x hx => by simp only [List.mem_singleton] at hx; omega, by simp, by simp⟩
      · exact ⟨h.m1, h.m2, h.a, h.u1, h.u2, hw, by simp, by simp, by simp⟩
    · rename_i ha
      have b1 := k.below_ge (m.at_ (k.links + (lastI q.got).toNat))
      have b2 := k.below_lt (m.at_ (k.links + (lastI q.got).toNat))
      have hl := h.len
      have hne := h.ne (by simpa using hd) (by omega)
      split
      · rename_i h0
        have := h.m2
        exact ⟨h.m1, h.m2, h.a, b1, b2, h.w, fun x hx => by
          rcases List.mem_append.1 hx with hx | hx
          · exact h.g x hx
          · simp only [List.mem_singleton] at hx; omega, by simp, by simp only [List.length_append, List.length_singleton]; omega⟩
      · exact ⟨h.m1, h.m2, by simp, b1, b2, h.w, h.g, fun _ _ => hne, hl⟩
    · exact ⟨h.m1, h.m2, by simp, h.u1, h.u2, h.w, h.g, by simp, h.len⟩
/-- A Push: at: below one less than there are: a link; then the Load of the head, the last link, the Cas. -/
structure PushS where
  l : List Int
  at_ : Nat
  was : Nat
  done : Bool
def PushS.init (l : List Int) : PushS := ⟨l, 0, 0, decide (l = [])⟩
def itI (l : List Int) (i : Nat) : Int := l.getD i 0
def pushStep (k : Sk) (m : Mm) (p : PushS) : PushS × Mm :=
  if p.done then (p, m) else
  if p.at_ + 1 < p.l.length then ({ p with at_ := p.at_ + 1 }, m.put (k.links + (itI p.l p.at_).toNat) (itI p.l (p.at_ + 1) + 1).toNat)
  else if p.at_ + 1 = p.l.length then ({ p with at_ := p.at_ + 1, was := m.at_ k.head }, m.tick)
  else if p.at_ = p.l.length then ({ p with at_ := p.at_ + 1 }, m.put (k.links + (itI p.l (p.l.length - 1)).toNat) (k.top p.was + 1).toNat)
  else ({ p with at_ := p.l.length - 1, done := decide (m.at_ k.head = p.was) }, m.cas k.head p.was (nextW p.was (itI p.l 0)))
structure PushS.ok (k : Sk) (p : PushS) : Prop where
  w : p.was < 18446744073709551616
  g : ∀ x ∈ p.l, 0 ≤ x ∧ x < k.n
  ne : p.done = false → p.l ≠ []
  a : p.at_ ≤ p.l.length + 1
theorem PushS.ok_init {k : Sk} {l : List Int} (h : ∀ x ∈ l, 0 ≤ x ∧ x < k.n) : (PushS.init l).ok k :=
  ⟨by simp [PushS.init], h, by simp [PushS.init], by simp [PushS.init]⟩
theorem itI_mem {l : List Int} {i : Nat} (h : i < l.length) : itI l i ∈ l := by
  unfold itI
  rw [List.getD_eq_getElem?_getD, List.getElem?_eq_getElem h]
  exact List.getElem_mem h
theorem pushStep_ok {k : Sk} {m : Mm} {p : PushS} (hm : m.ok) (h : p.ok k) : (pushStep k m p).1.ok k := by
  have ha := h.a
  unfold pushStep
  split
  · exact h
  · rename_i hd
    have hne := h.ne (by simpa using hd)
    have hl := List.length_pos_iff.2 hne
    split
    · exact ⟨h.w, h.g, h.ne, by dsimp only; omega⟩
    · split
      · exact ⟨Mm.at_lt hm _, h.g, h.ne, by dsimp only; omega⟩
      · split
        · exact ⟨h.w, h.g, h.ne, by dsimp only; omega⟩
        · exact ⟨h.w, h.g, fun _ => hne, by dsimp only; omega⟩
end Go.Proofs.YtnbkjcmmjgkdaaaGreat

/-
  Fields of words: bits' functions and word's heads.
-/
set_option linter.unusedVariables false
set_option linter.unusedSimpArgs false
namespace Go.Proofs.YtnbkjcmmjgkdaaaGreat
open Go
attribute [local irreducible] Sx Cx Rx Fx Krg Ksq Kbl Klp Kr
/-- A word as a value. -/
abbrev wd (n : Nat) : Value := .int .u64 (n : Int)
theorem bv64 (a : Nat) : BitVec.ofInt 64 (a : Int) = BitVec.ofNat 64 a := by
  apply BitVec.eq_of_toNat_eq
  simp [BitVec.toNat_ofInt]
theorem wrap64 {n : Nat} (h : n < 18446744073709551616) : IntKind.u64.wrap (n : Int) = (n : Int) := wu64 (by omega) (by omega)
theorem and64 (a b : Nat) (ha : a < 18446744073709551616) (hb : b < 18446744073709551616) : bitsOf .and .u64 a b = ((a &&& b : Nat) : Int) := by
  show IntKind.u64.wrap (((BitVec.ofInt 64 (a : Int) &&& BitVec.ofInt 64 (b : Int)).toNat : Nat) : Int) = _
  rw [bv64, bv64, BitVec.toNat_and, BitVec.toNat_ofNat, BitVec.toNat_ofNat, Nat.mod_eq_of_lt ha, Nat.mod_eq_of_lt hb]
  exact wrap64 (Nat.lt_of_le_of_lt Nat.and_le_left ha)
theorem or64 (a b : Nat) (ha : a < 18446744073709551616) (hb : b < 18446744073709551616) : bitsOf .or .u64 a b = ((a ||| b : Nat) : Int) := by
  show IntKind.u64.wrap (((BitVec.ofInt 64 (a : Int) ||| BitVec.ofInt 64 (b : Int)).toNat : Nat) : Int) = _
  rw [bv64, bv64, BitVec.toNat_or, BitVec.toNat_ofNat, BitVec.toNat_ofNat, Nat.mod_eq_of_lt ha, Nat.mod_eq_of_lt hb]
  exact wrap64 (Nat.or_lt_two_pow (n := 64) ha hb)
theorem andNot64 (a b c : Nat) (hc : c < 18446744073709551616) (h : ∀ i, i < 64 → c.testBit i = (a.testBit i && !b.testBit i)) : bitsOf .andNot .u64 a b = (c : Int) := by
  show IntKind.u64.wrap (((BitVec.ofInt 64 (a : Int) &&& ~~~(BitVec.ofInt 64 (b : Int))).toNat : Nat) : Int) = _
  have e : BitVec.ofNat 64 a &&& ~~~(BitVec.ofNat 64 b) = BitVec.ofNat 64 c := by
    apply BitVec.eq_of_getLsbD_eq
    intro i hi
    rw [BitVec.getLsbD_and, BitVec.getLsbD_not, BitVec.getLsbD_ofNat, BitVec.getLsbD_ofNat, BitVec.getLsbD_ofNat, h i hi]
    simp [hi]
  rw [bv64, bv64, e, BitVec.toNat_ofNat, Nat.mod_eq_of_lt hc]
  exact wrap64 hc
theorem pow64 {a : Nat} (h : a ≤ 63) : (2 : Nat) ^ a < 18446744073709551616 := Nat.lt_of_le_of_lt (Nat.pow_le_pow_right (by omega) h) (by decide)
section
variable {L F : St}
theorem bitsField (a w : Nat) (h : a + w ≤ 64) : Fx Tryz.prog 194 [.int .i64 a, .int .i64 w] L (fun v L' => v = .bool true ∧ L = L') := by
  refine Fx.mk Tryz.func194 k194 (Nat.le_of_ble_eq_true rfl) ?_
  dsimp only [c194, envOf, Nat.reduceAdd]
  refine go ?_
  iterate 3 (try (refine Sx.gyes rfl (decide_eq_true (by omega)) ?_; refine go ?_))
  rw [w64 (n := 64 - (w : Int)) (by omega) (by omega), decide_eq_true (show (a : Int) ≤ 64 - w by omega)]
  exact Kr.one (.inr rfl) rfl (Ent.refl _) ⟨rfl, rfl⟩
theorem bitsMask (w : Nat) (h : w ≤ 63) : Fx Tryz.prog 195 [.int .i64 w] L (fun v L' => v = wd (2 ^ w - 1) ∧ L = L') := by
  refine Fx.mk Tryz.func195 k195 (Nat.le_of_ble_eq_true rfl) ?_
  dsimp only [c195, envOf, Nat.reduceAdd]
  have hp := pow64 h
  have h1 : 1 ≤ 2 ^ w := Nat.one_le_two_pow
  refine go ?_
  have e1 : (bif true then (if (w : Int) < 0 then (0 : Int) else (w : Int)) else (if (0 : Int) < (w : Int) then (0 : Int) else (w : Int))) = w := by
    rw [cond_true, if_neg (by omega)]
  have e2 : (bif false then (if (w : Int) < 64 then (64 : Int) else (w : Int)) else (if (64 : Int) < (w : Int) then (64 : Int) else (w : Int))) = w := by
    rw [cond_false, if_neg (by omega)]
  rw [e1, e2]
  refine Sx.pv rfl (by omega) ?_
  have e3 : min (w : Int).toNat IntKind.u64.bits = w := by rw [Int.toNat_natCast]; exact Nat.min_eq_left (by show w ≤ 64; omega)
  rw [e3, show (1 : Int) * 2 ^ w = ((2 ^ w : Nat) : Int) by push_cast; omega, wrap64 hp]
  refine go ?_
  rw [show ((2 ^ w : Nat) : Int) - 1 = ((2 ^ w - 1 : Nat) : Int) by omega, wrap64 (by omega)]
  exact Kr.one (.inr rfl) rfl (Ent.refl _) ⟨rfl, rfl⟩
theorem bitsGet (x a w : Nat) (hx : x < 18446744073709551616) (h : a + w ≤ 64) (hw : w ≤ 63) : Fx Tryz.prog 173 [wd x, .int .i64 a, .int .i64 w] L (fun v L' => v = wd (x / 2 ^ a % 2 ^ w) ∧ L = L') := by
  refine Fx.mk Tryz.func173 k173 (Nat.le_of_ble_eq_true rfl) ?_
  dsimp only [c173, envOf, Nat.reduceAdd]
  have hp := pow64 hw
  have h1 : 1 ≤ 2 ^ w := Nat.one_le_two_pow
  refine go ?_
  refine Sx.ca rfl (bitsField a w h) ?_
  rintro v L' ⟨rfl, rfl⟩
  refine go ?_
  refine Cx.ordc rfl (by kernel_rfl) ?_
  repeat' (first|refine Ze0 0 rfl (by kernel_rfl) ?_|refine Ze1 (by kernel_rfl) rfl rfl ?_|refine Ze2 ?_|refine Ze3 ?_|refine Ze4 (by kernel_rfl) rfl rfl (by rfl) ?_|refine Ze5 (by kernel_rfl) rfl rfl rfl ?_)
  refine Ev.pvH (by kernel_rfl) rfl rfl (by omega) ?_
  have e3 : min (a : Int).toNat IntKind.u64.bits = a := by rw [Int.toNat_natCast]; exact Nat.min_eq_left (by show a ≤ 64; omega)
  have e4 : (x : Int).fdiv (2 ^ a) = ((x / 2 ^ a : Nat) : Int) := by
    rw [show (2 : Int) ^ a = ((2 ^ a : Nat) : Int) by push_cast; rfl, Int.fdiv_eq_ediv_of_nonneg _ (Int.natCast_nonneg _)]; rfl
  rw [e3, e4]
  repeat' (first|refine Ze0 0 rfl (by kernel_rfl) ?_|refine Ze1 (by kernel_rfl) rfl rfl ?_|refine Ze2 ?_|refine Ze3 ?_|refine Ze4 (by kernel_rfl) rfl rfl (by rfl) ?_|refine Ze5 (by kernel_rfl) rfl rfl rfl ?_)
  refine Ev.cakH (by kernel_rfl) rfl rfl (bitsMask w hw) ?_
  repeat' (first|refine Ze0 0 rfl (by kernel_rfl) ?_|refine Ze1 (by kernel_rfl) rfl rfl ?_|refine Ze2 ?_|refine Ze3 ?_|refine Ze4 (by kernel_rfl) rfl rfl (by rfl) ?_|refine Ze5 (by kernel_rfl) rfl rfl rfl ?_)
  rw [and64 _ _ (Nat.lt_of_le_of_lt (Nat.div_le_self _ _) hx) (by omega), Nat.and_two_pow_sub_one_eq_mod]
  refine go ?_
  exact Kr.one (.inr rfl) rfl (Ent.refl _) ⟨rfl, rfl⟩
theorem bitsFits (x w : Nat) (hx : x < 2 ^ w) (hw : w ≤ 63) : Fx Tryz.prog 200 [wd x, .int .i64 w] L (fun v L' => v = .bool true ∧ L = L') := by
  refine Fx.mk Tryz.func200 k200 (Nat.le_of_ble_eq_true rfl) ?_
  dsimp only [c200, envOf, Nat.reduceAdd]
  refine go ?_
  refine Sx.ca rfl (bitsMask w hw) ?_
  rintro v L' ⟨rfl, rfl⟩
  refine go ?_
  rw [andNot64 x (2 ^ w - 1) 0 (by omega) (fun i hi => by
    rw [Nat.zero_testBit, Nat.testBit_two_pow_sub_one]
    by_cases hiw : i < w
    · simp [hiw]
    · rw [Nat.testBit_lt_two_pow (Nat.lt_of_lt_of_le hx (Nat.pow_le_pow_right (by omega) (by omega)))]; rfl)]
  exact Kr.one (.inr rfl) rfl (Ent.refl _) ⟨rfl, rfl⟩
/-- A field above all that is there. -/
theorem bitsPut (x a w y : Nat) (hx : x < 2 ^ a) (hy : y < 2 ^ w) (h : a + w ≤ 64) (hw : w ≤ 63) : Fx Tryz.prog 191 [wd x, .int .i64 a, .int .i64 w, wd y] L (fun v L' => v = .tuple #[wd (y * 2 ^ a + x), .bool true] ∧ L = L') := by
  have hp := pow64 hw
  have h1 : 1 ≤ 2 ^ w := Nat.one_le_two_pow
  have hb : 2 ^ w * 2 ^ a ≤ 18446744073709551616 := by rw [← Nat.pow_add, Nat.add_comm]; exact Nat.pow_le_pow_right (n := 2) (i := a + w) (j := 64) (by omega) h
  have h2 : 1 ≤ 2 ^ a := Nat.one_le_two_pow
  have hmx : (2 ^ w - 1) * 2 ^ a + 2 ^ a = 2 ^ w * 2 ^ a := by rw [← Nat.succ_mul]; congr 1; omega
  have hyx : y * 2 ^ a + 2 ^ a ≤ 2 ^ w * 2 ^ a := by rw [← Nat.succ_mul]; exact Nat.mul_le_mul_right _ hy
  refine Fx.mk Tryz.func191 k191 (Nat.le_of_ble_eq_true rfl) ?_
  dsimp only [c191, envOf, Nat.reduceAdd]
  refine go ?_
  refine Sx.ca rfl (bitsField a w h) ?_
  rintro v L' ⟨rfl, rfl⟩
  refine go ?_
  refine Sx.ca rfl (bitsFits y w hy hw) ?_
  rintro v L' ⟨rfl, rfl⟩
  refine go ?_
  refine Cx.ordc rfl (by kernel_rfl) ?_
  repeat' (first|refine Ze0 0 rfl (by kernel_rfl) ?_|refine Ze1 (by kernel_rfl) rfl rfl ?_|refine Ze2 ?_|refine Ze3 ?_|refine Ze4 (by kernel_rfl) rfl rfl (by rfl) ?_|refine Ze5 (by kernel_rfl) rfl rfl rfl ?_)
  refine Ev.cakH (by kernel_rfl) rfl rfl (bitsMask w hw) ?_
  have e3 : min (a : Int).toNat IntKind.u64.bits = a := by rw [Int.toNat_natCast]; exact Nat.min_eq_left (by show a ≤ 64; omega)
  repeat' (first|refine Ze0 0 rfl (by kernel_rfl) ?_|refine Ze1 (by kernel_rfl) rfl rfl ?_|refine Ze2 ?_|refine Ze3 ?_|refine Ze4 (by kernel_rfl) rfl rfl (by rfl) ?_|refine Ze5 (by kernel_rfl) rfl rfl rfl ?_)
  refine Ev.pvH (by kernel_rfl) rfl rfl (by omega) ?_
  rw [e3, show ((2 ^ w - 1 : Nat) : Int) * 2 ^ a = (((2 ^ w - 1) * 2 ^ a : Nat) : Int) by push_cast; rfl, wrap64 (by omega)]
  repeat' (first|refine Ze0 0 rfl (by kernel_rfl) ?_|refine Ze1 (by kernel_rfl) rfl rfl ?_|refine Ze2 ?_|refine Ze3 ?_|refine Ze4 (by kernel_rfl) rfl rfl (by rfl) ?_|refine Ze5 (by kernel_rfl) rfl rfl rfl ?_)
  refine Ev.pvH (by kernel_rfl) rfl rfl (by omega) ?_
  rw [e3, show (y : Int) * 2 ^ a = ((y * 2 ^ a : Nat) : Int) by push_cast; rfl, wrap64 (by omega)]
  rw [andNot64 x ((2 ^ w - 1) * 2 ^ a) x (by omega) (fun i hi => by
    rw [Nat.mul_comm, Nat.testBit_two_pow_mul]
    by_cases hia : i < a
    · simp [show ¬ a ≤ i by omega]
    · rw [Nat.testBit_lt_two_pow (Nat.lt_of_lt_of_le hx (Nat.pow_le_pow_right (by omega) (by omega)))]; rfl)]
  repeat' (first|refine Ze0 0 rfl (by kernel_rfl) ?_|refine Ze1 (by kernel_rfl) rfl rfl ?_|refine Ze2 ?_|refine Ze3 ?_|refine Ze4 (by kernel_rfl) rfl rfl (by rfl) ?_|refine Ze5 (by kernel_rfl) rfl rfl rfl ?_)
  rw [or64 _ _ (by omega) (by omega)]
  have e5 : x ||| y * 2 ^ a = y * 2 ^ a + x := by
    rw [Nat.or_comm, Nat.mul_comm y, Nat.two_pow_add_eq_or_of_lt hx y]
  rw [e5]
  refine go ?_
  exact Kr.two (.inr rfl) rfl rfl (Ent.refl _) ⟨rfl, rfl⟩
end
end Go.Proofs.YtnbkjcmmjgkdaaaGreat

/-
  Word's heads; lay's places.
-/
set_option linter.unusedVariables false
set_option linter.unusedSimpArgs false
namespace Go.Proofs.YtnbkjcmmjgkdaaaGreat
open Go
attribute [local irreducible] Sx Cx Rx Fx Krg Ksq Kbl Klp Kr
section
variable {L F : St}
theorem wordWithin (n a b : Int) (h1 : a ≤ n) (h2 : n ≤ b) : Fx Tryz.prog 190 [.int .i64 n, .int .i64 a, .int .i64 b] L (fun v L' => v = .bool true ∧ L = L') := by
  refine Fx.mk Tryz.func190 k190 (Nat.le_of_ble_eq_true rfl) ?_
  dsimp only [c190, envOf, Nat.reduceAdd]
  refine go ?_
  refine Sx.gyes rfl (decide_eq_true (by omega)) ?_
  refine go ?_
  rw [decide_eq_true h2]
  exact Kr.one (.inr rfl) rfl (Ent.refl _) ⟨rfl, rfl⟩
theorem wordWithout (n a b : Int) (h1 : a ≤ n) (h2 : ¬ n ≤ b) : Fx Tryz.prog 190 [.int .i64 n, .int .i64 a, .int .i64 b] L (fun v L' => v = .bool false ∧ L = L') := by
  refine Fx.mk Tryz.func190 k190 (Nat.le_of_ble_eq_true rfl) ?_
  dsimp only [c190, envOf, Nat.reduceAdd]
  refine go ?_
  refine Sx.gyes rfl (decide_eq_true (by omega)) ?_
  refine go ?_
  rw [decide_eq_false h2]
  exact Kr.one (.inr rfl) rfl (Ent.refl _) ⟨rfl, rfl⟩
/-- A head as a value. -/
abbrev hdV (i : Int) (t : Nat) : Value := .agg #[.int .i64 i, .int .i64 (t : Int)]
theorem getHead (w : Nat) (hw : w < 18446744073709551616) : Fx Tryz.prog 140 [wd w] L (fun v L' => v = hdV (hdI w) (hdT w) ∧ L = L') := by
  refine Fx.mk Tryz.func140 k140 (Nat.le_of_ble_eq_true rfl) ?_
  dsimp only [c140, envOf, Nat.reduceAdd]
  refine Cx.sq ?_
  refine Cx.rg ?_
  refine Sx.al fun g => ?_
  refine go ?_
  refine Sx.ca rfl (bitsGet w 0 32 hw (by omega) (by omega)) ?_
  rintro v L' ⟨rfl, rfl⟩
  rw [Nat.pow_zero, Nat.div_one]
  refine go ?_
  refine Sx.ca rfl (bitsGet w 32 32 hw (by omega) (by omega)) ?_
  rintro v L' ⟨rfl, rfl⟩
  refine go ?_
  have h1 : w % 2 ^ 32 < 4294967296 := Nat.mod_lt _ (by omega)
  have h2 : w / 2 ^ 32 % 2 ^ 32 = hdT w := by unfold hdT; omega
  have h3 := hdT_lt hw
  rw [h2, w64 (n := ((w % 2 ^ 32 : Nat) : Int)) (by omega) (by omega), w64 (n := ((w % 2 ^ 32 : Nat) : Int) - 1) (by omega) (by omega), w64 (n := (hdT w : Int)) (by omega) (by omega)]
  refine Sx.st (b := g) rfl rfl rfl rfl rfl rfl ?_
  dsimp only [lay]
  refine go ?_
  exact Kr_cell (b := g) (.inr rfl) rfl rfl (L' := L) Ent.drop ⟨rfl, rfl⟩
theorem putHead (i : Int) (t : Nat) (h1 : -1 ≤ i) (h2 : i < 4294967295) (ht : t < 4294967296) : Fx Tryz.prog 168 [hdV i t] L (fun v L' => v = .tuple #[wd (t * 4294967296 + (i + 1).toNat), .bool true] ∧ L = L') := by
  refine Fx.mk Tryz.func168 k168 (Nat.le_of_ble_eq_true rfl) ?_
  dsimp only [c168, envOf, Nat.reduceAdd]
  refine Cx.sq ?_
  refine Cx.rg ?_
  refine Sx.bx rfl rfl fun g => ?_
  refine go ?_
  refine Sx.ca rfl (wordWithin _ _ _ (by omega) (by omega)) ?_
  rintro v L' ⟨rfl, rfl⟩
  refine go ?_
  refine Sx.ca rfl (wordWithin _ _ _ (by omega) (by omega)) ?_
  rintro v L' ⟨rfl, rfl⟩
  refine go ?_
  rw [w64 (n := i + 1) (by omega) (by omega), show i + 1 = (((i + 1).toNat : Nat) : Int) by omega, wrap64 (by omega)]
  refine Sx.ca rfl (bitsPut 0 0 32 (i + 1).toNat (by omega) (by omega) (by omega) (by omega)) ?_
  rintro v L' ⟨rfl, rfl⟩
  rw [Nat.pow_zero, Nat.mul_one, Nat.add_zero]
  refine go ?_
  rw [wrap64 (by omega)]
  refine Sx.ca rfl (bitsPut (i + 1).toNat 32 32 t (by omega) (by omega) (by omega) (by omega)) ?_
  rintro v L' ⟨rfl, rfl⟩
  refine go ?_
  exact Kr.two (.inr rfl) rfl rfl Ent.drop ⟨rfl, rfl⟩
theorem wordNext (i j : Int) (t : Nat) (ht : t < 4294967296) : Fx Tryz.prog 205 [hdV i t, .int .i64 j] L (fun v L' => v = hdV j (laterT t) ∧ L = L') := by
  refine Fx.mk Tryz.func205 k205 (Nat.le_of_ble_eq_true rfl) ?_
  dsimp only [c205, envOf, Nat.reduceAdd]
  refine Cx.sq ?_
  refine Cx.rg ?_
  refine Sx.bx rfl rfl fun g => ?_
  refine go ?_
  refine Sx.al fun q => ?_
  refine go ?_
  by_cases h : t < 4294967295
  · refine Sx.ca rfl (wordWithin _ _ _ (by omega) (by omega)) ?_
    rintro v L' ⟨rfl, rfl⟩
    refine go ?_
    rw [w64 (n := (t : Int) + 1) (by omega) (by omega)]
    refine Sx.st (b := q) rfl rfl rfl rfl rfl rfl ?_
    dsimp only [lay]
    refine go ?_
    refine Kr_cell (b := q) (.inr rfl) rfl rfl (L' := L) (Ent.trans Ent.drop Ent.drop) ⟨?_, rfl⟩
    unfold laterT
    rw [if_pos h]; rfl
  · refine Sx.ca rfl (wordWithout _ _ _ (by omega) (by omega)) ?_
    rintro v L' ⟨rfl, rfl⟩
    refine go ?_
    refine Sx.st (b := q) rfl rfl rfl rfl rfl rfl ?_
    dsimp only [lay]
    refine go ?_
    refine Kr_cell (b := q) (.inr rfl) rfl rfl (L' := L) (Ent.trans Ent.drop Ent.drop) ⟨?_, rfl⟩
    unfold laterT
    rw [if_neg h]; rfl
end
end Go.Proofs.YtnbkjcmmjgkdaaaGreat

/-
  Cells: the memory.
-/
set_option linter.unusedVariables false
set_option linter.unusedSimpArgs false
namespace Go.Proofs.YtnbkjcmmjgkdaaaGreat
open Go
attribute [local irreducible] Sx Cx Rx Fx Krg Ksq Kbl Klp Kr
/-- Words as values. -/
def us (l : List Nat) : List Value := l.map wd
theorem length_us (l : List Nat) : (us l).length = l.length := by simp [us]
theorem us_get {l : List Nat} {i w : Nat} (h : l[i]? = some w) : (us l)[i]? = some (wd w) := by simp [us, h]
theorem us_set (l : List Nat) (i w : Nat) : (us l).set i (wd w) = us (l.set i w) := by simp [us, List.map_set]
theorem lay_one {cs : List Value} {off : Nat} {u : Value} (h : off < cs.length) : lay cs off [u] = cs.set off u := by
  have := lay_cons cs off u [] (by simp; omega)
  rw [← this, lay_nil]
theorem wrap_succ (n : Nat) : IntKind.i64.wrap (IntKind.i64.wrap (n : Int) + 1) = IntKind.i64.wrap ((n + 1 : Nat) : Int) := by
  have hw : ∀ x : Int, IntKind.i64.wrap x = if x % 18446744073709551616 ≥ 9223372036854775808 then x % 18446744073709551616 - 18446744073709551616 else x % 18446744073709551616 := fun x => by
    unfold IntKind.wrap
    simp only [IntKind.bits, IntKind.signed]
    simp
  rw [hw, hw, hw]
  push_cast
  (repeat' split) <;> omega
section
variable {L F : St}
def memL (T : TypeId) (m : Mm) (a : Option Addr) (y : (Option Addr × Nat) × (Value × Value × Value × Value × Value)) : St :=
  [lift (m.ok ∧ m.ws.length ≤ 8388608 ∧ ones [y.2.1, y.2.2.1, y.2.2.2.1, y.2.2.2.2.1, y.2.2.2.2.2] = true), pt a (Blk T [.slice y.1.1 m.ws.length y.1.2, .int .i64 (IntKind.i64.wrap (m.n : Int)), y.2.1, y.2.2.1, y.2.2.2.1, y.2.2.2.2.1, y.2.2.2.2.2]), pt y.1.1 (Row 103 1 m.ws.length y.1.2 (us m.ws))]
def MemT (T : TypeId) (m : Mm) (a : Option Addr) : As := exs (memL T m a)
abbrev MemO := MemT 122
theorem MemO.close {T : TypeId} {a r : Option Addr} {c n : Nat} {v x0 x1 x2 x3 x4 : Value} {w : List Value} {F G : St} (m : Mm) (hm : m.ok ∧ m.ws.length ≤ 8388608 ∧ ones [x0, x1, x2, x3, x4] = true) [t : Take L a (Blk T [.slice r n c, v, x0, x1, x2, x3, x4]) F] [u : Take F r (Row 103 1 n c w) G]
    (hv : v = .int .i64 (IntKind.i64.wrap (m.n : Int))) (hn : n = m.ws.length) (hw : w = us m.ws) : Ent L (pt a (MemT T m) :: G) := by
  subst hv; subst hn; subst hw
  refine Ent.trans (Ent.take1 (t := t) (Ent.of u.out)) ?_
  refine Ent.trans (Ent.lift hm (Ent.refl _)) ?_
  exact Ent.close (f := memL T m a) rfl ((r, c), (x0, x1, x2, x3, x4))
theorem cellsNew (n : Nat) (h1 : 1 ≤ n) (h2 : n ≤ 8388608) : Fx Tryz.prog 11 [.int .i64 n] L (fun v L' => ∃ g, v = .tuple #[.pointer (some ⟨g, 0, none⟩), .int .i64 0] ∧ L' = pt (some ⟨g, 0, none⟩) (MemO ⟨List.replicate n 0, 0⟩) :: L) := by
  refine Fx.mk Tryz.func11 k11 (Nat.le_of_ble_eq_true rfl) ?_
  dsimp only [c11, envOf, Nat.reduceAdd]
  refine go ?_
  refine Sx.gyes rfl (decide_eq_false (by omega)) ?_
  refine go ?_
  refine Cx.cno rfl (decide_eq_false (by omega)) ?_
  refine go ?_
  refine Sx.mk rfl rfl (by omega) (by omega) (by omega) (by omega) fun g => ?_
  refine go ?_
  refine Sx.bx rfl rfl fun q => ?_
  refine go ?_
  refine Kr.two (.inr rfl) rfl rfl ?_ ⟨q, rfl, rfl⟩
  have hu : us (List.replicate n 0) = List.replicate n (.int .u64 0) := by simp [us, wd]
  refine MemO.close (a := some ⟨q, 0, none⟩) (r := some ⟨g, 0, none⟩) ⟨List.replicate n 0, 0⟩ ⟨fun w hw => ?_, ?_, rfl⟩ rfl (by simp) ?_
  · rw [List.eq_of_mem_replicate hw]; omega
  · simpa using h2
  · rw [hu, made_one]; simp
/-- The number of cells. -/
theorem cellsLen {b : Nat} {m : Mm} {F : St} [t : Take L (some ⟨b, 0, none⟩) (MemO m) F] : Fx Tryz.prog 58 [.pointer (some ⟨b, 0, none⟩)] L (fun v L' => v = .int .i64 m.ws.length ∧ L = L') := by
  refine Fx.kept (t := t) ?_
  refine Fx.mk Tryz.func58 k58 (Nat.le_of_ble_eq_true rfl) ?_
  dsimp only [c58, envOf, Nat.reduceAdd]
  refine Cx.openp (t := t) rfl ?_
  rintro ⟨⟨r, c⟩, ⟨x0, x1, x2, x3, x4⟩⟩
  simp only [memL, List.cons_append, List.nil_append]
  refine Cx.liftp fun hm => ?_
  refine go ?_
  exact Kr.one (.inr rfl) rfl (MemO.close (a := some ⟨b, 0, none⟩) (r := r) m hm rfl rfl rfl) ⟨rfl, rfl⟩
theorem cellsIs {b : Nat} {m : Mm} {F : St} (i : Int) [t : Take L (some ⟨b, 0, none⟩) (MemO m) F] : Fx Tryz.prog 110 [.pointer (some ⟨b, 0, none⟩), .int .i64 i] L (fun v L' => v = .bool (decide (0 ≤ i ∧ i < m.ws.length)) ∧ L = L') := by
  refine Fx.kept (t := t) ?_
  refine Fx.mk Tryz.func110 k110 (Nat.le_of_ble_eq_true rfl) ?_
  dsimp only [c110, envOf, Nat.reduceAdd]
  refine Cx.openp (t := t) rfl ?_
  rintro ⟨⟨r, c⟩, ⟨x0, x1, x2, x3, x4⟩⟩
  simp only [memL, List.cons_append, List.nil_append]
  refine Cx.liftp fun hm => ?_
  refine go ?_
  refine Sx.ifp rfl (fun h => ?_) (fun h => ?_)
  · refine go ?_
    exact Kr.one (.inr rfl) rfl (MemO.close (a := some ⟨b, 0, none⟩) (r := r) m hm rfl rfl rfl) ⟨congrArg Value.bool (decide_eq_decide.2 (by omega)), rfl⟩
  · refine go ?_
    exact Kr.one (.inr rfl) rfl (MemO.close (a := some ⟨b, 0, none⟩) (r := r) m hm rfl rfl rfl) ⟨congrArg Value.bool (decide_eq_false (fun hh => h hh.1)).symm, rfl⟩
theorem cellsPeek {b : Nat} {m : Mm} {F : St} (i : Nat) (hi : i < m.ws.length) [t : Take L (some ⟨b, 0, none⟩) (MemO m) F] : Fx Tryz.prog 78 [.pointer (some ⟨b, 0, none⟩), .int .i64 i] L (fun v L' => v = wd (m.at_ i) ∧ L = L') := by
  refine Fx.kept (t := t) ?_
  refine Fx.mk Tryz.func78 k78 (Nat.le_of_ble_eq_true rfl) ?_
  dsimp only [c78, envOf, Nat.reduceAdd]
  refine go ?_
  refine Sx.ca rfl (cellsIs (b := b) (m := m) (i : Int)) ?_
  rintro v L' ⟨rfl, rfl⟩
  rw [decide_eq_true (show (0 : Int) ≤ i ∧ (i : Int) < m.ws.length by omega)]
  refine go ?_
  refine Sx.openp (t := t) rfl ?_
  rintro ⟨⟨r, c⟩, ⟨x0, x1, x2, x3, x4⟩⟩
  simp only [memL, List.cons_append, List.nil_append]
  refine Sx.liftp fun hm => ?_
  refine go ?_
  refine Sx.rowsome (a := r) (by omega) fun g hr => ?_
  subst hr
  refine Sx.pv rfl ⟨by omega, by omega⟩ ?_
  refine Sx.ldr rfl (v := wd (m.at_ i)) (by simpa using us_get (Mm.get hi)) ?_
  refine go ?_
  exact Kr.one (.inr rfl) rfl (MemO.close (a := some ⟨b, 0, none⟩) (r := some ⟨g, 0, none⟩) m hm rfl rfl rfl) ⟨rfl, rfl⟩
theorem cellsLay {b : Nat} {m : Mm} {F : St} (i w : Nat) (hi : i < m.ws.length) (hw : w < 18446744073709551616) [t : Take L (some ⟨b, 0, none⟩) (MemO m) F] : Fx Tryz.prog 48 [.pointer (some ⟨b, 0, none⟩), .int .i64 i, wd w] L (fun v L' => v = .int .i64 0 ∧ L' = pt (some ⟨b, 0, none⟩) (MemO (m.lay i w)) :: F) := by
  refine Fx.mk Tryz.func48 k48 (Nat.le_of_ble_eq_true rfl) ?_
  dsimp only [c48, envOf, Nat.reduceAdd]
  refine go ?_
  refine Sx.ca rfl (cellsIs (b := b) (m := m) (i : Int)) ?_
  rintro v L' ⟨rfl, rfl⟩
  rw [decide_eq_true (show (0 : Int) ≤ i ∧ (i : Int) < m.ws.length by omega)]
  refine go ?_
  refine Sx.openp (t := t) rfl ?_
  rintro ⟨⟨r, c⟩, ⟨x0, x1, x2, x3, x4⟩⟩
  simp only [memL, List.cons_append, List.nil_append]
  refine Sx.liftp fun hm => ?_
  refine go ?_
  refine Sx.rowsome (a := r) (by omega) fun g hr => ?_
  subst hr
  refine Sx.pv rfl ⟨by omega, by omega⟩ ?_
  refine Sx.str (b := g) rfl rfl rfl rfl rfl (by rw [length_us]; simp; omega) (lay_one (by rw [length_us]; simpa using hi)) ?_
  refine go ?_
  refine Kr.one (.inr rfl) rfl (MemO.close (a := some ⟨b, 0, none⟩) (r := some ⟨g, 0, none⟩) (m.lay i w) ⟨Mm.ok_lay hm.1 hw, by rw [Mm.len_lay]; exact hm.2.1, hm.2.2⟩ rfl Mm.len_lay.symm ?_) ⟨rfl, rfl⟩
  simp only [Nat.zero_add, Nat.mul_one, Int.toNat_natCast]
  exact us_set m.ws i w
set_option maxHeartbeats 1000000 in
theorem cellsStroke {b : Nat} {m : Mm} {F : St} (kd : Int) (i w : Nat) (ok : Bool) (hi : i < m.ws.length) (hw : w < 18446744073709551616) [t : Take L (some ⟨b, 0, none⟩) (MemO m) F] :
    Fx Tryz.prog 185 [.pointer (some ⟨b, 0, none⟩), .int .i64 kd, .int .i64 i, wd w, .bool ok] L (fun v L' => v = wd (m.at_ i) ∧ L' = pt (some ⟨b, 0, none⟩) (MemO (m.put i w)) :: F) := by
  refine Fx.mk Tryz.func185 k185 (Nat.le_of_ble_eq_true rfl) ?_
  dsimp only [c185, envOf, Nat.reduceAdd]
  refine Cx.openp (t := t) rfl ?_
  rintro ⟨⟨r, c⟩, ⟨x0, x1, x2, x3, x4⟩⟩
  simp only [memL, List.cons_append, List.nil_append]
  refine Cx.liftp fun hm => ?_
  refine Cx.rowkey (a := r) fun hx0 hn0 _ hk0 => ?_
  obtain ⟨g, rfl⟩ : ∃ g, r = some ⟨g, 0, none⟩ := by
    rcases hk0 with h | h
    · omega
    · exact h
  refine go ?_
  refine Sx.pv rfl ⟨by omega, by omega⟩ ?_
  refine Sx.ldr rfl (v := wd (m.at_ i)) (by simpa using us_get (Mm.get hi)) ?_
  refine go ?_
  refine Sx.pv rfl ⟨by omega, by omega⟩ ?_
  refine Sx.str (b := g) rfl rfl rfl rfl rfl (by rw [length_us]; simp; omega) (lay_one (by rw [length_us]; simpa using hi)) ?_
  refine go ?_
  rw [wrap_succ]
  refine Sx.st (b := b) rfl rfl rfl rfl rfl rfl ?_
  dsimp only [lay]
  refine go ?_
  refine Kr.one (.inr rfl) rfl (MemO.close (a := some ⟨b, 0, none⟩) (r := some ⟨g, 0, none⟩) (m.put i w) ⟨Mm.ok_put hm.1 hw, by rw [Mm.len_put]; exact hm.2.1, rfl⟩ rfl Mm.len_put.symm ?_) ⟨rfl, rfl⟩
  simp only [Nat.zero_add, Nat.mul_one, Int.toNat_natCast]
  exact us_set m.ws i w
theorem putSame (m : Mm) (i : Nat) (hi : i < m.ws.length) : m.put i (m.at_ i) = m.tick := by
  unfold Mm.put Mm.tick
  congr 1
  have := Mm.get hi
  rw [List.getElem?_eq_getElem hi, Option.some.injEq] at this
  rw [← this]
  exact List.set_getElem_self hi
end
end Go.Proofs.YtnbkjcmmjgkdaaaGreat

/-
  Cells: Load, Store, Cas, Add.
-/
set_option linter.unusedVariables false
set_option linter.unusedSimpArgs false
namespace Go.Proofs.YtnbkjcmmjgkdaaaGreat
open Go
attribute [local irreducible] Sx Cx Rx Fx Krg Ksq Kbl Klp Kr
section
variable {L F : St}
theorem cellsLoad {b : Nat} {m : Mm} {F : St} (i : Nat) (hi : i < m.ws.length) [t : Take L (some ⟨b, 0, none⟩) (MemO m) F] :
    Fx Tryz.prog 160 [.pointer (some ⟨b, 0, none⟩), .int .i64 i] L (fun v L' => v = .tuple #[wd (m.at_ i), .int .i64 0] ∧ L' = pt (some ⟨b, 0, none⟩) (MemO m.tick) :: F) := by
  refine Fx.mk Tryz.func160 k160 (Nat.le_of_ble_eq_true rfl) ?_
  dsimp only [c160, envOf, Nat.reduceAdd]
  refine go ?_
  refine Sx.ca rfl (cellsIs (b := b) (m := m) (i : Int)) ?_
  rintro v L' ⟨rfl, rfl⟩
  rw [decide_eq_true (show (0 : Int) ≤ i ∧ (i : Int) < m.ws.length by omega)]
  refine go ?_
  refine Sx.openp (t := t) rfl ?_
  rintro ⟨⟨r, c⟩, ⟨x0, x1, x2, x3, x4⟩⟩
  simp only [memL, List.cons_append, List.nil_append]
  refine Sx.liftp fun hm => ?_
  refine Sx.rowkey (a := r) fun hx0 hn0 _ hk0 => ?_
  obtain ⟨g, rfl⟩ : ∃ g, r = some ⟨g, 0, none⟩ := by
    rcases hk0 with h | h
    · omega
    · exact h
  have hlt := Mm.at_lt hm.1 i
  refine go ?_
  refine Sx.pv rfl ⟨by omega, by omega⟩ ?_
  refine Sx.ldr rfl (v := wd (m.at_ i)) (by simpa using us_get (Mm.get hi)) ?_
  refine Sx.ent (MemO.close (a := some ⟨b, 0, none⟩) (r := some ⟨g, 0, none⟩) m hm rfl rfl rfl) ?_
  refine Sx.ca rfl (cellsStroke (b := b) (m := m) 1 i (m.at_ i) true hi hlt) ?_
  rintro v L' ⟨rfl, rfl⟩
  rw [putSame m i hi]
  refine go ?_
  exact Kr.two (.inr rfl) rfl rfl (Ent.refl _) ⟨rfl, rfl⟩
theorem cellsStore {b : Nat} {m : Mm} {F : St} (i w : Nat) (hi : i < m.ws.length) (hw : w < 18446744073709551616) [t : Take L (some ⟨b, 0, none⟩) (MemO m) F] :
    Fx Tryz.prog 187 [.pointer (some ⟨b, 0, none⟩), .int .i64 i, wd w] L (fun v L' => v = .int .i64 0 ∧ L' = pt (some ⟨b, 0, none⟩) (MemO (m.put i w)) :: F) := by
  refine Fx.mk Tryz.func187 k187 (Nat.le_of_ble_eq_true rfl) ?_
  dsimp only [c187, envOf, Nat.reduceAdd]
  refine go ?_
  refine Sx.ca rfl (cellsIs (b := b) (m := m) (i : Int)) ?_
  rintro v L' ⟨rfl, rfl⟩
  rw [decide_eq_true (show (0 : Int) ≤ i ∧ (i : Int) < m.ws.length by omega)]
  refine go ?_
  refine Sx.ca rfl (cellsStroke (b := b) (m := m) 2 i w true hi hw) ?_
  rintro v L' ⟨rfl, rfl⟩
  refine go ?_
  exact Kr.one (.inr rfl) rfl (Ent.refl _) ⟨rfl, rfl⟩
theorem cellsCas {b : Nat} {m : Mm} {F : St} (i o w : Nat) (hi : i < m.ws.length) (hw : w < 18446744073709551616) [t : Take L (some ⟨b, 0, none⟩) (MemO m) F] :
    Fx Tryz.prog 202 [.pointer (some ⟨b, 0, none⟩), .int .i64 i, wd o, wd w] L (fun v L' => v = .tuple #[.bool (decide (m.at_ i = o)), .int .i64 0] ∧ L' = pt (some ⟨b, 0, none⟩) (MemO (m.cas i o w)) :: F) := by
  refine Fx.mk Tryz.func202 k202 (Nat.le_of_ble_eq_true rfl) ?_
  dsimp only [c202, envOf, Nat.reduceAdd]
  refine go ?_
  refine Sx.ca rfl (cellsIs (b := b) (m := m) (i : Int)) ?_
  rintro v L' ⟨rfl, rfl⟩
  rw [decide_eq_true (show (0 : Int) ≤ i ∧ (i : Int) < m.ws.length by omega)]
  refine go ?_
  refine Sx.openp (t := t) rfl ?_
  rintro ⟨⟨r, c⟩, ⟨x0, x1, x2, x3, x4⟩⟩
  simp only [memL, List.cons_append, List.nil_append]
  refine Sx.liftp fun hm => ?_
  refine Sx.rowkey (a := r) fun hx0 hn0 _ hk0 => ?_
  obtain ⟨g, rfl⟩ : ∃ g, r = some ⟨g, 0, none⟩ := by
    rcases hk0 with h | h
    · omega
    · exact h
  have hlt := Mm.at_lt hm.1 i
  refine go ?_
  refine Sx.pv rfl ⟨by omega, by omega⟩ ?_
  refine Sx.ldr rfl (v := wd (m.at_ i)) (by simpa using us_get (Mm.get hi)) ?_
  refine go ?_
  refine Cx.ifn rfl (fun h => ?_) (fun h => ?_)
  · have h' : m.at_ i ≠ o := fun e => h (by rw [e])
    refine go ?_
    refine Sx.pv rfl ⟨by omega, by omega⟩ ?_
    refine Sx.ldr rfl (v := wd (m.at_ i)) (by simpa using us_get (Mm.get hi)) ?_
    refine Sx.ent (MemO.close (a := some ⟨b, 0, none⟩) (r := some ⟨g, 0, none⟩) m hm rfl rfl rfl) ?_
    refine Sx.ca rfl (cellsStroke (b := b) (m := m) 3 i (m.at_ i) false hi hlt) ?_
    rintro v L' ⟨rfl, rfl⟩
    rw [putSame m i hi]
    refine go ?_
    refine Kr.two (.inr rfl) rfl rfl (Ent.refl _) ⟨?_, ?_⟩
    · rw [decide_eq_false h']
    · unfold Mm.cas; rw [if_neg h']
  · have h' : m.at_ i = o := by omega
    refine Cx.ent (MemO.close (a := some ⟨b, 0, none⟩) (r := some ⟨g, 0, none⟩) m hm rfl rfl rfl) ?_
    refine go ?_
    refine Sx.ca rfl (cellsStroke (b := b) (m := m) 3 i w true hi hw) ?_
    rintro v L' ⟨rfl, rfl⟩
    refine go ?_
    refine Kr.two (.inr rfl) rfl rfl (Ent.refl _) ⟨?_, ?_⟩
    · rw [decide_eq_true h']
    · unfold Mm.cas; rw [if_pos h']
end
end Go.Proofs.YtnbkjcmmjgkdaaaGreat

/-
  run's Machine: one access a step; what its next access is, is a function it holds.
-/
set_option linter.unusedVariables false
set_option linter.unusedSimpArgs false
namespace Go.Proofs.YtnbkjcmmjgkdaaaGreat
open Go
attribute [local irreducible] Sx Cx Rx Fx Krg Ksq Kbl Klp Kr
section
variable {L F : St}
/-- A method of a pointer, as a value. -/
abbrev mth (f : FuncId) (b : Nat) : Value := .func (.func f) #[.pointer (some ⟨b, 0, none⟩)] #[]
theorem machGo {b : Nat} {T : TypeId} {nx : Value} {f : FuncId} {w : Value} {rest : List Value} [t : Take L (some ⟨b, 0, none⟩) (Blk T (nx :: rest)) F] :
    Fx Tryz.prog 114 [.pointer (some ⟨b, 0, none⟩), .func (.func f) #[w] #[]] L (fun v L' => v = .tuple #[] ∧ L' = pt (some ⟨b, 0, none⟩) (Blk T (.func (.func f) #[w] #[] :: rest)) :: F) := by
  refine Fx.mk Tryz.func114 k114 (Nat.le_of_ble_eq_true rfl) ?_
  dsimp only [c114, envOf, Nat.reduceAdd]
  refine go ?_
  exact Kr.none (.inl rfl) (Ent.refl _) ⟨rfl, rfl⟩
theorem machDoneYes {b : Nat} {T : TypeId} {rest : List Value} [t : Take L (some ⟨b, 0, none⟩) (Blk T (.nilFunc :: rest)) F] : Fx Tryz.prog 97 [.pointer (some ⟨b, 0, none⟩)] L (fun v L' => v = .bool true ∧ L = L') := by
  refine Fx.mk Tryz.func97 k97 (Nat.le_of_ble_eq_true rfl) ?_
  dsimp only [c97, envOf, Nat.reduceAdd]
  refine go ?_
  exact Kr.one (.inr rfl) rfl (Ent.refl _) ⟨rfl, rfl⟩
theorem machDoneNo {b : Nat} {T : TypeId} {f : FuncId} {w : Value} {rest : List Value} [t : Take L (some ⟨b, 0, none⟩) (Blk T (.func (.func f) #[w] #[] :: rest)) F] : Fx Tryz.prog 97 [.pointer (some ⟨b, 0, none⟩)] L (fun v L' => v = .bool false ∧ L = L') := by
  refine Fx.mk Tryz.func97 k97 (Nat.le_of_ble_eq_true rfl) ?_
  dsimp only [c97, envOf, Nat.reduceAdd]
  refine go ?_
  exact Kr.one (.inr rfl) rfl (Ent.refl _) ⟨rfl, rfl⟩
theorem machStepDone {b : Nat} {T : TypeId} {rest : List Value} [t : Take L (some ⟨b, 0, none⟩) (Blk T (.nilFunc :: rest)) F] : Fx Tryz.prog 93 [.pointer (some ⟨b, 0, none⟩)] L (fun v L' => v = .bool false ∧ L = L') := by
  refine Fx.mk Tryz.func93 k93 (Nat.le_of_ble_eq_true rfl) ?_
  dsimp only [c93, envOf, Nat.reduceAdd]
  refine go ?_
  exact Kr.one (.inr rfl) rfl (Ent.refl _) ⟨rfl, rfl⟩
theorem machStep {b : Nat} {T : TypeId} {f : FuncId} {w z1 z2 z3 : Value} {cnt : Int} {rest : List Value} {R : Value → St → Prop} [t : Take L (some ⟨b, 0, none⟩) (Blk T (.func (.func f) #[w] #[] :: z1 :: z2 :: z3 :: .int .i64 cnt :: rest)) F]
    (hc : callable Tryz.prog f = true) (hf : Fx Tryz.prog f [w] (pt (some ⟨b, 0, none⟩) (Blk T (.nilFunc :: z1 :: z2 :: z3 :: .int .i64 (IntKind.i64.wrap (cnt + 1)) :: rest)) :: F) R) :
    Fx Tryz.prog 93 [.pointer (some ⟨b, 0, none⟩)] L (fun v L' => v = .bool true ∧ ∃ u, R u L') := by
  refine Fx.mk Tryz.func93 k93 (Nat.le_of_ble_eq_true rfl) ?_
  dsimp only [c93, envOf, Nat.reduceAdd]
  refine go ?_
  refine Sx.cl (p := [w]) (q := []) (vs := []) rfl hc rfl hf ?_
  intro u L' hR
  refine go ?_
  exact Kr.one (.inr rfl) rfl (Ent.refl _) ⟨rfl, u, hR⟩
/-- The other machine is not done: the next access is through it. -/
theorem machOnNo {b : Nat} {T : TypeId} {fd : FuncId} {w nx z1 z3 : Value} {rest : List Value} [t : Take L (some ⟨b, 0, none⟩) (Blk T (nx :: z1 :: .func (.func fd) #[w] #[] :: z3 :: rest)) F]
    (hc : callable Tryz.prog fd = true) (hd : Fx Tryz.prog fd [w] L (fun v L' => v = .bool false ∧ L = L')) :
    Fx Tryz.prog 157 [.pointer (some ⟨b, 0, none⟩)] L (fun v L' => v = .tuple #[] ∧ L' = pt (some ⟨b, 0, none⟩) (Blk T (mth 183 b :: z1 :: .func (.func fd) #[w] #[] :: z3 :: rest)) :: F) := by
  refine Fx.mk Tryz.func157 k157 (Nat.le_of_ble_eq_true rfl) ?_
  dsimp only [c157, envOf, Nat.reduceAdd]
  refine go ?_
  refine Sx.cl (p := [w]) (q := []) (vs := []) rfl hc rfl hd ?_
  rintro v L' ⟨rfl, rfl⟩
  refine go ?_
  exact Kr.none (.inl rfl) (Ent.refl _) ⟨rfl, rfl⟩
/-- It is done: this one goes on. -/
theorem machOnYes {b : Nat} {T : TypeId} {fd ft : FuncId} {w u nx z1 : Value} {rest : List Value} {R : Value → St → Prop} [t : Take L (some ⟨b, 0, none⟩) (Blk T (nx :: z1 :: .func (.func fd) #[w] #[] :: .func (.func ft) #[u] #[] :: rest)) F]
    (hc : callable Tryz.prog fd = true) (hd : Fx Tryz.prog fd [w] L (fun v L' => v = .bool true ∧ L = L')) (hct : callable Tryz.prog ft = true) (ht : Fx Tryz.prog ft [u] L R) :
    Fx Tryz.prog 157 [.pointer (some ⟨b, 0, none⟩)] L (fun v L' => v = .tuple #[] ∧ ∃ x, R x L') := by
  refine Fx.mk Tryz.func157 k157 (Nat.le_of_ble_eq_true rfl) ?_
  dsimp only [c157, envOf, Nat.reduceAdd]
  refine go ?_
  refine Sx.cl (p := [w]) (q := []) (vs := []) rfl hc rfl hd ?_
  rintro v L' ⟨rfl, rfl⟩
  refine go ?_
  refine Sx.cl (p := [u]) (q := []) (vs := []) rfl hct rfl ht ?_
  intro x L' hR
  refine go ?_
  exact Kr.none (.inr rfl) (Ent.refl _) ⟨rfl, x, hR⟩
theorem machThrough {b : Nat} {T : TypeId} {fs fd ft : FuncId} {ws w u nx z1 z2 z3 : Value} {rest : List Value} {R : Value → St → Prop} [t : Take L (some ⟨b, 0, none⟩) (Blk T (nx :: z1 :: z2 :: z3 :: rest)) F]
    (hon : Fx Tryz.prog 157 [.pointer (some ⟨b, 0, none⟩)] (pt (some ⟨b, 0, none⟩) (Blk T (nx :: .func (.func fs) #[ws] #[] :: .func (.func fd) #[w] #[] :: .func (.func ft) #[u] #[] :: rest)) :: F) R) :
    Fx Tryz.prog 102 [.pointer (some ⟨b, 0, none⟩), .func (.func fs) #[ws] #[], .func (.func fd) #[w] #[], .func (.func ft) #[u] #[]] L (fun v L' => v = .tuple #[] ∧ ∃ x, R x L') := by
  refine Fx.mk Tryz.func102 k102 (Nat.le_of_ble_eq_true rfl) ?_
  dsimp only [c102, envOf, Nat.reduceAdd]
  refine go ?_
  refine Sx.ca rfl hon ?_
  intro x L' hR
  refine go ?_
  exact Kr.none (.inl rfl) (Ent.refl _) ⟨rfl, x, hR⟩
theorem machGoes {b : Nat} {T : TypeId} {fs : FuncId} {ws nx : Value} {rest : List Value} {R1 R2 : Value → St → Prop} [t : Take L (some ⟨b, 0, none⟩) (Blk T (nx :: .func (.func fs) #[ws] #[] :: rest)) F]
    (hc : callable Tryz.prog fs = true) (hs : Fx Tryz.prog fs [ws] L R1) (hon : ∀ x L1, R1 x L1 → Fx Tryz.prog 157 [.pointer (some ⟨b, 0, none⟩)] L1 R2) :
    Fx Tryz.prog 183 [.pointer (some ⟨b, 0, none⟩)] L (fun v L' => v = .tuple #[] ∧ ∃ x, R2 x L') := by
  refine Fx.mk Tryz.func183 k183 (Nat.le_of_ble_eq_true rfl) ?_
  dsimp only [c183, envOf, Nat.reduceAdd]
  refine go ?_
  refine Sx.cl (p := [ws]) (q := []) (vs := []) rfl hc rfl hs ?_
  intro x L1 hR1
  refine go ?_
  refine Sx.ca rfl (hon x L1 hR1) ?_
  intro y L2 hR2
  refine go ?_
  exact Kr.none (.inl rfl) (Ent.refl _) ⟨rfl, y, hR2⟩
end
end Go.Proofs.YtnbkjcmmjgkdaaaGreat

/-
  Stacks: New, top, below, exchange.
-/
set_option linter.unusedVariables false
set_option linter.unusedSimpArgs false
namespace Go.Proofs.YtnbkjcmmjgkdaaaGreat
open Go
attribute [local irreducible] Sx Cx Rx Fx Krg Ksq Kbl Klp Kr
section
variable {L F G : St}
abbrev skV (mp : Nat) (k : Sk) : List Value := [.pointer (some ⟨mp, 0, none⟩), .int .i64 k.head, .int .i64 k.links, .int .i64 k.n]
abbrev SkO (mp : Nat) (k : Sk) : Option Addr → As := Blk 149 (skV mp k)
theorem stackTop {sb mp : Nat} {k : Sk} (w : Nat) (hw : w < 18446744073709551616) [s : Take L (some ⟨sb, 0, none⟩) (SkO mp k) F] :
    Fx Tryz.prog 77 [.pointer (some ⟨sb, 0, none⟩), wd w] L (fun v L' => v = .int .i64 (k.top w) ∧ L = L') := by
  refine Fx.mk Tryz.func77 k77 (Nat.le_of_ble_eq_true rfl) ?_
  dsimp only [c77, envOf, Nat.reduceAdd]
  refine go ?_
  refine Sx.ca rfl (getHead w hw) ?_
  rintro v L' ⟨rfl, rfl⟩
  refine Sx.al fun g => ?_
  refine Sx.st (b := g) rfl rfl rfl rfl rfl rfl ?_
  dsimp only [lay]
  refine go ?_
  refine Cx.ordc rfl (by kernel_rfl) ?_
  refine ge ?_
  refine Cx.ifp rfl (fun h => ?_) (fun h => ?_)
  · refine go ?_
    exact Kr.one (.inr rfl) rfl Ent.drop ⟨by unfold Sk.top; rw [if_pos h], rfl⟩
  · refine go ?_
    exact Kr.one (.inr rfl) rfl Ent.drop ⟨by unfold Sk.top; rw [if_neg h], rfl⟩
theorem stackBelow {sb mp : Nat} {k : Sk} (w : Nat) (hw : w < 18446744073709551616) (hn : k.n ≤ 4096) [s : Take L (some ⟨sb, 0, none⟩) (SkO mp k) F] :
    Fx Tryz.prog 79 [.pointer (some ⟨sb, 0, none⟩), wd w] L (fun v L' => v = .int .i64 (k.below w) ∧ L = L') := by
  refine Fx.mk Tryz.func79 k79 (Nat.le_of_ble_eq_true rfl) ?_
  dsimp only [c79, envOf, Nat.reduceAdd]
  refine go ?_
  rw [wrap64 (n := k.n) (by omega)]
  refine Cx.ifp rfl (fun h => ?_) (fun h => ?_)
  · refine go ?_
    exact Kr.one (.inr rfl) rfl (Ent.refl _) ⟨by unfold Sk.below; rw [if_pos (by omega)], rfl⟩
  · refine go ?_
    rw [w64 (n := (w : Int)) (by omega) (by omega), w64 (n := (w : Int) - 1) (by omega) (by omega)]
    exact Kr.one (.inr rfl) rfl (Ent.refl _) ⟨by unfold Sk.below; rw [if_neg (by omega)], rfl⟩
theorem stackCell {g mp : Nat} {T : TypeId} {m : Mm} (i : Int) {F G : St} [t : Take L (some ⟨mp, 0, none⟩) (MemO m) F] [s : Take L (some ⟨g, 0, none⟩) (Blk T [.pointer (some ⟨mp, 0, none⟩)]) G] :
    Fx Tryz.prog 167 [.int .i64 i, .pointer (some ⟨g, 0, none⟩)] L (fun v L' => v = .bool (decide (0 ≤ i ∧ i < m.ws.length)) ∧ L = L') := by
  refine Fx.mk Tryz.func167 k167 (Nat.le_of_ble_eq_true rfl) ?_
  dsimp only [c167, envOf, Nat.reduceAdd]
  refine go ?_
  refine Sx.ifp rfl (fun h => ?_) (fun h => ?_)
  · refine go ?_
    refine Sx.ca rfl (cellsLen (b := mp) (m := m)) ?_
    rintro v L' ⟨rfl, rfl⟩
    refine go ?_
    exact Kr.one (.inr rfl) rfl (Ent.refl _) ⟨congrArg Value.bool (decide_eq_decide.2 (by omega)), rfl⟩
  · refine go ?_
    exact Kr.one (.inr rfl) rfl (Ent.refl _) ⟨congrArg Value.bool (decide_eq_false (fun hh => h hh.1)).symm, rfl⟩
theorem stackNew {mp : Nat} {m : Mm} {k : Sk} (hk : k.ok m.ws.length) [t : Take L (some ⟨mp, 0, none⟩) (MemO m) F] :
    Fx Tryz.prog 125 [.pointer (some ⟨mp, 0, none⟩), .int .i64 k.head, .int .i64 k.links, .int .i64 k.n] L (fun v L' => ∃ g, v = .tuple #[.pointer (some ⟨g, 0, none⟩), .int .i64 0] ∧ L' = pt (some ⟨g, 0, none⟩) (SkO mp k) :: L) := by
  obtain ⟨h1, h2, h3, h4, h5, h6⟩ := hk
  refine Fx.mk Tryz.func125 k125 (Nat.le_of_ble_eq_true rfl) ?_
  dsimp only [c125, envOf, Nat.reduceAdd]
  refine Cx.sq ?_
  refine Cx.rg ?_
  refine Sx.bx rfl rfl fun g => ?_
  refine go ?_
  refine Sx.gyes rfl (decide_eq_false (by omega)) ?_
  refine go ?_
  refine Sx.gyes rfl (decide_eq_false (by omega)) ?_
  refine go ?_
  refine Sx.cl (p := []) (q := [.pointer (some ⟨g, 0, none⟩)]) rfl (by kernel_rfl) rfl (stackCell (mp := mp) (m := m) (k.head : Int)) ?_
  rintro v L' ⟨rfl, rfl⟩
  rw [decide_eq_true (show (0 : Int) ≤ k.head ∧ (k.head : Int) < m.ws.length by omega)]
  refine go ?_
  refine Sx.cl (p := []) (q := [.pointer (some ⟨g, 0, none⟩)]) rfl (by kernel_rfl) rfl (stackCell (mp := mp) (m := m) (k.links : Int)) ?_
  rintro v L' ⟨rfl, rfl⟩
  rw [decide_eq_true (show (0 : Int) ≤ k.links ∧ (k.links : Int) < m.ws.length by omega)]
  refine go ?_
  rw [w64 (n := (k.links : Int) + k.n) (by omega) (by omega), w64 (n := (k.links : Int) + k.n - 1) (by omega) (by omega)]
  refine Sx.cl (p := []) (q := [.pointer (some ⟨g, 0, none⟩)]) rfl (by kernel_rfl) rfl (stackCell (mp := mp) (m := m) ((k.links : Int) + k.n - 1)) ?_
  rintro v L' ⟨rfl, rfl⟩
  rw [decide_eq_true (show (0 : Int) ≤ (k.links : Int) + k.n - 1 ∧ (k.links : Int) + k.n - 1 < m.ws.length by omega)]
  refine go ?_
  refine Sx.ifp rfl (fun h7 => ?_) (fun h7 => ?_)
  · refine go ?_
    rw [w64 (n := (k.links : Int) + k.n) (by omega) (by omega)]
    refine Cx.cno rfl (decide_eq_false (by omega)) ?_
    refine go ?_
    refine Sx.bx rfl rfl fun q => ?_
    refine go ?_
    exact Kr.two (.inr rfl) rfl rfl (Ent.cons Ent.drop) ⟨q, rfl, rfl⟩
  · refine go ?_
    refine Sx.bx rfl rfl fun q => ?_
    refine go ?_
    exact Kr.two (.inr rfl) rfl rfl (Ent.cons Ent.drop) ⟨q, rfl, rfl⟩
theorem stackExchange {sb mp : Nat} {k : Sk} {m : Mm} (w : Nat) (i : Int) (hk : k.ok m.ws.length) (hw : w < 18446744073709551616) (h1 : -1 ≤ i) (h2 : i < k.n) [t : Take L (some ⟨mp, 0, none⟩) (MemO m) F] [s : Take F (some ⟨sb, 0, none⟩) (SkO mp k) G] :
    Fx Tryz.prog 204 [.pointer (some ⟨sb, 0, none⟩), wd w, .int .i64 i] L (fun v L' => v = .bool (decide (m.at_ k.head = w)) ∧ L' = pt (some ⟨mp, 0, none⟩) (MemO (m.cas k.head w (nextW w i))) :: F) := by
  obtain ⟨k1, k2, k3, k4, k5, k6⟩ := hk
  have hlt := nextW_lt (i := i) hw (by omega)
  refine Fx.mk Tryz.func204 k204 (Nat.le_of_ble_eq_true rfl) ?_
  dsimp only [c204, envOf, Nat.reduceAdd]
  refine Cx.ent (Ent.trans (Ent.of t.out) (Ent.cons (Ent.of s.out))) ?_
  refine go ?_
  refine Sx.ca rfl (getHead w hw) ?_
  rintro v L' ⟨rfl, rfl⟩
  refine go ?_
  refine Sx.ca rfl (wordNext _ i _ (hdT_lt hw)) ?_
  rintro v L' ⟨rfl, rfl⟩
  refine go ?_
  refine Sx.ca rfl (putHead i _ h1 (by omega) (laterT_lt (hdT_lt hw))) ?_
  rintro v L' ⟨rfl, rfl⟩
  rw [show laterT (hdT w) * 4294967296 + (i + 1).toNat = nextW w i from rfl]
  refine go ?_
  refine Cx.ordc rfl (by kernel_rfl) ?_
  refine ge ?_
  refine Ev.caH (by kernel_rfl) rfl rfl (cellsCas (b := mp) (m := m) k.head w (nextW w i) k3 hlt) (Pres.deps (by kernel_rfl)) ?_
  rintro v L' ⟨rfl, rfl⟩
  refine ge ?_
  refine go ?_
  exact Kr.one (.inr rfl) rfl (Ent.cons (Ent.of s.back)) ⟨rfl, rfl⟩
end
end Go.Proofs.YtnbkjcmmjgkdaaaGreat

/-
  Stacks: a Pop, one access at a time.
-/
set_option linter.unusedVariables false
set_option linter.unusedSimpArgs false
namespace Go.Proofs.YtnbkjcmmjgkdaaaGreat
open Go
attribute [local irreducible] Sx Cx Rx Fx Krg Ksq Kbl Klp Kr
section
variable {L F G : St}
/-- What a Pop's next access is. -/
def popNx (a : Option Addr) (q : PopS) : Value := bif q.done then .nilFunc else .func (.func (match q.at_ with | 0 => 188 | 1 => 199 | _ => 203)) #[.pointer a] #[]
def popL (T : TypeId) (sb : Nat) (k : Sk) (q : PopS) (a : Option Addr) (y : (Option Addr × Nat) × Int) : St :=
  [lift (q.ok k), pt a (Blk T [popNx a q, .nilFunc, .nilFunc, .nilFunc, .int .i64 y.2, .pointer (some ⟨sb, 0, none⟩), .int .i64 q.most, .int .i64 q.under, wd q.was, .slice y.1.1 q.got.length y.1.2]), pt y.1.1 (Row 3 1 q.got.length y.1.2 (ints q.got))]
def PopT (T : TypeId) (sb : Nat) (k : Sk) (q : PopS) (a : Option Addr) : As := exs (popL T sb k q a)
abbrev PopO := PopT 247
theorem PopO.close {T : TypeId} {sb : Nat} {k : Sk} {a r : Option Addr} {c n : Nat} {cnt : Int} {v0 v1 v2 v3 : Value} {w : List Value} {F G : St} (q : PopS) (hq : q.ok k)
    [t : Take L a (Blk T [v0, .nilFunc, .nilFunc, .nilFunc, .int .i64 cnt, .pointer (some ⟨sb, 0, none⟩), v1, v2, v3, .slice r n c]) F] [u : Take F r (Row 3 1 n c w) G]
    (h0 : v0 = popNx a q) (h1 : v1 = .int .i64 q.most) (h2 : v2 = .int .i64 q.under) (h3 : v3 = wd q.was) (hn : n = q.got.length) (hw : w = ints q.got) : Ent L (pt a (PopT T sb k q) :: G) := by
  subst h0; subst h1; subst h2; subst h3; subst hn; subst hw
  refine Ent.trans (Ent.take1 (t := t) (Ent.of u.out)) ?_
  refine Ent.trans (Ent.lift hq (Ent.refl _)) ?_
  exact Ent.close (f := popL T sb k q a) rfl ((r, c), cnt)
theorem stackPop {sb : Nat} {k : Sk} (most : Int) (hn : 1 ≤ k.n) : Fx Tryz.prog 163 [.pointer (some ⟨sb, 0, none⟩), .int .i64 most] L (fun v L' => ∃ g, v = .pointer (some ⟨g, 0, none⟩) ∧ L' = pt (some ⟨g, 0, none⟩) (PopO sb k (PopS.init most)) :: L) := by
  refine Fx.mk Tryz.func163 k163 (Nat.le_of_ble_eq_true rfl) ?_
  dsimp only [c163, envOf, Nat.reduceAdd]
  refine go ?_
  refine Sx.bx rfl rfl fun g => ?_
  refine go ?_
  refine Sx.ca rfl (machGo (b := g)) ?_
  rintro v L' ⟨rfl, rfl⟩
  refine go ?_
  refine Kr.one (.inr rfl) rfl ?_ ⟨g, rfl, rfl⟩
  refine Ent.trans (Ent.rownil 3 1) ?_
  refine PopO.close (a := some ⟨g, 0, none⟩) (r := none) (sb := sb) (PopS.init most) (PopS.ok_init hn most) rfl ?_ rfl rfl rfl rfl
  refine congrArg (Value.int .i64) ?_
  show _ = min (max most 1) 8
  simp only [cond_true, cond_false]
  (repeat' split) <;> omega
/-- The frame of a Pop's access. -/
abbrev popF (b sb mp : Nat) (k : Sk) (m : Mm) (q : PopS) (r : Option Addr) (c : Nat) (cnt : Int) (G : St) : St :=
  pt (some ⟨b, 0, none⟩) (Blk 247 [.nilFunc, .nilFunc, .nilFunc, .nilFunc, .int .i64 cnt, .pointer (some ⟨sb, 0, none⟩), .int .i64 q.most, .int .i64 q.under, wd q.was, .slice r q.got.length c]) ::
  pt r (Row 3 1 q.got.length c (ints q.got)) :: pt (some ⟨mp, 0, none⟩) (MemO m) :: pt (some ⟨sb, 0, none⟩) (SkO mp k) :: G
abbrev popR (b sb mp : Nat) (k : Sk) (m : Mm) (q : PopS) (G : St) (v : Value) (L' : St) : Prop :=
  L' = pt (some ⟨b, 0, none⟩) (PopO sb k (popStep k m q).1) :: pt (some ⟨mp, 0, none⟩) (MemO (popStep k m q).2) :: pt (some ⟨sb, 0, none⟩) (SkO mp k) :: G
theorem pop_load_ {b sb mp : Nat} {k : Sk} {m : Mm} {q : PopS} {r : Option Addr} {c : Nat} {cnt : Int} (hm : m.ok) (hk : k.ok m.ws.length) (hq : q.ok k) (ha : q.at_ = 0) (hd : q.done = false) :
    Fx Tryz.prog 188 [.pointer (some ⟨b, 0, none⟩)] (popF b sb mp k m q r c cnt G) (popR b sb mp k m q G) := by
  have hok := popStep_ok hk hm hq
  have hlt := Mm.at_lt hm k.head
  obtain ⟨k1, k2, k3, k4, k5, k6⟩ := hk
  have e : ∀ x, popStep k m q = x → popStep k m q = x := fun _ h => h
  refine Fx.mk Tryz.func188 k188 (Nat.le_of_ble_eq_true rfl) ?_
  dsimp only [c188, envOf, Nat.reduceAdd]
  refine go ?_
  refine Cx.ordc rfl (by kernel_rfl) ?_
  refine ge ?_
  refine Ev.caH (by kernel_rfl) rfl rfl (cellsLoad (b := mp) (m := m) k.head k3) (Pres.deps (by kernel_rfl)) ?_
  rintro v L' ⟨rfl, rfl⟩
  refine ge ?_
  refine Ev.stbH (b := b) (by kernel_rfl) rfl rfl rfl rfl rfl (by rfl) rfl (Pres.deps (by kernel_rfl)) ?_
  refine ge ?_
  refine go ?_
  refine Cx.ordc rfl (by kernel_rfl) ?_
  refine ge ?_
  refine Ev.cakH (by kernel_rfl) rfl rfl (stackTop (sb := sb) (mp := mp) (k := k) (m.at_ k.head) hlt) ?_
  refine ge ?_
  refine go ?_
  refine Cx.ifp rfl (fun h => ?_) (fun h => ?_)
  · have e : popStep k m q = ({ q with was := m.at_ k.head, got := [k.top (m.at_ k.head)], at_ := 1 }, m.tick) := by
      unfold popStep; rw [hd, ha]; simp only [Bool.false_eq_true, if_false]; rw [if_pos h]
    rw [e] at hok
    refine go ?_
    refine Sx.bs (sz := 1) rfl rfl fun g => ?_
    refine Sx.apn rfl rfl (Rd.row (b := g) (E := 3) (cap := 1) rfl) rfl (by simp [maxLen]) (by omega) fun ra ca hc => ?_
    refine go ?_
    refine Sx.ca rfl (machGo (b := b)) ?_
    rintro v L' ⟨rfl, rfl⟩
    refine go ?_
    refine Kr.none (.inl rfl) ?_ rfl
    rw [e]
    refine Ent.trans (PopO.close (a := some ⟨b, 0, none⟩) (r := ra) (sb := sb) (k := k) _ hok ?_ rfl rfl rfl rfl rfl) ?_
    · simp [popNx, hd]
    · exact ent
  · have e : popStep k m q = ({ q with was := m.at_ k.head, got := [], done := true }, m.tick) := by
      unfold popStep; rw [hd, ha]; simp only [Bool.false_eq_true, if_false]; rw [if_neg h]
    rw [e] at hok
    refine go ?_
    refine Kr.none (.inl rfl) ?_ rfl
    rw [e]
    refine Ent.trans (Ent.rownil 3 1) ?_
    refine Ent.trans (PopO.close (a := some ⟨b, 0, none⟩) (r := none) (sb := sb) (k := k) _ hok ?_ rfl rfl rfl rfl rfl) ?_
    · simp [popNx]
    · exact ent
theorem lastI_get {l : List Int} (h : l ≠ []) : l[l.length - 1]? = some (lastI l) := by
  unfold lastI
  rw [List.getLastD_eq_getLast?, ← List.getLast?_eq_getElem?, List.getLast?_eq_some_getLast h]; rfl
theorem pop_link_ {b sb mp : Nat} {k : Sk} {m : Mm} {q : PopS} {r : Option Addr} {c : Nat} {cnt : Int} (hm : m.ok) (hk : k.ok m.ws.length) (hq : q.ok k) (ha : q.at_ = 1) (hd : q.done = false) :
    Fx Tryz.prog 199 [.pointer (some ⟨b, 0, none⟩)] (popF b sb mp k m q r c cnt G) (popR b sb mp k m q G) := by
  have hok := popStep_ok hk hm hq
  have hne := hq.ne hd (by omega)
  have hlp := List.length_pos_iff.2 hne
  have hrg := hq.g _ (lastI_mem hne)
  have hlen := hq.len
  obtain ⟨k1, k2, k3, k4, k5, k6⟩ := hk
  have hx0 : (ints q.got)[q.got.length - 1]? = some (.int .i64 (lastI q.got)) := by simp only [ints, List.getElem?_map, lastI_get hne]; rfl
  obtain ⟨x, hx⟩ : ∃ x : Nat, lastI q.got = x := ⟨(lastI q.got).toNat, by omega⟩
  have hlt := Mm.at_lt hm (k.links + x)
  have hat : k.links + (lastI q.got).toNat = k.links + x := by omega
  refine Fx.mk Tryz.func199 k199 (Nat.le_of_ble_eq_true rfl) ?_
  dsimp only [c199, envOf, Nat.reduceAdd]
  refine Cx.rowkey (a := r) fun hxl _ _ hkr => ?_
  obtain ⟨rg, rfl⟩ : ∃ g, r = some ⟨g, 0, none⟩ := by
    rcases hkr with h | h
    · omega
    · exact h
  refine go ?_
  refine Cx.ordc rfl (by kernel_rfl) ?_
  refine ge ?_
  rw [w64 (n := (q.got.length : Int) - 1) (by omega) (by omega)]
  refine Ev.pvH (by kernel_rfl) rfl rfl ⟨by omega, by omega⟩ ?_
  refine Ev.ldrH (b := rg) (by kernel_rfl) rfl rfl (v := .int .i64 (lastI q.got)) (by rw [show 0 + ((q.got.length : Int) - 1).toNat * 1 = q.got.length - 1 by omega]; exact hx0) ?_
  refine ge ?_
  rw [hx, w64 (n := (k.links : Int) + x) (by omega) (by omega), show (k.links : Int) + x = ((k.links + x : Nat) : Int) by omega]
  refine Ev.caH (by kernel_rfl) rfl rfl (cellsLoad (b := mp) (m := m) (k.links + x) (by omega)) (Pres.deps (by kernel_rfl)) ?_
  rintro v L' ⟨rfl, rfl⟩
  refine ge ?_
  refine go ?_
  refine Sx.ca rfl (stackBelow (sb := sb) (mp := mp) (k := k) (m.at_ (k.links + x)) hlt k2) ?_
  rintro v L' ⟨rfl, rfl⟩
  refine go ?_
  refine Cx.ordc rfl (by kernel_rfl) ?_
  refine ge ?_
  have hbl := k.below_lt (m.at_ (k.links + x))
  have no : (popStep k m q = ({ q with under := k.below (m.at_ (k.links + x)), at_ := 2 }, m.tick)) → Ent
      (pt (some ⟨b, 0, none⟩) (Blk 247 [mth 203 b, .nilFunc, .nilFunc, .nilFunc, .int .i64 cnt, .pointer (some ⟨sb, 0, none⟩), .int .i64 q.most, .int .i64 (k.below (m.at_ (k.links + x))), wd q.was, .slice (some ⟨rg, 0, none⟩) q.got.length c]) ::
        pt (some ⟨mp, 0, none⟩) (MemO m.tick) :: pt (some ⟨rg, 0, none⟩) (Row 3 1 q.got.length c (ints q.got)) :: pt (some ⟨sb, 0, none⟩) (SkO mp k) :: G)
      (pt (some ⟨b, 0, none⟩) (PopO sb k (popStep k m q).1) :: pt (some ⟨mp, 0, none⟩) (MemO (popStep k m q).2) :: pt (some ⟨sb, 0, none⟩) (SkO mp k) :: G) := by
    intro e
    rw [e] at hok ⊢
    refine Ent.trans (PopO.close (a := some ⟨b, 0, none⟩) (r := some ⟨rg, 0, none⟩) (sb := sb) (k := k) _ hok ?_ rfl rfl rfl rfl rfl) (Ent.refl _)
    simp [popNx, hd]
  have eno : (¬ (0 ≤ k.below (m.at_ (k.links + x)) ∧ (q.got.length : Int) < q.most)) → popStep k m q = ({ q with under := k.below (m.at_ (k.links + x)), at_ := 2 }, m.tick) := by
    intro h
    unfold popStep; rw [hd, ha]; simp only [Bool.false_eq_true, if_false]; rw [hat, if_neg h]
  by_cases h0 : 0 ≤ k.below (m.at_ (k.links + x))
  · refine Ev.yes 49 rfl (decide_eq_true h0) ?_
    refine ge ?_
    refine Cx.ifp rfl (fun h1 => ?_) (fun h1 => ?_)
    · have e : popStep k m q = ({ q with under := k.below (m.at_ (k.links + x)), got := q.got ++ [k.below (m.at_ (k.links + x))] }, m.tick) := by
        unfold popStep; rw [hd, ha]; simp only [Bool.false_eq_true, if_false]; rw [hat, if_pos ⟨h0, h1⟩]
      rw [e] at hok
      refine go ?_
      refine Cx.ordc rfl (by kernel_rfl) ?_
      refine ge ?_
      refine Ev.bsH (sz := 1) (by kernel_rfl) rfl rfl rfl (.dep rfl (.keep (fun v L' ⟨_, _, e⟩ => by subst e; exact Has.cell rfl) .nil)) fun g => ?_
      refine ge ?_
      refine Ev.apH (ra := some ⟨rg, 0, none⟩) (by kernel_rfl) rfl rfl rfl (Rd.row (b := g) (E := 3) (cap := 1) rfl) rfl (by simp [maxLen]; omega) (by omega) (Pres.deps (by kernel_rfl)) fun ra ca hc hka => ?_
      refine ge ?_
      refine Ev.stbH (b := b) (by kernel_rfl) rfl rfl rfl rfl rfl (by rfl) rfl (Pres.deps (by kernel_rfl)) ?_
      refine ge ?_
      refine go ?_
      refine Sx.ca rfl (machGo (b := b)) ?_
      rintro v L' ⟨rfl, rfl⟩
      refine go ?_
      refine Kr.none (.inl rfl) ?_ rfl
      rw [e]
      refine Ent.trans (PopO.close (a := some ⟨b, 0, none⟩) (r := ra) (sb := sb) (k := k) _ hok ?_ rfl rfl rfl (by simp) (by simp [ints_append]; rfl)) ?_
      · simp [popNx, hd, ha]
      · exact ent
    · refine go ?_
      refine Sx.ca rfl (machGo (b := b)) ?_
      rintro v L' ⟨rfl, rfl⟩
      refine go ?_
      exact Kr.none (.inl rfl) (no (eno fun h => h1 h.2)) rfl
  · refine Ev.no 49 rfl (decide_eq_false h0) ?_
    refine ge ?_
    refine go ?_
    refine Sx.ca rfl (machGo (b := b)) ?_
    rintro v L' ⟨rfl, rfl⟩
    refine go ?_
    exact Kr.none (.inl rfl) (no (eno fun h => h0 h.1)) rfl
theorem pop_cas_ {b sb mp : Nat} {k : Sk} {m : Mm} {q : PopS} {r : Option Addr} {c : Nat} {cnt : Int} (hm : m.ok) (hk : k.ok m.ws.length) (hq : q.ok k) (ha : q.at_ = 2) (hd : q.done = false) :
    Fx Tryz.prog 203 [.pointer (some ⟨b, 0, none⟩)] (popF b sb mp k m q r c cnt G) (popR b sb mp k m q G) := by
  have hok := popStep_ok hk hm hq
  have e : popStep k m q = ({ q with at_ := 0, done := decide (m.at_ k.head = q.was) }, m.cas k.head q.was (nextW q.was q.under)) := by
    unfold popStep; rw [hd, ha]; rfl
  rw [e] at hok
  refine Fx.mk Tryz.func203 k203 (Nat.le_of_ble_eq_true rfl) ?_
  dsimp only [c203, envOf, Nat.reduceAdd]
  refine go ?_
  refine Cx.ordc rfl (by kernel_rfl) ?_
  refine ge ?_
  refine Ev.caH (by kernel_rfl) rfl rfl (stackExchange (sb := sb) (mp := mp) (k := k) (m := m) q.was q.under hk hq.w hq.u1 hq.u2) (Pres.deps (by kernel_rfl)) ?_
  rintro v L' ⟨rfl, rfl⟩
  refine ge ?_
  refine Cx.ifn rfl (fun h => ?_) (fun h => ?_)
  · rw [decide_eq_false h] at e hok
    refine go ?_
    refine Sx.ca rfl (machGo (b := b)) ?_
    rintro v L' ⟨rfl, rfl⟩
    refine go ?_
    refine Kr.none (.inl rfl) ?_ rfl
    rw [e]
    refine Ent.trans (PopO.close (a := some ⟨b, 0, none⟩) (r := r) (sb := sb) (k := k) _ hok ?_ rfl rfl rfl rfl rfl) ?_
    · simp [popNx]
    · exact ent
  · rw [decide_eq_true h] at e hok
    refine go ?_
    refine Kr.none (.inl rfl) ?_ rfl
    rw [e]
    refine Ent.trans (PopO.close (a := some ⟨b, 0, none⟩) (r := r) (sb := sb) (k := k) _ hok ?_ rfl rfl rfl rfl rfl) ?_
    · simp [popNx]
    · exact ent
theorem memKey {b : Nat} {m : Mm} {F : St} [t : Take L (some ⟨b, 0, none⟩) (MemO m) F] : ∀ h, holds L h → m.ok ∧ m.ws.length ≤ 8388608 := by
  intro h hh
  have h1 := t.out h hh
  obtain ⟨y, hy⟩ := holds_ex.1 h1
  have := holds_lift.1 hy
  exact ⟨this.1.1, this.1.2.1⟩
/-- One access of a Pop. -/
theorem popStepC {b sb mp : Nat} {k : Sk} {m : Mm} {q : PopS} {F1 F2 : St} (hk : k.ok m.ws.length) [tp : Take L (some ⟨b, 0, none⟩) (PopO sb k q) F1] [t : Take F1 (some ⟨mp, 0, none⟩) (MemO m) F2] [s : Take F2 (some ⟨sb, 0, none⟩) (SkO mp k) G] :
    Fx Tryz.prog 164 [.pointer (some ⟨b, 0, none⟩)] L (fun v L' => v = .bool (!q.done) ∧ L' = pt (some ⟨b, 0, none⟩) (PopO sb k (popStep k m q).1) :: pt (some ⟨mp, 0, none⟩) (MemO (popStep k m q).2) :: F2) := by
  refine Fx.mk Tryz.func164 k164 (Nat.le_of_ble_eq_true rfl) ?_
  dsimp only [c164, envOf, Nat.reduceAdd]
  refine Cx.ent (Ent.trans (Ent.of tp.out) (Ent.cons (Ent.trans (Ent.of t.out) (Ent.cons (Ent.of s.out))))) ?_
  refine Cx.pure (memKey (b := mp) (m := m)) fun hm => ?_
  refine Cx.openp (a := some ⟨b, 0, none⟩) rfl ?_
  rintro ⟨⟨r, c⟩, cnt⟩
  simp only [popL, List.cons_append, List.nil_append]
  refine Cx.liftp fun hq => ?_
  cases hd : q.done with
  | true =>
    have e : popStep k m q = (q, m) := by unfold popStep; rw [hd]; rfl
    rw [e, show popNx (some ⟨b, 0, none⟩) q = .nilFunc by simp [popNx, hd]]
    refine go ?_
    refine Sx.ca rfl (machStepDone (b := b)) ?_
    rintro v L' ⟨rfl, rfl⟩
    refine go ?_
    refine Kr.one (.inr rfl) rfl ?_ ⟨rfl, rfl⟩
    refine Ent.trans (PopO.close (a := some ⟨b, 0, none⟩) (r := r) (sb := sb) (k := k) q hq ?_ rfl rfl rfl rfl rfl) (Ent.cons (Ent.cons (Ent.of s.back)))
    simp [popNx, hd]
  | false =>
    have hcase := hq.a
    rcases (show q.at_ = 0 ∨ q.at_ = 1 ∨ q.at_ = 2 by omega) with ha | ha | ha
    · rw [show popNx (some ⟨b, 0, none⟩) q = .func (.func 188) #[.pointer (some ⟨b, 0, none⟩)] #[] by simp [popNx, hd, ha]]
      refine go ?_
      refine Sx.ca rfl (machStep (b := b) (by kernel_rfl) (pop_load_ (G := G) hm.1 hk hq ha hd)) ?_
      rintro v L' ⟨rfl, u, rfl⟩
      refine go ?_
      exact Kr.one (.inr rfl) rfl (Ent.cons (Ent.cons (Ent.of s.back))) ⟨rfl, rfl⟩
    · rw [show popNx (some ⟨b, 0, none⟩) q = .func (.func 199) #[.pointer (some ⟨b, 0, none⟩)] #[] by simp [popNx, hd, ha]]
      refine go ?_
      refine Sx.ca rfl (machStep (b := b) (by kernel_rfl) (pop_link_ (G := G) hm.1 hk hq ha hd)) ?_
      rintro v L' ⟨rfl, u, rfl⟩
      refine go ?_
      exact Kr.one (.inr rfl) rfl (Ent.cons (Ent.cons (Ent.of s.back))) ⟨rfl, rfl⟩
    · rw [show popNx (some ⟨b, 0, none⟩) q = .func (.func 203) #[.pointer (some ⟨b, 0, none⟩)] #[] by simp [popNx, hd, ha]]
      refine go ?_
      refine Sx.ca rfl (machStep (b := b) (by kernel_rfl) (pop_cas_ (G := G) hm.1 hk hq ha hd)) ?_
      rintro v L' ⟨rfl, u, rfl⟩
      refine go ?_
      exact Kr.one (.inr rfl) rfl (Ent.cons (Ent.cons (Ent.of s.back))) ⟨rfl, rfl⟩
theorem popDoneC {b sb : Nat} {k : Sk} {q : PopS} {F1 : St} [tp : Take L (some ⟨b, 0, none⟩) (PopO sb k q) F1] : Fx Tryz.prog 165 [.pointer (some ⟨b, 0, none⟩)] L (fun v L' => v = .bool q.done ∧ L = L') := by
  refine Fx.kept (t := tp) ?_
  refine Fx.mk Tryz.func165 k165 (Nat.le_of_ble_eq_true rfl) ?_
  dsimp only [c165, envOf, Nat.reduceAdd]
  refine Cx.openp (t := tp) rfl ?_
  rintro ⟨⟨r, c⟩, cnt⟩
  simp only [popL, List.cons_append, List.nil_append]
  refine Cx.liftp fun hq => ?_
  cases hd : q.done with
  | true =>
    have e : popNx (some ⟨b, 0, none⟩) q = .nilFunc := by simp [popNx, hd]
    rw [e]
    refine go ?_
    refine Sx.ca rfl (machDoneYes (b := b)) ?_
    rintro v L' ⟨rfl, rfl⟩
    refine go ?_
    exact Kr.one (.inr rfl) rfl (PopO.close (a := some ⟨b, 0, none⟩) (r := r) (sb := sb) (k := k) q hq e.symm rfl rfl rfl rfl rfl) ⟨rfl, rfl⟩
  | false =>
    have e : popNx (some ⟨b, 0, none⟩) q = .func (.func (match q.at_ with | 0 => 188 | 1 => 199 | _ => 203)) #[.pointer (some ⟨b, 0, none⟩)] #[] := by simp [popNx, hd]
    rw [e]
    refine go ?_
    refine Sx.ca rfl (machDoneNo (b := b)) ?_
    rintro v L' ⟨rfl, rfl⟩
    refine go ?_
    exact Kr.one (.inr rfl) rfl (PopO.close (a := some ⟨b, 0, none⟩) (r := r) (sb := sb) (k := k) q hq e.symm rfl rfl rfl rfl rfl) ⟨rfl, rfl⟩
/-- What a Pop got. -/
theorem popGot {b sb : Nat} {k : Sk} {q : PopS} {F1 : St} (hd : q.done = true) [tp : Take L (some ⟨b, 0, none⟩) (PopO sb k q) F1] : Fx Tryz.prog 189 [.pointer (some ⟨b, 0, none⟩)] L
    (fun v L' => ∃ ro co, v = .slice ro q.got.length co ∧ L' = pt ro (Row 3 1 q.got.length co (ints q.got)) :: pt (some ⟨b, 0, none⟩) (PopO sb k q) :: F1) := by
  refine Fx.mk Tryz.func189 k189 (Nat.le_of_ble_eq_true rfl) ?_
  dsimp only [c189, envOf, Nat.reduceAdd]
  refine go ?_
  refine Sx.ca rfl (popDoneC (b := b) (sb := sb) (k := k) (q := q)) ?_
  rintro v L' ⟨rfl, rfl⟩
  rw [hd]
  refine go ?_
  refine Sx.openp (t := tp) rfl ?_
  rintro ⟨⟨r, c⟩, cnt⟩
  simp only [popL, List.cons_append, List.nil_append]
  refine Sx.liftp fun hq => ?_
  have hlen := hq.len
  refine go ?_
  refine Sx.rowkey (a := r) fun hxl _ _ hkr => ?_
  refine Sx.ca rfl (clone (Rd.any (a := r) hxl (hkr.imp (fun h => h.2.1) id)) (ones_ints _) (by omega)) ?_
  rintro v L' ⟨ra, ca, rfl, rfl⟩
  refine go ?_
  refine Kr.one (.inr rfl) rfl (Ent.cons (PopO.close (a := some ⟨b, 0, none⟩) (r := r) (sb := sb) (k := k) q hq rfl rfl rfl rfl rfl rfl)) ⟨ra, ca, rfl, rfl⟩
end
end Go.Proofs.YtnbkjcmmjgkdaaaGreat
