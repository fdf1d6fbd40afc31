/-
  Parts of the proof, merged: what the statement leans on.
-/
import Derived.Test.YtlpikhdiiehcaaaDoorProg
import Derived.KernelRfl
import Derived.Lib.ItoaNum
import Derived.Laws.BytesString
import Derived.Lib.ItoaLen
import Derived.Shelf.Strings.Builder1
import Derived.Shelf.Strings.Builder2
import Derived.Shelf.Strings.OnBuilder
import Derived.Shelf.Strings.BuilderF
import Derived.Shelf.Strings.BuilderK
import Derived.Shelf.Utf8.RuneCount
import Derived.Shelf.Strings.Builder2Cap
import Derived.Shelf.Strconv.Atoi
import Derived.Shelf.Strconv.Itoa0
import Derived.Shelf.Strconv.Itoa1
import Derived.Shelf.LaysM
import Derived.Shelf.Strconv.Itoa2
import Derived.Shelf.Strconv.Itoa3
import Derived.Shelf.Strconv.AtoiErrFast
import Derived.Shelf.Strconv.ParseIntEmpty
import Derived.Shelf.Strconv.AtoiFail
import Derived.Shelf.Strconv.Clone
import Derived.Shelf.Strconv.SyntaxError
import Derived.Shelf.LaysC
import Derived.Shelf.Strconv.ToError
import Derived.Shelf.Strconv.AtoiErr
import Derived.Shelf.Strconv.ErrVar
import Derived.Shelf.Strconv.Lower
import Derived.Shelf.Strconv.ParseUint10
import Derived.Shelf.Strconv.ParseUint10Empty
import Derived.Shelf.Strconv.ParseUint10Any
import Derived.Shelf.Strconv.ParseInt10
import Derived.Shelf.Strconv.AtoiLong
import Derived.Shelf.Strconv.AtoiInnerAll
import Derived.Shelf.Strconv.RangeError
import Derived.Shelf.Strconv.ToErrorRange
import Derived.Shelf.Strconv.AtoiAll
import Derived.Shelf.Strconv.ErrVarAll
import Derived.Shelf.Strconv.ParseUintEmpty
import Derived.Shelf.Strconv.ParseUint10b64
import Derived.Shelf.Strconv.ParseUint10b32
import Derived.Shelf.Strconv.ParseUint10b16
import Derived.Shelf.Strconv.ParseUint10b8
import Derived.Shelf.Strconv.ParseUint10At
import Derived.Shelf.Strconv.ParseInt10At64
import Derived.Shelf.Strconv.ParseInt10At32
import Derived.Shelf.Strconv.ParseInt10At16
import Derived.Shelf.Strconv.ParseInt10At8
import Derived.Shelf.Strconv.ParseInt10All
import Derived.Ground.MpProg
import Derived.Shelf.Pu.ParseUintPublic10
import Derived.Shelf.Pu.ErrVarParseUint
import Derived.Shelf.Strings.Search1
import Derived.Shelf.Strings.Search2
import Derived.Shelf.Strings.Search3
import Derived.Shelf.Strings.Cut
import Derived.Shelf.Strings.Count
import Derived.Shelf.Strings.Shaped
import Derived.Shelf.Strings.Split
import Derived.Shelf.Strings.SplitShaped
import Derived.Shelf.Unicode.Decode
import Derived.Shelf.Strings.RuneCount
import Derived.Shelf.Strings.Explode
import Derived.Shelf.Unicode.DecodeSlow
import Derived.Shelf.Unicode.DecodeAny
import Derived.Shelf.Strings.BuilderCap
import Derived.Lib.AppendIntMem
import Derived.Test.YtlpikhdiiehcaaaDoorRows
import Derived.ProofKit
import Derived.OpenShut
import Derived.HandedShaped
import Derived.Handed
import Derived.Lay
import Derived.LaidMore
import Derived.Stop.Joined
import Derived.Stop.LaidErr
import Derived.Shelf.Vars
import Derived.Lib.LaidTab
import Derived.Deep.Slices
import Derived.Deep.Fields
import Derived.Test.YtlpikhdiiehcaaaDoorZJeA
/-
  The functions' small code, as a program printed it off the translation; each held against the model's own code by the kernel.
-/
namespace Go.Proofs.YtlpikhdiiehcaaaDoor
open Go
set_option maxRecDepth 100000
/-- rundale/rundalelaw18.OpReads -/
def c4 : Fu := ⟨44, [.t 2],
  (.sq (.rg [⟨(some 2), none, .mv (.c (.bool false))⟩])
  (.sq (.rg [⟨(some 8), none, .ca 8 []⟩,
    ⟨(some 3), none, .mv (.t 8)⟩])
  (.sq (.sq (.rg [⟨(some 9), none, .mv (.t 3)⟩,
    ⟨(some 10), none, .nt (.t 9)⟩])
  (.cd (.t 10)
  (.sq (.rg [⟨(some 2), none, .mv (.c (.bool false))⟩])
  .rt)
  .sk))
  (.sq (.sq (.rg [⟨(some 11), none, .mv (.t 0)⟩,
    ⟨(some 12), none, .lens (.t 11)⟩,
    ⟨(some 13), none, .ib .gtr (.t 12) (.c (.int .i64 100))⟩])
  (.cd (.t 13)
  (.sq (.rg [⟨(some 14), none, .mv (.t 3)⟩,
    ⟨(some 2), none, .mv (.t 14)⟩])
  .rt)
  .sk))
  (.sq (.rg [⟨(some 16), none, .mv (.t 0)⟩,
    ⟨(some 17), none, .ca 17 [(.t 16)]⟩,
    ⟨(some 15), none, .mv (.t 17)⟩,
    ⟨(some 18), none, .ex (.t 15) 0⟩,
    ⟨(some 19), none, .ex (.t 15) 1⟩,
    ⟨(some 4), none, .al 24 [(.int .i64 0), (.int .i64 0), (.int .i64 0), (.int .i64 0), (.int .u64 0), (.int .u64 0)]⟩,
    ⟨none, none, .st (.t 4) (.t 18) 6⟩,
    ⟨(some 5), none, .mv (.t 19)⟩])
  (.sq (.rg [⟨(some 21), none, .mv (.t 0)⟩,
    ⟨(some 22), none, .ca 18 [(.t 21)]⟩,
    ⟨(some 20), none, .mv (.t 22)⟩,
    ⟨(some 23), none, .ex (.t 20) 0⟩,
    ⟨(some 24), none, .ex (.t 20) 1⟩,
    ⟨(some 6), none, .al 24 [(.int .i64 0), (.int .i64 0), (.int .i64 0), (.int .i64 0), (.int .u64 0), (.int .u64 0)]⟩,
    ⟨none, none, .st (.t 6) (.t 23) 6⟩,
    ⟨(some 7), none, .mv (.t 24)⟩])
  (.sq (.rg [⟨(some 25), none, .mv (.t 3)⟩,
    ⟨(some 26), none, .mv (.t 25)⟩,
    ⟨(some 27), (some (26, true)), .ld (.t 4) 6 true⟩,
    ⟨(some 28), (some (26, true)), .ld (.t 6) 6 true⟩,
    ⟨(some 29), (some (26, true)), .em 6 false (.t 27) (.t 28)⟩,
    ⟨(some 30), none, .pk (.t 26) (.t 29) (.c (.bool false))⟩,
    ⟨(some 31), none, .mv (.t 30)⟩,
    ⟨(some 32), (some (31, true)), .mv (.t 5)⟩,
    ⟨(some 33), (some (31, true)), .ib .eql (.t 32) (.c (.int .i64 0))⟩,
    ⟨(some 34), (some (31, true)), .mv (.t 7)⟩,
    ⟨(some 35), (some (31, true)), .bb false (.t 33) (.t 34)⟩,
    ⟨(some 36), none, .pk (.t 31) (.t 35) (.c (.bool false))⟩,
    ⟨(some 37), none, .mv (.t 36)⟩,
    ⟨(some 38), (some (37, true)), .mv (.t 7)⟩,
    ⟨(some 39), (some (37, true)), .mv (.t 38)⟩,
    ⟨(some 40), (some (39, false)), .mv (.t 5)⟩,
    ⟨(some 41), (some (39, false)), .ib .eql (.t 40) (.c (.int .i64 10))⟩,
    ⟨(some 42), (some (37, true)), .pk (.t 39) (.c (.bool true)) (.t 41)⟩,
    ⟨(some 43), none, .pk (.t 37) (.t 42) (.c (.bool false))⟩,
    ⟨(some 2), none, .mv (.t 43)⟩])
  .rt)))))))⟩
theorem k4 : cF Tryd.prog Tryd.f4 = some c4 := by kernel_rfl
/-- rundale/rundalelaw18.first -/
def c8 : Fu := ⟨40, [.t 0],
  (.sq (.rg [⟨(some 0), none, .mv (.c (.bool false))⟩])
  (.sq (.rg [⟨(some 6), none, .bd [(.int .i64 0), (.int .i64 0), (.int .i64 0), (.int .i64 0), (.int .u64 0), (.int .u64 0)] [(0, 1, (.c (.int .i64 7))), (2, 1, (.c (.int .i64 1))), (3, 1, (.c (.int .i64 3))), (4, 1, (.c (.int .u64 77)))]⟩,
    ⟨(some 1), none, .al 24 [(.int .i64 0), (.int .i64 0), (.int .i64 0), (.int .i64 0), (.int .u64 0), (.int .u64 0)]⟩,
    ⟨none, none, .st (.t 1) (.t 6) 6⟩])
  (.sq (.rg [⟨(some 8), none, .ld (.t 1) 6 true⟩,
    ⟨(some 9), none, .ca 15 [(.t 8)]⟩,
    ⟨(some 7), none, .mv (.t 9)⟩,
    ⟨(some 10), none, .ex (.t 7) 0⟩,
    ⟨(some 11), none, .ex (.t 7) 1⟩,
    ⟨(some 2), none, .mv (.t 10)⟩,
    ⟨(some 3), none, .mv (.t 11)⟩])
  (.sq (.rg [⟨(some 13), none, .mv (.t 2)⟩,
    ⟨(some 14), none, .ca 17 [(.t 13)]⟩,
    ⟨(some 12), none, .mv (.t 14)⟩,
    ⟨(some 15), none, .ex (.t 12) 0⟩,
    ⟨(some 16), none, .ex (.t 12) 1⟩,
    ⟨(some 4), none, .al 24 [(.int .i64 0), (.int .i64 0), (.int .i64 0), (.int .i64 0), (.int .u64 0), (.int .u64 0)]⟩,
    ⟨none, none, .st (.t 4) (.t 15) 6⟩,
    ⟨(some 5), none, .mv (.t 16)⟩])
  (.sq (.rg [⟨(some 17), none, .mv (.t 2)⟩,
    ⟨(some 18), none, .sb .eql (.t 17) (.c (.string ⟨#[115, 116, 111, 114, 101, 32, 48, 46, 49, 32, 51, 32, 55, 55]⟩))⟩,
    ⟨(some 19), none, .mv (.t 18)⟩,
    ⟨(some 20), (some (19, true)), .mv (.t 3)⟩,
    ⟨(some 21), (some (19, true)), .ib .eql (.t 20) (.c (.int .i64 0))⟩,
    ⟨(some 22), none, .pk (.t 19) (.t 21) (.c (.bool false))⟩,
    ⟨(some 23), none, .mv (.t 22)⟩,
    ⟨(some 24), (some (23, true)), .ld (.t 4) 6 true⟩,
    ⟨(some 25), (some (23, true)), .ld (.t 1) 6 true⟩,
    ⟨(some 26), (some (23, true)), .em 6 false (.t 24) (.t 25)⟩,
    ⟨(some 27), none, .pk (.t 23) (.t 26) (.c (.bool false))⟩,
    ⟨(some 28), none, .mv (.t 27)⟩,
    ⟨(some 29), (some (28, true)), .mv (.t 5)⟩,
    ⟨(some 30), (some (28, true)), .ib .eql (.t 29) (.c (.int .i64 0))⟩,
    ⟨(some 31), none, .pk (.t 28) (.t 30) (.c (.bool false))⟩,
    ⟨(some 32), none, .mv (.t 31)⟩,
    ⟨(some 33), (some (32, true)), .ld (.t 1) 6 true⟩,
    ⟨(some 34), (some (32, true)), .ca 10 [(.t 33)]⟩,
    ⟨(some 35), none, .pk (.t 32) (.t 34) (.c (.bool false))⟩,
    ⟨(some 36), none, .mv (.t 35)⟩,
    ⟨(some 37), (some (36, true)), .ca 11 [(.c (.int .i64 5))]⟩,
    ⟨(some 38), (some (36, true)), .ib .eql (.t 37) (.c (.int .i64 3))⟩,
    ⟨(some 39), none, .pk (.t 36) (.t 38) (.c (.bool false))⟩,
    ⟨(some 0), none, .mv (.t 39)⟩])
  .rt)))))⟩
theorem k8 : cF Tryd.prog Tryd.f8 = some c8 := by kernel_rfl
/-- rundale/rundaleref18.May -/
def c9 : Fu := ⟨64, [.t 2],
  (.sq (.rg [⟨(some 1), none, .bx 24 (.t 0)⟩,
    ⟨(some 2), none, .mv (.c (.bool false))⟩])
  (.sq (.rg [⟨(some 3), none, .mv (.c (.int .i64 0))⟩])
  (.sq (.bl 0
  (.sq (.rg [⟨(some 5), none, .fa (.t 1) 0⟩,
    ⟨(some 6), none, .ld (.t 5) 1 false⟩,
    ⟨(some 7), none, .ib .eql (.t 6) (.c (.int .i64 1))⟩,
    ⟨(some 4), none, .mv (.t 7)⟩])
  (.cd (.t 4)
  (.rg [⟨(some 3), none, .mv (.c (.int .i64 3))⟩])
  (.sq (.rg [⟨(some 9), none, .fa (.t 1) 0⟩,
    ⟨(some 10), none, .ld (.t 9) 1 false⟩,
    ⟨(some 11), none, .ca 21 [(.t 10)]⟩,
    ⟨(some 8), none, .mv (.t 11)⟩])
  (.cd (.t 8)
  (.rg [⟨(some 3), none, .mv (.c (.int .i64 65535))⟩])
  .sk)))))
  (.sq (.sq (.rg [⟨(some 12), none, .fa (.t 1) 0⟩,
    ⟨(some 13), none, .ld (.t 12) 1 false⟩,
    ⟨(some 14), none, .ca 22 [(.t 13), (.c (.int .i64 1)), (.c (.int .i64 12))]⟩,
    ⟨(some 15), none, .nt (.t 14)⟩,
    ⟨(some 16), none, .mv (.t 15)⟩,
    ⟨(some 17), (some (16, false)), .fa (.t 1) 3⟩,
    ⟨(some 18), (some (16, false)), .ld (.t 17) 1 false⟩,
    ⟨(some 19), (some (16, false)), .mv (.t 3)⟩,
    ⟨(some 20), (some (16, false)), .ca 22 [(.t 18), (.c (.int .i64 0)), (.t 19)]⟩,
    ⟨(some 21), (some (16, false)), .nt (.t 20)⟩,
    ⟨(some 22), none, .pk (.t 16) (.c (.bool true)) (.t 21)⟩,
    ⟨(some 23), none, .mv (.t 22)⟩,
    ⟨(some 24), (some (23, false)), .fa (.t 1) 0⟩,
    ⟨(some 25), (some (23, false)), .ld (.t 24) 1 false⟩,
    ⟨(some 26), (some (23, false)), .ca 23 [(.t 25)]⟩,
    ⟨(some 27), (some (23, false)), .nt (.t 26)⟩,
    ⟨(some 28), (some (23, false)), .mv (.t 27)⟩,
    ⟨(some 29), (some (28, true)), .fa (.t 1) 4⟩,
    ⟨(some 30), (some (28, true)), .ld (.t 29) 1 false⟩,
    ⟨(some 31), (some (28, true)), .ib .neq (.t 30) (.c (.int .u64 0))⟩,
    ⟨(some 32), (some (23, false)), .pk (.t 28) (.t 31) (.c (.bool false))⟩,
    ⟨(some 33), none, .pk (.t 23) (.c (.bool true)) (.t 32)⟩,
    ⟨(some 34), none, .mv (.t 33)⟩,
    ⟨(some 35), (some (34, false)), .fa (.t 1) 0⟩,
    ⟨(some 36), (some (34, false)), .ld (.t 35) 1 false⟩,
    ⟨(some 37), (some (34, false)), .ib .neq (.t 36) (.c (.int .i64 9))⟩,
    ⟨(some 38), (some (34, false)), .mv (.t 37)⟩,
    ⟨(some 39), (some (38, true)), .fa (.t 1) 5⟩,
    ⟨(some 40), (some (38, true)), .ld (.t 39) 1 false⟩,
    ⟨(some 41), (some (38, true)), .ib .neq (.t 40) (.c (.int .u64 0))⟩,
    ⟨(some 42), (some (34, false)), .pk (.t 38) (.t 41) (.c (.bool false))⟩,
    ⟨(some 43), none, .pk (.t 34) (.c (.bool true)) (.t 42)⟩])
  (.cd (.t 43)
  (.sq (.rg [⟨(some 2), none, .mv (.c (.bool false))⟩])
  .rt)
  .sk))
  (.sq (.sq (.rg [⟨(some 44), none, .fa (.t 1) 0⟩,
    ⟨(some 45), none, .ld (.t 44) 1 false⟩,
    ⟨(some 46), none, .ca 12 [(.t 45)]⟩,
    ⟨(some 47), none, .ib .eql (.t 46) (.c (.int .i64 0))⟩])
  (.cd (.t 47)
  (.sq (.rg [⟨(some 48), none, .fa (.t 1) 1⟩,
    ⟨(some 49), none, .ld (.t 48) 1 false⟩,
    ⟨(some 50), none, .ib .eql (.t 49) (.c (.int .i64 0))⟩,
    ⟨(some 51), none, .mv (.t 50)⟩,
    ⟨(some 52), (some (51, true)), .fa (.t 1) 2⟩,
    ⟨(some 53), (some (51, true)), .ld (.t 52) 1 false⟩,
    ⟨(some 54), (some (51, true)), .ib .eql (.t 53) (.c (.int .i64 0))⟩,
    ⟨(some 55), none, .pk (.t 51) (.t 54) (.c (.bool false))⟩,
    ⟨(some 2), none, .mv (.t 55)⟩])
  .rt)
  .sk))
  (.sq (.rg [⟨(some 56), none, .fa (.t 1) 1⟩,
    ⟨(some 57), none, .ld (.t 56) 1 false⟩,
    ⟨(some 58), none, .ca 22 [(.t 57), (.c (.int .i64 0)), (.c (.int .i64 63))]⟩,
    ⟨(some 59), none, .mv (.t 58)⟩,
    ⟨(some 60), (some (59, true)), .fa (.t 1) 2⟩,
    ⟨(some 61), (some (59, true)), .ld (.t 60) 1 false⟩,
    ⟨(some 62), (some (59, true)), .ca 22 [(.t 61), (.c (.int .i64 0)), (.c (.int .i64 999))]⟩,
    ⟨(some 63), none, .pk (.t 59) (.t 62) (.c (.bool false))⟩,
    ⟨(some 2), none, .mv (.t 63)⟩])
  .rt))))))⟩
theorem k9 : cF Tryd.prog Tryd.f9 = some c9 := by kernel_rfl
/-- rundale/op.May -/
def c10 : Fu := ⟨59, [.t 2],
  (.sq (.rg [⟨(some 1), none, .bx 24 (.t 0)⟩,
    ⟨(some 2), none, .mv (.c (.bool false))⟩])
  (.sq (.rg [⟨(some 7), none, .fa (.t 1) 0⟩,
    ⟨(some 8), none, .ld (.t 7) 1 false⟩,
    ⟨(some 9), none, .ca 24 [(.t 8)]⟩,
    ⟨(some 3), none, .al 47 [(.string ⟨#[]⟩), (.int .i64 0), (.bool false), (.bool false), (.bool false)]⟩,
    ⟨none, none, .st (.t 3) (.t 9) 5⟩])
  (.sq (.rg [⟨(some 4), none, .mv (.c (.int .i64 0))⟩,
    ⟨(some 5), none, .mv (.c (.int .i64 0))⟩,
    ⟨(some 6), none, .mv (.c (.int .i64 0))⟩])
  (.sq (.sq (.rg [⟨(some 10), none, .fa (.t 3) 1⟩,
    ⟨(some 11), none, .ld (.t 10) 1 false⟩,
    ⟨(some 12), none, .ib .neq (.t 11) (.c (.int .i64 0))⟩])
  (.cd (.t 12)
  (.rg [⟨(some 4), none, .mv (.c (.int .i64 63))⟩,
    ⟨(some 5), none, .mv (.c (.int .i64 999))⟩])
  .sk))
  (.sq (.bl 0
  (.sq (.rg [⟨(some 14), none, .fa (.t 1) 0⟩,
    ⟨(some 15), none, .ld (.t 14) 1 false⟩,
    ⟨(some 16), none, .ib .eql (.t 15) (.c (.int .i64 1))⟩,
    ⟨(some 13), none, .mv (.t 16)⟩])
  (.cd (.t 13)
  (.rg [⟨(some 6), none, .mv (.c (.int .i64 3))⟩])
  (.sq (.rg [⟨(some 18), none, .fa (.t 3) 2⟩,
    ⟨(some 19), none, .ld (.t 18) 1 false⟩,
    ⟨(some 17), none, .mv (.t 19)⟩])
  (.cd (.t 17)
  (.rg [⟨(some 6), none, .mv (.c (.int .i64 65535))⟩])
  .sk)))))
  (.sq (.rg [⟨(some 20), none, .fa (.t 3) 0⟩,
    ⟨(some 21), none, .ld (.t 20) 1 false⟩,
    ⟨(some 22), none, .sb .neq (.t 21) (.c (.string ⟨#[]⟩))⟩,
    ⟨(some 23), none, .mv (.t 22)⟩,
    ⟨(some 24), (some (23, true)), .fa (.t 1) 1⟩,
    ⟨(some 25), (some (23, true)), .ld (.t 24) 1 false⟩,
    ⟨(some 26), (some (23, true)), .mv (.t 4)⟩,
    ⟨(some 27), (some (23, true)), .ca 25 [(.t 25), (.t 26)]⟩,
    ⟨(some 28), none, .pk (.t 23) (.t 27) (.c (.bool false))⟩,
    ⟨(some 29), none, .mv (.t 28)⟩,
    ⟨(some 30), (some (29, true)), .fa (.t 1) 2⟩,
    ⟨(some 31), (some (29, true)), .ld (.t 30) 1 false⟩,
    ⟨(some 32), (some (29, true)), .mv (.t 5)⟩,
    ⟨(some 33), (some (29, true)), .ca 25 [(.t 31), (.t 32)]⟩,
    ⟨(some 34), none, .pk (.t 29) (.t 33) (.c (.bool false))⟩,
    ⟨(some 35), none, .mv (.t 34)⟩,
    ⟨(some 36), (some (35, true)), .fa (.t 1) 3⟩,
    ⟨(some 37), (some (35, true)), .ld (.t 36) 1 false⟩,
    ⟨(some 38), (some (35, true)), .mv (.t 6)⟩,
    ⟨(some 39), (some (35, true)), .ca 25 [(.t 37), (.t 38)]⟩,
    ⟨(some 40), none, .pk (.t 35) (.t 39) (.c (.bool false))⟩,
    ⟨(some 41), none, .mv (.t 40)⟩,
    ⟨(some 42), (some (41, true)), .fa (.t 3) 3⟩,
    ⟨(some 43), (some (41, true)), .ld (.t 42) 1 false⟩,
    ⟨(some 44), (some (41, true)), .mv (.t 43)⟩,
    ⟨(some 45), (some (44, false)), .fa (.t 1) 4⟩,
    ⟨(some 46), (some (44, false)), .ld (.t 45) 1 false⟩,
    ⟨(some 47), (some (44, false)), .ib .eql (.t 46) (.c (.int .u64 0))⟩,
    ⟨(some 48), (some (41, true)), .pk (.t 44) (.c (.bool true)) (.t 47)⟩,
    ⟨(some 49), none, .pk (.t 41) (.t 48) (.c (.bool false))⟩,
    ⟨(some 50), none, .mv (.t 49)⟩,
    ⟨(some 51), (some (50, true)), .fa (.t 3) 4⟩,
    ⟨(some 52), (some (50, true)), .ld (.t 51) 1 false⟩,
    ⟨(some 53), (some (50, true)), .mv (.t 52)⟩,
    ⟨(some 54), (some (53, false)), .fa (.t 1) 5⟩,
    ⟨(some 55), (some (53, false)), .ld (.t 54) 1 false⟩,
    ⟨(some 56), (some (53, false)), .ib .eql (.t 55) (.c (.int .u64 0))⟩,
    ⟨(some 57), (some (50, true)), .pk (.t 53) (.c (.bool true)) (.t 56)⟩,
    ⟨(some 58), none, .pk (.t 50) (.t 57) (.c (.bool false))⟩,
    ⟨(some 2), none, .mv (.t 58)⟩])
  .rt))))))⟩
theorem k10 : cF Tryd.prog Tryd.f10 = some c10 := by kernel_rfl
/-- rundale/op.Of -/
def c11 : Fu := ⟨6, [.t 2],
  (.sq (.rg [⟨(some 2), none, .mv (.c (.int .i64 0))⟩])
  (.sq (.rg [⟨(some 3), none, .mv (.t 0)⟩,
    ⟨(some 4), none, .ca 24 [(.t 3)]⟩,
    ⟨(some 5), none, .fv (.t 4) 1 1 false⟩,
    ⟨(some 2), none, .mv (.t 5)⟩])
  .rt))⟩
theorem k11 : cF Tryd.prog Tryd.f11 = some c11 := by kernel_rfl
/-- rundale/rundaleref18.Of -/
def c12 : Fu := ⟨15, [.t 2],
  (.sq (.rg [⟨(some 2), none, .mv (.c (.int .i64 0))⟩])
  (.sq (.sq (.rg [⟨(some 3), none, .mv (.t 0)⟩])
  (.bl 0
  (.sq (.sq (.rg [⟨(some 5), none, .ib .eql (.t 3) (.c (.int .i64 2))⟩,
    ⟨(some 4), none, .mv (.t 5)⟩])
  (.cd (.t 4)
  .sk
  (.sq (.rg [⟨(some 6), none, .ib .eql (.t 3) (.c (.int .i64 10))⟩,
    ⟨(some 4), none, .mv (.t 6)⟩])
  (.cd (.t 4)
  .sk
  (.rg [⟨(some 7), none, .ib .eql (.t 3) (.c (.int .i64 12))⟩,
    ⟨(some 4), none, .mv (.t 7)⟩])))))
  (.cd (.t 4)
  (.sq (.rg [⟨(some 2), none, .mv (.c (.int .i64 1))⟩])
  .rt)
  (.sq (.sq (.rg [⟨(some 9), none, .ib .eql (.t 3) (.c (.int .i64 6))⟩,
    ⟨(some 8), none, .mv (.t 9)⟩])
  (.cd (.t 8)
  .sk
  (.sq (.rg [⟨(some 10), none, .ib .eql (.t 3) (.c (.int .i64 7))⟩,
    ⟨(some 8), none, .mv (.t 10)⟩])
  (.cd (.t 8)
  .sk
  (.sq (.rg [⟨(some 11), none, .ib .eql (.t 3) (.c (.int .i64 8))⟩,
    ⟨(some 8), none, .mv (.t 11)⟩])
  (.cd (.t 8)
  .sk
  (.rg [⟨(some 12), none, .ib .eql (.t 3) (.c (.int .i64 9))⟩,
    ⟨(some 8), none, .mv (.t 12)⟩])))))))
  (.cd (.t 8)
  (.sq (.rg [⟨(some 2), none, .mv (.c (.int .i64 2))⟩])
  .rt)
  (.sq (.rg [⟨(some 14), none, .ib .eql (.t 3) (.c (.int .i64 5))⟩,
    ⟨(some 13), none, .mv (.t 14)⟩])
  (.cd (.t 13)
  (.sq (.rg [⟨(some 2), none, .mv (.c (.int .i64 3))⟩])
  .rt)
  .sk))))))))
  (.sq (.rg [⟨(some 2), none, .mv (.c (.int .i64 0))⟩])
  .rt)))⟩
theorem k12 : cF Tryd.prog Tryd.f12 = some c12 := by kernel_rfl
/-- rundale/op.Name -/
def c13 : Fu := ⟨6, [.t 2],
  (.sq (.rg [⟨(some 2), none, .mv (.c (.string ⟨#[]⟩))⟩])
  (.sq (.rg [⟨(some 3), none, .mv (.t 0)⟩,
    ⟨(some 4), none, .ca 24 [(.t 3)]⟩,
    ⟨(some 5), none, .fv (.t 4) 0 1 false⟩,
    ⟨(some 2), none, .mv (.t 5)⟩])
  .rt))⟩
theorem k13 : cF Tryd.prog Tryd.f13 = some c13 := by kernel_rfl
/-- rundale/rundaleref18.Name -/
def c14 : Fu := ⟨13, [.t 2],
  (.sq (.rg [⟨(some 2), none, .mv (.c (.string ⟨#[]⟩))⟩])
  (.sq (.sq (.rg [⟨(some 3), none, .mv (.t 0)⟩,
    ⟨(some 4), none, .ib .lss (.t 3) (.c (.int .i64 1))⟩,
    ⟨(some 5), none, .mv (.t 4)⟩,
    ⟨(some 6), (some (5, false)), .mv (.t 0)⟩,
    ⟨(some 7), (some (5, false)), .ib .gtr (.t 6) (.c (.int .i64 12))⟩,
    ⟨(some 8), none, .pk (.t 5) (.c (.bool true)) (.t 7)⟩])
  (.cd (.t 8)
  (.sq (.rg [⟨(some 2), none, .mv (.c (.string ⟨#[]⟩))⟩])
  .rt)
  .sk))
  (.sq (.rg [⟨(some 9), none, .ca 26 []⟩,
    ⟨(some 10), none, .mv (.t 0)⟩,
    ⟨(some 11), none, .ia (.t 9) (.t 10) 1⟩,
    ⟨(some 12), none, .ld (.t 11) 1 false⟩,
    ⟨(some 2), none, .mv (.t 12)⟩])
  .rt)))⟩
theorem k14 : cF Tryd.prog Tryd.f14 = some c14 := by kernel_rfl
/-- rundale/op.Put -/
def c15 : Fu := ⟨55, [.t 2, .t 3],
  (.sq (.rg [⟨(some 1), none, .bx 24 (.t 0)⟩,
    ⟨(some 2), none, .mv (.c (.string ⟨#[]⟩))⟩,
    ⟨(some 3), none, .mv (.c (.int .i64 0))⟩])
  (.sq (.sq (.rg [⟨(some 6), none, .ld (.t 1) 6 true⟩,
    ⟨(some 7), none, .ca 10 [(.t 6)]⟩,
    ⟨(some 8), none, .nt (.t 7)⟩])
  (.cd (.t 8)
  (.sq (.rg [⟨(some 2), none, .mv (.c (.string ⟨#[]⟩))⟩,
    ⟨(some 3), none, .mv (.c (.int .i64 10))⟩])
  .rt)
  .sk))
  (.sq (.rg [⟨(some 9), none, .fa (.t 1) 0⟩,
    ⟨(some 10), none, .ld (.t 9) 1 false⟩,
    ⟨(some 11), none, .ca 24 [(.t 10)]⟩,
    ⟨(some 4), none, .al 47 [(.string ⟨#[]⟩), (.int .i64 0), (.bool false), (.bool false), (.bool false)]⟩,
    ⟨none, none, .st (.t 4) (.t 11) 5⟩])
  (.sq (.rg [⟨(some 12), none, .fa (.t 4) 0⟩,
    ⟨(some 13), none, .ld (.t 12) 1 false⟩,
    ⟨(some 14), none, .bs 9 1 [(.string ⟨#[]⟩)] [(0, 1, (.t 13))]⟩,
    ⟨(some 5), none, .mv (.t 14)⟩])
  (.sq (.sq (.rg [⟨(some 15), none, .fa (.t 4) 1⟩,
    ⟨(some 16), none, .ld (.t 15) 1 false⟩,
    ⟨(some 17), none, .ib .neq (.t 16) (.c (.int .i64 0))⟩])
  (.cd (.t 17)
  (.rd [⟨0, 0, [5], ⟨(some 18), none, .mv (.t 5)⟩⟩,
    ⟨1, 0, [1], ⟨(some 19), none, .fa (.t 1) 1⟩⟩,
    ⟨2, 2, [19], ⟨(some 20), none, .ld (.t 19) 1 false⟩⟩,
    ⟨3, 6, [20], ⟨(some 21), none, .ca 27 [(.t 20)]⟩⟩,
    ⟨4, 14, [21], ⟨(some 22), none, .sb .add (.t 21) (.c (.string ⟨#[46]⟩))⟩⟩,
    ⟨5, 0, [1], ⟨(some 23), none, .fa (.t 1) 2⟩⟩,
    ⟨6, 32, [23], ⟨(some 24), none, .ld (.t 23) 1 false⟩⟩,
    ⟨7, 110, [24], ⟨(some 25), none, .ca 27 [(.t 24)]⟩⟩,
    ⟨8, 254, [22, 25], ⟨(some 26), none, .sb .add (.t 22) (.t 25)⟩⟩,
    ⟨9, 510, [26], ⟨(some 27), none, .bs 9 1 [(.string ⟨#[]⟩)] [(0, 1, (.t 26))]⟩⟩,
    ⟨10, 1023, [18, 27], ⟨(some 28), none, .ap 49 9 1 16 [(.string ⟨#[]⟩)] (.t 18) (.t 27)⟩⟩,
    ⟨11, 2047, [28], ⟨(some 5), none, .mv (.t 28)⟩⟩])
  .sk))
  (.sq (.sq (.rg [⟨(some 29), none, .fa (.t 4) 2⟩,
    ⟨(some 30), none, .ld (.t 29) 1 false⟩])
  (.cd (.t 30)
  (.rg [⟨(some 31), none, .mv (.t 5)⟩,
    ⟨(some 32), none, .fa (.t 1) 3⟩,
    ⟨(some 33), none, .ld (.t 32) 1 false⟩,
    ⟨(some 34), none, .ca 27 [(.t 33)]⟩,
    ⟨(some 35), none, .bs 9 1 [(.string ⟨#[]⟩)] [(0, 1, (.t 34))]⟩,
    ⟨(some 36), none, .ap 49 9 1 16 [(.string ⟨#[]⟩)] (.t 31) (.t 35)⟩,
    ⟨(some 5), none, .mv (.t 36)⟩])
  .sk))
  (.sq (.sq (.rg [⟨(some 37), none, .fa (.t 4) 3⟩,
    ⟨(some 38), none, .ld (.t 37) 1 false⟩])
  (.cd (.t 38)
  (.rg [⟨(some 39), none, .mv (.t 5)⟩,
    ⟨(some 40), none, .fa (.t 1) 4⟩,
    ⟨(some 41), none, .ld (.t 40) 1 false⟩,
    ⟨(some 42), none, .ca 28 [(.t 41), (.c (.int .i64 10))]⟩,
    ⟨(some 43), none, .bs 9 1 [(.string ⟨#[]⟩)] [(0, 1, (.t 42))]⟩,
    ⟨(some 44), none, .ap 49 9 1 16 [(.string ⟨#[]⟩)] (.t 39) (.t 43)⟩,
    ⟨(some 5), none, .mv (.t 44)⟩])
  .sk))
  (.sq (.sq (.rg [⟨(some 45), none, .fa (.t 4) 4⟩,
    ⟨(some 46), none, .ld (.t 45) 1 false⟩])
  (.cd (.t 46)
  (.rg [⟨(some 47), none, .mv (.t 5)⟩,
    ⟨(some 48), none, .fa (.t 1) 5⟩,
    ⟨(some 49), none, .ld (.t 48) 1 false⟩,
    ⟨(some 50), none, .ca 28 [(.t 49), (.c (.int .i64 10))]⟩,
    ⟨(some 51), none, .bs 9 1 [(.string ⟨#[]⟩)] [(0, 1, (.t 50))]⟩,
    ⟨(some 52), none, .ap 49 9 1 16 [(.string ⟨#[]⟩)] (.t 47) (.t 51)⟩,
    ⟨(some 5), none, .mv (.t 52)⟩])
  .sk))
  (.sq (.rg [⟨(some 53), none, .mv (.t 5)⟩,
    ⟨(some 54), none, .ca 29 [(.t 53), (.c (.string ⟨#[32]⟩))]⟩,
    ⟨(some 2), none, .mv (.t 54)⟩,
    ⟨(some 3), none, .mv (.c (.int .i64 0))⟩])
  .rt)))))))))⟩
theorem k15 : cF Tryd.prog Tryd.f15 = some c15 := by kernel_rfl
/-- rundale/rundaleref18.Put -/
def c16 : Fu := ⟨50, [.t 2],
  (.sq (.rg [⟨(some 1), none, .bx 24 (.t 0)⟩,
    ⟨(some 2), none, .mv (.c (.string ⟨#[]⟩))⟩])
  (.sq (.rg [⟨(some 4), none, .fa (.t 1) 0⟩,
    ⟨(some 5), none, .ld (.t 4) 1 false⟩,
    ⟨(some 6), none, .ca 14 [(.t 5)]⟩,
    ⟨(some 3), none, .mv (.t 6)⟩])
  (.sq (.sq (.rg [⟨(some 7), none, .fa (.t 1) 0⟩,
    ⟨(some 8), none, .ld (.t 7) 1 false⟩,
    ⟨(some 9), none, .ca 12 [(.t 8)]⟩,
    ⟨(some 10), none, .ib .neq (.t 9) (.c (.int .i64 0))⟩])
  (.cd (.t 10)
  (.rd [⟨0, 0, [3], ⟨(some 11), none, .mv (.t 3)⟩⟩,
    ⟨1, 1, [11], ⟨(some 12), none, .sb .add (.t 11) (.c (.string ⟨#[32]⟩))⟩⟩,
    ⟨2, 0, [1], ⟨(some 13), none, .fa (.t 1) 1⟩⟩,
    ⟨3, 4, [13], ⟨(some 14), none, .ld (.t 13) 1 false⟩⟩,
    ⟨4, 12, [14], ⟨(some 15), none, .ca 30 [(.t 14)]⟩⟩,
    ⟨5, 31, [12, 15], ⟨(some 16), none, .sb .add (.t 12) (.t 15)⟩⟩,
    ⟨6, 63, [16], ⟨(some 17), none, .sb .add (.t 16) (.c (.string ⟨#[46]⟩))⟩⟩,
    ⟨7, 0, [1], ⟨(some 18), none, .fa (.t 1) 2⟩⟩,
    ⟨8, 128, [18], ⟨(some 19), none, .ld (.t 18) 1 false⟩⟩,
    ⟨9, 412, [19], ⟨(some 20), none, .ca 30 [(.t 19)]⟩⟩,
    ⟨10, 1023, [17, 20], ⟨(some 21), none, .sb .add (.t 17) (.t 20)⟩⟩,
    ⟨11, 2047, [21], ⟨(some 3), none, .mv (.t 21)⟩⟩])
  .sk))
  (.sq (.sq (.rg [⟨(some 22), none, .fa (.t 1) 0⟩,
    ⟨(some 23), none, .ld (.t 22) 1 false⟩,
    ⟨(some 24), none, .ca 21 [(.t 23)]⟩])
  (.cd (.t 24)
  (.rg [⟨(some 25), none, .mv (.t 3)⟩,
    ⟨(some 26), none, .sb .add (.t 25) (.c (.string ⟨#[32]⟩))⟩,
    ⟨(some 27), none, .fa (.t 1) 3⟩,
    ⟨(some 28), none, .ld (.t 27) 1 false⟩,
    ⟨(some 29), none, .ca 30 [(.t 28)]⟩,
    ⟨(some 30), none, .sb .add (.t 26) (.t 29)⟩,
    ⟨(some 3), none, .mv (.t 30)⟩])
  .sk))
  (.sq (.sq (.rg [⟨(some 31), none, .fa (.t 1) 0⟩,
    ⟨(some 32), none, .ld (.t 31) 1 false⟩,
    ⟨(some 33), none, .ca 23 [(.t 32)]⟩])
  (.cd (.t 33)
  (.rg [⟨(some 34), none, .mv (.t 3)⟩,
    ⟨(some 35), none, .sb .add (.t 34) (.c (.string ⟨#[32]⟩))⟩,
    ⟨(some 36), none, .fa (.t 1) 4⟩,
    ⟨(some 37), none, .ld (.t 36) 1 false⟩,
    ⟨(some 38), none, .ca 31 [(.t 37)]⟩,
    ⟨(some 39), none, .sb .add (.t 35) (.t 38)⟩,
    ⟨(some 3), none, .mv (.t 39)⟩])
  .sk))
  (.sq (.sq (.rg [⟨(some 40), none, .fa (.t 1) 0⟩,
    ⟨(some 41), none, .ld (.t 40) 1 false⟩,
    ⟨(some 42), none, .ib .eql (.t 41) (.c (.int .i64 9))⟩])
  (.cd (.t 42)
  (.rg [⟨(some 43), none, .mv (.t 3)⟩,
    ⟨(some 44), none, .sb .add (.t 43) (.c (.string ⟨#[32]⟩))⟩,
    ⟨(some 45), none, .fa (.t 1) 5⟩,
    ⟨(some 46), none, .ld (.t 45) 1 false⟩,
    ⟨(some 47), none, .ca 31 [(.t 46)]⟩,
    ⟨(some 48), none, .sb .add (.t 44) (.t 47)⟩,
    ⟨(some 3), none, .mv (.t 48)⟩])
  .sk))
  (.sq (.rg [⟨(some 49), none, .mv (.t 3)⟩,
    ⟨(some 2), none, .mv (.t 49)⟩])
  .rt)))))))⟩
theorem k16 : cF Tryd.prog Tryd.f16 = some c16 := by kernel_rfl
/-- rundale/op.Get -/
def c17 : Fu := ⟨98, [.c 2 6 true, .t 3],
  (.sq (.rg [⟨(some 2), none, .al 24 [(.int .i64 0), (.int .i64 0), (.int .i64 0), (.int .i64 0), (.int .u64 0), (.int .u64 0)]⟩,
    ⟨(some 3), none, .mv (.c (.int .i64 0))⟩])
  (.sq (.rg [⟨(some 14), none, .mv (.t 0)⟩,
    ⟨(some 15), none, .ca 32 [(.t 14), (.c (.string ⟨#[32]⟩))]⟩,
    ⟨(some 4), none, .al 49 [(.slice none 0 0)]⟩,
    ⟨none, none, .st (.t 4) (.t 15) 1⟩])
  (.sq (.rg [⟨(some 16), none, .bd [(.int .i64 0), (.int .i64 0), (.int .i64 0), (.int .i64 0), (.int .u64 0), (.int .u64 0)] []⟩,
    ⟨(some 5), none, .al 24 [(.int .i64 0), (.int .i64 0), (.int .i64 0), (.int .i64 0), (.int .u64 0), (.int .u64 0)]⟩,
    ⟨none, none, .st (.t 5) (.t 16) 6⟩])
  (.sq (.sq (.rg [⟨(some 6), none, .mv (.c (.int .i64 1))⟩])
  (.bl 0
  (.lp
  (.sq (.sq (.rg [⟨(some 17), none, .mv (.t 6)⟩,
    ⟨(some 18), none, .ib .leq (.t 17) (.c (.int .i64 12))⟩])
  (.cd (.t 18)
  .sk
  (.ex 0)))
  (.sq (.bl 1
  (.sq (.rd [⟨0, 0, [6], ⟨(some 21), none, .mv (.t 6)⟩⟩,
    ⟨1, 1, [21], ⟨(some 22), none, .ca 13 [(.t 21)]⟩⟩,
    ⟨2, 0, [4], ⟨(some 23), none, .ld (.t 4) 1 false⟩⟩,
    ⟨3, 4, [23], ⟨(some 24), none, .ia (.t 23) (.c (.int .i64 0)) 1⟩⟩,
    ⟨4, 12, [24], ⟨(some 25), none, .ld (.t 24) 1 false⟩⟩,
    ⟨5, 31, [22, 25], ⟨(some 26), none, .sb .eql (.t 22) (.t 25)⟩⟩])
  (.cd (.t 26)
  (.rg [⟨(some 27), none, .mv (.t 6)⟩,
    ⟨(some 28), none, .fa (.t 5) 0⟩,
    ⟨none, none, .st (.t 28) (.t 27) 1⟩])
  .sk)))
  (.rg [⟨(some 19), none, .mv (.t 6)⟩,
    ⟨(some 20), none, .ib .add (.t 19) (.c (.int .i64 1))⟩,
    ⟨(some 6), none, .mv (.t 20)⟩]))))))
  (.sq (.rg [⟨(some 29), none, .fa (.t 5) 0⟩,
    ⟨(some 30), none, .ld (.t 29) 1 false⟩,
    ⟨(some 31), none, .ca 24 [(.t 30)]⟩,
    ⟨(some 7), none, .al 47 [(.string ⟨#[]⟩), (.int .i64 0), (.bool false), (.bool false), (.bool false)]⟩,
    ⟨none, none, .st (.t 7) (.t 31) 5⟩])
  (.sq (.rg [⟨(some 32), none, .ld (.t 4) 1 false⟩,
    ⟨(some 33), none, .sl 1 (.t 32) (some (.c (.int .i64 1))) none none⟩,
    ⟨none, none, .st (.t 4) (.t 33) 1⟩])
  (.sq (.rg [⟨(some 34), none, .mf (.func 33) [] [(.t 4)]⟩,
    ⟨(some 8), none, .mv (.t 34)⟩])
  (.sq (.rg [⟨(some 36), none, .mv (.t 8)⟩,
    ⟨(some 37), none, .fa (.t 7) 1⟩,
    ⟨(some 38), none, .ld (.t 37) 1 false⟩,
    ⟨(some 39), none, .ib .neq (.t 38) (.c (.int .i64 0))⟩,
    ⟨(some 40), none, .cl (.t 36) [(.t 39)]⟩,
    ⟨(some 41), none, .ca 34 [(.t 40), (.c (.string ⟨#[46]⟩))]⟩,
    ⟨(some 35), none, .mv (.t 41)⟩,
    ⟨(some 42), none, .ex (.t 35) 0⟩,
    ⟨(some 43), none, .ex (.t 35) 1⟩,
    ⟨(some 44), none, .ex (.t 35) 2⟩,
    ⟨(some 9), none, .mv (.t 42)⟩,
    ⟨(some 10), none, .mv (.t 43)⟩,
    ⟨(some 11), none, .mv (.t 44)⟩])
  (.sq (.rg [⟨(some 46), none, .mv (.t 9)⟩,
    ⟨(some 47), none, .ca 35 [(.t 46)]⟩,
    ⟨(some 45), none, .mv (.t 47)⟩,
    ⟨(some 48), none, .ex (.t 45) 0⟩,
    ⟨(some 49), none, .ex (.t 45) 1⟩,
    ⟨(some 50), none, .fa (.t 5) 1⟩,
    ⟨none, none, .st (.t 50) (.t 48) 1⟩])
  (.sq (.rg [⟨(some 52), none, .mv (.t 10)⟩,
    ⟨(some 53), none, .ca 35 [(.t 52)]⟩,
    ⟨(some 51), none, .mv (.t 53)⟩,
    ⟨(some 54), none, .ex (.t 51) 0⟩,
    ⟨(some 55), none, .ex (.t 51) 1⟩,
    ⟨(some 56), none, .fa (.t 5) 2⟩,
    ⟨none, none, .st (.t 56) (.t 54) 1⟩])
  (.sq (.rg [⟨(some 58), none, .mv (.t 8)⟩,
    ⟨(some 59), none, .fa (.t 7) 2⟩,
    ⟨(some 60), none, .ld (.t 59) 1 false⟩,
    ⟨(some 61), none, .cl (.t 58) [(.t 60)]⟩,
    ⟨(some 62), none, .ca 35 [(.t 61)]⟩,
    ⟨(some 57), none, .mv (.t 62)⟩,
    ⟨(some 63), none, .ex (.t 57) 0⟩,
    ⟨(some 64), none, .ex (.t 57) 1⟩,
    ⟨(some 65), none, .fa (.t 5) 3⟩,
    ⟨none, none, .st (.t 65) (.t 63) 1⟩])
  (.sq (.rg [⟨(some 67), none, .mv (.t 8)⟩,
    ⟨(some 68), none, .fa (.t 7) 3⟩,
    ⟨(some 69), none, .ld (.t 68) 1 false⟩,
    ⟨(some 70), none, .cl (.t 67) [(.t 69)]⟩,
    ⟨(some 71), none, .ca 36 [(.t 70), (.c (.int .i64 10)), (.c (.int .i64 64))]⟩,
    ⟨(some 66), none, .mv (.t 71)⟩,
    ⟨(some 72), none, .ex (.t 66) 0⟩,
    ⟨(some 73), none, .ex (.t 66) 1⟩,
    ⟨(some 74), none, .fa (.t 5) 4⟩,
    ⟨none, none, .st (.t 74) (.t 72) 1⟩])
  (.sq (.rg [⟨(some 76), none, .mv (.t 8)⟩,
    ⟨(some 77), none, .fa (.t 7) 4⟩,
    ⟨(some 78), none, .ld (.t 77) 1 false⟩,
    ⟨(some 79), none, .cl (.t 76) [(.t 78)]⟩,
    ⟨(some 80), none, .ca 36 [(.t 79), (.c (.int .i64 10)), (.c (.int .i64 64))]⟩,
    ⟨(some 75), none, .mv (.t 80)⟩,
    ⟨(some 81), none, .ex (.t 75) 0⟩,
    ⟨(some 82), none, .ex (.t 75) 1⟩,
    ⟨(some 83), none, .fa (.t 5) 5⟩,
    ⟨none, none, .st (.t 83) (.t 81) 1⟩])
  (.sq (.sq (.rg [⟨(some 85), none, .ld (.t 5) 6 true⟩,
    ⟨(some 86), none, .ca 15 [(.t 85)]⟩,
    ⟨(some 84), none, .mv (.t 86)⟩,
    ⟨(some 87), none, .ex (.t 84) 0⟩,
    ⟨(some 88), none, .ex (.t 84) 1⟩,
    ⟨(some 12), none, .mv (.t 87)⟩,
    ⟨(some 13), none, .mv (.t 88)⟩])
  (.sq (.rg [⟨(some 89), none, .mv (.t 13)⟩,
    ⟨(some 90), none, .ib .neq (.t 89) (.c (.int .i64 0))⟩,
    ⟨(some 91), none, .mv (.t 90)⟩,
    ⟨(some 92), (some (91, false)), .mv (.t 12)⟩,
    ⟨(some 93), (some (91, false)), .mv (.t 0)⟩,
    ⟨(some 94), (some (91, false)), .sb .neq (.t 92) (.t 93)⟩,
    ⟨(some 95), none, .pk (.t 91) (.c (.bool true)) (.t 94)⟩])
  (.cd (.t 95)
  (.sq (.rg [⟨(some 96), none, .bd [(.int .i64 0), (.int .i64 0), (.int .i64 0), (.int .i64 0), (.int .u64 0), (.int .u64 0)] []⟩,
    ⟨none, none, .st (.t 2) (.t 96) 6⟩,
    ⟨(some 3), none, .mv (.c (.int .i64 10))⟩])
  .rt)
  .sk)))
  (.sq (.rg [⟨(some 97), none, .ld (.t 5) 6 true⟩,
    ⟨none, none, .st (.t 2) (.t 97) 6⟩,
    ⟨(some 3), none, .mv (.c (.int .i64 0))⟩])
  .rt)))))))))))))))⟩
theorem k17 : cF Tryd.prog Tryd.f17 = some c17 := by kernel_rfl
/-- rundale/rundaleref18.Get -/
def c18 : Fu := ⟨191, [.c 2 6 true, .t 3],
  (.sq (.rg [⟨(some 2), none, .al 24 [(.int .i64 0), (.int .i64 0), (.int .i64 0), (.int .i64 0), (.int .u64 0), (.int .u64 0)]⟩,
    ⟨(some 3), none, .mv (.c (.bool false))⟩])
  (.sq (.rg [⟨(some 19), none, .mv (.t 0)⟩,
    ⟨(some 20), none, .ca 37 [(.t 19)]⟩,
    ⟨(some 4), none, .mv (.t 20)⟩])
  (.sq (.rg [⟨(some 5), none, .al 24 [(.int .i64 0), (.int .i64 0), (.int .i64 0), (.int .i64 0), (.int .u64 0), (.int .u64 0)]⟩])
  (.sq (.sq (.rg [⟨(some 6), none, .mv (.c (.int .i64 1))⟩])
  (.bl 0
  (.lp
  (.sq (.sq (.rg [⟨(some 21), none, .mv (.t 6)⟩,
    ⟨(some 22), none, .ib .leq (.t 21) (.c (.int .i64 12))⟩])
  (.cd (.t 22)
  .sk
  (.ex 0)))
  (.sq (.bl 1
  (.sq (.rd [⟨0, 0, [], ⟨(some 25), none, .ca 26 []⟩⟩,
    ⟨1, 0, [6], ⟨(some 26), none, .mv (.t 6)⟩⟩,
    ⟨2, 3, [25, 26], ⟨(some 27), none, .ia (.t 25) (.t 26) 1⟩⟩,
    ⟨3, 7, [27], ⟨(some 28), none, .ld (.t 27) 1 false⟩⟩,
    ⟨4, 0, [4], ⟨(some 29), none, .mv (.t 4)⟩⟩,
    ⟨5, 16, [29], ⟨(some 30), none, .ia (.t 29) (.c (.int .i64 0)) 1⟩⟩,
    ⟨6, 48, [30], ⟨(some 31), none, .ld (.t 30) 1 false⟩⟩,
    ⟨7, 127, [28, 31], ⟨(some 32), none, .sb .eql (.t 28) (.t 31)⟩⟩])
  (.cd (.t 32)
  (.rg [⟨(some 33), none, .mv (.t 6)⟩,
    ⟨(some 34), none, .fa (.t 5) 0⟩,
    ⟨none, none, .st (.t 34) (.t 33) 1⟩])
  .sk)))
  (.rg [⟨(some 23), none, .mv (.t 6)⟩,
    ⟨(some 24), none, .ib .add (.t 23) (.c (.int .i64 1))⟩,
    ⟨(some 6), none, .mv (.t 24)⟩]))))))
  (.sq (.sq (.rg [⟨(some 35), none, .fa (.t 5) 0⟩,
    ⟨(some 36), none, .ld (.t 35) 1 false⟩,
    ⟨(some 37), none, .ib .eql (.t 36) (.c (.int .i64 0))⟩])
  (.cd (.t 37)
  (.sq (.rg [⟨(some 38), none, .bd [(.int .i64 0), (.int .i64 0), (.int .i64 0), (.int .i64 0), (.int .u64 0), (.int .u64 0)] []⟩,
    ⟨none, none, .st (.t 2) (.t 38) 6⟩,
    ⟨(some 3), none, .mv (.c (.bool false))⟩])
  .rt)
  .sk))
  (.sq (.rg [⟨(some 7), none, .mv (.c (.int .i64 1))⟩])
  (.sq (.sq (.rg [⟨(some 39), none, .fa (.t 5) 0⟩,
    ⟨(some 40), none, .ld (.t 39) 1 false⟩,
    ⟨(some 41), none, .ca 12 [(.t 40)]⟩,
    ⟨(some 42), none, .ib .neq (.t 41) (.c (.int .i64 0))⟩])
  (.cd (.t 42)
  (.sq (.sq (.rg [⟨(some 43), none, .mv (.t 7)⟩,
    ⟨(some 44), none, .mv (.t 4)⟩,
    ⟨(some 45), none, .len (.t 44)⟩,
    ⟨(some 46), none, .ib .geq (.t 43) (.t 45)⟩])
  (.cd (.t 46)
  (.sq (.rg [⟨(some 47), none, .bd [(.int .i64 0), (.int .i64 0), (.int .i64 0), (.int .i64 0), (.int .u64 0), (.int .u64 0)] []⟩,
    ⟨none, none, .st (.t 2) (.t 47) 6⟩,
    ⟨(some 3), none, .mv (.c (.bool false))⟩])
  .rt)
  .sk))
  (.sq (.rg [⟨(some 49), none, .mv (.t 4)⟩,
    ⟨(some 50), none, .mv (.t 7)⟩,
    ⟨(some 51), none, .ia (.t 49) (.t 50) 1⟩,
    ⟨(some 52), none, .ld (.t 51) 1 false⟩,
    ⟨(some 53), none, .ca 38 [(.t 52), (.c (.int .i64 0))]⟩,
    ⟨(some 48), none, .mv (.t 53)⟩,
    ⟨(some 54), none, .ex (.t 48) 0⟩,
    ⟨(some 55), none, .ex (.t 48) 1⟩,
    ⟨(some 56), none, .ex (.t 48) 2⟩,
    ⟨(some 8), none, .mv (.t 54)⟩,
    ⟨(some 9), none, .mv (.t 55)⟩,
    ⟨(some 10), none, .mv (.t 56)⟩])
  (.sq (.sq (.rg [⟨(some 57), none, .mv (.t 10)⟩,
    ⟨(some 58), none, .nt (.t 57)⟩,
    ⟨(some 59), none, .mv (.t 58)⟩,
    ⟨(some 60), (some (59, false)), .mv (.t 9)⟩,
    ⟨(some 61), (some (59, false)), .mv (.t 4)⟩,
    ⟨(some 62), (some (59, false)), .mv (.t 7)⟩,
    ⟨(some 63), (some (59, false)), .ia (.t 61) (.t 62) 1⟩,
    ⟨(some 64), (some (59, false)), .ld (.t 63) 1 false⟩,
    ⟨(some 65), (some (59, false)), .lens (.t 64)⟩,
    ⟨(some 66), (some (59, false)), .ib .geq (.t 60) (.t 65)⟩,
    ⟨(some 67), none, .pk (.t 59) (.c (.bool true)) (.t 66)⟩,
    ⟨(some 68), none, .mv (.t 67)⟩,
    ⟨(some 69), (some (68, false)), .mv (.t 4)⟩,
    ⟨(some 70), (some (68, false)), .mv (.t 7)⟩,
    ⟨(some 71), (some (68, false)), .ia (.t 69) (.t 70) 1⟩,
    ⟨(some 72), (some (68, false)), .ld (.t 71) 1 false⟩,
    ⟨(some 73), (some (68, false)), .mv (.t 9)⟩,
    ⟨(some 74), (some (68, false)), .is (.t 72) (.t 73)⟩,
    ⟨(some 75), (some (68, false)), .ib .neq (.t 74) (.c (.int .u8 46))⟩,
    ⟨(some 76), none, .pk (.t 68) (.c (.bool true)) (.t 75)⟩,
    ⟨(some 77), none, .mv (.t 76)⟩,
    ⟨(some 78), (some (77, false)), .mv (.t 8)⟩,
    ⟨(some 79), (some (77, false)), .ib .geq (.t 78) (.c (.int .u64 64))⟩,
    ⟨(some 80), none, .pk (.t 77) (.c (.bool true)) (.t 79)⟩])
  (.cd (.t 80)
  (.sq (.rg [⟨(some 81), none, .bd [(.int .i64 0), (.int .i64 0), (.int .i64 0), (.int .i64 0), (.int .u64 0), (.int .u64 0)] []⟩,
    ⟨none, none, .st (.t 2) (.t 81) 6⟩,
    ⟨(some 3), none, .mv (.c (.bool false))⟩])
  .rt)
  .sk))
  (.sq (.rg [⟨(some 83), none, .mv (.t 4)⟩,
    ⟨(some 84), none, .mv (.t 7)⟩,
    ⟨(some 85), none, .ia (.t 83) (.t 84) 1⟩,
    ⟨(some 86), none, .ld (.t 85) 1 false⟩,
    ⟨(some 87), none, .mv (.t 9)⟩,
    ⟨(some 88), none, .ib .add (.t 87) (.c (.int .i64 1))⟩,
    ⟨(some 89), none, .ca 38 [(.t 86), (.t 88)]⟩,
    ⟨(some 82), none, .mv (.t 89)⟩,
    ⟨(some 90), none, .ex (.t 82) 0⟩,
    ⟨(some 91), none, .ex (.t 82) 1⟩,
    ⟨(some 92), none, .ex (.t 82) 2⟩,
    ⟨(some 11), none, .mv (.t 90)⟩,
    ⟨(some 12), none, .mv (.t 91)⟩,
    ⟨(some 13), none, .mv (.t 92)⟩])
  (.sq (.sq (.rg [⟨(some 93), none, .mv (.t 13)⟩,
    ⟨(some 94), none, .nt (.t 93)⟩,
    ⟨(some 95), none, .mv (.t 94)⟩,
    ⟨(some 96), (some (95, false)), .mv (.t 12)⟩,
    ⟨(some 97), (some (95, false)), .mv (.t 4)⟩,
    ⟨(some 98), (some (95, false)), .mv (.t 7)⟩,
    ⟨(some 99), (some (95, false)), .ia (.t 97) (.t 98) 1⟩,
    ⟨(some 100), (some (95, false)), .ld (.t 99) 1 false⟩,
    ⟨(some 101), (some (95, false)), .lens (.t 100)⟩,
    ⟨(some 102), (some (95, false)), .ib .neq (.t 96) (.t 101)⟩,
    ⟨(some 103), none, .pk (.t 95) (.c (.bool true)) (.t 102)⟩,
    ⟨(some 104), none, .mv (.t 103)⟩,
    ⟨(some 105), (some (104, false)), .mv (.t 11)⟩,
    ⟨(some 106), (some (104, false)), .ib .geq (.t 105) (.c (.int .u64 1000))⟩,
    ⟨(some 107), none, .pk (.t 104) (.c (.bool true)) (.t 106)⟩])
  (.cd (.t 107)
  (.sq (.rg [⟨(some 108), none, .bd [(.int .i64 0), (.int .i64 0), (.int .i64 0), (.int .i64 0), (.int .u64 0), (.int .u64 0)] []⟩,
    ⟨none, none, .st (.t 2) (.t 108) 6⟩,
    ⟨(some 3), none, .mv (.c (.bool false))⟩])
  .rt)
  .sk))
  (.sq (.rg [⟨(some 109), none, .mv (.t 8)⟩,
    ⟨(some 110), none, .cv .i64 (.t 109)⟩,
    ⟨(some 111), none, .mv (.t 11)⟩,
    ⟨(some 112), none, .cv .i64 (.t 111)⟩,
    ⟨(some 113), none, .fa (.t 5) 1⟩,
    ⟨none, none, .st (.t 113) (.t 110) 1⟩,
    ⟨(some 114), none, .fa (.t 5) 2⟩,
    ⟨none, none, .st (.t 114) (.t 112) 1⟩])
  (.rg [⟨(some 115), none, .mv (.t 7)⟩,
    ⟨(some 116), none, .ib .add (.t 115) (.c (.int .i64 1))⟩,
    ⟨(some 7), none, .mv (.t 116)⟩])))))))
  .sk))
  (.sq (.rg [⟨(some 14), none, .al 67 [(.int .u64 0), (.int .u64 0), (.int .u64 0)]⟩])
  (.sq (.rd [⟨0, 0, [5], ⟨(some 117), none, .fa (.t 5) 0⟩⟩,
    ⟨1, 1, [117], ⟨(some 118), none, .ld (.t 117) 1 false⟩⟩,
    ⟨2, 3, [118], ⟨(some 119), none, .ca 21 [(.t 118)]⟩⟩,
    ⟨3, 0, [5], ⟨(some 120), none, .fa (.t 5) 0⟩⟩,
    ⟨4, 8, [120], ⟨(some 121), none, .ld (.t 120) 1 false⟩⟩,
    ⟨5, 31, [121], ⟨(some 122), none, .ca 23 [(.t 121)]⟩⟩,
    ⟨6, 0, [5], ⟨(some 123), none, .fa (.t 5) 0⟩⟩,
    ⟨7, 64, [123], ⟨(some 124), none, .ld (.t 123) 1 false⟩⟩,
    ⟨8, 192, [124], ⟨(some 125), none, .ib .eql (.t 124) (.c (.int .i64 9))⟩⟩,
    ⟨9, 511, [119, 122, 125], ⟨(some 126), none, .bd [(.bool false), (.bool false), (.bool false)] [(0, 1, (.t 119)), (1, 1, (.t 122)), (2, 1, (.t 125))]⟩⟩,
    ⟨10, 0, [], ⟨(some 15), none, .al 68 [(.bool false), (.bool false), (.bool false)]⟩⟩,
    ⟨11, 2047, [15, 126], ⟨none, none, .st (.t 15) (.t 126) 3⟩⟩])
  (.sq (.sq (.rg [⟨(some 16), none, .mv (.c (.int .i64 0))⟩])
  (.bl 2
  (.lp
  (.sq (.sq (.rg [⟨(some 127), none, .mv (.t 16)⟩,
    ⟨(some 128), none, .ib .lss (.t 127) (.c (.int .i64 3))⟩])
  (.cd (.t 128)
  .sk
  (.ex 2)))
  (.sq (.bl 3
  (.sq (.sq (.rg [⟨(some 131), none, .mv (.t 16)⟩,
    ⟨(some 132), none, .iaa (.t 15) (.t 131) 3 1⟩,
    ⟨(some 133), none, .ld (.t 132) 1 false⟩,
    ⟨(some 134), none, .nt (.t 133)⟩])
  (.cd (.t 134)
  (.ex 3)
  .sk))
  (.sq (.sq (.rg [⟨(some 135), none, .mv (.t 7)⟩,
    ⟨(some 136), none, .mv (.t 4)⟩,
    ⟨(some 137), none, .len (.t 136)⟩,
    ⟨(some 138), none, .ib .geq (.t 135) (.t 137)⟩])
  (.cd (.t 138)
  (.sq (.rg [⟨(some 139), none, .bd [(.int .i64 0), (.int .i64 0), (.int .i64 0), (.int .i64 0), (.int .u64 0), (.int .u64 0)] []⟩,
    ⟨none, none, .st (.t 2) (.t 139) 6⟩,
    ⟨(some 3), none, .mv (.c (.bool false))⟩])
  .rt)
  .sk))
  (.sq (.rg [⟨(some 141), none, .mv (.t 4)⟩,
    ⟨(some 142), none, .mv (.t 7)⟩,
    ⟨(some 143), none, .ia (.t 141) (.t 142) 1⟩,
    ⟨(some 144), none, .ld (.t 143) 1 false⟩,
    ⟨(some 145), none, .ca 39 [(.t 144)]⟩,
    ⟨(some 140), none, .mv (.t 145)⟩,
    ⟨(some 146), none, .ex (.t 140) 0⟩,
    ⟨(some 147), none, .ex (.t 140) 1⟩,
    ⟨(some 17), none, .mv (.t 146)⟩,
    ⟨(some 18), none, .mv (.t 147)⟩])
  (.sq (.sq (.rg [⟨(some 148), none, .mv (.t 18)⟩,
    ⟨(some 149), none, .nt (.t 148)⟩,
    ⟨(some 150), none, .mv (.t 149)⟩,
    ⟨(some 151), (some (150, false)), .mv (.t 16)⟩,
    ⟨(some 152), (some (150, false)), .ib .eql (.t 151) (.c (.int .i64 0))⟩,
    ⟨(some 153), (some (150, false)), .mv (.t 152)⟩,
    ⟨(some 154), (some (153, true)), .mv (.t 17)⟩,
    ⟨(some 155), (some (153, true)), .ib .gtr (.t 154) (.c (.int .u64 65535))⟩,
    ⟨(some 156), (some (150, false)), .pk (.t 153) (.t 155) (.c (.bool false))⟩,
    ⟨(some 157), none, .pk (.t 150) (.c (.bool true)) (.t 156)⟩])
  (.cd (.t 157)
  (.sq (.rg [⟨(some 158), none, .bd [(.int .i64 0), (.int .i64 0), (.int .i64 0), (.int .i64 0), (.int .u64 0), (.int .u64 0)] []⟩,
    ⟨none, none, .st (.t 2) (.t 158) 6⟩,
    ⟨(some 3), none, .mv (.c (.bool false))⟩])
  .rt)
  .sk))
  (.sq (.rg [⟨(some 159), none, .mv (.t 16)⟩,
    ⟨(some 160), none, .mv (.t 17)⟩,
    ⟨(some 161), none, .iaa (.t 14) (.t 159) 3 1⟩,
    ⟨none, none, .st (.t 161) (.t 160) 1⟩])
  (.rg [⟨(some 162), none, .mv (.t 7)⟩,
    ⟨(some 163), none, .ib .add (.t 162) (.c (.int .i64 1))⟩,
    ⟨(some 7), none, .mv (.t 163)⟩])))))))
  (.rg [⟨(some 129), none, .mv (.t 16)⟩,
    ⟨(some 130), none, .ib .add (.t 129) (.c (.int .i64 1))⟩,
    ⟨(some 16), none, .mv (.t 130)⟩]))))))
  (.sq (.rd [⟨0, 0, [14], ⟨(some 164), none, .iaa (.t 14) (.c (.int .i64 0)) 3 1⟩⟩,
    ⟨1, 1, [164], ⟨(some 165), none, .ld (.t 164) 1 false⟩⟩,
    ⟨2, 3, [165], ⟨(some 166), none, .cv .i64 (.t 165)⟩⟩,
    ⟨3, 0, [14], ⟨(some 167), none, .iaa (.t 14) (.c (.int .i64 1)) 3 1⟩⟩,
    ⟨4, 8, [167], ⟨(some 168), none, .ld (.t 167) 1 false⟩⟩,
    ⟨5, 0, [14], ⟨(some 169), none, .iaa (.t 14) (.c (.int .i64 2)) 3 1⟩⟩,
    ⟨6, 32, [169], ⟨(some 170), none, .ld (.t 169) 1 false⟩⟩,
    ⟨7, 7, [5], ⟨(some 171), none, .fa (.t 5) 3⟩⟩,
    ⟨8, 135, [171, 166], ⟨none, none, .st (.t 171) (.t 166) 1⟩⟩,
    ⟨9, 415, [5], ⟨(some 172), none, .fa (.t 5) 4⟩⟩,
    ⟨10, 927, [172, 168], ⟨none, none, .st (.t 172) (.t 168) 1⟩⟩,
    ⟨11, 2047, [5], ⟨(some 173), none, .fa (.t 5) 5⟩⟩,
    ⟨12, 4095, [173, 170], ⟨none, none, .st (.t 173) (.t 170) 1⟩⟩])
  (.sq (.sq (.rg [⟨(some 174), none, .mv (.t 7)⟩,
    ⟨(some 175), none, .mv (.t 4)⟩,
    ⟨(some 176), none, .len (.t 175)⟩,
    ⟨(some 177), none, .ib .neq (.t 174) (.t 176)⟩,
    ⟨(some 178), none, .mv (.t 177)⟩,
    ⟨(some 179), (some (178, false)), .ld (.t 5) 6 true⟩,
    ⟨(some 180), (some (178, false)), .ca 9 [(.t 179)]⟩,
    ⟨(some 181), (some (178, false)), .nt (.t 180)⟩,
    ⟨(some 182), none, .pk (.t 178) (.c (.bool true)) (.t 181)⟩,
    ⟨(some 183), none, .mv (.t 182)⟩,
    ⟨(some 184), (some (183, false)), .ld (.t 5) 6 true⟩,
    ⟨(some 185), (some (183, false)), .ca 16 [(.t 184)]⟩,
    ⟨(some 186), (some (183, false)), .mv (.t 0)⟩,
    ⟨(some 187), (some (183, false)), .sb .neq (.t 185) (.t 186)⟩,
    ⟨(some 188), none, .pk (.t 183) (.c (.bool true)) (.t 187)⟩])
  (.cd (.t 188)
  (.sq (.rg [⟨(some 189), none, .bd [(.int .i64 0), (.int .i64 0), (.int .i64 0), (.int .i64 0), (.int .u64 0), (.int .u64 0)] []⟩,
    ⟨none, none, .st (.t 2) (.t 189) 6⟩,
    ⟨(some 3), none, .mv (.c (.bool false))⟩])
  .rt)
  .sk))
  (.sq (.rg [⟨(some 190), none, .ld (.t 5) 6 true⟩,
    ⟨none, none, .st (.t 2) (.t 190) 6⟩,
    ⟨(some 3), none, .mv (.c (.bool true))⟩])
  .rt)))))))))))))⟩
theorem k18 : cF Tryd.prog Tryd.f18 = some c18 := by kernel_rfl
/-- rundale/rundaleref18.HasN -/
def c21 : Fu := ⟨17, [.t 2],
  (.sq (.rg [⟨(some 2), none, .mv (.c (.bool false))⟩])
  (.sq (.rg [⟨(some 3), none, .mv (.t 0)⟩,
    ⟨(some 4), none, .ib .eql (.t 3) (.c (.int .i64 1))⟩,
    ⟨(some 5), none, .mv (.t 4)⟩,
    ⟨(some 6), (some (5, false)), .mv (.t 0)⟩,
    ⟨(some 7), (some (5, false)), .ib .eql (.t 6) (.c (.int .i64 2))⟩,
    ⟨(some 8), none, .pk (.t 5) (.c (.bool true)) (.t 7)⟩,
    ⟨(some 9), none, .mv (.t 8)⟩,
    ⟨(some 10), (some (9, false)), .mv (.t 0)⟩,
    ⟨(some 11), (some (9, false)), .ib .geq (.t 10) (.c (.int .i64 6))⟩,
    ⟨(some 12), (some (9, false)), .mv (.t 11)⟩,
    ⟨(some 13), (some (12, true)), .mv (.t 0)⟩,
    ⟨(some 14), (some (12, true)), .ib .leq (.t 13) (.c (.int .i64 9))⟩,
    ⟨(some 15), (some (9, false)), .pk (.t 12) (.t 14) (.c (.bool false))⟩,
    ⟨(some 16), none, .pk (.t 9) (.c (.bool true)) (.t 15)⟩,
    ⟨(some 2), none, .mv (.t 16)⟩])
  .rt))⟩
theorem k21 : cF Tryd.prog Tryd.f21 = some c21 := by kernel_rfl
/-- rundale/rundaleref18.in -/
def c22 : Fu := ⟨15, [.t 6],
  (.sq (.rg [⟨(some 6), none, .mv (.c (.bool false))⟩])
  (.sq (.rg [⟨(some 7), none, .mv (.t 0)⟩,
    ⟨(some 8), none, .mv (.t 1)⟩,
    ⟨(some 9), none, .ib .geq (.t 7) (.t 8)⟩,
    ⟨(some 10), none, .mv (.t 9)⟩,
    ⟨(some 11), (some (10, true)), .mv (.t 0)⟩,
    ⟨(some 12), (some (10, true)), .mv (.t 2)⟩,
    ⟨(some 13), (some (10, true)), .ib .leq (.t 11) (.t 12)⟩,
    ⟨(some 14), none, .pk (.t 10) (.t 13) (.c (.bool false))⟩,
    ⟨(some 6), none, .mv (.t 14)⟩])
  .rt))⟩
theorem k22 : cF Tryd.prog Tryd.f22 = some c22 := by kernel_rfl
/-- rundale/rundaleref18.HasV -/
def c23 : Fu := ⟨9, [.t 2],
  (.sq (.rg [⟨(some 2), none, .mv (.c (.bool false))⟩])
  (.sq (.rg [⟨(some 3), none, .mv (.t 0)⟩,
    ⟨(some 4), none, .ib .geq (.t 3) (.c (.int .i64 7))⟩,
    ⟨(some 5), none, .mv (.t 4)⟩,
    ⟨(some 6), (some (5, true)), .mv (.t 0)⟩,
    ⟨(some 7), (some (5, true)), .ib .leq (.t 6) (.c (.int .i64 9))⟩,
    ⟨(some 8), none, .pk (.t 5) (.t 7) (.c (.bool false))⟩,
    ⟨(some 2), none, .mv (.t 8)⟩])
  .rt))⟩
theorem k23 : cF Tryd.prog Tryd.f23 = some c23 := by kernel_rfl
/-- rundale/op.formOf -/
def c24 : Fu := ⟨33, [.c 2 5 true],
  (.sq (.rg [⟨(some 2), none, .al 47 [(.string ⟨#[]⟩), (.int .i64 0), (.bool false), (.bool false), (.bool false)]⟩])
  (.sq (.rg [⟨(some 4), none, .bd [(.string ⟨#[]⟩), (.int .i64 0), (.bool false), (.bool false), (.bool false)] []⟩,
    ⟨(some 5), none, .bd [(.string ⟨#[]⟩), (.int .i64 0), (.bool false), (.bool false), (.bool false)] [(0, 1, (.c (.string ⟨#[99, 114, 101, 97, 116, 101]⟩))), (2, 1, (.c (.bool true)))]⟩,
    ⟨(some 6), none, .bd [(.string ⟨#[]⟩), (.int .i64 0), (.bool false), (.bool false), (.bool false)] [(0, 1, (.c (.string ⟨#[97, 108, 108, 111, 99]⟩))), (1, 1, (.c (.int .i64 1))), (2, 1, (.c (.bool true)))]⟩,
    ⟨(some 7), none, .bd [(.string ⟨#[]⟩), (.int .i64 0), (.bool false), (.bool false), (.bool false)] [(0, 1, (.c (.string ⟨#[112, 105, 110]⟩)))]⟩,
    ⟨(some 8), none, .bd [(.string ⟨#[]⟩), (.int .i64 0), (.bool false), (.bool false), (.bool false)] [(0, 1, (.c (.string ⟨#[117, 110, 112, 105, 110]⟩)))]⟩,
    ⟨(some 9), none, .bd [(.string ⟨#[]⟩), (.int .i64 0), (.bool false), (.bool false), (.bool false)] [(0, 1, (.c (.string ⟨#[104, 111, 108, 100]⟩))), (1, 1, (.c (.int .i64 3)))]⟩,
    ⟨(some 10), none, .bd [(.string ⟨#[]⟩), (.int .i64 0), (.bool false), (.bool false), (.bool false)] [(0, 1, (.c (.string ⟨#[108, 111, 97, 100]⟩))), (1, 1, (.c (.int .i64 2))), (2, 1, (.c (.bool true)))]⟩,
    ⟨(some 11), none, .bd [(.string ⟨#[]⟩), (.int .i64 0), (.bool false), (.bool false), (.bool false)] [(0, 1, (.c (.string ⟨#[115, 116, 111, 114, 101]⟩))), (1, 1, (.c (.int .i64 2))), (2, 1, (.c (.bool true))), (3, 1, (.c (.bool true)))]⟩,
    ⟨(some 12), none, .bd [(.string ⟨#[]⟩), (.int .i64 0), (.bool false), (.bool false), (.bool false)] [(0, 1, (.c (.string ⟨#[97, 100, 100]⟩))), (1, 1, (.c (.int .i64 2))), (2, 1, (.c (.bool true))), (3, 1, (.c (.bool true)))]⟩,
    ⟨(some 13), none, .bd [(.string ⟨#[]⟩), (.int .i64 0), (.bool false), (.bool false), (.bool false)] [(0, 1, (.c (.string ⟨#[99, 97, 115]⟩))), (1, 1, (.c (.int .i64 2))), (2, 1, (.c (.bool true))), (3, 1, (.c (.bool true))), (4, 1, (.c (.bool true)))]⟩,
    ⟨(some 14), none, .bd [(.string ⟨#[]⟩), (.int .i64 0), (.bool false), (.bool false), (.bool false)] [(0, 1, (.c (.string ⟨#[102, 114, 101, 101]⟩))), (1, 1, (.c (.int .i64 1)))]⟩,
    ⟨(some 15), none, .bd [(.string ⟨#[]⟩), (.int .i64 0), (.bool false), (.bool false), (.bool false)] [(0, 1, (.c (.string ⟨#[99, 111, 108, 108, 101, 99, 116]⟩)))]⟩,
    ⟨(some 16), none, .bd [(.string ⟨#[]⟩), (.int .i64 0), (.bool false), (.bool false), (.bool false)] [(0, 1, (.c (.string ⟨#[115, 116, 97, 116, 115]⟩))), (1, 1, (.c (.int .i64 1)))]⟩,
    ⟨(some 17), none, .bs 47 13 [(.string ⟨#[]⟩), (.int .i64 0), (.bool false), (.bool false), (.bool false), (.string ⟨#[]⟩), (.int .i64 0), (.bool false), (.bool false), (.bool false), (.string ⟨#[]⟩), (.int .i64 0), (.bool false), (.bool false), (.bool false), (.string ⟨#[]⟩), (.int .i64 0), (.bool false), (.bool false), (.bool false), (.string ⟨#[]⟩), (.int .i64 0), (.bool false), (.bool false), (.bool false), (.string ⟨#[]⟩), (.int .i64 0), (.bool false), (.bool false), (.bool false), (.string ⟨#[]⟩), (.int .i64 0), (.bool false), (.bool false), (.bool false), (.string ⟨#[]⟩), (.int .i64 0), (.bool false), (.bool false), (.bool false), (.string ⟨#[]⟩), (.int .i64 0), (.bool false), (.bool false), (.bool false), (.string ⟨#[]⟩), (.int .i64 0), (.bool false), (.bool false), (.bool false), (.string ⟨#[]⟩), (.int .i64 0), (.bool false), (.bool false), (.bool false), (.string ⟨#[]⟩), (.int .i64 0), (.bool false), (.bool false), (.bool false), (.string ⟨#[]⟩), (.int .i64 0), (.bool false), (.bool false), (.bool false)] [(0, 5, (.t 4)), (5, 5, (.t 5)), (10, 5, (.t 6)), (15, 5, (.t 7)), (20, 5, (.t 8)), (25, 5, (.t 9)), (30, 5, (.t 10)), (35, 5, (.t 11)), (40, 5, (.t 12)), (45, 5, (.t 13)), (50, 5, (.t 14)), (55, 5, (.t 15)), (60, 5, (.t 16))]⟩,
    ⟨(some 3), none, .mv (.t 17)⟩])
  (.sq (.sq (.rg [⟨(some 18), none, .mv (.t 0)⟩,
    ⟨(some 19), none, .ib .lss (.t 18) (.c (.int .i64 1))⟩,
    ⟨(some 20), none, .mv (.t 19)⟩,
    ⟨(some 21), (some (20, false)), .mv (.t 0)⟩,
    ⟨(some 22), (some (20, false)), .mv (.t 3)⟩,
    ⟨(some 23), (some (20, false)), .len (.t 22)⟩,
    ⟨(some 24), (some (20, false)), .ib .geq (.t 21) (.t 23)⟩,
    ⟨(some 25), none, .pk (.t 20) (.c (.bool true)) (.t 24)⟩])
  (.cd (.t 25)
  (.sq (.rg [⟨(some 26), none, .mv (.t 3)⟩,
    ⟨(some 27), none, .ia (.t 26) (.c (.int .i64 0)) 5⟩,
    ⟨(some 28), none, .ld (.t 27) 5 true⟩,
    ⟨none, none, .st (.t 2) (.t 28) 5⟩])
  .rt)
  .sk))
  (.sq (.rg [⟨(some 29), none, .mv (.t 3)⟩,
    ⟨(some 30), none, .mv (.t 0)⟩,
    ⟨(some 31), none, .ia (.t 29) (.t 30) 5⟩,
    ⟨(some 32), none, .ld (.t 31) 5 true⟩,
    ⟨none, none, .st (.t 2) (.t 32) 5⟩])
  .rt))))⟩
theorem k24 : cF Tryd.prog Tryd.f24 = some c24 := by kernel_rfl
/-- rundale/op.within -/
def c25 : Fu := ⟨12, [.t 4],
  (.sq (.rg [⟨(some 4), none, .mv (.c (.bool false))⟩])
  (.sq (.rg [⟨(some 5), none, .mv (.t 0)⟩,
    ⟨(some 6), none, .ib .geq (.t 5) (.c (.int .i64 0))⟩,
    ⟨(some 7), none, .mv (.t 6)⟩,
    ⟨(some 8), (some (7, true)), .mv (.t 0)⟩,
    ⟨(some 9), (some (7, true)), .mv (.t 1)⟩,
    ⟨(some 10), (some (7, true)), .ib .leq (.t 8) (.t 9)⟩,
    ⟨(some 11), none, .pk (.t 7) (.t 10) (.c (.bool false))⟩,
    ⟨(some 4), none, .mv (.t 11)⟩])
  .rt))⟩
theorem k25 : cF Tryd.prog Tryd.f25 = some c25 := by kernel_rfl
/-- rundale/rundaleref18.names -/
def c26 : Fu := ⟨2, [.t 0],
  (.sq (.rg [⟨(some 0), none, .mv (.c (.slice none 0 0))⟩])
  (.sq (.rg [⟨(some 1), none, .bs 9 13 [(.string ⟨#[]⟩), (.string ⟨#[]⟩), (.string ⟨#[]⟩), (.string ⟨#[]⟩), (.string ⟨#[]⟩), (.string ⟨#[]⟩), (.string ⟨#[]⟩), (.string ⟨#[]⟩), (.string ⟨#[]⟩), (.string ⟨#[]⟩), (.string ⟨#[]⟩), (.string ⟨#[]⟩), (.string ⟨#[]⟩)] [(0, 1, (.c (.string ⟨#[]⟩))), (1, 1, (.c (.string ⟨#[99, 114, 101, 97, 116, 101]⟩))), (2, 1, (.c (.string ⟨#[97, 108, 108, 111, 99]⟩))), (3, 1, (.c (.string ⟨#[112, 105, 110]⟩))), (4, 1, (.c (.string ⟨#[117, 110, 112, 105, 110]⟩))), (5, 1, (.c (.string ⟨#[104, 111, 108, 100]⟩))), (6, 1, (.c (.string ⟨#[108, 111, 97, 100]⟩))), (7, 1, (.c (.string ⟨#[115, 116, 111, 114, 101]⟩))), (8, 1, (.c (.string ⟨#[97, 100, 100]⟩))), (9, 1, (.c (.string ⟨#[99, 97, 115]⟩))), (10, 1, (.c (.string ⟨#[102, 114, 101, 101]⟩))), (11, 1, (.c (.string ⟨#[99, 111, 108, 108, 101, 99, 116]⟩))), (12, 1, (.c (.string ⟨#[115, 116, 97, 116, 115]⟩)))]⟩,
    ⟨(some 0), none, .mv (.t 1)⟩])
  .rt))⟩
theorem k26 : cF Tryd.prog Tryd.f26 = some c26 := by kernel_rfl
/-- strconv.FormatUint -/
def c28 : Fu := ⟨8, [.t 4],
  (.sq (.rg [⟨(some 4), none, .mv (.c (.string ⟨#[]⟩))⟩])
  (.sq (.rg [⟨(some 5), none, .mv (.t 0)⟩,
    ⟨(some 6), none, .mv (.t 1)⟩,
    ⟨(some 7), none, .ca 41 [(.t 5), (.t 6)]⟩,
    ⟨(some 4), none, .mv (.t 7)⟩])
  .rt))⟩
theorem k28 : cF Tryd.prog Tryd.f28 = some c28 := by kernel_rfl
/-- rundale/rundaleref18.Signed -/
def c30 : Fu := ⟨13, [.t 2],
  (.sq (.rg [⟨(some 2), none, .mv (.c (.string ⟨#[]⟩))⟩])
  (.sq (.sq (.rg [⟨(some 3), none, .mv (.t 0)⟩,
    ⟨(some 4), none, .ib .lss (.t 3) (.c (.int .i64 0))⟩])
  (.cd (.t 4)
  (.sq (.rg [⟨(some 5), none, .mv (.t 0)⟩,
    ⟨(some 6), none, .ng (.t 5)⟩,
    ⟨(some 7), none, .cv .u64 (.t 6)⟩,
    ⟨(some 8), none, .ca 31 [(.t 7)]⟩,
    ⟨(some 9), none, .sb .add (.c (.string ⟨#[45]⟩)) (.t 8)⟩,
    ⟨(some 2), none, .mv (.t 9)⟩])
  .rt)
  .sk))
  (.sq (.rg [⟨(some 10), none, .mv (.t 0)⟩,
    ⟨(some 11), none, .cv .u64 (.t 10)⟩,
    ⟨(some 12), none, .ca 31 [(.t 11)]⟩,
    ⟨(some 2), none, .mv (.t 12)⟩])
  .rt)))⟩
theorem k30 : cF Tryd.prog Tryd.f30 = some c30 := by kernel_rfl
/-- rundale/rundaleref18.Dec -/
def c31 : Fu := ⟨23, [.t 2],
  (.sq (.rg [⟨(some 2), none, .mv (.c (.string ⟨#[]⟩))⟩])
  (.sq (.rg [⟨(some 4), none, .mv (.t 0)⟩,
    ⟨(some 5), none, .ib .rem (.t 4) (.c (.int .u64 10))⟩,
    ⟨(some 6), none, .ib .add (.c (.int .u64 48)) (.t 5)⟩,
    ⟨(some 7), none, .cv .u8 (.t 6)⟩,
    ⟨(some 8), none, .bs 5 1 [(.int .u8 0)] [(0, 1, (.t 7))]⟩,
    ⟨(some 9), none, .cs (.t 8)⟩,
    ⟨(some 3), none, .mv (.t 9)⟩])
  (.sq (.bl 0
  (.lp
  (.sq (.sq (.rg [⟨(some 10), none, .mv (.t 0)⟩,
    ⟨(some 11), none, .ib .geq (.t 10) (.c (.int .u64 10))⟩])
  (.cd (.t 11)
  .sk
  (.ex 0)))
  (.bl 1
  (.sq (.rg [⟨(some 12), none, .mv (.t 0)⟩,
    ⟨(some 13), none, .ib .quo (.t 12) (.c (.int .u64 10))⟩,
    ⟨(some 0), none, .mv (.t 13)⟩])
  (.rg [⟨(some 14), none, .mv (.t 0)⟩,
    ⟨(some 15), none, .ib .rem (.t 14) (.c (.int .u64 10))⟩,
    ⟨(some 16), none, .ib .add (.c (.int .u64 48)) (.t 15)⟩,
    ⟨(some 17), none, .cv .u8 (.t 16)⟩,
    ⟨(some 18), none, .bs 5 1 [(.int .u8 0)] [(0, 1, (.t 17))]⟩,
    ⟨(some 19), none, .cs (.t 18)⟩,
    ⟨(some 20), none, .mv (.t 3)⟩,
    ⟨(some 21), none, .sb .add (.t 19) (.t 20)⟩,
    ⟨(some 3), none, .mv (.t 21)⟩]))))))
  (.sq (.rg [⟨(some 22), none, .mv (.t 3)⟩,
    ⟨(some 2), none, .mv (.t 22)⟩])
  .rt))))⟩
theorem k31 : cF Tryd.prog Tryd.f31 = some c31 := by kernel_rfl
/-- rundale/op.Get$1 -/
def c33 : Fu := ⟨18, [.t 3],
  (.sq (.rg [⟨(some 3), none, .mv (.c (.string ⟨#[]⟩))⟩])
  (.sq (.sq (.rg [⟨(some 5), none, .mv (.t 0)⟩,
    ⟨(some 6), none, .nt (.t 5)⟩,
    ⟨(some 7), none, .mv (.t 6)⟩,
    ⟨(some 8), (some (7, false)), .ld (.t 1) 1 false⟩,
    ⟨(some 9), (some (7, false)), .len (.t 8)⟩,
    ⟨(some 10), (some (7, false)), .ib .eql (.t 9) (.c (.int .i64 0))⟩,
    ⟨(some 11), none, .pk (.t 7) (.c (.bool true)) (.t 10)⟩])
  (.cd (.t 11)
  (.sq (.rg [⟨(some 3), none, .mv (.c (.string ⟨#[]⟩))⟩])
  .rt)
  .sk))
  (.sq (.rg [⟨(some 12), none, .ld (.t 1) 1 false⟩,
    ⟨(some 13), none, .ia (.t 12) (.c (.int .i64 0)) 1⟩,
    ⟨(some 14), none, .ld (.t 13) 1 false⟩,
    ⟨(some 4), none, .mv (.t 14)⟩])
  (.sq (.rg [⟨(some 15), none, .ld (.t 1) 1 false⟩,
    ⟨(some 16), none, .sl 1 (.t 15) (some (.c (.int .i64 1))) none none⟩,
    ⟨none, none, .st (.t 1) (.t 16) 1⟩])
  (.sq (.rg [⟨(some 17), none, .mv (.t 4)⟩,
    ⟨(some 3), none, .mv (.t 17)⟩])
  .rt)))))⟩
theorem k33 : cF Tryd.prog Tryd.f33 = some c33 := by kernel_rfl
/-- rundale/rundaleref18.Words -/
def c37 : Fu := ⟨32, [.t 2],
  (.sq (.rg [⟨(some 2), none, .mv (.c (.slice none 0 0))⟩])
  (.sq (.rg [⟨(some 3), none, .mv (.c (.slice none 0 0))⟩])
  (.sq (.rg [⟨(some 4), none, .mv (.c (.int .i64 0))⟩])
  (.sq (.sq (.rg [⟨(some 5), none, .mv (.c (.int .i64 0))⟩])
  (.bl 0
  (.lp
  (.sq (.sq (.rg [⟨(some 6), none, .mv (.t 5)⟩,
    ⟨(some 7), none, .mv (.t 0)⟩,
    ⟨(some 8), none, .lens (.t 7)⟩,
    ⟨(some 9), none, .ib .leq (.t 6) (.t 8)⟩])
  (.cd (.t 9)
  .sk
  (.ex 0)))
  (.sq (.bl 1
  (.sq (.rg [⟨(some 12), none, .mv (.t 5)⟩,
    ⟨(some 13), none, .mv (.t 0)⟩,
    ⟨(some 14), none, .lens (.t 13)⟩,
    ⟨(some 15), none, .ib .eql (.t 12) (.t 14)⟩,
    ⟨(some 16), none, .mv (.t 15)⟩,
    ⟨(some 17), (some (16, false)), .mv (.t 0)⟩,
    ⟨(some 18), (some (16, false)), .mv (.t 5)⟩,
    ⟨(some 19), (some (16, false)), .is (.t 17) (.t 18)⟩,
    ⟨(some 20), (some (16, false)), .ib .eql (.t 19) (.c (.int .u8 32))⟩,
    ⟨(some 21), none, .pk (.t 16) (.c (.bool true)) (.t 20)⟩])
  (.cd (.t 21)
  (.sq (.rg [⟨(some 22), none, .mv (.t 3)⟩,
    ⟨(some 23), none, .mv (.t 0)⟩,
    ⟨(some 24), none, .mv (.t 4)⟩,
    ⟨(some 25), none, .mv (.t 5)⟩,
    ⟨(some 26), none, .ss (.t 23) (some (.t 24)) (some (.t 25))⟩,
    ⟨(some 27), none, .bs 9 1 [(.string ⟨#[]⟩)] [(0, 1, (.t 26))]⟩,
    ⟨(some 28), none, .ap 49 9 1 16 [(.string ⟨#[]⟩)] (.t 22) (.t 27)⟩,
    ⟨(some 3), none, .mv (.t 28)⟩])
  (.rg [⟨(some 29), none, .mv (.t 5)⟩,
    ⟨(some 30), none, .ib .add (.t 29) (.c (.int .i64 1))⟩,
    ⟨(some 4), none, .mv (.t 30)⟩]))
  .sk)))
  (.rg [⟨(some 10), none, .mv (.t 5)⟩,
    ⟨(some 11), none, .ib .add (.t 10) (.c (.int .i64 1))⟩,
    ⟨(some 5), none, .mv (.t 11)⟩]))))))
  (.sq (.rg [⟨(some 31), none, .mv (.t 3)⟩,
    ⟨(some 2), none, .mv (.t 31)⟩])
  .rt)))))⟩
theorem k37 : cF Tryd.prog Tryd.f37 = some c37 := by kernel_rfl
/-- rundale/rundaleref18.Number -/
def c38 : Fu := ⟨60, [.t 4, .t 5, .t 6],
  (.sq (.rg [⟨(some 4), none, .mv (.c (.int .u64 0))⟩,
    ⟨(some 5), none, .mv (.c (.int .i64 0))⟩,
    ⟨(some 6), none, .mv (.c (.bool false))⟩])
  (.sq (.rg [⟨(some 7), none, .mv (.c (.int .u64 0))⟩])
  (.sq (.rg [⟨(some 10), none, .mv (.t 1)⟩,
    ⟨(some 8), none, .mv (.t 10)⟩])
  (.sq (.bl 0
  (.lp
  (.sq (.sq (.rg [⟨(some 11), none, .mv (.t 8)⟩,
    ⟨(some 12), none, .mv (.t 0)⟩,
    ⟨(some 13), none, .lens (.t 12)⟩,
    ⟨(some 14), none, .ib .lss (.t 11) (.t 13)⟩,
    ⟨(some 15), none, .mv (.t 14)⟩,
    ⟨(some 16), (some (15, true)), .mv (.t 0)⟩,
    ⟨(some 17), (some (15, true)), .mv (.t 8)⟩,
    ⟨(some 18), (some (15, true)), .is (.t 16) (.t 17)⟩,
    ⟨(some 19), (some (15, true)), .ib .geq (.t 18) (.c (.int .u8 48))⟩,
    ⟨(some 20), none, .pk (.t 15) (.t 19) (.c (.bool false))⟩,
    ⟨(some 21), none, .mv (.t 20)⟩,
    ⟨(some 22), (some (21, true)), .mv (.t 0)⟩,
    ⟨(some 23), (some (21, true)), .mv (.t 8)⟩,
    ⟨(some 24), (some (21, true)), .is (.t 22) (.t 23)⟩,
    ⟨(some 25), (some (21, true)), .ib .leq (.t 24) (.c (.int .u8 57))⟩,
    ⟨(some 26), none, .pk (.t 21) (.t 25) (.c (.bool false))⟩])
  (.cd (.t 26)
  .sk
  (.ex 0)))
  (.bl 1
  (.sq (.rg [⟨(some 27), none, .mv (.t 0)⟩,
    ⟨(some 28), none, .mv (.t 8)⟩,
    ⟨(some 29), none, .is (.t 27) (.t 28)⟩,
    ⟨(some 30), none, .ib .sub (.t 29) (.c (.int .u8 48))⟩,
    ⟨(some 31), none, .cv .u64 (.t 30)⟩,
    ⟨(some 9), none, .mv (.t 31)⟩])
  (.sq (.sq (.rg [⟨(some 32), none, .mv (.t 7)⟩,
    ⟨(some 33), none, .mv (.t 9)⟩,
    ⟨(some 34), none, .ib .sub (.c (.int .u64 18446744073709551615)) (.t 33)⟩,
    ⟨(some 35), none, .ib .quo (.t 34) (.c (.int .u64 10))⟩,
    ⟨(some 36), none, .ib .gtr (.t 32) (.t 35)⟩,
    ⟨(some 37), none, .mv (.t 36)⟩,
    ⟨(some 38), (some (37, false)), .mv (.t 8)⟩,
    ⟨(some 39), (some (37, false)), .mv (.t 1)⟩,
    ⟨(some 40), (some (37, false)), .ib .gtr (.t 38) (.t 39)⟩,
    ⟨(some 41), (some (37, false)), .mv (.t 40)⟩,
    ⟨(some 42), (some (41, true)), .mv (.t 0)⟩,
    ⟨(some 43), (some (41, true)), .mv (.t 1)⟩,
    ⟨(some 44), (some (41, true)), .is (.t 42) (.t 43)⟩,
    ⟨(some 45), (some (41, true)), .ib .eql (.t 44) (.c (.int .u8 48))⟩,
    ⟨(some 46), (some (37, false)), .pk (.t 41) (.t 45) (.c (.bool false))⟩,
    ⟨(some 47), none, .pk (.t 37) (.c (.bool true)) (.t 46)⟩])
  (.cd (.t 47)
  (.sq (.rg [⟨(some 48), none, .mv (.t 1)⟩,
    ⟨(some 4), none, .mv (.c (.int .u64 0))⟩,
    ⟨(some 5), none, .mv (.t 48)⟩,
    ⟨(some 6), none, .mv (.c (.bool false))⟩])
  .rt)
  .sk))
  (.sq (.rg [⟨(some 49), none, .mv (.t 7)⟩,
    ⟨(some 50), none, .ib .mul (.c (.int .u64 10)) (.t 49)⟩,
    ⟨(some 51), none, .mv (.t 9)⟩,
    ⟨(some 52), none, .ib .add (.t 50) (.t 51)⟩,
    ⟨(some 7), none, .mv (.t 52)⟩])
  (.rg [⟨(some 53), none, .mv (.t 8)⟩,
    ⟨(some 54), none, .ib .add (.t 53) (.c (.int .i64 1))⟩,
    ⟨(some 8), none, .mv (.t 54)⟩]))))))))
  (.sq (.rg [⟨(some 55), none, .mv (.t 7)⟩,
    ⟨(some 56), none, .mv (.t 8)⟩,
    ⟨(some 57), none, .mv (.t 8)⟩,
    ⟨(some 58), none, .mv (.t 1)⟩,
    ⟨(some 59), none, .ib .gtr (.t 57) (.t 58)⟩,
    ⟨(some 4), none, .mv (.t 55)⟩,
    ⟨(some 5), none, .mv (.t 56)⟩,
    ⟨(some 6), none, .mv (.t 59)⟩])
  .rt)))))⟩
theorem k38 : cF Tryd.prog Tryd.f38 = some c38 := by kernel_rfl
/-- rundale/rundaleref18.whole -/
def c39 : Fu := ⟨21, [.t 2, .t 3],
  (.sq (.rg [⟨(some 2), none, .mv (.c (.int .u64 0))⟩,
    ⟨(some 3), none, .mv (.c (.bool false))⟩])
  (.sq (.rg [⟨(some 8), none, .mv (.t 0)⟩,
    ⟨(some 9), none, .ca 38 [(.t 8), (.c (.int .i64 0))]⟩,
    ⟨(some 7), none, .mv (.t 9)⟩,
    ⟨(some 10), none, .ex (.t 7) 0⟩,
    ⟨(some 11), none, .ex (.t 7) 1⟩,
    ⟨(some 12), none, .ex (.t 7) 2⟩,
    ⟨(some 4), none, .mv (.t 10)⟩,
    ⟨(some 5), none, .mv (.t 11)⟩,
    ⟨(some 6), none, .mv (.t 12)⟩])
  (.sq (.rg [⟨(some 13), none, .mv (.t 4)⟩,
    ⟨(some 14), none, .mv (.t 6)⟩,
    ⟨(some 15), none, .mv (.t 14)⟩,
    ⟨(some 16), (some (15, true)), .mv (.t 5)⟩,
    ⟨(some 17), (some (15, true)), .mv (.t 0)⟩,
    ⟨(some 18), (some (15, true)), .lens (.t 17)⟩,
    ⟨(some 19), (some (15, true)), .ib .eql (.t 16) (.t 18)⟩,
    ⟨(some 20), none, .pk (.t 15) (.t 19) (.c (.bool false))⟩,
    ⟨(some 2), none, .mv (.t 13)⟩,
    ⟨(some 3), none, .mv (.t 20)⟩])
  .rt)))⟩
theorem k39 : cF Tryd.prog Tryd.f39 = some c39 := by kernel_rfl
/-- internal/strconv.FormatUint -/
def c41 : Fu := ⟨32, [.t 4],
  (.sq (.rg [⟨(some 4), none, .mv (.c (.string ⟨#[]⟩))⟩])
  (.sq (.sq (.rg [⟨(some 9), none, .mv (.t 1)⟩,
    ⟨(some 10), none, .ib .eql (.t 9) (.c (.int .i64 10))⟩])
  (.cd (.t 10)
  (.sq (.sq (.rg [⟨(some 11), none, .mv (.t 0)⟩,
    ⟨(some 12), none, .ib .lss (.t 11) (.c (.int .u64 100))⟩])
  (.cd (.t 12)
  (.sq (.rg [⟨(some 13), none, .mv (.t 0)⟩,
    ⟨(some 14), none, .cv .i64 (.t 13)⟩,
    ⟨(some 15), none, .ca 51 [(.t 14)]⟩,
    ⟨(some 4), none, .mv (.t 15)⟩])
  .rt)
  .sk))
  (.sq (.rg [⟨(some 5), none, .al 80 [(.int .u8 0), (.int .u8 0), (.int .u8 0), (.int .u8 0), (.int .u8 0), (.int .u8 0), (.int .u8 0), (.int .u8 0), (.int .u8 0), (.int .u8 0), (.int .u8 0), (.int .u8 0), (.int .u8 0), (.int .u8 0), (.int .u8 0), (.int .u8 0), (.int .u8 0), (.int .u8 0), (.int .u8 0), (.int .u8 0), (.int .u8 0), (.int .u8 0), (.int .u8 0), (.int .u8 0)]⟩])
  (.sq (.rg [⟨(some 16), none, .mv (.t 0)⟩,
    ⟨(some 17), none, .ca 52 [(.t 16)]⟩,
    ⟨(some 6), none, .mv (.t 17)⟩])
  (.sq (.rg [⟨(some 18), none, .mv (.t 6)⟩,
    ⟨(some 19), none, .sa 24 1 (.t 5) none (some (.t 18)) none⟩,
    ⟨(some 20), none, .mv (.t 0)⟩,
    ⟨(some 21), none, .ca 53 [(.t 19), (.t 20)]⟩])
  (.sq (.rg [⟨(some 22), none, .mv (.t 6)⟩,
    ⟨(some 23), none, .sa 24 1 (.t 5) none (some (.t 22)) none⟩,
    ⟨(some 24), none, .cs (.t 23)⟩,
    ⟨(some 4), none, .mv (.t 24)⟩])
  .rt)))))
  .sk))
  (.sq (.rg [⟨(some 26), none, .mv (.t 0)⟩,
    ⟨(some 27), none, .mv (.t 1)⟩,
    ⟨(some 28), none, .ca 54 [(.c (.slice none 0 0)), (.t 26), (.t 27), (.c (.bool false)), (.c (.bool false))]⟩,
    ⟨(some 25), none, .mv (.t 28)⟩,
    ⟨(some 29), none, .ex (.t 25) 0⟩,
    ⟨(some 30), none, .ex (.t 25) 1⟩,
    ⟨(some 7), none, .mv (.t 29)⟩,
    ⟨(some 8), none, .mv (.t 30)⟩])
  (.sq (.rg [⟨(some 31), none, .mv (.t 8)⟩,
    ⟨(some 4), none, .mv (.t 31)⟩])
  .rt))))⟩
theorem k41 : cF Tryd.prog Tryd.f41 = some c41 := by kernel_rfl
end Go.Proofs.YtlpikhdiiehcaaaDoor

/-
  Two ways that come together: what both reach is walked once.
-/
set_option linter.unusedVariables false
namespace Go.Proofs.YtlpikhdiiehcaaaDoor
open Go
section
variable {P : Program} {N : Nat} {e : En} {K : Kx} {L M F : St} {β : Type _}
/-- A way that goes on ends in one of the states named; any other is as it was. -/
def Kjn (K : Kx) (T : β → En) (S : β → St) : Kx
  | .nm, e, L => ∃ y, sub (T y) e ∧ Ent L (S y)
  | .rt, e, L => K .rt e L
  | .ex i, e, L => K (.ex i) e L
theorem Kjn.nm {T : β → En} {S : β → St} (y : β) (h1 : sub (T y) e) (h2 : Ent L (S y)) : Kjn K T S .nm e L := ⟨y, h1, h2⟩
theorem Kjn.rt {T : β → En} {S : β → St} (h : K .rt e L) : Kjn K T S .rt e L := h
theorem Kjn.ex {T : β → En} {S : β → St} {i : Nat} (h : K (.ex i) e L) : Kjn K T S (.ex i) e L := h
theorem Cx.jn {c d : C} (T : β → En) (S : β → St) (hc : Cx P N c e (Kjn (Ksq P N d K) T S) L) (hd : ∀ y, Cx P N d (T y) K (S y)) : Cx P N c e (Ksq P N d K) L := by
  intro code Q a w0 w hx ok s k
  refine hc code Q a w0 w hx ok s fun z a' w' e' L' hk ok' s' => ?_
  cases z with
  | nm =>
    obtain ⟨y, su, en⟩ := hk
    exact k .nm a' w' (T y) (S y) (hd y) (ok'.sub su) (s'.ent en)
  | rt => exact k .rt a' w' e' L' hk ok' s'
  | ex i => exact k (.ex i) a' w' e' L' hk ok' s'
end
end Go.Proofs.YtlpikhdiiehcaaaDoor

/-
  Regions that draw their order, where nothing that is done turns what is known of the memory: whatever the order, it comes to what the listed order comes to.
-/
set_option linter.unusedVariables false
set_option linter.unusedSimpArgs false
namespace Go.Proofs.YtlpikhdiiehcaaaDoor
open Go
/-- What is known of these temporaries. -/
def En.only (e : En) : List Nat → En
  | [] => []
  | t :: r => match e.get t with | some v => (t, v) :: En.only e r | none => En.only e r
theorem only_get {e : En} : ∀ {rs : List Nat} {t : Nat} {u : Value}, (e.only rs).get t = some u → t ∈ rs ∧ e.get t = some u
  | [], t, u, h => by simp [En.only, En.get] at h
  | a :: r, t, u, h => by
    unfold En.only at h
    split at h
    · rename_i v hv
      simp only [En.get] at h
      cases hb : Nat.beq a t with
      | true =>
        rw [hb, cond_true] at h
        have := Nat.eq_of_beq_eq_true hb
        subst this
        cases h
        exact ⟨by simp, hv⟩
      | false =>
        rw [hb, cond_false] at h
        have := only_get h
        exact ⟨by simp [this.1], this.2⟩
    · have := only_get h
      exact ⟨by simp [this.1], this.2⟩
theorem put_ne {e : En} {d : Option Nat} {v : Value} {t : Nat} (h : d ≠ some t) : (e.put d v).get t = e.get t := by
  cases d with
  | none => rfl
  | some i =>
    have hit : Nat.beq i t = false := by
      cases hb : Nat.beq i t with
      | false => rfl
      | true => exact absurd (by rw [Nat.eq_of_beq_eq_true hb]) h
    simp [En.put, En.get, hit]
theorem put_eq {e : En} {d : Nat} {v : Value} : (e.put (some d) v).get d = some v := by simp [En.put, En.get]
section
variable {P : Program} {N : Nat} {L F : St}
/-- One operation that comes to v and leaves what is known of the memory. -/
def Sc (P : Program) (N : Nat) (g : G) (e : En) (v : Value) (L : St) : Prop := ∀ K : En → St → Prop, K (e.put g.d v) L → Sx P N [g] e K L
/-- The listed order. -/
def Calm (P : Program) (N : Nat) (L : St) : List It → En → En → Prop
  | [], e, fin => fin = e
  | x :: r, e, fin => ∃ v, (∀ e', sub (e.only x.rs) e' → Sc P N x.g e' v L) ∧ Calm P N L r (e.put x.g.d v) fin
def dOK (d : Option Nat) (rs : List Nat) : Bool := match d with | none => true | some d => !(rs.any (Nat.beq d))
def okD (l : List It) : Bool := l.all fun x => l.all fun y => dOK y.g.d x.rs || bit x.ds y.i
def okI : Nat → List It → Bool
  | _, [] => true
  | n, x :: r => Nat.beq x.i n && okI (n + 1) r
theorem dOK_iff {d : Option Nat} {rs : List Nat} (h : dOK d rs = true) : ∀ t, d = some t → t ∉ rs := by
  rintro t rfl ht
  simp only [dOK, Bool.not_eq_true', List.any_eq_false] at h
  exact h t ht (by simp)
theorem okI_inj : ∀ {l : List It} {n : Nat}, okI n l = true → ∀ x ∈ l, n ≤ x.i ∧ ∀ y ∈ l, x.i = y.i → x = y
  | [], _, _, x, hx => by cases hx
  | a :: r, n, h, x, hx => by
    simp only [okI, Bool.and_eq_true] at h
    have ha := Nat.eq_of_beq_eq_true h.1
    have ih := okI_inj h.2
    rcases List.mem_cons.1 hx with rfl | hxr
    · refine ⟨by omega, fun y hy he => ?_⟩
      rcases List.mem_cons.1 hy with rfl | hyr
      · rfl
      · have := (ih y hyr).1; omega
    · have h1 := ih x hxr
      refine ⟨by omega, fun y hy he => ?_⟩
      rcases List.mem_cons.1 hy with rfl | hyr
      · omega
      · exact h1.2 y hyr he
theorem without_lt {rem : List It} {x : It} (hx : x ∈ rem) : (without rem x.i).length < rem.length := by
  unfold without
  exact List.length_filter_lt_length_iff_exists.2 ⟨x, hx, by simp⟩
/-- The listed order, and what comes behind it. -/
def Cm (P : Program) (N : Nat) (L : St) (l : List It) (e : En) (Kf : En → Prop) : Prop := ∃ fin, Calm P N L l e fin ∧ Kf fin
theorem Kjn.mono {β : Type _} {K : Kx} {T : β → En} {S : β → St} : ∀ e e', sub e e' → Kjn K T S .nm e L → Kjn K T S .nm e' L :=
  fun e e' hs ⟨y, h1, h2⟩ => ⟨y, fun i v h => hs i v (h1 i v h), h2⟩
theorem Klp.mono {α : Type _} {K : Kx} {T : α → En} {S : α → St} {μ : α → Nat} {x : α} : ∀ e e', sub e e' → Klp K T S μ x .nm e L → Klp K T S μ x .nm e' L :=
  fun e e' hs ⟨y, h1, h2, h3⟩ => ⟨y, fun i v h => hs i v (h1 i v h), h2, h3⟩
section
variable {Kf : En → Prop} {e : En} {r : List It} {i ds : Nat} {rs : List Nat} {d : Option Nat} {g : Option (Nat × Bool)}
theorem Cm.nil (h : Kf e) : Cm P N L [] e Kf := ⟨e, rfl, h⟩
theorem Cm.done {c : C} {K : Kx} (h : Cx P N c e K L) : Cm P N L [] e (fun fin => Cx P N c fin K L) := .nil h
theorem Cm.cons {x : It} (v : Value) (h : ∀ e', sub (e.only x.rs) e' → Sc P N x.g e' v L) (k : Cm P N L r (e.put x.g.d v) Kf) : Cm P N L (x :: r) e Kf := by
  obtain ⟨fin, h1, h2⟩ := k
  exact ⟨fin, ⟨v, h, h1⟩, h2⟩
/-- Does the guard say yes? -/
def gon (e : En) (g : Option (Nat × Bool)) : Bool := match g with
  | none => true
  | some (t, b) => match e.get t with | some (.bool c) => c == b | _ => false
theorem Sc.gon {T e' : En} {s : S} {v : Value} (hg : gon T g = true) (hs : sub T e') (h : Sc P N ⟨d, none, s⟩ e' v L) : Sc P N ⟨d, g, s⟩ e' v L := by
  unfold Proofs.YtlpikhdiiehcaaaDoor.gon at hg
  split at hg
  · exact h
  · rename_i t b
    split at hg
    · rename_i c hc
      have hcb : c = b := by simpa using hg
      subst hcb
      exact fun K k => Sx.on (hs _ _ hc) (h K k)
    · cases hg
theorem Sc.pv {T e' : En} {s : S} {φ : Prop} {v : Value} (hp : Proofs.YtlpikhdiiehcaaaDoor.pv T s = some (φ, v)) (hφ : φ) (hs : sub T e') : Sc P N ⟨d, none, s⟩ e' v L :=
  fun K k => Sx.step fun o a w0 w hc ok st => ⟨v, w, L, .inl ((ok.sub hs).runs hc hp hφ w), st, Sx.nil k⟩
theorem Cm.pv {s : S} {φ : Prop} {v : Value} (hg : gon (e.only rs) g = true) (hp : Proofs.YtlpikhdiiehcaaaDoor.pv (e.only rs) s = some (φ, v)) (hφ : φ) (k : Cm P N L r (e.put d v) Kf) : Cm P N L (⟨i, ds, rs, ⟨d, g, s⟩⟩ :: r) e Kf :=
  .cons v (fun e' hs => .gon hg hs (.pv hp hφ hs)) k
theorem Cm.off {t : Nat} {b : Bool} {s : S} (hb : offs (e.only rs) t b = true) (k : Cm P N L r (e.put d undef) Kf) : Cm P N L (⟨i, ds, rs, ⟨d, some (t, b), s⟩⟩ :: r) e Kf :=
  .cons undef (fun e' hs K k => Sx.off (by
    unfold offs at hb ⊢
    cases h1 : (e.only rs).get t with
    | none => rw [h1] at hb; simp at hb
    | some u => rw [hs _ _ h1]; rw [h1] at hb; exact hb) (Sx.nil k)) k
theorem X.get_sub {T e' : En} {x : X} {v : Value} (h : x.get T = some v) (hs : sub T e') : x.get e' = some v := by
  cases x with
  | t i => exact hs _ _ h
  | c u => exact h
theorem gets_sub {T e' : En} (hs : sub T e') : ∀ {xs : List X} {vs : List Value}, gets T xs = some vs → gets e' xs = some vs
  | [], _, h => h
  | x :: l, vs, h => by
    simp only [gets] at h ⊢
    split at h
    · rename_i v hv
      split at h
      · rename_i us hus
        rw [X.get_sub hv hs]
        simp only
        rw [gets_sub hs hus]
        exact h
      · cases h
    · cases h
theorem Cm.pk {c x y : X} {p q z : Bool} (hg : gon (e.only rs) g = true) (hc : c.get (e.only rs) = some (.bool p)) (hx : x.get (e.only rs) = some (.bool q)) (hy : y.get (e.only rs) = some (.bool z))
    (k : Cm P N L r (e.put d (.bool (pick p q z))) Kf) : Cm P N L (⟨i, ds, rs, ⟨d, g, .pk c x y⟩⟩ :: r) e Kf :=
  .cons _ (fun e' hs => .gon hg hs fun K k => Sx.pk (X.get_sub hc hs) (X.get_sub hx hs) (X.get_sub hy hs) (Sx.nil k)) k
theorem Cm.ld {x : X} {n b off : Nat} {ag : Bool} {vs : List Value} {v : Value} (hg : gon (e.only rs) g = true) (hx : x.get (e.only rs) = some (.pointer (some ⟨b, off, none⟩))) (hh : Has L b off vs) (hv : ldv n ag vs = some v)
    (k : Cm P N L r (e.put d v) Kf) : Cm P N L (⟨i, ds, rs, ⟨d, g, .ld x n ag⟩⟩ :: r) e Kf :=
  .cons v (fun e' hs => .gon hg hs fun K k => Sx.ld (X.get_sub hx hs) hh hv (Sx.nil k)) k
theorem Cm.ldb {x : X} {b off : Nat} {T : TypeId} {cs : List Value} {v : Value} [t : Take L (some ⟨b, 0, none⟩) (Blk T cs) F] (hg : gon (e.only rs) g = true) (hx : x.get (e.only rs) = some (.pointer (some ⟨b, off, none⟩))) (hv : cs[off]? = some v)
    (k : Cm P N L r (e.put d v) Kf) : Cm P N L (⟨i, ds, rs, ⟨d, g, .ld x 1 false⟩⟩ :: r) e Kf :=
  .ld hg hx ((Has.blk (T := T) (cs := cs) (n := 1)).one (take_one hv)) rfl k
theorem Cm.ldbs {x : X} {b off n : Nat} {T : TypeId} {cs : List Value} [t : Take L (some ⟨b, 0, none⟩) (Blk T cs) F] (hg : gon (e.only rs) g = true) (hx : x.get (e.only rs) = some (.pointer (some ⟨b, off, none⟩))) (hn : Nat.ble (off + n) cs.length = true)
    (k : Cm P N L r (e.put d (.agg ((cs.drop off).take n).toArray)) Kf) : Cm P N L (⟨i, ds, rs, ⟨d, g, .ld x n true⟩⟩ :: r) e Kf :=
  .cons _ (fun e' hs => .gon hg hs fun K k => Sx.ldbs (X.get_sub hx hs) hn (Sx.nil k)) k
theorem Cm.ca {f : FuncId} {xs : List X} {vs : List Value} {v : Value} (hg : gon (e.only rs) g = true) (hx : gets (e.only rs) xs = some vs) (hf : Fx P f vs L (fun v' L' => v' = v ∧ L = L')) (k : Cm P N L r (e.put d v) Kf) :
    Cm P N L (⟨i, ds, rs, ⟨d, g, .ca f xs⟩⟩ :: r) e Kf :=
  .cons v (fun e' hs => .gon hg hs fun K k => Sx.ca (gets_sub hs hx) hf fun v' L' h => by
    obtain ⟨rfl, rfl⟩ := h
    exact Sx.nil k) k
def isPk : S → Bool
  | .pk _ _ _ => true
  | _ => false
def plainP (s : S) : Bool := isPk s || plain s
theorem isPk_pv {s : S} (h : isPk s = true) {φ : Prop} {v : Value} (hp : Proofs.YtlpikhdiiehcaaaDoor.pv e s = some (φ, v)) : φ := by
  obtain ⟨c, a, b, rfl⟩ : ∃ c a b, s = .pk c a b := by cases s <;> first | exact ⟨_, _, _, rfl⟩ | cases h
  simp only [Proofs.YtlpikhdiiehcaaaDoor.pv] at hp
  repeat' split at hp
  all_goals first | (cases hp; trivial) | cases hp
theorem plainP_pv {s : S} (h : plainP s = true) {φ : Prop} {v : Value} (hp : Proofs.YtlpikhdiiehcaaaDoor.pv e s = some (φ, v)) : φ := by
  rcases (Bool.or_eq_true _ _).mp h with h | h
  · exact isPk_pv h hp
  · exact plain_pv h hp
/-- Plain operations at the head. -/
def stepM (x : It) (e : En) : Option Value :=
  bif gon (e.only x.rs) x.g.g then
    (bif plainP x.g.s then (match Proofs.YtlpikhdiiehcaaaDoor.pv (e.only x.rs) x.g.s with | some (_, v) => some v | none => none) else none)
  else (match x.g.g with | some (t, b) => (bif offs (e.only x.rs) t b then some undef else none) | none => none)
def eagM : List It → En → Option (List It × En)
  | x :: r, e => match stepM x e with
    | some v => match eagM r (e.put x.g.d v) with
      | some q => some q
      | none => some (r, e.put x.g.d v)
    | none => none
  | [], _ => none
theorem Cm.step {x : It} {v : Value} (h : stepM x e = some v) (k : Cm P N L r (e.put x.g.d v) Kf) : Cm P N L (x :: r) e Kf := by
  obtain ⟨i, ds, rs, d, g, s⟩ := x
  unfold stepM at h
  simp only at h
  cases hg : gon (e.only rs) g with
  | true =>
    rw [hg, cond_true] at h
    cases hp : plainP s with
    | false => rw [hp] at h; cases h
    | true =>
      rw [hp, cond_true] at h
      split at h
      · rename_i φ u hu
        cases h
        exact Cm.pv hg hu (plainP_pv hp hu) k
      · cases h
  | false =>
    rw [hg, cond_false] at h
    split at h
    · rename_i t b
      cases hb : offs (e.only rs) t b with
      | true => rw [hb, cond_true] at h; cases h; exact Cm.off hb k
      | false => rw [hb] at h; cases h
    · cases h
theorem Cm.pvs : ∀ {l l' : List It} {e e' : En}, eagM l e = some (l', e') → Cm P N L l' e' Kf → Cm P N L l e Kf
  | [], _, _, _, h, _ => by cases h
  | x :: r, l', e, e', h, k => by
    simp only [eagM] at h
    split at h
    · rename_i v hv
      split at h
      · rename_i q hq
        cases h
        exact Cm.step hv (Cm.pvs hq k)
      · cases h
        exact Cm.step hv k
    · cases h
end
end
end Go.Proofs.YtlpikhdiiehcaaaDoor

/-
  A function whose result is a variable of its own.
-/
set_option linter.unusedVariables false
set_option linter.unusedSimpArgs false
namespace Go.Proofs.YtlpikhdiiehcaaaDoor
open Go
section
variable {P : Program} {N : Nat} {e : En} {L F : St}
theorem cRs_cell {rs : List ResultVar} {t n : Nat} {g : Bool} (h : cRs P rs = some [.c t n g]) : ∃ ty, rs = [.cell t ty] ∧ szT P ty = some n ∧ isAggT P ty = some g := by
  match rs with
  | [] => simp [cRs] at h
  | [.tmp i] => simp [cRs, cR] at h
  | [.cell a ty] =>
    simp only [cRs, cR] at h
    cases h1 : szT P ty with
    | none => simp [h1] at h
    | some m =>
      cases h2 : isAggT P ty with
      | none => simp [h1, h2] at h
      | some q =>
        simp only [h1, h2, Option.some.injEq, List.cons.injEq, RV.c.injEq, and_true] at h
        obtain ⟨rfl, rfl, rfl⟩ := h
        exact ⟨ty, rfl, h1, h2⟩
  | r :: r' :: l =>
    simp only [cRs] at h
    split at h
    · split at h
      · rename_i _ _ us hus
        split at hus
        · split at hus
          · cases hus; simp at h
          · cases hus
        · cases hus
      · cases h
    · cases h
theorem Rv_cell {t n b off : Nat} {g : Bool} {vs : List Value} {v : Value} (h : e.get t = some (.pointer (some ⟨b, off, none⟩))) (hh : Has L b off vs) (hv : ldv n g vs = some v) : Rv P N [.c t n g] e L v := by
  intro fn a w0 w hr ok s
  obtain ⟨ty, hres, hs, hg⟩ := cRs_cell hr
  have hr2 : fn.results = #[.cell t ty] := by apply Array.ext'; simpa using hres
  have ht := ok.get _ _ h
  have hx : a.tmps.getD t undef = .pointer (some ⟨b, off, none⟩) := by simp [ht]
  have hc := hh w0 w s
  cases g
  · unfold ldv at hv
    split at hv
    · contradiction
    · cases hv
      have h0 := hc 0 v rfl
      simp only [Nat.add_zero] at h0
      simp [results, hr2, ht, loadVar, isAggT_eq hg, h0, asAddr]
    · cases hv
  · simp only [ldv] at hv
    cases hb : Nat.beq vs.length n with
    | false => rw [hb] at hv; cases hv
    | true =>
      rw [hb] at hv; cases hv
      have hn := Nat.eq_of_beq_eq_true hb
      have hl := run_loadCells_list (P := P) w ⟨b, off, none⟩ vs (fun j v hj => by rw [partPlace]; exact hc j v hj)
      rw [hn] at hl
      simp [results, hr2, ht, loadVar, isAggT_eq hg, szT_eq hs, hl, asAddr]
theorem Kr_cell {R : Value → St → Prop} {t n b : Nat} {T : TypeId} {cs : List Value} {x : Ex} [i : Take L (some ⟨b, 0, none⟩) (Blk T cs) F] (hx : x = .nm ∨ x = .rt) (h : e.get t = some (.pointer (some ⟨b, 0, none⟩))) (hn : Nat.beq cs.length n = true)
    {L' : St} (hL : Ent L L') (hR : R (.agg cs.toArray) L') : Kr P N [.c t n true] R x e L := by
  have hn' := Nat.eq_of_beq_eq_true hn
  refine ⟨hx, _, L', Rv_cell h (Has.blk (T := T) (cs := cs) (n := n) (off := 0)) ?_, hL, hR⟩
  simp [ldv, ← hn']
end
end Go.Proofs.YtlpikhdiiehcaaaDoor

/-
  Regions that draw their order, in which operations turn the memory: where whatever looks at the memory is held apart from whatever turns it, one order will do.
-/
set_option linter.unusedVariables false
set_option linter.unusedSimpArgs false
namespace Go.Proofs.YtlpikhdiiehcaaaDoor
open Go
section
variable {P : Program} {N : Nat} {L F : St}
/-- One operation, whatever it does to what is known of the memory. -/
def Se (P : Program) (N : Nat) (g : G) (e : En) (L : St) (R : Value → St → Prop) : Prop := ∀ K : En → St → Prop, (∀ v L', R v L' → K (e.put g.d v) L') → Sx P N [g] e K L
/-- An order, told. ms: what has looked at the memory, and of which memories what it came to holds. -/
inductive Ev (P : Program) (N : Nat) (Kf : En → St → Prop) : List It → List (Nat × (St → Prop)) → En → St → Prop
  | nil {ms : List (Nat × (St → Prop))} {e : En} {L : St} (h : Kf e L) : Ev P N Kf [] ms e L
  | free {rem : List It} {ms : List (Nat × (St → Prop))} {e : En} {L : St} (x : It) (hx : x ∈ rem) (v : Value) (h : ∀ L e', sub (e.only x.rs) e' → Sc P N x.g e' v L) (k : Ev P N Kf (without rem x.i) ms (e.put x.g.d v) L) : Ev P N Kf rem ms e L
  | looks {rem : List It} {ms : List (Nat × (St → Prop))} {e : En} {L : St} (x : It) (hx : x ∈ rem) (v : Value) (Φ : St → Prop) (hΦ : Φ L) (h : ∀ M, Φ M → ∀ e', sub (e.only x.rs) e' → Sc P N x.g e' v M) (k : Ev P N Kf (without rem x.i) ((x.i, Φ) :: ms) (e.put x.g.d v) L) : Ev P N Kf rem ms e L
  | turns {rem : List It} {ms : List (Nat × (St → Prop))} {e : En} {L : St} (x : It) (hx : x ∈ rem) (R : Value → St → Prop) (h1 : (without rem x.i).all (fun y => bit y.ds x.i) = true) (h2 : ∀ q ∈ ms, bit x.ds q.1 = true ∨ ∀ v L', R v L' → q.2 L')
      (h : ∀ e', sub (e.only x.rs) e' → Se P N x.g e' L R) (k : ∀ v L', R v L' → Ev P N Kf (without rem x.i) ms (e.put x.g.d v) L') : Ev P N Kf rem ms e L
/-- What has been told ahead of its time. -/
structure Told (P : Program) (N : Nat) (ms : List (Nat × (St → Prop))) (e : En) (L : St) (p : It × Value) : Prop where
  hv : ∀ d, p.1.g.d = some d → e.get d = some p.2
  hs : (∀ L e', (∀ t ∈ p.1.rs, ∀ u, e.get t = some u → e'.get t = some u) → Sc P N p.1.g e' p.2 L) ∨
    ∃ Φ, (p.1.i, Φ) ∈ ms ∧ Φ L ∧ ∀ M, Φ M → ∀ e', (∀ t ∈ p.1.rs, ∀ u, e.get t = some u → e'.get t = some u) → Sc P N p.1.g e' p.2 M
def okN : List It → Bool
  | [] => true
  | x :: r => r.all (fun y => dOK y.g.d (match x.g.d with | some d => [d] | none => [])) && okN r
theorem okN_iff : ∀ {l : List It}, okN l = true → ∀ x ∈ l, ∀ y ∈ l, ∀ d, x.g.d = some d → y.g.d = some d → x = y
  | [], _, x, hx => by cases hx
  | a :: r, h, x, hx => by
    simp only [okN, Bool.and_eq_true, List.all_eq_true] at h
    intro y hy d hdx hdy
    rcases List.mem_cons.1 hx with rfl | hxr <;> rcases List.mem_cons.1 hy with rfl | hyr
    · rfl
    · have := dOK_iff (h.1 y hyr) d hdy
      rw [hdx] at this; simp at this
    · have := dOK_iff (h.1 x hxr) d hdx
      rw [hdy] at this; simp at this
    · exact okN_iff h.2 x hxr y hyr d hdx hdy
theorem without_app (U tl : List It) (i : Nat) (h : ∀ y ∈ tl, y.i ≠ i) : without (U ++ tl) i = without U i ++ tl := by
  unfold without
  rw [List.filter_append]
  congr 1
  rw [List.filter_eq_self]
  intro y hy
  have := h y hy
  cases hb : Nat.beq y.i i with
  | true => exact absurd (Nat.eq_of_beq_eq_true hb) this
  | false => rfl
theorem split_ready {all tl U : List It} {x : It} (htl : ∀ y ∈ tl, ∀ x ∈ all, bit y.ds x.i = true ∧ y.i ≠ x.i) (hUa : ∀ x ∈ U, x ∈ all) (hU : U ≠ []) (hx : x ∈ readies (U ++ tl)) : x ∈ U ∧ ready x U = true ∧ without (U ++ tl) x.i = without U x.i ++ tl := by
  have h1 : x ∈ U ++ tl ∧ ready x (U ++ tl) = true := by simpa only [readies, List.mem_filter] using hx
  have h2 : ∀ z ∈ U ++ tl, bit x.ds z.i = false := by
    have := h1.2
    simp only [ready, List.all_eq_true] at this
    exact fun z hz => by simpa using this z hz
  have hxU : x ∈ U := by
    rcases List.mem_append.1 h1.1 with h | h
    · exact h
    · obtain ⟨z, hz⟩ := List.exists_mem_of_ne_nil U hU
      have h3 := (htl x h z (hUa z hz)).1
      rw [h2 z (by simp [hz])] at h3; cases h3
  refine ⟨hxU, ?_, without_app U tl x.i fun y hy => (htl y hy x (hUa x hxU)).2⟩
  simp only [ready, List.all_eq_true]
  exact fun z hz => by rw [h2 z (by simp [hz])]; rfl
theorem ev_runT {all tl : List It} {Kf Kt : En → St → Prop} (hi : okI 0 all = true) (hd : okD all = true) (hn : okN all = true) (htl : ∀ y ∈ tl, ∀ x ∈ all, bit y.ds x.i = true ∧ y.i ≠ x.i) (hK : ∀ e e' L, sub e e' → Kf e L → Rx P N tl [] (fun _ => True) e' Kt L) :
    ∀ (n : Nat) (rem : List It) (ms : List (Nat × (St → Prop))) (e : En) (L : St), Ev P N Kf rem ms e L → ∀ (T : List (It × Value)) (U : List It) (e' : En), U.length = n → (∀ x ∈ U, x ∈ all) → (∀ x, x ∈ U ↔ (∃ v, (x, v) ∈ T) ∨ x ∈ rem) →
      (∀ p ∈ T, p.1 ∉ rem) → (∀ p ∈ T, Told P N ms e L p) → (∀ y ∈ rem, ∀ d, y.g.d = some d → e.get d = none) →
      (∀ t u, e.get t = some u → (∀ p ∈ T, p.1.g.d ≠ some t) → e'.get t = some u) → Rx P N (U ++ tl) [] (fun _ => True) e' Kt L := by
  intro n
  induction n using Nat.strongRecOn with
  | _ n ihn =>
    have inj : ∀ x ∈ all, ∀ y ∈ all, x.i = y.i → x = y := fun x hx y hy h => (okI_inj hi x hx).2 y hy h
    -- one of those that were told comes
    have come : ∀ (rem : List It) (ms : List (Nat × (St → Prop))) (e : En) (L : St), Ev P N Kf rem ms e L → ∀ (T : List (It × Value)) (U : List It) (e' : En), U.length = n → (∀ x ∈ U, x ∈ all) → (∀ x, x ∈ U ↔ (∃ v, (x, v) ∈ T) ∨ x ∈ rem) →
        (∀ p ∈ T, p.1 ∉ rem) → (∀ p ∈ T, Told P N ms e L p) → (∀ y ∈ rem, ∀ d, y.g.d = some d → e.get d = none) → (∀ t u, e.get t = some u → (∀ p ∈ T, p.1.g.d ≠ some t) → e'.get t = some u) →
        ∀ x v, (x, v) ∈ T → ready x U = true → Sx P N [x.g] e' (fun e' L' => True ∧ Rx P N (without U x.i ++ tl) [] (fun _ => True) e' Kt L') L := by
      intro rem ms e L hev T U e' hU hUa hUm hTr hT hfr he x v hxv hrd
      have hxU : x ∈ U := (hUm x).2 (.inl ⟨v, hxv⟩)
      have hrd' : ∀ y ∈ U, bit x.ds y.i = false := by simpa [ready] using hrd
      have hto := hT _ hxv
      have hfacts : ∀ t ∈ x.rs, ∀ u, e.get t = some u → e'.get t = some u := by
        intro t ht u hu
        refine he t u hu fun p hp hpd => ?_
        have hpU : p.1 ∈ U := (hUm p.1).2 (.inl ⟨p.2, hp⟩)
        simp only [okD, List.all_eq_true, Bool.or_eq_true] at hd
        rcases hd x (hUa x hxU) p.1 (hUa _ hpU) with h | h
        · exact dOK_iff h t hpd ht
        · rw [hrd' _ hpU] at h; cases h
      have hS : Sc P N x.g e' v L := by
        rcases hto.hs with h | ⟨Φ, _, hΦ, h⟩
        · exact h L e' hfacts
        · exact h L hΦ e' hfacts
      refine hS _ ⟨trivial, ?_⟩
      have hlt := without_lt hxU
      refine ihn (without U x.i).length (by omega) rem ms e L hev (T.filter fun p => !(Nat.beq p.1.i x.i)) (without U x.i) _ rfl (fun y hy => hUa y (mem_without.1 hy).1) (fun y => ?_) (fun p hp => hTr p ((List.mem_filter.1 hp).1)) (fun p hp => hT p ((List.mem_filter.1 hp).1)) hfr fun t u ht hw => ?_
      · rw [mem_without, hUm]
        constructor
        · rintro ⟨⟨w, hw⟩ | h, hne⟩
          · refine .inl ⟨w, List.mem_filter.2 ⟨hw, ?_⟩⟩
            cases hb : Nat.beq y.i x.i with
            | false => rfl
            | true => exact absurd (Nat.eq_of_beq_eq_true hb) hne
          · exact .inr h
        · rintro (⟨w, hw⟩ | h)
          · obtain ⟨h1, h2⟩ := List.mem_filter.1 hw
            exact ⟨.inl ⟨w, h1⟩, fun hh => by simp [hh] at h2⟩
          · refine ⟨.inr h, fun hh => ?_⟩
            have hyx := inj y (hUa y ((hUm y).2 (.inr h))) x (hUa x hxU) hh
            subst hyx
            exact hTr _ hxv h
      · by_cases hxt : x.g.d = some t
        · have h1 := hto.hv t hxt
          rw [ht] at h1
          rw [hxt, put_eq]; exact h1.symm
        · rw [put_ne hxt]
          refine he t u ht fun p hp hpd => ?_
          by_cases hpx : p.1.i = x.i
          · have := inj p.1 (hUa _ ((hUm p.1).2 (.inl ⟨p.2, hp⟩))) x (hUa x hxU) hpx
            rw [this] at hpd; exact hxt hpd
          · refine hw p (List.mem_filter.2 ⟨hp, ?_⟩) hpd
            cases hb : Nat.beq p.1.i x.i with
            | false => rfl
            | true => exact absurd (Nat.eq_of_beq_eq_true hb) hpx
    -- telling one more
    have tell : ∀ {rem : List It} {ms ms' : List (Nat × (St → Prop))} {e : En} {L : St} {x : It} {v : Value} {T : List (It × Value)} {U : List It} {e' : En}, x ∈ rem → (∀ x ∈ U, x ∈ all) → (∀ x, x ∈ U ↔ (∃ v, (x, v) ∈ T) ∨ x ∈ rem) → (∀ p ∈ T, p.1 ∉ rem) →
        (∀ p ∈ T, Told P N ms e L p) → (∀ y ∈ rem, ∀ d, y.g.d = some d → e.get d = none) → (∀ q ∈ ms, q ∈ ms') →
        (∀ p ∈ T, Told P N ms' (e.put x.g.d v) L p) ∧ (∀ y ∈ without rem x.i, ∀ d, y.g.d = some d → (e.put x.g.d v).get d = none) := by
      intro rem ms ms' e L x v T U e' hx hUa hUm hTr hT hfr hms
      have hxa := hUa x ((hUm x).2 (.inr hx))
      refine ⟨fun p hp => ?_, fun y hy d hyd => ?_⟩
      · have hpa := hUa p.1 ((hUm p.1).2 (.inl ⟨p.2, hp⟩))
        have hpx : p.1 ≠ x := fun h => hTr p hp (by rw [h]; exact hx)
        have hto := hT p hp
        have hst : ∀ e' : En, (∀ t ∈ p.1.rs, ∀ u, (e.put x.g.d v).get t = some u → e'.get t = some u) → ∀ t ∈ p.1.rs, ∀ u, e.get t = some u → e'.get t = some u := by
          intro e' h t ht u hu
          refine h t ht u ?_
          rw [put_ne (fun hxt => by rw [hfr x hx t hxt] at hu; cases hu)]
          exact hu
        refine ⟨fun d hpd => ?_, ?_⟩
        · rw [put_ne (fun hxd => hpx (okN_iff hn p.1 hpa x hxa d hpd hxd))]
          exact hto.hv d hpd
        · rcases hto.hs with h | ⟨Φ, h1, hΦ, h⟩
          · exact .inl fun L e' he => h L e' (hst e' he)
          · exact .inr ⟨Φ, hms _ h1, hΦ, fun M hM e' he => h M hM e' (hst e' he)⟩
      · obtain ⟨hy1, hy2⟩ := mem_without.1 hy
        rw [put_ne (fun hxd => hy2 (by rw [okN_iff hn y (hUa y ((hUm y).2 (.inr hy1))) x hxa d hyd hxd]))]
        exact hfr y hy1 d hyd
    intro rem ms e L hev
    induction hev with
    | @nil ms e L hk =>
      intro T U e' hU hUa hUm hTr hT hfr he
      by_cases hU0 : U = []
      · subst hU0
        refine hK e e' L (fun t u ht => he t u ht fun p hp => ?_) hk
        have : p.1 ∈ ([] : List It) := (hUm p.1).2 (.inl ⟨p.2, hp⟩)
        cases this
      · refine Rx.all (fun h0 => absurd (List.append_eq_nil_iff.1 h0).1 hU0) fun x hx => ⟨by simp, ?_⟩
        obtain ⟨hx1, hx2, hx3⟩ := split_ready htl hUa hU0 hx
        rw [hx3]
        rcases (hUm x).1 hx1 with ⟨v, hv⟩ | h
        · exact come [] ms e L (.nil hk) T U e' hU hUa hUm hTr hT hfr he x v hv hx2
        · cases h
    | @free rem ms e L x hx v h k ih =>
      intro T U e' hU hUa hUm hTr hT hfr he
      obtain ⟨t1, t2⟩ := tell (v := v) (e' := e') hx hUa hUm hTr hT hfr (fun _ h => h)
      refine ih ((x, v) :: T) U e' hU hUa (fun y => ?_) (fun p hp => ?_) (fun p hp => ?_) t2 fun t u ht hw => ?_
      · rw [hUm]
        constructor
        · rintro (⟨w, hw⟩ | hy)
          · exact .inl ⟨w, List.mem_cons_of_mem _ hw⟩
          · by_cases hyx : y = x
            · exact .inl ⟨v, by rw [hyx]; simp⟩
            · exact .inr (mem_without.2 ⟨hy, fun hh => hyx (inj y (hUa y ((hUm y).2 (.inr hy))) x (hUa x ((hUm x).2 (.inr hx))) hh)⟩)
        · rintro (⟨w, hw⟩ | hy)
          · rcases List.mem_cons.1 hw with h1 | h1
            · cases h1; exact .inr hx
            · exact .inl ⟨w, h1⟩
          · exact .inr (mem_without.1 hy).1
      · rcases List.mem_cons.1 hp with rfl | h1
        · exact fun hh => (mem_without.1 hh).2 rfl
        · exact fun hh => hTr p h1 (mem_without.1 hh).1
      · rcases List.mem_cons.1 hp with rfl | h1
        · refine ⟨fun d hd => by rw [show x.g.d = some d from hd]; exact put_eq, .inl fun L e2 h2 => h L e2 fun t u ht => ?_⟩
          obtain ⟨htr, hu⟩ := only_get ht
          refine h2 t htr u ?_
          rw [put_ne (fun hxt => by rw [hfr x hx t hxt] at hu; cases hu)]
          exact hu
        · exact t1 p h1
      · have hxt : x.g.d ≠ some t := hw (x, v) (by simp)
        rw [put_ne hxt] at ht
        exact he t u ht fun p hp => hw p (List.mem_cons_of_mem _ hp)
    | @looks rem ms e L x hx v Φ hΦ h k ih =>
      intro T U e' hU hUa hUm hTr hT hfr he
      obtain ⟨t1, t2⟩ := tell (v := v) (e' := e') hx hUa hUm hTr hT hfr (fun _ h => List.mem_cons_of_mem (x.i, Φ) h)
      refine ih ((x, v) :: T) U e' hU hUa (fun y => ?_) (fun p hp => ?_) (fun p hp => ?_) t2 fun t u ht hw => ?_
      · rw [hUm]
        constructor
        · rintro (⟨w, hw⟩ | hy)
          · exact .inl ⟨w, List.mem_cons_of_mem _ hw⟩
          · by_cases hyx : y = x
            · exact .inl ⟨v, by rw [hyx]; simp⟩
            · exact .inr (mem_without.2 ⟨hy, fun hh => hyx (inj y (hUa y ((hUm y).2 (.inr hy))) x (hUa x ((hUm x).2 (.inr hx))) hh)⟩)
        · rintro (⟨w, hw⟩ | hy)
          · rcases List.mem_cons.1 hw with h1 | h1
            · cases h1; exact .inr hx
            · exact .inl ⟨w, h1⟩
          · exact .inr (mem_without.1 hy).1
      · rcases List.mem_cons.1 hp with rfl | h1
        · exact fun hh => (mem_without.1 hh).2 rfl
        · exact fun hh => hTr p h1 (mem_without.1 hh).1
      · rcases List.mem_cons.1 hp with rfl | h1
        · refine ⟨fun d hd => by rw [show x.g.d = some d from hd]; exact put_eq, .inr ⟨Φ, by simp, hΦ, fun M hM e2 h2 => h M hM e2 fun t u ht => ?_⟩⟩
          obtain ⟨htr, hu⟩ := only_get ht
          refine h2 t htr u ?_
          rw [put_ne (fun hxt => by rw [hfr x hx t hxt] at hu; cases hu)]
          exact hu
        · exact t1 p h1
      · have hxt : x.g.d ≠ some t := hw (x, v) (by simp)
        rw [put_ne hxt] at ht
        exact he t u ht fun p hp => hw p (List.mem_cons_of_mem _ hp)
    | @turns rem ms e L x hx R h1 h2 h k ih =>
      intro T U e' hU hUa hUm hTr hT hfr he
      have hxU : x ∈ U := (hUm x).2 (.inr hx)
      have hU0 : U ≠ [] := fun h0 => by rw [h0] at hxU; cases hxU
      refine Rx.all (fun h0 => absurd (List.append_eq_nil_iff.1 h0).1 hU0) fun y hy => ⟨by simp, ?_⟩
      obtain ⟨hyA, hyB, hyC⟩ := split_ready htl hUa hU0 hy
      rw [hyC]
      have hy1 : y ∈ U ∧ ready y U = true := ⟨hyA, hyB⟩
      have hrd : ∀ z ∈ U, bit y.ds z.i = false := by simpa [ready] using hy1.2
      rcases (hUm y).1 hy1.1 with ⟨v, hv⟩ | hyr
      · exact come rem ms e L (.turns x hx R h1 h2 h k) T U e' hU hUa hUm hTr hT hfr he y v hv hy1.2
      · by_cases hyx : y = x
        · subst hyx
          have hpure : ∀ p ∈ T, ∀ Φ, (p.1.i, Φ) ∈ ms → ∀ v L', R v L' → Φ L' := by
            intro p hp Φ hm
            rcases h2 _ hm with hb | hb
            · have hpU : p.1 ∈ U := (hUm p.1).2 (.inl ⟨p.2, hp⟩)
              rw [hrd _ hpU] at hb; cases hb
            · exact hb
          have hsub : sub (e.only y.rs) e' := by
            intro t u ht
            obtain ⟨htr, hu⟩ := only_get ht
            refine he t u hu fun p hp hpd => ?_
            have hpU : p.1 ∈ U := (hUm p.1).2 (.inl ⟨p.2, hp⟩)
            simp only [okD, List.all_eq_true, Bool.or_eq_true] at hd
            rcases hd y (hUa y hxU) p.1 (hUa _ hpU) with hh | hh
            · exact dOK_iff hh t hpd htr
            · rw [hrd _ hpU] at hh; cases hh
          refine h e' hsub _ fun v L' hR => ⟨trivial, ?_⟩
          have hlt := without_lt hxU
          obtain ⟨t1, t2⟩ := tell (v := v) (e' := e') hx hUa hUm hTr hT hfr (fun _ h => h)
          refine ihn (without U y.i).length (by omega) (without rem y.i) ms _ L' (k v L' hR) T (without U y.i) _ rfl (fun z hz => hUa z (mem_without.1 hz).1) (fun z => ?_) (fun p hp hh => hTr p hp (mem_without.1 hh).1) (fun p hp => ?_) t2 fun t u ht hw => ?_
          · rw [mem_without, mem_without, hUm]
            constructor
            · rintro ⟨⟨w, hw⟩ | hz, hne⟩
              · exact .inl ⟨w, hw⟩
              · exact .inr ⟨hz, hne⟩
            · rintro (⟨w, hw⟩ | ⟨hz, hne⟩)
              · refine ⟨.inl ⟨w, hw⟩, fun hh => ?_⟩
                have := inj z (hUa z ((hUm z).2 (.inl ⟨w, hw⟩))) y (hUa y hxU) hh
                subst this
                exact hTr _ hw hx
              · exact ⟨.inr hz, hne⟩
          · have hto := t1 p hp
            refine ⟨hto.hv, ?_⟩
            rcases hto.hs with hh | ⟨Φ, hm, _, hh⟩
            · exact .inl hh
            · exact .inr ⟨Φ, hm, hpure p hp Φ hm v L' hR, hh⟩
          · by_cases hyt : y.g.d = some t
            · rw [hyt] at ht ⊢
              rw [put_eq] at ht ⊢; exact ht
            · rw [put_ne hyt] at ht ⊢
              exact he t u ht hw
        · have hb := List.all_eq_true.1 h1 y (mem_without.2 ⟨hyr, fun hh => hyx (inj y (hUa y hy1.1) x (hUa x hxU) hh)⟩)
          rw [hrd x hxU] at hb; cases hb
theorem ev_run {all : List It} {Kf : En → St → Prop} (hi : okI 0 all = true) (hd : okD all = true) (hn : okN all = true) (hK : ∀ e e' L, sub e e' → Kf e L → Kf e' L) :
    ∀ (n : Nat) (rem : List It) (ms : List (Nat × (St → Prop))) (e : En) (L : St), Ev P N Kf rem ms e L → ∀ (T : List (It × Value)) (U : List It) (e' : En), U.length = n → (∀ x ∈ U, x ∈ all) → (∀ x, x ∈ U ↔ (∃ v, (x, v) ∈ T) ∨ x ∈ rem) →
      (∀ p ∈ T, p.1 ∉ rem) → (∀ p ∈ T, Told P N ms e L p) → (∀ y ∈ rem, ∀ d, y.g.d = some d → e.get d = none) →
      (∀ t u, e.get t = some u → (∀ p ∈ T, p.1.g.d ≠ some t) → e'.get t = some u) → Rx P N U [] (fun _ => True) e' Kf L := by
  intro n rem ms e L h T U e' h1 h2 h3 h4 h5 h6 h7
  have := ev_runT (tl := []) (Kt := Kf) hi hd hn (fun y hy => by cases hy) (fun e e' L hs hk => Rx.all (fun _ => hK e e' L hs hk) fun x hx => by simp [readies] at hx) n rem ms e L h T U e' h1 h2 h3 h4 h5 h6 h7
  rwa [List.append_nil] at this
/-- What is known, but for what is to be written. -/
def En.clear (e : En) (l : List It) : En := e.filter fun p => l.all fun y => match y.g.d with | some d => !(Nat.beq d p.1) | none => true
theorem clear_get {l : List It} : ∀ {e : En} {t : Nat} {u : Value}, (e.clear l).get t = some u → (∀ y ∈ l, y.g.d ≠ some t) ∧ (e.get t = some u ∨ ∃ w, e.get t = some w)
  | [], t, u, h => by simp [En.clear, En.get] at h
  | (i, v) :: e, t, u, h => by
    unfold En.clear at h
    rw [List.filter_cons] at h
    split at h
    · rename_i hk
      simp only [En.get] at h ⊢
      cases hb : Nat.beq i t with
      | true =>
        rw [hb, cond_true] at h
        have hit := Nat.eq_of_beq_eq_true hb
        subst hit
        refine ⟨fun y hy hyd => ?_, .inl h⟩
        have := List.all_eq_true.1 hk y hy
        rw [hyd] at this
        simp at this
      | false =>
        rw [hb, cond_false] at h
        simpa using clear_get (e := e) h
    · simp only [En.get]
      have h1 := clear_get (e := e) h
      refine ⟨h1.1, ?_⟩
      cases hb : Nat.beq i t with
      | true => exact .inr ⟨v, rfl⟩
      | false => simpa using h1.2
theorem clear_sub {l : List It} : ∀ {e : En} {t : Nat} {u : Value}, (e.clear l).get t = some u → e.get t = some u
  | [], t, u, h => by simp [En.clear, En.get] at h
  | (i, v) :: e, t, u, h => by
    have hno := (clear_get h).1
    unfold En.clear at h
    rw [List.filter_cons] at h
    split at h
    · simp only [En.get] at h ⊢
      cases hb : Nat.beq i t with
      | true => rw [hb, cond_true] at h; rw [cond_true]; exact h
      | false => rw [hb, cond_false] at h; rw [cond_false]; exact clear_sub (e := e) h
    · rename_i hk
      have h1 := clear_sub (e := e) h
      simp only [En.get]
      cases hb : Nat.beq i t with
      | false => exact h1
      | true =>
        exfalso
        have hit := Nat.eq_of_beq_eq_true hb
        subst hit
        refine hk (List.all_eq_true.2 fun y hy => ?_)
        cases hyd : y.g.d with
        | none => rfl
        | some d =>
          simp only [Bool.not_eq_true']
          cases hb2 : Nat.beq d i with
          | false => rfl
          | true => exact absurd (by rw [hyd, Nat.eq_of_beq_eq_true hb2]) (hno y hy)
def chkO (l : List It) : Bool := okI 0 l && (okD l && okN l)
theorem Cx.ord {l : List It} {e : En} {d : C} {K : Kx} (hc : chkO l = true) (h : Ev P N (fun fin L => Cx P N d fin K L) l [] (e.clear l) L) : Cx P N (.rd l) e (Ksq P N d K) L := by
  simp only [chkO, Bool.and_eq_true] at hc
  refine Cx.rd ?_
  refine ev_run (Kf := Krg (Ksq P N d K)) hc.1 hc.2.1 hc.2.2 (fun e e' L hs hk => Cx.less hs hk) l.length l [] (e.clear l) L h [] l e rfl (fun _ h => h) (fun x => by simp) (fun _ h => by cases h) (fun _ h => by cases h) (fun y hy d hyd => ?_) (fun t u ht _ => clear_sub ht)
  cases hg : (e.clear l).get d with
  | none => rfl
  | some u => exact absurd hyd ((clear_get hg).1 y hy)
section
variable {Kf : En → St → Prop} {e : En} {rem rem' : List It} {ms : List (Nat × (St → Prop))} {i ds : Nat} {rs : List Nat} {d : Option Nat} {g : Option (Nat × Bool)}
theorem Sc_step {x : It} {v : Value} (h : stepM x e = some v) : ∀ L e', sub (e.only x.rs) e' → Sc P N x.g e' v L := by
  intro L e' hs
  obtain ⟨i, ds, rs, d, g, s⟩ := x
  unfold stepM at h
  simp only at h hs
  cases hg : gon (e.only rs) g with
  | true =>
    rw [hg, cond_true] at h
    cases hp : plainP s with
    | false => rw [hp] at h; cases h
    | true =>
      rw [hp, cond_true] at h
      split at h
      · rename_i φ u hu
        cases h
        exact .gon hg hs (.pv hu (plainP_pv hp hu) hs)
      · cases h
  | false =>
    rw [hg, cond_false] at h
    split at h
    · rename_i t b
      cases hb : offs (e.only rs) t b with
      | true =>
        rw [hb, cond_true] at h; cases h
        refine fun K k => Sx.off (t := t) (b := b) ?_ (Sx.nil k)
        unfold offs at hb ⊢
        cases h1 : (e.only rs).get t with
        | none => rw [h1] at hb; simp at hb
        | some u => rw [hs _ _ h1]; rw [h1] at hb; exact hb
      | false => rw [hb] at h; cases h
    · cases h
theorem Ev.done {c : C} {K : Kx} (h : Cx P N c e K L) : Ev P N (fun fin L => Cx P N c fin K L) [] ms e L := .nil h
/-- One plain operation. -/
theorem Ev.stp {x : It} {v : Value} (hx : x ∈ rem) (h : stepM x e = some v) (k : Ev P N Kf (without rem x.i) ms (e.put x.g.d v) L) : Ev P N Kf rem ms e L := .free x hx v (Sc_step h) k
/-- Looking through the list from place j on, so often. -/
def scanE : Nat → Nat → List It → En → Option (List It × En)
  | 0, _, _, _ => none
  | n + 1, j, rem, e => match rem[j]? with
    | some x => match stepM x e with
      | some v => match scanE n j (without rem x.i) (e.put x.g.d v) with
        | some q => some q
        | none => some (without rem x.i, e.put x.g.d v)
      | none => scanE n (j + 1) rem e
    | none => none
theorem Ev.pvs : ∀ {n j : Nat} {rem rem' : List It} {e e' : En}, scanE n j rem e = some (rem', e') → Ev P N Kf rem' ms e' L → Ev P N Kf rem ms e L
  | 0, _, _, _, _, _, h, _ => by cases h
  | n + 1, j, rem, rem', e, e', h, k => by
    simp only [scanE] at h
    split at h
    · rename_i x hx
      split at h
      · rename_i v hv
        split at h
        · rename_i q hq
          cases h
          exact Ev.stp (List.mem_of_getElem? hx) hv (Ev.pvs hq k)
        · cases h
          exact Ev.stp (List.mem_of_getElem? hx) hv k
      · exact Ev.pvs h k
    · cases h
end
end
end Go.Proofs.YtlpikhdiiehcaaaDoor

/-
  The stash (chapter 8): what its functions do to it.
-/
set_option linter.unusedVariables false
namespace Go.Proofs.YtlpikhdiiehcaaaDoor
open Go
attribute [local irreducible] Sx Cx Rx Fx Krg Ksq Kbl Klp Kr
section
variable {L F : St}
theorem Ent.rownil (E sz : Nat) : Ent L (pt none (Row E sz 0 0 []) :: L) := .of fun h H =>
  ⟨Hp.no, h, fun _ => .inl rfl, by funext k; simp [Hp.join, Hp.no], ⟨by simp, .inl ⟨rfl, rfl, rfl, rfl⟩⟩, H⟩
end
end Go.Proofs.YtlpikhdiiehcaaaDoor

/-
  Plain helpers of the statements (numbers, lists of numbers), and the reference's stash.
-/
set_option linter.unusedVariables false
namespace Go.Proofs.YtlpikhdiiehcaaaDoor
open Go
attribute [local irreducible] Sx Cx Rx Fx Krg Ksq Kbl Klp Kr
section
variable {P : Program} {N : Nat} {e : En} {K : En → St → Prop} {L F : St} {l : List G}
/-- One element read through. -/
theorem Has.at_ {b o i : Nat} {vs : List Value} {v : Value} (h : Has L b o vs) (hv : vs[i]? = some v) : Has L b (o + i) [v] := by
  have := Has.sub (i := i) (n := 1) h
  rwa [take_one hv] at this
end
section
variable {L F : St}
end
end Go.Proofs.YtlpikhdiiehcaaaDoor

/-
  More rules: calls that leave a part as it was; regions that draw their order, walked at the head.
-/
set_option linter.unusedVariables false
set_option linter.unusedSimpArgs false
namespace Go.Proofs.YtlpikhdiiehcaaaDoor
open Go
section
variable {P : Program} {N : Nat} {L M F : St}
/-- What the memory that comes of a call tells. -/
theorem Fx.pure {f : FuncId} {vs : List Value} {R : Value → St → Prop} (x : Fx P f vs L R) {p : Value → St → Prop} (hp : ∀ v L', R v L' → ∀ h, holds L' h → p v L') : Fx P f vs L (fun v L' => R v L' ∧ p v L') :=
  fun w0 w s => (x w0 w s).mono fun en w' ⟨v, L', he, hR, hS⟩ => by
    obtain ⟨h, hh, _⟩ := hS.heap
    exact ⟨v, L', he, ⟨hR, hp v L' hR h hh⟩, hS⟩
/-! Ends that hold as well where more is known of the temporaries. -/
class Mono (Kf : En → St → Prop) : Prop where
  le : ∀ e e' L, sub e e' → Kf e L → Kf e' L
instance Mono.cx {c : C} {K : Kx} : Mono (fun e L => Cx P N c e K L) := ⟨fun _ _ _ hs h => Cx.less hs h⟩
instance Mono.sq {c : C} {K : Kx} : Mono (fun e L => Ksq P N c K .nm e L) := ⟨fun _ _ _ hs h => Cx.less hs h⟩
instance Mono.bl {K : Kx} {i : Nat} [m : Mono (fun e L => K .nm e L)] : Mono (fun e L => Kbl i K .nm e L) := ⟨fun e e' L hs h => m.le e e' L hs h⟩
instance Mono.lp {α : Type _} {K : Kx} {T : α → En} {S : α → St} {μ : α → Nat} {x : α} : Mono (fun e L => Klp K T S μ x .nm e L) := ⟨fun _ _ _ hs h => Klp.mono _ _ hs h⟩
instance Mono.jn {β : Type _} {K : Kx} {T : β → En} {S : β → St} : Mono (fun e L => Kjn K T S .nm e L) := ⟨fun _ _ _ hs h => Kjn.mono _ _ hs h⟩
instance Mono.kr {rs : List RV} {R : Value → St → Prop} : Mono (fun e L => Kr P N rs R .nm e L) := ⟨fun e e' L hs ⟨h1, v, L', h2, h3, h4⟩ => ⟨h1, v, L', fun fn a w0 w hr ok s => h2 fn a w0 w hr (ok.sub hs) s, h3, h4⟩⟩
/-! Only which operations are left counts, not how they are listed. -/
theorem Ev.same {Kf : En → St → Prop} {rem : List It} {ms : List (Nat × (St → Prop))} {e : En} {L : St} (h : Ev P N Kf rem ms e L) : ∀ {rem2 : List It}, (∀ x, x ∈ rem2 ↔ x ∈ rem) → Ev P N Kf rem2 ms e L := by
  induction h with
  | nil h =>
    intro rem2 hm
    cases rem2 with
    | nil => exact .nil h
    | cons x r => exact absurd ((hm x).1 (by simp)) (by simp)
  | free x hx v h k ih => exact fun hm => .free x ((hm x).2 hx) v h (ih fun y => by rw [mem_without, mem_without, hm])
  | looks x hx v Φ hΦ h k ih => exact fun hm => .looks x ((hm x).2 hx) v Φ hΦ h (ih fun y => by rw [mem_without, mem_without, hm])
  | turns x hx R h1 h2 h k ih =>
    intro rem2 hm
    refine .turns x ((hm x).2 hx) R (List.all_eq_true.2 fun y hy => List.all_eq_true.1 h1 y ?_) h2 h fun v L' hR => ih v L' hR fun y => by rw [mem_without, mem_without, hm]
    rw [mem_without] at hy ⊢
    exact ⟨(hm y).1 hy.1, hy.2⟩
def pull : Nat → List It → Option (It × List It)
  | _, [] => none
  | 0, x :: r => some (x, r)
  | n + 1, x :: r => match pull n r with
    | some (y, k) => some (y, x :: k)
    | none => none
theorem pull_mem : ∀ {n : Nat} {l : List It} {x : It} {r : List It}, pull n l = some (x, r) → ∀ y, y ∈ l ↔ y ∈ x :: r
  | 0, [], _, _, h, _ => by cases h
  | n + 1, [], _, _, h, _ => by cases h
  | 0, a :: l, x, r, h, y => by cases h; rfl
  | n + 1, a :: l, x, r, h, y => by
    simp only [pull] at h
    split at h
    · rename_i z k hz
      cases h
      have := pull_mem hz y
      simp only [List.mem_cons] at this ⊢
      rw [this]
      constructor
      · rintro (h | h | h) <;> simp [h]
      · rintro (h | h | h) <;> simp [h]
    · cases h
section
variable {Kf : En → St → Prop} {e : En} {rem rem' r : List It} {ms : List (Nat × (St → Prop))} {i ds sz : Nat} {rs : List Nat} {d : Option Nat} {g : Option (Nat × Bool)}
/-- One operation comes to the head. -/
theorem Ev.bring (j : Nat) {x : It} (h : pull j rem = some (x, r)) (k : Ev P N Kf (x :: r) ms e L) : Ev P N Kf rem ms e L := k.same fun y => pull_mem h y
/-- No two of one place. -/
def dist : List It → Bool
  | [] => true
  | x :: l => l.all (fun y => !(Nat.beq y.i x.i)) && dist l
theorem without_head {x : It} (h : r.all (fun y => !(Nat.beq y.i x.i)) = true) : without (x :: r) x.i = r := by
  unfold without
  rw [List.filter_cons]
  simp only [Nat.beq_refl, Bool.not_true, Bool.false_eq_true, if_false]
  rw [List.filter_eq_self]
  exact fun y hy => List.all_eq_true.1 h y hy
theorem dist_move {x : It} {r : List It} : ∀ {pre : List It}, dist (pre ++ x :: r) = true → dist (x :: (pre ++ r)) = true
  | [], hd => hd
  | y :: pre, hd => by
    simp only [List.cons_append, dist, Bool.and_eq_true, List.all_append, List.all_cons] at hd
    obtain ⟨⟨h1, h2, h3⟩, h4⟩ := hd
    have := dist_move h4
    simp only [List.cons_append, dist, Bool.and_eq_true, List.all_append, List.all_cons] at this ⊢
    refine ⟨⟨?_, this.1⟩, ⟨h1, h3⟩, this.2⟩
    simp only [Bool.not_eq_true'] at h2 ⊢
    cases hb : Nat.beq y.i x.i with
    | false => rfl
    | true => rw [Nat.eq_of_beq_eq_true hb] at h2; simp at h2
/-- Plain operations, in one pass; so many that cannot be told yet are passed by. -/
def pass : Nat → List It → En → Option (List It × En)
  | _, [], _ => none
  | n, x :: r, e => match stepM x e with
    | some v => match x.g.d with
      | some t => match pass n r ((t, v) :: e) with
        | some q => some q
        | none => some (r, (t, v) :: e)
      | none => match pass n r e with
        | some q => some q
        | none => some (r, e)
    | none => match n with
      | 0 => none
      | n + 1 => match pass n r e with
        | some (k, e') => some (x :: k, e')
        | none => none
theorem pass_ev : ∀ {n : Nat} {r : List It} {e : En} {rem' : List It} {e' : En}, pass n r e = some (rem', e') → ∀ pre : List It, dist (pre ++ r) = true → Ev P N Kf (pre ++ rem') ms e' L → Ev P N Kf (pre ++ r) ms e L
  | _, [], _, _, _, h, _, _, _ => by cases h
  | n, x :: r, e, rem', e', h, pre, hd, k => by
    have hd' : dist (x :: (pre ++ r)) = true := dist_move hd
    have hd2 : (pre ++ r).all (fun y => !(Nat.beq y.i x.i)) = true ∧ dist (pre ++ r) = true := by simpa [dist] using hd'
    rw [pass.eq_def] at h
    simp only at h
    have tell : ∀ {v : Value}, stepM x e = some v → Ev P N Kf (pre ++ r) ms (e.put x.g.d v) L → Ev P N Kf (pre ++ x :: r) ms e L := by
      intro v hv k
      refine Ev.same (rem := x :: (pre ++ r)) (Ev.stp (x := x) (by simp) hv ?_) fun y => by simp only [List.mem_append, List.mem_cons]; constructor <;> (rintro (h | h | h) <;> simp [h])
      rw [without_head hd2.1]
      exact k
    split at h
    · rename_i v hv
      refine tell hv ?_
      split at h
      · rename_i t ht
        rw [ht]
        split at h
        · rename_i q hq
          cases h
          exact pass_ev hq pre hd2.2 k
        · cases h
          exact k
      · rename_i ht
        rw [ht]
        split at h
        · rename_i q hq
          cases h
          exact pass_ev hq pre hd2.2 k
        · cases h
          exact k
    · cases n with
      | zero => cases h
      | succ n =>
        simp only at h
        split at h
        · rename_i kk ee hq
          cases h
          have := pass_ev hq (pre ++ [x]) (by simpa using hd) (by simpa using k)
          simpa using this
        · cases h
theorem Ev.pass (n : Nat) {e' : En} (h : Proofs.YtlpikhdiiehcaaaDoor.pass n rem e = some (rem', e')) (hd : dist rem = true) (k : Ev P N Kf rem' ms e' L) : Ev P N Kf rem ms e L := pass_ev h [] hd k
/-- One plain operation at the head. -/
theorem Ev.stpH {x : It} {v : Value} {e' : En} (hd : dist (x :: r) = true) (h : stepM x e = some v) (he : (match x.g.d with | some t => (t, v) :: e | none => e) = e') (k : Ev P N Kf r ms e' L) : Ev P N Kf (x :: r) ms e L := by
  refine Ev.stp (x := x) (by simp) h ?_
  rw [without_head (by simp only [dist, Bool.and_eq_true] at hd; exact hd.1)]
  subst he
  cases hx : x.g.d with
  | none => rw [hx] at k; exact k
  | some t => rw [hx] at k; exact k
/-- What is known may be less. -/
theorem only_sub {T e : En} (hs : sub T e) (rs : List Nat) : sub (T.only rs) (e.only rs) := by
  intro t u h
  have ⟨hm, hu⟩ := only_get h
  have hu' := hs t u hu
  clear h hu hs
  induction rs with
  | nil => cases hm
  | cons a r ih =>
    unfold En.only
    by_cases hat : a = t
    · subst hat
      rw [hu']
      simp [En.get]
    · have hm' : t ∈ r := by
        rcases List.mem_cons.1 hm with h | h
        · exact absurd h.symm hat
        · exact h
      have hb : Nat.beq a t = false := by
        cases hb : Nat.beq a t with
        | false => rfl
        | true => exact absurd (Nat.eq_of_beq_eq_true hb) hat
      split
      · simp only [En.get, hb, cond_false]; exact ih hm'
      · exact ih hm'
theorem sub.trans {a b c : En} (h : sub a b) (k : sub b c) : sub a c := fun i v x => k i v (h i v x)
theorem sub.put {a b : En} (h : sub a b) (d : Option Nat) (v : Value) : sub (a.put d v) (b.put d v) := by
  intro i u hi
  cases d with
  | none => exact h i u hi
  | some t =>
    simp only [En.put, En.get] at hi ⊢
    cases hb : Nat.beq t i with
    | true => simp only [hb, cond_true] at hi ⊢; exact hi
    | false => simp only [hb, cond_false] at hi ⊢; exact h i u hi
theorem Ev.less {T : En} (hK : ∀ e e' L, sub e e' → Kf e L → Kf e' L) (h : Ev P N Kf rem ms T L) : ∀ {e : En}, sub T e → Ev P N Kf rem ms e L := by
  induction h with
  | nil h => exact fun hs => .nil (hK _ _ _ hs h)
  | free x hx v h k ih => exact fun hs => .free x hx v (fun L e' he => h L e' ((only_sub hs _).trans he)) (ih (hs.put _ _))
  | looks x hx v Φ hΦ h k ih => exact fun hs => .looks x hx v Φ hΦ (fun M hM e' he => h M hM e' ((only_sub hs _).trans he)) (ih (hs.put _ _))
  | turns x hx R h1 h2 h k ih => exact fun hs => .turns x hx R h1 h2 (fun e' he => h e' ((only_sub hs _).trans he)) fun v L' hR => ih v L' hR (hs.put _ _)
theorem sub_learn {t : Nat} {p q : Value} (h : e.get t = some p) (hq : p = q) : sub ((t, q) :: e) e := by
  subst hq
  intro i u hi
  simp only [En.get] at hi
  cases hb : Nat.beq t i with
  | true => rw [hb, cond_true] at hi; rw [← Nat.eq_of_beq_eq_true hb, h]; exact hi
  | false => rw [hb, cond_false] at hi; exact hi
/-- A value known otherwise. -/
theorem Ev.learn [hK : Mono Kf] (t : Nat) {p q : Value} (h : e.get t = some p) (hq : p = q) (k : Ev P N Kf rem ms ((t, q) :: e) L) : Ev P N Kf rem ms e L := Ev.less hK.le k (sub_learn h hq)
theorem Ev.yes [hK : Mono Kf] (t : Nat) {p : Bool} (h : e.get t = some (.bool p)) (hp : p = true) (k : Ev P N Kf rem ms ((t, .bool true) :: e) L) : Ev P N Kf rem ms e L := .learn t h (by rw [hp]) k
theorem Ev.no [hK : Mono Kf] (t : Nat) {p : Bool} (h : e.get t = some (.bool p)) (hp : p = false) (k : Ev P N Kf rem ms ((t, .bool false) :: e) L) : Ev P N Kf rem ms e L := .learn t h (by rw [hp]) k
theorem Ev.fin (h : Kf e L) : Ev P N Kf [] ms e L := .nil h
/-- What is known, but for what is to be written; told cell by cell. -/
def clr (ds : List Nat) : En → Option En
  | [] => some []
  | (i, v) :: r => match clr ds r with
    | some q => bif ds.any (Nat.beq i) then some q else some ((i, v) :: q)
    | none => none
def dsts : List It → List Nat
  | [] => []
  | x :: r => match x.g.d with | some d => d :: dsts r | none => dsts r
theorem clr_any {l : List It} {i : Nat} : (dsts l).any (Nat.beq i) = true → ∃ y ∈ l, y.g.d = some i := by
  induction l with
  | nil => intro h; cases h
  | cons x r ih =>
    intro h
    unfold dsts at h
    split at h
    · rename_i d hd
      simp only [List.any_cons, Bool.or_eq_true] at h
      rcases h with h | h
      · exact ⟨x, by simp, by rw [hd, Nat.eq_of_beq_eq_true h]⟩
      · obtain ⟨y, hy, he⟩ := ih h; exact ⟨y, by simp [hy], he⟩
    · obtain ⟨y, hy, he⟩ := ih h; exact ⟨y, by simp [hy], he⟩
theorem clr_eq {l : List It} : ∀ {e q : En}, clr (dsts l) e = some q → q = e.clear l
  | [], q, h => by cases h; rfl
  | (i, v) :: r, q, h => by
    simp only [clr] at h
    split at h
    · rename_i q' hq
      have ih := clr_eq hq
      subst ih
      unfold En.clear
      rw [List.filter_cons]
      cases hb : (dsts l).any (Nat.beq i) with
      | true =>
        rw [hb, cond_true] at h; cases h
        obtain ⟨y, hy, he⟩ := clr_any hb
        rw [if_neg]
        · rfl
        · intro hh
          have := List.all_eq_true.1 hh y hy
          rw [he] at this; simp at this
      | false =>
        rw [hb, cond_false] at h; cases h
        rw [if_pos]
        · rfl
        · refine List.all_eq_true.2 fun y hy => ?_
          cases hyd : y.g.d with
          | none => rfl
          | some d =>
            simp only [Bool.not_eq_true']
            cases hdi : Nat.beq d i with
            | false => rfl
            | true =>
              exfalso
              rw [Nat.eq_of_beq_eq_true hdi] at hyd
              have : (dsts l).any (Nat.beq i) = true := by
                clear hb hq
                induction l with
                | nil => cases hy
                | cons x l ih =>
                  unfold dsts
                  rcases List.mem_cons.1 hy with rfl | hy
                  · rw [hyd]; simp
                  · split
                    · simp only [List.any_cons, Bool.or_eq_true]; exact .inr (ih hy)
                    · exact ih hy
              rw [hb] at this; cases this
    · cases h
theorem Cx.ordc {l : List It} {e q : En} {d : C} {K : Kx} (hq : clr (dsts l) e = some q) (hc : chkO l = true) (h : Ev P N (fun fin L => Cx P N d fin K L) l [] q L) : Cx P N (.rd l) e (Ksq P N d K) L := by
  refine Cx.ord hc ?_
  rw [← clr_eq hq]
  exact h
/-- The last one behind all others: it may write what they read. -/
def lastOne (l : List It) (y : It) : Bool := l.all fun x => bit y.ds x.i && !(Nat.beq y.i x.i)
theorem Cx.ordl {l : List It} {y : It} {e q : En} {K : Kx} [hK : Mono (fun e L => K .nm e L)] (hq : clr (dsts l) e = some q) (hc : chkO l = true) (hy : lastOne l y = true)
    (h : Ev P N (fun fin L => Sx P N [y.g] fin (fun e L => K .nm e L) L) l [] q L) : Cx P N (.rd (l ++ [y])) e K L := by
  rw [clr_eq hq] at h
  simp only [chkO, Bool.and_eq_true] at hc
  refine Cx.rd ?_
  refine ev_runT (Kf := fun fin L => Sx P N [y.g] fin (fun e L => K .nm e L) L) (Kt := Krg K) hc.1 hc.2.1 hc.2.2 (fun z hz x hx => ?_) (fun e e' L hs hk => ?_) l.length l [] (e.clear l) L h [] l e rfl (fun _ h => h) (fun x => by simp) (fun _ h => by cases h) (fun _ h => by cases h) (fun y hy d hyd => ?_) (fun t u ht _ => clear_sub ht)
  · have : z = y := by simpa using hz
    subst this
    simp only [lastOne, List.all_eq_true, Bool.and_eq_true] at hy
    refine ⟨(hy x hx).1, fun e => ?_⟩
    have := (hy x hx).2
    rw [e] at this; simp at this
  · refine Rx.all (fun h => by cases h) fun x hx => ⟨by simp, ?_⟩
    have hxy : x = y := by
      have : x ∈ [y] := (List.mem_filter.1 hx).1
      simpa using this
    subst hxy
    intro ops os Q a w0 w hc2 ok s kk
    refine hk ops os Q a w0 w hc2 (ok.sub hs) s fun a' w' e2 L2 h2 => kk a' w' e2 L2 ⟨trivial, ?_⟩
    have hw : without [x] x.i = [] := by simp [without]
    rw [hw]
    exact Rx.nil h2
  · cases hg : (e.clear l).get d with
    | none => rfl
    | some u => exact absurd hyd ((clear_get hg).1 y hy)
def unsnoc : List It → Option (List It × It)
  | [] => none
  | x :: r => match r with
    | [] => some ([], x)
    | _ :: _ => match unsnoc r with
      | some (l, y) => some (x :: l, y)
      | none => none
theorem unsnoc_eq : ∀ {l0 l : List It} {y : It}, unsnoc l0 = some (l, y) → l0 = l ++ [y]
  | [], _, _, h => by cases h
  | [x], l, y, h => by cases h; rfl
  | x :: z :: r, l, y, h => by
    have ih := @unsnoc_eq (z :: r)
    unfold unsnoc at h
    simp only at h
    split at h
    · rename_i l' y' hq
      cases h
      rw [ih hq]; rfl
    · cases h
theorem Cx.ordu {l0 l : List It} {y : It} {e q : En} {K : Kx} [hK : Mono (fun e L => K .nm e L)] (hu : unsnoc l0 = some (l, y)) (hq : clr (dsts l) e = some q) (hc : chkO l = true) (hy : lastOne l y = true)
    (h : Ev P N (fun fin L => Sx P N [y.g] fin (fun e L => K .nm e L) L) l [] q L) : Cx P N (.rd l0) e K L := by
  rw [unsnoc_eq hu]
  exact Cx.ordl hq hc hy h
/-- At the head: whatever looks. -/
theorem Ev.lookH {s : S} {v : Value} (Φ : St → Prop) (hd : dist (⟨i, ds, rs, ⟨d, g, s⟩⟩ :: r) = true) (hg : gon (e.only rs) g = true) (hΦ : Φ L) (h : ∀ M, Φ M → ∀ e', sub (e.only rs) e' → Sc P N ⟨d, none, s⟩ e' v M)
    (k : Ev P N Kf r ((i, Φ) :: ms) (e.put d v) L) : Ev P N Kf (⟨i, ds, rs, ⟨d, g, s⟩⟩ :: r) ms e L :=
  .looks ⟨i, ds, rs, ⟨d, g, s⟩⟩ (by simp) v Φ hΦ (fun M hM e' hs => .gon hg hs (h M hM e' hs)) (by
    rw [show without (⟨i, ds, rs, ⟨d, g, s⟩⟩ :: r) i = r from without_head (x := ⟨i, ds, rs, ⟨d, g, s⟩⟩) (by simp only [dist, Bool.and_eq_true] at hd; exact hd.1)]
    exact k)
/-- A load. -/
theorem Ev.ldH {x : X} {n b off : Nat} {ag : Bool} {vs : List Value} {v : Value} (hd : dist (⟨i, ds, rs, ⟨d, g, .ld x n ag⟩⟩ :: r) = true) (hg : gon (e.only rs) g = true) (hx : x.get (e.only rs) = some (.pointer (some ⟨b, off, none⟩))) (hh : Has L b off vs) (hv : ldv n ag vs = some v)
    (k : Ev P N Kf r ((i, fun M => Has M b off vs) :: ms) (e.put d v) L) : Ev P N Kf (⟨i, ds, rs, ⟨d, g, .ld x n ag⟩⟩ :: r) ms e L :=
  .lookH (fun M => Has M b off vs) hd hg hh (fun M hM e' hs K k => Sx.ld (X.get_sub hx hs) hM hv (Sx.nil k)) k
theorem Ev.ldbH {x : X} {b off : Nat} {T : TypeId} {cs : List Value} {v : Value} [t : Take L (some ⟨b, 0, none⟩) (Blk T cs) F] (hd : dist (⟨i, ds, rs, ⟨d, g, .ld x 1 false⟩⟩ :: r) = true) (hg : gon (e.only rs) g = true) (hx : x.get (e.only rs) = some (.pointer (some ⟨b, off, none⟩)))
    (hv : cs[off]? = some v) (k : Ev P N Kf r ((i, fun M => Has M b off [v]) :: ms) (e.put d v) L) : Ev P N Kf (⟨i, ds, rs, ⟨d, g, .ld x 1 false⟩⟩ :: r) ms e L :=
  .ldH hd hg hx ((Has.blk (T := T) (cs := cs) (n := 1)).one (take_one hv)) rfl k
theorem Ev.ldrH {x : X} {b off E sz n cap : Nat} {xs : List Value} {v : Value} [t : Take L (some ⟨b, 0, none⟩) (Row E sz n cap xs) F] (hd : dist (⟨i, ds, rs, ⟨d, g, .ld x 1 false⟩⟩ :: r) = true) (hg : gon (e.only rs) g = true) (hx : x.get (e.only rs) = some (.pointer (some ⟨b, off, none⟩)))
    (hv : xs[off]? = some v) (k : Ev P N Kf r ((i, fun M => Has M b off [v]) :: ms) (e.put d v) L) : Ev P N Kf (⟨i, ds, rs, ⟨d, g, .ld x 1 false⟩⟩ :: r) ms e L :=
  .ldH hd hg hx ((Has.row (E := E) (sz := sz) (n := n) (cap := cap) (xs := xs) (m := 1)).one (take_one hv)) rfl k
theorem Ev.ldbsH {x : X} {b off n : Nat} {T : TypeId} {cs : List Value} [t : Take L (some ⟨b, 0, none⟩) (Blk T cs) F] (hd : dist (⟨i, ds, rs, ⟨d, g, .ld x n true⟩⟩ :: r) = true) (hg : gon (e.only rs) g = true) (hx : x.get (e.only rs) = some (.pointer (some ⟨b, off, none⟩)))
    (hn : Nat.ble (off + n) cs.length = true) (k : Ev P N Kf r ((i, fun M => Has M b off ((cs.drop off).take n)) :: ms) (e.put d (.agg ((cs.drop off).take n).toArray)) L) : Ev P N Kf (⟨i, ds, rs, ⟨d, g, .ld x n true⟩⟩ :: r) ms e L := by
  refine .ldH hd hg hx (Has.blk (T := T) (cs := cs) (n := n)) ?_ k
  have h1 := Nat.le_of_ble_eq_true hn
  have h2 : ((cs.drop off).take n).length = n := by simp; omega
  simp [ldv, h2]
/-- A plain operation that asks for something. -/
theorem Ev.pvH {s : S} {φ : Prop} {v : Value} (hd : dist (⟨i, ds, rs, ⟨d, g, s⟩⟩ :: r) = true) (hg : gon (e.only rs) g = true) (hp : Proofs.YtlpikhdiiehcaaaDoor.pv (e.only rs) s = some (φ, v)) (hφ : φ) (k : Ev P N Kf r ms (e.put d v) L) :
    Ev P N Kf (⟨i, ds, rs, ⟨d, g, s⟩⟩ :: r) ms e L :=
  .free ⟨i, ds, rs, ⟨d, g, s⟩⟩ (by simp) v (fun L e' hs => .gon hg hs (.pv hp hφ hs)) (by
    rw [without_head (x := ⟨i, ds, rs, ⟨d, g, s⟩⟩) (by simp only [dist, Bool.and_eq_true] at hd; exact hd.1)]
    exact k)
/-- A call that leaves what is known. -/
theorem Ev.cakH {f : FuncId} {xs : List X} {vs : List Value} {v : Value} (hd : dist (⟨i, ds, rs, ⟨d, g, .ca f xs⟩⟩ :: r) = true) (hg : gon (e.only rs) g = true) (hx : gets (e.only rs) xs = some vs) (hf : Fx P f vs L (fun v' L' => v' = v ∧ L = L'))
    (k : Ev P N Kf r ((i, fun M => Fx P f vs M (fun v' L' => v' = v ∧ M = L')) :: ms) (e.put d v) L) : Ev P N Kf (⟨i, ds, rs, ⟨d, g, .ca f xs⟩⟩ :: r) ms e L :=
  .lookH (fun M => Fx P f vs M (fun v' L' => v' = v ∧ M = L')) hd hg hf (fun M hM e' hs K k => Sx.ca (gets_sub hs hx) hM fun v' L' h => by
    obtain ⟨rfl, rfl⟩ := h
    exact Sx.nil k) k
theorem Se.gon {T e' : En} {s : S} {R : Value → St → Prop} (hg : Proofs.YtlpikhdiiehcaaaDoor.gon T g = true) (hs : sub T e') (h : Se P N ⟨d, none, s⟩ e' L R) : Se P N ⟨d, g, s⟩ e' L R := by
  unfold Proofs.YtlpikhdiiehcaaaDoor.gon at hg
  split at hg
  · exact h
  · rename_i t b
    split at hg
    · rename_i c hc
      have hcb : c = b := by simpa using hg
      subst hcb
      exact fun K k => Sx.on (hs _ _ hc) (h K k)
    · cases hg
/-- What is left depends on it. -/
def lastly (i : Nat) (r : List It) : Bool := r.all fun y => !(Nat.beq y.i i) && bit y.ds i
theorem lastly_all {i : Nat} {r : List It} (h : lastly i r = true) : r.all (fun y => bit y.ds i) = true ∧ r.all (fun y => !(Nat.beq y.i i)) = true := by
  simp only [lastly, Bool.and_eq_true, List.all_eq_true] at h ⊢
  exact ⟨fun y hy => (h y hy).2, fun y hy => (h y hy).1⟩
/-- What has looked is ahead of it, or what it came to holds still. -/
inductive Pres (ds : Nat) (R : Value → St → Prop) : List (Nat × (St → Prop)) → Prop
  | nil : Pres ds R []
  | dep {m : Nat} {Φ : St → Prop} {l : List (Nat × (St → Prop))} (h : bit ds m = true) (k : Pres ds R l) : Pres ds R ((m, Φ) :: l)
  | keep {m : Nat} {Φ : St → Prop} {l : List (Nat × (St → Prop))} (h : ∀ v L', R v L' → Φ L') (k : Pres ds R l) : Pres ds R ((m, Φ) :: l)
theorem Pres.all {ds : Nat} {R : Value → St → Prop} {ms : List (Nat × (St → Prop))} (h : Pres ds R ms) : ∀ q ∈ ms, bit ds q.1 = true ∨ ∀ v L', R v L' → q.2 L' := by
  induction h with
  | nil => intro q hq; cases hq
  | dep h k ih =>
    intro q hq
    rcases List.mem_cons.1 hq with rfl | hq
    · exact .inl h
    · exact ih q hq
  | keep h k ih =>
    intro q hq
    rcases List.mem_cons.1 hq with rfl | hq
    · exact .inr h
    · exact ih q hq
/-- All of them ahead of it. -/
theorem Pres.deps {ds : Nat} {R : Value → St → Prop} : ∀ {ms : List (Nat × (St → Prop))}, (ms.all fun q => bit ds q.1) = true → Pres ds R ms
  | [], _ => .nil
  | q :: l, h => by
    simp only [List.all_cons, Bool.and_eq_true] at h
    exact .dep h.1 (Pres.deps h.2)
/-- An operation that turns what is known. -/
theorem Ev.genH {s : S} {R : Value → St → Prop} (hd : lastly i r = true) (hp : Pres ds R ms) (hg : gon (e.only rs) g = true) (h : ∀ e', sub (e.only rs) e' → Se P N ⟨d, none, s⟩ e' L R)
    (k : ∀ v L', R v L' → Ev P N Kf r ms (e.put d v) L') : Ev P N Kf (⟨i, ds, rs, ⟨d, g, s⟩⟩ :: r) ms e L := by
  have hw := without_head (x := ⟨i, ds, rs, ⟨d, g, s⟩⟩) (lastly_all hd).2
  refine .turns ⟨i, ds, rs, ⟨d, g, s⟩⟩ (by simp) R ?_ hp.all (fun e' hs => .gon hg hs (h e' hs)) fun v L' hR => ?_
  · rw [show without (_ :: r) i = r from hw]; exact (lastly_all hd).1
  · rw [show without (_ :: r) i = r from hw]; exact k v L' hR
/-- A call that turns what is known. -/
theorem Ev.caH {f : FuncId} {xs : List X} {vs : List Value} {R : Value → St → Prop} (hd : lastly i r = true) (hg : gon (e.only rs) g = true) (hx : gets (e.only rs) xs = some vs) (hf : Fx P f vs L R) (hp : Pres ds R ms)
    (k : ∀ v L', R v L' → Ev P N Kf r ms (e.put d v) L') : Ev P N Kf (⟨i, ds, rs, ⟨d, g, .ca f xs⟩⟩ :: r) ms e L :=
  .genH hd hp hg (fun e' hs K kk => Sx.ca (gets_sub hs hx) hf fun v' L' h => Sx.nil (kk v' L' h)) k
/-- An append to a row. -/
theorem Ev.apH {T E sz by_ : Nat} {z : List Value} {x y : X} {ra ya : Option Addr} {n cap m c : Nat} {xs ys : List Value} [t : Take L ra (Row E sz n cap xs) F] (hd : lastly i r = true) (hg : gon (e.only rs) g = true)
    (hx : x.get (e.only rs) = some (.slice ra n cap)) (hy : y.get (e.only rs) = some (.slice ya m c)) (hr : Rd L sz ya m ys) (h1 : ones ys = true) (hm : n + m ≤ maxLen) (hb : (n + m) * by_ ≤ 140737488355328)
    (hp : Pres ds (fun v L' => ∃ ra' cap', n + m ≤ cap' ∧ (n + m = 0 ∨ ∃ g, ra' = some ⟨g, 0, none⟩) ∧ v = .slice ra' (n + m) cap' ∧ L' = pt ra' (Row E sz (n + m) cap' (xs ++ ys)) :: F) ms)
    (k : ∀ ra' cap', n + m ≤ cap' → (n + m = 0 ∨ ∃ g, ra' = some ⟨g, 0, none⟩) → Ev P N Kf r ms (e.put d (.slice ra' (n + m) cap')) (pt ra' (Row E sz (n + m) cap' (xs ++ ys)) :: F)) : Ev P N Kf (⟨i, ds, rs, ⟨d, g, .ap T E sz by_ z x y⟩⟩ :: r) ms e L :=
  .genH hd hp hg (fun e' hs K kk => Sx.ap (t := t) (X.get_sub hx hs) (X.get_sub hy hs) hr h1 hm hb fun ra' cap' hc => Sx.rowkey (a := ra') fun _ _ _ hk => Sx.nil (kk _ _ ⟨ra', cap', hc, hk.imp (fun h => h.2.1) id, rfl, rfl⟩))
    (fun v L' ⟨ra', cap', hc, hk, e1, e2⟩ => by subst e1; subst e2; exact k ra' cap' hc hk)
theorem fills_sub {T e' : En} (hs : sub T e') : ∀ {ps : List (Nat × Nat × X)} {z cs : List Value}, fills T z ps = some cs → fills e' z ps = some cs
  | [], _, _, h => h
  | (off, sz, x) :: l, z, cs, h => by
    unfold fills at h ⊢
    split at h
    · rename_i v hv
      rw [X.get_sub hv hs]
      split at h
      · rename_i vs hvs
        simp only [hvs]
        cases hb : (Nat.beq vs.length sz && Nat.ble (off + sz) z.length) with
        | true => rw [hb, cond_true] at h; rw [cond_true]; exact fills_sub hs h
        | false => rw [hb, cond_false] at h; cases h
      · cases h
    · cases h
/-- A slice's own new cells. -/
theorem Ev.bsH {E len : Nat} {z : List Value} {ps : List (Nat × Nat × X)} {cs : List Value} (hd : lastly i r = true) (hg : gon (e.only rs) g = true) (hf : fills (e.only rs) z ps = some cs) (hl : z.length = len * sz)
    (hp : Pres ds (fun v L' => ∃ q, v = .slice (some ⟨q, 0, none⟩) len len ∧ L' = pt (some ⟨q, 0, none⟩) (Row E sz len len cs) :: L) ms)
    (k : ∀ q, Ev P N Kf r ms (e.put d (.slice (some ⟨q, 0, none⟩) len len)) (pt (some ⟨q, 0, none⟩) (Row E sz len len cs) :: L)) : Ev P N Kf (⟨i, ds, rs, ⟨d, g, .bs E len z ps⟩⟩ :: r) ms e L :=
  .genH hd hp hg (fun e' hs K kk => Sx.bs (sz := sz) (fills_sub hs hf) hl fun q => Sx.nil (kk _ _ ⟨q, rfl, rfl⟩))
    (fun v L' ⟨q, e1, e2⟩ => by subst e1; subst e2; exact k q)
theorem Ev.alH {E : TypeId} {z : List Value} (hd : lastly i r = true) (hg : gon (e.only rs) g = true)
    (hp : Pres ds (fun v L' => ∃ q, v = .pointer (some ⟨q, 0, none⟩) ∧ L' = pt (some ⟨q, 0, none⟩) (Blk E z) :: L) ms)
    (k : ∀ q, Ev P N Kf r ms (e.put d (.pointer (some ⟨q, 0, none⟩))) (pt (some ⟨q, 0, none⟩) (Blk E z) :: L)) : Ev P N Kf (⟨i, ds, rs, ⟨d, g, .al E z⟩⟩ :: r) ms e L :=
  .genH hd hp hg (fun e' hs K kk => Sx.al fun q => Sx.nil (kk _ _ ⟨q, rfl, rfl⟩))
    (fun v L' ⟨q, e1, e2⟩ => by subst e1; subst e2; exact k q)
/-- A store of one cell. -/
theorem Ev.stbH {x v : X} {b off : Nat} {T : TypeId} {cs ds' : List Value} {u : Value} [t : Take L (some ⟨b, 0, none⟩) (Blk T cs) F] (hd : lastly i r = true) (hg : gon (e.only rs) g = true)
    (hx : x.get (e.only rs) = some (.pointer (some ⟨b, off, none⟩))) (hv : v.get (e.only rs) = some u) (hu : cellsOf u = some [u]) (h1 : u.oneCell' = true) (hl : Nat.blt off cs.length = true) (hds : cs.set off u = ds')
    (hp : Pres ds (fun v L' => v = undef ∧ L' = pt (some ⟨b, 0, none⟩) (Blk T ds') :: F) ms)
    (k : Ev P N Kf r ms (e.put d undef) (pt (some ⟨b, 0, none⟩) (Blk T ds') :: F)) : Ev P N Kf (⟨i, ds, rs, ⟨d, g, .st x v 1⟩⟩ :: r) ms e L :=
  .genH hd hp hg (fun e' hs K kk => Sx.stb (t := t) (X.get_sub hx hs) (X.get_sub hv hs) hu h1 hl hds (Sx.nil (kk _ _ ⟨rfl, rfl⟩)))
    (fun v L' ⟨e1, e2⟩ => by subst e1; subst e2; exact k)
end
end
/- The rules' short names. -/
abbrev Ze0 := @Ev.pass
abbrev Ze1 := @Ev.stpH
abbrev Ze2 := @Ev.done
abbrev Ze3 := @Ev.fin
abbrev Ze4 := @Ev.ldbH
abbrev Ze5 := @Ev.ldbsH
theorem ge {A B : Prop} (k : B) (h : Wrap B → A := by intro r; (repeat (first|refine Ze0 0 rfl (by kernel_rfl) ?_|refine Ze1 (by kernel_rfl) rfl rfl ?_|refine Ze2 ?_|refine Ze3 ?_|refine Ze4 (by kernel_rfl) rfl rfl (by rfl) ?_|refine Ze5 (by kernel_rfl) rfl rfl rfl ?_|refine Ev.pvH (by kernel_rfl) rfl rfl ⟨by omega, by omega⟩ ?_|refine Ev.pvH (by kernel_rfl) rfl rfl (by decide) ?_|fail)); exact r.out) : A := h ⟨k⟩
end Go.Proofs.YtlpikhdiiehcaaaDoor

/-
  A function with two results, the second a variable of its own.
-/
set_option linter.unusedVariables false
set_option linter.unusedSimpArgs false
namespace Go.Proofs.YtlpikhdiiehcaaaDoor
open Go
section
variable {P : Program} {N : Nat} {e : En} {L F : St}
end
section
variable {P : Program} {N : Nat} {Kf : En → St → Prop} {r : List It} {ms : List (Nat × (St → Prop))} {e : En} {L F : St} {i ds : Nat} {rs : List Nat} {d : Option Nat} {g : Option (Nat × Bool)}
/-- Some cells of a block are written. -/
theorem Ev.stnH {x v : X} {b off n : Nat} {T : TypeId} {cs vs : List Value} (ds' : List Value) {u : Value} [t : Take L (some ⟨b, 0, none⟩) (Blk T cs) F] (hd : lastly i r = true) (hg : gon (e.only rs) g = true)
    (hx : x.get (e.only rs) = some (.pointer (some ⟨b, off, none⟩))) (hv : v.get (e.only rs) = some u) (hu : cellsOf u = some vs) (hn : vs.length = n) (h1 : ones vs = true) (hl : Nat.ble (off + n) cs.length = true) (hds : lay cs off vs = ds')
    (hp : Pres ds (fun v L' => v = undef ∧ L' = pt (some ⟨b, 0, none⟩) (Blk T ds') :: F) ms)
    (k : Ev P N Kf r ms (e.put d undef) (pt (some ⟨b, 0, none⟩) (Blk T ds') :: F)) : Ev P N Kf (⟨i, ds, rs, ⟨d, g, .st x v n⟩⟩ :: r) ms e L := by
  subst hds
  exact .genH hd hp hg (fun e' hs K kk => Sx.st (t := t) (X.get_sub hx hs) (X.get_sub hv hs) hu hn h1 hl (Sx.nil (kk _ _ ⟨rfl, rfl⟩)))
    (fun v L' ⟨e1, e2⟩ => by subst e1; subst e2; exact k)
end
end Go.Proofs.YtlpikhdiiehcaaaDoor

/-
  Operations (layer 18): the forms, what may be; the program's and the document's.
-/
set_option linter.unusedVariables false
set_option linter.unusedSimpArgs false
namespace Go.Proofs.YtlpikhdiiehcaaaDoor
open Go
attribute [local irreducible] Sx Cx Rx Fx Krg Ksq Kbl Klp Kr
/-- A form: the name, what it is of, whether it has N, V, W. -/
structure Frm where
  name : List UInt8
  of_ : Int
  n : Bool
  v : Bool
  w : Bool
def Frm.l (f : Frm) : List Value := [str f.name, .int .i64 f.of_, .bool f.n, .bool f.v, .bool f.w]
def formN : Nat → Frm
  | 1 => ⟨[99, 114, 101, 97, 116, 101], 0, true, false, false⟩
  | 2 => ⟨[97, 108, 108, 111, 99], 1, true, false, false⟩
  | 3 => ⟨[112, 105, 110], 0, false, false, false⟩
  | 4 => ⟨[117, 110, 112, 105, 110], 0, false, false, false⟩
  | 5 => ⟨[104, 111, 108, 100], 3, false, false, false⟩
  | 6 => ⟨[108, 111, 97, 100], 2, true, false, false⟩
  | 7 => ⟨[115, 116, 111, 114, 101], 2, true, true, false⟩
  | 8 => ⟨[97, 100, 100], 2, true, true, false⟩
  | 9 => ⟨[99, 97, 115], 2, true, true, true⟩
  | 10 => ⟨[102, 114, 101, 101], 1, false, false, false⟩
  | 11 => ⟨[99, 111, 108, 108, 101, 99, 116], 0, false, false, false⟩
  | 12 => ⟨[115, 116, 97, 116, 115], 1, false, false, false⟩
  | _ => ⟨[], 0, false, false, false⟩
def formK (k : Int) : Frm := if k < 1 then formN 0 else formN k.toNat
theorem formN_big {i : Nat} (h : 13 ≤ i) : formN i = ⟨[], 0, false, false, false⟩ := by
  match i, h with
  | i + 13, _ => rfl
/-- An operation, whatever it is. -/
structure Opn where
  kind : Int
  from_ : Int
  at_ : Int
  n : Int
  v : Nat
  w : Nat
deriving DecidableEq
def Opn.l (o : Opn) : List Value := [.int .i64 o.kind, .int .i64 o.from_, .int .i64 o.at_, .int .i64 o.n, .int .u64 o.v, .int .u64 o.w]
def Opn.zero : Opn := ⟨0, 0, 0, 0, 0, 0⟩
def inB (n m : Int) : Bool := decide (0 ≤ n ∧ n ≤ m)
def mostF (o : Opn) : Int := if (formK o.kind).of_ ≠ 0 then 63 else 0
def mostA (o : Opn) : Int := if (formK o.kind).of_ ≠ 0 then 999 else 0
def mostN (o : Opn) : Int := if o.kind = 1 then 3 else if (formK o.kind).n then 65535 else 0
def mayO (o : Opn) : Bool := decide ((formK o.kind).name ≠ []) && (inB o.from_ (mostF o) && (inB o.at_ (mostA o) && (inB o.n (mostN o) && (((formK o.kind).v || decide (o.v = 0)) && ((formK o.kind).w || decide (o.w = 0))))))
def formRow : List Value := (List.range 13).flatMap fun i => (formN i).l
theorem formRow_at {i : Nat} (h : i < 13) : (formRow.drop (0 + (i : Int).toNat * 5)).take 5 = (formN i).l := by
  rw [show 0 + (i : Int).toNat * 5 = i * 5 by omega]
  rcases (show i = 0 ∨ i = 1 ∨ i = 2 ∨ i = 3 ∨ i = 4 ∨ i = 5 ∨ i = 6 ∨ i = 7 ∨ i = 8 ∨ i = 9 ∨ i = 10 ∨ i = 11 ∨ i = 12 by omega) with rfl | rfl | rfl | rfl | rfl | rfl | rfl | rfl | rfl | rfl | rfl | rfl | rfl <;> rfl
theorem formK_nat {k : Int} (h1 : 1 ≤ k) : ∃ i : Nat, k = i ∧ formK k = formN i := ⟨k.toNat, by omega, by unfold formK; rw [if_neg (by omega)]⟩
theorem Sx.reb {P : Program} {N : Nat} {l : List Go.Proofs.YtlpikhdiiehcaaaDoor.G} {e : En} {K : En → St → Prop} {b : Option Addr} {T : TypeId} {vs : List Value} {L : St} (vs' : List Value) (h : vs = vs') (k : Sx P N l e K (pt b (Blk T vs') :: L)) : Sx P N l e K (pt b (Blk T vs) :: L) := h ▸ k
section
variable {L F G : St}
set_option maxRecDepth 100000 in
set_option maxHeartbeats 4000000 in
theorem opForm (k : Int) : Fx Tryd.prog 24 [.int .i64 k] L (fun v L' => v = .agg (formK k).l.toArray ∧ L = L') := by
  refine Fx.mk Tryd.func24 k24 (Nat.le_of_ble_eq_true rfl) ?_
  dsimp only [c24, envOf, Nat.reduceAdd]
  refine Cx.sq ?_
  refine Cx.rg ?_
  refine Sx.al fun q => ?_
  refine go ?_
  refine Sx.bs (sz := 5) (cs := formRow) rfl rfl fun g => ?_
  refine go ?_
  by_cases h1 : k < 1
  · have e0 : formK k = formN 0 := by unfold formK; rw [if_pos h1]
    rw [e0]
    refine Sx.gno rfl (decide_eq_true h1) ?_
    refine go ?_
    refine gg ?_
    refine Sx.ldrs (b := g) (vs := (formN 0).l) rfl (show (formRow.drop (0 + (0 : Int).toNat * 5)).take 5 = (formN 0).l from rfl) rfl ?_
    refine go ?_
    refine Sx.st (b := q) (vs := (formN 0).l) rfl rfl rfl rfl rfl rfl ?_
    refine Sx.reb (formN 0).l rfl ?_
    refine go ?_
    exact Kr_cell (b := q) (.inr rfl) rfl rfl (L' := L) (Ent.trans Ent.drop Ent.drop) ⟨rfl, rfl⟩
  · obtain ⟨i, rfl, e0⟩ := formK_nat (show 1 ≤ k by omega)
    rw [e0]
    refine Sx.gyes rfl (decide_eq_false h1) ?_
    refine go ?_
    by_cases h13 : 13 ≤ i
    · rw [show formN i = formN 0 from formN_big h13]
      refine Cx.cyes rfl (decide_eq_true (by omega)) ?_
      refine go ?_
      refine gg ?_
      refine Sx.ldrs (b := g) (vs := (formN 0).l) rfl (show (formRow.drop (0 + (0 : Int).toNat * 5)).take 5 = (formN 0).l from rfl) rfl ?_
      refine go ?_
      refine Sx.st (b := q) (vs := (formN 0).l) rfl rfl rfl rfl rfl rfl ?_
      refine Sx.reb (formN 0).l rfl ?_
      refine go ?_
      exact Kr_cell (b := q) (.inr rfl) rfl rfl (L' := L) (Ent.trans Ent.drop Ent.drop) ⟨rfl, rfl⟩
    · refine Cx.cno rfl (decide_eq_false (by omega)) ?_
      refine go ?_
      refine gg ?_
      refine Sx.ldrs (b := g) (vs := (formN i).l) rfl (formRow_at (by omega)) rfl ?_
      refine go ?_
      refine Sx.st (b := q) (vs := (formN i).l) rfl rfl rfl rfl rfl rfl ?_
      refine Sx.reb (formN i).l rfl ?_
      refine go ?_
      exact Kr_cell (b := q) (.inr rfl) rfl rfl (L' := L) (Ent.trans Ent.drop Ent.drop) ⟨rfl, rfl⟩
theorem opWithin (n m : Int) : Fx Tryd.prog 25 [.int .i64 n, .int .i64 m] L (fun v L' => v = .bool (inB n m) ∧ L = L') := by
  refine Fx.mk Tryd.func25 k25 (Nat.le_of_ble_eq_true rfl) ?_
  dsimp only [c25, envOf, Nat.reduceAdd]
  refine go ?_
  by_cases h : 0 ≤ n
  · refine Sx.gyes rfl (decide_eq_true h) ?_
    refine go ?_
    refine Kr.one (.inr rfl) rfl (Ent.refl _) ⟨?_, rfl⟩
    unfold inB; simp [h]
  · refine Sx.gno rfl (decide_eq_false h) ?_
    refine go ?_
    refine Kr.one (.inr rfl) rfl (Ent.refl _) ⟨?_, rfl⟩
    unfold inB; simp [h]
theorem refIn18 (v a b : Int) : Fx Tryd.prog 22 [.int .i64 v, .int .i64 a, .int .i64 b] L (fun r L' => r = .bool (decide (a ≤ v ∧ v ≤ b)) ∧ L = L') := by
  refine Fx.mk Tryd.func22 k22 (Nat.le_of_ble_eq_true rfl) ?_
  dsimp only [c22, envOf, Nat.reduceAdd]
  refine go ?_
  by_cases h : a ≤ v
  · refine Sx.gyes rfl (decide_eq_true h) ?_
    refine go ?_
    exact Kr.one (.inr rfl) rfl (Ent.refl _) ⟨by simp [h], rfl⟩
  · refine Sx.gno rfl (decide_eq_false h) ?_
    refine go ?_
    exact Kr.one (.inr rfl) rfl (Ent.refl _) ⟨by simp [h], rfl⟩
end
end Go.Proofs.YtlpikhdiiehcaaaDoor

/-
  Operations: Of, Name, May: the program's and the document's.
-/
set_option linter.unusedVariables false
set_option linter.unusedSimpArgs false
namespace Go.Proofs.YtlpikhdiiehcaaaDoor
open Go
attribute [local irreducible] Sx Cx Rx Fx Krg Ksq Kbl Klp Kr
section
variable {L F G : St}
theorem opOf (k : Int) : Fx Tryd.prog 11 [.int .i64 k] L (fun v L' => v = .int .i64 (formK k).of_ ∧ L = L') := by
  refine Fx.mk Tryd.func11 k11 (Nat.le_of_ble_eq_true rfl) ?_
  dsimp only [c11, envOf, Nat.reduceAdd]
  refine go ?_
  refine Sx.ca rfl (opForm k) ?_
  rintro v L' ⟨rfl, rfl⟩
  refine go ?_
  exact Kr.one (.inr rfl) rfl (Ent.refl _) ⟨rfl, rfl⟩
theorem opName (k : Int) : Fx Tryd.prog 13 [.int .i64 k] L (fun v L' => v = str (formK k).name ∧ L = L') := by
  refine Fx.mk Tryd.func13 k13 (Nat.le_of_ble_eq_true rfl) ?_
  dsimp only [c13, envOf, Nat.reduceAdd]
  refine go ?_
  refine Sx.ca rfl (opForm k) ?_
  rintro v L' ⟨rfl, rfl⟩
  refine go ?_
  exact Kr.one (.inr rfl) rfl (Ent.refl _) ⟨rfl, rfl⟩
theorem kinds_12 {k : Int} (h : 1 ≤ k ∧ k ≤ 12) : k = 1 ∨ k = 2 ∨ k = 3 ∨ k = 4 ∨ k = 5 ∨ k = 6 ∨ k = 7 ∨ k = 8 ∨ k = 9 ∨ k = 10 ∨ k = 11 ∨ k = 12 := by omega
theorem formK_out {k : Int} (h : ¬ (1 ≤ k ∧ k ≤ 12)) : formK k = ⟨[], 0, false, false, false⟩ := by
  by_cases h1 : k < 1
  · unfold formK; rw [if_pos h1]; rfl
  · obtain ⟨i, rfl, e⟩ := formK_nat (show 1 ≤ k by omega)
    rw [e]; exact formN_big (by omega)
theorem ref18Of (k : Int) : Fx Tryd.prog 12 [.int .i64 k] L (fun v L' => v = .int .i64 (formK k).of_ ∧ L = L') := by
  refine Fx.mk Tryd.func12 k12 (Nat.le_of_ble_eq_true rfl) ?_
  dsimp only [c12, envOf, Nat.reduceAdd]
  by_cases h : 1 ≤ k ∧ k ≤ 12
  · rcases kinds_12 h with rfl | rfl | rfl | rfl | rfl | rfl | rfl | rfl | rfl | rfl | rfl | rfl <;> (refine go ?_; exact Kr.one (.inr rfl) rfl (Ent.refl _) ⟨rfl, rfl⟩)
  · rw [formK_out h]
    refine go ?_
    refine Cx.cno rfl (decide_eq_false (by omega)) ?_
    refine go ?_
    refine Cx.cno rfl (decide_eq_false (by omega)) ?_
    refine go ?_
    refine Cx.cno rfl (decide_eq_false (by omega)) ?_
    refine go ?_
    refine Cx.cno rfl (decide_eq_false (by omega)) ?_
    refine go ?_
    refine Cx.cno rfl (decide_eq_false (by omega)) ?_
    refine go ?_
    refine Cx.cno rfl (decide_eq_false (by omega)) ?_
    refine go ?_
    refine Cx.cno rfl (decide_eq_false (by omega)) ?_
    refine go ?_
    refine Cx.cno rfl (decide_eq_false (by omega)) ?_
    refine go ?_
    exact Kr.one (.inr rfl) rfl (Ent.refl _) ⟨rfl, rfl⟩
theorem ref18HasN (k : Int) : Fx Tryd.prog 21 [.int .i64 k] L (fun v L' => v = .bool (formK k).n ∧ L = L') := by
  refine Fx.mk Tryd.func21 k21 (Nat.le_of_ble_eq_true rfl) ?_
  dsimp only [c21, envOf, Nat.reduceAdd]
  by_cases h : 1 ≤ k ∧ k ≤ 12
  · rcases kinds_12 h with rfl | rfl | rfl | rfl | rfl | rfl | rfl | rfl | rfl | rfl | rfl | rfl <;> (refine go ?_; exact Kr.one (.inr rfl) rfl (Ent.refl _) ⟨rfl, rfl⟩)
  · rw [formK_out h]
    refine go ?_
    refine Sx.gyes rfl (decide_eq_false (by omega)) ?_
    refine go ?_
    refine Sx.gyes rfl (decide_eq_false (by omega)) ?_
    refine go ?_
    by_cases h6 : 6 ≤ k
    · refine Sx.gyes rfl (decide_eq_true h6) ?_
      refine go ?_
      exact Kr.one (.inr rfl) rfl (Ent.refl _) ⟨congrArg Value.bool (decide_eq_false (by omega)), rfl⟩
    · refine Sx.gno rfl (decide_eq_false h6) ?_
      refine go ?_
      exact Kr.one (.inr rfl) rfl (Ent.refl _) ⟨rfl, rfl⟩
theorem ref18HasV (k : Int) : Fx Tryd.prog 23 [.int .i64 k] L (fun v L' => v = .bool (formK k).v ∧ L = L') := by
  refine Fx.mk Tryd.func23 k23 (Nat.le_of_ble_eq_true rfl) ?_
  dsimp only [c23, envOf, Nat.reduceAdd]
  by_cases h : 1 ≤ k ∧ k ≤ 12
  · rcases kinds_12 h with rfl | rfl | rfl | rfl | rfl | rfl | rfl | rfl | rfl | rfl | rfl | rfl <;> (refine go ?_; exact Kr.one (.inr rfl) rfl (Ent.refl _) ⟨rfl, rfl⟩)
  · rw [formK_out h]
    refine go ?_
    by_cases h6 : 7 ≤ k
    · refine Sx.gyes rfl (decide_eq_true h6) ?_
      refine go ?_
      exact Kr.one (.inr rfl) rfl (Ent.refl _) ⟨congrArg Value.bool (decide_eq_false (by omega)), rfl⟩
    · refine Sx.gno rfl (decide_eq_false h6) ?_
      refine go ?_
      exact Kr.one (.inr rfl) rfl (Ent.refl _) ⟨rfl, rfl⟩
def namesRow : List Value := (List.range 13).map fun i => str (formN i).name
theorem ref18Names : Fx Tryd.prog 26 [] L (fun v L' => ∃ g, v = .slice (some ⟨g, 0, none⟩) 13 13 ∧ L' = pt (some ⟨g, 0, none⟩) (Row 9 1 13 13 namesRow) :: L) := by
  refine Fx.mk Tryd.func26 k26 (Nat.le_of_ble_eq_true rfl) ?_
  dsimp only [c26, envOf, Nat.reduceAdd]
  refine go ?_
  refine Sx.bs (sz := 1) (cs := namesRow) rfl rfl fun g => ?_
  refine go ?_
  exact Kr.one (.inr rfl) rfl (Ent.refl _) ⟨g, rfl, rfl⟩
theorem ref18Name (k : Int) : Fx Tryd.prog 14 [.int .i64 k] L (fun v L' => v = str (formK k).name ∧ L = L') := by
  refine Fx.mk Tryd.func14 k14 (Nat.le_of_ble_eq_true rfl) ?_
  dsimp only [c14, envOf, Nat.reduceAdd]
  refine go ?_
  by_cases h1 : k < 1
  · rw [formK_out (by omega)]
    refine Sx.gno rfl (decide_eq_true h1) ?_
    refine go ?_
    exact Kr.one (.inr rfl) rfl (Ent.refl _) ⟨rfl, rfl⟩
  · refine Sx.gyes rfl (decide_eq_false h1) ?_
    refine go ?_
    by_cases h12 : 12 < k
    · rw [formK_out (by omega)]
      refine Cx.cyes rfl (decide_eq_true h12) ?_
      refine go ?_
      exact Kr.one (.inr rfl) rfl (Ent.refl _) ⟨rfl, rfl⟩
    · obtain ⟨i, rfl, e0⟩ := formK_nat (show 1 ≤ k by omega)
      rw [e0]
      refine Cx.cno rfl (decide_eq_false h12) ?_
      refine go ?_
      refine Sx.ca rfl ref18Names ?_
      rintro v L' ⟨g, rfl, rfl⟩
      refine go ?_
      refine gg ?_
      refine Sx.ldr (b := g) rfl (show namesRow[0 + (i : Int).toNat * 1]? = some (str (formN i).name) by
        rw [show 0 + (i : Int).toNat * 1 = i by omega]
        unfold namesRow
        rw [List.getElem?_map, List.getElem?_range (by omega)]
        rfl) ?_
      refine go ?_
      exact Kr.one (.inr rfl) rfl Ent.drop ⟨rfl, rfl⟩
set_option maxHeartbeats 4000000 in
theorem opMay (o : Opn) : Fx Tryd.prog 10 [.agg o.l.toArray] L (fun v L' => v = .bool (mayO o) ∧ L = L') := by
  refine Fx.mk Tryd.func10 k10 (Nat.le_of_ble_eq_true rfl) ?_
  dsimp only [c10, envOf, Nat.reduceAdd]
  refine Cx.sq ?_
  refine Cx.rg ?_
  refine Sx.bx (vs := o.l) rfl rfl fun g => ?_
  refine go ?_
  refine Sx.ca rfl (opForm o.kind) ?_
  rintro v L' ⟨rfl, rfl⟩
  refine go ?_
  refine Sx.al fun q => ?_
  refine Sx.st (b := q) (vs := (formK o.kind).l) rfl rfl rfl rfl rfl rfl ?_
  refine Sx.reb (formK o.kind).l rfl ?_
  refine go ?_
  refine Cx.jn (β := Unit) (fun _ => [(1, .pointer (some ⟨g, 0, none⟩)), (3, .pointer (some ⟨q, 0, none⟩)), (4, .int .i64 (mostF o)), (5, .int .i64 (mostA o)), (6, .int .i64 0)]) (fun _ => pt (some ⟨q, 0, none⟩) (Blk 47 (formK o.kind).l) :: pt (some ⟨g, 0, none⟩) (Blk 24 o.l) :: L) ?_ ?_
  · by_cases hof : (formK o.kind).of_ = 0
    · refine Cx.cno rfl (by simp [hof]) ?_
      refine go ?_
      refine Kjn.nm () (sub.cons rfl (sub.cons rfl (sub.cons (by unfold mostF; rw [if_neg (by simpa using hof)]; rfl) (sub.cons (by unfold mostA; rw [if_neg (by simpa using hof)]; rfl) (sub.cons rfl sub.nil))))) (Ent.refl _)
    · refine Cx.cyes rfl (by simp [hof]) ?_
      refine go ?_
      refine Kjn.nm () (sub.cons rfl (sub.cons rfl (sub.cons (by unfold mostF; rw [if_pos hof]; rfl) (sub.cons (by unfold mostA; rw [if_pos hof]; rfl) (sub.cons rfl sub.nil))))) (Ent.refl _)
  rintro -
  refine Cx.sq ?_
  refine Cx.jn (β := Unit) (fun _ => [(1, .pointer (some ⟨g, 0, none⟩)), (3, .pointer (some ⟨q, 0, none⟩)), (4, .int .i64 (mostF o)), (5, .int .i64 (mostA o)), (6, .int .i64 (mostN o))]) (fun _ => pt (some ⟨q, 0, none⟩) (Blk 47 (formK o.kind).l) :: pt (some ⟨g, 0, none⟩) (Blk 24 o.l) :: L) ?_ ?_
  · refine go ?_
    by_cases hk : o.kind = 1
    · refine Cx.cyes rfl (decide_eq_true hk) ?_
      refine go ?_
      refine Kjn.nm () (sub.cons rfl (sub.cons rfl (sub.cons rfl (sub.cons rfl (sub.cons (by unfold mostN; rw [if_pos hk]; rfl) sub.nil))))) (Ent.refl _)
    · refine Cx.cno rfl (decide_eq_false hk) ?_
      refine go ?_
      cases hn : (formK o.kind).n with
      | true =>
        refine go ?_
        refine Kjn.nm () (sub.cons rfl (sub.cons rfl (sub.cons rfl (sub.cons rfl (sub.cons (by unfold mostN; rw [if_neg hk, hn]; rfl) sub.nil))))) (Ent.refl _)
      | false =>
        refine go ?_
        refine Kjn.nm () (sub.cons rfl (sub.cons rfl (sub.cons rfl (sub.cons rfl (sub.cons (by unfold mostN; rw [if_neg hk, hn]; rfl) sub.nil))))) (Ent.refl _)
  rintro -
  have end_ : ∀ {e : En} {b : Bool}, e.get 2 = some (.bool b) → b = mayO o → Kr Tryd.prog 59 [.t 2] (fun v L' => v = .bool (mayO o) ∧ L = L') .rt e (pt (some ⟨q, 0, none⟩) (Blk 47 (formK o.kind).l) :: pt (some ⟨g, 0, none⟩) (Blk 24 o.l) :: L) := fun he hb => by
    subst hb
    exact Kr.one (.inr rfl) he (Ent.trans Ent.drop Ent.drop) ⟨rfl, rfl⟩
  refine go ?_
  by_cases hn : (formK o.kind).name = []
  · refine Sx.gno rfl (show (!decide ((formK o.kind).name = [])) = false by simp [hn]) ?_
    refine go ?_
    exact end_ rfl (by unfold mayO; simp [hn])
  refine Sx.gyes rfl (show (!decide ((formK o.kind).name = [])) = true by simp [hn]) ?_
  refine go ?_
  refine Sx.ca rfl (opWithin o.from_ (mostF o)) ?_
  rintro v L' ⟨rfl, rfl⟩
  cases h1 : inB o.from_ (mostF o) with
  | false =>
    refine go ?_
    exact end_ rfl (by unfold mayO; simp [h1])
  | true =>
  refine go ?_
  refine Sx.ca rfl (opWithin o.at_ (mostA o)) ?_
  rintro v L' ⟨rfl, rfl⟩
  cases h2 : inB o.at_ (mostA o) with
  | false =>
    refine go ?_
    exact end_ rfl (by unfold mayO; simp [h2])
  | true =>
  refine go ?_
  refine Sx.ca rfl (opWithin o.n (mostN o)) ?_
  rintro v L' ⟨rfl, rfl⟩
  cases h3 : inB o.n (mostN o) with
  | false =>
    refine go ?_
    exact end_ rfl (by unfold mayO; simp [h3])
  | true =>
  refine go ?_
  cases h4 : (formK o.kind).v with
  | true =>
    refine go ?_
    cases h5 : (formK o.kind).w with
    | true =>
      refine go ?_
      exact end_ rfl (by unfold mayO; simp [hn, h1, h2, h3, h4, h5])
    | false =>
      refine go ?_
      exact end_ rfl (by unfold mayO; simp [hn, h1, h2, h3, h4, h5]; try omega)
  | false =>
    refine go ?_
    by_cases hv : o.v = 0
    · refine Sx.gyes rfl (decide_eq_true (by omega)) ?_
      refine go ?_
      cases h5 : (formK o.kind).w with
      | true =>
        refine go ?_
        exact end_ rfl (by unfold mayO; simp [hn, h1, h2, h3, h4, h5, hv])
      | false =>
        refine go ?_
        exact end_ rfl (by unfold mayO; simp [hn, h1, h2, h3, h4, h5, hv]; try omega)
    · refine Sx.gno rfl (decide_eq_false (by omega)) ?_
      refine go ?_
      exact end_ rfl (by unfold mayO; simp [hn, h1, h2, h3, h4, hv])
end
end Go.Proofs.YtlpikhdiiehcaaaDoor

/-
  Operations: the document's May.
-/
set_option linter.unusedVariables false
set_option linter.unusedSimpArgs false
namespace Go.Proofs.YtlpikhdiiehcaaaDoor
open Go
attribute [local irreducible] Sx Cx Rx Fx Krg Ksq Kbl Klp Kr
theorem name_ne {k : Int} (h : 1 ≤ k ∧ k ≤ 12) : (formK k).name ≠ [] := by
  rcases kinds_12 h with rfl | rfl | rfl | rfl | rfl | rfl | rfl | rfl | rfl | rfl | rfl | rfl <;> exact List.cons_ne_nil _ _
theorem w_nine (k : Int) : (formK k).w = decide (k = 9) := by
  by_cases h : 1 ≤ k ∧ k ≤ 12
  · rcases kinds_12 h with rfl | rfl | rfl | rfl | rfl | rfl | rfl | rfl | rfl | rfl | rfl | rfl <;> rfl
  · rw [formK_out h, decide_eq_false (by omega)]
section
variable {L F G : St}
set_option maxHeartbeats 4000000 in
theorem ref18May (o : Opn) : Fx Tryd.prog 9 [.agg o.l.toArray] L (fun v L' => v = .bool (mayO o) ∧ L = L') := by
  refine Fx.mk Tryd.func9 k9 (Nat.le_of_ble_eq_true rfl) ?_
  dsimp only [c9, envOf, Nat.reduceAdd]
  refine Cx.sq ?_
  refine Cx.rg ?_
  refine Sx.bx (vs := o.l) rfl rfl fun g => ?_
  refine Sx.pv rfl trivial ?_
  refine Sx.nil ?_
  refine Krg.i ?_
  refine Ksq.nm ?_
  refine Cx.sq ?_
  refine Cx.rg ?_
  refine Sx.pv rfl trivial ?_
  refine Sx.nil ?_
  refine Krg.i ?_
  refine Ksq.nm ?_
  refine Cx.sq ?_
  refine Cx.jn (β := Unit) (fun _ => [(1, .pointer (some ⟨g, 0, none⟩)), (3, .int .i64 (mostN o))]) (fun _ => pt (some ⟨g, 0, none⟩) (Blk 24 o.l) :: L) ?_ ?_
  · refine go ?_
    by_cases hk : o.kind = 1
    · refine Cx.cyes rfl (decide_eq_true hk) ?_
      refine go ?_
      refine Kjn.nm () (sub.cons rfl (sub.cons (by unfold mostN; rw [if_pos hk]; rfl) sub.nil)) (Ent.refl _)
    · refine Cx.cno rfl (decide_eq_false hk) ?_
      refine go ?_
      refine Sx.ca rfl (ref18HasN o.kind) ?_
      rintro v L' ⟨rfl, rfl⟩
      cases hn : (formK o.kind).n with
      | true =>
        refine go ?_
        refine Kjn.nm () (sub.cons rfl (sub.cons (by unfold mostN; rw [if_neg hk, hn]; rfl) sub.nil)) (Ent.refl _)
      | false =>
        refine go ?_
        refine Kjn.nm () (sub.cons rfl (sub.cons (by unfold mostN; rw [if_neg hk, hn]; rfl) sub.nil)) (Ent.refl _)
  rintro -
  have end_ : ∀ {e : En} {b : Bool}, e.get 2 = some (.bool b) → b = mayO o → Kr Tryd.prog 64 [.t 2] (fun v L' => v = .bool (mayO o) ∧ L = L') .rt e (pt (some ⟨g, 0, none⟩) (Blk 24 o.l) :: L) := fun he hb => by
    subst hb
    exact Kr.one (.inr rfl) he Ent.drop ⟨rfl, rfl⟩
  refine Cx.sq ?_
  refine Cx.jn (β := {u : Unit // (1 ≤ o.kind ∧ o.kind ≤ 12) ∧ inB o.n (mostN o) = true ∧ ((formK o.kind).v || decide (o.v = 0)) = true ∧ ((formK o.kind).w || decide (o.w = 0)) = true}) (fun _ => [(1, .pointer (some ⟨g, 0, none⟩))]) (fun _ => pt (some ⟨g, 0, none⟩) (Blk 24 o.l) :: L) ?_ ?_
  · refine go ?_
    refine Sx.ca rfl (refIn18 o.kind 1 12) ?_
    rintro v L' ⟨rfl, rfl⟩
    by_cases hk : 1 ≤ o.kind ∧ o.kind ≤ 12
    · rw [decide_eq_true hk]
      have hname := name_ne hk
      refine go ?_
      refine Sx.ca rfl (refIn18 o.n 0 (mostN o)) ?_
      rintro v L' ⟨rfl, rfl⟩
      by_cases h3 : 0 ≤ o.n ∧ o.n ≤ mostN o
      · rw [decide_eq_true h3]
        have h3 : inB o.n (mostN o) = true := decide_eq_true h3
        refine go ?_
        refine Sx.ca rfl (ref18HasV o.kind) ?_
        rintro v L' ⟨rfl, rfl⟩
        have h9 := w_nine o.kind
        cases hv : (formK o.kind).v with
        | true =>
          refine go ?_
          by_cases hk9 : o.kind = 9
          · rw [decide_eq_true hk9] at h9
            refine Sx.gno rfl (by simp [hk9]) ?_
            refine go ?_
            exact Kjn.nm ⟨(), hk, h3, Bool.true_or _, by rw [h9]; rfl⟩ (sub.cons rfl sub.nil) (Ent.refl _)
          · rw [decide_eq_false hk9] at h9
            refine Sx.gyes rfl (by simp [hk9]) ?_
            refine go ?_
            by_cases hw : o.w = 0
            · refine Cx.cno rfl (by simp [hw]) ?_
              refine go ?_
              exact Kjn.nm ⟨(), hk, h3, Bool.true_or _, by rw [h9, decide_eq_true hw]; rfl⟩ (sub.cons rfl sub.nil) (Ent.refl _)
            · refine Cx.cyes rfl (by simp [hw]) ?_
              refine go ?_
              exact end_ rfl (by unfold mayO; simp [h9, hw])
        | false =>
          refine go ?_
          by_cases hv0 : o.v = 0
          · refine Sx.gyes rfl (by simp [hv0]) ?_
            refine go ?_
            by_cases hk9 : o.kind = 9
            · rw [decide_eq_true hk9] at h9
              refine Sx.gno rfl (by simp [hk9]) ?_
              refine go ?_
              exact Kjn.nm ⟨(), hk, h3, by rw [decide_eq_true hv0, Bool.or_true], by rw [h9]; rfl⟩ (sub.cons rfl sub.nil) (Ent.refl _)
            · rw [decide_eq_false hk9] at h9
              refine Sx.gyes rfl (by simp [hk9]) ?_
              refine go ?_
              by_cases hw : o.w = 0
              · refine Cx.cno rfl (by simp [hw]) ?_
                refine go ?_
                exact Kjn.nm ⟨(), hk, h3, by rw [decide_eq_true hv0, Bool.or_true], by rw [h9, decide_eq_true hw]; rfl⟩ (sub.cons rfl sub.nil) (Ent.refl _)
              · refine Cx.cyes rfl (by simp [hw]) ?_
                refine go ?_
                exact end_ rfl (by unfold mayO; simp [h9, hw])
          · refine Sx.gno rfl (by simp [hv0]) ?_
            refine go ?_
            exact end_ rfl (by unfold mayO; simp [hv, hv0])
      · rw [decide_eq_false h3]
        have h3 : inB o.n (mostN o) = false := decide_eq_false h3
        refine go ?_
        exact end_ rfl (by unfold mayO; simp [h3])
    · rw [decide_eq_false hk]
      refine go ?_
      exact end_ rfl (by unfold mayO; rw [formK_out hk]; rfl)
  rintro ⟨_, hk, h3, h4, h5⟩
  have hm : mayO o = (inB o.from_ (mostF o) && inB o.at_ (mostA o)) := by
    unfold mayO
    rw [h3, h4, h5, decide_eq_true (name_ne hk)]
    simp
  refine go ?_
  refine Sx.ca rfl (ref18Of o.kind) ?_
  rintro v L' ⟨rfl, rfl⟩
  by_cases hof : (formK o.kind).of_ = 0
  · have e1 : mostF o = 0 := by unfold mostF; rw [if_neg (by simpa using hof)]
    have e2 : mostA o = 0 := by unfold mostA; rw [if_neg (by simpa using hof)]
    rw [e1, e2] at hm
    refine go ?_
    refine Cx.cyes rfl (decide_eq_true hof) ?_
    refine go ?_
    by_cases hf : o.from_ = 0
    · refine Sx.gyes rfl (decide_eq_true hf) ?_
      refine go ?_
      exact end_ rfl (by rw [hm, hf]; unfold inB; rw [Bool.eq_iff_iff]; simp; omega)
    · refine Sx.gno rfl (decide_eq_false hf) ?_
      refine go ?_
      exact end_ rfl (by rw [hm]; unfold inB; rw [decide_eq_false (by omega)]; rfl)
  · have e1 : mostF o = 63 := by unfold mostF; rw [if_pos hof]
    have e2 : mostA o = 999 := by unfold mostA; rw [if_pos hof]
    rw [e1, e2] at hm
    refine go ?_
    refine Cx.cno rfl (decide_eq_false hof) ?_
    refine go ?_
    refine Sx.ca rfl (refIn18 o.from_ 0 63) ?_
    rintro v L' ⟨rfl, rfl⟩
    cases hf : decide (0 ≤ o.from_ ∧ o.from_ ≤ 63) with
    | false =>
      refine go ?_
      exact end_ rfl (by rw [hm]; unfold inB; rw [hf]; rfl)
    | true =>
      refine go ?_
      refine Sx.ca rfl (refIn18 o.at_ 0 999) ?_
      rintro v L' ⟨rfl, rfl⟩
      refine go ?_
      exact end_ rfl (by rw [hm]; unfold inB; rw [hf]; rfl)
end
end Go.Proofs.YtlpikhdiiehcaaaDoor

/-
  Bytes made a string; from the library's contracts to judgements.
-/
set_option linter.unusedVariables false
set_option linter.unusedSimpArgs false
namespace Go.Proofs.YtlpikhdiiehcaaaDoor
open Go Go.RowKit
abbrev bys (l : List UInt8) : List Value := l.map fun b => .int .u8 (b.toNat : Nat)
section
variable {P : Program} {N : Nat} {e : En} {L F M : St} {l : List Go.Proofs.YtlpikhdiiehcaaaDoor.G} {K : En → St → Prop}
theorem cS_cs {o : Oper} {x : X} (h : cS P o = some (.cs x)) : ∃ src dst y E, o.op = .convert src dst y ∧ cX y = x ∧ P.underlying src = some (.slice E) ∧ P.underlying E = some (.int .u8) ∧ P.underlying dst = some .string := by
  unfold cS at h
  split at h
  case h_14 =>
    rename_i src dst y ho
    split at h
    · cases h
    · rename_i E hs hd
      split at h
      · rename_i hE; cases h; exact ⟨src, dst, y, E, ho, rfl, hs, hE, hd⟩
      · cases h
    · cases h
  case h_23 => unfold cCall at h; (repeat' split at h) <;> cases h
  all_goals ((repeat' split at h) <;> cases h)
theorem fold_bytes : ∀ (l : List UInt8) (s : ByteArray), (l.map fun b => ((b.toNat : Nat) : Int)).foldl (fun r n => r.push (UInt8.ofNat n.toNat)) s = ⟨(s.data.toList ++ l).toArray⟩
  | [], s => by simp
  | b :: l, s => by
    rw [List.map_cons, List.foldl_cons, fold_bytes l]
    congr 1
    simp [ByteArray.push]
theorem Sx.cs {d : Option Nat} {x : X} {b off n c : Nat} {xs : List UInt8} (hx : x.get e = some (.slice (some ⟨b, off, none⟩) n c)) (hh : Has L b off (bys xs)) (hn : xs.length = n) (k : Sx P N l (e.put d (Go.Proofs.YtlpikhdiiehcaaaDoor.str xs)) K L) : Sx P N (⟨d, none, .cs x⟩ :: l) e K L :=
  .step fun o a w0 w hs ok st => by
    obtain ⟨src, dst, y, E, ho, rfl, h1, h2, h3⟩ := cS_cs hs
    have hl := run_loadCells_list (P := P) w ⟨b, off, none⟩ (bys xs) (fun j v hj => by rw [partPlace]; exact hh w0 w st j v hj)
    have hl2 : (loadCells ⟨b, off, none⟩ n).run P w = .ok ((xs.map fun b => ((b.toNat : Nat) : Int)).map (Value.int .u8)).toArray w := by
      rw [← hn]
      have e1 : (bys xs).length = xs.length := List.length_map _
      rw [e1] at hl
      rw [hl, List.map_map]
      rfl
    have hr : (execOp a.eval o).run P w = .ok (.value (Go.Proofs.YtlpikhdiiehcaaaDoor.str xs)) w := by
      have h4 := run_convert_bytes_string (P := P) w src dst E (some ⟨b, off, none⟩) n c h1 h2 h3
      rw [run_bytesToString w ⟨b, off, none⟩ n c _ hl2, fold_bytes] at h4
      have hx' := ok.eval hx
      simp [execOp, ho, hx', h4]
    exact ⟨Go.Proofs.YtlpikhdiiehcaaaDoor.str xs, w, L, .inl hr, st, k⟩
/-- Two strings, one behind the other. -/
theorem Sx.add {d : Option Nat} {x y : X} {a b : List UInt8} (hx : x.get e = some (Go.Proofs.YtlpikhdiiehcaaaDoor.str a)) (hy : y.get e = some (Go.Proofs.YtlpikhdiiehcaaaDoor.str b)) (hl : a.length + b.length ≤ 9223372036854775807) (k : Sx P N l (e.put d (Go.Proofs.YtlpikhdiiehcaaaDoor.str (a ++ b))) K L) :
    Sx P N (⟨d, none, .sb .add x y⟩ :: l) e K L :=
  Sx.pv (φ := a.length + b.length ≤ 9223372036854775807) (v := Go.Proofs.YtlpikhdiiehcaaaDoor.str (a ++ b)) (by simp only [Proofs.YtlpikhdiiehcaaaDoor.pv]; rw [hx, hy]) hl k
theorem Ev.addH {Kf : En → St → Prop} {r : List It} {ms : List (Nat × (St → Prop))} {i ds : Nat} {rs : List Nat} {d : Option Nat} {g : Option (Nat × Bool)} {x y : X} {a b : List UInt8} (hd : dist (⟨i, ds, rs, ⟨d, g, .sb .add x y⟩⟩ :: r) = true) (hg : gon (e.only rs) g = true)
    (hx : x.get (e.only rs) = some (Go.Proofs.YtlpikhdiiehcaaaDoor.str a)) (hy : y.get (e.only rs) = some (Go.Proofs.YtlpikhdiiehcaaaDoor.str b)) (hl : a.length + b.length ≤ 9223372036854775807) (k : Ev P N Kf r ms (e.put d (Go.Proofs.YtlpikhdiiehcaaaDoor.str (a ++ b))) L) : Ev P N Kf (⟨i, ds, rs, ⟨d, g, .sb .add x y⟩⟩ :: r) ms e L :=
  Ev.pvH (φ := a.length + b.length ≤ 9223372036854775807) (v := Go.Proofs.YtlpikhdiiehcaaaDoor.str (a ++ b)) hd hg (by simp only [Proofs.YtlpikhdiiehcaaaDoor.pv]; rw [hx, hy]) hl k
end
section
variable {P : Program} {L : St}
/-- A world that has only grown. -/
theorem Sat.grown {w0 w w' : World} (s : Sat w0 w L) (h : Below w.heap.size w w') : Sat w0 w' L := by
  obtain ⟨hp, h1, h2⟩ := s.heap
  refine ⟨h.os.trans s.os, h.tape.trans s.tape, h.output.trans s.output, Nat.le_trans s.size h.size, hp, h1, fun k o ho => ?_⟩
  have h3 := h2 k o ho
  have hk : k < w.heap.size := by
    rcases Nat.lt_or_ge k w.heap.size with h | h
    · exact h
    · rw [Array.getElem?_eq_none h] at h3; cases h3
  rw [h.block k hk]; exact h3
theorem Fx.lib {f : FuncId} {vs : List Value} {V : Value} (h : ∀ w0 w, Sat w0 w L → Calls P f vs.toArray w fun e w' => e = .returned V ∧ Below w.heap.size w w') : Fx P f vs L (fun v L' => v = V ∧ L = L') :=
  fun w0 w s => (h w0 w s).mono fun _ _ ⟨he, hb⟩ => ⟨V, L, he, ⟨rfl, rfl⟩, s.grown hb⟩
theorem Fx.libs {f : FuncId} {vs : List Value} {R : Value → Prop} (h : ∀ w0 w, Sat w0 w L → Calls P f vs.toArray w fun e w' => ∃ V, e = .returned V ∧ R V ∧ Below w.heap.size w w') : Fx P f vs L (fun v L' => R v ∧ L = L') :=
  fun w0 w s => (h w0 w s).mono fun _ _ ⟨V, he, hr, hb⟩ => ⟨V, L, he, ⟨hr, rfl⟩, s.grown hb⟩
end
end Go.Proofs.YtlpikhdiiehcaaaDoor

/-
  Operations: the document's text of one.
-/
set_option linter.unusedVariables false
set_option linter.unusedSimpArgs false
namespace Go.Proofs.YtlpikhdiiehcaaaDoor
open Go
attribute [local irreducible] Sx Cx Rx Fx Krg Ksq Kbl Klp Kr
abbrev dec (n : Nat) : List UInt8 := Lib.decDigits n
theorem dec_small {n : Nat} (h : n < 10) : dec n = [UInt8.ofNat (48 + n)] := by unfold dec; rw [Lib.decDigits, dif_pos h]
theorem dec_big {n : Nat} (h : ¬ n < 10) : dec n = dec (n / 10) ++ [UInt8.ofNat (48 + n % 10)] := by unfold dec; rw [Lib.decDigits, dif_neg h]
theorem dec_len (n : Nat) (h : n < 18446744073709551616) : (dec n).length ≤ 20 := by unfold dec; rw [Lib.decDigits_length]; exact Lib.nDigits_le20 n h
theorem digit_byte (n : Nat) : IntKind.u8.wrap (IntKind.u64.wrap (48 + ((n % 10 : Nat) : Int))) = ((UInt8.ofNat (48 + n % 10)).toNat : Nat) := by
  have h : n % 10 < 10 := Nat.mod_lt _ (by omega)
  rw [wu64 (n := 48 + ((n % 10 : Nat) : Int)) (by omega) (by omega)]
  have e : (UInt8.ofNat (48 + n % 10)).toNat = 48 + n % 10 := by
    rw [UInt8.toNat_ofNat']
    omega
  rw [e]
  unfold IntKind.wrap
  simp [IntKind.bits, IntKind.signed]
  omega
/-- What is left of the numeral, ahead of what has been written. -/
def decAhead (v : Nat) : List UInt8 := if v < 10 then [] else dec (v / 10)
theorem dec_ahead (v : Nat) : dec v = decAhead v ++ [UInt8.ofNat (48 + v % 10)] := by
  unfold decAhead
  by_cases h : v < 10
  · rw [if_pos h, dec_small h, Nat.mod_eq_of_lt h]; rfl
  · rw [if_neg h]; exact dec_big h
section
variable {L F G : St}
theorem ref18Dec (n : Nat) (hn : n < 18446744073709551616) : Fx Tryd.prog 31 [.int .u64 n] L (fun v L' => v = str (dec n) ∧ L = L') := by
  refine Fx.mk Tryd.func31 k31 (Nat.le_of_ble_eq_true rfl) ?_
  dsimp only [c31, envOf, Nat.reduceAdd]
  have hmod : ∀ v : Nat, Int.tmod (v : Int) 10 = ((v % 10 : Nat) : Int) := fun _ => rfl
  have hdiv : ∀ v : Nat, Int.tdiv (v : Int) 10 = ((v / 10 : Nat) : Int) := fun _ => rfl
  refine go ?_
  refine Sx.pv rfl (by omega) ?_
  rw [hmod]
  refine go ?_
  rw [digit_byte]
  refine Sx.bs (sz := 1) rfl rfl fun q => ?_
  refine Sx.cs (b := q) (off := 0) (xs := [UInt8.ofNat (48 + n % 10)]) rfl ((Has.row (m := 1)).one rfl) rfl ?_
  refine go ?_
  refine Cx.lp (α := {p : Nat × List UInt8 // p.1 ≤ n ∧ dec n = decAhead p.1 ++ p.2 ∧ p.2.length ≤ 20}) (fun p => [(0, .int .u64 (p.1.1 : Nat)), (3, str p.1.2)]) (fun _ => L) (fun p => p.1.1) ⟨(n, [UInt8.ofNat (48 + n % 10)]), Nat.le_refl _, dec_ahead n, by simp⟩ (sub.cons rfl (sub.cons rfl sub.nil)) Ent.drop ?_
  rintro ⟨⟨v, s⟩, hv, hs, hl⟩
  dsimp only at hv hs hl ⊢
  refine go ?_
  refine Cx.ifp rfl (fun h => ?_) (fun h => ?_)
  · refine go ?_
    refine Sx.pv rfl (by omega) ?_
    rw [hdiv, wu64 (n := ((v / 10 : Nat) : Int)) (by omega) (by omega)]
    refine go ?_
    refine Sx.pv rfl (by omega) ?_
    rw [hmod]
    refine go ?_
    rw [digit_byte]
    refine Sx.bs (sz := 1) rfl rfl fun q => ?_
    refine Sx.cs (b := q) (off := 0) (xs := [UInt8.ofNat (48 + v / 10 % 10)]) rfl ((Has.row (m := 1)).one rfl) rfl ?_
    refine go ?_
    have e1 : decAhead v = dec (v / 10) := by unfold decAhead; rw [if_neg (by omega)]
    have e2 : dec n = decAhead (v / 10) ++ ([UInt8.ofNat (48 + v / 10 % 10)] ++ s) := by
      rw [hs, e1, dec_ahead (v / 10), List.append_assoc]
    have e3 : ([UInt8.ofNat (48 + v / 10 % 10)] ++ s).length ≤ 20 := by
      have h1 := congrArg List.length e2
      rw [List.length_append] at h1
      have := dec_len n hn
      omega
    refine Sx.pv rfl (show [UInt8.ofNat (48 + v / 10 % 10)].length + s.length ≤ 9223372036854775807 by rw [List.length_append] at e3; omega) ?_
    refine go ?_
    refine Klp.nm ⟨(v / 10, [UInt8.ofNat (48 + v / 10 % 10)] ++ s), by dsimp only; omega, e2, e3⟩ (sub.cons rfl (sub.cons rfl sub.nil)) Ent.drop (by dsimp only; omega)
  · have e1 : decAhead v = [] := by unfold decAhead; rw [if_pos (by omega)]
    rw [e1, List.nil_append] at hs
    refine go ?_
    exact Kr.one (.inr rfl) rfl (Ent.refl _) ⟨by rw [hs], rfl⟩
theorem ref18Signed (n : Nat) (hn : n ≤ 9223372036854775807) : Fx Tryd.prog 30 [.int .i64 n] L (fun v L' => v = str (dec n) ∧ L = L') := by
  refine Fx.mk Tryd.func30 k30 (Nat.le_of_ble_eq_true rfl) ?_
  dsimp only [c30, envOf, Nat.reduceAdd]
  refine go ?_
  rw [wu64 (n := (n : Int)) (by omega) (by omega)]
  refine Sx.ca rfl (ref18Dec n (by omega)) ?_
  rintro v L' ⟨rfl, rfl⟩
  refine go ?_
  exact Kr.one (.inr rfl) rfl (Ent.refl _) ⟨rfl, rfl⟩
end
end Go.Proofs.YtlpikhdiiehcaaaDoor

/-
  Operations: what may be; its text; the document's Put.
-/
set_option linter.unusedVariables false
set_option linter.unusedSimpArgs false
namespace Go.Proofs.YtlpikhdiiehcaaaDoor
open Go
attribute [local irreducible] Sx Cx Rx Fx Krg Ksq Kbl Klp Kr
/-- What may be, told apart. -/
structure MayS (o : Opn) : Prop where
  k : 1 ≤ o.kind ∧ o.kind ≤ 12
  f : 0 ≤ o.from_ ∧ o.from_ ≤ mostF o
  a : 0 ≤ o.at_ ∧ o.at_ ≤ mostA o
  n : 0 ≤ o.n ∧ o.n ≤ mostN o
  v : (formK o.kind).v = false → o.v = 0
  w : (formK o.kind).w = false → o.w = 0
theorem mayS {o : Opn} (h : mayO o = true) : MayS o := by
  unfold mayO inB at h
  simp only [Bool.and_eq_true, decide_eq_true_eq, Bool.or_eq_true] at h
  obtain ⟨h0, h1, h2, h3, h4, h5⟩ := h
  refine ⟨?_, h1, h2, h3, fun e => ?_, fun e => ?_⟩
  · refine Decidable.byContradiction fun hk => h0 ?_
    rw [formK_out hk]
  · rw [e] at h4; simpa using h4
  · rw [e] at h5; simpa using h5
theorem mostF_le (o : Opn) : mostF o ≤ 63 := by unfold mostF; split <;> omega
theorem mostA_le (o : Opn) : mostA o ≤ 999 := by unfold mostA; split <;> omega
theorem mostN_le (o : Opn) : mostN o ≤ 65535 := by unfold mostN; (repeat' split) <;> omega
/-- A word more. -/
def spW (b : Bool) (l : List UInt8) : List UInt8 := if b then 32 :: l else []
def hasF (o : Opn) : Bool := decide ((formK o.kind).of_ ≠ 0)
def printF (o : Opn) : List UInt8 := (formK o.kind).name ++ spW (hasF o) (dec o.from_.toNat ++ 46 :: dec o.at_.toNat)
def printN (o : Opn) : List UInt8 := printF o ++ spW (formK o.kind).n (dec o.n.toNat)
def printV (o : Opn) : List UInt8 := printN o ++ spW (formK o.kind).v (dec o.v)
def printO (o : Opn) : List UInt8 := printV o ++ spW (formK o.kind).w (dec o.w)
theorem name_len (k : Int) : (formK k).name.length ≤ 7 := by
  by_cases h : 1 ≤ k ∧ k ≤ 12
  · rcases kinds_12 h with rfl | rfl | rfl | rfl | rfl | rfl | rfl | rfl | rfl | rfl | rfl | rfl <;> exact Nat.le_of_ble_eq_true rfl
  · rw [formK_out h]; exact Nat.zero_le _
theorem spW_len (b : Bool) (l : List UInt8) : (spW b l).length ≤ l.length + 1 := by unfold spW; split <;> simp
section
variable {o : Opn} (h : MayS o)
include h
theorem MayS.df : (dec o.from_.toNat).length ≤ 20 := dec_len _ (by have := h.f; have := mostF_le o; omega)
theorem MayS.da : (dec o.at_.toNat).length ≤ 20 := dec_len _ (by have := h.a; have := mostA_le o; omega)
theorem MayS.dn : (dec o.n.toNat).length ≤ 20 := dec_len _ (by have := h.n; have := mostN_le o; omega)
theorem MayS.lF : (printF o).length ≤ 49 := by
  have h1 := name_len o.kind
  have h2 := spW_len (hasF o) (dec o.from_.toNat ++ 46 :: dec o.at_.toNat)
  have h3 := h.df
  have h4 := h.da
  unfold printF
  simp only [List.length_append, List.length_cons] at h2 ⊢
  omega
theorem MayS.lN : (printN o).length ≤ 70 := by
  have h2 := spW_len (formK o.kind).n (dec o.n.toNat)
  have h3 := h.dn
  have h4 := h.lF
  unfold printN
  simp only [List.length_append] at h2 ⊢
  omega
theorem MayS.lV (hv : o.v < 18446744073709551616) : (printV o).length ≤ 91 := by
  have h2 := spW_len (formK o.kind).v (dec o.v)
  have h3 := dec_len o.v hv
  have h4 := h.lN
  unfold printV
  simp only [List.length_append] at h2 ⊢
  omega
theorem MayS.lO (hv : o.v < 18446744073709551616) (hw : o.w < 18446744073709551616) : (printO o).length ≤ 112 := by
  have h2 := spW_len (formK o.kind).w (dec o.w)
  have h3 := dec_len o.w hw
  have h4 := h.lV hv
  unfold printO
  simp only [List.length_append] at h2 ⊢
  omega
end
section
variable {L F G : St}
set_option maxHeartbeats 4000000 in
theorem ref18Put (o : Opn) (h : MayS o) (hv : o.v < 18446744073709551616) (hw : o.w < 18446744073709551616) : Fx Tryd.prog 16 [.agg o.l.toArray] L (fun v L' => v = str (printO o) ∧ L = L') := by
  have hmx : maxLen = 9223372036854775807 := rfl
  have l1 := name_len o.kind
  have l2 := h.df
  have l3 := h.da
  have l4 := h.dn
  have lF := h.lF
  have lN := h.lN
  have lV := h.lV hv
  have bF := mostF_le o
  have bA := mostA_le o
  have bN := mostN_le o
  obtain ⟨fr, hfr⟩ : ∃ fr : Nat, o.from_ = fr := ⟨o.from_.toNat, by have := h.f; omega⟩
  obtain ⟨at_, hat⟩ : ∃ at_ : Nat, o.at_ = at_ := ⟨o.at_.toNat, by have := h.a; omega⟩
  obtain ⟨nn, hnn⟩ : ∃ nn : Nat, o.n = nn := ⟨o.n.toNat, by have := h.n; omega⟩
  have lv := dec_len o.v hv
  have lw := dec_len o.w hw
  have eF : printF o = (formK o.kind).name ++ spW (hasF o) (dec fr ++ 46 :: dec at_) := by unfold printF; rw [hfr, hat]; rfl
  have eN : printN o = printF o ++ spW (formK o.kind).n (dec nn) := by unfold printN; rw [hnn]; rfl
  rw [hfr, Int.toNat_natCast] at l2
  rw [hat, Int.toNat_natCast] at l3
  rw [hnn, Int.toNat_natCast] at l4
  have hF := h.f
  have hA := h.a
  have hN := h.n
  refine Fx.mk Tryd.func16 k16 (Nat.le_of_ble_eq_true rfl) ?_
  dsimp only [c16, envOf, Nat.reduceAdd]
  refine Cx.sq ?_
  refine Cx.rg ?_
  refine Sx.bx (vs := o.l) rfl rfl fun g => ?_
  obtain ⟨os, hos⟩ : ∃ os, os = o.l := ⟨_, rfl⟩
  refine go ?_
  refine Sx.ca rfl (ref18Name o.kind) ?_
  rintro v L' ⟨rfl, rfl⟩
  refine go ?_
  refine Sx.ca rfl (ref18Of o.kind) ?_
  rintro v L' ⟨rfl, rfl⟩
  refine go ?_
  refine Cx.jn (β := Unit) (fun _ => [(1, .pointer (some ⟨g, 0, none⟩)), (3, str (printF o))]) (fun _ => pt (some ⟨g, 0, none⟩) (Blk 24 o.l) :: L) ?_ ?_
  · by_cases hof : (formK o.kind).of_ = 0
    · refine Cx.cno rfl (by simp [hof]) ?_
      refine go ?_
      have e1 : hasF o = false := by unfold hasF; simp [hof]
      exact Kjn.nm () (sub.cons rfl (sub.cons (by rw [eF, e1]; show some (str _) = some (str (_ ++ [])); rw [List.append_nil]) sub.nil)) (Ent.refl _)
    · refine Cx.cyes rfl (by simp [hof]) ?_
      have e1 : hasF o = true := by unfold hasF; simp [hof]
      refine Cx.ordu rfl rfl (by kernel_rfl) (by kernel_rfl) ?_
      refine ge ?_
      refine Ev.addH (a := (formK o.kind).name) (b := [32]) (by kernel_rfl) rfl rfl rfl (by simp only [List.length_append, List.length_cons, List.length_nil]; omega) ?_
      refine ge ?_
      refine Ev.cakH (vs := [.int .i64 fr]) (by kernel_rfl) rfl (by rw [← hfr]; rfl) (ref18Signed fr (by omega)) ?_
      refine ge ?_
      refine Ev.addH (a := (formK o.kind).name ++ [32]) (b := dec fr) (by kernel_rfl) rfl rfl rfl (by simp only [List.length_append, List.length_cons, List.length_nil]; omega) ?_
      refine ge ?_
      refine Ev.addH (a := (formK o.kind).name ++ [32] ++ dec fr) (b := [46]) (by kernel_rfl) rfl rfl rfl (by simp only [List.length_append, List.length_cons, List.length_nil]; omega) ?_
      refine ge ?_
      refine Ev.cakH (vs := [.int .i64 at_]) (by kernel_rfl) rfl (by rw [← hat]; rfl) (ref18Signed at_ (by omega)) ?_
      refine ge ?_
      refine Ev.addH (a := (formK o.kind).name ++ [32] ++ dec fr ++ [46]) (b := dec at_) (by kernel_rfl) rfl rfl rfl (by simp only [List.length_append, List.length_cons, List.length_nil]; omega) ?_
      refine ge ?_
      refine go ?_
      exact Kjn.nm () (sub.cons rfl (sub.cons (by rw [eF, e1]; show some (str _) = some (str (_ ++ (32 :: _))); simp) sub.nil)) (Ent.refl _)
  rintro -
  refine go ?_
  refine Sx.ca rfl (ref18HasN o.kind) ?_
  rintro v L' ⟨rfl, rfl⟩
  refine Sx.nil ?_
  refine Krg.i ?_
  refine Ksq.nm ?_
  refine Cx.jn (β := Unit) (fun _ => [(1, .pointer (some ⟨g, 0, none⟩)), (3, str (printN o))]) (fun _ => pt (some ⟨g, 0, none⟩) (Blk 24 o.l) :: L) ?_ ?_
  · cases hfl : (formK o.kind).n with
    | false =>
      skip
      refine go ?_
      exact Kjn.nm () (sub.cons rfl (sub.cons (by rw [eN]; rw [hfl]; show some (str _) = some (str (_ ++ [])); rw [List.append_nil]) sub.nil)) (Ent.refl _)
    | true =>
      skip
      refine go ?_
      refine Sx.add (a := printF o) (b := [32]) rfl rfl (by simp only [List.length_append, List.length_cons, List.length_nil]; omega) ?_
      refine go ?_
      refine Sx.ca (vs := [.int .i64 nn]) (by rw [← hnn]; rfl) (ref18Signed nn (by omega)) ?_
      rintro v L' ⟨rfl, rfl⟩
      refine go ?_
      refine Sx.add (a := printF o ++ [32]) (b := dec nn) rfl rfl (by simp only [List.length_append, List.length_cons, List.length_nil]; omega) ?_
      refine go ?_
      exact Kjn.nm () (sub.cons rfl (sub.cons (by rw [eN]; rw [hfl]; show some (str _) = some (str (_ ++ (32 :: _))); simp) sub.nil)) (Ent.refl _)
  rintro -
  refine go ?_
  refine Sx.ca rfl (ref18HasV o.kind) ?_
  rintro v L' ⟨rfl, rfl⟩
  refine Sx.nil ?_
  refine Krg.i ?_
  refine Ksq.nm ?_
  refine Cx.jn (β := Unit) (fun _ => [(1, .pointer (some ⟨g, 0, none⟩)), (3, str (printV o))]) (fun _ => pt (some ⟨g, 0, none⟩) (Blk 24 o.l) :: L) ?_ ?_
  · cases hfl : (formK o.kind).v with
    | false =>
      skip
      refine go ?_
      exact Kjn.nm () (sub.cons rfl (sub.cons (by unfold printV; rw [hfl]; show some (str _) = some (str (_ ++ [])); rw [List.append_nil]) sub.nil)) (Ent.refl _)
    | true =>
      skip
      refine go ?_
      refine Sx.add (a := printN o) (b := [32]) rfl rfl (by simp only [List.length_append, List.length_cons, List.length_nil]; omega) ?_
      refine go ?_
      refine Sx.ca rfl (ref18Dec o.v hv) ?_
      rintro v L' ⟨rfl, rfl⟩
      refine go ?_
      refine Sx.add (a := printN o ++ [32]) (b := dec o.v) rfl rfl (by simp only [List.length_append, List.length_cons, List.length_nil]; omega) ?_
      refine go ?_
      exact Kjn.nm () (sub.cons rfl (sub.cons (by unfold printV; rw [hfl]; show some (str _) = some (str (_ ++ (32 :: _))); simp) sub.nil)) (Ent.refl _)
  rintro -
  refine go ?_
  have h9 := w_nine o.kind
  refine Cx.jn (β := Unit) (fun _ => [(1, .pointer (some ⟨g, 0, none⟩)), (3, str (printO o))]) (fun _ => pt (some ⟨g, 0, none⟩) (Blk 24 o.l) :: L) ?_ ?_
  · cases hfl : (formK o.kind).w with
    | false =>
      refine Cx.cno rfl (by rw [← h9, hfl]) ?_
      refine go ?_
      exact Kjn.nm () (sub.cons rfl (sub.cons (by unfold printO; rw [hfl]; show some (str _) = some (str (_ ++ [])); rw [List.append_nil]) sub.nil)) (Ent.refl _)
    | true =>
      refine Cx.cyes rfl (by rw [← h9, hfl]) ?_
      refine go ?_
      refine Sx.add (a := printV o) (b := [32]) rfl rfl (by simp only [List.length_append, List.length_cons, List.length_nil]; omega) ?_
      refine go ?_
      refine Sx.ca rfl (ref18Dec o.w hw) ?_
      rintro v L' ⟨rfl, rfl⟩
      refine go ?_
      refine Sx.add (a := printV o ++ [32]) (b := dec o.w) rfl rfl (by simp only [List.length_append, List.length_cons, List.length_nil]; omega) ?_
      refine go ?_
      exact Kjn.nm () (sub.cons rfl (sub.cons (by unfold printO; rw [hfl]; show some (str _) = some (str (_ ++ (32 :: _))); simp) sub.nil)) (Ent.refl _)
  rintro -
  refine go ?_
  exact Kr.one (.inr rfl) rfl Ent.drop ⟨rfl, rfl⟩
end
end Go.Proofs.YtlpikhdiiehcaaaDoor

/-
  DERIVED: THE SHELF's CONTRACTS AT THIS DUMP, IN PLAIN WORDS (tools/lay-plain.mjs out of 'TrydShelf.lean', which tools/lay-shelf.mjs wrote): THE SAME DECLARATIONS UNDER THE SAME NAMES: 'import', 'namespace', 'open', 'def', 'theorem' AND NOTHING ELSE: no command of the shelf's: FOR A HAND-IN. Each laying: the table of numbers ('.._ren') and one theorem, a field a fact of the dump's own or the kernel's comparison; each contract: ONE APPLICATION.
-/
namespace Go.Proofs
open Go.Shelf
def Tryd.lays156_ren : Go.Shelf.Ren := ⟨fun | 156 => 29 | 165 => 42 | 166 => 43 | 169 => 44 | 240 => 55 | 241 => 56 | 276 => 73 | 277 => 74 | n => n, fun | 31 => 49 | 9 => 9 | 3 => 3 | 4 => 4 | 0 => 0 | 20 => 20 | 72 => 74 | 76 => 60 | 70 => 72 | 37 => 41 | 75 => 59 | 127 => 85 | 164 => 101 | 5 => 5 | 80 => 76 | n => n, fun | n => n⟩
theorem Tryd.lays156 : Go.Proofs.Lays.n156 Tryd.prog Tryd.lays156_ren := {
  mixed := by kernel_rfl
  f156 := Tryd.func29.trans (congrArg some (by kernel_rfl))
  f165 := Tryd.func42.trans (congrArg some (by kernel_rfl))
  f166 := Tryd.func43.trans (congrArg some (by kernel_rfl))
  f169 := Tryd.func44.trans (congrArg some (by kernel_rfl))
  f240 := Tryd.func55.trans (congrArg some (by kernel_rfl))
  f241 := Tryd.func56.trans (congrArg some (by kernel_rfl))
  f276 := Tryd.func73.trans (congrArg some (by kernel_rfl))
  f277 := Tryd.func74.trans (congrArg some (by kernel_rfl))
  t0 := Tryd.underlying0
  a0 := Tryd.isAgg0
  z0 := Tryd.sizeOf0
  v0 := Tryd.zeroValue0
  t3 := Tryd.underlying3
  a3 := Tryd.isAgg3
  z3 := Tryd.sizeOf3
  v3 := Tryd.zeroValue3
  t4 := Tryd.underlying4
  a4 := Tryd.isAgg4
  z4 := Tryd.sizeOf4
  v4 := Tryd.zeroValue4
  t9 := Tryd.underlying9
  a9 := Tryd.isAgg9
  z9 := Tryd.sizeOf9
  v9 := Tryd.zeroValue9
  t20 := Tryd.underlying20
  a20 := Tryd.isAgg20
  z20 := Tryd.sizeOf20
  v20 := Tryd.zeroValue20
  t31 := Tryd.underlying49
  a31 := Tryd.isAgg49
  z31 := Tryd.sizeOf49
  v31 := Tryd.zeroValue49
  t37 := Tryd.underlying41
  a37 := Tryd.isAgg41
  z37 := Tryd.sizeOf41
  v37 := Tryd.zeroValue41
  t70 := Tryd.underlying72
  a70 := Tryd.isAgg72
  z70 := Tryd.sizeOf72
  v70 := Tryd.zeroValue72
  t72 := Tryd.underlying74
  a72 := Tryd.isAgg74
  z72 := Tryd.sizeOf74
  v72 := Tryd.zeroValue74
  t75 := Tryd.underlying59
  a75 := Tryd.isAgg59
  z75 := Tryd.sizeOf59
  v75 := Tryd.zeroValue59
  t76 := Tryd.underlying60
  a76 := Tryd.isAgg60
  z76 := Tryd.sizeOf60
  v76 := Tryd.zeroValue60
  t127 := Tryd.underlying85
  a127 := Tryd.isAgg85
  z127 := Tryd.sizeOf85
  v127 := Tryd.zeroValue85
  t164 := Tryd.underlying101
  a164 := Tryd.isAgg101
  z164 := Tryd.sizeOf101
  v164 := Tryd.zeroValue101 }
theorem Tryd.Builder_Extra_156 : Builder.Extra Tryd.prog Tryd.lays156_ren := {
  sizeBuilder := by kernel_rfl
  liesBuilder := by kernel_rfl
  t5 := Tryd.underlying5
  a5 := Tryd.isAgg5
  z5 := Tryd.sizeOf5
  v5 := Tryd.zeroValue5
  infoByte := by kernel_rfl
  cellsByte := by kernel_rfl
  sizeByte := by kernel_rfl
  neB5 := by decide }
open Go.RowKit in
/-- strings.Join: "Join concatenates the elements of its first argument to create a single string. The separator string sep is placed between elements in the resulting string.": HOWEVER MANY ELEMENTS. Below the heap's end the world is as it was. (LAID: no walk: one application.) -/
theorem Tryd.strings_Join (bk o c : Nat) (xs : List ByteArray) (sep : ByteArray) (w : World) (hcells : ∀ (j : Nat) x, xs[j]? = some x → w.cell? ⟨bk, o + j, none⟩ = some (.string x)) (hbk : bk < w.heap.size) (hN : xs.length ≤ 140737488355328) (hcap : xs.length ≤ c) (hlen : (Lib.join (xs.map (·.data.toList)) sep.data.toList).length ≤ 140737488355328) :
    Calls Tryd.prog 29 #[.slice (some ⟨bk, o, none⟩) xs.length c, .string sep] w fun e w' => e = .returned (.string ⟨(Lib.join (xs.map (·.data.toList)) sep.data.toList).toArray⟩) ∧ Below w.heap.size w w' := Any.strings_Join Tryd.lays156 Tryd.Builder_Extra_156 bk o c xs sep w hcells hbk hN hcap hlen
def Tryd.lays283_ren : Go.Shelf.Ren := ⟨fun | 283 => 51 | n => n, fun | 3 => 3 | 9 => 9 | 4 => 4 | n => n, fun | n => n⟩
theorem Tryd.lays283 : Go.Proofs.Lays.n283 Tryd.prog Tryd.lays283_ren := {
  mixed := by kernel_rfl
  f283 := Tryd.func51.trans (congrArg some (by kernel_rfl))
  t3 := Tryd.underlying3
  a3 := Tryd.isAgg3
  z3 := Tryd.sizeOf3
  v3 := Tryd.zeroValue3
  t4 := Tryd.underlying4
  a4 := Tryd.isAgg4
  z4 := Tryd.sizeOf4
  v4 := Tryd.zeroValue4
  t9 := Tryd.underlying9
  a9 := Tryd.isAgg9
  z9 := Tryd.sizeOf9
  v9 := Tryd.zeroValue9 }
open Go.Lib in
/-- internal/strconv.small: "small returns the string for an i with 0 <= i < nSmalls.": i's decimal numeral. The world is as it was. (LAID: no walk: one application.) -/
theorem Tryd.internal_strconv_small (i : Nat) (h : i < 100) (w : World) :
    Calls Tryd.prog 51 #[.int .i64 i] w fun e w' => e = .returned (.string ⟨(Lib.decDigits i).toArray⟩) ∧ w' = w := Any.internal_strconv_small Tryd.lays283 i h w
def Tryd.laysM284_ren : Go.Shelf.Ren := ⟨fun | 284 => 52 | 129 => 69 | 317 => 68 | 318 => 70 | n => n, fun | 53 => 22 | 3 => 3 | 212 => 97 | 0 => 0 | 4 => 4 | 46 => 95 | 5 => 5 | 9 => 9 | n => n, fun | 17 => 0 | n => n⟩
theorem Tryd.laysM284 : Go.Proofs.LaysM.n284 Tryd.prog Tryd.laysM284_ren := {
  mixed := by kernel_rfl
  f129 := Tryd.func69.trans (congrArg some (by kernel_rfl))
  f284 := Tryd.func52.trans (congrArg some (by kernel_rfl))
  f317 := Tryd.func68.trans (congrArg some (by kernel_rfl))
  f318 := Tryd.func70.trans (congrArg some (by kernel_rfl))
  t0 := Tryd.underlying0
  a0 := Tryd.isAgg0
  z0 := Tryd.sizeOf0
  v0 := Tryd.zeroValue0
  t3 := Tryd.underlying3
  a3 := Tryd.isAgg3
  z3 := Tryd.sizeOf3
  v3 := Tryd.zeroValue3
  t4 := Tryd.underlying4
  a4 := Tryd.isAgg4
  z4 := Tryd.sizeOf4
  v4 := Tryd.zeroValue4
  t5 := Tryd.underlying5
  a5 := Tryd.isAgg5
  z5 := Tryd.sizeOf5
  v5 := Tryd.zeroValue5
  t9 := Tryd.underlying9
  a9 := Tryd.isAgg9
  z9 := Tryd.sizeOf9
  v9 := Tryd.zeroValue9
  t46 := Tryd.underlying95
  a46 := Tryd.isAgg95
  z46 := Tryd.sizeOf95
  v46 := Tryd.zeroValue95
  t53 := Tryd.underlying22
  a53 := Tryd.isAgg22
  z53 := Tryd.sizeOf22
  v53 := Tryd.zeroValue22
  t212 := Tryd.underlying97
  a212 := Tryd.isAgg97
  z212 := Tryd.sizeOf97
  v212 := Tryd.zeroValue97
  g17 := by kernel_rfl
  i0 := by kernel_rfl
  i3 := by kernel_rfl
  i4 := by kernel_rfl
  i5 := by kernel_rfl
  i9 := by kernel_rfl
  i46 := by kernel_rfl
  i53 := by kernel_rfl
  i212 := by kernel_rfl
  m17 := by kernel_rfl }
open Go.Lib in
/-- internal/strconv.numDigits, at a d that is not 0: THE NUMBER OF d's DECIMAL DIGITS. The world is as it was. (LAID: no walk: one application.) -/
theorem Tryd.internal_strconv_numDigits (u : Nat) (h1 : 1 ≤ u) (h2 : u < 18446744073709551616) (w : World) (htab : Lib.TabIs Tryd.prog w "internal/strconv.uint64pow10" .u64 Lib.pow10Tab) :
    Calls Tryd.prog 52 #[.int .u64 u] w fun e w' => e = .returned (.int .i64 (Lib.nDigits u)) ∧ w' = w := Any.internal_strconv_numDigits Tryd.laysM284 u h1 h2 w htab
def Tryd.lays285_ren : Go.Shelf.Ren := ⟨fun | 285 => 53 | n => n, fun | 37 => 41 | 53 => 22 | 3 => 3 | 4 => 4 | 51 => 98 | 9 => 9 | 5 => 5 | 0 => 0 | n => n, fun | n => n⟩
theorem Tryd.lays285 : Go.Proofs.Lays.n285 Tryd.prog Tryd.lays285_ren := {
  mixed := by kernel_rfl
  f285 := Tryd.func53.trans (congrArg some (by kernel_rfl))
  t0 := Tryd.underlying0
  a0 := Tryd.isAgg0
  z0 := Tryd.sizeOf0
  v0 := Tryd.zeroValue0
  t3 := Tryd.underlying3
  a3 := Tryd.isAgg3
  z3 := Tryd.sizeOf3
  v3 := Tryd.zeroValue3
  t4 := Tryd.underlying4
  a4 := Tryd.isAgg4
  z4 := Tryd.sizeOf4
  v4 := Tryd.zeroValue4
  t5 := Tryd.underlying5
  a5 := Tryd.isAgg5
  z5 := Tryd.sizeOf5
  v5 := Tryd.zeroValue5
  t9 := Tryd.underlying9
  a9 := Tryd.isAgg9
  z9 := Tryd.sizeOf9
  v9 := Tryd.zeroValue9
  t37 := Tryd.underlying41
  a37 := Tryd.isAgg41
  z37 := Tryd.sizeOf41
  v37 := Tryd.zeroValue41
  t51 := Tryd.underlying98
  a51 := Tryd.isAgg98
  z51 := Tryd.sizeOf98
  v51 := Tryd.zeroValue98
  t53 := Tryd.underlying22
  a53 := Tryd.isAgg22
  z53 := Tryd.sizeOf22
  v53 := Tryd.zeroValue22 }
open Go.RowKit Go.Sort Go.Lib in
/-- internal/strconv.formatBase10: "formatBase10 formats the decimal representation of u into a. The caller is responsible for ensuring that a is big enough to hold u. If a is too big, leading zeros will be filled in as needed.": THE ROW HOLDS u's DIGITS ('FmtInv .. 0 ..': every place t holds 'dg u (len - 1 - t)'); all else is as it was but for the count of draws. (LAID: no walk: one application.) -/
theorem Tryd.internal_strconv_formatBase10 (blk off cap : Nat) (u : Nat) (d : Array UInt8) (w : World) (hH : Holds (fun (b : UInt8) => Value.int .u8 (b.toNat : Int)) w blk off d) (hu : u < 10 ^ d.size) (hu64 : u < 18446744073709551616) (hsz : d.size < 4611686018427387904) :
    Calls Tryd.prog 53 #[.slice (some ⟨blk, off, none⟩) d.size cap, .int .u64 u] w fun e w' =>
      e = .returned (.tuple #[]) ∧ ∃ (n v' : Nat) (dk : Array UInt8), w' = (putRow (fun (b : UInt8) => Value.int .u8 (b.toNat : Int)) w blk off dk).drewN n ∧ FmtInv d.size u 0 v' dk := Any.internal_strconv_formatBase10 Tryd.lays285 blk off cap u d w hH hu hu64 hsz
def Tryd.laysM171_ren : Go.Shelf.Ren := ⟨fun | 171 => 27 | 243 => 40 | 246 => 50 | 283 => 51 | 284 => 52 | 285 => 53 | 286 => 54 | 129 => 69 | 317 => 68 | 318 => 70 | 319 => 71 | 320 => 72 | 337 => 84 | 338 => 85 | n => n, fun | 3 => 3 | 9 => 9 | 2 => 2 | 4 => 4 | 171 => 80 | 0 => 0 | 53 => 22 | 37 => 41 | 5 => 5 | 173 => 83 | 212 => 97 | 51 => 98 | 20 => 20 | 213 => 99 | 46 => 95 | 232 => 118 | 233 => 119 | n => n, fun | 17 => 0 | 18 => 4 | 19 => 5 | n => n⟩
theorem Tryd.laysM171 : Go.Proofs.LaysM.n171 Tryd.prog Tryd.laysM171_ren := {
  mixed := by kernel_rfl
  f129 := Tryd.func69.trans (congrArg some (by kernel_rfl))
  f171 := Tryd.func27.trans (congrArg some (by kernel_rfl))
  f243 := Tryd.func40.trans (congrArg some (by kernel_rfl))
  f246 := Tryd.func50.trans (congrArg some (by kernel_rfl))
  f283 := Tryd.func51.trans (congrArg some (by kernel_rfl))
  f284 := Tryd.func52.trans (congrArg some (by kernel_rfl))
  f285 := Tryd.func53.trans (congrArg some (by kernel_rfl))
  f286 := Tryd.func54.trans (congrArg some (by kernel_rfl))
  f317 := Tryd.func68.trans (congrArg some (by kernel_rfl))
  f318 := Tryd.func70.trans (congrArg some (by kernel_rfl))
  f319 := Tryd.func71.trans (congrArg some (by kernel_rfl))
  f320 := Tryd.func72.trans (congrArg some (by kernel_rfl))
  f337 := Tryd.func84.trans (congrArg some (by kernel_rfl))
  f338 := Tryd.func85.trans (congrArg some (by kernel_rfl))
  t0 := Tryd.underlying0
  a0 := Tryd.isAgg0
  z0 := Tryd.sizeOf0
  v0 := Tryd.zeroValue0
  t2 := Tryd.underlying2
  a2 := Tryd.isAgg2
  z2 := Tryd.sizeOf2
  v2 := Tryd.zeroValue2
  t3 := Tryd.underlying3
  a3 := Tryd.isAgg3
  z3 := Tryd.sizeOf3
  v3 := Tryd.zeroValue3
  t4 := Tryd.underlying4
  a4 := Tryd.isAgg4
  z4 := Tryd.sizeOf4
  v4 := Tryd.zeroValue4
  t5 := Tryd.underlying5
  a5 := Tryd.isAgg5
  z5 := Tryd.sizeOf5
  v5 := Tryd.zeroValue5
  t9 := Tryd.underlying9
  a9 := Tryd.isAgg9
  z9 := Tryd.sizeOf9
  v9 := Tryd.zeroValue9
  t20 := Tryd.underlying20
  a20 := Tryd.isAgg20
  z20 := Tryd.sizeOf20
  v20 := Tryd.zeroValue20
  t37 := Tryd.underlying41
  a37 := Tryd.isAgg41
  z37 := Tryd.sizeOf41
  v37 := Tryd.zeroValue41
  t46 := Tryd.underlying95
  a46 := Tryd.isAgg95
  z46 := Tryd.sizeOf95
  v46 := Tryd.zeroValue95
  t51 := Tryd.underlying98
  a51 := Tryd.isAgg98
  z51 := Tryd.sizeOf98
  v51 := Tryd.zeroValue98
  t53 := Tryd.underlying22
  a53 := Tryd.isAgg22
  z53 := Tryd.sizeOf22
  v53 := Tryd.zeroValue22
  t171 := Tryd.underlying80
  a171 := Tryd.isAgg80
  z171 := Tryd.sizeOf80
  v171 := Tryd.zeroValue80
  t173 := Tryd.underlying83
  a173 := Tryd.isAgg83
  z173 := Tryd.sizeOf83
  v173 := Tryd.zeroValue83
  t212 := Tryd.underlying97
  a212 := Tryd.isAgg97
  z212 := Tryd.sizeOf97
  v212 := Tryd.zeroValue97
  t213 := Tryd.underlying99
  a213 := Tryd.isAgg99
  z213 := Tryd.sizeOf99
  t232 := Tryd.underlying118
  a232 := Tryd.isAgg118
  z232 := Tryd.sizeOf118
  v232 := Tryd.zeroValue118
  t233 := Tryd.underlying119
  a233 := Tryd.isAgg119
  z233 := Tryd.sizeOf119
  v233 := Tryd.zeroValue119
  g17 := by kernel_rfl
  g18 := by kernel_rfl
  g19 := by kernel_rfl
  i0 := by kernel_rfl
  i2 := by kernel_rfl
  i3 := by kernel_rfl
  i4 := by kernel_rfl
  i5 := by kernel_rfl
  i9 := by kernel_rfl
  i20 := by kernel_rfl
  i37 := by kernel_rfl
  i46 := by kernel_rfl
  i51 := by kernel_rfl
  i53 := by kernel_rfl
  i171 := by kernel_rfl
  i173 := by kernel_rfl
  i212 := by kernel_rfl
  i232 := by kernel_rfl
  i233 := by kernel_rfl
  m17 := by kernel_rfl
  m18 := by kernel_rfl
  m19 := by kernel_rfl }
open Go.RowKit Go.Sort Go.Lib in
/-- strconv.Itoa: "Itoa is equivalent to FormatInt(int64(i), 10).": i's DECIMAL NUMERAL ('Lib.itoa': a '-' where i is negative, then the digits), FOR EVERY int. The world behind the call: the world before it, new blocks behind the heap (the library's 'var a [24]byte'), draws. (LAID: no walk: one application.) -/
theorem Tryd.strconv_Itoa (n : Int) (h0 : -9223372036854775808 ≤ n) (h1 : n ≤ 9223372036854775807) (w : World) (htab : Lib.TabIs Tryd.prog w "internal/strconv.uint64pow10" .u64 Lib.pow10Tab) :
    Calls Tryd.prog 27 #[.int .i64 n] w fun e w' => e = .returned (.string ⟨(Lib.itoa n).toArray⟩) ∧ ∃ k os, w' = grow (w.drewN k) os := Any.strconv_Itoa Tryd.laysM171 n h0 h1 w htab
def Tryd.laysC172_ren : Go.Shelf.Ren := ⟨fun | 172 => 35 | 244 => 47 | 245 => 48 | 247 => 61 | 279 => 62 | 280 => 63 | 281 => 64 | 282 => 65 | 287 => 49 | 316 => 82 | 171 => 27 | 205 => 83 | 321 => 66 | 322 => 67 | 243 => 40 | 246 => 50 | 283 => 51 | 284 => 52 | 285 => 53 | 286 => 54 | 129 => 69 | 317 => 68 | 318 => 70 | 319 => 71 | 320 => 72 | 337 => 84 | 338 => 85 | n => n, fun | 9 => 9 | 3 => 3 | 75 => 59 | 76 => 60 | 4 => 4 | 5 => 5 | 167 => 88 | 37 => 41 | 0 => 0 | 85 => 89 | 2 => 2 | 168 => 91 | 53 => 22 | 175 => 62 | 46 => 95 | 210 => 110 | 127 => 85 | 145 => 117 | 143 => 115 | 21 => 21 | 171 => 80 | 173 => 83 | 212 => 97 | 51 => 98 | 20 => 20 | 213 => 99 | 232 => 118 | 233 => 119 | 80 => 76 | n => n, fun | 15 => 2 | 16 => 3 | 17 => 0 | 18 => 4 | 19 => 5 | n => n⟩
theorem Tryd.laysC172 : Go.Proofs.LaysC.n172 Tryd.prog Tryd.laysC172_ren := {
  mixed := by kernel_rfl
  f129 := Tryd.func69.trans (congrArg some (by kernel_rfl))
  f171 := Tryd.func27.trans (congrArg some (by kernel_rfl))
  f172 := Tryd.func35.trans (congrArg some (by kernel_rfl))
  f205 := Tryd.func83.trans (congrArg some (by kernel_rfl))
  f243 := Tryd.func40.trans (congrArg some (by kernel_rfl))
  f244 := Tryd.func47.trans (congrArg some (by kernel_rfl))
  f245 := Tryd.func48.trans (congrArg some (by kernel_rfl))
  f246 := Tryd.func50.trans (congrArg some (by kernel_rfl))
  f247 := Tryd.func61.trans (congrArg some (by kernel_rfl))
  f279 := Tryd.func62.trans (congrArg some (by kernel_rfl))
  f280 := Tryd.func63.trans (congrArg some (by kernel_rfl))
  f281 := Tryd.func64.trans (congrArg some (by kernel_rfl))
  f282 := Tryd.func65.trans (congrArg some (by kernel_rfl))
  f283 := Tryd.func51.trans (congrArg some (by kernel_rfl))
  f284 := Tryd.func52.trans (congrArg some (by kernel_rfl))
  f285 := Tryd.func53.trans (congrArg some (by kernel_rfl))
  f286 := Tryd.func54.trans (congrArg some (by kernel_rfl))
  f287 := Tryd.func49.trans (congrArg some (by kernel_rfl))
  f316 := Tryd.func82.trans (congrArg some (by kernel_rfl))
  f317 := Tryd.func68.trans (congrArg some (by kernel_rfl))
  f318 := Tryd.func70.trans (congrArg some (by kernel_rfl))
  f319 := Tryd.func71.trans (congrArg some (by kernel_rfl))
  f320 := Tryd.func72.trans (congrArg some (by kernel_rfl))
  f321 := Tryd.func66.trans (congrArg some (by kernel_rfl))
  f322 := Tryd.func67.trans (congrArg some (by kernel_rfl))
  f337 := Tryd.func84.trans (congrArg some (by kernel_rfl))
  f338 := Tryd.func85.trans (congrArg some (by kernel_rfl))
  t0 := Tryd.underlying0
  a0 := Tryd.isAgg0
  z0 := Tryd.sizeOf0
  v0 := Tryd.zeroValue0
  t2 := Tryd.underlying2
  a2 := Tryd.isAgg2
  z2 := Tryd.sizeOf2
  v2 := Tryd.zeroValue2
  t3 := Tryd.underlying3
  a3 := Tryd.isAgg3
  z3 := Tryd.sizeOf3
  v3 := Tryd.zeroValue3
  t4 := Tryd.underlying4
  a4 := Tryd.isAgg4
  z4 := Tryd.sizeOf4
  v4 := Tryd.zeroValue4
  t5 := Tryd.underlying5
  a5 := Tryd.isAgg5
  z5 := Tryd.sizeOf5
  v5 := Tryd.zeroValue5
  t9 := Tryd.underlying9
  a9 := Tryd.isAgg9
  z9 := Tryd.sizeOf9
  v9 := Tryd.zeroValue9
  t20 := Tryd.underlying20
  a20 := Tryd.isAgg20
  z20 := Tryd.sizeOf20
  v20 := Tryd.zeroValue20
  t21 := Tryd.underlying21
  a21 := Tryd.isAgg21
  z21 := Tryd.sizeOf21
  v21 := Tryd.zeroValue21
  t37 := Tryd.underlying41
  a37 := Tryd.isAgg41
  z37 := Tryd.sizeOf41
  v37 := Tryd.zeroValue41
  t46 := Tryd.underlying95
  a46 := Tryd.isAgg95
  z46 := Tryd.sizeOf95
  v46 := Tryd.zeroValue95
  t51 := Tryd.underlying98
  a51 := Tryd.isAgg98
  z51 := Tryd.sizeOf98
  v51 := Tryd.zeroValue98
  t53 := Tryd.underlying22
  a53 := Tryd.isAgg22
  z53 := Tryd.sizeOf22
  v53 := Tryd.zeroValue22
  t75 := Tryd.underlying59
  a75 := Tryd.isAgg59
  z75 := Tryd.sizeOf59
  v75 := Tryd.zeroValue59
  t76 := Tryd.underlying60
  a76 := Tryd.isAgg60
  z76 := Tryd.sizeOf60
  v76 := Tryd.zeroValue60
  t85 := Tryd.underlying89
  a85 := Tryd.isAgg89
  z85 := Tryd.sizeOf89
  v85 := Tryd.zeroValue89
  t127 := Tryd.underlying85
  a127 := Tryd.isAgg85
  z127 := Tryd.sizeOf85
  v127 := Tryd.zeroValue85
  t143 := Tryd.underlying115
  a143 := Tryd.isAgg115
  z143 := Tryd.sizeOf115
  v143 := Tryd.zeroValue115
  t145 := Tryd.underlying117
  a145 := Tryd.isAgg117
  z145 := Tryd.sizeOf117
  v145 := Tryd.zeroValue117
  t167 := Tryd.underlying88
  a167 := Tryd.isAgg88
  z167 := Tryd.sizeOf88
  v167 := Tryd.zeroValue88
  t168 := Tryd.underlying91
  a168 := Tryd.isAgg91
  z168 := Tryd.sizeOf91
  v168 := Tryd.zeroValue91
  t171 := Tryd.underlying80
  a171 := Tryd.isAgg80
  z171 := Tryd.sizeOf80
  v171 := Tryd.zeroValue80
  t173 := Tryd.underlying83
  a173 := Tryd.isAgg83
  z173 := Tryd.sizeOf83
  v173 := Tryd.zeroValue83
  t175 := Tryd.underlying62
  a175 := Tryd.isAgg62
  z175 := Tryd.sizeOf62
  v175 := Tryd.zeroValue62
  t210 := Tryd.underlying110
  a210 := Tryd.isAgg110
  z210 := Tryd.sizeOf110
  v210 := Tryd.zeroValue110
  t212 := Tryd.underlying97
  a212 := Tryd.isAgg97
  z212 := Tryd.sizeOf97
  v212 := Tryd.zeroValue97
  t213 := Tryd.underlying99
  a213 := Tryd.isAgg99
  z213 := Tryd.sizeOf99
  t232 := Tryd.underlying118
  a232 := Tryd.isAgg118
  z232 := Tryd.sizeOf118
  v232 := Tryd.zeroValue118
  t233 := Tryd.underlying119
  a233 := Tryd.isAgg119
  z233 := Tryd.sizeOf119
  v233 := Tryd.zeroValue119
  g15 := by kernel_rfl
  g16 := by kernel_rfl
  g17 := by kernel_rfl
  g18 := by kernel_rfl
  g19 := by kernel_rfl
  t80 := Tryd.underlying76
  a80 := Tryd.isAgg76
  z80 := Tryd.sizeOf76
  v80 := Tryd.zeroValue76
  i0 := by kernel_rfl
  i2 := by kernel_rfl
  i3 := by kernel_rfl
  i4 := by kernel_rfl
  i5 := by kernel_rfl
  i9 := by kernel_rfl
  i20 := by kernel_rfl
  i21 := by kernel_rfl
  i37 := by kernel_rfl
  i46 := by kernel_rfl
  i51 := by kernel_rfl
  i53 := by kernel_rfl
  i75 := by kernel_rfl
  i76 := by kernel_rfl
  i80 := by kernel_rfl
  i85 := by kernel_rfl
  i127 := by kernel_rfl
  i143 := by kernel_rfl
  i145 := by kernel_rfl
  i167 := by kernel_rfl
  i168 := by kernel_rfl
  i171 := by kernel_rfl
  i173 := by kernel_rfl
  i175 := by kernel_rfl
  i210 := by kernel_rfl
  i212 := by kernel_rfl
  i232 := by kernel_rfl
  i233 := by kernel_rfl
  m15 := by kernel_rfl
  m16 := by kernel_rfl
  m17 := by kernel_rfl
  m18 := by kernel_rfl
  m19 := by kernel_rfl
  c0 := by kernel_rfl
  c2 := by kernel_rfl
  c3 := by kernel_rfl
  c4 := by kernel_rfl
  c5 := by kernel_rfl
  c9 := by kernel_rfl
  c20 := by kernel_rfl
  c21 := by kernel_rfl
  c37 := by kernel_rfl
  c46 := by kernel_rfl
  c51 := by kernel_rfl
  c53 := by kernel_rfl
  c75 := by kernel_rfl
  c76 := by kernel_rfl
  c80 := by kernel_rfl
  c85 := by kernel_rfl
  c127 := by kernel_rfl
  c143 := by kernel_rfl
  c145 := by kernel_rfl
  c167 := by kernel_rfl
  c168 := by kernel_rfl
  c171 := by kernel_rfl
  c173 := by kernel_rfl
  c175 := by kernel_rfl
  c210 := by kernel_rfl
  c212 := by kernel_rfl
  c213 := by kernel_rfl
  c232 := by kernel_rfl
  c233 := by kernel_rfl }
open Go.RowKit in
/-- strconv.Atoi, AT EVERY STRING THAT SPELLS AN int ('Lib.atoiAll .. = .ok v'; of whatever length: leading zeros count): v, AND NO ERROR. The world: as it was, or with the one new row that '[]byte(..)' lays. (LAID: no walk: one application.) -/
theorem Tryd.strconv_Atoi_ok (s : ByteArray) (hmax : s.size ≤ 9223372036854775806) (v : Int) (h : Lib.atoiAll s.data.toList = .ok v) (w : World) :
    Calls Tryd.prog 35 #[.string s] w fun e w' => e = .returned (.tuple #[.int .i64 v, .nilIface]) ∧ (w' = w ∨ ∃ t, w' = Lib.bytesWorld w 5 t) := Any.strconv_Atoi_ok Tryd.laysC172 s hmax v h w
open Go.RowKit in
/-- strconv.Atoi, AT EVERY STRING THAT IS NO DECIMAL NUMERAL ('.syntax'): 0, AND AN ERROR THAT IS NOT nil: a *NumError in a new block N: {Func: "Atoi", Num: s's bytes, Err: what the variable ErrSyntax holds}. Of what was there nothing has turned. (LAID: no walk: one application.) -/
theorem Tryd.strconv_Atoi_syntax (s : ByteArray) (hlim : s.size ≤ 281474976710656) (h : Lib.atoiAll s.data.toList = .«syntax») (ev : Value) (w : World) (hv : w.cell? ⟨2, 0, none⟩ = some ev) (hev : ev = .nilIface ∨ ∃ te pe, ev = .iface te pe) :
    Calls Tryd.prog 35 #[.string s] w fun e w' => ∃ N, e = .returned (.tuple #[.int .i64 (0), .iface 91 (.pointer (some ⟨N, 0, none⟩))]) ∧ w.heap.size ≤ N ∧ w'.heap[N]? = some (.cells #[.string ⟨#[65, 116, 111, 105]⟩, .string s, ev] 110 (0, 0)) ∧ Below w.heap.size w w' := Any.strconv_Atoi_syntax Tryd.laysC172 s hlim h ev w hv hev
open Go.RowKit in
/-- strconv.Atoi, AT EVERY NUMERAL THAT NO int HOLDS ('.range'): THE GREATEST OR THE LEAST int, BY THE SIGN ('Lib.atoiSat'), AND AN ERROR THAT IS NOT nil: a *NumError in a new block N: {Func: "Atoi", Num: s's bytes, Err: what the variable ErrRange holds}. Of what was there nothing has turned. (LAID: no walk: one application.) -/
theorem Tryd.strconv_Atoi_range (s : ByteArray) (hlim : s.size ≤ 281474976710656) (h : Lib.atoiAll s.data.toList = .range) (ev : Value) (w : World) (hv : w.cell? ⟨3, 0, none⟩ = some ev) (hev : ev = .nilIface ∨ ∃ te pe, ev = .iface te pe) :
    Calls Tryd.prog 35 #[.string s] w fun e w' => ∃ N, e = .returned (.tuple #[.int .i64 (Lib.atoiSat s.data.toList), .iface 91 (.pointer (some ⟨N, 0, none⟩))]) ∧ w.heap.size ≤ N ∧ w'.heap[N]? = some (.cells #[.string ⟨#[65, 116, 111, 105]⟩, .string s, ev] 110 (0, 0)) ∧ Below w.heap.size w w' := Any.strconv_Atoi_range Tryd.laysC172 s hlim h ev w hv hev
def Tryd.laysPu14_ren : Go.Shelf.Ren := ⟨fun | 14 => 36 | 16 => 49 | 17 => 48 | 19 => 66 | 20 => 67 | 21 => 62 | 22 => 63 | 23 => 64 | 24 => 65 | 25 => 82 | 27 => 27 | 26 => 83 | 28 => 40 | 29 => 50 | 30 => 51 | 31 => 52 | 32 => 53 | 33 => 54 | 35 => 69 | 34 => 68 | 36 => 70 | 37 => 71 | 38 => 72 | 39 => 84 | 40 => 85 | n => n, fun | 9 => 9 | 3 => 3 | 22 => 22 | 24 => 59 | 25 => 62 | 4 => 4 | 34 => 88 | 5 => 5 | 36 => 95 | 37 => 41 | 0 => 0 | 39 => 91 | 21 => 21 | 44 => 110 | 47 => 85 | 50 => 117 | 48 => 115 | 2 => 2 | 52 => 80 | 55 => 83 | 59 => 97 | 60 => 98 | 20 => 20 | 61 => 99 | 65 => 118 | 66 => 119 | 67 => 76 | n => n, fun | 0 => 2 | 1 => 3 | 2 => 0 | 3 => 4 | 4 => 5 | n => n⟩
theorem Tryd.laysPu14 : Go.Proofs.LaysPu.n14 Tryd.prog Tryd.laysPu14_ren := {
  mixed := by kernel_rfl
  f14 := Tryd.func36.trans (congrArg some (by kernel_rfl))
  f16 := Tryd.func49.trans (congrArg some (by kernel_rfl))
  f17 := Tryd.func48.trans (congrArg some (by kernel_rfl))
  f19 := Tryd.func66.trans (congrArg some (by kernel_rfl))
  f20 := Tryd.func67.trans (congrArg some (by kernel_rfl))
  f21 := Tryd.func62.trans (congrArg some (by kernel_rfl))
  f22 := Tryd.func63.trans (congrArg some (by kernel_rfl))
  f23 := Tryd.func64.trans (congrArg some (by kernel_rfl))
  f24 := Tryd.func65.trans (congrArg some (by kernel_rfl))
  f25 := Tryd.func82.trans (congrArg some (by kernel_rfl))
  f26 := Tryd.func83.trans (congrArg some (by kernel_rfl))
  f27 := Tryd.func27.trans (congrArg some (by kernel_rfl))
  f28 := Tryd.func40.trans (congrArg some (by kernel_rfl))
  f29 := Tryd.func50.trans (congrArg some (by kernel_rfl))
  f30 := Tryd.func51.trans (congrArg some (by kernel_rfl))
  f31 := Tryd.func52.trans (congrArg some (by kernel_rfl))
  f32 := Tryd.func53.trans (congrArg some (by kernel_rfl))
  f33 := Tryd.func54.trans (congrArg some (by kernel_rfl))
  f34 := Tryd.func68.trans (congrArg some (by kernel_rfl))
  f35 := Tryd.func69.trans (congrArg some (by kernel_rfl))
  f36 := Tryd.func70.trans (congrArg some (by kernel_rfl))
  f37 := Tryd.func71.trans (congrArg some (by kernel_rfl))
  f38 := Tryd.func72.trans (congrArg some (by kernel_rfl))
  f39 := Tryd.func84.trans (congrArg some (by kernel_rfl))
  f40 := Tryd.func85.trans (congrArg some (by kernel_rfl))
  t0 := Tryd.underlying0
  a0 := Tryd.isAgg0
  z0 := Tryd.sizeOf0
  v0 := Tryd.zeroValue0
  i0 := by kernel_rfl
  t2 := Tryd.underlying2
  a2 := Tryd.isAgg2
  z2 := Tryd.sizeOf2
  v2 := Tryd.zeroValue2
  i2 := by kernel_rfl
  t3 := Tryd.underlying3
  a3 := Tryd.isAgg3
  z3 := Tryd.sizeOf3
  v3 := Tryd.zeroValue3
  i3 := by kernel_rfl
  t4 := Tryd.underlying4
  a4 := Tryd.isAgg4
  z4 := Tryd.sizeOf4
  v4 := Tryd.zeroValue4
  i4 := by kernel_rfl
  t5 := Tryd.underlying5
  a5 := Tryd.isAgg5
  z5 := Tryd.sizeOf5
  v5 := Tryd.zeroValue5
  i5 := by kernel_rfl
  t9 := Tryd.underlying9
  a9 := Tryd.isAgg9
  z9 := Tryd.sizeOf9
  v9 := Tryd.zeroValue9
  i9 := by kernel_rfl
  t20 := Tryd.underlying20
  a20 := Tryd.isAgg20
  z20 := Tryd.sizeOf20
  v20 := Tryd.zeroValue20
  i20 := by kernel_rfl
  t21 := Tryd.underlying21
  a21 := Tryd.isAgg21
  z21 := Tryd.sizeOf21
  v21 := Tryd.zeroValue21
  i21 := by kernel_rfl
  t22 := Tryd.underlying22
  a22 := Tryd.isAgg22
  z22 := Tryd.sizeOf22
  v22 := Tryd.zeroValue22
  i22 := by kernel_rfl
  t24 := Tryd.underlying59
  a24 := Tryd.isAgg59
  z24 := Tryd.sizeOf59
  v24 := Tryd.zeroValue59
  i24 := by kernel_rfl
  t25 := Tryd.underlying62
  a25 := Tryd.isAgg62
  z25 := Tryd.sizeOf62
  v25 := Tryd.zeroValue62
  i25 := by kernel_rfl
  t34 := Tryd.underlying88
  a34 := Tryd.isAgg88
  z34 := Tryd.sizeOf88
  v34 := Tryd.zeroValue88
  i34 := by kernel_rfl
  c34 := by kernel_rfl
  t36 := Tryd.underlying95
  a36 := Tryd.isAgg95
  z36 := Tryd.sizeOf95
  v36 := Tryd.zeroValue95
  i36 := by kernel_rfl
  t37 := Tryd.underlying41
  a37 := Tryd.isAgg41
  z37 := Tryd.sizeOf41
  v37 := Tryd.zeroValue41
  i37 := by kernel_rfl
  t39 := Tryd.underlying91
  a39 := Tryd.isAgg91
  z39 := Tryd.sizeOf91
  v39 := Tryd.zeroValue91
  i39 := by kernel_rfl
  t44 := Tryd.underlying110
  a44 := Tryd.isAgg110
  z44 := Tryd.sizeOf110
  v44 := Tryd.zeroValue110
  i44 := by kernel_rfl
  t47 := Tryd.underlying85
  a47 := Tryd.isAgg85
  z47 := Tryd.sizeOf85
  v47 := Tryd.zeroValue85
  i47 := by kernel_rfl
  t48 := Tryd.underlying115
  a48 := Tryd.isAgg115
  z48 := Tryd.sizeOf115
  v48 := Tryd.zeroValue115
  i48 := by kernel_rfl
  t50 := Tryd.underlying117
  a50 := Tryd.isAgg117
  z50 := Tryd.sizeOf117
  v50 := Tryd.zeroValue117
  i50 := by kernel_rfl
  t52 := Tryd.underlying80
  a52 := Tryd.isAgg80
  z52 := Tryd.sizeOf80
  v52 := Tryd.zeroValue80
  i52 := by kernel_rfl
  t55 := Tryd.underlying83
  a55 := Tryd.isAgg83
  z55 := Tryd.sizeOf83
  v55 := Tryd.zeroValue83
  i55 := by kernel_rfl
  t59 := Tryd.underlying97
  a59 := Tryd.isAgg97
  z59 := Tryd.sizeOf97
  v59 := Tryd.zeroValue97
  i59 := by kernel_rfl
  t60 := Tryd.underlying98
  a60 := Tryd.isAgg98
  z60 := Tryd.sizeOf98
  v60 := Tryd.zeroValue98
  i60 := by kernel_rfl
  t61 := Tryd.underlying99
  a61 := Tryd.isAgg99
  z61 := Tryd.sizeOf99
  t65 := Tryd.underlying118
  a65 := Tryd.isAgg118
  z65 := Tryd.sizeOf118
  v65 := Tryd.zeroValue118
  i65 := by kernel_rfl
  t66 := Tryd.underlying119
  a66 := Tryd.isAgg119
  z66 := Tryd.sizeOf119
  v66 := Tryd.zeroValue119
  i66 := by kernel_rfl
  t67 := Tryd.underlying76
  a67 := Tryd.isAgg76
  z67 := Tryd.sizeOf76
  v67 := Tryd.zeroValue76
  i67 := by kernel_rfl
  g0 := by kernel_rfl
  m0 := by kernel_rfl
  g1 := by kernel_rfl
  m1 := by kernel_rfl
  g2 := by kernel_rfl
  m2 := by kernel_rfl
  g3 := by kernel_rfl
  m3 := by kernel_rfl
  g4 := by kernel_rfl
  m4 := by kernel_rfl }
open Go.RowKit in
/-- strconv.ParseUint(s, 10, 64), AT EVERY STRING THAT SPELLS A uint64 ('Lib.parseUintB 64 s.data.toList = .ok u'): u, AND NO ERROR. (LAID: no walk: one application.) -/
theorem Tryd.strconv_ParseUint_10_at64_ok (s : ByteArray) (hmax : s.size ≤ 9223372036854775806) (u : Nat) (h : Lib.parseUintB 64 s.data.toList = .ok u) (w : World) :
    Calls Tryd.prog 36 #[.string s, .int .i64 10, .int .i64 64] w fun e w' => e = .returned (.tuple #[.int .u64 u, .nilIface]) ∧ (w' = w ∨ w' = Lib.bytesWorld w 5 s) := Any.strconv_ParseUint_10_at64_ok Tryd.laysPu14 s hmax u h w
open Go.RowKit in
/-- strconv.ParseUint(s, 10, 64), AT EVERY STRING THAT IS NO ROW OF DECIMAL DIGITS (a sign is a fault): 0, AND AN ERROR THAT IS NOT nil: a *NumError in a new block N: {Func: "ParseUint", Num: s's bytes, Err: what the variable ErrSyntax holds}. Of what was there nothing has turned. (LAID: no walk: one application.) -/
theorem Tryd.strconv_ParseUint_10_at64_syntax (s : ByteArray) (hlim : s.size ≤ 281474976710656) (h : Lib.parseUintB 64 s.data.toList = .«syntax») (ev : Value) (w : World) (hv : w.cell? ⟨2, 0, none⟩ = some ev) (hev : ev = .nilIface ∨ ∃ te pe, ev = .iface te pe) :
    Calls Tryd.prog 36 #[.string s, .int .i64 10, .int .i64 64] w fun e w' => ∃ N, e = .returned (.tuple #[.int .u64 0, .iface 91 (.pointer (some ⟨N, 0, none⟩))]) ∧ w.heap.size ≤ N ∧ w'.heap[N]? = some (.cells #[.string ⟨#[80, 97, 114, 115, 101, 85, 105, 110, 116]⟩, .string s, ev] 110 (0, 0)) ∧ Below w.heap.size w w' := Any.strconv_ParseUint_10_at64_syntax Tryd.laysPu14 s hlim h ev w hv hev
open Go.RowKit in
/-- strconv.ParseUint(s, 10, 64), AT EVERY NUMERAL THAT NO uint64 HOLDS: THE GREATEST uint64, AND AN ERROR THAT IS NOT nil: a *NumError in a new block N: {Func: "ParseUint", Num: s's bytes, Err: what the variable ErrRange holds}. Of what was there nothing has turned. (LAID: no walk: one application.) -/
theorem Tryd.strconv_ParseUint_10_at64_range (s : ByteArray) (hlim : s.size ≤ 281474976710656) (h : Lib.parseUintB 64 s.data.toList = .range) (ev : Value) (w : World) (hv : w.cell? ⟨3, 0, none⟩ = some ev) (hev : ev = .nilIface ∨ ∃ te pe, ev = .iface te pe) :
    Calls Tryd.prog 36 #[.string s, .int .i64 10, .int .i64 64] w fun e w' => ∃ N, e = .returned (.tuple #[.int .u64 18446744073709551615, .iface 91 (.pointer (some ⟨N, 0, none⟩))]) ∧ w.heap.size ≤ N ∧ w'.heap[N]? = some (.cells #[.string ⟨#[80, 97, 114, 115, 101, 85, 105, 110, 116]⟩, .string s, ev] 110 (0, 0)) ∧ Below w.heap.size w w' := Any.strconv_ParseUint_10_at64_range Tryd.laysPu14 s hlim h ev w hv hev
def Tryd.lays145_ren : Go.Shelf.Ren := ⟨fun | 145 => 34 | 220 => 46 | 219 => 60 | 217 => 78 | 225 => 79 | 224 => 80 | 267 => 81 | 266 => 87 | 314 => 88 | n => n, fun | 9 => 9 | 4 => 4 | 59 => 56 | 3 => 3 | 5 => 5 | 46 => 95 | 146 => 113 | 51 => 98 | n => n, fun | 1 => 1 | n => n⟩
theorem Tryd.lays145 : Go.Proofs.Lays.n145 Tryd.prog Tryd.lays145_ren := {
  mixed := by kernel_rfl
  f145 := Tryd.func34.trans (congrArg some (by kernel_rfl))
  f217 := Tryd.func78.trans (congrArg some (by kernel_rfl))
  f219 := Tryd.func60.trans (congrArg some (by kernel_rfl))
  f220 := Tryd.func46.trans (congrArg some (by kernel_rfl))
  f224 := Tryd.func80.trans (congrArg some (by kernel_rfl))
  f225 := Tryd.func79.trans (congrArg some (by kernel_rfl))
  f266 := Tryd.func87.trans (congrArg some (by kernel_rfl))
  f267 := Tryd.func81.trans (congrArg some (by kernel_rfl))
  f314 := Tryd.func88.trans (congrArg some (by kernel_rfl))
  t3 := Tryd.underlying3
  a3 := Tryd.isAgg3
  z3 := Tryd.sizeOf3
  v3 := Tryd.zeroValue3
  t4 := Tryd.underlying4
  a4 := Tryd.isAgg4
  z4 := Tryd.sizeOf4
  v4 := Tryd.zeroValue4
  t5 := Tryd.underlying5
  a5 := Tryd.isAgg5
  z5 := Tryd.sizeOf5
  v5 := Tryd.zeroValue5
  t9 := Tryd.underlying9
  a9 := Tryd.isAgg9
  z9 := Tryd.sizeOf9
  v9 := Tryd.zeroValue9
  t46 := Tryd.underlying95
  a46 := Tryd.isAgg95
  z46 := Tryd.sizeOf95
  v46 := Tryd.zeroValue95
  t51 := Tryd.underlying98
  a51 := Tryd.isAgg98
  z51 := Tryd.sizeOf98
  v51 := Tryd.zeroValue98
  t59 := Tryd.underlying56
  a59 := Tryd.isAgg56
  z59 := Tryd.sizeOf56
  v59 := Tryd.zeroValue56
  t146 := Tryd.underlying113
  a146 := Tryd.isAgg113
  z146 := Tryd.sizeOf113
  v146 := Tryd.zeroValue113
  g1 := by kernel_rfl }
open Go.RowKit Go.Lib in
/-- strings.Cut: "Cut slices s around the first instance of sep, returning the text before and after sep. The found result reports whether sep appears in s. If sep does not appear in s, cut returns s, "", false.": IT RETURNS 'Lib.cut s sep'; the world is as it was but for the count of draws. (LAID: no walk: one application.) -/
theorem Tryd.strings_Cut (s sep : ByteArray) (m : Int) (w : World) (hs : s.size < 4294967281) (hm : w.cell? ⟨1, 0, none⟩ = some (.int .i64 m)) :
    Calls Tryd.prog 34 #[.string s, .string sep] w fun e w' => e = .returned (.tuple #[.string ⟨(Lib.cut s.data.toList sep.data.toList).1.toArray⟩, .string ⟨(Lib.cut s.data.toList sep.data.toList).2.1.toArray⟩, .bool (Lib.cut s.data.toList sep.data.toList).2.2]) ∧ ∃ n, w' = w.drewN n := Any.strings_Cut Tryd.lays145 s sep m w hs hm
def Tryd.lays146_ren : Go.Shelf.Ren := ⟨fun | 146 => 32 | 221 => 45 | 268 => 57 | 138 => 58 | 143 => 59 | 195 => 75 | 197 => 76 | 218 => 77 | 219 => 60 | 260 => 86 | 217 => 78 | 225 => 79 | 224 => 80 | 267 => 81 | 266 => 87 | 314 => 88 | n => n, fun | 9 => 9 | 31 => 49 | 3 => 3 | 4 => 4 | 0 => 0 | 105 => 105 | 21 => 21 | 5 => 5 | 46 => 95 | 119 => 120 | 139 => 123 | 138 => 122 | 146 => 113 | 51 => 98 | n => n, fun | 1 => 1 | 3 => 6 | 4 => 7 | n => n⟩
theorem Tryd.lays146 : Go.Proofs.Lays.n146 Tryd.prog Tryd.lays146_ren := {
  mixed := by kernel_rfl
  f138 := Tryd.func58.trans (congrArg some (by kernel_rfl))
  f143 := Tryd.func59.trans (congrArg some (by kernel_rfl))
  f146 := Tryd.func32.trans (congrArg some (by kernel_rfl))
  f195 := Tryd.func75.trans (congrArg some (by kernel_rfl))
  f197 := Tryd.func76.trans (congrArg some (by kernel_rfl))
  f217 := Tryd.func78.trans (congrArg some (by kernel_rfl))
  f218 := Tryd.func77.trans (congrArg some (by kernel_rfl))
  f219 := Tryd.func60.trans (congrArg some (by kernel_rfl))
  f221 := Tryd.func45.trans (congrArg some (by kernel_rfl))
  f224 := Tryd.func80.trans (congrArg some (by kernel_rfl))
  f225 := Tryd.func79.trans (congrArg some (by kernel_rfl))
  f260 := Tryd.func86.trans (congrArg some (by kernel_rfl))
  f266 := Tryd.func87.trans (congrArg some (by kernel_rfl))
  f267 := Tryd.func81.trans (congrArg some (by kernel_rfl))
  f268 := Tryd.func57.trans (congrArg some (by kernel_rfl))
  f314 := Tryd.func88.trans (congrArg some (by kernel_rfl))
  t0 := Tryd.underlying0
  a0 := Tryd.isAgg0
  z0 := Tryd.sizeOf0
  v0 := Tryd.zeroValue0
  t3 := Tryd.underlying3
  a3 := Tryd.isAgg3
  z3 := Tryd.sizeOf3
  v3 := Tryd.zeroValue3
  t4 := Tryd.underlying4
  a4 := Tryd.isAgg4
  z4 := Tryd.sizeOf4
  v4 := Tryd.zeroValue4
  t5 := Tryd.underlying5
  a5 := Tryd.isAgg5
  z5 := Tryd.sizeOf5
  v5 := Tryd.zeroValue5
  t9 := Tryd.underlying9
  a9 := Tryd.isAgg9
  z9 := Tryd.sizeOf9
  v9 := Tryd.zeroValue9
  t21 := Tryd.underlying21
  a21 := Tryd.isAgg21
  z21 := Tryd.sizeOf21
  v21 := Tryd.zeroValue21
  t31 := Tryd.underlying49
  a31 := Tryd.isAgg49
  z31 := Tryd.sizeOf49
  v31 := Tryd.zeroValue49
  t46 := Tryd.underlying95
  a46 := Tryd.isAgg95
  z46 := Tryd.sizeOf95
  v46 := Tryd.zeroValue95
  t51 := Tryd.underlying98
  a51 := Tryd.isAgg98
  z51 := Tryd.sizeOf98
  v51 := Tryd.zeroValue98
  t105 := Tryd.underlying105
  a105 := Tryd.isAgg105
  z105 := Tryd.sizeOf105
  v105 := Tryd.zeroValue105
  t119 := Tryd.underlying120
  a119 := Tryd.isAgg120
  z119 := Tryd.sizeOf120
  t138 := Tryd.underlying122
  a138 := Tryd.isAgg122
  z138 := Tryd.sizeOf122
  v138 := Tryd.zeroValue122
  t139 := Tryd.underlying123
  a139 := Tryd.isAgg123
  z139 := Tryd.sizeOf123
  v139 := Tryd.zeroValue123
  t146 := Tryd.underlying113
  a146 := Tryd.isAgg113
  z146 := Tryd.sizeOf113
  v146 := Tryd.zeroValue113
  g1 := by kernel_rfl
  g3 := by kernel_rfl
  g4 := by kernel_rfl }
open Go.RowKit Go.Lib in
/-- strings.Split. (LAID: no walk: one application.) -/
theorem Tryd.strings_Split (s sep : ByteArray) (m : Int) (w : World) (hs : s.size < 4294967281) (hm : w.cell? ⟨1, 0, none⟩ = some (.int .i64 m)) (h1 : 1 ≤ sep.size) :
    Calls Tryd.prog 32 #[.string s, .string sep] w fun e w' =>
      e = .returned (.slice (some ⟨w.heap.size, 0, none⟩) (Lib.countB s sep + 1) (Lib.countB s sep + 1)) ∧ w' = w.alloc (.cells ((Lib.splitB sep 0 (Lib.countB s sep) s).map Value.string).toArray 9) := Any.strings_Split Tryd.lays146 (by kernel_rfl) s sep m w hs hm h1
end Go.Proofs

/-
  The library's contracts as judgements: Itoa, FormatUint, Join.
-/
set_option linter.unusedVariables false
set_option linter.unusedSimpArgs false
namespace Go.Proofs.YtlpikhdiiehcaaaDoor
open Go Go.RowKit
attribute [local irreducible] Sx Cx Rx Fx Krg Ksq Kbl Klp Kr
/-- What the library's functions ask of the world that there was. -/
structure LibOk (w : World) : Prop where
  tab : Lib.TabIs Tryd.prog w "internal/strconv.uint64pow10" .u64 Lib.pow10Tab
  syn : ∃ ev, w.cell? ⟨2, 0, none⟩ = some ev ∧ (ev = .nilIface ∨ ∃ te pe, ev = .iface te pe)
  rng : ∃ ev, w.cell? ⟨3, 0, none⟩ = some ev ∧ (ev = .nilIface ∨ ∃ te pe, ev = .iface te pe)
  mx : ∃ m, w.cell? ⟨1, 0, none⟩ = some (.int .i64 m)
theorem old_block {w0 w W : World} {L : St} (s : Sat w0 W L) (h : Ent L [Old w]) {b : Nat} (hb : b < w.heap.size) : W.heap[b]? = w.heap[b]? := by
  obtain ⟨h, ⟨g, k, d, rfl, hg, hk⟩, hw⟩ := (s.ent h).heap
  have h1 := hg b
  rw [if_pos hb] at h1
  rw [Array.getElem?_eq_getElem hb] at h1 ⊢
  exact hw b _ (Hp.join_left h1)
/-- The old world, but for what the heap has not in it. -/
def oldAs (w W : World) : World := { w with os := W.os, tape := W.tape, output := W.output }
theorem old_below {w0 w W : World} {L : St} (s : Sat w0 W L) (h : Ent L [Old w]) : Below w.heap.size (oldAs w W) W := by
  refine ⟨rfl, rfl, rfl, ?_, fun k hk => old_block s h hk⟩
  show w.heap.size ≤ W.heap.size
  rcases Nat.eq_zero_or_pos w.heap.size with h0 | h0
  · omega
  · have h1 := old_block s h (b := w.heap.size - 1) (by omega)
    rw [Array.getElem?_eq_getElem (show w.heap.size - 1 < w.heap.size by omega)] at h1
    have := (Array.getElem?_eq_some_iff.1 h1).1
    omega
theorem LibOk.later {w0 w W : World} {L : St} (l : LibOk w) (s : Sat w0 W L) (h : Ent L [Old w]) : LibOk W := by
  have hb := old_below s h
  have cell : ∀ {a : Addr} {v : Value}, w.cell? a = some v → W.cell? a = some v := fun {a v} hc => by
    have hlt : a.block < w.heap.size := World.block_lt_of_cell? w a hc
    have h1 := old_block s h hlt
    unfold World.cell? at hc ⊢
    rw [h1]; exact hc
  obtain ⟨e1, s1, s2⟩ := l.syn
  obtain ⟨e2, r1, r2⟩ := l.rng
  obtain ⟨m, m1⟩ := l.mx
  exact ⟨(Lib.tabBelow_of_tabIs (w := oldAs w W) l.tab) W hb, ⟨e1, cell s1, s2⟩, ⟨e2, cell r1, r2⟩, ⟨m, cell m1⟩⟩
section
variable {L F G : St} {w : World}
theorem Has.eqv {L : St} {b off : Nat} {vs us : List Value} (h : Has L b off vs) (e : vs = us) : Has L b off us := e ▸ h
theorem below_gd (w : World) (k : Nat) (os : Array Obj) : Below w.heap.size w (Sort.grow (w.drewN k) os) := by
  refine ⟨rfl, rfl, rfl, ?_, fun i hi => ?_⟩
  · show w.heap.size ≤ (w.heap ++ os).size
    simp
  · show (w.heap ++ os)[i]? = w.heap[i]?
    rw [Array.getElem?_append_left hi]
theorem libItoa (l : LibOk w) (hL : Ent L [Old w]) (n : Nat) (hn : n ≤ 9223372036854775807) : Fx Tryd.prog 27 [.int .i64 n] L (fun v L' => v = str (dec n) ∧ L = L') :=
  Fx.lib fun w0 W s => (Tryd.strconv_Itoa (n : Int) (by omega) (by omega) W (l.later s hL).tab).mono fun e w' ⟨he, k, os, hw⟩ => by
    have e1 : Lib.itoa (n : Int) = dec n := by unfold Lib.itoa; rw [if_neg (by omega)]; rfl
    rw [e1] at he
    exact ⟨he, by rw [hw]; exact below_gd W k os⟩
theorem libSmall (n : Nat) (hn : n < 100) : Fx Tryd.prog 51 [.int .i64 n] L (fun v L' => v = str (dec n) ∧ L = L') :=
  Fx.lib fun w0 W s => (Tryd.internal_strconv_small n hn W).mono fun e w' ⟨he, hw⟩ => ⟨he, hw ▸ Below.refl _ _⟩
theorem libDigits (l : LibOk w) (hL : Ent L [Old w]) (n : Nat) (h1 : 1 ≤ n) (hn : n < 18446744073709551616) : Fx Tryd.prog 52 [.int .u64 n] L (fun v L' => v = .int .i64 (Lib.nDigits n) ∧ L = L') :=
  Fx.lib fun w0 W s => (Tryd.internal_strconv_numDigits n h1 hn W (l.later s hL).tab).mono fun e w' ⟨he, hw⟩ => ⟨he, hw ▸ Below.refl _ _⟩
theorem libFormat10 {b T : Nat} {cs : List Value} (n : Nat) (hn : n < 18446744073709551616) (hc : cs = List.replicate 24 (.int .u8 0)) :
    Fx Tryd.prog 53 [.slice (some ⟨b, 0, none⟩) (Lib.nDigits n) 24, .int .u64 n] (pt (some ⟨b, 0, none⟩) (Blk T cs) :: F) (fun v L' => v = .tuple #[] ∧ L' = pt (some ⟨b, 0, none⟩) (Blk T (bys (dec n) ++ cs.drop (Lib.nDigits n))) :: F) := by
  unfold Fx
  intro w0 W s
  have hb := s.blk (g := b) (T := T) (cs := cs)
  have hd20 := Lib.nDigits_le20 n hn
  have hlen : (dec n).length = Lib.nDigits n := Lib.decDigits_length n
  have hH : Sort.Holds (fun (b : UInt8) => Value.int .u8 (b.toNat : Int)) W b 0 (Array.replicate (Lib.nDigits n) 0) := fun j hj => by
    rw [Array.size_replicate] at hj
    have h1 : cs[j]? = some (.int .u8 0) := by rw [hc, List.getElem?_replicate, if_pos (by omega)]
    refine ⟨?_, ?_⟩
    · unfold World.cell?
      rw [hb]
      simp [h1, hj]
    · unfold World.frozen?
      rw [hb]
      simp
  have hu : n < 10 ^ (Array.replicate (Lib.nDigits n) (0 : UInt8)).size := by
    rw [Array.size_replicate]
    exact Lib.lt_pow_nDigits n
  have hcall := Tryd.internal_strconv_formatBase10 b 0 24 n (Array.replicate (Lib.nDigits n) 0) W hH hu hn (by rw [Array.size_replicate]; omega)
  rw [Array.size_replicate] at hcall
  refine hcall.mono fun e w' ⟨he, k, v', dk, hw, hI⟩ => ?_
  refine ⟨_, _, he, ⟨rfl, rfl⟩, ?_⟩
  have hsz := hI.size
  have harr : Sort.putCells (fun (b : UInt8) => Value.int .u8 (b.toNat : Int)) 0 dk cs.toArray = (bys (dec n) ++ cs.drop (Lib.nDigits n)).toArray := by
    have hdl : (bys (dec n)).length = Lib.nDigits n := by rw [bys, List.length_map, hlen]
    have hcl : cs.length = 24 := by rw [hc, List.length_replicate]
    apply Array.ext
    · simp only [Sort.putCells, Array.size_mapIdx, List.size_toArray, List.length_append, List.length_drop, hdl]
      omega
    · intro i h1 h2
      have hi : i < 24 := by
        rw [Sort.putCells, Array.size_mapIdx, List.size_toArray, hcl] at h1
        exact h1
      simp only [Sort.putCells, Array.getElem_mapIdx, List.getElem_toArray]
      by_cases hk : i < Lib.nDigits n
      · rw [if_pos ⟨Nat.zero_le _, by rw [hsz]; omega⟩, List.getElem_append_left (by rw [hdl]; exact hk)]
        have := Lib.row_is_numeral hI i (by rw [Lib.decDigits_length]; exact hk)
        simp only [bys, List.getElem_map, dec]
        rw [this, Nat.sub_zero]
      · rw [if_neg (by rw [hsz]; omega), List.getElem_append_right (by rw [hdl]; omega), List.getElem_drop]
        congr 1
        rw [hdl]
        omega
  subst hw
  refine Sat.turn (cs := cs) s _ rfl rfl rfl ?_ ?_ ?_
  · show (W.heap.modify b _).size = _
    rw [Array.size_modify]
  · show (W.heap.modify b _)[b]? = _
    rw [Array.getElem?_modify, if_pos rfl, hb]
    simp only [Option.map_some, Sort.onCells]
    rw [harr]
  · intro k hk
    show (W.heap.modify b _)[k]? = _
    rw [Array.getElem?_modify, if_neg (fun e => hk e.symm)]
theorem libFmt (l : LibOk w) (hL : Ent L [Old w]) (n : Nat) (hn : n < 18446744073709551616) : Fx Tryd.prog 41 [.int .u64 n, .int .i64 10] L (fun v L' => v = str (dec n) ∧ L = L') := by
  refine Fx.mk Tryd.func41 k41 (Nat.le_of_ble_eq_true rfl) ?_; dsimp only [c41, envOf, Nat.reduceAdd]
  refine go ?_
  by_cases h1 : n < 100
  · refine Cx.cyes rfl (by simp only [decide_eq_true_eq]; omega) ?_
    refine go ?_
    rw [w64 (by omega) (by omega)]
    refine Sx.ca rfl (libSmall n h1) ?_
    rintro v L' ⟨rfl, rfl⟩
    refine go ?_
    exact Kr.one (.inr rfl) rfl (Ent.refl _) ⟨rfl, rfl⟩
  · refine Cx.cno rfl (by simp only [decide_eq_false_iff_not]; omega) ?_
    have hd20 := Lib.nDigits_le20 n hn
    have hlen : (dec n).length = Lib.nDigits n := Lib.decDigits_length n
    refine go ?_
    refine Sx.al fun g => ?_
    refine go ?_
    refine Sx.ca rfl (libDigits (w := w) l (Ent.trans Ent.drop hL) n (by omega) hn) ?_
    rintro v L' ⟨rfl, rfl⟩
    refine go ?_
    refine Sx.pv rfl (by omega) ?_
    refine go ?_
    refine Sx.ca rfl (libFormat10 n hn rfl) ?_
    rintro v L' ⟨rfl, rfl⟩
    refine go ?_
    refine Sx.pv rfl (by omega) ?_
    refine go ?_
    refine Sx.cs (xs := dec n) rfl ?_ hlen ?_
    · refine Has.eqv (Has.blk (n := Lib.nDigits n)) ?_
      rw [List.drop_zero, List.take_left' (by rw [bys, List.length_map, hlen])]
    refine go ?_
    exact Kr.one (.inr rfl) rfl Ent.drop ⟨rfl, rfl⟩
theorem libFormat (l : LibOk w) (hL : Ent L [Old w]) (n : Nat) (hn : n < 18446744073709551616) : Fx Tryd.prog 28 [.int .u64 n, .int .i64 10] L (fun v L' => v = str (dec n) ∧ L = L') := by
  refine Fx.mk Tryd.func28 k28 (Nat.le_of_ble_eq_true rfl) ?_; dsimp only [c28, envOf, Nat.reduceAdd]
  refine go ?_
  refine Sx.ca rfl (libFmt l hL n hn) ?_
  rintro v L' ⟨rfl, rfl⟩
  refine go ?_
  exact Kr.one (.inr rfl) rfl (Ent.refl _) ⟨rfl, rfl⟩
theorem libJoin {ra : Option Addr} {n cap : Nat} {xs : List (List UInt8)} [t : Take L ra (Row 9 1 n cap (xs.map str)) F] (h1 : 1 ≤ n) (h2 : n ≤ 1000) (hn : xs.length = n) (hlen : (Lib.join xs [32]).length ≤ 140737488355328) :
    Fx Tryd.prog 29 [.slice ra n cap, str [32]] L (fun v L' => v = str (Lib.join xs [32]) ∧ L = L') :=
  Fx.lib fun w0 W s => by
    rcases (s.rd (t := t)).2 with h0 | ⟨b, hb⟩
    · omega
    · subst hb
      obtain ⟨cur, hc, _, hcap, hmx, hsz, htk⟩ := s.row (t := t)
      have e1 : (xs.map fun l => (⟨l.toArray⟩ : ByteArray)).map (·.data.toList) = xs := by
        rw [List.map_map]
        conv => rhs; rw [← List.map_id xs]
        exact List.map_congr_left fun _ _ => rfl
      have h := Tryd.strings_Join b 0 cap (xs.map fun l => (⟨l.toArray⟩ : ByteArray)) ⟨[32].toArray⟩ W (fun j x hj => ?_) ?_ ?_ ?_ ?_
      · rw [e1, List.length_map, hn] at h
        exact h
      · rw [List.getElem?_map] at hj
        cases hx : xs[j]? with
        | none => rw [hx] at hj; cases hj
        | some y =>
          rw [hx] at hj; cases hj
          have := Has.row (b := b) (E := 9) (sz := 1) (n := n) (cap := cap) (xs := xs.map str) (off := 0) (m := n) (t := t) w0 W s j (str y) (by
            have hjn := (List.getElem?_eq_some_iff.1 hx).1
            rw [List.drop_zero, List.getElem?_take, if_pos (by omega), List.getElem?_map, hx]; rfl)
          exact this
      · exact (Array.getElem?_eq_some_iff.1 hc).1
      · rw [List.length_map]; omega
      · rw [List.length_map, hn]; exact hcap
      · rw [e1]; exact hlen
end
end Go.Proofs.YtlpikhdiiehcaaaDoor

/-
  From what a row's cell 'laid' gives, and the world's shape, to what the library's contracts ask.
-/
set_option linter.unusedVariables false
set_option linter.unusedSimpArgs false
namespace Go.Proofs.YtlpikhdiiehcaaaDoor
open Go Go.RowKit Go.ChangeShapes Go.WideShapes Go.ChangeAt
theorem own : ownKnob Tryd.prog.godebug = none := by kernel_rfl
/-- What the rows list. -/
def laid7 : List (String × DataW Unit) := [("math/bits.deBruijn32tab", Rows.laid_math_bits_deBruijn32tab), ("math/bits.deBruijn64tab", Rows.laid_math_bits_deBruijn64tab), ("internal/strconv.uint64pow10", Rows.laid_internal_strconv_uint64pow10), ("unicode/utf8.acceptRanges", Rows.laid_unicode_utf8_acceptRanges), ("strconv.ErrRange", Rows.laid_strconv_ErrRange), ("strconv.ErrSyntax", Rows.laid_strconv_ErrSyntax), ("unicode/utf8.first", Rows.laid_unicode_utf8_first)]
theorem star : "*" ++ "errors.errorString" = "*errors.errorString" := by decide
theorem rowErr (u : TypeId) (h : Tryd.prog.typeName? 3 u = some "*errors.errorString") : u = 115 :=
  typeName_ptr_named (nm := "errors.errorString") (by rw [star]; kernel_rfl) (by kernel_rfl) (by decide) u (by rw [star]; exact h)
theorem libOk_of {W : World} (hL : laidMetH Tryd.prog laid7 W) (hs : W.ShapedOpen Tryd.prog) : LibOk W := by
  rw [MakeChecks.laidMetH_plain _ _ _ (by kernel_rfl)] at hL
  have gS : Tryd.prog.globalNamed "strconv.ErrSyntax" = some 2 := by kernel_rfl
  have gR : Tryd.prog.globalNamed "strconv.ErrRange" = some 3 := by kernel_rfl
  have tS : (Tryd.prog.globals[2]?).map (·.type) = some 59 := by kernel_rfl
  have tR : (Tryd.prog.globals[3]?).map (·.type) = some 59 := by kernel_rfl
  have c1 : Tryd.prog.cellsOf 117 = 1 := by kernel_rfl
  have c2 : Tryd.prog.cellsOf 9 = 1 := by kernel_rfl
  obtain ⟨a0, s0, hv0, -, -, -⟩ := laid_sentinel hL.tail.tail.tail.tail gR tR Tryd.underlying59 rowErr Tryd.underlying115 Tryd.underlying117 rfl rfl Tryd.underlying9 c1 c2
  obtain ⟨a1, s1, hv1, -, -, -⟩ := laid_sentinel hL.tail.tail.tail.tail.tail gS tS Tryd.underlying59 rowErr Tryd.underlying115 Tryd.underlying117 rfl rfl Tryd.underlying9 c1 c2
  refine ⟨?_, ⟨_, by have h0 := World.var?_cell gS hv1 0; simpa using h0, .inr ⟨_, _, rfl⟩⟩, ⟨_, by have h0 := World.var?_cell gR hv0 0; simpa using h0, .inr ⟨_, _, rfl⟩⟩, ?_⟩
  · exact Lib.tabIs_of_head (g := 0) (t := 97) (e := 22) (n := 20) (by kernel_rfl) (by kernel_rfl) Tryd.underlying97 Tryd.underlying22 (by kernel_rfl) (by kernel_rfl) hL.tail.tail
  · exact cell_of_shapedOpen_int (P := Tryd.prog) (g := 1) (t := 3) (zero := #[.int .i64 0]) hs (of_decide_eq_true (by kernel_rfl)) (by kernel_rfl) rfl (by kernel_rfl) (by kernel_rfl) Tryd.underlying3
/-- A start for the witness: the heap in which the listed variables read so. -/
noncomputable def start (os : Os) : World := World.laidAll Tryd.prog os laid7
theorem start_met (os : Os) (args : Array Value) : laidMetH Tryd.prog laid7 ((start os).forCall (fun _ _ => 0) ⟨#[], args, []⟩).memory := by
  rw [MakeChecks.laidMetH_plain _ _ _ (by kernel_rfl)]
  exact laidMet_laidAll _ (by kernel_rfl) (by kernel_rfl)
theorem start_shaped (os : Os) (args : Array Value) : ((start os).forCall (fun _ _ => 0) ⟨#[], args, []⟩).Shaped Tryd.prog := World.shaped_of_ZipB (by kernel_rfl) (by kernel_rfl)
section
variable {H : Type} {enc : TypeId × Value → H}
/-- A row that lists variables, the world's shape kept. -/
theorem returns_both {a : Assume} {C : Checked} {os : Os} {f : FuncId} {fn : Func} {s : ChangeSpec} {conds : List PathCond} {apart fresh handsOn again : Bool} {l : List (String × DataW Unit)}
    (own : ownKnob C.prog.godebug = none) (started : os.Started) (noInit : C.prog.inits.idxOf? f = none) (hfn : C.prog.funcs[f]? = some fn)
    (witness : ∃ (w : World) (tape : Tape) (i : Input), w.os = os ∧ (w.forCall tape i).Shaped C.prog ∧ i.vars = [] ∧ Input.okWide C.prog (w.forCall tape i) .any w.heap.size f i ∧
      ((s.pre enc C.prog fn conds apart (w.forCall tape i).memory i.args ∧ laidMetH C.prog l (w.forCall tape i).memory) ∧ sizedMet enc C.prog fn (OpenSpec.ofChange s) apart (w.forCall tape i).memory i.args) ∧ a.holds C.prog (lone (Frame.enter C.prog f i.args .normal) [] (w.forCall tape i)))
    (contract : ∀ (W : World) (base : Nat) (args : Array Value) (ds gs : List (DataW H)) (before : List MemPlace),
      (∀ (j : Nat) t v, fn.params[j]? = some t → args[j]? = some v → Value.okWide C.prog W .any base t v) →
      DataW.Whole enc C.prog fn.params.toList s.vars apart W args.toList ds gs before →
      laidMetH C.prog l W → W.ShapedOpen C.prog →
      Calls C.prog f args W fun e W' => ∃ v, e = .returned v ∧ s.post enc C.prog fn apart fresh handsOn again W args v W') :
    ReturnsInHanded a C os f .any (fun w args => (s.pre enc C.prog fn conds apart w args ∧ laidMetH C.prog l w) ∧ sizedMet enc C.prog fn (OpenSpec.ofChange s) apart w args) (s.post enc C.prog fn apart fresh handsOn again) := by
  refine returnsInHanded_of_calls own started noInit witness ?_
  intro w tape i _ hsh _ hok hpre hholds
  obtain ⟨_, _, _, fn', hfn', _, _, _, _, hval⟩ := hok
  obtain rfl : fn' = fn := Option.some.inj (hfn'.symm.trans hfn)
  obtain ⟨⟨⟨ds, gs, before, hw, hc⟩, hx⟩, hz⟩ := hpre
  refine (contract (w.forCall tape i) w.heap.size i.args ds gs before hval (DataW.Whole.of_heap (w' := w.forCall tape i) (by rfl) hw) (hx.of_heap (by rfl)) hsh).mono fun e W' ⟨v, he, hp⟩ => ?_
  subst he
  exact ChangeSpec.post_blind hp
end
end Go.Proofs.YtlpikhdiiehcaaaDoor

/-
  What comes in: a slice of an argument, as it stands in the world there was, read out of the statement's own reading.
-/
set_option linter.unusedVariables false
set_option linter.unusedSimpArgs false
namespace Go.Proofs.YtlpikhdiiehcaaaDoor
open Go Go.RowKit Go.ChangeShapes Go.WideShapes
/-- A slice that came in: n elements of sz cells each. -/
def In (w : World) (sz : Nat) (v : Value) (n : Nat) (vs : List Value) : Prop :=
  vs.length = n * sz ∧ n ≤ maxLen ∧ ∃ a c, v = .slice a n c ∧ (n = 0 ∨ ∃ b o, a = some ⟨b, o, none⟩ ∧ ∀ j u, vs[j]? = some u → w.cell? ⟨b, o + j, none⟩ = some u)
theorem In.rd {w : World} {sz n : Nat} {v : Value} {vs : List Value} (h : In w sz v n vs) : n ≤ maxLen ∧ ∃ a c, v = .slice a n c ∧ ∀ L : St, Ent L [Old w] → Rd L sz a n vs := by
  obtain ⟨h1, h2, a, c, rfl, h3⟩ := h
  refine ⟨h2, a, c, rfl, fun L hL => ⟨h1, h3.imp id ?_⟩⟩
  rintro ⟨b, o, rfl, hc⟩
  exact ⟨b, o, rfl, Has.old hL hc⟩
section
variable {H : Type} {enc : TypeId × Value → H} {P : Program} {w : World} {base : Nat} {held : Bool}
end
end Go.Proofs.YtlpikhdiiehcaaaDoor

/-
  What comes in as a struct of whole numbers.
-/
set_option linter.unusedVariables false
set_option linter.unusedSimpArgs false
namespace Go.Proofs.YtlpikhdiiehcaaaDoor
open Go Go.RowKit Go.ChangeShapes Go.WideShapes
section
variable {H : Type} {enc : TypeId × Value → H} {P : Program} {w : World} {base : Nat} {spare : Nat → Bool} {held : Bool}
end
end Go.Proofs.YtlpikhdiiehcaaaDoor

/-
  What comes in as a struct of whole numbers of several kinds.
-/
set_option linter.unusedVariables false
set_option linter.unusedSimpArgs false
namespace Go.Proofs.YtlpikhdiiehcaaaDoor
open Go Go.RowKit Go.ChangeShapes Go.WideShapes
section
variable {H : Type} {enc : TypeId × Value → H} {P : Program} {w : World} {base : Nat} {spare : Nat → Bool} {held : Bool}
def isK (P : Program) (k : IntKind) (t : TypeId) : Bool := match P.underlying t with | some (.int k') => decide (k = k') | _ => false
theorem isK_iff {k : IntKind} {t : TypeId} (h : isK P k t = true) : P.underlying t = some (.int k) := by
  unfold isK at h
  split at h
  · rename_i k' hk; rw [of_decide_eq_true h]; exact hk
  · cases h
def kindsB (P : Program) (fs : Array Field) (ks : List IntKind) : Bool := Nat.beq fs.size ks.length && fs.toList.zipIdx.all fun p => Nat.beq p.1.offset p.2 && (Nat.beq (P.cellsOf p.1.type) 1 && isK P (ks.getD p.2 .i64) p.1.type)
theorem In.struct_kinds {t : TypeId} {fs : Array Field} {ks : List IntKind} {fuel : Nat} {cs : List Value} {x : DataW H × List MemPlace} (ht : P.underlying t = some (.struct fs)) (hf : kindsB P fs ks = true) (hc : P.cellsOf t = fs.size)
    (h : DataW.trod enc P w base spare held fuel t cs = some x) : cs.length = ks.length ∧ ∀ i : Nat, i < ks.length → ∃ z : Int, cs[i]? = some (.int (ks.getD i .i64) z) ∧ (Lit.int (ks.getD i .i64) z).wf = true := by
  obtain ⟨xs, n, _, _, hl, hxl, hx⟩ := DataW.trod_struct ht h
  unfold kindsB at hf
  rw [Bool.and_eq_true] at hf
  have hsz := Nat.eq_of_beq_eq_true hf.1
  refine ⟨by rw [← hsz, ← hc]; exact hl, fun i hi => ?_⟩
  rw [← hsz] at hi
  have hfi : fs[i]? = some fs[i] := Array.getElem?_eq_getElem hi
  have hmem : (fs[i], i) ∈ fs.toList.zipIdx := by
    rw [List.mem_iff_getElem?]
    exact ⟨i, by simp [hi]⟩
  have h1 := List.all_eq_true.1 hf.2 _ hmem
  simp only [Bool.and_eq_true] at h1
  have ho := Nat.eq_of_beq_eq_true h1.1
  have h1c := Nat.eq_of_beq_eq_true h1.2.1
  have hu := isK_iff h1.2.2
  have h2 := hx i fs[i] hfi
  rw [ho, h1c, List.getElem?_eq_getElem (by omega)] at h2
  obtain ⟨z, h3, _, h5⟩ := DataW.trod_int hu h2
  refine ⟨z, ?_, h5⟩
  have h4 : ((cs.drop i).take 1)[0]? = some (.int (ks.getD i .i64) z) := by rw [h3]; rfl
  rw [List.getElem?_take_of_lt (by omega), List.getElem?_drop] at h4
  simpa using h4
theorem In.op {fuel : Nat} {cs : List Value} {x : DataW H × List MemPlace} (h : DataW.trod enc Tryd.prog w base spare held fuel 24 cs = some x) :
    ∃ o : Opn, cs = o.l ∧ o.v < 18446744073709551616 ∧ o.w < 18446744073709551616 := by
  obtain ⟨hl, hk⟩ := In.struct_kinds (ks := [.i64, .i64, .i64, .i64, .u64, .u64]) Tryd.underlying24 (by kernel_rfl) (by kernel_rfl) h
  obtain ⟨z0, e0, _⟩ := hk 0 (by decide)
  obtain ⟨z1, e1, _⟩ := hk 1 (by decide)
  obtain ⟨z2, e2, _⟩ := hk 2 (by decide)
  obtain ⟨z3, e3, _⟩ := hk 3 (by decide)
  obtain ⟨z4, e4, f4⟩ := hk 4 (by decide)
  obtain ⟨z5, e5, f5⟩ := hk 5 (by decide)
  have b4 : 0 ≤ z4 ∧ z4 ≤ 18446744073709551615 := by
    have m1 : IntKind.u64.min = 0 := rfl
    have m2 : IntKind.u64.max = 18446744073709551615 := rfl
    simpa [Lit.wf, m1, m2] using f4
  have b5 : 0 ≤ z5 ∧ z5 ≤ 18446744073709551615 := by
    have m1 : IntKind.u64.min = 0 := rfl
    have m2 : IntKind.u64.max = 18446744073709551615 := rfl
    simpa [Lit.wf, m1, m2] using f5
  refine ⟨⟨z0, z1, z2, z3, z4.toNat, z5.toNat⟩, ?_, by show z4.toNat < _; omega, by show z5.toNat < _; omega⟩
  match cs, hl, e0, e1, e2, e3, e4, e5 with
  | [a, b, c, d, e, f], _, e0, e1, e2, e3, e4, e5 =>
    simp only [List.getElem?_cons_zero, List.getElem?_cons_succ, Option.some.injEq] at e0 e1 e2 e3 e4 e5
    subst e0; subst e1; subst e2; subst e3; subst e4; subst e5
    show _ = [Value.int .i64 z0, .int .i64 z1, .int .i64 z2, .int .i64 z3, .int .u64 (z4.toNat : Nat), .int .u64 (z5.toNat : Nat)]
    rw [Int.toNat_of_nonneg b4.1, Int.toNat_of_nonneg b5.1]
    rfl
theorem Fx.same {f : FuncId} {vs : List Value} {L : St} {V : Value} (h : Fx P f vs L (fun v L' => v = V ∧ L = L')) : Fx P f vs L (fun v L' => v = V ∧ Ent L' L) := by
  unfold Fx at h ⊢
  intro w0 w s
  exact (h w0 w s).mono fun e w' ⟨v, L', he, ⟨hv, hl⟩, s'⟩ => ⟨v, L', he, ⟨hv, hl ▸ Ent.refl _⟩, s'⟩
end
end Go.Proofs.YtlpikhdiiehcaaaDoor
