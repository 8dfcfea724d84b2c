/-
  A part of the proof of the claim that this folder bears.
-/
import Derived.Test.YtbmepcipnnlcnaaDoorProg
import Derived.Test.YtbmepcipnnlcnaaDoorKC
import Derived.Lib.Fields
import Derived.Lib.LaidTab
import Derived.Lib.Space
import Derived.Laws.StructEq
import Derived.Laws.Slices
/- The text JFacts. -/
/- Facts on the types and the functions of the program, each by the kernel. -/
namespace Go.Proofs.YtbmepcipnnlcnaaDoor
open Go Go.KK

instance : Scl Tryd.prog 2 := ⟨by kernel_rfl⟩
instance : ZeT Tryd.prog 2 (.int .i64 0) := ⟨by kernel_rfl⟩
instance : One Tryd.prog 2 := ⟨by kernel_rfl⟩
instance : KeyIs Tryd.prog 2 intK := ⟨by kernel_rfl⟩
instance : ZeV Tryd.prog 2 (.int .i64 0) := ⟨by kernel_rfl⟩
instance : Scl Tryd.prog 3 := ⟨by kernel_rfl⟩
instance : ZeT Tryd.prog 3 (.int .i64 0) := ⟨by kernel_rfl⟩
instance : One Tryd.prog 3 := ⟨by kernel_rfl⟩
instance : KeyIs Tryd.prog 3 intK := ⟨by kernel_rfl⟩
instance : ZeV Tryd.prog 3 (.int .i64 0) := ⟨by kernel_rfl⟩
instance : Scl Tryd.prog 4 := ⟨by kernel_rfl⟩
instance : BoT Tryd.prog 4 := ⟨by kernel_rfl⟩
instance : ZeT Tryd.prog 4 (.bool false) := ⟨by kernel_rfl⟩
instance : One Tryd.prog 4 := ⟨by kernel_rfl⟩
instance : ZeV Tryd.prog 4 (.bool false) := ⟨by kernel_rfl⟩
instance : Scl Tryd.prog 5 := ⟨by kernel_rfl⟩
instance : ZeT Tryd.prog 5 (.int .u8 0) := ⟨by kernel_rfl⟩
instance : One Tryd.prog 5 := ⟨by kernel_rfl⟩
instance : ZeV Tryd.prog 5 (.int .u8 0) := ⟨by kernel_rfl⟩
instance : Scl Tryd.prog 6 := ⟨by kernel_rfl⟩
instance : ZeT Tryd.prog 6 (.int .u8 0) := ⟨by kernel_rfl⟩
instance : One Tryd.prog 6 := ⟨by kernel_rfl⟩
instance : ZeV Tryd.prog 6 (.int .u8 0) := ⟨by kernel_rfl⟩
instance : Agg Tryd.prog 7 4 := ⟨by kernel_rfl, by kernel_rfl⟩
instance : ZeT Tryd.prog 7 (.agg #[(.int .i64 0), (.int .i64 0), (.bool false), (.int .u8 0)]) := ⟨by kernel_rfl⟩
instance : StT Tryd.prog 7 [(.int .i64 0), (.int .i64 0), (.bool false), (.int .u8 0)] [(0, 1), (1, 1), (2, 1), (3, 1)] := ⟨by kernel_rfl⟩
instance : Fld Tryd.prog 7 0 0 2 := ⟨by kernel_rfl⟩
instance : Fld Tryd.prog 7 1 1 3 := ⟨by kernel_rfl⟩
instance : Fld Tryd.prog 7 2 2 4 := ⟨by kernel_rfl⟩
instance : Fld Tryd.prog 7 3 3 6 := ⟨by kernel_rfl⟩
instance : ZeV Tryd.prog 7 (.agg #[(.int .i64 0), (.int .i64 0), (.bool false), (.int .u8 0)]) := ⟨by kernel_rfl⟩
instance : Agg Tryd.prog 8 4 := ⟨by kernel_rfl, by kernel_rfl⟩
instance : ZeT Tryd.prog 8 (.agg #[(.int .i64 0), (.int .i64 0), (.bool false), (.int .u8 0)]) := ⟨by kernel_rfl⟩
instance : StT Tryd.prog 8 [(.int .i64 0), (.int .i64 0), (.bool false), (.int .u8 0)] [(0, 1), (1, 1), (2, 1), (3, 1)] := ⟨by kernel_rfl⟩
instance : Fld Tryd.prog 8 0 0 2 := ⟨by kernel_rfl⟩
instance : Fld Tryd.prog 8 1 1 3 := ⟨by kernel_rfl⟩
instance : Fld Tryd.prog 8 2 2 4 := ⟨by kernel_rfl⟩
instance : Fld Tryd.prog 8 3 3 6 := ⟨by kernel_rfl⟩
instance : ZeV Tryd.prog 8 (.agg #[(.int .i64 0), (.int .i64 0), (.bool false), (.int .u8 0)]) := ⟨by kernel_rfl⟩
instance : Scl Tryd.prog 9 := ⟨by kernel_rfl⟩
instance : ZeT Tryd.prog 9 (.string ByteArray.empty) := ⟨by kernel_rfl⟩
instance : One Tryd.prog 9 := ⟨by kernel_rfl⟩
instance : StT' Tryd.prog 9 := ⟨by kernel_rfl⟩
instance : KeyIs Tryd.prog 9 strK := ⟨by kernel_rfl⟩
instance : ZeV Tryd.prog 9 (.string ByteArray.empty) := ⟨by kernel_rfl⟩
instance : Scl Tryd.prog 10 := ⟨by kernel_rfl⟩
instance : ZeT Tryd.prog 10 (.string ByteArray.empty) := ⟨by kernel_rfl⟩
instance : One Tryd.prog 10 := ⟨by kernel_rfl⟩
instance : StT' Tryd.prog 10 := ⟨by kernel_rfl⟩
instance : KeyIs Tryd.prog 10 strK := ⟨by kernel_rfl⟩
instance : ZeV Tryd.prog 10 (.string ByteArray.empty) := ⟨by kernel_rfl⟩
instance : Scl Tryd.prog 11 := ⟨by kernel_rfl⟩
instance : ZeT Tryd.prog 11 (.string ByteArray.empty) := ⟨by kernel_rfl⟩
instance : One Tryd.prog 11 := ⟨by kernel_rfl⟩
instance : StT' Tryd.prog 11 := ⟨by kernel_rfl⟩
instance : KeyIs Tryd.prog 11 strK := ⟨by kernel_rfl⟩
instance : ZeV Tryd.prog 11 (.string ByteArray.empty) := ⟨by kernel_rfl⟩
instance : Scl Tryd.prog 12 := ⟨by kernel_rfl⟩
instance : ZeT Tryd.prog 12 (.int .u64 0) := ⟨by kernel_rfl⟩
instance : One Tryd.prog 12 := ⟨by kernel_rfl⟩
instance : ZeV Tryd.prog 12 (.int .u64 0) := ⟨by kernel_rfl⟩
instance : Agg Tryd.prog 13 2 := ⟨by kernel_rfl, by kernel_rfl⟩
instance : ZeT Tryd.prog 13 (.agg #[(.string ByteArray.empty), (.int .u64 0)]) := ⟨by kernel_rfl⟩
instance : StT Tryd.prog 13 [(.string ByteArray.empty), (.int .u64 0)] [(0, 1), (1, 1)] := ⟨by kernel_rfl⟩
instance : Fld Tryd.prog 13 0 0 9 := ⟨by kernel_rfl⟩
instance : Fld Tryd.prog 13 1 1 12 := ⟨by kernel_rfl⟩
instance : ZeV Tryd.prog 13 (.agg #[(.string ByteArray.empty), (.int .u64 0)]) := ⟨by kernel_rfl⟩
instance : Agg Tryd.prog 14 2 := ⟨by kernel_rfl, by kernel_rfl⟩
instance : ZeT Tryd.prog 14 (.agg #[(.string ByteArray.empty), (.int .u64 0)]) := ⟨by kernel_rfl⟩
instance : StT Tryd.prog 14 [(.string ByteArray.empty), (.int .u64 0)] [(0, 1), (1, 1)] := ⟨by kernel_rfl⟩
instance : Fld Tryd.prog 14 0 0 9 := ⟨by kernel_rfl⟩
instance : Fld Tryd.prog 14 1 1 12 := ⟨by kernel_rfl⟩
instance : ZeV Tryd.prog 14 (.agg #[(.string ByteArray.empty), (.int .u64 0)]) := ⟨by kernel_rfl⟩
instance : Scl Tryd.prog 15 := ⟨by kernel_rfl⟩
instance : PtT Tryd.prog 15 := ⟨by kernel_rfl⟩
instance : ZeT Tryd.prog 15 (.pointer none) := ⟨by kernel_rfl⟩
instance : One Tryd.prog 15 := ⟨by kernel_rfl⟩
instance : ZeV Tryd.prog 15 (.pointer none) := ⟨by kernel_rfl⟩
instance : Scl Tryd.prog 16 := ⟨by kernel_rfl⟩
instance : PtT Tryd.prog 16 := ⟨by kernel_rfl⟩
instance : ZeT Tryd.prog 16 (.pointer none) := ⟨by kernel_rfl⟩
instance : One Tryd.prog 16 := ⟨by kernel_rfl⟩
instance : ZeV Tryd.prog 16 (.pointer none) := ⟨by kernel_rfl⟩
instance : Scl Tryd.prog 17 := ⟨by kernel_rfl⟩
instance : PtT Tryd.prog 17 := ⟨by kernel_rfl⟩
instance : ZeT Tryd.prog 17 (.pointer none) := ⟨by kernel_rfl⟩
instance : One Tryd.prog 17 := ⟨by kernel_rfl⟩
instance : ZeV Tryd.prog 17 (.pointer none) := ⟨by kernel_rfl⟩
instance : Agg Tryd.prog 18 1 := ⟨by kernel_rfl, by kernel_rfl⟩
instance : ZeT Tryd.prog 18 (.agg #[(.pointer none)]) := ⟨by kernel_rfl⟩
instance : StT Tryd.prog 18 [(.pointer none)] [(0, 1)] := ⟨by kernel_rfl⟩
instance : One Tryd.prog 18 := ⟨by kernel_rfl⟩
instance : Fld Tryd.prog 18 0 0 17 := ⟨by kernel_rfl⟩
instance : ZeV Tryd.prog 18 (.agg #[(.pointer none)]) := ⟨by kernel_rfl⟩
instance : Agg Tryd.prog 19 1 := ⟨by kernel_rfl, by kernel_rfl⟩
instance : ZeT Tryd.prog 19 (.agg #[(.pointer none)]) := ⟨by kernel_rfl⟩
instance : StT Tryd.prog 19 [(.pointer none)] [(0, 1)] := ⟨by kernel_rfl⟩
instance : One Tryd.prog 19 := ⟨by kernel_rfl⟩
instance : Fld Tryd.prog 19 0 0 17 := ⟨by kernel_rfl⟩
instance : ZeV Tryd.prog 19 (.agg #[(.pointer none)]) := ⟨by kernel_rfl⟩
instance : Scl Tryd.prog 20 := ⟨by kernel_rfl⟩
instance : ZeT Tryd.prog 20 .nilIface := ⟨by kernel_rfl⟩
instance : One Tryd.prog 20 := ⟨by kernel_rfl⟩
instance : ZeV Tryd.prog 20 .nilIface := ⟨by kernel_rfl⟩
instance : Scl Tryd.prog 21 := ⟨by kernel_rfl⟩
instance : ZeT Tryd.prog 21 (.int .i32 0) := ⟨by kernel_rfl⟩
instance : One Tryd.prog 21 := ⟨by kernel_rfl⟩
instance : ZeV Tryd.prog 21 (.int .i32 0) := ⟨by kernel_rfl⟩
instance : Scl Tryd.prog 22 := ⟨by kernel_rfl⟩
instance : ZeT Tryd.prog 22 (.slice none 0 0) := ⟨by kernel_rfl⟩
instance : One Tryd.prog 22 := ⟨by kernel_rfl⟩
instance : SlT Tryd.prog 22 25 3 56 (.agg #[(.string ByteArray.empty), (.slice none 0 0), (.string ByteArray.empty)]) := ⟨by kernel_rfl⟩
instance : ZeV Tryd.prog 22 (.slice none 0 0) := ⟨by kernel_rfl⟩
instance : Scl Tryd.prog 23 := ⟨by kernel_rfl⟩
instance : ZeT Tryd.prog 23 (.slice none 0 0) := ⟨by kernel_rfl⟩
instance : One Tryd.prog 23 := ⟨by kernel_rfl⟩
instance : SlT Tryd.prog 23 38 2 24 (.agg #[(.string ByteArray.empty), (.int .i64 0)]) := ⟨by kernel_rfl⟩
instance : ZeV Tryd.prog 23 (.slice none 0 0) := ⟨by kernel_rfl⟩
instance : Agg Tryd.prog 24 3 := ⟨by kernel_rfl, by kernel_rfl⟩
instance : ZeT Tryd.prog 24 (.agg #[(.string ByteArray.empty), (.slice none 0 0), (.string ByteArray.empty)]) := ⟨by kernel_rfl⟩
instance : StT Tryd.prog 24 [(.string ByteArray.empty), (.slice none 0 0), (.string ByteArray.empty)] [(0, 1), (1, 1), (2, 1)] := ⟨by kernel_rfl⟩
instance : Fld Tryd.prog 24 0 0 9 := ⟨by kernel_rfl⟩
instance : Fld Tryd.prog 24 1 1 23 := ⟨by kernel_rfl⟩
instance : Fld Tryd.prog 24 2 2 9 := ⟨by kernel_rfl⟩
instance : ZeV Tryd.prog 24 (.agg #[(.string ByteArray.empty), (.slice none 0 0), (.string ByteArray.empty)]) := ⟨by kernel_rfl⟩
instance : Agg Tryd.prog 25 3 := ⟨by kernel_rfl, by kernel_rfl⟩
instance : ZeT Tryd.prog 25 (.agg #[(.string ByteArray.empty), (.slice none 0 0), (.string ByteArray.empty)]) := ⟨by kernel_rfl⟩
instance : StT Tryd.prog 25 [(.string ByteArray.empty), (.slice none 0 0), (.string ByteArray.empty)] [(0, 1), (1, 1), (2, 1)] := ⟨by kernel_rfl⟩
instance : Fld Tryd.prog 25 0 0 9 := ⟨by kernel_rfl⟩
instance : Fld Tryd.prog 25 1 1 23 := ⟨by kernel_rfl⟩
instance : Fld Tryd.prog 25 2 2 9 := ⟨by kernel_rfl⟩
instance : ZeV Tryd.prog 25 (.agg #[(.string ByteArray.empty), (.slice none 0 0), (.string ByteArray.empty)]) := ⟨by kernel_rfl⟩
instance : Scl Tryd.prog 27 := ⟨by kernel_rfl⟩
instance : ZeT Tryd.prog 27 (.slice none 0 0) := ⟨by kernel_rfl⟩
instance : One Tryd.prog 27 := ⟨by kernel_rfl⟩
instance : SlT Tryd.prog 27 4 1 1 (.bool false) := ⟨by kernel_rfl⟩
instance : ZeV Tryd.prog 27 (.slice none 0 0) := ⟨by kernel_rfl⟩
instance : Scl Tryd.prog 28 := ⟨by kernel_rfl⟩
instance : ZeT Tryd.prog 28 (.int .i64 0) := ⟨by kernel_rfl⟩
instance : One Tryd.prog 28 := ⟨by kernel_rfl⟩
instance : KeyIs Tryd.prog 28 intK := ⟨by kernel_rfl⟩
instance : ZeV Tryd.prog 28 (.int .i64 0) := ⟨by kernel_rfl⟩
instance : Scl Tryd.prog 31 := ⟨by kernel_rfl⟩
instance : ZeT Tryd.prog 31 (.slice none 0 0) := ⟨by kernel_rfl⟩
instance : One Tryd.prog 31 := ⟨by kernel_rfl⟩
instance : SlT Tryd.prog 31 3 1 8 (.int .i64 0) := ⟨by kernel_rfl⟩
instance : ZeV Tryd.prog 31 (.slice none 0 0) := ⟨by kernel_rfl⟩
instance : Agg Tryd.prog 37 2 := ⟨by kernel_rfl, by kernel_rfl⟩
instance : ZeT Tryd.prog 37 (.agg #[(.string ByteArray.empty), (.int .i64 0)]) := ⟨by kernel_rfl⟩
instance : StT Tryd.prog 37 [(.string ByteArray.empty), (.int .i64 0)] [(0, 1), (1, 1)] := ⟨by kernel_rfl⟩
instance : Fld Tryd.prog 37 0 0 9 := ⟨by kernel_rfl⟩
instance : Fld Tryd.prog 37 1 1 3 := ⟨by kernel_rfl⟩
instance : ZeV Tryd.prog 37 (.agg #[(.string ByteArray.empty), (.int .i64 0)]) := ⟨by kernel_rfl⟩
instance : Agg Tryd.prog 38 2 := ⟨by kernel_rfl, by kernel_rfl⟩
instance : ZeT Tryd.prog 38 (.agg #[(.string ByteArray.empty), (.int .i64 0)]) := ⟨by kernel_rfl⟩
instance : StT Tryd.prog 38 [(.string ByteArray.empty), (.int .i64 0)] [(0, 1), (1, 1)] := ⟨by kernel_rfl⟩
instance : Fld Tryd.prog 38 0 0 9 := ⟨by kernel_rfl⟩
instance : Fld Tryd.prog 38 1 1 3 := ⟨by kernel_rfl⟩
instance : ZeV Tryd.prog 38 (.agg #[(.string ByteArray.empty), (.int .i64 0)]) := ⟨by kernel_rfl⟩
instance : Agg Tryd.prog 57 3 := ⟨by kernel_rfl, by kernel_rfl⟩
instance : ZeT Tryd.prog 57 (.agg #[(.string ByteArray.empty), (.string ByteArray.empty), (.int .i64 0)]) := ⟨by kernel_rfl⟩
instance : StT Tryd.prog 57 [(.string ByteArray.empty), (.string ByteArray.empty), (.int .i64 0)] [(0, 1), (1, 1), (2, 1)] := ⟨by kernel_rfl⟩
instance : Fld Tryd.prog 57 0 0 9 := ⟨by kernel_rfl⟩
instance : Fld Tryd.prog 57 1 1 9 := ⟨by kernel_rfl⟩
instance : Fld Tryd.prog 57 2 2 3 := ⟨by kernel_rfl⟩
instance : ZeV Tryd.prog 57 (.agg #[(.string ByteArray.empty), (.string ByteArray.empty), (.int .i64 0)]) := ⟨by kernel_rfl⟩
instance : Agg Tryd.prog 58 3 := ⟨by kernel_rfl, by kernel_rfl⟩
instance : ZeT Tryd.prog 58 (.agg #[(.string ByteArray.empty), (.string ByteArray.empty), (.int .i64 0)]) := ⟨by kernel_rfl⟩
instance : StT Tryd.prog 58 [(.string ByteArray.empty), (.string ByteArray.empty), (.int .i64 0)] [(0, 1), (1, 1), (2, 1)] := ⟨by kernel_rfl⟩
instance : Fld Tryd.prog 58 0 0 9 := ⟨by kernel_rfl⟩
instance : Fld Tryd.prog 58 1 1 9 := ⟨by kernel_rfl⟩
instance : Fld Tryd.prog 58 2 2 3 := ⟨by kernel_rfl⟩
instance : ZeV Tryd.prog 58 (.agg #[(.string ByteArray.empty), (.string ByteArray.empty), (.int .i64 0)]) := ⟨by kernel_rfl⟩
instance : Scl Tryd.prog 65 := ⟨by kernel_rfl⟩
instance : ZeT Tryd.prog 65 (.slice none 0 0) := ⟨by kernel_rfl⟩
instance : One Tryd.prog 65 := ⟨by kernel_rfl⟩
instance : SlT Tryd.prog 65 9 1 16 (.string ByteArray.empty) := ⟨by kernel_rfl⟩
instance : ZeV Tryd.prog 65 (.slice none 0 0) := ⟨by kernel_rfl⟩
instance : Agg Tryd.prog 72 256 := ⟨by kernel_rfl, by kernel_rfl⟩
instance : ArT Tryd.prog 72 256 5 1 := ⟨by kernel_rfl⟩
instance : Scl Tryd.prog 75 := ⟨by kernel_rfl⟩
instance : ZeT Tryd.prog 75 (.slice none 0 0) := ⟨by kernel_rfl⟩
instance : One Tryd.prog 75 := ⟨by kernel_rfl⟩
instance : SlT Tryd.prog 75 77 2 16 (.agg #[(.int .i64 0), (.int .i64 0)]) := ⟨by kernel_rfl⟩
instance : ZeV Tryd.prog 75 (.slice none 0 0) := ⟨by kernel_rfl⟩
instance : Agg Tryd.prog 76 2 := ⟨by kernel_rfl, by kernel_rfl⟩
instance : ZeT Tryd.prog 76 (.agg #[(.int .i64 0), (.int .i64 0)]) := ⟨by kernel_rfl⟩
instance : StT Tryd.prog 76 [(.int .i64 0), (.int .i64 0)] [(0, 1), (1, 1)] := ⟨by kernel_rfl⟩
instance : Fld Tryd.prog 76 0 0 3 := ⟨by kernel_rfl⟩
instance : Fld Tryd.prog 76 1 1 3 := ⟨by kernel_rfl⟩
instance : ZeV Tryd.prog 76 (.agg #[(.int .i64 0), (.int .i64 0)]) := ⟨by kernel_rfl⟩
instance : Agg Tryd.prog 77 2 := ⟨by kernel_rfl, by kernel_rfl⟩
instance : ZeT Tryd.prog 77 (.agg #[(.int .i64 0), (.int .i64 0)]) := ⟨by kernel_rfl⟩
instance : StT Tryd.prog 77 [(.int .i64 0), (.int .i64 0)] [(0, 1), (1, 1)] := ⟨by kernel_rfl⟩
instance : Fld Tryd.prog 77 0 0 3 := ⟨by kernel_rfl⟩
instance : Fld Tryd.prog 77 1 1 3 := ⟨by kernel_rfl⟩
instance : ZeV Tryd.prog 77 (.agg #[(.int .i64 0), (.int .i64 0)]) := ⟨by kernel_rfl⟩
instance : Scl Tryd.prog 78 := ⟨by kernel_rfl⟩
instance : ZeT Tryd.prog 78 (.int .u32 0) := ⟨by kernel_rfl⟩
instance : One Tryd.prog 78 := ⟨by kernel_rfl⟩
instance : ZeV Tryd.prog 78 (.int .u32 0) := ⟨by kernel_rfl⟩
instance : Scl Tryd.prog 80 := ⟨by kernel_rfl⟩
instance : PtT Tryd.prog 80 := ⟨by kernel_rfl⟩
instance : ZeT Tryd.prog 80 (.pointer none) := ⟨by kernel_rfl⟩
instance : One Tryd.prog 80 := ⟨by kernel_rfl⟩
instance : ZeV Tryd.prog 80 (.pointer none) := ⟨by kernel_rfl⟩
instance : Scl Tryd.prog 81 := ⟨by kernel_rfl⟩
instance : ZeT Tryd.prog 81 (.slice none 0 0) := ⟨by kernel_rfl⟩
instance : One Tryd.prog 81 := ⟨by kernel_rfl⟩
instance : SlT Tryd.prog 81 87 3 6 (.agg #[(.int .u16 0), (.int .u16 0), (.int .u16 0)]) := ⟨by kernel_rfl⟩
instance : ZeV Tryd.prog 81 (.slice none 0 0) := ⟨by kernel_rfl⟩
instance : Scl Tryd.prog 82 := ⟨by kernel_rfl⟩
instance : ZeT Tryd.prog 82 (.slice none 0 0) := ⟨by kernel_rfl⟩
instance : One Tryd.prog 82 := ⟨by kernel_rfl⟩
instance : SlT Tryd.prog 82 90 3 12 (.agg #[(.int .u32 0), (.int .u32 0), (.int .u32 0)]) := ⟨by kernel_rfl⟩
instance : ZeV Tryd.prog 82 (.slice none 0 0) := ⟨by kernel_rfl⟩
instance : Agg Tryd.prog 83 3 := ⟨by kernel_rfl, by kernel_rfl⟩
instance : ZeT Tryd.prog 83 (.agg #[(.slice none 0 0), (.slice none 0 0), (.int .i64 0)]) := ⟨by kernel_rfl⟩
instance : StT Tryd.prog 83 [(.slice none 0 0), (.slice none 0 0), (.int .i64 0)] [(0, 1), (1, 1), (2, 1)] := ⟨by kernel_rfl⟩
instance : Fld Tryd.prog 83 0 0 81 := ⟨by kernel_rfl⟩
instance : Fld Tryd.prog 83 1 1 82 := ⟨by kernel_rfl⟩
instance : Fld Tryd.prog 83 2 2 3 := ⟨by kernel_rfl⟩
instance : ZeV Tryd.prog 83 (.agg #[(.slice none 0 0), (.slice none 0 0), (.int .i64 0)]) := ⟨by kernel_rfl⟩
instance : Agg Tryd.prog 84 3 := ⟨by kernel_rfl, by kernel_rfl⟩
instance : ZeT Tryd.prog 84 (.agg #[(.slice none 0 0), (.slice none 0 0), (.int .i64 0)]) := ⟨by kernel_rfl⟩
instance : StT Tryd.prog 84 [(.slice none 0 0), (.slice none 0 0), (.int .i64 0)] [(0, 1), (1, 1), (2, 1)] := ⟨by kernel_rfl⟩
instance : Fld Tryd.prog 84 0 0 81 := ⟨by kernel_rfl⟩
instance : Fld Tryd.prog 84 1 1 82 := ⟨by kernel_rfl⟩
instance : Fld Tryd.prog 84 2 2 3 := ⟨by kernel_rfl⟩
instance : ZeV Tryd.prog 84 (.agg #[(.slice none 0 0), (.slice none 0 0), (.int .i64 0)]) := ⟨by kernel_rfl⟩
instance : Scl Tryd.prog 85 := ⟨by kernel_rfl⟩
instance : ZeT Tryd.prog 85 (.int .u16 0) := ⟨by kernel_rfl⟩
instance : One Tryd.prog 85 := ⟨by kernel_rfl⟩
instance : ZeV Tryd.prog 85 (.int .u16 0) := ⟨by kernel_rfl⟩
instance : Agg Tryd.prog 86 3 := ⟨by kernel_rfl, by kernel_rfl⟩
instance : ZeT Tryd.prog 86 (.agg #[(.int .u16 0), (.int .u16 0), (.int .u16 0)]) := ⟨by kernel_rfl⟩
instance : StT Tryd.prog 86 [(.int .u16 0), (.int .u16 0), (.int .u16 0)] [(0, 1), (1, 1), (2, 1)] := ⟨by kernel_rfl⟩
instance : Fld Tryd.prog 86 0 0 85 := ⟨by kernel_rfl⟩
instance : Fld Tryd.prog 86 1 1 85 := ⟨by kernel_rfl⟩
instance : Fld Tryd.prog 86 2 2 85 := ⟨by kernel_rfl⟩
instance : ZeV Tryd.prog 86 (.agg #[(.int .u16 0), (.int .u16 0), (.int .u16 0)]) := ⟨by kernel_rfl⟩
instance : Agg Tryd.prog 87 3 := ⟨by kernel_rfl, by kernel_rfl⟩
instance : ZeT Tryd.prog 87 (.agg #[(.int .u16 0), (.int .u16 0), (.int .u16 0)]) := ⟨by kernel_rfl⟩
instance : StT Tryd.prog 87 [(.int .u16 0), (.int .u16 0), (.int .u16 0)] [(0, 1), (1, 1), (2, 1)] := ⟨by kernel_rfl⟩
instance : Fld Tryd.prog 87 0 0 85 := ⟨by kernel_rfl⟩
instance : Fld Tryd.prog 87 1 1 85 := ⟨by kernel_rfl⟩
instance : Fld Tryd.prog 87 2 2 85 := ⟨by kernel_rfl⟩
instance : ZeV Tryd.prog 87 (.agg #[(.int .u16 0), (.int .u16 0), (.int .u16 0)]) := ⟨by kernel_rfl⟩
instance : Agg Tryd.prog 89 3 := ⟨by kernel_rfl, by kernel_rfl⟩
instance : ZeT Tryd.prog 89 (.agg #[(.int .u32 0), (.int .u32 0), (.int .u32 0)]) := ⟨by kernel_rfl⟩
instance : StT Tryd.prog 89 [(.int .u32 0), (.int .u32 0), (.int .u32 0)] [(0, 1), (1, 1), (2, 1)] := ⟨by kernel_rfl⟩
instance : Fld Tryd.prog 89 0 0 78 := ⟨by kernel_rfl⟩
instance : Fld Tryd.prog 89 1 1 78 := ⟨by kernel_rfl⟩
instance : Fld Tryd.prog 89 2 2 78 := ⟨by kernel_rfl⟩
instance : ZeV Tryd.prog 89 (.agg #[(.int .u32 0), (.int .u32 0), (.int .u32 0)]) := ⟨by kernel_rfl⟩
instance : Agg Tryd.prog 90 3 := ⟨by kernel_rfl, by kernel_rfl⟩
instance : ZeT Tryd.prog 90 (.agg #[(.int .u32 0), (.int .u32 0), (.int .u32 0)]) := ⟨by kernel_rfl⟩
instance : StT Tryd.prog 90 [(.int .u32 0), (.int .u32 0), (.int .u32 0)] [(0, 1), (1, 1), (2, 1)] := ⟨by kernel_rfl⟩
instance : Fld Tryd.prog 90 0 0 78 := ⟨by kernel_rfl⟩
instance : Fld Tryd.prog 90 1 1 78 := ⟨by kernel_rfl⟩
instance : Fld Tryd.prog 90 2 2 78 := ⟨by kernel_rfl⟩
instance : ZeV Tryd.prog 90 (.agg #[(.int .u32 0), (.int .u32 0), (.int .u32 0)]) := ⟨by kernel_rfl⟩
instance : Scl Tryd.prog 92 := ⟨by kernel_rfl⟩
instance : PtT Tryd.prog 92 := ⟨by kernel_rfl⟩
instance : ZeT Tryd.prog 92 (.pointer none) := ⟨by kernel_rfl⟩
instance : One Tryd.prog 92 := ⟨by kernel_rfl⟩
instance : ZeV Tryd.prog 92 (.pointer none) := ⟨by kernel_rfl⟩
instance : Scl Tryd.prog 93 := ⟨by kernel_rfl⟩
instance : ZeT Tryd.prog 93 (.int .u64 0) := ⟨by kernel_rfl⟩
instance : One Tryd.prog 93 := ⟨by kernel_rfl⟩
instance : ZeV Tryd.prog 93 (.int .u64 0) := ⟨by kernel_rfl⟩
instance : Scl Tryd.prog 94 := ⟨by kernel_rfl⟩
instance : PtT Tryd.prog 94 := ⟨by kernel_rfl⟩
instance : ZeT Tryd.prog 94 (.pointer none) := ⟨by kernel_rfl⟩
instance : One Tryd.prog 94 := ⟨by kernel_rfl⟩
instance : ZeV Tryd.prog 94 (.pointer none) := ⟨by kernel_rfl⟩
instance : Agg Tryd.prog 96 4 := ⟨by kernel_rfl, by kernel_rfl⟩
instance : ZeT Tryd.prog 96 (.agg #[(.pointer none), (.pointer none), (.pointer none), (.string ByteArray.empty)]) := ⟨by kernel_rfl⟩
instance : StT Tryd.prog 96 [(.pointer none), (.pointer none), (.pointer none), (.string ByteArray.empty)] [(0, 1), (1, 1), (2, 1), (3, 1)] := ⟨by kernel_rfl⟩
instance : Fld Tryd.prog 96 0 0 17 := ⟨by kernel_rfl⟩
instance : Fld Tryd.prog 96 1 1 17 := ⟨by kernel_rfl⟩
instance : Fld Tryd.prog 96 2 2 17 := ⟨by kernel_rfl⟩
instance : Fld Tryd.prog 96 3 3 9 := ⟨by kernel_rfl⟩
instance : ZeV Tryd.prog 96 (.agg #[(.pointer none), (.pointer none), (.pointer none), (.string ByteArray.empty)]) := ⟨by kernel_rfl⟩
instance : Agg Tryd.prog 97 4 := ⟨by kernel_rfl, by kernel_rfl⟩
instance : ZeT Tryd.prog 97 (.agg #[(.pointer none), (.pointer none), (.pointer none), (.string ByteArray.empty)]) := ⟨by kernel_rfl⟩
instance : StT Tryd.prog 97 [(.pointer none), (.pointer none), (.pointer none), (.string ByteArray.empty)] [(0, 1), (1, 1), (2, 1), (3, 1)] := ⟨by kernel_rfl⟩
instance : Fld Tryd.prog 97 0 0 17 := ⟨by kernel_rfl⟩
instance : Fld Tryd.prog 97 1 1 17 := ⟨by kernel_rfl⟩
instance : Fld Tryd.prog 97 2 2 17 := ⟨by kernel_rfl⟩
instance : Fld Tryd.prog 97 3 3 9 := ⟨by kernel_rfl⟩
instance : ZeV Tryd.prog 97 (.agg #[(.pointer none), (.pointer none), (.pointer none), (.string ByteArray.empty)]) := ⟨by kernel_rfl⟩
instance : Agg Tryd.prog 98 0 := ⟨by kernel_rfl, by kernel_rfl⟩
instance : ZeT Tryd.prog 98 (.agg #[]) := ⟨by kernel_rfl⟩
instance : StT Tryd.prog 98 [] [] := ⟨by kernel_rfl⟩
instance : ZeV Tryd.prog 98 (.agg #[]) := ⟨by kernel_rfl⟩
instance : ArT Tryd.prog 98 0 16 1 := ⟨by kernel_rfl⟩
instance : Agg Tryd.prog 99 0 := ⟨by kernel_rfl, by kernel_rfl⟩
instance : ZeT Tryd.prog 99 (.agg #[]) := ⟨by kernel_rfl⟩
instance : StT Tryd.prog 99 [] [(0, 0)] := ⟨by kernel_rfl⟩
instance : ZeV Tryd.prog 99 (.agg #[]) := ⟨by kernel_rfl⟩
instance : Agg Tryd.prog 100 0 := ⟨by kernel_rfl, by kernel_rfl⟩
instance : ZeT Tryd.prog 100 (.agg #[]) := ⟨by kernel_rfl⟩
instance : StT Tryd.prog 100 [] [(0, 0)] := ⟨by kernel_rfl⟩
instance : ZeV Tryd.prog 100 (.agg #[]) := ⟨by kernel_rfl⟩
instance : Scl Tryd.prog 102 := ⟨by kernel_rfl⟩
instance : ZeT Tryd.prog 102 (.int .u8 0) := ⟨by kernel_rfl⟩
instance : One Tryd.prog 102 := ⟨by kernel_rfl⟩
instance : ZeV Tryd.prog 102 (.int .u8 0) := ⟨by kernel_rfl⟩
instance : Scl Tryd.prog 103 := ⟨by kernel_rfl⟩
instance : ZeT Tryd.prog 103 (.int .u8 0) := ⟨by kernel_rfl⟩
instance : One Tryd.prog 103 := ⟨by kernel_rfl⟩
instance : ZeV Tryd.prog 103 (.int .u8 0) := ⟨by kernel_rfl⟩
instance : Scl Tryd.prog 105 := ⟨by kernel_rfl⟩
instance : PtT Tryd.prog 105 := ⟨by kernel_rfl⟩
instance : ZeT Tryd.prog 105 (.pointer none) := ⟨by kernel_rfl⟩
instance : One Tryd.prog 105 := ⟨by kernel_rfl⟩
instance : ZeV Tryd.prog 105 (.pointer none) := ⟨by kernel_rfl⟩
instance : Scl Tryd.prog 106 := ⟨by kernel_rfl⟩
instance : ZeT Tryd.prog 106 (.int .i32 0) := ⟨by kernel_rfl⟩
instance : One Tryd.prog 106 := ⟨by kernel_rfl⟩
instance : ZeV Tryd.prog 106 (.int .i32 0) := ⟨by kernel_rfl⟩
instance : Scl Tryd.prog 107 := ⟨by kernel_rfl⟩
instance : ZeT Tryd.prog 107 (.int .i32 0) := ⟨by kernel_rfl⟩
instance : One Tryd.prog 107 := ⟨by kernel_rfl⟩
instance : ZeV Tryd.prog 107 (.int .i32 0) := ⟨by kernel_rfl⟩
instance : Agg Tryd.prog 108 11 := ⟨by kernel_rfl, by kernel_rfl⟩
instance : ZeT Tryd.prog 108 (.agg #[(.int .u64 0), (.int .u64 0), (.int .u32 0), (.int .u8 0), (.int .u8 0), (.int .u8 0), (.int .u8 0), .nilFunc, (.pointer none), (.int .i32 0), (.int .i32 0)]) := ⟨by kernel_rfl⟩
instance : StT Tryd.prog 108 [(.int .u64 0), (.int .u64 0), (.int .u32 0), (.int .u8 0), (.int .u8 0), (.int .u8 0), (.int .u8 0), .nilFunc, (.pointer none), (.int .i32 0), (.int .i32 0)] [(0, 1), (1, 1), (2, 1), (3, 1), (4, 1), (5, 1), (6, 1), (7, 1), (8, 1), (9, 1), (10, 1)] := ⟨by kernel_rfl⟩
instance : Fld Tryd.prog 108 0 0 12 := ⟨by kernel_rfl⟩
instance : Fld Tryd.prog 108 1 1 12 := ⟨by kernel_rfl⟩
instance : Fld Tryd.prog 108 2 2 78 := ⟨by kernel_rfl⟩
instance : Fld Tryd.prog 108 3 3 102 := ⟨by kernel_rfl⟩
instance : Fld Tryd.prog 108 4 4 5 := ⟨by kernel_rfl⟩
instance : Fld Tryd.prog 108 5 5 5 := ⟨by kernel_rfl⟩
instance : Fld Tryd.prog 108 6 6 103 := ⟨by kernel_rfl⟩
instance : Fld Tryd.prog 108 7 7 104 := ⟨by kernel_rfl⟩
instance : Fld Tryd.prog 108 8 8 105 := ⟨by kernel_rfl⟩
instance : Fld Tryd.prog 108 9 9 106 := ⟨by kernel_rfl⟩
instance : Fld Tryd.prog 108 10 10 107 := ⟨by kernel_rfl⟩
instance : ZeV Tryd.prog 108 (.agg #[(.int .u64 0), (.int .u64 0), (.int .u32 0), (.int .u8 0), (.int .u8 0), (.int .u8 0), (.int .u8 0), .nilFunc, (.pointer none), (.int .i32 0), (.int .i32 0)]) := ⟨by kernel_rfl⟩
instance : Agg Tryd.prog 109 11 := ⟨by kernel_rfl, by kernel_rfl⟩
instance : ZeT Tryd.prog 109 (.agg #[(.int .u64 0), (.int .u64 0), (.int .u32 0), (.int .u8 0), (.int .u8 0), (.int .u8 0), (.int .u8 0), .nilFunc, (.pointer none), (.int .i32 0), (.int .i32 0)]) := ⟨by kernel_rfl⟩
instance : StT Tryd.prog 109 [(.int .u64 0), (.int .u64 0), (.int .u32 0), (.int .u8 0), (.int .u8 0), (.int .u8 0), (.int .u8 0), .nilFunc, (.pointer none), (.int .i32 0), (.int .i32 0)] [(0, 1), (1, 1), (2, 1), (3, 1), (4, 1), (5, 1), (6, 1), (7, 1), (8, 1), (9, 1), (10, 1)] := ⟨by kernel_rfl⟩
instance : Fld Tryd.prog 109 0 0 12 := ⟨by kernel_rfl⟩
instance : Fld Tryd.prog 109 1 1 12 := ⟨by kernel_rfl⟩
instance : Fld Tryd.prog 109 2 2 78 := ⟨by kernel_rfl⟩
instance : Fld Tryd.prog 109 3 3 102 := ⟨by kernel_rfl⟩
instance : Fld Tryd.prog 109 4 4 5 := ⟨by kernel_rfl⟩
instance : Fld Tryd.prog 109 5 5 5 := ⟨by kernel_rfl⟩
instance : Fld Tryd.prog 109 6 6 103 := ⟨by kernel_rfl⟩
instance : Fld Tryd.prog 109 7 7 104 := ⟨by kernel_rfl⟩
instance : Fld Tryd.prog 109 8 8 105 := ⟨by kernel_rfl⟩
instance : Fld Tryd.prog 109 9 9 106 := ⟨by kernel_rfl⟩
instance : Fld Tryd.prog 109 10 10 107 := ⟨by kernel_rfl⟩
instance : ZeV Tryd.prog 109 (.agg #[(.int .u64 0), (.int .u64 0), (.int .u32 0), (.int .u8 0), (.int .u8 0), (.int .u8 0), (.int .u8 0), .nilFunc, (.pointer none), (.int .i32 0), (.int .i32 0)]) := ⟨by kernel_rfl⟩
instance : Body Tryd.prog 2 := ⟨by kernel_rfl⟩
instance : Body Tryd.prog 3 := ⟨by kernel_rfl⟩
instance : Body Tryd.prog 4 := ⟨by kernel_rfl⟩
instance : Body Tryd.prog 5 := ⟨by kernel_rfl⟩
instance : Body Tryd.prog 6 := ⟨by kernel_rfl⟩
instance : Body Tryd.prog 7 := ⟨by kernel_rfl⟩
instance : Body Tryd.prog 8 := ⟨by kernel_rfl⟩
instance : Body Tryd.prog 9 := ⟨by kernel_rfl⟩
instance : Body Tryd.prog 10 := ⟨by kernel_rfl⟩
instance : Body Tryd.prog 11 := ⟨by kernel_rfl⟩
instance : Body Tryd.prog 12 := ⟨by kernel_rfl⟩
instance : Body Tryd.prog 13 := ⟨by kernel_rfl⟩
instance : Body Tryd.prog 14 := ⟨by kernel_rfl⟩
instance : Body Tryd.prog 15 := ⟨by kernel_rfl⟩
instance : Body Tryd.prog 16 := ⟨by kernel_rfl⟩
instance : Body Tryd.prog 17 := ⟨by kernel_rfl⟩
instance : Body Tryd.prog 18 := ⟨by kernel_rfl⟩
instance : Body Tryd.prog 19 := ⟨by kernel_rfl⟩
instance : Body Tryd.prog 20 := ⟨by kernel_rfl⟩
instance : Body Tryd.prog 21 := ⟨by kernel_rfl⟩
instance : Body Tryd.prog 22 := ⟨by kernel_rfl⟩
instance : Body Tryd.prog 23 := ⟨by kernel_rfl⟩
instance : Body Tryd.prog 24 := ⟨by kernel_rfl⟩
instance : Body Tryd.prog 25 := ⟨by kernel_rfl⟩
instance : Body Tryd.prog 26 := ⟨by kernel_rfl⟩
instance : Body Tryd.prog 27 := ⟨by kernel_rfl⟩
instance : Body Tryd.prog 28 := ⟨by kernel_rfl⟩
instance : Body Tryd.prog 29 := ⟨by kernel_rfl⟩
instance : Body Tryd.prog 30 := ⟨by kernel_rfl⟩
instance : Body Tryd.prog 31 := ⟨by kernel_rfl⟩
instance : Body Tryd.prog 32 := ⟨by kernel_rfl⟩
instance : Body Tryd.prog 33 := ⟨by kernel_rfl⟩
instance : Body Tryd.prog 34 := ⟨by kernel_rfl⟩
instance : Body Tryd.prog 35 := ⟨by kernel_rfl⟩
instance : Body Tryd.prog 36 := ⟨by kernel_rfl⟩
instance : Body Tryd.prog 37 := ⟨by kernel_rfl⟩
instance : Body Tryd.prog 38 := ⟨by kernel_rfl⟩
instance : Body Tryd.prog 39 := ⟨by kernel_rfl⟩
instance : Body Tryd.prog 40 := ⟨by kernel_rfl⟩
instance : Body Tryd.prog 41 := ⟨by kernel_rfl⟩
instance : Body Tryd.prog 42 := ⟨by kernel_rfl⟩
instance : Body Tryd.prog 43 := ⟨by kernel_rfl⟩
instance : Body Tryd.prog 44 := ⟨by kernel_rfl⟩
instance : Body Tryd.prog 45 := ⟨by kernel_rfl⟩
instance : Body Tryd.prog 46 := ⟨by kernel_rfl⟩
instance : Body Tryd.prog 47 := ⟨by kernel_rfl⟩
instance : Body Tryd.prog 71 := ⟨by kernel_rfl⟩
theorem Tryd.mixed : Tryd.prog.follows .mixedOrders = true := by kernel_rfl
end Go.Proofs.YtbmepcipnnlcnaaDoor

/- The text JPlain. -/
/-!
  Signatures, plain: types, formals, ways, which one is the best; names of the language.
-/
set_option linter.unusedVariables false
set_option linter.unusedSimpArgs false
namespace Sg
open Go.KK
abbrev Fm := ByteArray × Int
structure Sn where
  nm : ByteArray
  h : Hdr
  rs : ByteArray
  deriving Inhabited
def sInt : ByteArray := ⟨#[105, 110, 116]⟩
def sBool : ByteArray := ⟨#[98, 111, 111, 108]⟩
def sNone : ByteArray := ⟨#[110, 111, 110, 101]⟩
def sDom : ByteArray := ⟨#[100, 111, 109, 97, 105, 110]⟩
def sArr : ByteArray := ⟨#[97, 114, 114, 97, 121]⟩
def sAny : ByteArray := ⟨#[97, 110, 121]⟩
def sName : ByteArray := ⟨#[110, 97, 109, 101]⟩
def sKey : ByteArray := ⟨#[107, 101, 121]⟩
def sSign : ByteArray := ⟨#[115, 105, 103, 110]⟩
def isTy (f : Fm) : Bool :=
  if f.1 = sInt ∨ f.1 = sBool ∨ f.1 = sNone then decide (f.2 = 0) else if f.1 = sDom ∨ f.1 = sArr then decide (1 ≤ f.2 ∧ f.2 ≤ 3) else false
def isFm (f : Fm) : Bool :=
  if f.1 = sAny ∨ f.1 = sDom ∨ f.1 = sArr then decide (f.2 = 0) || (decide (f.1 ≠ sAny) && isTy f) else decide (f.1 ≠ sNone) && isTy f
def isAc (f : Fm) : Bool := isTy f && decide (f.1 ≠ sNone)
def fitW (f a : Fm) : Int × Bool :=
  if f = a then (0, true) else if f.1 = sInt ∧ a.1 = sBool then (1, true) else if f.2 = 0 ∧ f.1 = a.1 then (2, true)
  else if f.1 = sAny then (3, true) else if f.1 = sInt ∧ a.1 = sArr then (4, true) else (0, false)
/-- Whether all actuals fit, and the ways in which the first ones do. -/
def fitsB (fs ac : List Fm) : Bool := decide (ac.length = fs.length) && (fs.zip ac).all fun p => (fitW p.1 p.2).2
def wayL (fs ac : List Fm) : List Int := (fs.zip ac).map fun p => (fitW p.1 p.2).1
def betB (v w : List Int) : Bool := ((v.zip w).all fun p => decide (p.1 ≤ p.2)) && (v.zip w).any fun p => decide (p.1 < p.2)
/-! Names. -/
def isLet (c : UInt8) : Bool := decide (97 ≤ c.toNat ∧ c.toNat ≤ 122)
def isDig (c : UInt8) : Bool := decide (48 ≤ c.toNat ∧ c.toNat ≤ 57)
def isInn (c : UInt8) : Bool := isLet c || decide (65 ≤ c.toNat ∧ c.toNat ≤ 90) || isDig c || decide (c.toNat = 95)
def wordN : List UInt8 → Nat
  | [] => 0
  | c :: r => if isLet c then 1 + (r.takeWhile isInn).length else 0
def keyS : ByteArray := ⟨#[97, 110, 100, 32, 97, 114, 114, 97, 121, 32, 97, 116, 32, 97, 116, 111, 109, 105, 99, 32, 98, 101, 103, 105, 110, 32, 98, 108, 111, 99, 107, 32, 98, 108, 111, 99, 107, 115, 32, 98, 111, 111, 108, 32, 98, 121, 32, 99, 111, 98, 101, 103, 105, 110, 32, 99, 111, 102, 111, 114, 97, 108, 108, 32, 99, 111, 117, 110, 116, 32, 99, 121, 99, 108, 105, 99, 32, 100, 111, 32, 100, 111, 109, 97, 105, 110, 32, 101, 108, 115, 101, 32, 102, 97, 108, 115, 101, 32, 102, 105, 108, 108, 32, 102, 111, 108, 100, 32, 102, 111, 114, 32, 102, 111, 114, 97, 108, 108, 32, 103, 101, 116, 32, 103, 105, 118, 101, 32, 104, 97, 108, 116, 32, 104, 97, 115, 32, 104, 105, 103, 104, 32, 105, 102, 32, 105, 110, 32, 105, 110, 116, 32, 105, 115, 32, 108, 111, 119, 32, 109, 97, 120, 32, 109, 105, 110, 32, 110, 111, 110, 101, 32, 110, 116, 104, 32, 111, 110, 32, 111, 114, 100, 32, 111, 118, 101, 114, 32, 112, 114, 111, 99, 32, 114, 101, 97, 100, 32, 114, 101, 100, 117, 99, 101, 32, 114, 101, 115, 105, 122, 101, 32, 114, 101, 116, 117, 114, 110, 32, 115, 99, 97, 110, 32, 115, 101, 116, 32, 115, 105, 110, 103, 108, 101, 32, 115, 121, 110, 99, 32, 116, 111, 32, 116, 114, 117, 101, 32, 118, 97, 114, 32, 119, 104, 101, 114, 101, 32, 119, 104, 105, 108, 101, 32, 119, 104, 111, 108, 101, 32, 119, 105, 116, 104, 32, 119, 114, 105, 116, 101, 32, 122, 105, 112, 32, 97, 100, 100]⟩
def keyL : List ByteArray := (Go.Lib.fields keyS.data.toList).map fun l => ⟨l.toArray⟩
def keyB (s : ByteArray) : Bool := keyL.any fun k => decide (s = k)
def nameB (s : ByteArray) : Bool := decide (0 < wordN s.data.toList ∧ wordN s.data.toList = s.size) && !keyB s
def rsB (rs : ByteArray) : Bool := decide (rs = sInt ∨ rs = sBool ∨ rs = sNone)
def valB (s : Sn) (fs : List Fm) : Bool := fs.all isFm && (rsB s.rs && nameB s.nm && decide (fs.length ≤ 6))
def actB (ac : List Fm) : Bool := ac.all isAc
/-! Candidates, and the best one. -/
def candB (nm : ByteArray) (ac : List Fm) (p : Sn × List Fm) : Bool := fitsB p.2 ac && decide (p.1.nm = nm)
/-- The places of the candidates, from k on. -/
def cands (nm : ByteArray) (ac : List Fm) : Nat → List (Sn × List Fm) → List Nat
  | _, [] => []
  | k, p :: ps => if candB nm ac p then k :: cands nm ac (k + 1) ps else cands nm ac (k + 1) ps
def wayAt (ps : List (Sn × List Fm)) (ac : List Fm) (i : Nat) : List Int := match ps[i]? with | some p => wayL p.2 ac | none => []
def beats (ps : List (Sn × List Fm)) (ac : List Fm) (i k : Nat) : Bool := decide (k = i) || betB (wayAt ps ac i) (wayAt ps ac k)
def bestB (ps : List (Sn × List Fm)) (ac : List Fm) (found : List Nat) (i : Nat) : Bool := found.all fun k => beats ps ac i k
def resolveS (ps : List (Sn × List Fm)) (nm : ByteArray) (ac : List Fm) : Int × Int :=
  if ps.all (fun p => valB p.1 p.2) && actB ac then
    (if cands nm ac 0 ps = [] then (0, 90) else match (cands nm ac 0 ps).find? (bestB ps ac (cands nm ac 0 ps)) with | some i => ((i : Int), 0) | none => (0, 91))
  else (0, 2)
end Sg

/- The text JRep. -/
/-!
  How formals and signatures lie in memory; the library's table; strings cut.
-/
set_option linter.unusedVariables false
set_option linter.unusedSimpArgs false
set_option linter.unusedSectionVars false
namespace Go.KK
section
variable {P : Program} {F : Fr} {L : List Asn} {dst : Option Tmp} {ty : TypeId} {pos : String} {aft : Array Edge} {gd : Option (Nat × Bool)}
theorem Pur.sliceT0 {t : Nat} [ht : StT' P t] {x hi : Operand} {s : ByteArray} {k : IntKind} {i : Int} {n : Nat} (hx : ev F x = some (.string s)) (hh : ev F hi = some (.int k i)) (hn : i = (n : Int)) (hk : n ≤ s.size) :
    Pur P F L ⟨dst, .slice t x none (some hi) none, ty, pos, aft, gd⟩ (.string (s.extract 0 n)) := fun ρ w hρ _ => by
  subst hn
  have h := run_slice_string_h w t s ht.out k (n : Int) (by omega) (by omega)
  rw [Int.toNat_natCast] at h
  have h2 := (run_sliceAt_string (P := P) (w := w) t (.string s) none (some (.int k (n : Int))) none ht.out).trans h
  simp [execOp, hρ _ _ hx, hρ _ _ hh, h2]
end
/-- The library's table of white space. -/
class Tab (L : List Asn) : Prop where
  out : ∀ h, Sat h L → ∀ c : Nat, c < 256 → cellH h ⟨0, c, none⟩ = some (.int .u8 (if Lib.isSp (UInt8.ofNat c) then 1 else 0))
instance (priority := 900) Tab.tail {A : Asn} {L : List Asn} [hh : Tab L] : Tab (A :: L) := ⟨fun h s => hh.out h s.tail⟩
class TabI (h0 : Hp) : Prop where
  out : ∀ c : Nat, c < 256 → cellH h0 ⟨0, c, none⟩ = some (.int .u8 (if Lib.isSp (UInt8.ofNat c) then 1 else 0))
instance Tab.inp {h0 : Hp} {L : List Asn} [hh : TabI h0] : Tab (inp h0 :: L) := ⟨fun h s c hc => by
  obtain ⟨h1, l, a⟩ := s.head
  exact cellH_mono (Hp.le_trans (inp_iff.1 a) l) (hh.out c hc)⟩
end Go.KK
namespace Go.Proofs.YtbmepcipnnlcnaaDoor
open Go Go.KK Sg
def intE : Enc Int := ⟨3, 1, fun s => [.int .i64 s], fun _ => rfl, fun s v h => by
  simp only [List.mem_cons, List.not_mem_nil, or_false] at h; rcases h with rfl; rfl⟩
def boE : Enc Bool := ⟨4, 1, fun b => [.bool b], fun _ => rfl, fun s v h => by
  simp only [List.mem_cons, List.not_mem_nil, or_false] at h; rcases h with rfl; rfl⟩
def strE : Enc ByteArray := ⟨9, 1, fun s => [.string s], fun _ => rfl, fun s v h => by
  simp only [List.mem_cons, List.not_mem_nil, or_false] at h; rcases h with rfl; rfl⟩
def fmE : Enc Fm := ⟨38, 2, fun f => [.string f.1, .int .i64 f.2], fun _ => rfl, fun s v h => by
  simp only [List.mem_cons, List.not_mem_nil, or_false] at h; rcases h with rfl | rfl <;> rfl⟩
def sgE : Enc Sn := ⟨25, 3, fun s => [.string s.nm, .slice s.h.a s.h.n s.h.cap, .string s.rs], fun _ => rfl, fun s v h => by
  simp only [List.mem_cons, List.not_mem_nil, or_false] at h; rcases h with rfl | rfl | rfl <;> rfl⟩
abbrev fmV (f : Fm) : Value := .agg #[.string f.1, .int .i64 f.2]
abbrev sgV (s : Sn) : Value := .agg #[.string s.nm, .slice s.h.a s.h.n s.h.cap, .string s.rs]
theorem eqFm (x y : Fm) (w : World) : (Op.equal 38 (.agg (fmE.enc x).toArray) (.agg (fmE.enc y).toArray)).run Tryd.prog w = .ok (decide (x = y)) w := by
  have hu := run_underlying (P := Tryd.prog) Tryd.underlying38 w
  have hi : (sizeOf 3).run Tryd.prog w = .ok 1 w := run_sizeOf_of (by kernel_rfl)
  have hi9 : (sizeOf 9).run Tryd.prog w = .ok 1 w := run_sizeOf_of (by kernel_rfl)
  have hs := Scl.run (P := Tryd.prog) (t := 3) (w := w) (by kernel_rfl)
  have hs9 := Scl.run (P := Tryd.prog) (t := 9) (w := w) (by kernel_rfl)
  have he := fun a b => run_equalIn_int (P := Tryd.prog) w 9998 3 .i64 .i64 a b Tryd.underlying3
  have he9 := fun a b => run_equalIn_string (P := Tryd.prog) w 9998 9 a b Tryd.underlying9
  obtain ⟨a, b⟩ := x
  obtain ⟨c, d⟩ := y
  unfold Op.equal
  rw [show Op.maxDepth = 9999 + 1 from rfl, Op.equalIn.eq_def]
  simp only [fmE, Sem.run_bind, hu, hi, hi9, Result.andThen_ok]
  simp [Std.Legacy.Range.forIn_eq_forIn_range', List.range', part, hs, he, hs9, he9, hi, hi9, str_eq]
  by_cases h1 : a = c <;> by_cases h2 : b = d <;> simp [h1, h2]
instance : EqE Tryd.prog 38 fmE := ⟨by kernel_rfl, eqFm⟩
/-- A signature that can be read. -/
abbrev SgIn (L : List Asn) (s : Sn) (fs : List Fm) : Prop := SlIn fmE L s.h.a fs
end Go.Proofs.YtbmepcipnnlcnaaDoor
