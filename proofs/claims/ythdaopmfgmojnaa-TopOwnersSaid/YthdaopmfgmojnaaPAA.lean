/-
  A part of the proof of the claim that this folder bears.
-/
import Derived.Test.YthdaopmfgmojnaaProg
import Derived.Test.YthdaopmfgmojnaaKB
/- The text OFacts. -/
/- Facts on the types and the functions of the program, each by the kernel. -/
namespace Go.Proofs.Ythdaopmfgmojnaa
open Go Go.KK

instance : Scl Try.prog 2 := ⟨by kernel_rfl⟩
instance : ZeT Try.prog 2 (.int .i64 0) := ⟨by kernel_rfl⟩
instance : One Try.prog 2 := ⟨by kernel_rfl⟩
instance : KeyIs Try.prog 2 intK := ⟨by kernel_rfl⟩
instance : ZeV Try.prog 2 (.int .i64 0) := ⟨by kernel_rfl⟩
instance : Scl Try.prog 3 := ⟨by kernel_rfl⟩
instance : ZeT Try.prog 3 (.int .i64 0) := ⟨by kernel_rfl⟩
instance : One Try.prog 3 := ⟨by kernel_rfl⟩
instance : KeyIs Try.prog 3 intK := ⟨by kernel_rfl⟩
instance : ZeV Try.prog 3 (.int .i64 0) := ⟨by kernel_rfl⟩
instance : Scl Try.prog 4 := ⟨by kernel_rfl⟩
instance : BoT Try.prog 4 := ⟨by kernel_rfl⟩
instance : ZeT Try.prog 4 (.bool false) := ⟨by kernel_rfl⟩
instance : One Try.prog 4 := ⟨by kernel_rfl⟩
instance : ZeV Try.prog 4 (.bool false) := ⟨by kernel_rfl⟩
instance : Scl Try.prog 5 := ⟨by kernel_rfl⟩
instance : ZeT Try.prog 5 (.int .u8 0) := ⟨by kernel_rfl⟩
instance : One Try.prog 5 := ⟨by kernel_rfl⟩
instance : ZeV Try.prog 5 (.int .u8 0) := ⟨by kernel_rfl⟩
instance : Scl Try.prog 6 := ⟨by kernel_rfl⟩
instance : ZeT Try.prog 6 (.int .u8 0) := ⟨by kernel_rfl⟩
instance : One Try.prog 6 := ⟨by kernel_rfl⟩
instance : ZeV Try.prog 6 (.int .u8 0) := ⟨by kernel_rfl⟩
instance : Agg Try.prog 7 4 := ⟨by kernel_rfl, by kernel_rfl⟩
instance : ZeT Try.prog 7 (.agg #[(.int .i64 0), (.int .i64 0), (.bool false), (.int .u8 0)]) := ⟨by kernel_rfl⟩
instance : StT Try.prog 7 [(.int .i64 0), (.int .i64 0), (.bool false), (.int .u8 0)] [(0, 1), (1, 1), (2, 1), (3, 1)] := ⟨by kernel_rfl⟩
instance : Fld Try.prog 7 0 0 2 := ⟨by kernel_rfl⟩
instance : Fld Try.prog 7 1 1 3 := ⟨by kernel_rfl⟩
instance : Fld Try.prog 7 2 2 4 := ⟨by kernel_rfl⟩
instance : Fld Try.prog 7 3 3 6 := ⟨by kernel_rfl⟩
instance : ZeV Try.prog 7 (.agg #[(.int .i64 0), (.int .i64 0), (.bool false), (.int .u8 0)]) := ⟨by kernel_rfl⟩
instance : Agg Try.prog 8 4 := ⟨by kernel_rfl, by kernel_rfl⟩
instance : ZeT Try.prog 8 (.agg #[(.int .i64 0), (.int .i64 0), (.bool false), (.int .u8 0)]) := ⟨by kernel_rfl⟩
instance : StT Try.prog 8 [(.int .i64 0), (.int .i64 0), (.bool false), (.int .u8 0)] [(0, 1), (1, 1), (2, 1), (3, 1)] := ⟨by kernel_rfl⟩
instance : Fld Try.prog 8 0 0 2 := ⟨by kernel_rfl⟩
instance : Fld Try.prog 8 1 1 3 := ⟨by kernel_rfl⟩
instance : Fld Try.prog 8 2 2 4 := ⟨by kernel_rfl⟩
instance : Fld Try.prog 8 3 3 6 := ⟨by kernel_rfl⟩
instance : ZeV Try.prog 8 (.agg #[(.int .i64 0), (.int .i64 0), (.bool false), (.int .u8 0)]) := ⟨by kernel_rfl⟩
instance : Scl Try.prog 9 := ⟨by kernel_rfl⟩
instance : ZeT Try.prog 9 (.string ByteArray.empty) := ⟨by kernel_rfl⟩
instance : One Try.prog 9 := ⟨by kernel_rfl⟩
instance : StT' Try.prog 9 := ⟨by kernel_rfl⟩
instance : KeyIs Try.prog 9 strK := ⟨by kernel_rfl⟩
instance : ZeV Try.prog 9 (.string ByteArray.empty) := ⟨by kernel_rfl⟩
instance : Scl Try.prog 10 := ⟨by kernel_rfl⟩
instance : ZeT Try.prog 10 (.string ByteArray.empty) := ⟨by kernel_rfl⟩
instance : One Try.prog 10 := ⟨by kernel_rfl⟩
instance : StT' Try.prog 10 := ⟨by kernel_rfl⟩
instance : KeyIs Try.prog 10 strK := ⟨by kernel_rfl⟩
instance : ZeV Try.prog 10 (.string ByteArray.empty) := ⟨by kernel_rfl⟩
instance : Scl Try.prog 11 := ⟨by kernel_rfl⟩
instance : ZeT Try.prog 11 (.string ByteArray.empty) := ⟨by kernel_rfl⟩
instance : One Try.prog 11 := ⟨by kernel_rfl⟩
instance : StT' Try.prog 11 := ⟨by kernel_rfl⟩
instance : KeyIs Try.prog 11 strK := ⟨by kernel_rfl⟩
instance : ZeV Try.prog 11 (.string ByteArray.empty) := ⟨by kernel_rfl⟩
instance : Scl Try.prog 12 := ⟨by kernel_rfl⟩
instance : ZeT Try.prog 12 (.int .u64 0) := ⟨by kernel_rfl⟩
instance : One Try.prog 12 := ⟨by kernel_rfl⟩
instance : ZeV Try.prog 12 (.int .u64 0) := ⟨by kernel_rfl⟩
instance : Agg Try.prog 13 2 := ⟨by kernel_rfl, by kernel_rfl⟩
instance : ZeT Try.prog 13 (.agg #[(.string ByteArray.empty), (.int .u64 0)]) := ⟨by kernel_rfl⟩
instance : StT Try.prog 13 [(.string ByteArray.empty), (.int .u64 0)] [(0, 1), (1, 1)] := ⟨by kernel_rfl⟩
instance : Fld Try.prog 13 0 0 9 := ⟨by kernel_rfl⟩
instance : Fld Try.prog 13 1 1 12 := ⟨by kernel_rfl⟩
instance : ZeV Try.prog 13 (.agg #[(.string ByteArray.empty), (.int .u64 0)]) := ⟨by kernel_rfl⟩
instance : Agg Try.prog 14 2 := ⟨by kernel_rfl, by kernel_rfl⟩
instance : ZeT Try.prog 14 (.agg #[(.string ByteArray.empty), (.int .u64 0)]) := ⟨by kernel_rfl⟩
instance : StT Try.prog 14 [(.string ByteArray.empty), (.int .u64 0)] [(0, 1), (1, 1)] := ⟨by kernel_rfl⟩
instance : Fld Try.prog 14 0 0 9 := ⟨by kernel_rfl⟩
instance : Fld Try.prog 14 1 1 12 := ⟨by kernel_rfl⟩
instance : ZeV Try.prog 14 (.agg #[(.string ByteArray.empty), (.int .u64 0)]) := ⟨by kernel_rfl⟩
instance : Scl Try.prog 15 := ⟨by kernel_rfl⟩
instance : PtT Try.prog 15 := ⟨by kernel_rfl⟩
instance : ZeT Try.prog 15 (.pointer none) := ⟨by kernel_rfl⟩
instance : One Try.prog 15 := ⟨by kernel_rfl⟩
instance : ZeV Try.prog 15 (.pointer none) := ⟨by kernel_rfl⟩
instance : Scl Try.prog 16 := ⟨by kernel_rfl⟩
instance : PtT Try.prog 16 := ⟨by kernel_rfl⟩
instance : ZeT Try.prog 16 (.pointer none) := ⟨by kernel_rfl⟩
instance : One Try.prog 16 := ⟨by kernel_rfl⟩
instance : ZeV Try.prog 16 (.pointer none) := ⟨by kernel_rfl⟩
instance : Scl Try.prog 17 := ⟨by kernel_rfl⟩
instance : PtT Try.prog 17 := ⟨by kernel_rfl⟩
instance : ZeT Try.prog 17 (.pointer none) := ⟨by kernel_rfl⟩
instance : One Try.prog 17 := ⟨by kernel_rfl⟩
instance : ZeV Try.prog 17 (.pointer none) := ⟨by kernel_rfl⟩
instance : Agg Try.prog 18 1 := ⟨by kernel_rfl, by kernel_rfl⟩
instance : ZeT Try.prog 18 (.agg #[(.pointer none)]) := ⟨by kernel_rfl⟩
instance : StT Try.prog 18 [(.pointer none)] [(0, 1)] := ⟨by kernel_rfl⟩
instance : One Try.prog 18 := ⟨by kernel_rfl⟩
instance : Fld Try.prog 18 0 0 17 := ⟨by kernel_rfl⟩
instance : ZeV Try.prog 18 (.agg #[(.pointer none)]) := ⟨by kernel_rfl⟩
instance : Agg Try.prog 19 1 := ⟨by kernel_rfl, by kernel_rfl⟩
instance : ZeT Try.prog 19 (.agg #[(.pointer none)]) := ⟨by kernel_rfl⟩
instance : StT Try.prog 19 [(.pointer none)] [(0, 1)] := ⟨by kernel_rfl⟩
instance : One Try.prog 19 := ⟨by kernel_rfl⟩
instance : Fld Try.prog 19 0 0 17 := ⟨by kernel_rfl⟩
instance : ZeV Try.prog 19 (.agg #[(.pointer none)]) := ⟨by kernel_rfl⟩
instance : Scl Try.prog 20 := ⟨by kernel_rfl⟩
instance : ZeT Try.prog 20 .nilIface := ⟨by kernel_rfl⟩
instance : One Try.prog 20 := ⟨by kernel_rfl⟩
instance : ZeV Try.prog 20 .nilIface := ⟨by kernel_rfl⟩
instance : Scl Try.prog 21 := ⟨by kernel_rfl⟩
instance : ZeT Try.prog 21 (.int .i32 0) := ⟨by kernel_rfl⟩
instance : One Try.prog 21 := ⟨by kernel_rfl⟩
instance : ZeV Try.prog 21 (.int .i32 0) := ⟨by kernel_rfl⟩
instance : Scl Try.prog 22 := ⟨by kernel_rfl⟩
instance : ZeT Try.prog 22 (.slice none 0 0) := ⟨by kernel_rfl⟩
instance : One Try.prog 22 := ⟨by kernel_rfl⟩
instance : SlT Try.prog 22 46 3 48 (.agg #[(.string ByteArray.empty), (.string ByteArray.empty), (.string ByteArray.empty)]) := ⟨by kernel_rfl⟩
instance : ZeV Try.prog 22 (.slice none 0 0) := ⟨by kernel_rfl⟩
instance : Scl Try.prog 23 := ⟨by kernel_rfl⟩
instance : ZeT Try.prog 23 (.slice none 0 0) := ⟨by kernel_rfl⟩
instance : One Try.prog 23 := ⟨by kernel_rfl⟩
instance : SlT Try.prog 23 4 1 1 (.bool false) := ⟨by kernel_rfl⟩
instance : ZeV Try.prog 23 (.slice none 0 0) := ⟨by kernel_rfl⟩
instance : Scl Try.prog 24 := ⟨by kernel_rfl⟩
instance : ZeT Try.prog 24 (.int .i64 0) := ⟨by kernel_rfl⟩
instance : One Try.prog 24 := ⟨by kernel_rfl⟩
instance : KeyIs Try.prog 24 intK := ⟨by kernel_rfl⟩
instance : ZeV Try.prog 24 (.int .i64 0) := ⟨by kernel_rfl⟩
instance : Scl Try.prog 38 := ⟨by kernel_rfl⟩
instance : ZeT Try.prog 38 (.slice none 0 0) := ⟨by kernel_rfl⟩
instance : One Try.prog 38 := ⟨by kernel_rfl⟩
instance : SlT Try.prog 38 3 1 8 (.int .i64 0) := ⟨by kernel_rfl⟩
instance : ZeV Try.prog 38 (.slice none 0 0) := ⟨by kernel_rfl⟩
instance : Agg Try.prog 45 3 := ⟨by kernel_rfl, by kernel_rfl⟩
instance : ZeT Try.prog 45 (.agg #[(.string ByteArray.empty), (.string ByteArray.empty), (.string ByteArray.empty)]) := ⟨by kernel_rfl⟩
instance : StT Try.prog 45 [(.string ByteArray.empty), (.string ByteArray.empty), (.string ByteArray.empty)] [(0, 1), (1, 1), (2, 1)] := ⟨by kernel_rfl⟩
instance : Fld Try.prog 45 0 0 9 := ⟨by kernel_rfl⟩
instance : Fld Try.prog 45 1 1 9 := ⟨by kernel_rfl⟩
instance : Fld Try.prog 45 2 2 9 := ⟨by kernel_rfl⟩
instance : ZeV Try.prog 45 (.agg #[(.string ByteArray.empty), (.string ByteArray.empty), (.string ByteArray.empty)]) := ⟨by kernel_rfl⟩
instance : Agg Try.prog 46 3 := ⟨by kernel_rfl, by kernel_rfl⟩
instance : ZeT Try.prog 46 (.agg #[(.string ByteArray.empty), (.string ByteArray.empty), (.string ByteArray.empty)]) := ⟨by kernel_rfl⟩
instance : StT Try.prog 46 [(.string ByteArray.empty), (.string ByteArray.empty), (.string ByteArray.empty)] [(0, 1), (1, 1), (2, 1)] := ⟨by kernel_rfl⟩
instance : Fld Try.prog 46 0 0 9 := ⟨by kernel_rfl⟩
instance : Fld Try.prog 46 1 1 9 := ⟨by kernel_rfl⟩
instance : Fld Try.prog 46 2 2 9 := ⟨by kernel_rfl⟩
instance : ZeV Try.prog 46 (.agg #[(.string ByteArray.empty), (.string ByteArray.empty), (.string ByteArray.empty)]) := ⟨by kernel_rfl⟩
instance : Scl Try.prog 47 := ⟨by kernel_rfl⟩
instance : PtT Try.prog 47 := ⟨by kernel_rfl⟩
instance : ZeT Try.prog 47 (.pointer none) := ⟨by kernel_rfl⟩
instance : One Try.prog 47 := ⟨by kernel_rfl⟩
instance : ZeV Try.prog 47 (.pointer none) := ⟨by kernel_rfl⟩
instance : Scl Try.prog 50 := ⟨by kernel_rfl⟩
instance : PtT Try.prog 50 := ⟨by kernel_rfl⟩
instance : ZeT Try.prog 50 (.pointer none) := ⟨by kernel_rfl⟩
instance : One Try.prog 50 := ⟨by kernel_rfl⟩
instance : ZeV Try.prog 50 (.pointer none) := ⟨by kernel_rfl⟩
instance : Scl Try.prog 59 := ⟨by kernel_rfl⟩
instance : ZeT Try.prog 59 (.slice none 0 0) := ⟨by kernel_rfl⟩
instance : One Try.prog 59 := ⟨by kernel_rfl⟩
instance : SlT Try.prog 59 23 1 24 (.slice none 0 0) := ⟨by kernel_rfl⟩
instance : ZeV Try.prog 59 (.slice none 0 0) := ⟨by kernel_rfl⟩
instance : Agg Try.prog 62 2 := ⟨by kernel_rfl, by kernel_rfl⟩
instance : ZeT Try.prog 62 (.agg #[(.int .i64 0), (.int .i64 0)]) := ⟨by kernel_rfl⟩
instance : StT Try.prog 62 [(.int .i64 0), (.int .i64 0)] [(0, 1), (1, 1)] := ⟨by kernel_rfl⟩
instance : Fld Try.prog 62 0 0 3 := ⟨by kernel_rfl⟩
instance : Fld Try.prog 62 1 1 3 := ⟨by kernel_rfl⟩
instance : ZeV Try.prog 62 (.agg #[(.int .i64 0), (.int .i64 0)]) := ⟨by kernel_rfl⟩
instance : Agg Try.prog 63 2 := ⟨by kernel_rfl, by kernel_rfl⟩
instance : ZeT Try.prog 63 (.agg #[(.int .i64 0), (.int .i64 0)]) := ⟨by kernel_rfl⟩
instance : StT Try.prog 63 [(.int .i64 0), (.int .i64 0)] [(0, 1), (1, 1)] := ⟨by kernel_rfl⟩
instance : Fld Try.prog 63 0 0 3 := ⟨by kernel_rfl⟩
instance : Fld Try.prog 63 1 1 3 := ⟨by kernel_rfl⟩
instance : ZeV Try.prog 63 (.agg #[(.int .i64 0), (.int .i64 0)]) := ⟨by kernel_rfl⟩
instance : Agg Try.prog 64 16 := ⟨by kernel_rfl, by kernel_rfl⟩
instance : ZeT Try.prog 64 (.agg #[(.int .i64 0), (.int .i64 0), (.int .i64 0), (.int .i64 0), (.int .i64 0), (.int .i64 0), (.int .i64 0), (.int .i64 0), (.int .i64 0), (.int .i64 0), (.int .i64 0), (.int .i64 0), (.int .i64 0), (.int .i64 0), (.int .i64 0), (.int .i64 0)]) := ⟨by kernel_rfl⟩
instance : StT Try.prog 64 [(.int .i64 0), (.int .i64 0), (.int .i64 0), (.int .i64 0), (.int .i64 0), (.int .i64 0), (.int .i64 0), (.int .i64 0), (.int .i64 0), (.int .i64 0), (.int .i64 0), (.int .i64 0), (.int .i64 0), (.int .i64 0), (.int .i64 0), (.int .i64 0)] [(0, 2), (2, 2), (4, 2), (6, 2), (8, 2), (10, 2), (12, 2), (14, 2)] := ⟨by kernel_rfl⟩
instance : ZeV Try.prog 64 (.agg #[(.int .i64 0), (.int .i64 0), (.int .i64 0), (.int .i64 0), (.int .i64 0), (.int .i64 0), (.int .i64 0), (.int .i64 0), (.int .i64 0), (.int .i64 0), (.int .i64 0), (.int .i64 0), (.int .i64 0), (.int .i64 0), (.int .i64 0), (.int .i64 0)]) := ⟨by kernel_rfl⟩
instance : ArT Try.prog 64 8 63 2 := ⟨by kernel_rfl⟩
instance : Agg Try.prog 65 19 := ⟨by kernel_rfl, by kernel_rfl⟩
instance : ZeT Try.prog 65 (.agg #[(.int .i64 0), (.int .i64 0), (.int .i64 0), (.int .i64 0), (.int .i64 0), (.int .i64 0), (.int .i64 0), (.int .i64 0), (.int .i64 0), (.int .i64 0), (.int .i64 0), (.int .i64 0), (.int .i64 0), (.int .i64 0), (.int .i64 0), (.int .i64 0), (.slice none 0 0), (.slice none 0 0), (.slice none 0 0)]) := ⟨by kernel_rfl⟩
instance : StT Try.prog 65 [(.int .i64 0), (.int .i64 0), (.int .i64 0), (.int .i64 0), (.int .i64 0), (.int .i64 0), (.int .i64 0), (.int .i64 0), (.int .i64 0), (.int .i64 0), (.int .i64 0), (.int .i64 0), (.int .i64 0), (.int .i64 0), (.int .i64 0), (.int .i64 0), (.slice none 0 0), (.slice none 0 0), (.slice none 0 0)] [(0, 16), (16, 1), (17, 1), (18, 1)] := ⟨by kernel_rfl⟩
instance : Fld Try.prog 65 0 0 64 := ⟨by kernel_rfl⟩
instance : Fld Try.prog 65 1 16 23 := ⟨by kernel_rfl⟩
instance : Fld Try.prog 65 2 17 38 := ⟨by kernel_rfl⟩
instance : Fld Try.prog 65 3 18 38 := ⟨by kernel_rfl⟩
instance : ZeV Try.prog 65 (.agg #[(.int .i64 0), (.int .i64 0), (.int .i64 0), (.int .i64 0), (.int .i64 0), (.int .i64 0), (.int .i64 0), (.int .i64 0), (.int .i64 0), (.int .i64 0), (.int .i64 0), (.int .i64 0), (.int .i64 0), (.int .i64 0), (.int .i64 0), (.int .i64 0), (.slice none 0 0), (.slice none 0 0), (.slice none 0 0)]) := ⟨by kernel_rfl⟩
instance : Agg Try.prog 66 19 := ⟨by kernel_rfl, by kernel_rfl⟩
instance : ZeT Try.prog 66 (.agg #[(.int .i64 0), (.int .i64 0), (.int .i64 0), (.int .i64 0), (.int .i64 0), (.int .i64 0), (.int .i64 0), (.int .i64 0), (.int .i64 0), (.int .i64 0), (.int .i64 0), (.int .i64 0), (.int .i64 0), (.int .i64 0), (.int .i64 0), (.int .i64 0), (.slice none 0 0), (.slice none 0 0), (.slice none 0 0)]) := ⟨by kernel_rfl⟩
instance : StT Try.prog 66 [(.int .i64 0), (.int .i64 0), (.int .i64 0), (.int .i64 0), (.int .i64 0), (.int .i64 0), (.int .i64 0), (.int .i64 0), (.int .i64 0), (.int .i64 0), (.int .i64 0), (.int .i64 0), (.int .i64 0), (.int .i64 0), (.int .i64 0), (.int .i64 0), (.slice none 0 0), (.slice none 0 0), (.slice none 0 0)] [(0, 16), (16, 1), (17, 1), (18, 1)] := ⟨by kernel_rfl⟩
instance : Fld Try.prog 66 0 0 64 := ⟨by kernel_rfl⟩
instance : Fld Try.prog 66 1 16 23 := ⟨by kernel_rfl⟩
instance : Fld Try.prog 66 2 17 38 := ⟨by kernel_rfl⟩
instance : Fld Try.prog 66 3 18 38 := ⟨by kernel_rfl⟩
instance : ZeV Try.prog 66 (.agg #[(.int .i64 0), (.int .i64 0), (.int .i64 0), (.int .i64 0), (.int .i64 0), (.int .i64 0), (.int .i64 0), (.int .i64 0), (.int .i64 0), (.int .i64 0), (.int .i64 0), (.int .i64 0), (.int .i64 0), (.int .i64 0), (.int .i64 0), (.int .i64 0), (.slice none 0 0), (.slice none 0 0), (.slice none 0 0)]) := ⟨by kernel_rfl⟩
instance : Agg Try.prog 67 2 := ⟨by kernel_rfl, by kernel_rfl⟩
instance : ZeT Try.prog 67 (.agg #[(.int .i64 0), (.string ByteArray.empty)]) := ⟨by kernel_rfl⟩
instance : StT Try.prog 67 [(.int .i64 0), (.string ByteArray.empty)] [(0, 1), (1, 1)] := ⟨by kernel_rfl⟩
instance : Fld Try.prog 67 0 0 3 := ⟨by kernel_rfl⟩
instance : Fld Try.prog 67 1 1 9 := ⟨by kernel_rfl⟩
instance : ZeV Try.prog 67 (.agg #[(.int .i64 0), (.string ByteArray.empty)]) := ⟨by kernel_rfl⟩
instance : Agg Try.prog 68 2 := ⟨by kernel_rfl, by kernel_rfl⟩
instance : ZeT Try.prog 68 (.agg #[(.int .i64 0), (.string ByteArray.empty)]) := ⟨by kernel_rfl⟩
instance : StT Try.prog 68 [(.int .i64 0), (.string ByteArray.empty)] [(0, 1), (1, 1)] := ⟨by kernel_rfl⟩
instance : Fld Try.prog 68 0 0 3 := ⟨by kernel_rfl⟩
instance : Fld Try.prog 68 1 1 9 := ⟨by kernel_rfl⟩
instance : ZeV Try.prog 68 (.agg #[(.int .i64 0), (.string ByteArray.empty)]) := ⟨by kernel_rfl⟩
instance : Agg Try.prog 69 16 := ⟨by kernel_rfl, by kernel_rfl⟩
instance : ZeT Try.prog 69 (.agg #[(.int .i64 0), (.string ByteArray.empty), (.int .i64 0), (.string ByteArray.empty), (.int .i64 0), (.string ByteArray.empty), (.int .i64 0), (.string ByteArray.empty), (.int .i64 0), (.string ByteArray.empty), (.int .i64 0), (.string ByteArray.empty), (.int .i64 0), (.string ByteArray.empty), (.int .i64 0), (.string ByteArray.empty)]) := ⟨by kernel_rfl⟩
instance : StT Try.prog 69 [(.int .i64 0), (.string ByteArray.empty), (.int .i64 0), (.string ByteArray.empty), (.int .i64 0), (.string ByteArray.empty), (.int .i64 0), (.string ByteArray.empty), (.int .i64 0), (.string ByteArray.empty), (.int .i64 0), (.string ByteArray.empty), (.int .i64 0), (.string ByteArray.empty), (.int .i64 0), (.string ByteArray.empty)] [(0, 2), (2, 2), (4, 2), (6, 2), (8, 2), (10, 2), (12, 2), (14, 2)] := ⟨by kernel_rfl⟩
instance : ZeV Try.prog 69 (.agg #[(.int .i64 0), (.string ByteArray.empty), (.int .i64 0), (.string ByteArray.empty), (.int .i64 0), (.string ByteArray.empty), (.int .i64 0), (.string ByteArray.empty), (.int .i64 0), (.string ByteArray.empty), (.int .i64 0), (.string ByteArray.empty), (.int .i64 0), (.string ByteArray.empty), (.int .i64 0), (.string ByteArray.empty)]) := ⟨by kernel_rfl⟩
instance : ArT Try.prog 69 8 68 2 := ⟨by kernel_rfl⟩
instance : Agg Try.prog 70 19 := ⟨by kernel_rfl, by kernel_rfl⟩
instance : ZeT Try.prog 70 (.agg #[(.int .i64 0), (.string ByteArray.empty), (.int .i64 0), (.string ByteArray.empty), (.int .i64 0), (.string ByteArray.empty), (.int .i64 0), (.string ByteArray.empty), (.int .i64 0), (.string ByteArray.empty), (.int .i64 0), (.string ByteArray.empty), (.int .i64 0), (.string ByteArray.empty), (.int .i64 0), (.string ByteArray.empty), (.slice none 0 0), (.slice none 0 0), (.slice none 0 0)]) := ⟨by kernel_rfl⟩
instance : StT Try.prog 70 [(.int .i64 0), (.string ByteArray.empty), (.int .i64 0), (.string ByteArray.empty), (.int .i64 0), (.string ByteArray.empty), (.int .i64 0), (.string ByteArray.empty), (.int .i64 0), (.string ByteArray.empty), (.int .i64 0), (.string ByteArray.empty), (.int .i64 0), (.string ByteArray.empty), (.int .i64 0), (.string ByteArray.empty), (.slice none 0 0), (.slice none 0 0), (.slice none 0 0)] [(0, 16), (16, 1), (17, 1), (18, 1)] := ⟨by kernel_rfl⟩
instance : Fld Try.prog 70 0 0 69 := ⟨by kernel_rfl⟩
instance : Fld Try.prog 70 1 16 23 := ⟨by kernel_rfl⟩
instance : Fld Try.prog 70 2 17 38 := ⟨by kernel_rfl⟩
instance : Fld Try.prog 70 3 18 38 := ⟨by kernel_rfl⟩
instance : ZeV Try.prog 70 (.agg #[(.int .i64 0), (.string ByteArray.empty), (.int .i64 0), (.string ByteArray.empty), (.int .i64 0), (.string ByteArray.empty), (.int .i64 0), (.string ByteArray.empty), (.int .i64 0), (.string ByteArray.empty), (.int .i64 0), (.string ByteArray.empty), (.int .i64 0), (.string ByteArray.empty), (.int .i64 0), (.string ByteArray.empty), (.slice none 0 0), (.slice none 0 0), (.slice none 0 0)]) := ⟨by kernel_rfl⟩
instance : Agg Try.prog 71 19 := ⟨by kernel_rfl, by kernel_rfl⟩
instance : ZeT Try.prog 71 (.agg #[(.int .i64 0), (.string ByteArray.empty), (.int .i64 0), (.string ByteArray.empty), (.int .i64 0), (.string ByteArray.empty), (.int .i64 0), (.string ByteArray.empty), (.int .i64 0), (.string ByteArray.empty), (.int .i64 0), (.string ByteArray.empty), (.int .i64 0), (.string ByteArray.empty), (.int .i64 0), (.string ByteArray.empty), (.slice none 0 0), (.slice none 0 0), (.slice none 0 0)]) := ⟨by kernel_rfl⟩
instance : StT Try.prog 71 [(.int .i64 0), (.string ByteArray.empty), (.int .i64 0), (.string ByteArray.empty), (.int .i64 0), (.string ByteArray.empty), (.int .i64 0), (.string ByteArray.empty), (.int .i64 0), (.string ByteArray.empty), (.int .i64 0), (.string ByteArray.empty), (.int .i64 0), (.string ByteArray.empty), (.int .i64 0), (.string ByteArray.empty), (.slice none 0 0), (.slice none 0 0), (.slice none 0 0)] [(0, 16), (16, 1), (17, 1), (18, 1)] := ⟨by kernel_rfl⟩
instance : Fld Try.prog 71 0 0 69 := ⟨by kernel_rfl⟩
instance : Fld Try.prog 71 1 16 23 := ⟨by kernel_rfl⟩
instance : Fld Try.prog 71 2 17 38 := ⟨by kernel_rfl⟩
instance : Fld Try.prog 71 3 18 38 := ⟨by kernel_rfl⟩
instance : ZeV Try.prog 71 (.agg #[(.int .i64 0), (.string ByteArray.empty), (.int .i64 0), (.string ByteArray.empty), (.int .i64 0), (.string ByteArray.empty), (.int .i64 0), (.string ByteArray.empty), (.int .i64 0), (.string ByteArray.empty), (.int .i64 0), (.string ByteArray.empty), (.int .i64 0), (.string ByteArray.empty), (.int .i64 0), (.string ByteArray.empty), (.slice none 0 0), (.slice none 0 0), (.slice none 0 0)]) := ⟨by kernel_rfl⟩
instance : Scl Try.prog 76 := ⟨by kernel_rfl⟩
instance : ZeT Try.prog 76 (.slice none 0 0) := ⟨by kernel_rfl⟩
instance : One Try.prog 76 := ⟨by kernel_rfl⟩
instance : SlT Try.prog 76 80 4 56 (.agg #[(.string ByteArray.empty), (.string ByteArray.empty), (.string ByteArray.empty), (.int .i64 0)]) := ⟨by kernel_rfl⟩
instance : ZeV Try.prog 76 (.slice none 0 0) := ⟨by kernel_rfl⟩
instance : Agg Try.prog 79 4 := ⟨by kernel_rfl, by kernel_rfl⟩
instance : ZeT Try.prog 79 (.agg #[(.string ByteArray.empty), (.string ByteArray.empty), (.string ByteArray.empty), (.int .i64 0)]) := ⟨by kernel_rfl⟩
instance : StT Try.prog 79 [(.string ByteArray.empty), (.string ByteArray.empty), (.string ByteArray.empty), (.int .i64 0)] [(0, 3), (3, 1)] := ⟨by kernel_rfl⟩
instance : Fld Try.prog 79 0 0 46 := ⟨by kernel_rfl⟩
instance : Fld Try.prog 79 1 3 3 := ⟨by kernel_rfl⟩
instance : ZeV Try.prog 79 (.agg #[(.string ByteArray.empty), (.string ByteArray.empty), (.string ByteArray.empty), (.int .i64 0)]) := ⟨by kernel_rfl⟩
instance : Agg Try.prog 80 4 := ⟨by kernel_rfl, by kernel_rfl⟩
instance : ZeT Try.prog 80 (.agg #[(.string ByteArray.empty), (.string ByteArray.empty), (.string ByteArray.empty), (.int .i64 0)]) := ⟨by kernel_rfl⟩
instance : StT Try.prog 80 [(.string ByteArray.empty), (.string ByteArray.empty), (.string ByteArray.empty), (.int .i64 0)] [(0, 3), (3, 1)] := ⟨by kernel_rfl⟩
instance : Fld Try.prog 80 0 0 46 := ⟨by kernel_rfl⟩
instance : Fld Try.prog 80 1 3 3 := ⟨by kernel_rfl⟩
instance : ZeV Try.prog 80 (.agg #[(.string ByteArray.empty), (.string ByteArray.empty), (.string ByteArray.empty), (.int .i64 0)]) := ⟨by kernel_rfl⟩
instance : Scl Try.prog 90 := ⟨by kernel_rfl⟩
instance : PtT Try.prog 90 := ⟨by kernel_rfl⟩
instance : ZeT Try.prog 90 (.pointer none) := ⟨by kernel_rfl⟩
instance : One Try.prog 90 := ⟨by kernel_rfl⟩
instance : ZeV Try.prog 90 (.pointer none) := ⟨by kernel_rfl⟩
instance : Agg Try.prog 100 4 := ⟨by kernel_rfl, by kernel_rfl⟩
instance : ZeT Try.prog 100 (.agg #[(.pointer none), (.pointer none), (.pointer none), (.string ByteArray.empty)]) := ⟨by kernel_rfl⟩
instance : StT Try.prog 100 [(.pointer none), (.pointer none), (.pointer none), (.string ByteArray.empty)] [(0, 1), (1, 1), (2, 1), (3, 1)] := ⟨by kernel_rfl⟩
instance : Fld Try.prog 100 0 0 17 := ⟨by kernel_rfl⟩
instance : Fld Try.prog 100 1 1 17 := ⟨by kernel_rfl⟩
instance : Fld Try.prog 100 2 2 17 := ⟨by kernel_rfl⟩
instance : Fld Try.prog 100 3 3 9 := ⟨by kernel_rfl⟩
instance : ZeV Try.prog 100 (.agg #[(.pointer none), (.pointer none), (.pointer none), (.string ByteArray.empty)]) := ⟨by kernel_rfl⟩
instance : Agg Try.prog 101 4 := ⟨by kernel_rfl, by kernel_rfl⟩
instance : ZeT Try.prog 101 (.agg #[(.pointer none), (.pointer none), (.pointer none), (.string ByteArray.empty)]) := ⟨by kernel_rfl⟩
instance : StT Try.prog 101 [(.pointer none), (.pointer none), (.pointer none), (.string ByteArray.empty)] [(0, 1), (1, 1), (2, 1), (3, 1)] := ⟨by kernel_rfl⟩
instance : Fld Try.prog 101 0 0 17 := ⟨by kernel_rfl⟩
instance : Fld Try.prog 101 1 1 17 := ⟨by kernel_rfl⟩
instance : Fld Try.prog 101 2 2 17 := ⟨by kernel_rfl⟩
instance : Fld Try.prog 101 3 3 9 := ⟨by kernel_rfl⟩
instance : ZeV Try.prog 101 (.agg #[(.pointer none), (.pointer none), (.pointer none), (.string ByteArray.empty)]) := ⟨by kernel_rfl⟩
instance : Agg Try.prog 102 0 := ⟨by kernel_rfl, by kernel_rfl⟩
instance : ZeT Try.prog 102 (.agg #[]) := ⟨by kernel_rfl⟩
instance : StT Try.prog 102 [] [] := ⟨by kernel_rfl⟩
instance : ZeV Try.prog 102 (.agg #[]) := ⟨by kernel_rfl⟩
instance : ArT Try.prog 102 0 16 1 := ⟨by kernel_rfl⟩
instance : Agg Try.prog 103 0 := ⟨by kernel_rfl, by kernel_rfl⟩
instance : ZeT Try.prog 103 (.agg #[]) := ⟨by kernel_rfl⟩
instance : StT Try.prog 103 [] [(0, 0)] := ⟨by kernel_rfl⟩
instance : ZeV Try.prog 103 (.agg #[]) := ⟨by kernel_rfl⟩
instance : Agg Try.prog 104 0 := ⟨by kernel_rfl, by kernel_rfl⟩
instance : ZeT Try.prog 104 (.agg #[]) := ⟨by kernel_rfl⟩
instance : StT Try.prog 104 [] [(0, 0)] := ⟨by kernel_rfl⟩
instance : ZeV Try.prog 104 (.agg #[]) := ⟨by kernel_rfl⟩
instance : Scl Try.prog 106 := ⟨by kernel_rfl⟩
instance : ZeT Try.prog 106 (.int .u32 0) := ⟨by kernel_rfl⟩
instance : One Try.prog 106 := ⟨by kernel_rfl⟩
instance : ZeV Try.prog 106 (.int .u32 0) := ⟨by kernel_rfl⟩
instance : Scl Try.prog 107 := ⟨by kernel_rfl⟩
instance : ZeT Try.prog 107 (.int .u8 0) := ⟨by kernel_rfl⟩
instance : One Try.prog 107 := ⟨by kernel_rfl⟩
instance : ZeV Try.prog 107 (.int .u8 0) := ⟨by kernel_rfl⟩
instance : Scl Try.prog 108 := ⟨by kernel_rfl⟩
instance : ZeT Try.prog 108 (.int .u8 0) := ⟨by kernel_rfl⟩
instance : One Try.prog 108 := ⟨by kernel_rfl⟩
instance : ZeV Try.prog 108 (.int .u8 0) := ⟨by kernel_rfl⟩
instance : Scl Try.prog 110 := ⟨by kernel_rfl⟩
instance : PtT Try.prog 110 := ⟨by kernel_rfl⟩
instance : ZeT Try.prog 110 (.pointer none) := ⟨by kernel_rfl⟩
instance : One Try.prog 110 := ⟨by kernel_rfl⟩
instance : ZeV Try.prog 110 (.pointer none) := ⟨by kernel_rfl⟩
instance : Scl Try.prog 111 := ⟨by kernel_rfl⟩
instance : ZeT Try.prog 111 (.int .i32 0) := ⟨by kernel_rfl⟩
instance : One Try.prog 111 := ⟨by kernel_rfl⟩
instance : ZeV Try.prog 111 (.int .i32 0) := ⟨by kernel_rfl⟩
instance : Scl Try.prog 112 := ⟨by kernel_rfl⟩
instance : ZeT Try.prog 112 (.int .i32 0) := ⟨by kernel_rfl⟩
instance : One Try.prog 112 := ⟨by kernel_rfl⟩
instance : ZeV Try.prog 112 (.int .i32 0) := ⟨by kernel_rfl⟩
instance : Agg Try.prog 113 11 := ⟨by kernel_rfl, by kernel_rfl⟩
instance : ZeT Try.prog 113 (.agg #[(.int .u64 0), (.int .u64 0), (.int .u32 0), (.int .u8 0), (.int .u8 0), (.int .u8 0), (.int .u8 0), .nilFunc, (.pointer none), (.int .i32 0), (.int .i32 0)]) := ⟨by kernel_rfl⟩
instance : StT Try.prog 113 [(.int .u64 0), (.int .u64 0), (.int .u32 0), (.int .u8 0), (.int .u8 0), (.int .u8 0), (.int .u8 0), .nilFunc, (.pointer none), (.int .i32 0), (.int .i32 0)] [(0, 1), (1, 1), (2, 1), (3, 1), (4, 1), (5, 1), (6, 1), (7, 1), (8, 1), (9, 1), (10, 1)] := ⟨by kernel_rfl⟩
instance : Fld Try.prog 113 0 0 12 := ⟨by kernel_rfl⟩
instance : Fld Try.prog 113 1 1 12 := ⟨by kernel_rfl⟩
instance : Fld Try.prog 113 2 2 106 := ⟨by kernel_rfl⟩
instance : Fld Try.prog 113 3 3 107 := ⟨by kernel_rfl⟩
instance : Fld Try.prog 113 4 4 5 := ⟨by kernel_rfl⟩
instance : Fld Try.prog 113 5 5 5 := ⟨by kernel_rfl⟩
instance : Fld Try.prog 113 6 6 108 := ⟨by kernel_rfl⟩
instance : Fld Try.prog 113 7 7 109 := ⟨by kernel_rfl⟩
instance : Fld Try.prog 113 8 8 110 := ⟨by kernel_rfl⟩
instance : Fld Try.prog 113 9 9 111 := ⟨by kernel_rfl⟩
instance : Fld Try.prog 113 10 10 112 := ⟨by kernel_rfl⟩
instance : ZeV Try.prog 113 (.agg #[(.int .u64 0), (.int .u64 0), (.int .u32 0), (.int .u8 0), (.int .u8 0), (.int .u8 0), (.int .u8 0), .nilFunc, (.pointer none), (.int .i32 0), (.int .i32 0)]) := ⟨by kernel_rfl⟩
instance : Agg Try.prog 114 11 := ⟨by kernel_rfl, by kernel_rfl⟩
instance : ZeT Try.prog 114 (.agg #[(.int .u64 0), (.int .u64 0), (.int .u32 0), (.int .u8 0), (.int .u8 0), (.int .u8 0), (.int .u8 0), .nilFunc, (.pointer none), (.int .i32 0), (.int .i32 0)]) := ⟨by kernel_rfl⟩
instance : StT Try.prog 114 [(.int .u64 0), (.int .u64 0), (.int .u32 0), (.int .u8 0), (.int .u8 0), (.int .u8 0), (.int .u8 0), .nilFunc, (.pointer none), (.int .i32 0), (.int .i32 0)] [(0, 1), (1, 1), (2, 1), (3, 1), (4, 1), (5, 1), (6, 1), (7, 1), (8, 1), (9, 1), (10, 1)] := ⟨by kernel_rfl⟩
instance : Fld Try.prog 114 0 0 12 := ⟨by kernel_rfl⟩
instance : Fld Try.prog 114 1 1 12 := ⟨by kernel_rfl⟩
instance : Fld Try.prog 114 2 2 106 := ⟨by kernel_rfl⟩
instance : Fld Try.prog 114 3 3 107 := ⟨by kernel_rfl⟩
instance : Fld Try.prog 114 4 4 5 := ⟨by kernel_rfl⟩
instance : Fld Try.prog 114 5 5 5 := ⟨by kernel_rfl⟩
instance : Fld Try.prog 114 6 6 108 := ⟨by kernel_rfl⟩
instance : Fld Try.prog 114 7 7 109 := ⟨by kernel_rfl⟩
instance : Fld Try.prog 114 8 8 110 := ⟨by kernel_rfl⟩
instance : Fld Try.prog 114 9 9 111 := ⟨by kernel_rfl⟩
instance : Fld Try.prog 114 10 10 112 := ⟨by kernel_rfl⟩
instance : ZeV Try.prog 114 (.agg #[(.int .u64 0), (.int .u64 0), (.int .u32 0), (.int .u8 0), (.int .u8 0), (.int .u8 0), (.int .u8 0), .nilFunc, (.pointer none), (.int .i32 0), (.int .i32 0)]) := ⟨by kernel_rfl⟩
instance : Body Try.prog 2 := ⟨by kernel_rfl⟩
instance : Body Try.prog 3 := ⟨by kernel_rfl⟩
instance : Body Try.prog 4 := ⟨by kernel_rfl⟩
instance : Body Try.prog 5 := ⟨by kernel_rfl⟩
instance : Body Try.prog 6 := ⟨by kernel_rfl⟩
instance : Body Try.prog 7 := ⟨by kernel_rfl⟩
instance : Body Try.prog 8 := ⟨by kernel_rfl⟩
instance : Body Try.prog 9 := ⟨by kernel_rfl⟩
instance : Body Try.prog 10 := ⟨by kernel_rfl⟩
instance : Body Try.prog 11 := ⟨by kernel_rfl⟩
instance : Body Try.prog 12 := ⟨by kernel_rfl⟩
instance : Body Try.prog 13 := ⟨by kernel_rfl⟩
instance : Body Try.prog 14 := ⟨by kernel_rfl⟩
instance : Body Try.prog 15 := ⟨by kernel_rfl⟩
instance : Body Try.prog 16 := ⟨by kernel_rfl⟩
instance : Body Try.prog 17 := ⟨by kernel_rfl⟩
instance : Body Try.prog 18 := ⟨by kernel_rfl⟩
instance : Body Try.prog 19 := ⟨by kernel_rfl⟩
instance : Body Try.prog 20 := ⟨by kernel_rfl⟩
instance : Body Try.prog 21 := ⟨by kernel_rfl⟩
instance : Body Try.prog 22 := ⟨by kernel_rfl⟩
instance : Body Try.prog 23 := ⟨by kernel_rfl⟩
instance : Body Try.prog 24 := ⟨by kernel_rfl⟩
instance : Body Try.prog 25 := ⟨by kernel_rfl⟩
instance : Body Try.prog 26 := ⟨by kernel_rfl⟩
instance : Body Try.prog 27 := ⟨by kernel_rfl⟩
instance : Body Try.prog 28 := ⟨by kernel_rfl⟩
instance : Body Try.prog 29 := ⟨by kernel_rfl⟩
instance : Body Try.prog 30 := ⟨by kernel_rfl⟩
instance : Body Try.prog 31 := ⟨by kernel_rfl⟩
instance : Body Try.prog 32 := ⟨by kernel_rfl⟩
instance : Body Try.prog 33 := ⟨by kernel_rfl⟩
instance : Body Try.prog 34 := ⟨by kernel_rfl⟩
instance : Body Try.prog 35 := ⟨by kernel_rfl⟩
instance : Body Try.prog 36 := ⟨by kernel_rfl⟩
instance : Body Try.prog 37 := ⟨by kernel_rfl⟩
instance : Body Try.prog 38 := ⟨by kernel_rfl⟩
instance : Body Try.prog 39 := ⟨by kernel_rfl⟩
instance : Body Try.prog 40 := ⟨by kernel_rfl⟩
instance : Body Try.prog 41 := ⟨by kernel_rfl⟩
instance : Body Try.prog 42 := ⟨by kernel_rfl⟩
instance : Body Try.prog 43 := ⟨by kernel_rfl⟩
instance : Body Try.prog 44 := ⟨by kernel_rfl⟩
instance : Body Try.prog 45 := ⟨by kernel_rfl⟩
instance : Body Try.prog 46 := ⟨by kernel_rfl⟩
instance : Body Try.prog 47 := ⟨by kernel_rfl⟩
instance : Body Try.prog 48 := ⟨by kernel_rfl⟩
instance : Body Try.prog 49 := ⟨by kernel_rfl⟩
instance : Body Try.prog 50 := ⟨by kernel_rfl⟩
instance : Body Try.prog 51 := ⟨by kernel_rfl⟩
instance : Body Try.prog 52 := ⟨by kernel_rfl⟩
instance : Body Try.prog 53 := ⟨by kernel_rfl⟩
instance : Body Try.prog 54 := ⟨by kernel_rfl⟩
instance : Body Try.prog 55 := ⟨by kernel_rfl⟩
instance : Body Try.prog 56 := ⟨by kernel_rfl⟩
instance : Body Try.prog 57 := ⟨by kernel_rfl⟩
instance : Body Try.prog 58 := ⟨by kernel_rfl⟩
instance : Body Try.prog 59 := ⟨by kernel_rfl⟩
instance : Body Try.prog 60 := ⟨by kernel_rfl⟩
instance : Body Try.prog 61 := ⟨by kernel_rfl⟩
instance : Body Try.prog 62 := ⟨by kernel_rfl⟩
instance : Body Try.prog 63 := ⟨by kernel_rfl⟩
instance : Body Try.prog 64 := ⟨by kernel_rfl⟩
instance : Body Try.prog 65 := ⟨by kernel_rfl⟩
instance : Body Try.prog 66 := ⟨by kernel_rfl⟩
instance : Body Try.prog 67 := ⟨by kernel_rfl⟩
instance : Body Try.prog 68 := ⟨by kernel_rfl⟩
instance : Body Try.prog 69 := ⟨by kernel_rfl⟩
theorem Try.mixed : Try.prog.follows .mixedOrders = true := by kernel_rfl
end Go.Proofs.Ythdaopmfgmojnaa

/- The text OPlain. -/
/-
  The plain machine of layer 22: deeds, what is right, ways. No program in sight.
-/
set_option linter.unusedVariables false
set_option linter.unusedSimpArgs false
namespace Ow
abbrev Str := ByteArray
structure Deed where
  act : Str
  var : Str
  src : Str
  deriving DecidableEq
instance : Inhabited Deed := ⟨⟨.empty, .empty, .empty⟩⟩
def sNew : Str := ⟨#[110, 101, 119]⟩
def sShare : Str := ⟨#[115, 104, 97, 114, 101]⟩
def sRaw : Str := ⟨#[114, 97, 119]⟩
def sUse : Str := ⟨#[117, 115, 101]⟩
def sFree : Str := ⟨#[102, 114, 101, 101]⟩
def sDrop : Str := ⟨#[100, 114, 111, 112]⟩
def sMove : Str := ⟨#[109, 111, 118, 101]⟩
def sCopy : Str := ⟨#[99, 111, 112, 121]⟩
def sBorrow : Str := ⟨#[98, 111, 114, 114, 111, 119]⟩
def sEither : Str := ⟨#[101, 105, 116, 104, 101, 114]⟩
def sOr : Str := ⟨#[111, 114]⟩
def sEnd : Str := ⟨#[101, 110, 100]⟩
def sNone : Str := ⟨#[]⟩
def sMany : Str := ⟨#[109, 97, 110, 121]⟩
def sFull : Str := ⟨#[102, 117, 108, 108]⟩
def sEmpty : Str := ⟨#[101, 109, 112, 116, 121]⟩
def sManner : Str := ⟨#[109, 97, 110, 110, 101, 114]⟩
def sGone : Str := ⟨#[103, 111, 110, 101]⟩

/-- Whether a deed needs a variable, and one that it takes from. -/
def need (a : Str) : Option (Bool × Bool) :=
  if a = sNew ∨ a = sShare ∨ a = sRaw ∨ a = sUse ∨ a = sFree ∨ a = sDrop then some (true, false)
  else if a = sMove ∨ a = sCopy ∨ a = sBorrow then some (true, true)
  else if a = sEither ∨ a = sOr ∨ a = sEnd then some (false, false)
  else none
def byte0 (s : Str) : Nat := (s.data.toList.getD 0 0).toNat
def isVarB (s : Str) : Bool := decide (s.size = 1) && decide (97 ≤ byte0 s) && decide (byte0 s ≤ 104)
def vi (s : Str) : Nat := byte0 s - 97
def nameOk (must : Bool) (s : Str) : Bool := if must then isVarB s else decide (s = sNone)
def deedOk (d : Deed) : Bool := match need d.act with
  | none => false
  | some (v, f) => nameOk v d.var && nameOk f d.src
/-- The choices that are open, the innermost first: whether its or has come. -/
def vstep (o : List Bool) (d : Deed) : Option (List Bool) :=
  if deedOk d = false then none
  else if d.act = sEither then some (false :: o)
  else if d.act = sOr then (match o with | false :: r => some (true :: r) | _ => none)
  else if d.act = sEnd then (match o with | true :: r => some r | _ => none)
  else some o
def vfold (l : List Deed) : Nat → Option (List Bool)
  | 0 => some []
  | n + 1 => match vfold l n with
    | none => none
    | some o => match l[n]? with
      | none => some o
      | some d => vstep o d
def eithers (l : List Deed) : Nat := (l.filter (fun d => decide (d.act = sEither))).length
def validB (l : List Deed) : Bool := decide (vfold l l.length = some []) && decide (eithers l ≤ 8) && decide (l.length ≤ 60)

def dd (l : List Deed) (i : Nat) : Deed := l.getD i default
theorem dd_get {l : List Deed} {i : Nat} (h : i < l.length) : l[i]? = some (dd l i) := by simp [dd, List.getD_eq_getElem?_getD, h]
theorem dd_el {l : List Deed} {i : Nat} (h : i < l.length) : l[i] = dd l i := by simp [dd, List.getD_eq_getElem?_getD, h]
theorem vfold_succ {l : List Deed} {n : Nat} (h : n < l.length) : vfold l (n + 1) = match vfold l n with | none => none | some o => vstep o (dd l n) := by
  simp only [vfold, dd_get h]
theorem vfold_some {l : List Deed} {n : Nat} (h : n < l.length) {o' : List Bool} (h2 : vfold l (n + 1) = some o') : ∃ o, vfold l n = some o ∧ vstep o (dd l n) = some o' := by
  rw [vfold_succ h] at h2
  cases hv : vfold l n with
  | none => rw [hv] at h2; cases h2
  | some o => rw [hv] at h2; exact ⟨o, rfl, h2⟩
theorem vfold_pre {l : List Deed} {m : Nat} : ∀ {n : Nat}, m ≤ n → n ≤ l.length → ∀ {o' : List Bool}, vfold l n = some o' → ∃ o, vfold l m = some o
  | 0, h, _, o', h2 => ⟨o', by have : m = 0 := by omega
                               subst this; exact h2⟩
  | n + 1, h, hl, o', h2 => by
    by_cases e : m = n + 1
    · subst e; exact ⟨o', h2⟩
    · obtain ⟨o, h3, _⟩ := vfold_some (by omega) h2
      exact vfold_pre (by omega) (by omega) h3

/-! The way of a run. -/
structure Way where
  inside : List Bool
  skipped : Nat
  steps : List Nat
  met : List Nat
def Way.active (w : Way) : Bool := decide (w.skipped = 0) && w.inside.all id
def wstep (c : List Bool) (w : Way) (i : Nat) (d : Deed) : Way :=
  if d.act = sEither then (if w.active then ⟨c.getD w.met.length true :: w.inside, w.skipped, w.steps, w.met ++ [i]⟩ else ⟨w.inside, w.skipped + 1, w.steps, w.met⟩)
  else if d.act = sOr then (if w.skipped = 0 then ⟨(!(w.inside.headD false)) :: w.inside.tail, w.skipped, w.steps, w.met⟩ else w)
  else if d.act = sEnd then (if w.skipped = 0 then ⟨w.inside.tail, w.skipped, w.steps, w.met⟩ else ⟨w.inside, w.skipped - 1, w.steps, w.met⟩)
  else if w.active then ⟨w.inside, w.skipped, w.steps ++ [i], w.met⟩ else w
def wfold (l : List Deed) (c : List Bool) : Nat → Way
  | 0 => ⟨[], 0, [], []⟩
  | n + 1 => match l[n]? with
    | none => wfold l c n
    | some d => wstep c (wfold l c n) n d
def wayV (l : List Deed) (c : List Bool) : Way := wfold l c l.length
theorem wfold_succ {l : List Deed} {c : List Bool} {n : Nat} (h : n < l.length) : wfold l c (n + 1) = wstep c (wfold l c n) n (dd l n) := by simp only [wfold, dd_get h]

/-- What is known of a way: its choices are open ones, and at most the innermost is not being done. -/
structure WInv (o : List Bool) (w : Way) : Prop where
  len : o.length = w.inside.length + w.skipped
  tl : ∀ b ∈ w.inside.tail, b = true
  hd : 0 < w.skipped → w.inside.head? = some false
theorem all_of {w : Way} {o : List Bool} (h : WInv o w) : w.inside.all id = true ↔ w.inside.head? ≠ some false := by
  cases hi : w.inside with
  | nil => simp
  | cons b r =>
    have h1 := h.tl
    rw [hi] at h1
    have hr : r.all id = true := by rw [List.all_eq_true]; intro x hx; exact h1 x hx
    cases b <;> simp [hr]
theorem wstep_inv {c : List Bool} {o o' : List Bool} {w : Way} {i : Nat} {d : Deed} (h : WInv o w) (hv : vstep o d = some o') : WInv o' (wstep c w i d) := by
  obtain ⟨h1, h2, h3⟩ := h
  unfold vstep at hv
  split at hv
  · cases hv
  unfold wstep
  split at hv
  · rename_i hd
    cases hv
    rw [if_pos hd]
    split
    · rename_i ha
      unfold Way.active at ha
      simp only [Bool.and_eq_true, decide_eq_true_eq] at ha
      refine ⟨by simp [h1]; omega, fun b hb => ?_, fun hk => ?_⟩
      · have := List.all_eq_true.1 ha.2 b hb; simpa using this
      · simp only at hk; omega
    · rename_i ha
      refine ⟨by simp [h1]; omega, h2, fun _ => ?_⟩
      simp only
      by_cases hs : 0 < w.skipped
      · exact h3 hs
      · have h4 : w.skipped = 0 := by omega
        have h5 : ¬ w.inside.all id = true := fun hh => ha (by unfold Way.active; simp only [h4, hh]; rfl)
        have := all_of (o := o) ⟨h1, h2, h3⟩
        by_cases h6 : w.inside.head? = some false
        · exact h6
        · exact absurd (this.2 h6) h5
  · rename_i hd
    rw [if_neg hd]
    split at hv
    · rename_i hr
      rw [if_pos hr]
      split at hv
      · rename_i r
        cases hv
        split
        · rename_i hs
          cases hi : w.inside with
          | nil => rw [hi, hs] at h1; simp at h1
          | cons b t =>
            rw [hi] at h1 h2
            refine ⟨by simp [hs] at h1 ⊢; exact h1, by simpa using h2, fun hk => by simp only at hk; omega⟩
        · exact ⟨by simpa using h1, h2, h3⟩
      · cases hv
    · rename_i hr
      rw [if_neg hr]
      split at hv
      · rename_i he
        rw [if_pos he]
        split at hv
        · rename_i r
          cases hv
          split
          · rename_i hs
            refine ⟨?_, fun b hb => h2 b (List.mem_of_mem_tail hb), fun hk => by simp only at hk; omega⟩
            simp [hs] at h1 ⊢; omega
          · rename_i hs
            refine ⟨by simp at h1 ⊢; omega, h2, fun hk => h3 (by simp only at hk; omega)⟩
        · cases hv
      · rename_i he
        rw [if_neg he]
        cases hv
        split
        · exact ⟨h1, h2, h3⟩
        · exact ⟨h1, h2, h3⟩
theorem wfold_inv {l : List Deed} (c : List Bool) : ∀ {n : Nat}, n ≤ l.length → ∀ {o : List Bool}, vfold l n = some o → WInv o (wfold l c n)
  | 0, _, o, h => by cases h; exact ⟨rfl, fun b hb => (by cases hb), fun h2 => (by simp [wfold] at h2)⟩
  | n + 1, hn, o, h => by
    obtain ⟨o0, h1, h2⟩ := vfold_some (by omega) h
    rw [wfold_succ (by omega)]
    exact wstep_inv (wfold_inv c (by omega) h1) h2

/-! What the document skips. -/
def skipF (l : List Deed) (want : Bool) : Nat → Nat → Nat → Nat
  | 0, at', _ => at'
  | n + 1, at', deep =>
    if (dd l at').act = sEither then skipF l want n (at' + 1) (deep + 1)
    else if (dd l at').act = sOr then (if deep = 0 ∧ want = true then at' + 1 else skipF l want n (at' + 1) deep)
    else if (dd l at').act = sEnd then (if deep = 0 then at' + 1 else skipF l want n (at' + 1) (deep - 1))
    else skipF l want n (at' + 1) deep
def skipV (l : List Deed) (at' : Nat) (want : Bool) : Nat := skipF l want (l.length - at') at' 0
theorem skipF_le {l : List Deed} {want : Bool} : ∀ {n at' deep : Nat}, at' ≤ skipF l want n at' deep ∧ skipF l want n at' deep ≤ at' + n
  | 0, at', _ => by simp [skipF]
  | n + 1, at', deep => by
    unfold skipF
    have h1 := skipF_le (l := l) (want := want) (n := n) (at' := at' + 1) (deep := deep + 1)
    have h2 := skipF_le (l := l) (want := want) (n := n) (at' := at' + 1) (deep := deep)
    have h3 := skipF_le (l := l) (want := want) (n := n) (at' := at' + 1) (deep := deep - 1)
    split
    · omega
    · split
      · split <;> omega
      · split
        · split <;> omega
        · omega

theorem act_ne : ¬ sOr = sEither ∧ ¬ sEnd = sEither ∧ ¬ sEnd = sOr := by decide

/-- Behind what is skipped the way goes on: behind the or of a choice, or behind its end. -/
theorem skip_way {l : List Deed} {c : List Bool} {want : Bool} : ∀ (n at' deep : Nat) (o : List Bool) (inside : List Bool) (steps met : List Nat), at' + n = l.length → vfold l at' = some o → (∃ of, vfold l l.length = some of ∧ of = []) →
    wfold l c at' = ⟨false :: inside, deep, steps, met⟩ → (∀ b ∈ inside, b = true) → o[deep]? = some (!want) →
    ∃ q, skipF l want n at' deep = q ∧ q ≤ l.length ∧ at' < q ∧ (∃ oq, vfold l q = some oq) ∧ wfold l c q = (if want = true then ⟨true :: inside, 0, steps, met⟩ else ⟨inside, 0, steps, met⟩)
  | 0, at', deep, o, inside, steps, met, hn, hv, hf, hw, hi, ho => by
    exfalso
    obtain ⟨of, h1, h2⟩ := hf
    have : at' = l.length := by omega
    subst this
    rw [hv] at h1; cases h1; subst h2; simp at ho
  | n + 1, at', deep, o, inside, steps, met, hn, hv, hf, hw, hi, ho => by
    have hl : at' < l.length := by omega
    obtain ⟨of, hf1, hf2⟩ := hf
    obtain ⟨o1, hv1⟩ := vfold_pre (m := at' + 1) (by omega) (Nat.le_refl _) hf1
    obtain ⟨o0, hv0, hs⟩ := vfold_some hl hv1
    rw [hv] at hv0; cases hv0
    have hwn := wfold_succ (c := c) hl
    rw [hw] at hwn
    have hna : (⟨false :: inside, deep, steps, met⟩ : Way).active = false := by simp [Way.active]
    unfold vstep at hs
    split at hs
    · cases hs
    unfold skipF
    unfold wstep at hwn
    split at hs
    · rename_i he
      cases hs
      rw [if_pos he, hna] at hwn
      rw [if_pos he]
      obtain ⟨q, q1, q2, q3, q4⟩ := skip_way (c := c) (want := want) n (at' + 1) (deep + 1) _ inside steps met (by omega) hv1 ⟨of, hf1, hf2⟩ (by simpa using hwn) hi (by simpa using ho)
      exact ⟨q, q1, q2, by omega, q4⟩
    · rename_i he
      rw [if_neg he] at hwn ⊢
      split at hs
      · rename_i hr
        rw [if_pos hr] at hwn ⊢
        split at hs
        · rename_i r
          cases hs
          by_cases hd : deep = 0
          · subst hd
            simp only [List.getElem?_cons_zero, Option.some.injEq] at ho
            have hwt : want = true := by revert ho; cases want <;> simp
            subst hwt
            rw [if_pos ⟨rfl, rfl⟩]
            exact ⟨_, rfl, by omega, by omega, ⟨_, hv1⟩, by simpa using hwn⟩
          · rw [if_neg (fun h => hd h.1)]
            rw [if_neg (by simpa using hd)] at hwn
            obtain ⟨q, q1, q2, q3, q4⟩ := skip_way (c := c) (want := want) n (at' + 1) deep _ inside steps met (by omega) hv1 ⟨of, hf1, hf2⟩ hwn hi (by
              obtain ⟨k, rfl⟩ : ∃ k, deep = k + 1 := ⟨deep - 1, by omega⟩
              simpa using ho)
            exact ⟨q, q1, q2, by omega, q4⟩
        · cases hs
      · rename_i hr
        rw [if_neg hr] at hwn ⊢
        split at hs
        · rename_i hen
          rw [if_pos hen] at hwn ⊢
          split at hs
          · rename_i r
            cases hs
            by_cases hd : deep = 0
            · subst hd
              simp only [List.getElem?_cons_zero, Option.some.injEq] at ho
              have hwt : want = false := by revert ho; cases want <;> simp
              subst hwt
              rw [if_pos rfl]
              exact ⟨_, rfl, by omega, by omega, ⟨_, hv1⟩, by simpa using hwn⟩
            · rw [if_neg hd]
              rw [if_neg (by simpa using hd)] at hwn
              obtain ⟨q, q1, q2, q3, q4⟩ := skip_way (c := c) (want := want) n (at' + 1) (deep - 1) _ inside steps met (by omega) hv1 ⟨of, hf1, hf2⟩ hwn hi (by
                obtain ⟨k, rfl⟩ : ∃ k, deep = k + 1 := ⟨deep - 1, by omega⟩
                simpa using ho)
              exact ⟨q, q1, q2, by omega, q4⟩
          · cases hs
        · rename_i hen
          cases hs
          rw [if_neg hen] at hwn ⊢
          rw [hna] at hwn
          obtain ⟨q, q1, q2, q3, q4⟩ := skip_way (c := c) (want := want) n (at' + 1) deep _ inside steps met (by omega) hv1 ⟨of, hf1, hf2⟩ (by simpa using hwn) hi ho
          exact ⟨q, q1, q2, by omega, q4⟩
end Ow
