/-
  A part of the proof of the claim that this folder bears.
-/
import Derived.Test.YtnhippfllgnngaaProg
import Derived.Test.YtnhippfllgnngaaKC
/- The text SFacts. -/
/- Facts on the types and the functions of the program, each by the kernel. -/
namespace Go.Proofs.Ytnhippfllgnngaa
open Go Go.KK

instance : Scl Try.prog 2 := ⟨by kernel_rfl⟩
instance : ZeT Try.prog 2 (.int .i64 0) := ⟨by kernel_rfl⟩
instance : One Try.prog 2 := ⟨by kernel_rfl⟩
instance : KeyIs Try.prog 2 intK := ⟨by kernel_rfl⟩
instance : ZeV Try.prog 2 (.int .i64 0) := ⟨by kernel_rfl⟩
instance : Scl Try.prog 3 := ⟨by kernel_rfl⟩
instance : ZeT Try.prog 3 (.int .i64 0) := ⟨by kernel_rfl⟩
instance : One Try.prog 3 := ⟨by kernel_rfl⟩
instance : KeyIs Try.prog 3 intK := ⟨by kernel_rfl⟩
instance : ZeV Try.prog 3 (.int .i64 0) := ⟨by kernel_rfl⟩
instance : Scl Try.prog 4 := ⟨by kernel_rfl⟩
instance : BoT Try.prog 4 := ⟨by kernel_rfl⟩
instance : ZeT Try.prog 4 (.bool false) := ⟨by kernel_rfl⟩
instance : One Try.prog 4 := ⟨by kernel_rfl⟩
instance : ZeV Try.prog 4 (.bool false) := ⟨by kernel_rfl⟩
instance : Scl Try.prog 5 := ⟨by kernel_rfl⟩
instance : ZeT Try.prog 5 (.int .u8 0) := ⟨by kernel_rfl⟩
instance : One Try.prog 5 := ⟨by kernel_rfl⟩
instance : ZeV Try.prog 5 (.int .u8 0) := ⟨by kernel_rfl⟩
instance : Scl Try.prog 6 := ⟨by kernel_rfl⟩
instance : ZeT Try.prog 6 (.int .u8 0) := ⟨by kernel_rfl⟩
instance : One Try.prog 6 := ⟨by kernel_rfl⟩
instance : ZeV Try.prog 6 (.int .u8 0) := ⟨by kernel_rfl⟩
instance : Agg Try.prog 7 4 := ⟨by kernel_rfl, by kernel_rfl⟩
instance : ZeT Try.prog 7 (.agg #[(.int .i64 0), (.int .i64 0), (.bool false), (.int .u8 0)]) := ⟨by kernel_rfl⟩
instance : StT Try.prog 7 [(.int .i64 0), (.int .i64 0), (.bool false), (.int .u8 0)] [(0, 1), (1, 1), (2, 1), (3, 1)] := ⟨by kernel_rfl⟩
instance : Fld Try.prog 7 0 0 2 := ⟨by kernel_rfl⟩
instance : Fld Try.prog 7 1 1 3 := ⟨by kernel_rfl⟩
instance : Fld Try.prog 7 2 2 4 := ⟨by kernel_rfl⟩
instance : Fld Try.prog 7 3 3 6 := ⟨by kernel_rfl⟩
instance : ZeV Try.prog 7 (.agg #[(.int .i64 0), (.int .i64 0), (.bool false), (.int .u8 0)]) := ⟨by kernel_rfl⟩
instance : Agg Try.prog 8 4 := ⟨by kernel_rfl, by kernel_rfl⟩
instance : ZeT Try.prog 8 (.agg #[(.int .i64 0), (.int .i64 0), (.bool false), (.int .u8 0)]) := ⟨by kernel_rfl⟩
instance : StT Try.prog 8 [(.int .i64 0), (.int .i64 0), (.bool false), (.int .u8 0)] [(0, 1), (1, 1), (2, 1), (3, 1)] := ⟨by kernel_rfl⟩
instance : Fld Try.prog 8 0 0 2 := ⟨by kernel_rfl⟩
instance : Fld Try.prog 8 1 1 3 := ⟨by kernel_rfl⟩
instance : Fld Try.prog 8 2 2 4 := ⟨by kernel_rfl⟩
instance : Fld Try.prog 8 3 3 6 := ⟨by kernel_rfl⟩
instance : ZeV Try.prog 8 (.agg #[(.int .i64 0), (.int .i64 0), (.bool false), (.int .u8 0)]) := ⟨by kernel_rfl⟩
instance : Scl Try.prog 9 := ⟨by kernel_rfl⟩
instance : ZeT Try.prog 9 (.string ByteArray.empty) := ⟨by kernel_rfl⟩
instance : One Try.prog 9 := ⟨by kernel_rfl⟩
instance : StT' Try.prog 9 := ⟨by kernel_rfl⟩
instance : KeyIs Try.prog 9 strK := ⟨by kernel_rfl⟩
instance : ZeV Try.prog 9 (.string ByteArray.empty) := ⟨by kernel_rfl⟩
instance : Scl Try.prog 10 := ⟨by kernel_rfl⟩
instance : ZeT Try.prog 10 (.string ByteArray.empty) := ⟨by kernel_rfl⟩
instance : One Try.prog 10 := ⟨by kernel_rfl⟩
instance : StT' Try.prog 10 := ⟨by kernel_rfl⟩
instance : KeyIs Try.prog 10 strK := ⟨by kernel_rfl⟩
instance : ZeV Try.prog 10 (.string ByteArray.empty) := ⟨by kernel_rfl⟩
instance : Scl Try.prog 11 := ⟨by kernel_rfl⟩
instance : ZeT Try.prog 11 (.string ByteArray.empty) := ⟨by kernel_rfl⟩
instance : One Try.prog 11 := ⟨by kernel_rfl⟩
instance : StT' Try.prog 11 := ⟨by kernel_rfl⟩
instance : KeyIs Try.prog 11 strK := ⟨by kernel_rfl⟩
instance : ZeV Try.prog 11 (.string ByteArray.empty) := ⟨by kernel_rfl⟩
instance : Scl Try.prog 12 := ⟨by kernel_rfl⟩
instance : ZeT Try.prog 12 (.int .u64 0) := ⟨by kernel_rfl⟩
instance : One Try.prog 12 := ⟨by kernel_rfl⟩
instance : ZeV Try.prog 12 (.int .u64 0) := ⟨by kernel_rfl⟩
instance : Agg Try.prog 13 2 := ⟨by kernel_rfl, by kernel_rfl⟩
instance : ZeT Try.prog 13 (.agg #[(.string ByteArray.empty), (.int .u64 0)]) := ⟨by kernel_rfl⟩
instance : StT Try.prog 13 [(.string ByteArray.empty), (.int .u64 0)] [(0, 1), (1, 1)] := ⟨by kernel_rfl⟩
instance : Fld Try.prog 13 0 0 9 := ⟨by kernel_rfl⟩
instance : Fld Try.prog 13 1 1 12 := ⟨by kernel_rfl⟩
instance : ZeV Try.prog 13 (.agg #[(.string ByteArray.empty), (.int .u64 0)]) := ⟨by kernel_rfl⟩
instance : Agg Try.prog 14 2 := ⟨by kernel_rfl, by kernel_rfl⟩
instance : ZeT Try.prog 14 (.agg #[(.string ByteArray.empty), (.int .u64 0)]) := ⟨by kernel_rfl⟩
instance : StT Try.prog 14 [(.string ByteArray.empty), (.int .u64 0)] [(0, 1), (1, 1)] := ⟨by kernel_rfl⟩
instance : Fld Try.prog 14 0 0 9 := ⟨by kernel_rfl⟩
instance : Fld Try.prog 14 1 1 12 := ⟨by kernel_rfl⟩
instance : ZeV Try.prog 14 (.agg #[(.string ByteArray.empty), (.int .u64 0)]) := ⟨by kernel_rfl⟩
instance : Scl Try.prog 15 := ⟨by kernel_rfl⟩
instance : PtT Try.prog 15 := ⟨by kernel_rfl⟩
instance : ZeT Try.prog 15 (.pointer none) := ⟨by kernel_rfl⟩
instance : One Try.prog 15 := ⟨by kernel_rfl⟩
instance : ZeV Try.prog 15 (.pointer none) := ⟨by kernel_rfl⟩
instance : Scl Try.prog 16 := ⟨by kernel_rfl⟩
instance : PtT Try.prog 16 := ⟨by kernel_rfl⟩
instance : ZeT Try.prog 16 (.pointer none) := ⟨by kernel_rfl⟩
instance : One Try.prog 16 := ⟨by kernel_rfl⟩
instance : ZeV Try.prog 16 (.pointer none) := ⟨by kernel_rfl⟩
instance : Scl Try.prog 17 := ⟨by kernel_rfl⟩
instance : PtT Try.prog 17 := ⟨by kernel_rfl⟩
instance : ZeT Try.prog 17 (.pointer none) := ⟨by kernel_rfl⟩
instance : One Try.prog 17 := ⟨by kernel_rfl⟩
instance : ZeV Try.prog 17 (.pointer none) := ⟨by kernel_rfl⟩
instance : Agg Try.prog 18 1 := ⟨by kernel_rfl, by kernel_rfl⟩
instance : ZeT Try.prog 18 (.agg #[(.pointer none)]) := ⟨by kernel_rfl⟩
instance : StT Try.prog 18 [(.pointer none)] [(0, 1)] := ⟨by kernel_rfl⟩
instance : One Try.prog 18 := ⟨by kernel_rfl⟩
instance : Fld Try.prog 18 0 0 17 := ⟨by kernel_rfl⟩
instance : ZeV Try.prog 18 (.agg #[(.pointer none)]) := ⟨by kernel_rfl⟩
instance : Agg Try.prog 19 1 := ⟨by kernel_rfl, by kernel_rfl⟩
instance : ZeT Try.prog 19 (.agg #[(.pointer none)]) := ⟨by kernel_rfl⟩
instance : StT Try.prog 19 [(.pointer none)] [(0, 1)] := ⟨by kernel_rfl⟩
instance : One Try.prog 19 := ⟨by kernel_rfl⟩
instance : Fld Try.prog 19 0 0 17 := ⟨by kernel_rfl⟩
instance : ZeV Try.prog 19 (.agg #[(.pointer none)]) := ⟨by kernel_rfl⟩
instance : Scl Try.prog 20 := ⟨by kernel_rfl⟩
instance : ZeT Try.prog 20 .nilIface := ⟨by kernel_rfl⟩
instance : One Try.prog 20 := ⟨by kernel_rfl⟩
instance : ZeV Try.prog 20 .nilIface := ⟨by kernel_rfl⟩
instance : Scl Try.prog 21 := ⟨by kernel_rfl⟩
instance : ZeT Try.prog 21 (.int .i32 0) := ⟨by kernel_rfl⟩
instance : One Try.prog 21 := ⟨by kernel_rfl⟩
instance : ZeV Try.prog 21 (.int .i32 0) := ⟨by kernel_rfl⟩
instance : Scl Try.prog 22 := ⟨by kernel_rfl⟩
instance : ZeT Try.prog 22 (.slice none 0 0) := ⟨by kernel_rfl⟩
instance : One Try.prog 22 := ⟨by kernel_rfl⟩
instance : SlT Try.prog 22 93 3 24 (.agg #[(.int .i64 0), (.int .i64 0), (.int .i64 0)]) := ⟨by kernel_rfl⟩
instance : ZeV Try.prog 22 (.slice none 0 0) := ⟨by kernel_rfl⟩
instance : Agg Try.prog 23 1 := ⟨by kernel_rfl, by kernel_rfl⟩
instance : ZeT Try.prog 23 (.agg #[(.slice none 0 0)]) := ⟨by kernel_rfl⟩
instance : StT Try.prog 23 [(.slice none 0 0)] [(0, 1)] := ⟨by kernel_rfl⟩
instance : One Try.prog 23 := ⟨by kernel_rfl⟩
instance : Fld Try.prog 23 0 0 22 := ⟨by kernel_rfl⟩
instance : ZeV Try.prog 23 (.agg #[(.slice none 0 0)]) := ⟨by kernel_rfl⟩
instance : Agg Try.prog 24 1 := ⟨by kernel_rfl, by kernel_rfl⟩
instance : ZeT Try.prog 24 (.agg #[(.slice none 0 0)]) := ⟨by kernel_rfl⟩
instance : StT Try.prog 24 [(.slice none 0 0)] [(0, 1)] := ⟨by kernel_rfl⟩
instance : One Try.prog 24 := ⟨by kernel_rfl⟩
instance : Fld Try.prog 24 0 0 22 := ⟨by kernel_rfl⟩
instance : ZeV Try.prog 24 (.agg #[(.slice none 0 0)]) := ⟨by kernel_rfl⟩
instance : Scl Try.prog 25 := ⟨by kernel_rfl⟩
instance : ZeT Try.prog 25 (.slice none 0 0) := ⟨by kernel_rfl⟩
instance : One Try.prog 25 := ⟨by kernel_rfl⟩
instance : SlT Try.prog 25 28 1 24 (.slice none 0 0) := ⟨by kernel_rfl⟩
instance : ZeV Try.prog 25 (.slice none 0 0) := ⟨by kernel_rfl⟩
instance : Agg Try.prog 26 2 := ⟨by kernel_rfl, by kernel_rfl⟩
instance : ZeT Try.prog 26 (.agg #[(.slice none 0 0), (.slice none 0 0)]) := ⟨by kernel_rfl⟩
instance : StT Try.prog 26 [(.slice none 0 0), (.slice none 0 0)] [(0, 1), (1, 1)] := ⟨by kernel_rfl⟩
instance : Fld Try.prog 26 0 0 24 := ⟨by kernel_rfl⟩
instance : Fld Try.prog 26 1 1 25 := ⟨by kernel_rfl⟩
instance : ZeV Try.prog 26 (.agg #[(.slice none 0 0), (.slice none 0 0)]) := ⟨by kernel_rfl⟩
instance : Agg Try.prog 27 2 := ⟨by kernel_rfl, by kernel_rfl⟩
instance : ZeT Try.prog 27 (.agg #[(.slice none 0 0), (.slice none 0 0)]) := ⟨by kernel_rfl⟩
instance : StT Try.prog 27 [(.slice none 0 0), (.slice none 0 0)] [(0, 1), (1, 1)] := ⟨by kernel_rfl⟩
instance : Fld Try.prog 27 0 0 24 := ⟨by kernel_rfl⟩
instance : Fld Try.prog 27 1 1 25 := ⟨by kernel_rfl⟩
instance : ZeV Try.prog 27 (.agg #[(.slice none 0 0), (.slice none 0 0)]) := ⟨by kernel_rfl⟩
instance : Scl Try.prog 28 := ⟨by kernel_rfl⟩
instance : ZeT Try.prog 28 (.slice none 0 0) := ⟨by kernel_rfl⟩
instance : One Try.prog 28 := ⟨by kernel_rfl⟩
instance : SlT Try.prog 28 3 1 8 (.int .i64 0) := ⟨by kernel_rfl⟩
instance : ZeV Try.prog 28 (.slice none 0 0) := ⟨by kernel_rfl⟩
instance : Scl Try.prog 31 := ⟨by kernel_rfl⟩
instance : ZeT Try.prog 31 (.int .i64 0) := ⟨by kernel_rfl⟩
instance : One Try.prog 31 := ⟨by kernel_rfl⟩
instance : KeyIs Try.prog 31 intK := ⟨by kernel_rfl⟩
instance : ZeV Try.prog 31 (.int .i64 0) := ⟨by kernel_rfl⟩
instance : Scl Try.prog 56 := ⟨by kernel_rfl⟩
instance : ZeT Try.prog 56 (.slice none 0 0) := ⟨by kernel_rfl⟩
instance : One Try.prog 56 := ⟨by kernel_rfl⟩
instance : SlT Try.prog 56 61 2 16 (.agg #[(.int .i64 0), (.int .i64 0)]) := ⟨by kernel_rfl⟩
instance : ZeV Try.prog 56 (.slice none 0 0) := ⟨by kernel_rfl⟩
instance : Agg Try.prog 61 2 := ⟨by kernel_rfl, by kernel_rfl⟩
instance : ZeT Try.prog 61 (.agg #[(.int .i64 0), (.int .i64 0)]) := ⟨by kernel_rfl⟩
instance : StT Try.prog 61 [(.int .i64 0), (.int .i64 0)] [(0, 1), (1, 1)] := ⟨by kernel_rfl⟩
instance : ZeV Try.prog 61 (.agg #[(.int .i64 0), (.int .i64 0)]) := ⟨by kernel_rfl⟩
instance : ArT Try.prog 61 2 3 1 := ⟨by kernel_rfl⟩
instance : Agg Try.prog 63 6 := ⟨by kernel_rfl, by kernel_rfl⟩
instance : ZeT Try.prog 63 (.agg #[(.string ByteArray.empty), (.string ByteArray.empty), (.slice none 0 0), (.slice none 0 0), (.slice none 0 0), (.int .i64 0)]) := ⟨by kernel_rfl⟩
instance : StT Try.prog 63 [(.string ByteArray.empty), (.string ByteArray.empty), (.slice none 0 0), (.slice none 0 0), (.slice none 0 0), (.int .i64 0)] [(0, 1), (1, 1), (2, 1), (3, 1), (4, 1), (5, 1)] := ⟨by kernel_rfl⟩
instance : Fld Try.prog 63 0 0 9 := ⟨by kernel_rfl⟩
instance : Fld Try.prog 63 1 1 9 := ⟨by kernel_rfl⟩
instance : Fld Try.prog 63 2 2 28 := ⟨by kernel_rfl⟩
instance : Fld Try.prog 63 3 3 28 := ⟨by kernel_rfl⟩
instance : Fld Try.prog 63 4 4 28 := ⟨by kernel_rfl⟩
instance : Fld Try.prog 63 5 5 3 := ⟨by kernel_rfl⟩
instance : ZeV Try.prog 63 (.agg #[(.string ByteArray.empty), (.string ByteArray.empty), (.slice none 0 0), (.slice none 0 0), (.slice none 0 0), (.int .i64 0)]) := ⟨by kernel_rfl⟩
instance : Agg Try.prog 64 6 := ⟨by kernel_rfl, by kernel_rfl⟩
instance : ZeT Try.prog 64 (.agg #[(.string ByteArray.empty), (.string ByteArray.empty), (.slice none 0 0), (.slice none 0 0), (.slice none 0 0), (.int .i64 0)]) := ⟨by kernel_rfl⟩
instance : StT Try.prog 64 [(.string ByteArray.empty), (.string ByteArray.empty), (.slice none 0 0), (.slice none 0 0), (.slice none 0 0), (.int .i64 0)] [(0, 1), (1, 1), (2, 1), (3, 1), (4, 1), (5, 1)] := ⟨by kernel_rfl⟩
instance : Fld Try.prog 64 0 0 9 := ⟨by kernel_rfl⟩
instance : Fld Try.prog 64 1 1 9 := ⟨by kernel_rfl⟩
instance : Fld Try.prog 64 2 2 28 := ⟨by kernel_rfl⟩
instance : Fld Try.prog 64 3 3 28 := ⟨by kernel_rfl⟩
instance : Fld Try.prog 64 4 4 28 := ⟨by kernel_rfl⟩
instance : Fld Try.prog 64 5 5 3 := ⟨by kernel_rfl⟩
instance : ZeV Try.prog 64 (.agg #[(.string ByteArray.empty), (.string ByteArray.empty), (.slice none 0 0), (.slice none 0 0), (.slice none 0 0), (.int .i64 0)]) := ⟨by kernel_rfl⟩
instance : Agg Try.prog 92 3 := ⟨by kernel_rfl, by kernel_rfl⟩
instance : ZeT Try.prog 92 (.agg #[(.int .i64 0), (.int .i64 0), (.int .i64 0)]) := ⟨by kernel_rfl⟩
instance : StT Try.prog 92 [(.int .i64 0), (.int .i64 0), (.int .i64 0)] [(0, 1), (1, 1), (2, 1)] := ⟨by kernel_rfl⟩
instance : Fld Try.prog 92 0 0 3 := ⟨by kernel_rfl⟩
instance : Fld Try.prog 92 1 1 3 := ⟨by kernel_rfl⟩
instance : Fld Try.prog 92 2 2 3 := ⟨by kernel_rfl⟩
instance : ZeV Try.prog 92 (.agg #[(.int .i64 0), (.int .i64 0), (.int .i64 0)]) := ⟨by kernel_rfl⟩
instance : Agg Try.prog 93 3 := ⟨by kernel_rfl, by kernel_rfl⟩
instance : ZeT Try.prog 93 (.agg #[(.int .i64 0), (.int .i64 0), (.int .i64 0)]) := ⟨by kernel_rfl⟩
instance : StT Try.prog 93 [(.int .i64 0), (.int .i64 0), (.int .i64 0)] [(0, 1), (1, 1), (2, 1)] := ⟨by kernel_rfl⟩
instance : Fld Try.prog 93 0 0 3 := ⟨by kernel_rfl⟩
instance : Fld Try.prog 93 1 1 3 := ⟨by kernel_rfl⟩
instance : Fld Try.prog 93 2 2 3 := ⟨by kernel_rfl⟩
instance : ZeV Try.prog 93 (.agg #[(.int .i64 0), (.int .i64 0), (.int .i64 0)]) := ⟨by kernel_rfl⟩
instance : Scl Try.prog 106 := ⟨by kernel_rfl⟩
instance : ZeT Try.prog 106 (.slice none 0 0) := ⟨by kernel_rfl⟩
instance : One Try.prog 106 := ⟨by kernel_rfl⟩
instance : SlT Try.prog 106 113 2 32 (.agg #[(.int .i64 0), (.slice none 0 0)]) := ⟨by kernel_rfl⟩
instance : ZeV Try.prog 106 (.slice none 0 0) := ⟨by kernel_rfl⟩
instance : Agg Try.prog 112 2 := ⟨by kernel_rfl, by kernel_rfl⟩
instance : ZeT Try.prog 112 (.agg #[(.int .i64 0), (.slice none 0 0)]) := ⟨by kernel_rfl⟩
instance : StT Try.prog 112 [(.int .i64 0), (.slice none 0 0)] [(0, 1), (1, 1)] := ⟨by kernel_rfl⟩
instance : Fld Try.prog 112 0 0 3 := ⟨by kernel_rfl⟩
instance : Fld Try.prog 112 1 1 28 := ⟨by kernel_rfl⟩
instance : ZeV Try.prog 112 (.agg #[(.int .i64 0), (.slice none 0 0)]) := ⟨by kernel_rfl⟩
instance : Agg Try.prog 113 2 := ⟨by kernel_rfl, by kernel_rfl⟩
instance : ZeT Try.prog 113 (.agg #[(.int .i64 0), (.slice none 0 0)]) := ⟨by kernel_rfl⟩
instance : StT Try.prog 113 [(.int .i64 0), (.slice none 0 0)] [(0, 1), (1, 1)] := ⟨by kernel_rfl⟩
instance : Fld Try.prog 113 0 0 3 := ⟨by kernel_rfl⟩
instance : Fld Try.prog 113 1 1 28 := ⟨by kernel_rfl⟩
instance : ZeV Try.prog 113 (.agg #[(.int .i64 0), (.slice none 0 0)]) := ⟨by kernel_rfl⟩
instance : Scl Try.prog 122 := ⟨by kernel_rfl⟩
instance : ZeT Try.prog 122 (.slice none 0 0) := ⟨by kernel_rfl⟩
instance : One Try.prog 122 := ⟨by kernel_rfl⟩
instance : SlT Try.prog 122 9 1 16 (.string ByteArray.empty) := ⟨by kernel_rfl⟩
instance : ZeV Try.prog 122 (.slice none 0 0) := ⟨by kernel_rfl⟩
instance : Agg Try.prog 141 3 := ⟨by kernel_rfl, by kernel_rfl⟩
instance : ZeT Try.prog 141 (.agg #[(.int .i64 0), (.int .i64 0), (.int .i64 0)]) := ⟨by kernel_rfl⟩
instance : StT Try.prog 141 [(.int .i64 0), (.int .i64 0), (.int .i64 0)] [(0, 1), (1, 1), (2, 1)] := ⟨by kernel_rfl⟩
instance : Fld Try.prog 141 0 0 3 := ⟨by kernel_rfl⟩
instance : Fld Try.prog 141 1 1 3 := ⟨by kernel_rfl⟩
instance : Fld Try.prog 141 2 2 3 := ⟨by kernel_rfl⟩
instance : ZeV Try.prog 141 (.agg #[(.int .i64 0), (.int .i64 0), (.int .i64 0)]) := ⟨by kernel_rfl⟩
instance : Agg Try.prog 142 3 := ⟨by kernel_rfl, by kernel_rfl⟩
instance : ZeT Try.prog 142 (.agg #[(.int .i64 0), (.int .i64 0), (.int .i64 0)]) := ⟨by kernel_rfl⟩
instance : StT Try.prog 142 [(.int .i64 0), (.int .i64 0), (.int .i64 0)] [(0, 1), (1, 1), (2, 1)] := ⟨by kernel_rfl⟩
instance : Fld Try.prog 142 0 0 3 := ⟨by kernel_rfl⟩
instance : Fld Try.prog 142 1 1 3 := ⟨by kernel_rfl⟩
instance : Fld Try.prog 142 2 2 3 := ⟨by kernel_rfl⟩
instance : ZeV Try.prog 142 (.agg #[(.int .i64 0), (.int .i64 0), (.int .i64 0)]) := ⟨by kernel_rfl⟩
instance : Scl Try.prog 144 := ⟨by kernel_rfl⟩
instance : ZeT Try.prog 144 (.slice none 0 0) := ⟨by kernel_rfl⟩
instance : One Try.prog 144 := ⟨by kernel_rfl⟩
instance : SlT Try.prog 144 4 1 1 (.bool false) := ⟨by kernel_rfl⟩
instance : ZeV Try.prog 144 (.slice none 0 0) := ⟨by kernel_rfl⟩
instance : Scl Try.prog 149 := ⟨by kernel_rfl⟩
instance : ZeT Try.prog 149 (.slice none 0 0) := ⟨by kernel_rfl⟩
instance : One Try.prog 149 := ⟨by kernel_rfl⟩
instance : SlT Try.prog 149 25 1 24 (.slice none 0 0) := ⟨by kernel_rfl⟩
instance : ZeV Try.prog 149 (.slice none 0 0) := ⟨by kernel_rfl⟩
instance : Scl Try.prog 154 := ⟨by kernel_rfl⟩
instance : ZeT Try.prog 154 (.int .u64 0) := ⟨by kernel_rfl⟩
instance : One Try.prog 154 := ⟨by kernel_rfl⟩
instance : ZeV Try.prog 154 (.int .u64 0) := ⟨by kernel_rfl⟩
instance : Scl Try.prog 156 := ⟨by kernel_rfl⟩
instance : ZeT Try.prog 156 (.slice none 0 0) := ⟨by kernel_rfl⟩
instance : One Try.prog 156 := ⟨by kernel_rfl⟩
instance : SlT Try.prog 156 24 1 24 (.agg #[(.slice none 0 0)]) := ⟨by kernel_rfl⟩
instance : ZeV Try.prog 156 (.slice none 0 0) := ⟨by kernel_rfl⟩
instance : Agg Try.prog 159 3 := ⟨by kernel_rfl, by kernel_rfl⟩
instance : ZeT Try.prog 159 (.agg #[(.int .i64 0), (.int .i64 0), (.int .i64 0)]) := ⟨by kernel_rfl⟩
instance : StT Try.prog 159 [(.int .i64 0), (.int .i64 0), (.int .i64 0)] [(0, 1), (1, 1), (2, 1)] := ⟨by kernel_rfl⟩
instance : Fld Try.prog 159 0 0 3 := ⟨by kernel_rfl⟩
instance : Fld Try.prog 159 1 1 3 := ⟨by kernel_rfl⟩
instance : Fld Try.prog 159 2 2 3 := ⟨by kernel_rfl⟩
instance : ZeV Try.prog 159 (.agg #[(.int .i64 0), (.int .i64 0), (.int .i64 0)]) := ⟨by kernel_rfl⟩
instance : Agg Try.prog 160 3 := ⟨by kernel_rfl, by kernel_rfl⟩
instance : ZeT Try.prog 160 (.agg #[(.int .i64 0), (.int .i64 0), (.int .i64 0)]) := ⟨by kernel_rfl⟩
instance : StT Try.prog 160 [(.int .i64 0), (.int .i64 0), (.int .i64 0)] [(0, 1), (1, 1), (2, 1)] := ⟨by kernel_rfl⟩
instance : Fld Try.prog 160 0 0 3 := ⟨by kernel_rfl⟩
instance : Fld Try.prog 160 1 1 3 := ⟨by kernel_rfl⟩
instance : Fld Try.prog 160 2 2 3 := ⟨by kernel_rfl⟩
instance : ZeV Try.prog 160 (.agg #[(.int .i64 0), (.int .i64 0), (.int .i64 0)]) := ⟨by kernel_rfl⟩
instance : Scl Try.prog 168 := ⟨by kernel_rfl⟩
instance : ZeT Try.prog 168 (.int .i64 0) := ⟨by kernel_rfl⟩
instance : One Try.prog 168 := ⟨by kernel_rfl⟩
instance : KeyIs Try.prog 168 intK := ⟨by kernel_rfl⟩
instance : ZeV Try.prog 168 (.int .i64 0) := ⟨by kernel_rfl⟩
instance : Scl Try.prog 175 := ⟨by kernel_rfl⟩
instance : ZeT Try.prog 175 (.int .u32 0) := ⟨by kernel_rfl⟩
instance : One Try.prog 175 := ⟨by kernel_rfl⟩
instance : ZeV Try.prog 175 (.int .u32 0) := ⟨by kernel_rfl⟩
instance : Scl Try.prog 177 := ⟨by kernel_rfl⟩
instance : ZeT Try.prog 177 (.int .u64 0) := ⟨by kernel_rfl⟩
instance : One Try.prog 177 := ⟨by kernel_rfl⟩
instance : ZeV Try.prog 177 (.int .u64 0) := ⟨by kernel_rfl⟩
instance : Scl Try.prog 184 := ⟨by kernel_rfl⟩
instance : ZeT Try.prog 184 (.int .u64 0) := ⟨by kernel_rfl⟩
instance : One Try.prog 184 := ⟨by kernel_rfl⟩
instance : ZeV Try.prog 184 (.int .u64 0) := ⟨by kernel_rfl⟩
instance : Scl Try.prog 188 := ⟨by kernel_rfl⟩
instance : PtT Try.prog 188 := ⟨by kernel_rfl⟩
instance : ZeT Try.prog 188 (.pointer none) := ⟨by kernel_rfl⟩
instance : One Try.prog 188 := ⟨by kernel_rfl⟩
instance : ZeV Try.prog 188 (.pointer none) := ⟨by kernel_rfl⟩
instance : Scl Try.prog 190 := ⟨by kernel_rfl⟩
instance : PtT Try.prog 190 := ⟨by kernel_rfl⟩
instance : ZeT Try.prog 190 (.pointer none) := ⟨by kernel_rfl⟩
instance : One Try.prog 190 := ⟨by kernel_rfl⟩
instance : ZeV Try.prog 190 (.pointer none) := ⟨by kernel_rfl⟩
instance : Agg Try.prog 193 4 := ⟨by kernel_rfl, by kernel_rfl⟩
instance : ZeT Try.prog 193 (.agg #[(.pointer none), (.pointer none), (.pointer none), (.string ByteArray.empty)]) := ⟨by kernel_rfl⟩
instance : StT Try.prog 193 [(.pointer none), (.pointer none), (.pointer none), (.string ByteArray.empty)] [(0, 1), (1, 1), (2, 1), (3, 1)] := ⟨by kernel_rfl⟩
instance : Fld Try.prog 193 0 0 17 := ⟨by kernel_rfl⟩
instance : Fld Try.prog 193 1 1 17 := ⟨by kernel_rfl⟩
instance : Fld Try.prog 193 2 2 17 := ⟨by kernel_rfl⟩
instance : Fld Try.prog 193 3 3 9 := ⟨by kernel_rfl⟩
instance : ZeV Try.prog 193 (.agg #[(.pointer none), (.pointer none), (.pointer none), (.string ByteArray.empty)]) := ⟨by kernel_rfl⟩
instance : Agg Try.prog 194 4 := ⟨by kernel_rfl, by kernel_rfl⟩
instance : ZeT Try.prog 194 (.agg #[(.pointer none), (.pointer none), (.pointer none), (.string ByteArray.empty)]) := ⟨by kernel_rfl⟩
instance : StT Try.prog 194 [(.pointer none), (.pointer none), (.pointer none), (.string ByteArray.empty)] [(0, 1), (1, 1), (2, 1), (3, 1)] := ⟨by kernel_rfl⟩
instance : Fld Try.prog 194 0 0 17 := ⟨by kernel_rfl⟩
instance : Fld Try.prog 194 1 1 17 := ⟨by kernel_rfl⟩
instance : Fld Try.prog 194 2 2 17 := ⟨by kernel_rfl⟩
instance : Fld Try.prog 194 3 3 9 := ⟨by kernel_rfl⟩
instance : ZeV Try.prog 194 (.agg #[(.pointer none), (.pointer none), (.pointer none), (.string ByteArray.empty)]) := ⟨by kernel_rfl⟩
instance : Agg Try.prog 195 0 := ⟨by kernel_rfl, by kernel_rfl⟩
instance : ZeT Try.prog 195 (.agg #[]) := ⟨by kernel_rfl⟩
instance : StT Try.prog 195 [] [] := ⟨by kernel_rfl⟩
instance : ZeV Try.prog 195 (.agg #[]) := ⟨by kernel_rfl⟩
instance : ArT Try.prog 195 0 16 1 := ⟨by kernel_rfl⟩
instance : Agg Try.prog 196 0 := ⟨by kernel_rfl, by kernel_rfl⟩
instance : ZeT Try.prog 196 (.agg #[]) := ⟨by kernel_rfl⟩
instance : StT Try.prog 196 [] [(0, 0)] := ⟨by kernel_rfl⟩
instance : ZeV Try.prog 196 (.agg #[]) := ⟨by kernel_rfl⟩
instance : Agg Try.prog 197 0 := ⟨by kernel_rfl, by kernel_rfl⟩
instance : ZeT Try.prog 197 (.agg #[]) := ⟨by kernel_rfl⟩
instance : StT Try.prog 197 [] [(0, 0)] := ⟨by kernel_rfl⟩
instance : ZeV Try.prog 197 (.agg #[]) := ⟨by kernel_rfl⟩
instance : Scl Try.prog 198 := ⟨by kernel_rfl⟩
instance : ZeT Try.prog 198 (.int .u8 0) := ⟨by kernel_rfl⟩
instance : One Try.prog 198 := ⟨by kernel_rfl⟩
instance : ZeV Try.prog 198 (.int .u8 0) := ⟨by kernel_rfl⟩
instance : Scl Try.prog 199 := ⟨by kernel_rfl⟩
instance : ZeT Try.prog 199 (.int .u8 0) := ⟨by kernel_rfl⟩
instance : One Try.prog 199 := ⟨by kernel_rfl⟩
instance : ZeV Try.prog 199 (.int .u8 0) := ⟨by kernel_rfl⟩
instance : Scl Try.prog 201 := ⟨by kernel_rfl⟩
instance : PtT Try.prog 201 := ⟨by kernel_rfl⟩
instance : ZeT Try.prog 201 (.pointer none) := ⟨by kernel_rfl⟩
instance : One Try.prog 201 := ⟨by kernel_rfl⟩
instance : ZeV Try.prog 201 (.pointer none) := ⟨by kernel_rfl⟩
instance : Scl Try.prog 202 := ⟨by kernel_rfl⟩
instance : ZeT Try.prog 202 (.int .i32 0) := ⟨by kernel_rfl⟩
instance : One Try.prog 202 := ⟨by kernel_rfl⟩
instance : ZeV Try.prog 202 (.int .i32 0) := ⟨by kernel_rfl⟩
instance : Scl Try.prog 203 := ⟨by kernel_rfl⟩
instance : ZeT Try.prog 203 (.int .i32 0) := ⟨by kernel_rfl⟩
instance : One Try.prog 203 := ⟨by kernel_rfl⟩
instance : ZeV Try.prog 203 (.int .i32 0) := ⟨by kernel_rfl⟩
instance : Agg Try.prog 204 11 := ⟨by kernel_rfl, by kernel_rfl⟩
instance : ZeT Try.prog 204 (.agg #[(.int .u64 0), (.int .u64 0), (.int .u32 0), (.int .u8 0), (.int .u8 0), (.int .u8 0), (.int .u8 0), .nilFunc, (.pointer none), (.int .i32 0), (.int .i32 0)]) := ⟨by kernel_rfl⟩
instance : StT Try.prog 204 [(.int .u64 0), (.int .u64 0), (.int .u32 0), (.int .u8 0), (.int .u8 0), (.int .u8 0), (.int .u8 0), .nilFunc, (.pointer none), (.int .i32 0), (.int .i32 0)] [(0, 1), (1, 1), (2, 1), (3, 1), (4, 1), (5, 1), (6, 1), (7, 1), (8, 1), (9, 1), (10, 1)] := ⟨by kernel_rfl⟩
instance : Fld Try.prog 204 0 0 12 := ⟨by kernel_rfl⟩
instance : Fld Try.prog 204 1 1 12 := ⟨by kernel_rfl⟩
instance : Fld Try.prog 204 2 2 175 := ⟨by kernel_rfl⟩
instance : Fld Try.prog 204 3 3 198 := ⟨by kernel_rfl⟩
instance : Fld Try.prog 204 4 4 5 := ⟨by kernel_rfl⟩
instance : Fld Try.prog 204 5 5 5 := ⟨by kernel_rfl⟩
instance : Fld Try.prog 204 6 6 199 := ⟨by kernel_rfl⟩
instance : Fld Try.prog 204 7 7 200 := ⟨by kernel_rfl⟩
instance : Fld Try.prog 204 8 8 201 := ⟨by kernel_rfl⟩
instance : Fld Try.prog 204 9 9 202 := ⟨by kernel_rfl⟩
instance : Fld Try.prog 204 10 10 203 := ⟨by kernel_rfl⟩
instance : ZeV Try.prog 204 (.agg #[(.int .u64 0), (.int .u64 0), (.int .u32 0), (.int .u8 0), (.int .u8 0), (.int .u8 0), (.int .u8 0), .nilFunc, (.pointer none), (.int .i32 0), (.int .i32 0)]) := ⟨by kernel_rfl⟩
instance : Agg Try.prog 205 11 := ⟨by kernel_rfl, by kernel_rfl⟩
instance : ZeT Try.prog 205 (.agg #[(.int .u64 0), (.int .u64 0), (.int .u32 0), (.int .u8 0), (.int .u8 0), (.int .u8 0), (.int .u8 0), .nilFunc, (.pointer none), (.int .i32 0), (.int .i32 0)]) := ⟨by kernel_rfl⟩
instance : StT Try.prog 205 [(.int .u64 0), (.int .u64 0), (.int .u32 0), (.int .u8 0), (.int .u8 0), (.int .u8 0), (.int .u8 0), .nilFunc, (.pointer none), (.int .i32 0), (.int .i32 0)] [(0, 1), (1, 1), (2, 1), (3, 1), (4, 1), (5, 1), (6, 1), (7, 1), (8, 1), (9, 1), (10, 1)] := ⟨by kernel_rfl⟩
instance : Fld Try.prog 205 0 0 12 := ⟨by kernel_rfl⟩
instance : Fld Try.prog 205 1 1 12 := ⟨by kernel_rfl⟩
instance : Fld Try.prog 205 2 2 175 := ⟨by kernel_rfl⟩
instance : Fld Try.prog 205 3 3 198 := ⟨by kernel_rfl⟩
instance : Fld Try.prog 205 4 4 5 := ⟨by kernel_rfl⟩
instance : Fld Try.prog 205 5 5 5 := ⟨by kernel_rfl⟩
instance : Fld Try.prog 205 6 6 199 := ⟨by kernel_rfl⟩
instance : Fld Try.prog 205 7 7 200 := ⟨by kernel_rfl⟩
instance : Fld Try.prog 205 8 8 201 := ⟨by kernel_rfl⟩
instance : Fld Try.prog 205 9 9 202 := ⟨by kernel_rfl⟩
instance : Fld Try.prog 205 10 10 203 := ⟨by kernel_rfl⟩
instance : ZeV Try.prog 205 (.agg #[(.int .u64 0), (.int .u64 0), (.int .u32 0), (.int .u8 0), (.int .u8 0), (.int .u8 0), (.int .u8 0), .nilFunc, (.pointer none), (.int .i32 0), (.int .i32 0)]) := ⟨by kernel_rfl⟩
instance : Body Try.prog 2 := ⟨by kernel_rfl⟩
instance : Body Try.prog 3 := ⟨by kernel_rfl⟩
instance : Body Try.prog 4 := ⟨by kernel_rfl⟩
instance : Body Try.prog 5 := ⟨by kernel_rfl⟩
instance : Body Try.prog 6 := ⟨by kernel_rfl⟩
instance : Body Try.prog 7 := ⟨by kernel_rfl⟩
instance : Body Try.prog 8 := ⟨by kernel_rfl⟩
instance : Body Try.prog 9 := ⟨by kernel_rfl⟩
instance : Body Try.prog 10 := ⟨by kernel_rfl⟩
instance : Body Try.prog 11 := ⟨by kernel_rfl⟩
instance : Body Try.prog 12 := ⟨by kernel_rfl⟩
instance : Body Try.prog 13 := ⟨by kernel_rfl⟩
instance : Body Try.prog 14 := ⟨by kernel_rfl⟩
instance : Body Try.prog 15 := ⟨by kernel_rfl⟩
instance : Body Try.prog 16 := ⟨by kernel_rfl⟩
instance : Body Try.prog 17 := ⟨by kernel_rfl⟩
instance : Body Try.prog 18 := ⟨by kernel_rfl⟩
instance : Body Try.prog 19 := ⟨by kernel_rfl⟩
instance : Body Try.prog 20 := ⟨by kernel_rfl⟩
instance : Body Try.prog 21 := ⟨by kernel_rfl⟩
instance : Body Try.prog 22 := ⟨by kernel_rfl⟩
instance : Body Try.prog 23 := ⟨by kernel_rfl⟩
instance : Body Try.prog 24 := ⟨by kernel_rfl⟩
instance : Body Try.prog 25 := ⟨by kernel_rfl⟩
instance : Body Try.prog 26 := ⟨by kernel_rfl⟩
instance : Body Try.prog 27 := ⟨by kernel_rfl⟩
instance : Body Try.prog 28 := ⟨by kernel_rfl⟩
instance : Body Try.prog 29 := ⟨by kernel_rfl⟩
instance : Body Try.prog 30 := ⟨by kernel_rfl⟩
instance : Body Try.prog 31 := ⟨by kernel_rfl⟩
instance : Body Try.prog 32 := ⟨by kernel_rfl⟩
instance : Body Try.prog 33 := ⟨by kernel_rfl⟩
instance : Body Try.prog 34 := ⟨by kernel_rfl⟩
instance : Body Try.prog 35 := ⟨by kernel_rfl⟩
instance : Body Try.prog 36 := ⟨by kernel_rfl⟩
instance : Body Try.prog 37 := ⟨by kernel_rfl⟩
instance : Body Try.prog 38 := ⟨by kernel_rfl⟩
instance : Body Try.prog 39 := ⟨by kernel_rfl⟩
instance : Body Try.prog 40 := ⟨by kernel_rfl⟩
instance : Body Try.prog 41 := ⟨by kernel_rfl⟩
instance : Body Try.prog 42 := ⟨by kernel_rfl⟩
instance : Body Try.prog 43 := ⟨by kernel_rfl⟩
instance : Body Try.prog 44 := ⟨by kernel_rfl⟩
instance : Body Try.prog 45 := ⟨by kernel_rfl⟩
instance : Body Try.prog 46 := ⟨by kernel_rfl⟩
instance : Body Try.prog 47 := ⟨by kernel_rfl⟩
instance : Body Try.prog 48 := ⟨by kernel_rfl⟩
instance : Body Try.prog 49 := ⟨by kernel_rfl⟩
instance : Body Try.prog 50 := ⟨by kernel_rfl⟩
instance : Body Try.prog 51 := ⟨by kernel_rfl⟩
instance : Body Try.prog 52 := ⟨by kernel_rfl⟩
instance : Body Try.prog 53 := ⟨by kernel_rfl⟩
instance : Body Try.prog 54 := ⟨by kernel_rfl⟩
instance : Body Try.prog 55 := ⟨by kernel_rfl⟩
instance : Body Try.prog 56 := ⟨by kernel_rfl⟩
instance : Body Try.prog 57 := ⟨by kernel_rfl⟩
instance : Body Try.prog 58 := ⟨by kernel_rfl⟩
instance : Body Try.prog 59 := ⟨by kernel_rfl⟩
instance : Body Try.prog 60 := ⟨by kernel_rfl⟩
instance : Body Try.prog 61 := ⟨by kernel_rfl⟩
instance : Body Try.prog 62 := ⟨by kernel_rfl⟩
instance : Body Try.prog 63 := ⟨by kernel_rfl⟩
instance : Body Try.prog 64 := ⟨by kernel_rfl⟩
instance : Body Try.prog 65 := ⟨by kernel_rfl⟩
instance : Body Try.prog 66 := ⟨by kernel_rfl⟩
instance : Body Try.prog 67 := ⟨by kernel_rfl⟩
instance : Body Try.prog 68 := ⟨by kernel_rfl⟩
instance : Body Try.prog 69 := ⟨by kernel_rfl⟩
instance : Body Try.prog 70 := ⟨by kernel_rfl⟩
instance : Body Try.prog 71 := ⟨by kernel_rfl⟩
instance : Body Try.prog 72 := ⟨by kernel_rfl⟩
instance : Body Try.prog 73 := ⟨by kernel_rfl⟩
instance : Body Try.prog 74 := ⟨by kernel_rfl⟩
instance : Body Try.prog 75 := ⟨by kernel_rfl⟩
instance : Body Try.prog 76 := ⟨by kernel_rfl⟩
instance : Body Try.prog 77 := ⟨by kernel_rfl⟩
instance : Body Try.prog 78 := ⟨by kernel_rfl⟩
instance : Body Try.prog 79 := ⟨by kernel_rfl⟩
instance : Body Try.prog 80 := ⟨by kernel_rfl⟩
instance : Body Try.prog 81 := ⟨by kernel_rfl⟩
instance : Body Try.prog 82 := ⟨by kernel_rfl⟩
instance : Body Try.prog 83 := ⟨by kernel_rfl⟩
instance : Body Try.prog 84 := ⟨by kernel_rfl⟩
instance : Body Try.prog 85 := ⟨by kernel_rfl⟩
instance : Body Try.prog 86 := ⟨by kernel_rfl⟩
instance : Body Try.prog 87 := ⟨by kernel_rfl⟩
instance : Body Try.prog 88 := ⟨by kernel_rfl⟩
instance : Body Try.prog 89 := ⟨by kernel_rfl⟩
instance : Body Try.prog 90 := ⟨by kernel_rfl⟩
instance : Body Try.prog 91 := ⟨by kernel_rfl⟩
instance : Body Try.prog 92 := ⟨by kernel_rfl⟩
instance : Body Try.prog 93 := ⟨by kernel_rfl⟩
instance : Body Try.prog 94 := ⟨by kernel_rfl⟩
instance : Body Try.prog 95 := ⟨by kernel_rfl⟩
instance : Body Try.prog 96 := ⟨by kernel_rfl⟩
instance : Body Try.prog 97 := ⟨by kernel_rfl⟩
instance : Body Try.prog 98 := ⟨by kernel_rfl⟩
instance : Body Try.prog 99 := ⟨by kernel_rfl⟩
instance : Body Try.prog 100 := ⟨by kernel_rfl⟩
instance : Body Try.prog 101 := ⟨by kernel_rfl⟩
instance : Body Try.prog 102 := ⟨by kernel_rfl⟩
instance : Body Try.prog 103 := ⟨by kernel_rfl⟩
instance : Body Try.prog 104 := ⟨by kernel_rfl⟩
instance : Body Try.prog 105 := ⟨by kernel_rfl⟩
instance : Body Try.prog 106 := ⟨by kernel_rfl⟩
instance : Body Try.prog 107 := ⟨by kernel_rfl⟩
instance : Body Try.prog 108 := ⟨by kernel_rfl⟩
instance : Body Try.prog 109 := ⟨by kernel_rfl⟩
instance : Body Try.prog 110 := ⟨by kernel_rfl⟩
instance : Body Try.prog 111 := ⟨by kernel_rfl⟩
instance : Body Try.prog 112 := ⟨by kernel_rfl⟩
instance : Body Try.prog 113 := ⟨by kernel_rfl⟩
instance : Body Try.prog 114 := ⟨by kernel_rfl⟩
instance : Body Try.prog 115 := ⟨by kernel_rfl⟩
instance : Body Try.prog 116 := ⟨by kernel_rfl⟩
instance : Body Try.prog 117 := ⟨by kernel_rfl⟩
instance : Body Try.prog 118 := ⟨by kernel_rfl⟩
instance : Body Try.prog 119 := ⟨by kernel_rfl⟩
instance : Body Try.prog 120 := ⟨by kernel_rfl⟩
instance : Body Try.prog 121 := ⟨by kernel_rfl⟩
instance : Body Try.prog 122 := ⟨by kernel_rfl⟩
instance : Body Try.prog 123 := ⟨by kernel_rfl⟩
instance : Body Try.prog 124 := ⟨by kernel_rfl⟩
instance : Body Try.prog 125 := ⟨by kernel_rfl⟩
instance : Body Try.prog 126 := ⟨by kernel_rfl⟩
instance : Body Try.prog 127 := ⟨by kernel_rfl⟩
instance : Body Try.prog 128 := ⟨by kernel_rfl⟩
instance : Body Try.prog 129 := ⟨by kernel_rfl⟩
instance : Body Try.prog 130 := ⟨by kernel_rfl⟩
instance : Body Try.prog 131 := ⟨by kernel_rfl⟩
instance : Body Try.prog 132 := ⟨by kernel_rfl⟩
instance : Body Try.prog 133 := ⟨by kernel_rfl⟩
instance : Body Try.prog 134 := ⟨by kernel_rfl⟩
instance : Body Try.prog 135 := ⟨by kernel_rfl⟩
instance : Body Try.prog 136 := ⟨by kernel_rfl⟩
instance : Body Try.prog 137 := ⟨by kernel_rfl⟩
instance : Body Try.prog 138 := ⟨by kernel_rfl⟩
instance : Body Try.prog 139 := ⟨by kernel_rfl⟩
instance : Body Try.prog 140 := ⟨by kernel_rfl⟩
instance : Body Try.prog 141 := ⟨by kernel_rfl⟩
instance : Body Try.prog 142 := ⟨by kernel_rfl⟩
instance : Body Try.prog 143 := ⟨by kernel_rfl⟩
instance : Body Try.prog 144 := ⟨by kernel_rfl⟩
instance : Body Try.prog 145 := ⟨by kernel_rfl⟩
instance : Body Try.prog 146 := ⟨by kernel_rfl⟩
instance : Body Try.prog 147 := ⟨by kernel_rfl⟩
instance : Body Try.prog 148 := ⟨by kernel_rfl⟩
instance : Body Try.prog 149 := ⟨by kernel_rfl⟩
instance : Body Try.prog 150 := ⟨by kernel_rfl⟩
instance : Body Try.prog 151 := ⟨by kernel_rfl⟩
instance : Body Try.prog 152 := ⟨by kernel_rfl⟩
instance : Body Try.prog 153 := ⟨by kernel_rfl⟩
instance : Body Try.prog 154 := ⟨by kernel_rfl⟩
instance : Body Try.prog 155 := ⟨by kernel_rfl⟩
instance : Body Try.prog 156 := ⟨by kernel_rfl⟩
instance : Body Try.prog 157 := ⟨by kernel_rfl⟩
instance : Body Try.prog 158 := ⟨by kernel_rfl⟩
instance : Body Try.prog 159 := ⟨by kernel_rfl⟩
instance : Body Try.prog 160 := ⟨by kernel_rfl⟩
instance : Body Try.prog 161 := ⟨by kernel_rfl⟩
instance : Body Try.prog 162 := ⟨by kernel_rfl⟩
instance : Body Try.prog 163 := ⟨by kernel_rfl⟩
instance : Body Try.prog 164 := ⟨by kernel_rfl⟩
instance : Body Try.prog 165 := ⟨by kernel_rfl⟩
instance : Body Try.prog 166 := ⟨by kernel_rfl⟩
instance : Body Try.prog 167 := ⟨by kernel_rfl⟩
instance : Body Try.prog 168 := ⟨by kernel_rfl⟩
instance : Body Try.prog 169 := ⟨by kernel_rfl⟩
instance : Body Try.prog 170 := ⟨by kernel_rfl⟩
instance : Body Try.prog 171 := ⟨by kernel_rfl⟩
instance : Body Try.prog 172 := ⟨by kernel_rfl⟩
instance : Body Try.prog 173 := ⟨by kernel_rfl⟩
instance : Body Try.prog 174 := ⟨by kernel_rfl⟩
instance : Body Try.prog 175 := ⟨by kernel_rfl⟩
instance : Body Try.prog 176 := ⟨by kernel_rfl⟩
instance : Body Try.prog 177 := ⟨by kernel_rfl⟩
instance : Body Try.prog 178 := ⟨by kernel_rfl⟩
instance : Body Try.prog 179 := ⟨by kernel_rfl⟩
instance : Body Try.prog 180 := ⟨by kernel_rfl⟩
instance : Body Try.prog 181 := ⟨by kernel_rfl⟩
instance : Body Try.prog 182 := ⟨by kernel_rfl⟩
instance : Body Try.prog 183 := ⟨by kernel_rfl⟩
instance : Body Try.prog 184 := ⟨by kernel_rfl⟩
instance : Body Try.prog 185 := ⟨by kernel_rfl⟩
instance : Body Try.prog 186 := ⟨by kernel_rfl⟩
instance : Body Try.prog 187 := ⟨by kernel_rfl⟩
instance : Body Try.prog 188 := ⟨by kernel_rfl⟩
instance : Body Try.prog 189 := ⟨by kernel_rfl⟩
instance : Body Try.prog 190 := ⟨by kernel_rfl⟩
instance : Body Try.prog 191 := ⟨by kernel_rfl⟩
instance : Body Try.prog 192 := ⟨by kernel_rfl⟩
instance : Body Try.prog 193 := ⟨by kernel_rfl⟩
instance : Body Try.prog 194 := ⟨by kernel_rfl⟩
instance : Body Try.prog 195 := ⟨by kernel_rfl⟩
instance : Body Try.prog 196 := ⟨by kernel_rfl⟩
instance : Body Try.prog 197 := ⟨by kernel_rfl⟩
instance : Body Try.prog 198 := ⟨by kernel_rfl⟩
instance : Body Try.prog 199 := ⟨by kernel_rfl⟩
instance : Body Try.prog 200 := ⟨by kernel_rfl⟩
instance : Body Try.prog 201 := ⟨by kernel_rfl⟩
instance : Body Try.prog 202 := ⟨by kernel_rfl⟩
instance : Body Try.prog 203 := ⟨by kernel_rfl⟩
instance : Body Try.prog 204 := ⟨by kernel_rfl⟩
instance : Body Try.prog 205 := ⟨by kernel_rfl⟩
instance : Body Try.prog 206 := ⟨by kernel_rfl⟩
instance : Body Try.prog 207 := ⟨by kernel_rfl⟩
instance : Body Try.prog 208 := ⟨by kernel_rfl⟩
instance : Body Try.prog 209 := ⟨by kernel_rfl⟩
instance : Body Try.prog 210 := ⟨by kernel_rfl⟩
theorem Try.mixed : Try.prog.follows .mixedOrders = true := by kernel_rfl
end Go.Proofs.Ytnhippfllgnngaa

/- The text DPlain. -/
/-!
  Ranges and domains, plain: what their members are, and at which place one stands. No program in sight.
-/
set_option linter.unusedVariables false
set_option linter.unusedSimpArgs false
namespace Dm
structure Rg where
  lo : Int
  hi : Int
  st : Int
  deriving DecidableEq, Inhabited
def inB (n : Int) : Prop := -1000000 ≤ n ∧ n ≤ 1000000
instance (n : Int) : Decidable (inB n) := inferInstanceAs (Decidable (_ ∧ _))
def okR (r : Rg) : Prop := inB r.lo ∧ inB r.hi ∧ (-1000 ≤ r.st ∧ r.st ≤ 1000) ∧ r.st ≠ 0
instance (r : Rg) : Decidable (okR r) := inferInstanceAs (Decidable (_ ∧ _))
def fst (r : Rg) : Int := if r.st < 0 then r.hi else r.lo
def absI (z : Int) : Int := max z (-z)
def cntI (r : Rg) : Int := if r.lo ≤ r.hi then Int.tdiv (r.hi - r.lo) (absI r.st) + 1 else 0
def cnt (r : Rg) : Nat := (cntI r).toNat
def atR (r : Rg) (i : Int) : Int := fst r + i * r.st
def memR (r : Rg) : List Int := (List.range (cnt r)).map (fun (i : Nat) => atR r (i : Int))
def plR (r : Rg) (x : Int) : Option Nat :=
  if cnt r = 0 ∨ Int.tmod (x - fst r) r.st ≠ 0 then none
  else if 0 ≤ Int.tdiv (x - fst r) r.st ∧ Int.tdiv (x - fst r) r.st < cntI r then some (Int.tdiv (x - fst r) r.st).toNat else none
theorem abs_pos {r : Rg} (h : okR r) : 1 ≤ absI r.st ∧ absI r.st ≤ 1000 := by
  obtain ⟨_, _, h1, h2⟩ := h; unfold absI; omega
theorem cntI_nonneg {r : Rg} (h : okR r) : 0 ≤ cntI r ∧ cntI r ≤ 2000001 := by
  have h1 := abs_pos h
  obtain ⟨⟨a1, a2⟩, ⟨b1, b2⟩, _⟩ := h
  unfold cntI
  split
  · rename_i hl
    rw [Int.tdiv_eq_ediv_of_nonneg (by omega)]
    have h2 : 0 ≤ (r.hi - r.lo) / absI r.st := Int.ediv_nonneg (by omega) (by omega)
    have h3 : (r.hi - r.lo) / absI r.st ≤ r.hi - r.lo := Int.ediv_le_self _ (by omega)
    omega
  · omega
theorem cnt_eq {r : Rg} (h : okR r) : ((cnt r : Nat) : Int) = cntI r := by have := cntI_nonneg h; unfold cnt; omega
theorem cnt_le {r : Rg} (h : okR r) : cnt r ≤ 2000001 := by have := cntI_nonneg h; unfold cnt; omega
/-- A member lies within the range's ends. -/
theorem at_in {r : Rg} (h : okR r) {i : Int} (h0 : 0 ≤ i) (hi : i < cntI r) : r.lo ≤ atR r i ∧ atR r i ≤ r.hi := by
  have ha := abs_pos h
  have hc : r.lo ≤ r.hi := by
    by_cases hc : r.lo ≤ r.hi
    · exact hc
    · unfold cntI at hi; rw [if_neg hc] at hi; omega
  have hm : i * absI r.st ≤ r.hi - r.lo := by
    unfold cntI at hi
    rw [if_pos hc, Int.tdiv_eq_ediv_of_nonneg (by omega)] at hi
    have h1 : i ≤ (r.hi - r.lo) / absI r.st := by omega
    have h2 := Int.mul_le_mul_of_nonneg_right h1 (show 0 ≤ absI r.st by omega)
    have h3 := Int.ediv_mul_le (r.hi - r.lo) (show absI r.st ≠ 0 by omega)
    omega
  have hm0 : 0 ≤ i * absI r.st := Int.mul_nonneg h0 (by omega)
  unfold atR fst
  by_cases hs : r.st < 0
  · have e : absI r.st = -r.st := by unfold absI; omega
    rw [e, Int.mul_neg] at hm hm0
    rw [if_pos hs]
    omega
  · have e : absI r.st = r.st := by unfold absI; omega
    rw [e] at hm hm0
    rw [if_neg hs]
    omega
theorem plR_iff {r : Rg} (h : okR r) {x : Int} {i : Nat} : plR r x = some i ↔ i < cnt r ∧ x = atR r (i : Int) := by
  have hc := cnt_eq h
  have hs := h.2.2.2
  unfold plR
  constructor
  · intro hp
    split at hp
    · cases hp
    · rename_i h1
      simp only [not_or, ne_eq, Decidable.not_not] at h1
      split at hp
      · rename_i h2
        cases hp
        refine ⟨by omega, ?_⟩
        have h3 := Int.mul_tdiv_add_tmod (x - fst r) r.st
        rw [h1.2] at h3
        unfold atR
        rw [Int.toNat_of_nonneg h2.1, Int.mul_comm]; omega
      · cases hp
  · rintro ⟨h1, h2⟩
    have e : x - fst r = (i : Int) * r.st := by rw [h2]; unfold atR; omega
    have e1 : Int.tmod (x - fst r) r.st = 0 := by rw [e]; exact Int.mul_tmod_left _ _
    have e2 : Int.tdiv (x - fst r) r.st = (i : Int) := by rw [e]; exact Int.mul_tdiv_cancel _ hs
    rw [if_neg (by rw [e1]; omega), e2, if_pos (by omega)]
    simp
theorem plR_lt {r : Rg} (h : okR r) {x : Int} {i : Nat} (e : plR r x = some i) : i < cnt r := ((plR_iff h).1 e).1
theorem plR_near {r : Rg} (h : okR r) {x : Int} (hx : ¬ inB x) : plR r x = none := by
  cases e : plR r x with
  | none => rfl
  | some i =>
    obtain ⟨h1, h2⟩ := (plR_iff h).1 e
    have hc := cnt_eq h
    have h3 := at_in h (i := (i : Int)) (by omega) (by omega)
    obtain ⟨⟨a1, a2⟩, ⟨b1, b2⟩, _⟩ := h
    exact absurd ⟨by omega, by omega⟩ hx
theorem memR_len (r : Rg) : (memR r).length = cnt r := by simp [memR]
theorem memR_get {r : Rg} {i : Nat} (h : i < cnt r) : (memR r)[i]? = some (atR r (i : Int)) := by
  unfold memR; rw [List.getElem?_map, List.getElem?_range h]; rfl

/-! Lists of lists of one length. -/
theorem uni_len {α β : Type} {f : α → List β} {c : Nat} : ∀ {l : List α}, (∀ x ∈ l, (f x).length = c) → (l.flatMap f).length = l.length * c
  | [], _ => by simp
  | x :: l, h => by
    rw [List.flatMap_cons, List.length_append, uni_len (fun y hy => h y (by simp [hy])), h x (by simp), List.length_cons, Nat.add_mul]; omega
theorem uni_get {α β : Type} {f : α → List β} {c : Nat} : ∀ {l : List α} {n : Nat}, (∀ x ∈ l, (f x).length = c) → 0 < c → (l.flatMap f)[n]? = (l[n / c]?).bind (fun x => (f x)[n % c]?)
  | [], n, _, _ => by simp
  | x :: l, n, h, hc => by
    have hx := h x (by simp)
    rw [List.flatMap_cons, List.getElem?_append, hx]
    by_cases hn : n < c
    · rw [if_pos hn, Nat.div_eq_of_lt hn, Nat.mod_eq_of_lt hn]; rfl
    · rw [if_neg hn, uni_get (fun y hy => h y (by simp [hy])) hc]
      have e1 : n / c = (n - c) / c + 1 := by rw [Nat.div_eq_sub_div hc (by omega)]
      have e2 : n % c = (n - c) % c := by rw [Nat.mod_eq_sub_mod (by omega)]
      rw [e1, e2, List.getElem?_cons_succ]

/-- One dimension more, behind. -/
def addD (out : List (List Int)) (r : Rg) : List (List Int) := out.flatMap fun o => (memR r).map fun v => o ++ [v]
/-- All indexes, in order. -/
def idx (d : List Rg) : List (List Int) := d.foldl addD [[]]
def cntD (d : List Rg) : Nat := d.foldl (fun n r => n * cnt r) 1
def okRs (d : List Rg) : Prop := ∀ r ∈ d, okR r
instance (d : List Rg) : Decidable (okRs d) := inferInstanceAs (Decidable (∀ r ∈ d, okR r))
def okD (d : List Rg) : Prop := 1 ≤ d.length ∧ d.length ≤ 3 ∧ okRs d ∧ cntD d ≤ 4096
instance (d : List Rg) : Decidable (okD d) := inferInstanceAs (Decidable (_ ∧ _))
theorem idx_snoc (d : List Rg) (r : Rg) : idx (d ++ [r]) = addD (idx d) r := by unfold idx; rw [List.foldl_append]; rfl
theorem cntD_snoc (d : List Rg) (r : Rg) : cntD (d ++ [r]) = cntD d * cnt r := by unfold cntD; rw [List.foldl_append]; rfl
theorem addD_len (out : List (List Int)) (r : Rg) : (addD out r).length = out.length * cnt r := uni_len fun o _ => by rw [List.length_map, memR_len]
theorem addD_get {out : List (List Int)} {r : Rg} {n : Nat} (hc : 0 < cnt r) : (addD out r)[n]? = (out[n / cnt r]?).map (fun o => o ++ [atR r ((n % cnt r : Nat) : Int)]) := by
  unfold addD
  rw [uni_get (c := cnt r) (fun o _ => by rw [List.length_map, memR_len]) hc]
  have hm : n % cnt r < cnt r := Nat.mod_lt _ hc
  cases out[n / cnt r]? with
  | none => rfl
  | some o => simp only [Option.bind_some, Option.map_some, List.getElem?_map, memR_get hm]
theorem take_snoc {α : Type} [Inhabited α] {l : List α} {k : Nat} (h : k < l.length) : l.take (k + 1) = l.take k ++ [l.getD k default] := by
  rw [List.take_add_one, List.getElem?_eq_getElem h, List.getD_eq_getElem?_getD, List.getElem?_eq_getElem h]; rfl
theorem idx_take {d : List Rg} {k : Nat} (h : k < d.length) : idx (d.take (k + 1)) = addD (idx (d.take k)) (d.getD k default) := by rw [take_snoc h, idx_snoc]
theorem cntD_take {d : List Rg} {k : Nat} (h : k < d.length) : cntD (d.take (k + 1)) = cntD (d.take k) * cnt (d.getD k default) := by rw [take_snoc h, cntD_snoc]
theorem idx_len_take (d : List Rg) : ∀ k, k ≤ d.length → (idx (d.take k)).length = cntD (d.take k)
  | 0, _ => rfl
  | k + 1, h => by rw [idx_take h, addD_len, cntD_take h, idx_len_take d k (by omega)]
theorem idx_len (d : List Rg) : (idx d).length = cntD d := by have := idx_len_take d d.length (Nat.le_refl _); rwa [List.take_length] at this
theorem getD_mem {d : List Rg} {k : Nat} (h : k < d.length) : d.getD k default ∈ d := by
  rw [List.getD_eq_getElem?_getD, List.getElem?_eq_getElem h]; exact List.getElem_mem h

/-- The place of an index within the first k dimensions. -/
def plK (d : List Rg) (x : List Int) : Nat → Option Nat
  | 0 => some 0
  | k + 1 => match plK d x k, plR (d.getD k default) (x.getD k default) with
    | some a, some i => some (a * cnt (d.getD k default) + i)
    | _, _ => none
theorem plK_idx {d : List Rg} (h : okRs d) {x : List Int} : ∀ {k n : Nat}, k ≤ d.length → k ≤ x.length → (plK d x k = some n ↔ (idx (d.take k))[n]? = some (x.take k))
  | 0, n, _, _ => by
    show some 0 = some n ↔ ([[]] : List (List Int))[n]? = some []
    cases n with
    | zero => simp
    | succ n => simp
  | k + 1, n, hd, hx => by
    have ih := fun n => plK_idx h (x := x) (k := k) (n := n) (by omega) (by omega)
    have hr := h _ (getD_mem (d := d) (k := k) hd)
    have hxs := take_snoc (l := x) (k := k) hx
    rw [idx_take hd, hxs]
    generalize hr0 : d.getD k default = r at *
    by_cases hc : cnt r = 0
    · have e1 : addD (idx (d.take k)) r = [] := List.eq_nil_of_length_eq_zero (by rw [addD_len, hc, Nat.mul_zero])
      have e2 : plR r (x.getD k default) = none := by
        cases e : plR r (x.getD k default) with
        | none => rfl
        | some i => have := plR_lt hr e; omega
      rw [e1]
      simp only [plK, hr0, e2]
      constructor
      · intro hh; split at hh <;> cases hh <;> simp_all
      · intro hh; simp at hh
    · have hc' : 0 < cnt r := by omega
      rw [addD_get hc']
      simp only [plK, hr0]
      constructor
      · intro hh
        split at hh
        · rename_i a i ha hi
          cases hh
          obtain ⟨h1, h2⟩ := (plR_iff hr).1 hi
          have e1 : (a * cnt r + i) / cnt r = a := by rw [Nat.mul_comm, Nat.mul_add_div hc', Nat.div_eq_of_lt h1]; rfl
          have e2 : (a * cnt r + i) % cnt r = i := by rw [Nat.mul_comm, Nat.mul_add_mod, Nat.mod_eq_of_lt h1]
          rw [e1, e2, (ih a).1 ha, Option.map_some, h2]
        · cases hh
      · intro hh
        cases ho : (idx (d.take k))[n / cnt r]? with
        | none => rw [ho] at hh; cases hh
        | some o =>
          rw [ho, Option.map_some, Option.some.injEq] at hh
          have hinj := List.append_inj' hh rfl
          have e1 := (ih (n / cnt r)).2 (by rw [ho, hinj.1])
          have e2 : plR r (x.getD k default) = some (n % cnt r) := (plR_iff hr).2 ⟨Nat.mod_lt _ hc', by have := hinj.2; simpa using this.symm⟩
          rw [e1, e2]
          have := Nat.div_add_mod n (cnt r)
          simp only [Option.some.injEq]
          rw [Nat.mul_comm]; exact this
/-- The place of an index, if it is one. -/
def plD (d : List Rg) (x : List Int) : Option Nat := if x.length = d.length then plK d x d.length else none
theorem idx_row_len {d : List Rg} {n : Nat} {x : List Int} : ∀ {k : Nat}, k ≤ d.length → (idx (d.take k))[n]? = some x → x.length = k
  | 0, _, h => by
    have h : ([[]] : List (List Int))[n]? = some x := h
    cases n with
    | zero => simp at h; rw [h]; rfl
    | succ n => simp at h
  | k + 1, hk, h => by
    rw [idx_take hk] at h
    have hm := List.mem_of_getElem? h
    unfold addD at hm
    obtain ⟨o, ho, hv⟩ := List.mem_flatMap.1 hm
    obtain ⟨v, _, rfl⟩ := List.mem_map.1 hv
    obtain ⟨j, hj, e⟩ := List.getElem_of_mem ho
    have ih := idx_row_len (d := d) (n := j) (x := o) (k := k) (by omega) (by rw [List.getElem?_eq_getElem hj, e])
    rw [List.length_append, ih]; rfl
theorem plD_iff {d : List Rg} (h : okRs d) {x : List Int} {n : Nat} : plD d x = some n ↔ (idx d)[n]? = some x := by
  unfold plD
  constructor
  · intro hh
    split at hh
    · rename_i e
      have := (plK_idx h (x := x) (k := d.length) (n := n) (Nat.le_refl _) (by omega)).1 hh
      rwa [List.take_length, ← e, List.take_length] at this
    · cases hh
  · intro hh
    have hl : x.length = d.length := idx_row_len (d := d) (n := n) (k := d.length) (Nat.le_refl _) (by rw [List.take_length]; exact hh)
    rw [if_pos hl]
    refine (plK_idx h (x := x) (k := d.length) (n := n) (Nat.le_refl _) (by omega)).2 ?_
    rw [List.take_length, ← hl, List.take_length]; exact hh
theorem plD_lt {d : List Rg} (h : okRs d) {x : List Int} {n : Nat} (e : plD d x = some n) : n < cntD d := by
  have := (plD_iff h).1 e
  rw [← idx_len]; exact (List.getElem?_eq_some_iff.1 this).1
/-! The canonical form. -/
def none3 : Rg := ⟨1, 0, 1⟩
def lastR (r : Rg) : Int := atR r (cntI r - 1)
def canR (r : Rg) : Rg := if cntI r = 0 then none3 else if cntI r = 1 then ⟨fst r, fst r, 1⟩ else ⟨min (fst r) (lastR r), max (fst r) (lastR r), r.st⟩
def canD (d : List Rg) : List Rg := if cntD d = 0 then d.map (fun _ => none3) else d.map canR
theorem none3_ok : okR none3 := by decide
theorem none3_cnt : cnt none3 = 0 := by decide
theorem canR_ok {r : Rg} (h : okR r) : okR (canR r) := by
  have hc := cntI_nonneg h
  unfold canR
  split
  · exact none3_ok
  · rename_i h0
    have h1 := at_in h (i := 0) (by omega) (by omega)
    have h2 := at_in h (i := cntI r - 1) (by omega) (by omega)
    have e0 : atR r 0 = fst r := by unfold atR; omega
    rw [e0] at h1
    obtain ⟨⟨a1, a2⟩, ⟨b1, b2⟩, ⟨c1, c2⟩, c3⟩ := h
    split
    · exact ⟨⟨by show _ ≤ fst r; omega, by show fst r ≤ _; omega⟩, ⟨by show _ ≤ fst r; omega, by show fst r ≤ _; omega⟩, ⟨by show (-1000 : Int) ≤ 1; decide, by show (1 : Int) ≤ 1000; decide⟩, by show (1 : Int) ≠ 0; decide⟩
    · have e9 : lastR r = atR r (cntI r - 1) := rfl
      refine ⟨⟨?_, ?_⟩, ⟨?_, ?_⟩, ⟨c1, c2⟩, c3⟩
      · show _ ≤ min (fst r) (lastR r); omega
      · show min (fst r) (lastR r) ≤ _; omega
      · show _ ≤ max (fst r) (lastR r); omega
      · show max (fst r) (lastR r) ≤ _; omega
theorem canR_same {r : Rg} (h : okR r) (h0 : cnt r ≠ 0) : cntI (canR r) = cntI r ∧ fst (canR r) = fst r ∧ (cntI r ≠ 1 → (canR r).st = r.st) := by
  have hc := cnt_eq h
  have hn := cntI_nonneg h
  unfold canR
  rw [if_neg (by omega)]
  by_cases h1 : cntI r = 1
  · rw [if_pos h1, h1]
    refine ⟨?_, ?_, fun hh => absurd rfl hh⟩
    · show (if fst r ≤ fst r then Int.tdiv (fst r - fst r) (absI 1) + 1 else 0) = 1
      rw [if_pos (Int.le_refl _), Int.sub_self]; decide
    · show (if (1 : Int) < 0 then fst r else fst r) = fst r
      rw [if_neg (by decide)]
  · rw [if_neg h1]
    have hl : lastR r = fst r + (cntI r - 1) * r.st := rfl
    have hs := h.2.2.2
    have hcc : 1 ≤ cntI r - 1 := by omega
    refine ⟨?_, ?_, fun _ => rfl⟩
    · have ha := abs_pos h
      have hd : max (fst r) (lastR r) - min (fst r) (lastR r) = (cntI r - 1) * absI r.st := by
        rw [hl]
        by_cases hp : r.st < 0
        · have e : absI r.st = -r.st := by unfold absI; omega
          have : (cntI r - 1) * r.st ≤ 0 := Int.mul_nonpos_of_nonneg_of_nonpos (by omega) (by omega)
          rw [e, Int.mul_neg]; omega
        · have e : absI r.st = r.st := by unfold absI; omega
          have : 0 ≤ (cntI r - 1) * r.st := Int.mul_nonneg (by omega) (by omega)
          rw [e]; omega
      show (if min (fst r) (lastR r) ≤ max (fst r) (lastR r) then Int.tdiv (max (fst r) (lastR r) - min (fst r) (lastR r)) (absI r.st) + 1 else 0) = cntI r
      rw [if_pos (by omega), hd, Int.mul_tdiv_cancel _ (by omega)]; omega
    · show (if r.st < 0 then max (fst r) (lastR r) else min (fst r) (lastR r)) = fst r
      rw [hl]
      split
      · rename_i hp
        have : (cntI r - 1) * r.st ≤ 0 := Int.mul_nonpos_of_nonneg_of_nonpos (by omega) (by omega)
        omega
      · have : 0 ≤ (cntI r - 1) * r.st := Int.mul_nonneg (by omega) (by omega)
        omega
theorem canR_cnt {r : Rg} (h : okR r) : cnt (canR r) = cnt r := by
  by_cases h0 : cnt r = 0
  · have hc := cnt_eq h
    have : canR r = none3 := by unfold canR; rw [if_pos (by omega)]
    rw [this, h0]; rfl
  · unfold cnt; rw [(canR_same h h0).1]
theorem canR_at {r : Rg} (h : okR r) {i : Nat} (hi : i < cnt r) : atR (canR r) (i : Int) = atR r (i : Int) := by
  obtain ⟨h1, h2, h3⟩ := canR_same h (by omega)
  have hc := cnt_eq h
  unfold atR
  rw [h2]
  by_cases e : cntI r = 1
  · have : i = 0 := by omega
    subst this; simp
  · rw [h3 e]
theorem canR_mem {r : Rg} (h : okR r) : memR (canR r) = memR r := by
  unfold memR
  rw [canR_cnt h]
  exact List.map_congr_left fun i hi => canR_at h (List.mem_range.1 hi)
theorem canD_len (d : List Rg) : (canD d).length = d.length := by unfold canD; split <;> simp
theorem canD_ok {d : List Rg} (h : okRs d) : okRs (canD d) := by
  unfold canD
  split
  · intro r hr; obtain ⟨_, _, rfl⟩ := List.mem_map.1 hr; exact none3_ok
  · intro r hr; obtain ⟨q, hq, rfl⟩ := List.mem_map.1 hr; exact canR_ok (h q hq)
theorem cntD_none : ∀ (d : List Rg), d ≠ [] → cntD (d.map (fun _ => none3)) = 0 := by
  intro d hd
  obtain ⟨p, r, rfl⟩ : ∃ p r, d = p ++ [r] := ⟨d.dropLast, d.getLast hd, (List.dropLast_concat_getLast hd).symm⟩
  rw [List.map_append, List.map_cons, List.map_nil, cntD_snoc, none3_cnt, Nat.mul_zero]
theorem fold_map {α : Type} (f : α → Rg → α) (g : Rg → Rg) (d : List Rg) (h : ∀ a, ∀ r ∈ d, f a (g r) = f a r) (a : α) : (d.map g).foldl f a = d.foldl f a := by
  induction d generalizing a with
  | nil => rfl
  | cons r d ih =>
    rw [List.map_cons, List.foldl_cons, List.foldl_cons, h a r (by simp)]
    exact ih (fun b q hq => h b q (by simp [hq])) _
theorem canD_cnt {d : List Rg} (h : okRs d) (hd : d ≠ []) : cntD (canD d) = cntD d := by
  unfold canD
  split
  · rename_i h0; rw [cntD_none d hd, h0]
  · exact fold_map _ _ d (fun a r hr => by rw [canR_cnt (h r hr)]) 1
theorem canD_idx {d : List Rg} (h : okRs d) (hd : d ≠ []) : idx (canD d) = idx d := by
  by_cases h0 : cntD d = 0
  · have e1 : idx d = [] := List.eq_nil_of_length_eq_zero (by rw [idx_len, h0])
    have e2 : idx (canD d) = [] := List.eq_nil_of_length_eq_zero (by rw [idx_len, canD_cnt h hd, h0])
    rw [e1, e2]
  · unfold canD
    rw [if_neg h0]
    exact fold_map _ _ d (fun a r hr => by unfold addD; rw [canR_mem (h r hr)]) _
theorem canD_okD {d : List Rg} (h : okD d) : okD (canD d) := by
  obtain ⟨h1, h2, h3, h4⟩ := h
  have hne : d ≠ [] := fun e => by rw [e] at h1; simp at h1
  exact ⟨by rw [canD_len]; exact h1, by rw [canD_len]; exact h2, canD_ok h3, by rw [canD_cnt h3 hne]; exact h4⟩
theorem fold_dvd : ∀ (d : List Rg) (a : Nat) (r : Rg), r ∈ d ∨ cnt r ∣ a → cnt r ∣ d.foldl (fun n r => n * cnt r) a
  | [], a, r, h => by rcases h with h | h; cases h; exact h
  | q :: d, a, r, h => by
    rw [List.foldl_cons]
    refine fold_dvd d _ r ?_
    rcases h with h | h
    · rcases List.mem_cons.1 h with rfl | h
      · exact .inr (Nat.dvd_mul_left _ _)
      · exact .inl h
    · exact .inr (Nat.dvd_mul_right_of_dvd h _)
theorem cnt_dvd {d : List Rg} {r : Rg} (h : r ∈ d) : cnt r ∣ cntD d := fold_dvd d 1 r (.inl h)
theorem cnt_pos {d : List Rg} {r : Rg} (h : r ∈ d) (h0 : cntD d ≠ 0) : 0 < cnt r := by
  obtain ⟨c, hc⟩ := cnt_dvd h
  refine Nat.pos_of_ne_zero fun e => h0 ?_
  rw [hc, e, Nat.zero_mul]
end Dm

/- The text SRep. -/
/-!
  How ranges, indexes, pairs lie in memory.
-/
set_option linter.unusedVariables false
set_option linter.unusedSimpArgs false
namespace Go.Proofs.Ytnhippfllgnngaa
open Go Go.KK Dm
def intE : Enc Int := ⟨3, 1, fun s => [.int .i64 s], fun _ => rfl, fun s v h => by
  simp only [List.mem_cons, List.not_mem_nil, or_false] at h; rcases h with rfl; rfl⟩
def boE : Enc Bool := ⟨4, 1, fun b => [.bool b], fun _ => rfl, fun s v h => by
  simp only [List.mem_cons, List.not_mem_nil, or_false] at h; rcases h with rfl; rfl⟩
def rgE : Enc Rg := ⟨93, 3, fun r => [.int .i64 r.lo, .int .i64 r.hi, .int .i64 r.st], fun _ => rfl, fun s v h => by
  simp only [List.mem_cons, List.not_mem_nil, or_false] at h; rcases h with rfl | rfl | rfl <;> rfl⟩
def pairE : Enc (Int × Int) := ⟨61, 2, fun p => [.int .i64 p.1, .int .i64 p.2], fun _ => rfl, fun s v h => by
  simp only [List.mem_cons, List.not_mem_nil, or_false] at h; rcases h with rfl | rfl <;> rfl⟩
abbrev hE : Enc Hdr := hdrE 28
/-- The value of a range. -/
abbrev rgV (r : Rg) : Value := .agg #[.int .i64 r.lo, .int .i64 r.hi, .int .i64 r.st]
end Go.Proofs.Ytnhippfllgnngaa
