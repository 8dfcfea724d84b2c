/-
  A part of the proof of the claim that this folder bears.
-/
import Derived.Test.YtoikjjpleonllaaProg
import Derived.Test.YtoikjjpleonllaaKC
/- The text GFacts. -/
/- Facts on the types and the functions of the program, each by the kernel. -/
namespace Go.Proofs.Ytoikjjpleonllaa
open Go Go.KK

instance : Scl Try.prog 2 := ⟨by kernel_rfl⟩
instance : ZeT Try.prog 2 (.int .i64 0) := ⟨by kernel_rfl⟩
instance : One Try.prog 2 := ⟨by kernel_rfl⟩
instance : KeyIs Try.prog 2 intK := ⟨by kernel_rfl⟩
instance : ZeV Try.prog 2 (.int .i64 0) := ⟨by kernel_rfl⟩
instance : Scl Try.prog 3 := ⟨by kernel_rfl⟩
instance : ZeT Try.prog 3 (.int .i64 0) := ⟨by kernel_rfl⟩
instance : One Try.prog 3 := ⟨by kernel_rfl⟩
instance : KeyIs Try.prog 3 intK := ⟨by kernel_rfl⟩
instance : ZeV Try.prog 3 (.int .i64 0) := ⟨by kernel_rfl⟩
instance : Scl Try.prog 4 := ⟨by kernel_rfl⟩
instance : BoT Try.prog 4 := ⟨by kernel_rfl⟩
instance : ZeT Try.prog 4 (.bool false) := ⟨by kernel_rfl⟩
instance : One Try.prog 4 := ⟨by kernel_rfl⟩
instance : ZeV Try.prog 4 (.bool false) := ⟨by kernel_rfl⟩
instance : Scl Try.prog 5 := ⟨by kernel_rfl⟩
instance : ZeT Try.prog 5 (.int .u8 0) := ⟨by kernel_rfl⟩
instance : One Try.prog 5 := ⟨by kernel_rfl⟩
instance : ZeV Try.prog 5 (.int .u8 0) := ⟨by kernel_rfl⟩
instance : Scl Try.prog 6 := ⟨by kernel_rfl⟩
instance : ZeT Try.prog 6 (.int .u8 0) := ⟨by kernel_rfl⟩
instance : One Try.prog 6 := ⟨by kernel_rfl⟩
instance : ZeV Try.prog 6 (.int .u8 0) := ⟨by kernel_rfl⟩
instance : Agg Try.prog 7 4 := ⟨by kernel_rfl, by kernel_rfl⟩
instance : ZeT Try.prog 7 (.agg #[(.int .i64 0), (.int .i64 0), (.bool false), (.int .u8 0)]) := ⟨by kernel_rfl⟩
instance : StT Try.prog 7 [(.int .i64 0), (.int .i64 0), (.bool false), (.int .u8 0)] [(0, 1), (1, 1), (2, 1), (3, 1)] := ⟨by kernel_rfl⟩
instance : Fld Try.prog 7 0 0 2 := ⟨by kernel_rfl⟩
instance : Fld Try.prog 7 1 1 3 := ⟨by kernel_rfl⟩
instance : Fld Try.prog 7 2 2 4 := ⟨by kernel_rfl⟩
instance : Fld Try.prog 7 3 3 6 := ⟨by kernel_rfl⟩
instance : ZeV Try.prog 7 (.agg #[(.int .i64 0), (.int .i64 0), (.bool false), (.int .u8 0)]) := ⟨by kernel_rfl⟩
instance : Agg Try.prog 8 4 := ⟨by kernel_rfl, by kernel_rfl⟩
instance : ZeT Try.prog 8 (.agg #[(.int .i64 0), (.int .i64 0), (.bool false), (.int .u8 0)]) := ⟨by kernel_rfl⟩
instance : StT Try.prog 8 [(.int .i64 0), (.int .i64 0), (.bool false), (.int .u8 0)] [(0, 1), (1, 1), (2, 1), (3, 1)] := ⟨by kernel_rfl⟩
instance : Fld Try.prog 8 0 0 2 := ⟨by kernel_rfl⟩
instance : Fld Try.prog 8 1 1 3 := ⟨by kernel_rfl⟩
instance : Fld Try.prog 8 2 2 4 := ⟨by kernel_rfl⟩
instance : Fld Try.prog 8 3 3 6 := ⟨by kernel_rfl⟩
instance : ZeV Try.prog 8 (.agg #[(.int .i64 0), (.int .i64 0), (.bool false), (.int .u8 0)]) := ⟨by kernel_rfl⟩
instance : Scl Try.prog 9 := ⟨by kernel_rfl⟩
instance : ZeT Try.prog 9 (.string ByteArray.empty) := ⟨by kernel_rfl⟩
instance : One Try.prog 9 := ⟨by kernel_rfl⟩
instance : StT' Try.prog 9 := ⟨by kernel_rfl⟩
instance : KeyIs Try.prog 9 strK := ⟨by kernel_rfl⟩
instance : ZeV Try.prog 9 (.string ByteArray.empty) := ⟨by kernel_rfl⟩
instance : Scl Try.prog 10 := ⟨by kernel_rfl⟩
instance : ZeT Try.prog 10 (.string ByteArray.empty) := ⟨by kernel_rfl⟩
instance : One Try.prog 10 := ⟨by kernel_rfl⟩
instance : StT' Try.prog 10 := ⟨by kernel_rfl⟩
instance : KeyIs Try.prog 10 strK := ⟨by kernel_rfl⟩
instance : ZeV Try.prog 10 (.string ByteArray.empty) := ⟨by kernel_rfl⟩
instance : Scl Try.prog 11 := ⟨by kernel_rfl⟩
instance : ZeT Try.prog 11 (.string ByteArray.empty) := ⟨by kernel_rfl⟩
instance : One Try.prog 11 := ⟨by kernel_rfl⟩
instance : StT' Try.prog 11 := ⟨by kernel_rfl⟩
instance : KeyIs Try.prog 11 strK := ⟨by kernel_rfl⟩
instance : ZeV Try.prog 11 (.string ByteArray.empty) := ⟨by kernel_rfl⟩
instance : Scl Try.prog 12 := ⟨by kernel_rfl⟩
instance : ZeT Try.prog 12 (.int .u64 0) := ⟨by kernel_rfl⟩
instance : One Try.prog 12 := ⟨by kernel_rfl⟩
instance : ZeV Try.prog 12 (.int .u64 0) := ⟨by kernel_rfl⟩
instance : Agg Try.prog 13 2 := ⟨by kernel_rfl, by kernel_rfl⟩
instance : ZeT Try.prog 13 (.agg #[(.string ByteArray.empty), (.int .u64 0)]) := ⟨by kernel_rfl⟩
instance : StT Try.prog 13 [(.string ByteArray.empty), (.int .u64 0)] [(0, 1), (1, 1)] := ⟨by kernel_rfl⟩
instance : Fld Try.prog 13 0 0 9 := ⟨by kernel_rfl⟩
instance : Fld Try.prog 13 1 1 12 := ⟨by kernel_rfl⟩
instance : ZeV Try.prog 13 (.agg #[(.string ByteArray.empty), (.int .u64 0)]) := ⟨by kernel_rfl⟩
instance : Agg Try.prog 14 2 := ⟨by kernel_rfl, by kernel_rfl⟩
instance : ZeT Try.prog 14 (.agg #[(.string ByteArray.empty), (.int .u64 0)]) := ⟨by kernel_rfl⟩
instance : StT Try.prog 14 [(.string ByteArray.empty), (.int .u64 0)] [(0, 1), (1, 1)] := ⟨by kernel_rfl⟩
instance : Fld Try.prog 14 0 0 9 := ⟨by kernel_rfl⟩
instance : Fld Try.prog 14 1 1 12 := ⟨by kernel_rfl⟩
instance : ZeV Try.prog 14 (.agg #[(.string ByteArray.empty), (.int .u64 0)]) := ⟨by kernel_rfl⟩
instance : Scl Try.prog 15 := ⟨by kernel_rfl⟩
instance : PtT Try.prog 15 := ⟨by kernel_rfl⟩
instance : ZeT Try.prog 15 (.pointer none) := ⟨by kernel_rfl⟩
instance : One Try.prog 15 := ⟨by kernel_rfl⟩
instance : ZeV Try.prog 15 (.pointer none) := ⟨by kernel_rfl⟩
instance : Scl Try.prog 16 := ⟨by kernel_rfl⟩
instance : PtT Try.prog 16 := ⟨by kernel_rfl⟩
instance : ZeT Try.prog 16 (.pointer none) := ⟨by kernel_rfl⟩
instance : One Try.prog 16 := ⟨by kernel_rfl⟩
instance : ZeV Try.prog 16 (.pointer none) := ⟨by kernel_rfl⟩
instance : Scl Try.prog 17 := ⟨by kernel_rfl⟩
instance : PtT Try.prog 17 := ⟨by kernel_rfl⟩
instance : ZeT Try.prog 17 (.pointer none) := ⟨by kernel_rfl⟩
instance : One Try.prog 17 := ⟨by kernel_rfl⟩
instance : ZeV Try.prog 17 (.pointer none) := ⟨by kernel_rfl⟩
instance : Agg Try.prog 18 1 := ⟨by kernel_rfl, by kernel_rfl⟩
instance : ZeT Try.prog 18 (.agg #[(.pointer none)]) := ⟨by kernel_rfl⟩
instance : StT Try.prog 18 [(.pointer none)] [(0, 1)] := ⟨by kernel_rfl⟩
instance : One Try.prog 18 := ⟨by kernel_rfl⟩
instance : Fld Try.prog 18 0 0 17 := ⟨by kernel_rfl⟩
instance : ZeV Try.prog 18 (.agg #[(.pointer none)]) := ⟨by kernel_rfl⟩
instance : Agg Try.prog 19 1 := ⟨by kernel_rfl, by kernel_rfl⟩
instance : ZeT Try.prog 19 (.agg #[(.pointer none)]) := ⟨by kernel_rfl⟩
instance : StT Try.prog 19 [(.pointer none)] [(0, 1)] := ⟨by kernel_rfl⟩
instance : One Try.prog 19 := ⟨by kernel_rfl⟩
instance : Fld Try.prog 19 0 0 17 := ⟨by kernel_rfl⟩
instance : ZeV Try.prog 19 (.agg #[(.pointer none)]) := ⟨by kernel_rfl⟩
instance : Scl Try.prog 20 := ⟨by kernel_rfl⟩
instance : ZeT Try.prog 20 .nilIface := ⟨by kernel_rfl⟩
instance : One Try.prog 20 := ⟨by kernel_rfl⟩
instance : ZeV Try.prog 20 .nilIface := ⟨by kernel_rfl⟩
instance : Scl Try.prog 21 := ⟨by kernel_rfl⟩
instance : ZeT Try.prog 21 (.int .i32 0) := ⟨by kernel_rfl⟩
instance : One Try.prog 21 := ⟨by kernel_rfl⟩
instance : ZeV Try.prog 21 (.int .i32 0) := ⟨by kernel_rfl⟩
instance : Scl Try.prog 22 := ⟨by kernel_rfl⟩
instance : ZeT Try.prog 22 (.slice none 0 0) := ⟨by kernel_rfl⟩
instance : One Try.prog 22 := ⟨by kernel_rfl⟩
instance : SlT Try.prog 22 3 1 8 (.int .i64 0) := ⟨by kernel_rfl⟩
instance : ZeV Try.prog 22 (.slice none 0 0) := ⟨by kernel_rfl⟩
instance : Agg Try.prog 23 4 := ⟨by kernel_rfl, by kernel_rfl⟩
instance : ZeT Try.prog 23 (.agg #[(.string ByteArray.empty), (.string ByteArray.empty), (.int .i64 0), (.slice none 0 0)]) := ⟨by kernel_rfl⟩
instance : StT Try.prog 23 [(.string ByteArray.empty), (.string ByteArray.empty), (.int .i64 0), (.slice none 0 0)] [(0, 1), (1, 1), (2, 1), (3, 1)] := ⟨by kernel_rfl⟩
instance : Fld Try.prog 23 0 0 9 := ⟨by kernel_rfl⟩
instance : Fld Try.prog 23 1 1 9 := ⟨by kernel_rfl⟩
instance : Fld Try.prog 23 2 2 3 := ⟨by kernel_rfl⟩
instance : Fld Try.prog 23 3 3 22 := ⟨by kernel_rfl⟩
instance : ZeV Try.prog 23 (.agg #[(.string ByteArray.empty), (.string ByteArray.empty), (.int .i64 0), (.slice none 0 0)]) := ⟨by kernel_rfl⟩
instance : Agg Try.prog 24 4 := ⟨by kernel_rfl, by kernel_rfl⟩
instance : ZeT Try.prog 24 (.agg #[(.string ByteArray.empty), (.string ByteArray.empty), (.int .i64 0), (.slice none 0 0)]) := ⟨by kernel_rfl⟩
instance : StT Try.prog 24 [(.string ByteArray.empty), (.string ByteArray.empty), (.int .i64 0), (.slice none 0 0)] [(0, 1), (1, 1), (2, 1), (3, 1)] := ⟨by kernel_rfl⟩
instance : Fld Try.prog 24 0 0 9 := ⟨by kernel_rfl⟩
instance : Fld Try.prog 24 1 1 9 := ⟨by kernel_rfl⟩
instance : Fld Try.prog 24 2 2 3 := ⟨by kernel_rfl⟩
instance : Fld Try.prog 24 3 3 22 := ⟨by kernel_rfl⟩
instance : ZeV Try.prog 24 (.agg #[(.string ByteArray.empty), (.string ByteArray.empty), (.int .i64 0), (.slice none 0 0)]) := ⟨by kernel_rfl⟩
instance : Scl Try.prog 25 := ⟨by kernel_rfl⟩
instance : PtT Try.prog 25 := ⟨by kernel_rfl⟩
instance : ZeT Try.prog 25 (.pointer none) := ⟨by kernel_rfl⟩
instance : One Try.prog 25 := ⟨by kernel_rfl⟩
instance : ZeV Try.prog 25 (.pointer none) := ⟨by kernel_rfl⟩
instance : Scl Try.prog 26 := ⟨by kernel_rfl⟩
instance : ZeT Try.prog 26 (.int .i64 0) := ⟨by kernel_rfl⟩
instance : One Try.prog 26 := ⟨by kernel_rfl⟩
instance : KeyIs Try.prog 26 intK := ⟨by kernel_rfl⟩
instance : ZeV Try.prog 26 (.int .i64 0) := ⟨by kernel_rfl⟩
instance : Scl Try.prog 29 := ⟨by kernel_rfl⟩
instance : PtT Try.prog 29 := ⟨by kernel_rfl⟩
instance : ZeT Try.prog 29 (.pointer none) := ⟨by kernel_rfl⟩
instance : One Try.prog 29 := ⟨by kernel_rfl⟩
instance : ZeV Try.prog 29 (.pointer none) := ⟨by kernel_rfl⟩
instance : Scl Try.prog 37 := ⟨by kernel_rfl⟩
instance : ZeT Try.prog 37 (.slice none 0 0) := ⟨by kernel_rfl⟩
instance : One Try.prog 37 := ⟨by kernel_rfl⟩
instance : SlT Try.prog 37 90 2 16 (.agg #[(.int .i64 0), (.int .i64 0)]) := ⟨by kernel_rfl⟩
instance : ZeV Try.prog 37 (.slice none 0 0) := ⟨by kernel_rfl⟩
instance : Scl Try.prog 44 := ⟨by kernel_rfl⟩
instance : ZeT Try.prog 44 (.slice none 0 0) := ⟨by kernel_rfl⟩
instance : One Try.prog 44 := ⟨by kernel_rfl⟩
instance : SlT Try.prog 44 74 5 40 (.agg #[(.int .i64 0), (.int .i64 0), (.map none), (.bool false), (.int .i64 0)]) := ⟨by kernel_rfl⟩
instance : ZeV Try.prog 44 (.slice none 0 0) := ⟨by kernel_rfl⟩
instance : Scl Try.prog 45 := ⟨by kernel_rfl⟩
instance : ZeT Try.prog 45 (.slice none 0 0) := ⟨by kernel_rfl⟩
instance : One Try.prog 45 := ⟨by kernel_rfl⟩
instance : SlT Try.prog 45 84 5 40 (.agg #[(.int .i64 0), (.int .i64 0), (.int .i64 0), (.bool false), (.int .i64 0)]) := ⟨by kernel_rfl⟩
instance : ZeV Try.prog 45 (.slice none 0 0) := ⟨by kernel_rfl⟩
instance : Agg Try.prog 46 6 := ⟨by kernel_rfl, by kernel_rfl⟩
instance : ZeT Try.prog 46 (.agg #[(.string ByteArray.empty), (.string ByteArray.empty), (.int .i64 0), (.slice none 0 0), (.slice none 0 0), (.int .i64 0)]) := ⟨by kernel_rfl⟩
instance : StT Try.prog 46 [(.string ByteArray.empty), (.string ByteArray.empty), (.int .i64 0), (.slice none 0 0), (.slice none 0 0), (.int .i64 0)] [(0, 1), (1, 1), (2, 1), (3, 1), (4, 1), (5, 1)] := ⟨by kernel_rfl⟩
instance : Fld Try.prog 46 0 0 9 := ⟨by kernel_rfl⟩
instance : Fld Try.prog 46 1 1 9 := ⟨by kernel_rfl⟩
instance : Fld Try.prog 46 2 2 3 := ⟨by kernel_rfl⟩
instance : Fld Try.prog 46 3 3 44 := ⟨by kernel_rfl⟩
instance : Fld Try.prog 46 4 4 45 := ⟨by kernel_rfl⟩
instance : Fld Try.prog 46 5 5 3 := ⟨by kernel_rfl⟩
instance : ZeV Try.prog 46 (.agg #[(.string ByteArray.empty), (.string ByteArray.empty), (.int .i64 0), (.slice none 0 0), (.slice none 0 0), (.int .i64 0)]) := ⟨by kernel_rfl⟩
instance : Agg Try.prog 47 6 := ⟨by kernel_rfl, by kernel_rfl⟩
instance : ZeT Try.prog 47 (.agg #[(.string ByteArray.empty), (.string ByteArray.empty), (.int .i64 0), (.slice none 0 0), (.slice none 0 0), (.int .i64 0)]) := ⟨by kernel_rfl⟩
instance : StT Try.prog 47 [(.string ByteArray.empty), (.string ByteArray.empty), (.int .i64 0), (.slice none 0 0), (.slice none 0 0), (.int .i64 0)] [(0, 1), (1, 1), (2, 1), (3, 1), (4, 1), (5, 1)] := ⟨by kernel_rfl⟩
instance : Fld Try.prog 47 0 0 9 := ⟨by kernel_rfl⟩
instance : Fld Try.prog 47 1 1 9 := ⟨by kernel_rfl⟩
instance : Fld Try.prog 47 2 2 3 := ⟨by kernel_rfl⟩
instance : Fld Try.prog 47 3 3 44 := ⟨by kernel_rfl⟩
instance : Fld Try.prog 47 4 4 45 := ⟨by kernel_rfl⟩
instance : Fld Try.prog 47 5 5 3 := ⟨by kernel_rfl⟩
instance : ZeV Try.prog 47 (.agg #[(.string ByteArray.empty), (.string ByteArray.empty), (.int .i64 0), (.slice none 0 0), (.slice none 0 0), (.int .i64 0)]) := ⟨by kernel_rfl⟩
instance : Scl Try.prog 48 := ⟨by kernel_rfl⟩
instance : ZeT Try.prog 48 (.slice none 0 0) := ⟨by kernel_rfl⟩
instance : One Try.prog 48 := ⟨by kernel_rfl⟩
instance : SlT Try.prog 48 25 1 8 (.pointer none) := ⟨by kernel_rfl⟩
instance : ZeV Try.prog 48 (.slice none 0 0) := ⟨by kernel_rfl⟩
instance : Agg Try.prog 59 2 := ⟨by kernel_rfl, by kernel_rfl⟩
instance : ZeT Try.prog 59 (.agg #[(.slice none 0 0), (.slice none 0 0)]) := ⟨by kernel_rfl⟩
instance : StT Try.prog 59 [(.slice none 0 0), (.slice none 0 0)] [(0, 1), (1, 1)] := ⟨by kernel_rfl⟩
instance : Fld Try.prog 59 0 0 22 := ⟨by kernel_rfl⟩
instance : Fld Try.prog 59 1 1 22 := ⟨by kernel_rfl⟩
instance : ZeV Try.prog 59 (.agg #[(.slice none 0 0), (.slice none 0 0)]) := ⟨by kernel_rfl⟩
instance : Agg Try.prog 60 2 := ⟨by kernel_rfl, by kernel_rfl⟩
instance : ZeT Try.prog 60 (.agg #[(.slice none 0 0), (.slice none 0 0)]) := ⟨by kernel_rfl⟩
instance : StT Try.prog 60 [(.slice none 0 0), (.slice none 0 0)] [(0, 1), (1, 1)] := ⟨by kernel_rfl⟩
instance : Fld Try.prog 60 0 0 22 := ⟨by kernel_rfl⟩
instance : Fld Try.prog 60 1 1 22 := ⟨by kernel_rfl⟩
instance : ZeV Try.prog 60 (.agg #[(.slice none 0 0), (.slice none 0 0)]) := ⟨by kernel_rfl⟩
instance : Scl Try.prog 61 := ⟨by kernel_rfl⟩
instance : PtT Try.prog 61 := ⟨by kernel_rfl⟩
instance : ZeT Try.prog 61 (.pointer none) := ⟨by kernel_rfl⟩
instance : One Try.prog 61 := ⟨by kernel_rfl⟩
instance : ZeV Try.prog 61 (.pointer none) := ⟨by kernel_rfl⟩
instance : Scl Try.prog 65 := ⟨by kernel_rfl⟩
instance : ZeT Try.prog 65 (.slice none 0 0) := ⟨by kernel_rfl⟩
instance : One Try.prog 65 := ⟨by kernel_rfl⟩
instance : SlT Try.prog 65 108 6 48 (.agg #[(.int .i64 0), (.int .i64 0), (.int .i64 0), (.int .i64 0), (.int .i64 0), (.int .i64 0)]) := ⟨by kernel_rfl⟩
instance : ZeV Try.prog 65 (.slice none 0 0) := ⟨by kernel_rfl⟩
instance : Scl Try.prog 72 := ⟨by kernel_rfl⟩
instance : ZeT Try.prog 72 (.map none) := ⟨by kernel_rfl⟩
instance : One Try.prog 72 := ⟨by kernel_rfl⟩
instance : MapT Try.prog 72 3 3 := ⟨by kernel_rfl⟩
instance : ZeV Try.prog 72 (.map none) := ⟨by kernel_rfl⟩
instance : Agg Try.prog 73 5 := ⟨by kernel_rfl, by kernel_rfl⟩
instance : ZeT Try.prog 73 (.agg #[(.int .i64 0), (.int .i64 0), (.map none), (.bool false), (.int .i64 0)]) := ⟨by kernel_rfl⟩
instance : StT Try.prog 73 [(.int .i64 0), (.int .i64 0), (.map none), (.bool false), (.int .i64 0)] [(0, 1), (1, 1), (2, 1), (3, 1), (4, 1)] := ⟨by kernel_rfl⟩
instance : Fld Try.prog 73 0 0 3 := ⟨by kernel_rfl⟩
instance : Fld Try.prog 73 1 1 3 := ⟨by kernel_rfl⟩
instance : Fld Try.prog 73 2 2 72 := ⟨by kernel_rfl⟩
instance : Fld Try.prog 73 3 3 4 := ⟨by kernel_rfl⟩
instance : Fld Try.prog 73 4 4 3 := ⟨by kernel_rfl⟩
instance : ZeV Try.prog 73 (.agg #[(.int .i64 0), (.int .i64 0), (.map none), (.bool false), (.int .i64 0)]) := ⟨by kernel_rfl⟩
instance : Agg Try.prog 74 5 := ⟨by kernel_rfl, by kernel_rfl⟩
instance : ZeT Try.prog 74 (.agg #[(.int .i64 0), (.int .i64 0), (.map none), (.bool false), (.int .i64 0)]) := ⟨by kernel_rfl⟩
instance : StT Try.prog 74 [(.int .i64 0), (.int .i64 0), (.map none), (.bool false), (.int .i64 0)] [(0, 1), (1, 1), (2, 1), (3, 1), (4, 1)] := ⟨by kernel_rfl⟩
instance : Fld Try.prog 74 0 0 3 := ⟨by kernel_rfl⟩
instance : Fld Try.prog 74 1 1 3 := ⟨by kernel_rfl⟩
instance : Fld Try.prog 74 2 2 72 := ⟨by kernel_rfl⟩
instance : Fld Try.prog 74 3 3 4 := ⟨by kernel_rfl⟩
instance : Fld Try.prog 74 4 4 3 := ⟨by kernel_rfl⟩
instance : ZeV Try.prog 74 (.agg #[(.int .i64 0), (.int .i64 0), (.map none), (.bool false), (.int .i64 0)]) := ⟨by kernel_rfl⟩
instance : Scl Try.prog 75 := ⟨by kernel_rfl⟩
instance : ZeT Try.prog 75 (.slice none 0 0) := ⟨by kernel_rfl⟩
instance : One Try.prog 75 := ⟨by kernel_rfl⟩
instance : SlT Try.prog 75 4 1 1 (.bool false) := ⟨by kernel_rfl⟩
instance : ZeV Try.prog 75 (.slice none 0 0) := ⟨by kernel_rfl⟩
instance : Scl Try.prog 76 := ⟨by kernel_rfl⟩
instance : ZeT Try.prog 76 (.slice none 0 0) := ⟨by kernel_rfl⟩
instance : One Try.prog 76 := ⟨by kernel_rfl⟩
instance : SlT Try.prog 76 77 1 24 (.slice none 0 0) := ⟨by kernel_rfl⟩
instance : ZeV Try.prog 76 (.slice none 0 0) := ⟨by kernel_rfl⟩
instance : Scl Try.prog 77 := ⟨by kernel_rfl⟩
instance : ZeT Try.prog 77 (.slice none 0 0) := ⟨by kernel_rfl⟩
instance : One Try.prog 77 := ⟨by kernel_rfl⟩
instance : SlT Try.prog 77 89 5 40 (.agg #[(.int .i64 0), (.int .i64 0), (.int .i64 0), (.int .i64 0), (.bool false)]) := ⟨by kernel_rfl⟩
instance : ZeV Try.prog 77 (.slice none 0 0) := ⟨by kernel_rfl⟩
instance : Agg Try.prog 78 11 := ⟨by kernel_rfl, by kernel_rfl⟩
instance : ZeT Try.prog 78 (.agg #[(.string ByteArray.empty), (.string ByteArray.empty), (.int .i64 0), (.int .i64 0), (.slice none 0 0), (.slice none 0 0), (.slice none 0 0), (.slice none 0 0), (.slice none 0 0), (.slice none 0 0), (.int .i64 0)]) := ⟨by kernel_rfl⟩
instance : StT Try.prog 78 [(.string ByteArray.empty), (.string ByteArray.empty), (.int .i64 0), (.int .i64 0), (.slice none 0 0), (.slice none 0 0), (.slice none 0 0), (.slice none 0 0), (.slice none 0 0), (.slice none 0 0), (.int .i64 0)] [(0, 1), (1, 1), (2, 1), (3, 1), (4, 1), (5, 1), (6, 1), (7, 1), (8, 1), (9, 1), (10, 1)] := ⟨by kernel_rfl⟩
instance : Fld Try.prog 78 0 0 9 := ⟨by kernel_rfl⟩
instance : Fld Try.prog 78 1 1 9 := ⟨by kernel_rfl⟩
instance : Fld Try.prog 78 2 2 3 := ⟨by kernel_rfl⟩
instance : Fld Try.prog 78 3 3 3 := ⟨by kernel_rfl⟩
instance : Fld Try.prog 78 4 4 22 := ⟨by kernel_rfl⟩
instance : Fld Try.prog 78 5 5 75 := ⟨by kernel_rfl⟩
instance : Fld Try.prog 78 6 6 76 := ⟨by kernel_rfl⟩
instance : Fld Try.prog 78 7 7 22 := ⟨by kernel_rfl⟩
instance : Fld Try.prog 78 8 8 75 := ⟨by kernel_rfl⟩
instance : Fld Try.prog 78 9 9 77 := ⟨by kernel_rfl⟩
instance : Fld Try.prog 78 10 10 3 := ⟨by kernel_rfl⟩
instance : ZeV Try.prog 78 (.agg #[(.string ByteArray.empty), (.string ByteArray.empty), (.int .i64 0), (.int .i64 0), (.slice none 0 0), (.slice none 0 0), (.slice none 0 0), (.slice none 0 0), (.slice none 0 0), (.slice none 0 0), (.int .i64 0)]) := ⟨by kernel_rfl⟩
instance : Agg Try.prog 79 11 := ⟨by kernel_rfl, by kernel_rfl⟩
instance : ZeT Try.prog 79 (.agg #[(.string ByteArray.empty), (.string ByteArray.empty), (.int .i64 0), (.int .i64 0), (.slice none 0 0), (.slice none 0 0), (.slice none 0 0), (.slice none 0 0), (.slice none 0 0), (.slice none 0 0), (.int .i64 0)]) := ⟨by kernel_rfl⟩
instance : StT Try.prog 79 [(.string ByteArray.empty), (.string ByteArray.empty), (.int .i64 0), (.int .i64 0), (.slice none 0 0), (.slice none 0 0), (.slice none 0 0), (.slice none 0 0), (.slice none 0 0), (.slice none 0 0), (.int .i64 0)] [(0, 1), (1, 1), (2, 1), (3, 1), (4, 1), (5, 1), (6, 1), (7, 1), (8, 1), (9, 1), (10, 1)] := ⟨by kernel_rfl⟩
instance : Fld Try.prog 79 0 0 9 := ⟨by kernel_rfl⟩
instance : Fld Try.prog 79 1 1 9 := ⟨by kernel_rfl⟩
instance : Fld Try.prog 79 2 2 3 := ⟨by kernel_rfl⟩
instance : Fld Try.prog 79 3 3 3 := ⟨by kernel_rfl⟩
instance : Fld Try.prog 79 4 4 22 := ⟨by kernel_rfl⟩
instance : Fld Try.prog 79 5 5 75 := ⟨by kernel_rfl⟩
instance : Fld Try.prog 79 6 6 76 := ⟨by kernel_rfl⟩
instance : Fld Try.prog 79 7 7 22 := ⟨by kernel_rfl⟩
instance : Fld Try.prog 79 8 8 75 := ⟨by kernel_rfl⟩
instance : Fld Try.prog 79 9 9 77 := ⟨by kernel_rfl⟩
instance : Fld Try.prog 79 10 10 3 := ⟨by kernel_rfl⟩
instance : ZeV Try.prog 79 (.agg #[(.string ByteArray.empty), (.string ByteArray.empty), (.int .i64 0), (.int .i64 0), (.slice none 0 0), (.slice none 0 0), (.slice none 0 0), (.slice none 0 0), (.slice none 0 0), (.slice none 0 0), (.int .i64 0)]) := ⟨by kernel_rfl⟩
instance : Agg Try.prog 83 5 := ⟨by kernel_rfl, by kernel_rfl⟩
instance : ZeT Try.prog 83 (.agg #[(.int .i64 0), (.int .i64 0), (.int .i64 0), (.bool false), (.int .i64 0)]) := ⟨by kernel_rfl⟩
instance : StT Try.prog 83 [(.int .i64 0), (.int .i64 0), (.int .i64 0), (.bool false), (.int .i64 0)] [(0, 1), (1, 1), (2, 1), (3, 1), (4, 1)] := ⟨by kernel_rfl⟩
instance : Fld Try.prog 83 0 0 3 := ⟨by kernel_rfl⟩
instance : Fld Try.prog 83 1 1 3 := ⟨by kernel_rfl⟩
instance : Fld Try.prog 83 2 2 3 := ⟨by kernel_rfl⟩
instance : Fld Try.prog 83 3 3 4 := ⟨by kernel_rfl⟩
instance : Fld Try.prog 83 4 4 3 := ⟨by kernel_rfl⟩
instance : ZeV Try.prog 83 (.agg #[(.int .i64 0), (.int .i64 0), (.int .i64 0), (.bool false), (.int .i64 0)]) := ⟨by kernel_rfl⟩
instance : Agg Try.prog 84 5 := ⟨by kernel_rfl, by kernel_rfl⟩
instance : ZeT Try.prog 84 (.agg #[(.int .i64 0), (.int .i64 0), (.int .i64 0), (.bool false), (.int .i64 0)]) := ⟨by kernel_rfl⟩
instance : StT Try.prog 84 [(.int .i64 0), (.int .i64 0), (.int .i64 0), (.bool false), (.int .i64 0)] [(0, 1), (1, 1), (2, 1), (3, 1), (4, 1)] := ⟨by kernel_rfl⟩
instance : Fld Try.prog 84 0 0 3 := ⟨by kernel_rfl⟩
instance : Fld Try.prog 84 1 1 3 := ⟨by kernel_rfl⟩
instance : Fld Try.prog 84 2 2 3 := ⟨by kernel_rfl⟩
instance : Fld Try.prog 84 3 3 4 := ⟨by kernel_rfl⟩
instance : Fld Try.prog 84 4 4 3 := ⟨by kernel_rfl⟩
instance : ZeV Try.prog 84 (.agg #[(.int .i64 0), (.int .i64 0), (.int .i64 0), (.bool false), (.int .i64 0)]) := ⟨by kernel_rfl⟩
instance : Scl Try.prog 86 := ⟨by kernel_rfl⟩
instance : PtT Try.prog 86 := ⟨by kernel_rfl⟩
instance : ZeT Try.prog 86 (.pointer none) := ⟨by kernel_rfl⟩
instance : One Try.prog 86 := ⟨by kernel_rfl⟩
instance : ZeV Try.prog 86 (.pointer none) := ⟨by kernel_rfl⟩
instance : Agg Try.prog 88 5 := ⟨by kernel_rfl, by kernel_rfl⟩
instance : ZeT Try.prog 88 (.agg #[(.int .i64 0), (.int .i64 0), (.int .i64 0), (.int .i64 0), (.bool false)]) := ⟨by kernel_rfl⟩
instance : StT Try.prog 88 [(.int .i64 0), (.int .i64 0), (.int .i64 0), (.int .i64 0), (.bool false)] [(0, 1), (1, 1), (2, 1), (3, 1), (4, 1)] := ⟨by kernel_rfl⟩
instance : Fld Try.prog 88 0 0 3 := ⟨by kernel_rfl⟩
instance : Fld Try.prog 88 1 1 3 := ⟨by kernel_rfl⟩
instance : Fld Try.prog 88 2 2 3 := ⟨by kernel_rfl⟩
instance : Fld Try.prog 88 3 3 3 := ⟨by kernel_rfl⟩
instance : Fld Try.prog 88 4 4 4 := ⟨by kernel_rfl⟩
instance : ZeV Try.prog 88 (.agg #[(.int .i64 0), (.int .i64 0), (.int .i64 0), (.int .i64 0), (.bool false)]) := ⟨by kernel_rfl⟩
instance : Agg Try.prog 89 5 := ⟨by kernel_rfl, by kernel_rfl⟩
instance : ZeT Try.prog 89 (.agg #[(.int .i64 0), (.int .i64 0), (.int .i64 0), (.int .i64 0), (.bool false)]) := ⟨by kernel_rfl⟩
instance : StT Try.prog 89 [(.int .i64 0), (.int .i64 0), (.int .i64 0), (.int .i64 0), (.bool false)] [(0, 1), (1, 1), (2, 1), (3, 1), (4, 1)] := ⟨by kernel_rfl⟩
instance : Fld Try.prog 89 0 0 3 := ⟨by kernel_rfl⟩
instance : Fld Try.prog 89 1 1 3 := ⟨by kernel_rfl⟩
instance : Fld Try.prog 89 2 2 3 := ⟨by kernel_rfl⟩
instance : Fld Try.prog 89 3 3 3 := ⟨by kernel_rfl⟩
instance : Fld Try.prog 89 4 4 4 := ⟨by kernel_rfl⟩
instance : ZeV Try.prog 89 (.agg #[(.int .i64 0), (.int .i64 0), (.int .i64 0), (.int .i64 0), (.bool false)]) := ⟨by kernel_rfl⟩
instance : Agg Try.prog 90 2 := ⟨by kernel_rfl, by kernel_rfl⟩
instance : ZeT Try.prog 90 (.agg #[(.int .i64 0), (.int .i64 0)]) := ⟨by kernel_rfl⟩
instance : StT Try.prog 90 [(.int .i64 0), (.int .i64 0)] [(0, 1), (1, 1)] := ⟨by kernel_rfl⟩
instance : ZeV Try.prog 90 (.agg #[(.int .i64 0), (.int .i64 0)]) := ⟨by kernel_rfl⟩
instance : ArT Try.prog 90 2 3 1 := ⟨by kernel_rfl⟩
instance : Scl Try.prog 92 := ⟨by kernel_rfl⟩
instance : ZeT Try.prog 92 (.slice none 0 0) := ⟨by kernel_rfl⟩
instance : One Try.prog 92 := ⟨by kernel_rfl⟩
instance : SlT Try.prog 92 94 2 16 (.agg #[(.int .i64 0), (.bool false)]) := ⟨by kernel_rfl⟩
instance : ZeV Try.prog 92 (.slice none 0 0) := ⟨by kernel_rfl⟩
instance : Agg Try.prog 93 2 := ⟨by kernel_rfl, by kernel_rfl⟩
instance : ZeT Try.prog 93 (.agg #[(.int .i64 0), (.bool false)]) := ⟨by kernel_rfl⟩
instance : StT Try.prog 93 [(.int .i64 0), (.bool false)] [(0, 1), (1, 1)] := ⟨by kernel_rfl⟩
instance : Fld Try.prog 93 0 0 3 := ⟨by kernel_rfl⟩
instance : Fld Try.prog 93 1 1 4 := ⟨by kernel_rfl⟩
instance : ZeV Try.prog 93 (.agg #[(.int .i64 0), (.bool false)]) := ⟨by kernel_rfl⟩
instance : Agg Try.prog 94 2 := ⟨by kernel_rfl, by kernel_rfl⟩
instance : ZeT Try.prog 94 (.agg #[(.int .i64 0), (.bool false)]) := ⟨by kernel_rfl⟩
instance : StT Try.prog 94 [(.int .i64 0), (.bool false)] [(0, 1), (1, 1)] := ⟨by kernel_rfl⟩
instance : Fld Try.prog 94 0 0 3 := ⟨by kernel_rfl⟩
instance : Fld Try.prog 94 1 1 4 := ⟨by kernel_rfl⟩
instance : ZeV Try.prog 94 (.agg #[(.int .i64 0), (.bool false)]) := ⟨by kernel_rfl⟩
instance : Scl Try.prog 98 := ⟨by kernel_rfl⟩
instance : ZeT Try.prog 98 (.int .u64 0) := ⟨by kernel_rfl⟩
instance : One Try.prog 98 := ⟨by kernel_rfl⟩
instance : ZeV Try.prog 98 (.int .u64 0) := ⟨by kernel_rfl⟩
instance : Scl Try.prog 101 := ⟨by kernel_rfl⟩
instance : ZeT Try.prog 101 (.slice none 0 0) := ⟨by kernel_rfl⟩
instance : One Try.prog 101 := ⟨by kernel_rfl⟩
instance : SlT Try.prog 101 22 1 24 (.slice none 0 0) := ⟨by kernel_rfl⟩
instance : ZeV Try.prog 101 (.slice none 0 0) := ⟨by kernel_rfl⟩
instance : Scl Try.prog 102 := ⟨by kernel_rfl⟩
instance : ZeT Try.prog 102 (.slice none 0 0) := ⟨by kernel_rfl⟩
instance : One Try.prog 102 := ⟨by kernel_rfl⟩
instance : SlT Try.prog 102 128 3 24 (.agg #[(.int .i64 0), (.int .i64 0), (.bool false)]) := ⟨by kernel_rfl⟩
instance : ZeV Try.prog 102 (.slice none 0 0) := ⟨by kernel_rfl⟩
instance : Scl Try.prog 103 := ⟨by kernel_rfl⟩
instance : ZeT Try.prog 103 (.slice none 0 0) := ⟨by kernel_rfl⟩
instance : One Try.prog 103 := ⟨by kernel_rfl⟩
instance : SlT Try.prog 103 135 4 40 (.agg #[(.int .i64 0), (.int .i64 0), (.string ByteArray.empty), (.int .i64 0)]) := ⟨by kernel_rfl⟩
instance : ZeV Try.prog 103 (.slice none 0 0) := ⟨by kernel_rfl⟩
instance : Agg Try.prog 104 4 := ⟨by kernel_rfl, by kernel_rfl⟩
instance : ZeT Try.prog 104 (.agg #[(.slice none 0 0), (.slice none 0 0), (.slice none 0 0), (.slice none 0 0)]) := ⟨by kernel_rfl⟩
instance : StT Try.prog 104 [(.slice none 0 0), (.slice none 0 0), (.slice none 0 0), (.slice none 0 0)] [(0, 1), (1, 1), (2, 1), (3, 1)] := ⟨by kernel_rfl⟩
instance : Fld Try.prog 104 0 0 101 := ⟨by kernel_rfl⟩
instance : Fld Try.prog 104 1 1 65 := ⟨by kernel_rfl⟩
instance : Fld Try.prog 104 2 2 102 := ⟨by kernel_rfl⟩
instance : Fld Try.prog 104 3 3 103 := ⟨by kernel_rfl⟩
instance : ZeV Try.prog 104 (.agg #[(.slice none 0 0), (.slice none 0 0), (.slice none 0 0), (.slice none 0 0)]) := ⟨by kernel_rfl⟩
instance : Agg Try.prog 105 4 := ⟨by kernel_rfl, by kernel_rfl⟩
instance : ZeT Try.prog 105 (.agg #[(.slice none 0 0), (.slice none 0 0), (.slice none 0 0), (.slice none 0 0)]) := ⟨by kernel_rfl⟩
instance : StT Try.prog 105 [(.slice none 0 0), (.slice none 0 0), (.slice none 0 0), (.slice none 0 0)] [(0, 1), (1, 1), (2, 1), (3, 1)] := ⟨by kernel_rfl⟩
instance : Fld Try.prog 105 0 0 101 := ⟨by kernel_rfl⟩
instance : Fld Try.prog 105 1 1 65 := ⟨by kernel_rfl⟩
instance : Fld Try.prog 105 2 2 102 := ⟨by kernel_rfl⟩
instance : Fld Try.prog 105 3 3 103 := ⟨by kernel_rfl⟩
instance : ZeV Try.prog 105 (.agg #[(.slice none 0 0), (.slice none 0 0), (.slice none 0 0), (.slice none 0 0)]) := ⟨by kernel_rfl⟩
instance : Agg Try.prog 107 6 := ⟨by kernel_rfl, by kernel_rfl⟩
instance : ZeT Try.prog 107 (.agg #[(.int .i64 0), (.int .i64 0), (.int .i64 0), (.int .i64 0), (.int .i64 0), (.int .i64 0)]) := ⟨by kernel_rfl⟩
instance : StT Try.prog 107 [(.int .i64 0), (.int .i64 0), (.int .i64 0), (.int .i64 0), (.int .i64 0), (.int .i64 0)] [(0, 1), (1, 1), (2, 1), (3, 1), (4, 1), (5, 1)] := ⟨by kernel_rfl⟩
instance : Fld Try.prog 107 0 0 3 := ⟨by kernel_rfl⟩
instance : Fld Try.prog 107 1 1 3 := ⟨by kernel_rfl⟩
instance : Fld Try.prog 107 2 2 3 := ⟨by kernel_rfl⟩
instance : Fld Try.prog 107 3 3 3 := ⟨by kernel_rfl⟩
instance : Fld Try.prog 107 4 4 3 := ⟨by kernel_rfl⟩
instance : Fld Try.prog 107 5 5 3 := ⟨by kernel_rfl⟩
instance : ZeV Try.prog 107 (.agg #[(.int .i64 0), (.int .i64 0), (.int .i64 0), (.int .i64 0), (.int .i64 0), (.int .i64 0)]) := ⟨by kernel_rfl⟩
instance : Agg Try.prog 108 6 := ⟨by kernel_rfl, by kernel_rfl⟩
instance : ZeT Try.prog 108 (.agg #[(.int .i64 0), (.int .i64 0), (.int .i64 0), (.int .i64 0), (.int .i64 0), (.int .i64 0)]) := ⟨by kernel_rfl⟩
instance : StT Try.prog 108 [(.int .i64 0), (.int .i64 0), (.int .i64 0), (.int .i64 0), (.int .i64 0), (.int .i64 0)] [(0, 1), (1, 1), (2, 1), (3, 1), (4, 1), (5, 1)] := ⟨by kernel_rfl⟩
instance : Fld Try.prog 108 0 0 3 := ⟨by kernel_rfl⟩
instance : Fld Try.prog 108 1 1 3 := ⟨by kernel_rfl⟩
instance : Fld Try.prog 108 2 2 3 := ⟨by kernel_rfl⟩
instance : Fld Try.prog 108 3 3 3 := ⟨by kernel_rfl⟩
instance : Fld Try.prog 108 4 4 3 := ⟨by kernel_rfl⟩
instance : Fld Try.prog 108 5 5 3 := ⟨by kernel_rfl⟩
instance : ZeV Try.prog 108 (.agg #[(.int .i64 0), (.int .i64 0), (.int .i64 0), (.int .i64 0), (.int .i64 0), (.int .i64 0)]) := ⟨by kernel_rfl⟩
instance : Scl Try.prog 114 := ⟨by kernel_rfl⟩
instance : ZeT Try.prog 114 (.slice none 0 0) := ⟨by kernel_rfl⟩
instance : One Try.prog 114 := ⟨by kernel_rfl⟩
instance : SlT Try.prog 114 9 1 16 (.string ByteArray.empty) := ⟨by kernel_rfl⟩
instance : ZeV Try.prog 114 (.slice none 0 0) := ⟨by kernel_rfl⟩
instance : Scl Try.prog 124 := ⟨by kernel_rfl⟩
instance : ZeT Try.prog 124 (.int .u32 0) := ⟨by kernel_rfl⟩
instance : One Try.prog 124 := ⟨by kernel_rfl⟩
instance : ZeV Try.prog 124 (.int .u32 0) := ⟨by kernel_rfl⟩
instance : Scl Try.prog 126 := ⟨by kernel_rfl⟩
instance : ZeT Try.prog 126 (.int .u64 0) := ⟨by kernel_rfl⟩
instance : One Try.prog 126 := ⟨by kernel_rfl⟩
instance : ZeV Try.prog 126 (.int .u64 0) := ⟨by kernel_rfl⟩
instance : Agg Try.prog 127 3 := ⟨by kernel_rfl, by kernel_rfl⟩
instance : ZeT Try.prog 127 (.agg #[(.int .i64 0), (.int .i64 0), (.bool false)]) := ⟨by kernel_rfl⟩
instance : StT Try.prog 127 [(.int .i64 0), (.int .i64 0), (.bool false)] [(0, 1), (1, 1), (2, 1)] := ⟨by kernel_rfl⟩
instance : Fld Try.prog 127 0 0 3 := ⟨by kernel_rfl⟩
instance : Fld Try.prog 127 1 1 3 := ⟨by kernel_rfl⟩
instance : Fld Try.prog 127 2 2 4 := ⟨by kernel_rfl⟩
instance : ZeV Try.prog 127 (.agg #[(.int .i64 0), (.int .i64 0), (.bool false)]) := ⟨by kernel_rfl⟩
instance : Agg Try.prog 128 3 := ⟨by kernel_rfl, by kernel_rfl⟩
instance : ZeT Try.prog 128 (.agg #[(.int .i64 0), (.int .i64 0), (.bool false)]) := ⟨by kernel_rfl⟩
instance : StT Try.prog 128 [(.int .i64 0), (.int .i64 0), (.bool false)] [(0, 1), (1, 1), (2, 1)] := ⟨by kernel_rfl⟩
instance : Fld Try.prog 128 0 0 3 := ⟨by kernel_rfl⟩
instance : Fld Try.prog 128 1 1 3 := ⟨by kernel_rfl⟩
instance : Fld Try.prog 128 2 2 4 := ⟨by kernel_rfl⟩
instance : ZeV Try.prog 128 (.agg #[(.int .i64 0), (.int .i64 0), (.bool false)]) := ⟨by kernel_rfl⟩
instance : Scl Try.prog 131 := ⟨by kernel_rfl⟩
instance : PtT Try.prog 131 := ⟨by kernel_rfl⟩
instance : ZeT Try.prog 131 (.pointer none) := ⟨by kernel_rfl⟩
instance : One Try.prog 131 := ⟨by kernel_rfl⟩
instance : ZeV Try.prog 131 (.pointer none) := ⟨by kernel_rfl⟩
instance : Scl Try.prog 132 := ⟨by kernel_rfl⟩
instance : PtT Try.prog 132 := ⟨by kernel_rfl⟩
instance : ZeT Try.prog 132 (.pointer none) := ⟨by kernel_rfl⟩
instance : One Try.prog 132 := ⟨by kernel_rfl⟩
instance : ZeV Try.prog 132 (.pointer none) := ⟨by kernel_rfl⟩
instance : Scl Try.prog 133 := ⟨by kernel_rfl⟩
instance : PtT Try.prog 133 := ⟨by kernel_rfl⟩
instance : ZeT Try.prog 133 (.pointer none) := ⟨by kernel_rfl⟩
instance : One Try.prog 133 := ⟨by kernel_rfl⟩
instance : ZeV Try.prog 133 (.pointer none) := ⟨by kernel_rfl⟩
instance : Agg Try.prog 134 4 := ⟨by kernel_rfl, by kernel_rfl⟩
instance : ZeT Try.prog 134 (.agg #[(.int .i64 0), (.int .i64 0), (.string ByteArray.empty), (.int .i64 0)]) := ⟨by kernel_rfl⟩
instance : StT Try.prog 134 [(.int .i64 0), (.int .i64 0), (.string ByteArray.empty), (.int .i64 0)] [(0, 1), (1, 1), (2, 1), (3, 1)] := ⟨by kernel_rfl⟩
instance : Fld Try.prog 134 0 0 3 := ⟨by kernel_rfl⟩
instance : Fld Try.prog 134 1 1 3 := ⟨by kernel_rfl⟩
instance : Fld Try.prog 134 2 2 9 := ⟨by kernel_rfl⟩
instance : Fld Try.prog 134 3 3 3 := ⟨by kernel_rfl⟩
instance : ZeV Try.prog 134 (.agg #[(.int .i64 0), (.int .i64 0), (.string ByteArray.empty), (.int .i64 0)]) := ⟨by kernel_rfl⟩
instance : Agg Try.prog 135 4 := ⟨by kernel_rfl, by kernel_rfl⟩
instance : ZeT Try.prog 135 (.agg #[(.int .i64 0), (.int .i64 0), (.string ByteArray.empty), (.int .i64 0)]) := ⟨by kernel_rfl⟩
instance : StT Try.prog 135 [(.int .i64 0), (.int .i64 0), (.string ByteArray.empty), (.int .i64 0)] [(0, 1), (1, 1), (2, 1), (3, 1)] := ⟨by kernel_rfl⟩
instance : Fld Try.prog 135 0 0 3 := ⟨by kernel_rfl⟩
instance : Fld Try.prog 135 1 1 3 := ⟨by kernel_rfl⟩
instance : Fld Try.prog 135 2 2 9 := ⟨by kernel_rfl⟩
instance : Fld Try.prog 135 3 3 3 := ⟨by kernel_rfl⟩
instance : ZeV Try.prog 135 (.agg #[(.int .i64 0), (.int .i64 0), (.string ByteArray.empty), (.int .i64 0)]) := ⟨by kernel_rfl⟩
instance : Agg Try.prog 141 4 := ⟨by kernel_rfl, by kernel_rfl⟩
instance : ZeT Try.prog 141 (.agg #[(.pointer none), (.pointer none), (.pointer none), (.string ByteArray.empty)]) := ⟨by kernel_rfl⟩
instance : StT Try.prog 141 [(.pointer none), (.pointer none), (.pointer none), (.string ByteArray.empty)] [(0, 1), (1, 1), (2, 1), (3, 1)] := ⟨by kernel_rfl⟩
instance : Fld Try.prog 141 0 0 17 := ⟨by kernel_rfl⟩
instance : Fld Try.prog 141 1 1 17 := ⟨by kernel_rfl⟩
instance : Fld Try.prog 141 2 2 17 := ⟨by kernel_rfl⟩
instance : Fld Try.prog 141 3 3 9 := ⟨by kernel_rfl⟩
instance : ZeV Try.prog 141 (.agg #[(.pointer none), (.pointer none), (.pointer none), (.string ByteArray.empty)]) := ⟨by kernel_rfl⟩
instance : Agg Try.prog 142 4 := ⟨by kernel_rfl, by kernel_rfl⟩
instance : ZeT Try.prog 142 (.agg #[(.pointer none), (.pointer none), (.pointer none), (.string ByteArray.empty)]) := ⟨by kernel_rfl⟩
instance : StT Try.prog 142 [(.pointer none), (.pointer none), (.pointer none), (.string ByteArray.empty)] [(0, 1), (1, 1), (2, 1), (3, 1)] := ⟨by kernel_rfl⟩
instance : Fld Try.prog 142 0 0 17 := ⟨by kernel_rfl⟩
instance : Fld Try.prog 142 1 1 17 := ⟨by kernel_rfl⟩
instance : Fld Try.prog 142 2 2 17 := ⟨by kernel_rfl⟩
instance : Fld Try.prog 142 3 3 9 := ⟨by kernel_rfl⟩
instance : ZeV Try.prog 142 (.agg #[(.pointer none), (.pointer none), (.pointer none), (.string ByteArray.empty)]) := ⟨by kernel_rfl⟩
instance : Agg Try.prog 143 0 := ⟨by kernel_rfl, by kernel_rfl⟩
instance : ZeT Try.prog 143 (.agg #[]) := ⟨by kernel_rfl⟩
instance : StT Try.prog 143 [] [] := ⟨by kernel_rfl⟩
instance : ZeV Try.prog 143 (.agg #[]) := ⟨by kernel_rfl⟩
instance : ArT Try.prog 143 0 16 1 := ⟨by kernel_rfl⟩
instance : Agg Try.prog 144 0 := ⟨by kernel_rfl, by kernel_rfl⟩
instance : ZeT Try.prog 144 (.agg #[]) := ⟨by kernel_rfl⟩
instance : StT Try.prog 144 [] [(0, 0)] := ⟨by kernel_rfl⟩
instance : ZeV Try.prog 144 (.agg #[]) := ⟨by kernel_rfl⟩
instance : Agg Try.prog 145 0 := ⟨by kernel_rfl, by kernel_rfl⟩
instance : ZeT Try.prog 145 (.agg #[]) := ⟨by kernel_rfl⟩
instance : StT Try.prog 145 [] [(0, 0)] := ⟨by kernel_rfl⟩
instance : ZeV Try.prog 145 (.agg #[]) := ⟨by kernel_rfl⟩
instance : Scl Try.prog 146 := ⟨by kernel_rfl⟩
instance : ZeT Try.prog 146 (.int .u8 0) := ⟨by kernel_rfl⟩
instance : One Try.prog 146 := ⟨by kernel_rfl⟩
instance : ZeV Try.prog 146 (.int .u8 0) := ⟨by kernel_rfl⟩
instance : Scl Try.prog 147 := ⟨by kernel_rfl⟩
instance : ZeT Try.prog 147 (.int .u8 0) := ⟨by kernel_rfl⟩
instance : One Try.prog 147 := ⟨by kernel_rfl⟩
instance : ZeV Try.prog 147 (.int .u8 0) := ⟨by kernel_rfl⟩
instance : Scl Try.prog 149 := ⟨by kernel_rfl⟩
instance : PtT Try.prog 149 := ⟨by kernel_rfl⟩
instance : ZeT Try.prog 149 (.pointer none) := ⟨by kernel_rfl⟩
instance : One Try.prog 149 := ⟨by kernel_rfl⟩
instance : ZeV Try.prog 149 (.pointer none) := ⟨by kernel_rfl⟩
instance : Scl Try.prog 150 := ⟨by kernel_rfl⟩
instance : ZeT Try.prog 150 (.int .i32 0) := ⟨by kernel_rfl⟩
instance : One Try.prog 150 := ⟨by kernel_rfl⟩
instance : ZeV Try.prog 150 (.int .i32 0) := ⟨by kernel_rfl⟩
instance : Scl Try.prog 151 := ⟨by kernel_rfl⟩
instance : ZeT Try.prog 151 (.int .i32 0) := ⟨by kernel_rfl⟩
instance : One Try.prog 151 := ⟨by kernel_rfl⟩
instance : ZeV Try.prog 151 (.int .i32 0) := ⟨by kernel_rfl⟩
instance : Agg Try.prog 152 11 := ⟨by kernel_rfl, by kernel_rfl⟩
instance : ZeT Try.prog 152 (.agg #[(.int .u64 0), (.int .u64 0), (.int .u32 0), (.int .u8 0), (.int .u8 0), (.int .u8 0), (.int .u8 0), .nilFunc, (.pointer none), (.int .i32 0), (.int .i32 0)]) := ⟨by kernel_rfl⟩
instance : StT Try.prog 152 [(.int .u64 0), (.int .u64 0), (.int .u32 0), (.int .u8 0), (.int .u8 0), (.int .u8 0), (.int .u8 0), .nilFunc, (.pointer none), (.int .i32 0), (.int .i32 0)] [(0, 1), (1, 1), (2, 1), (3, 1), (4, 1), (5, 1), (6, 1), (7, 1), (8, 1), (9, 1), (10, 1)] := ⟨by kernel_rfl⟩
instance : Fld Try.prog 152 0 0 12 := ⟨by kernel_rfl⟩
instance : Fld Try.prog 152 1 1 12 := ⟨by kernel_rfl⟩
instance : Fld Try.prog 152 2 2 124 := ⟨by kernel_rfl⟩
instance : Fld Try.prog 152 3 3 146 := ⟨by kernel_rfl⟩
instance : Fld Try.prog 152 4 4 5 := ⟨by kernel_rfl⟩
instance : Fld Try.prog 152 5 5 5 := ⟨by kernel_rfl⟩
instance : Fld Try.prog 152 6 6 147 := ⟨by kernel_rfl⟩
instance : Fld Try.prog 152 7 7 148 := ⟨by kernel_rfl⟩
instance : Fld Try.prog 152 8 8 149 := ⟨by kernel_rfl⟩
instance : Fld Try.prog 152 9 9 150 := ⟨by kernel_rfl⟩
instance : Fld Try.prog 152 10 10 151 := ⟨by kernel_rfl⟩
instance : ZeV Try.prog 152 (.agg #[(.int .u64 0), (.int .u64 0), (.int .u32 0), (.int .u8 0), (.int .u8 0), (.int .u8 0), (.int .u8 0), .nilFunc, (.pointer none), (.int .i32 0), (.int .i32 0)]) := ⟨by kernel_rfl⟩
instance : Agg Try.prog 153 11 := ⟨by kernel_rfl, by kernel_rfl⟩
instance : ZeT Try.prog 153 (.agg #[(.int .u64 0), (.int .u64 0), (.int .u32 0), (.int .u8 0), (.int .u8 0), (.int .u8 0), (.int .u8 0), .nilFunc, (.pointer none), (.int .i32 0), (.int .i32 0)]) := ⟨by kernel_rfl⟩
instance : StT Try.prog 153 [(.int .u64 0), (.int .u64 0), (.int .u32 0), (.int .u8 0), (.int .u8 0), (.int .u8 0), (.int .u8 0), .nilFunc, (.pointer none), (.int .i32 0), (.int .i32 0)] [(0, 1), (1, 1), (2, 1), (3, 1), (4, 1), (5, 1), (6, 1), (7, 1), (8, 1), (9, 1), (10, 1)] := ⟨by kernel_rfl⟩
instance : Fld Try.prog 153 0 0 12 := ⟨by kernel_rfl⟩
instance : Fld Try.prog 153 1 1 12 := ⟨by kernel_rfl⟩
instance : Fld Try.prog 153 2 2 124 := ⟨by kernel_rfl⟩
instance : Fld Try.prog 153 3 3 146 := ⟨by kernel_rfl⟩
instance : Fld Try.prog 153 4 4 5 := ⟨by kernel_rfl⟩
instance : Fld Try.prog 153 5 5 5 := ⟨by kernel_rfl⟩
instance : Fld Try.prog 153 6 6 147 := ⟨by kernel_rfl⟩
instance : Fld Try.prog 153 7 7 148 := ⟨by kernel_rfl⟩
instance : Fld Try.prog 153 8 8 149 := ⟨by kernel_rfl⟩
instance : Fld Try.prog 153 9 9 150 := ⟨by kernel_rfl⟩
instance : Fld Try.prog 153 10 10 151 := ⟨by kernel_rfl⟩
instance : ZeV Try.prog 153 (.agg #[(.int .u64 0), (.int .u64 0), (.int .u32 0), (.int .u8 0), (.int .u8 0), (.int .u8 0), (.int .u8 0), .nilFunc, (.pointer none), (.int .i32 0), (.int .i32 0)]) := ⟨by kernel_rfl⟩
instance : Body Try.prog 2 := ⟨by kernel_rfl⟩
instance : Body Try.prog 3 := ⟨by kernel_rfl⟩
instance : Body Try.prog 4 := ⟨by kernel_rfl⟩
instance : Body Try.prog 5 := ⟨by kernel_rfl⟩
instance : Body Try.prog 6 := ⟨by kernel_rfl⟩
instance : Body Try.prog 7 := ⟨by kernel_rfl⟩
instance : Body Try.prog 8 := ⟨by kernel_rfl⟩
instance : Body Try.prog 9 := ⟨by kernel_rfl⟩
instance : Body Try.prog 10 := ⟨by kernel_rfl⟩
instance : Body Try.prog 11 := ⟨by kernel_rfl⟩
instance : Body Try.prog 12 := ⟨by kernel_rfl⟩
instance : Body Try.prog 13 := ⟨by kernel_rfl⟩
instance : Body Try.prog 14 := ⟨by kernel_rfl⟩
instance : Body Try.prog 15 := ⟨by kernel_rfl⟩
instance : Body Try.prog 16 := ⟨by kernel_rfl⟩
instance : Body Try.prog 17 := ⟨by kernel_rfl⟩
instance : Body Try.prog 18 := ⟨by kernel_rfl⟩
instance : Body Try.prog 19 := ⟨by kernel_rfl⟩
instance : Body Try.prog 20 := ⟨by kernel_rfl⟩
instance : Body Try.prog 21 := ⟨by kernel_rfl⟩
instance : Body Try.prog 22 := ⟨by kernel_rfl⟩
instance : Body Try.prog 23 := ⟨by kernel_rfl⟩
instance : Body Try.prog 24 := ⟨by kernel_rfl⟩
instance : Body Try.prog 25 := ⟨by kernel_rfl⟩
instance : Body Try.prog 26 := ⟨by kernel_rfl⟩
instance : Body Try.prog 27 := ⟨by kernel_rfl⟩
instance : Body Try.prog 28 := ⟨by kernel_rfl⟩
instance : Body Try.prog 29 := ⟨by kernel_rfl⟩
instance : Body Try.prog 30 := ⟨by kernel_rfl⟩
instance : Body Try.prog 31 := ⟨by kernel_rfl⟩
instance : Body Try.prog 32 := ⟨by kernel_rfl⟩
instance : Body Try.prog 33 := ⟨by kernel_rfl⟩
instance : Body Try.prog 34 := ⟨by kernel_rfl⟩
instance : Body Try.prog 35 := ⟨by kernel_rfl⟩
instance : Body Try.prog 36 := ⟨by kernel_rfl⟩
instance : Body Try.prog 37 := ⟨by kernel_rfl⟩
instance : Body Try.prog 38 := ⟨by kernel_rfl⟩
instance : Body Try.prog 39 := ⟨by kernel_rfl⟩
instance : Body Try.prog 40 := ⟨by kernel_rfl⟩
instance : Body Try.prog 41 := ⟨by kernel_rfl⟩
instance : Body Try.prog 42 := ⟨by kernel_rfl⟩
instance : Body Try.prog 43 := ⟨by kernel_rfl⟩
instance : Body Try.prog 44 := ⟨by kernel_rfl⟩
instance : Body Try.prog 45 := ⟨by kernel_rfl⟩
instance : Body Try.prog 46 := ⟨by kernel_rfl⟩
instance : Body Try.prog 47 := ⟨by kernel_rfl⟩
instance : Body Try.prog 48 := ⟨by kernel_rfl⟩
instance : Body Try.prog 49 := ⟨by kernel_rfl⟩
instance : Body Try.prog 50 := ⟨by kernel_rfl⟩
instance : Body Try.prog 51 := ⟨by kernel_rfl⟩
instance : Body Try.prog 52 := ⟨by kernel_rfl⟩
instance : Body Try.prog 53 := ⟨by kernel_rfl⟩
instance : Body Try.prog 54 := ⟨by kernel_rfl⟩
instance : Body Try.prog 55 := ⟨by kernel_rfl⟩
instance : Body Try.prog 56 := ⟨by kernel_rfl⟩
instance : Body Try.prog 57 := ⟨by kernel_rfl⟩
instance : Body Try.prog 58 := ⟨by kernel_rfl⟩
instance : Body Try.prog 59 := ⟨by kernel_rfl⟩
instance : Body Try.prog 60 := ⟨by kernel_rfl⟩
instance : Body Try.prog 61 := ⟨by kernel_rfl⟩
instance : Body Try.prog 62 := ⟨by kernel_rfl⟩
instance : Body Try.prog 63 := ⟨by kernel_rfl⟩
instance : Body Try.prog 64 := ⟨by kernel_rfl⟩
instance : Body Try.prog 65 := ⟨by kernel_rfl⟩
instance : Body Try.prog 66 := ⟨by kernel_rfl⟩
instance : Body Try.prog 67 := ⟨by kernel_rfl⟩
instance : Body Try.prog 68 := ⟨by kernel_rfl⟩
instance : Body Try.prog 69 := ⟨by kernel_rfl⟩
instance : Body Try.prog 70 := ⟨by kernel_rfl⟩
instance : Body Try.prog 71 := ⟨by kernel_rfl⟩
instance : Body Try.prog 72 := ⟨by kernel_rfl⟩
instance : Body Try.prog 73 := ⟨by kernel_rfl⟩
instance : Body Try.prog 74 := ⟨by kernel_rfl⟩
instance : Body Try.prog 75 := ⟨by kernel_rfl⟩
instance : Body Try.prog 76 := ⟨by kernel_rfl⟩
instance : Body Try.prog 77 := ⟨by kernel_rfl⟩
instance : Body Try.prog 78 := ⟨by kernel_rfl⟩
instance : Body Try.prog 79 := ⟨by kernel_rfl⟩
instance : Body Try.prog 80 := ⟨by kernel_rfl⟩
instance : Body Try.prog 81 := ⟨by kernel_rfl⟩
instance : Body Try.prog 82 := ⟨by kernel_rfl⟩
instance : Body Try.prog 83 := ⟨by kernel_rfl⟩
instance : Body Try.prog 84 := ⟨by kernel_rfl⟩
instance : Body Try.prog 85 := ⟨by kernel_rfl⟩
instance : Body Try.prog 86 := ⟨by kernel_rfl⟩
instance : Body Try.prog 87 := ⟨by kernel_rfl⟩
instance : Body Try.prog 88 := ⟨by kernel_rfl⟩
instance : Body Try.prog 89 := ⟨by kernel_rfl⟩
instance : Body Try.prog 90 := ⟨by kernel_rfl⟩
instance : Body Try.prog 91 := ⟨by kernel_rfl⟩
instance : Body Try.prog 92 := ⟨by kernel_rfl⟩
instance : Body Try.prog 93 := ⟨by kernel_rfl⟩
instance : Body Try.prog 94 := ⟨by kernel_rfl⟩
theorem Try.mixed : Try.prog.follows .mixedOrders = true := by kernel_rfl
end Go.Proofs.Ytoikjjpleonllaa

/- The text GPlain. -/
set_option linter.unusedVariables false
set_option linter.unusedSimpArgs false
/-! Collectives, plain. -/
namespace Gr
open Go Go.KK
def lookI (m : List (Int × Int)) (k : Int) : Option Int := (m.find? (fun p => decide (k = p.1))).map (·.2)
def setI (m : List (Int × Int)) (k v : Int) : List (Int × Int) := if (lookI m k).isSome then m.map (fun p => if k = p.1 then (p.1, v) else p) else m ++ [(k, v)]
def kvs (m : List (Int × Int)) : List (Int × Value) := m.map fun p => (p.1, .int .i64 p.2)
theorem kvs_look (k : Int) : ∀ m : List (Int × Int), alook (kvs m) k = (lookI m k).map (Value.int .i64)
  | [] => rfl
  | p :: m => by
    have ih := kvs_look k m
    unfold alook lookI kvs at *
    rw [List.map_cons, List.find?_cons, List.find?_cons]
    by_cases h : k = p.1
    · simp [h]
    · simp only [h, decide_false]; exact ih
theorem kvs_set (m : List (Int × Int)) (k v : Int) : aset (kvs m) k (.int .i64 v) = kvs (setI m k v) := by
  unfold aset setI
  rw [kvs_look]
  cases e : lookI m k with
  | none => simp [kvs]
  | some s =>
    simp only [Option.map_some, Option.isSome_some, if_true]
    unfold kvs
    rw [List.map_map, List.map_map]
    apply List.map_congr_left
    intro p _
    simp only [Function.comp]
    split <;> rfl
theorem kvs_len (m : List (Int × Int)) : (kvs m).length = m.length := by simp [kvs]
/-- A member: its value, its round, what has come, whether it has its result, its result. -/
structure Mm where
  v : Int
  r : Nat
  got : List (Int × Int)
  has : Bool
  res : Int
  deriving Inhabited
/-- A message. -/
structure Ms where
  fr : Nat
  to : Nat
  v : Int
  up : Bool
  rd : Nat
  deriving Inhabited
structure Gs where
  kind : ByteArray
  op : ByteArray
  root : Int
  ms : List Mm
  fly : List Ms
  sent : Int
def wr (z : Int) : Int := IntKind.i64.wrap z
def opV (o : ByteArray) (a b : Int) : Int :=
  if o = ⟨#[43]⟩ then wr (a + b) else if o = ⟨#[42]⟩ then wr (a * b) else if o = ⟨#[38]⟩ ∨ o = ⟨#[109, 105, 110]⟩ then min a b else max a b
def okOp (o : ByteArray) : Prop := o = ⟨#[43]⟩ ∨ o = ⟨#[42]⟩ ∨ o = ⟨#[109, 105, 110]⟩ ∨ o = ⟨#[109, 97, 120]⟩ ∨ o = ⟨#[38]⟩ ∨ o = ⟨#[124]⟩
instance (o : ByteArray) : Decidable (okOp o) := inferInstanceAs (Decidable (_ ∨ _))
def sScan : ByteArray := ⟨#[115, 99, 97, 110]⟩
def put (g : Gs) (m : Ms) : Gs := { g with fly := g.fly ++ [m], sent := wr (g.sent + 1) }
def mem (g : Gs) (p : Nat) : Mm := g.ms.getD p default
def setM (g : Gs) (p : Nat) (m : Mm) : Gs := { g with ms := g.ms.set p m }
def send (g : Gs) (p : Nat) : Gs := if p + 2 ^ (mem g p).r < g.ms.length then put g ⟨p, p + 2 ^ (mem g p).r, (mem g p).v, false, (mem g p).r⟩ else g
/-- A round more. -/
def step (g : Gs) (p : Nat) : Gs := send (setM g p { mem g p with r := (mem g p).r + 1 }) p
def scan : Nat → Gs → Nat → Gs
  | 0, g, _ => g
  | f + 1, g, p =>
    if 2 ^ (mem g p).r < g.ms.length then
      if 2 ^ (mem g p).r ≤ p then
        match lookI (mem g p).got ((mem g p).r : Int) with
        | none => g
        | some s => scan f (step (setM g p { mem g p with v := opV g.op s (mem g p).v }) p) p
      else scan f (step g p) p
    else setM g p { mem g p with res := (mem g p).v, has := true }
/-- Well-formed: few members, rounds that are small, messages to members. -/
def wf (g : Gs) : Prop := 1 ≤ g.ms.length ∧ g.ms.length ≤ 8 ∧ (∀ m ∈ g.ms, m.r ≤ 3) ∧ ∀ m ∈ g.fly, m.to < g.ms.length ∧ m.fr < g.ms.length ∧ m.rd ≤ 3
theorem set_len (g : Gs) (p : Nat) (m : Mm) : (setM g p m).ms.length = g.ms.length := by simp [setM]
theorem send_len (g : Gs) (p : Nat) : (send g p).ms.length = g.ms.length := by unfold send; split <;> rfl
theorem send_ms (g : Gs) (p : Nat) : (send g p).ms = g.ms := by unfold send; split <;> rfl
theorem mem_get {g : Gs} {p : Nat} (h : p < g.ms.length) : g.ms[p]? = some (mem g p) := by
  unfold mem; rw [List.getD_eq_getElem?_getD, List.getElem?_eq_getElem h]; rfl
theorem mem_set {g : Gs} {p : Nat} {m : Mm} (h : p < g.ms.length) : mem (setM g p m) p = m := by
  unfold mem setM; rw [List.getD_eq_getElem?_getD, List.getElem?_set]; simp [h]
theorem mem_mem {g : Gs} {p : Nat} (h : p < g.ms.length) : mem g p ∈ g.ms := List.mem_of_getElem? (mem_get h)
theorem wf_set {g : Gs} {p : Nat} {m : Mm} (h : wf g) (hm : m.r ≤ 3) : wf (setM g p m) := by
  refine ⟨by rw [set_len]; exact h.1, by rw [set_len]; exact h.2.1, fun x hx => ?_, fun x hx => by rw [set_len]; exact h.2.2.2 x hx⟩
  rcases List.mem_or_eq_of_mem_set hx with hx | rfl
  · exact h.2.2.1 x hx
  · exact hm
theorem wf_put {g : Gs} {m : Ms} (h : wf g) (hm : m.to < g.ms.length ∧ m.fr < g.ms.length ∧ m.rd ≤ 3) : wf (put g m) := by
  refine ⟨h.1, h.2.1, h.2.2.1, fun x hx => ?_⟩
  rcases List.mem_append.1 hx with hx | hx
  · exact h.2.2.2 x hx
  · rw [List.mem_singleton.1 hx]; exact hm
theorem wf_send {g : Gs} {p : Nat} (h : wf g) (hp : p < g.ms.length) : wf (send g p) := by
  unfold send
  split
  · rename_i g1; exact wf_put h ⟨g1, hp, h.2.2.1 _ (mem_mem hp)⟩
  · exact h
end Gr
namespace Gr
open Go Go.KK
theorem setM_set (g : Gs) (p : Nat) (a b : Mm) : setM (setM g p a) p b = setM g p b := by unfold setM; simp
theorem scan_end {f : Nat} {g : Gs} {p : Nat} (hr : ¬ 2 ^ (mem g p).r < g.ms.length) : scan (f + 1) g p = setM g p { mem g p with res := (mem g p).v, has := true } := by
  unfold scan; rw [if_neg hr]
theorem scan_wait {f : Nat} {g : Gs} {p : Nat} (hr : 2 ^ (mem g p).r < g.ms.length) (hp : 2 ^ (mem g p).r ≤ p) (h : lookI (mem g p).got ((mem g p).r : Int) = none) : scan (f + 1) g p = g := by
  unfold scan; rw [if_pos hr, if_pos hp, h]
theorem scan_some {f : Nat} {g : Gs} {p : Nat} {s : Int} (hl : p < g.ms.length) (hr : 2 ^ (mem g p).r < g.ms.length) (hp : 2 ^ (mem g p).r ≤ p) (h : lookI (mem g p).got ((mem g p).r : Int) = some s) :
    scan (f + 1) g p = scan f (send (setM g p { mem g p with v := opV g.op s (mem g p).v, r := (mem g p).r + 1 }) p) p := by
  conv => lhs; unfold scan
  rw [if_pos hr, if_pos hp, h]
  show scan f (step (setM g p { mem g p with v := opV g.op s (mem g p).v }) p) p = _
  unfold step
  rw [setM_set, mem_set hl]
theorem scan_go {f : Nat} {g : Gs} {p : Nat} (hr : 2 ^ (mem g p).r < g.ms.length) (hp : ¬ 2 ^ (mem g p).r ≤ p) : scan (f + 1) g p = scan f (send (setM g p { mem g p with r := (mem g p).r + 1 }) p) p := by
  conv => lhs; unfold scan
  rw [if_pos hr, if_neg hp]; rfl
theorem r_lt {g : Gs} {p : Nat} (h : wf g) (hp : p < g.ms.length) (hr : 2 ^ (mem g p).r < g.ms.length) : (mem g p).r ≤ 2 := by
  have h8 := h.2.1
  have h4 := h.2.2.1 _ (mem_mem hp)
  rcases Nat.lt_or_ge (mem g p).r 3 with g1 | g1
  · omega
  · have : (mem g p).r = 3 := by omega
    rw [this] at hr; omega
theorem send_fly (g : Gs) (p : Nat) : (send g p).fly.length ≤ g.fly.length + 1 := by unfold send; split <;> simp [put]
theorem send_op (g : Gs) (p : Nat) : (send g p).op = g.op ∧ (send g p).kind = g.kind ∧ (send g p).root = g.root := by unfold send; split <;> simp [put]
theorem send_mem (g : Gs) (p : Nat) : mem (send g p) p = mem g p := by unfold mem; rw [send_ms]
theorem scan_keep : ∀ (f : Nat) {g : Gs} {p : Nat}, wf g → p < g.ms.length → wf (scan f g p) ∧ (scan f g p).ms.length = g.ms.length ∧ (scan f g p).fly.length ≤ g.fly.length + f ∧ (scan f g p).op = g.op ∧ (scan f g p).kind = g.kind ∧ (scan f g p).root = g.root
  | 0, g, p, h, hp => ⟨h, rfl, Nat.le_refl _, rfl, rfl, rfl⟩
  | f + 1, g, p, h, hp => by
    by_cases hr : 2 ^ (mem g p).r < g.ms.length
    · have h2 := r_lt h hp hr
      have go : ∀ m : Mm, m.r = (mem g p).r + 1 → wf (scan f (send (setM g p m) p) p) ∧ (scan f (send (setM g p m) p) p).ms.length = g.ms.length ∧ (scan f (send (setM g p m) p) p).fly.length ≤ g.fly.length + (f + 1) ∧ (scan f (send (setM g p m) p) p).op = g.op ∧ (scan f (send (setM g p m) p) p).kind = g.kind ∧ (scan f (send (setM g p m) p) p).root = g.root := fun m hm => by
        have w1 := wf_set (p := p) (m := m) h (by omega)
        have w2 := wf_send w1 (p := p) (by rw [set_len]; exact hp)
        obtain ⟨a1, a2, a3, a4, a5, a6⟩ := scan_keep f w2 (p := p) (by rw [send_len, set_len]; exact hp)
        have h3 := send_fly (setM g p m) p
        have h4 := send_op (setM g p m) p
        refine ⟨a1, by rw [a2, send_len, set_len], ?_, a4.trans h4.1, a5.trans h4.2.1, a6.trans h4.2.2⟩
        have h5 : (setM g p m).fly.length = g.fly.length := rfl
        omega
      by_cases hp2 : 2 ^ (mem g p).r ≤ p
      · cases hl : lookI (mem g p).got ((mem g p).r : Int) with
        | none => rw [scan_wait hr hp2 hl]; exact ⟨h, rfl, by omega, rfl, rfl, rfl⟩
        | some s => rw [scan_some hp hr hp2 hl]; exact go _ rfl
      · rw [scan_go hr hp2]; exact go _ rfl
    · rw [scan_end hr]
      have h9 := h.2.2.1 _ (mem_mem hp)
      exact ⟨wf_set h h9, set_len _ _ _, by show g.fly.length ≤ _; omega, rfl, rfl, rfl⟩
theorem shl_ok {r : Nat} (h : r ≤ 3) : IntKind.i64.wrap ((1 : Int) * 2 ^ r) = 1 * 2 ^ r := by
  match r, h with
  | 0, _ => rfl
  | 1, _ => rfl
  | 2, _ => rfl
  | 3, _ => rfl
theorem shl_nat (r : Nat) : (1 : Int) * 2 ^ r = ((2 ^ r : Nat) : Int) := by simp
theorem pow_le {r : Nat} (h : r ≤ 3) : 2 ^ r ≤ 8 := by
  match r, h with
  | 0, _ => decide
  | 1, _ => decide
  | 2, _ => decide
  | 3, _ => decide
end Gr
namespace Gr
open Go Go.KK
/-- Behind the beginning of some members of a scan. -/
def begS (g : Gs) : Nat → Gs
  | 0 => g
  | k + 1 => scan 4 (send (begS g k) k) k
theorem begS_keep {g : Gs} (h : wf g) : ∀ k, k ≤ g.ms.length → wf (begS g k) ∧ (begS g k).ms.length = g.ms.length ∧ (begS g k).fly.length ≤ g.fly.length + 5 * k ∧ (begS g k).op = g.op ∧ (begS g k).kind = g.kind ∧ (begS g k).root = g.root
  | 0, _ => ⟨h, rfl, Nat.le_refl _, rfl, rfl, rfl⟩
  | k + 1, hk => by
    obtain ⟨a1, a2, a3, a4, a5, a6⟩ := begS_keep h k (by omega)
    have w2 := wf_send a1 (p := k) (by omega)
    obtain ⟨b1, b2, b3, b4, b5, b6⟩ := scan_keep 4 w2 (p := k) (by rw [send_len]; omega)
    have h3 := send_fly (begS g k) k
    have h4 := send_op (begS g k) k
    refine ⟨b1, by show (scan 4 _ k).ms.length = _; rw [b2, send_len]; exact a2, ?_, b4.trans (h4.1.trans a4), b5.trans (h4.2.1.trans a5), b6.trans (h4.2.2.trans a6)⟩
    show (scan 4 _ k).fly.length ≤ _
    omega
/-- A message taken out. -/
def takeM (g : Gs) (k : Nat) : Gs := { g with fly := g.fly.take k ++ g.fly.drop (k + 1) }
def msg (g : Gs) (k : Nat) : Ms := g.fly.getD k default
/-- What a scan does with a message. -/
def gotM (g : Gs) (m : Ms) : Mm := { mem g m.to with got := setI (mem g m.to).got (m.rd : Int) m.v }
def dlvS (g : Gs) (k : Nat) : Gs := scan 4 (setM (takeM g k) (msg g k).to (gotM g (msg g k))) (msg g k).to
theorem msg_get {g : Gs} {k : Nat} (h : k < g.fly.length) : g.fly[k]? = some (msg g k) := by
  unfold msg; rw [List.getD_eq_getElem?_getD, List.getElem?_eq_getElem h]; rfl
theorem wf_take {g : Gs} (h : wf g) (k : Nat) : wf (takeM g k) := ⟨h.1, h.2.1, h.2.2.1, fun m hm => h.2.2.2 m (by
  rcases List.mem_append.1 hm with hm | hm
  · exact List.mem_of_mem_take hm
  · exact List.mem_of_mem_drop hm)⟩
theorem dlvS_keep {g : Gs} {k : Nat} (h : wf g) (hk : k < g.fly.length) : wf (dlvS g k) ∧ (dlvS g k).ms.length = g.ms.length ∧ (dlvS g k).fly.length ≤ g.fly.length + 4 ∧ (dlvS g k).op = g.op ∧ (dlvS g k).kind = g.kind ∧ (dlvS g k).root = g.root := by
  have hm := List.mem_of_getElem? (msg_get hk)
  have hto := (h.2.2.2 _ hm).1
  have h9 := h.2.2.1 _ (mem_mem hto)
  have w1 := wf_set (p := (msg g k).to) (m := gotM g (msg g k)) (wf_take h k) h9
  obtain ⟨b1, b2, b3, b4, b5, b6⟩ := scan_keep 4 w1 (p := (msg g k).to) (by rw [set_len]; exact hto)
  refine ⟨b1, by unfold dlvS; rw [b2, set_len]; rfl, ?_, b4, b5, b6⟩
  unfold dlvS
  have e : (setM (takeM g k) (msg g k).to (gotM g (msg g k))).fly.length ≤ g.fly.length := by
    show (g.fly.take k ++ g.fly.drop (k + 1)).length ≤ _
    rw [List.length_append, List.length_take, List.length_drop]; omega
  omega
def dlvN (g : Gs) : Nat → Gs
  | 0 => g
  | k + 1 => dlvS (dlvN g k) 0
theorem dlvN_keep {g : Gs} (h : wf g) : ∀ K, (∀ i, i < K → 0 < (dlvN g i).fly.length) → wf (dlvN g K) ∧ (dlvN g K).ms.length = g.ms.length ∧ (dlvN g K).fly.length ≤ g.fly.length + 4 * K ∧ (dlvN g K).op = g.op ∧ (dlvN g K).kind = g.kind ∧ (dlvN g K).root = g.root
  | 0, _ => ⟨h, rfl, Nat.le_refl _, rfl, rfl, rfl⟩
  | K + 1, hp => by
    obtain ⟨a1, a2, a3, a4, a5, a6⟩ := dlvN_keep h K fun i hi => hp i (by omega)
    obtain ⟨b1, b2, b3, b4, b5, b6⟩ := dlvS_keep a1 (hp K (by omega))
    refine ⟨b1, by show (dlvS _ 0).ms.length = _; rw [b2, a2], ?_, b4.trans a4, b5.trans a5, b6.trans a6⟩
    show (dlvS _ 0).fly.length ≤ _
    omega
def sRed : ByteArray := ⟨#[114, 101, 100, 117, 99, 101]⟩
def resV (g : Gs) (q : Int) : Int × Int := if q < 0 ∨ (g.ms.length : Int) ≤ q ∨ (g.kind = sRed ∧ q ≠ g.root) then (0, 2) else if (mem g q.toNat).has = true then ((mem g q.toNat).res, 0) else (0, 171)
/-- A scan at its beginning. -/
def scan0 (vs : List Int) : Gs := ⟨sScan, ⟨#[43]⟩, 0, vs.map fun v => ⟨v, 0, [], false, 0⟩, [], 0⟩
theorem wf_scan0 {vs : List Int} (h1 : 1 ≤ vs.length) (h8 : vs.length ≤ 8) : wf (scan0 vs) := by
  refine ⟨by simpa [scan0] using h1, by simpa [scan0] using h8, fun m hm => ?_, fun m hm => by simp [scan0] at hm⟩
  obtain ⟨v, _, rfl⟩ := List.mem_map.1 hm
  exact Nat.zero_le _
end Gr
