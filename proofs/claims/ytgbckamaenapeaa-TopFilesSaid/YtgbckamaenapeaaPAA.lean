/-
  A part of the proof of the claim that this folder bears.
-/
import Derived.Test.YtgbckamaenapeaaProg
import Derived.Test.YtgbckamaenapeaaKB
import Derived.Test.YtgbckamaenapeaaKD
/- The text HFacts. -/
/- Facts on the types and the functions of the program, each by the kernel. -/
namespace Go.Proofs.Ytgbckamaenapeaa
open Go Go.KK

instance : Scl Try.prog 2 := ⟨by kernel_rfl⟩
instance : ZeT Try.prog 2 (.int .i64 0) := ⟨by kernel_rfl⟩
instance : One Try.prog 2 := ⟨by kernel_rfl⟩
instance : KeyIs Try.prog 2 intK := ⟨by kernel_rfl⟩
instance : ZeV Try.prog 2 (.int .i64 0) := ⟨by kernel_rfl⟩
instance : Scl Try.prog 3 := ⟨by kernel_rfl⟩
instance : ZeT Try.prog 3 (.int .i64 0) := ⟨by kernel_rfl⟩
instance : One Try.prog 3 := ⟨by kernel_rfl⟩
instance : KeyIs Try.prog 3 intK := ⟨by kernel_rfl⟩
instance : ZeV Try.prog 3 (.int .i64 0) := ⟨by kernel_rfl⟩
instance : Scl Try.prog 4 := ⟨by kernel_rfl⟩
instance : BoT Try.prog 4 := ⟨by kernel_rfl⟩
instance : ZeT Try.prog 4 (.bool false) := ⟨by kernel_rfl⟩
instance : One Try.prog 4 := ⟨by kernel_rfl⟩
instance : ZeV Try.prog 4 (.bool false) := ⟨by kernel_rfl⟩
instance : Scl Try.prog 5 := ⟨by kernel_rfl⟩
instance : ZeT Try.prog 5 (.int .u8 0) := ⟨by kernel_rfl⟩
instance : One Try.prog 5 := ⟨by kernel_rfl⟩
instance : ZeV Try.prog 5 (.int .u8 0) := ⟨by kernel_rfl⟩
instance : Scl Try.prog 6 := ⟨by kernel_rfl⟩
instance : ZeT Try.prog 6 (.int .u8 0) := ⟨by kernel_rfl⟩
instance : One Try.prog 6 := ⟨by kernel_rfl⟩
instance : ZeV Try.prog 6 (.int .u8 0) := ⟨by kernel_rfl⟩
instance : Agg Try.prog 7 4 := ⟨by kernel_rfl, by kernel_rfl⟩
instance : ZeT Try.prog 7 (.agg #[(.int .i64 0), (.int .i64 0), (.bool false), (.int .u8 0)]) := ⟨by kernel_rfl⟩
instance : StT Try.prog 7 [(.int .i64 0), (.int .i64 0), (.bool false), (.int .u8 0)] [(0, 1), (1, 1), (2, 1), (3, 1)] := ⟨by kernel_rfl⟩
instance : Fld Try.prog 7 0 0 2 := ⟨by kernel_rfl⟩
instance : Fld Try.prog 7 1 1 3 := ⟨by kernel_rfl⟩
instance : Fld Try.prog 7 2 2 4 := ⟨by kernel_rfl⟩
instance : Fld Try.prog 7 3 3 6 := ⟨by kernel_rfl⟩
instance : ZeV Try.prog 7 (.agg #[(.int .i64 0), (.int .i64 0), (.bool false), (.int .u8 0)]) := ⟨by kernel_rfl⟩
instance : Agg Try.prog 8 4 := ⟨by kernel_rfl, by kernel_rfl⟩
instance : ZeT Try.prog 8 (.agg #[(.int .i64 0), (.int .i64 0), (.bool false), (.int .u8 0)]) := ⟨by kernel_rfl⟩
instance : StT Try.prog 8 [(.int .i64 0), (.int .i64 0), (.bool false), (.int .u8 0)] [(0, 1), (1, 1), (2, 1), (3, 1)] := ⟨by kernel_rfl⟩
instance : Fld Try.prog 8 0 0 2 := ⟨by kernel_rfl⟩
instance : Fld Try.prog 8 1 1 3 := ⟨by kernel_rfl⟩
instance : Fld Try.prog 8 2 2 4 := ⟨by kernel_rfl⟩
instance : Fld Try.prog 8 3 3 6 := ⟨by kernel_rfl⟩
instance : ZeV Try.prog 8 (.agg #[(.int .i64 0), (.int .i64 0), (.bool false), (.int .u8 0)]) := ⟨by kernel_rfl⟩
instance : Scl Try.prog 9 := ⟨by kernel_rfl⟩
instance : ZeT Try.prog 9 (.string ByteArray.empty) := ⟨by kernel_rfl⟩
instance : One Try.prog 9 := ⟨by kernel_rfl⟩
instance : StT' Try.prog 9 := ⟨by kernel_rfl⟩
instance : KeyIs Try.prog 9 strK := ⟨by kernel_rfl⟩
instance : ZeV Try.prog 9 (.string ByteArray.empty) := ⟨by kernel_rfl⟩
instance : Scl Try.prog 10 := ⟨by kernel_rfl⟩
instance : ZeT Try.prog 10 (.string ByteArray.empty) := ⟨by kernel_rfl⟩
instance : One Try.prog 10 := ⟨by kernel_rfl⟩
instance : StT' Try.prog 10 := ⟨by kernel_rfl⟩
instance : KeyIs Try.prog 10 strK := ⟨by kernel_rfl⟩
instance : ZeV Try.prog 10 (.string ByteArray.empty) := ⟨by kernel_rfl⟩
instance : Scl Try.prog 11 := ⟨by kernel_rfl⟩
instance : ZeT Try.prog 11 (.string ByteArray.empty) := ⟨by kernel_rfl⟩
instance : One Try.prog 11 := ⟨by kernel_rfl⟩
instance : StT' Try.prog 11 := ⟨by kernel_rfl⟩
instance : KeyIs Try.prog 11 strK := ⟨by kernel_rfl⟩
instance : ZeV Try.prog 11 (.string ByteArray.empty) := ⟨by kernel_rfl⟩
instance : Scl Try.prog 12 := ⟨by kernel_rfl⟩
instance : ZeT Try.prog 12 (.int .u64 0) := ⟨by kernel_rfl⟩
instance : One Try.prog 12 := ⟨by kernel_rfl⟩
instance : ZeV Try.prog 12 (.int .u64 0) := ⟨by kernel_rfl⟩
instance : Agg Try.prog 13 2 := ⟨by kernel_rfl, by kernel_rfl⟩
instance : ZeT Try.prog 13 (.agg #[(.string ByteArray.empty), (.int .u64 0)]) := ⟨by kernel_rfl⟩
instance : StT Try.prog 13 [(.string ByteArray.empty), (.int .u64 0)] [(0, 1), (1, 1)] := ⟨by kernel_rfl⟩
instance : Fld Try.prog 13 0 0 9 := ⟨by kernel_rfl⟩
instance : Fld Try.prog 13 1 1 12 := ⟨by kernel_rfl⟩
instance : ZeV Try.prog 13 (.agg #[(.string ByteArray.empty), (.int .u64 0)]) := ⟨by kernel_rfl⟩
instance : Agg Try.prog 14 2 := ⟨by kernel_rfl, by kernel_rfl⟩
instance : ZeT Try.prog 14 (.agg #[(.string ByteArray.empty), (.int .u64 0)]) := ⟨by kernel_rfl⟩
instance : StT Try.prog 14 [(.string ByteArray.empty), (.int .u64 0)] [(0, 1), (1, 1)] := ⟨by kernel_rfl⟩
instance : Fld Try.prog 14 0 0 9 := ⟨by kernel_rfl⟩
instance : Fld Try.prog 14 1 1 12 := ⟨by kernel_rfl⟩
instance : ZeV Try.prog 14 (.agg #[(.string ByteArray.empty), (.int .u64 0)]) := ⟨by kernel_rfl⟩
instance : Scl Try.prog 15 := ⟨by kernel_rfl⟩
instance : PtT Try.prog 15 := ⟨by kernel_rfl⟩
instance : ZeT Try.prog 15 (.pointer none) := ⟨by kernel_rfl⟩
instance : One Try.prog 15 := ⟨by kernel_rfl⟩
instance : ZeV Try.prog 15 (.pointer none) := ⟨by kernel_rfl⟩
instance : Scl Try.prog 16 := ⟨by kernel_rfl⟩
instance : PtT Try.prog 16 := ⟨by kernel_rfl⟩
instance : ZeT Try.prog 16 (.pointer none) := ⟨by kernel_rfl⟩
instance : One Try.prog 16 := ⟨by kernel_rfl⟩
instance : ZeV Try.prog 16 (.pointer none) := ⟨by kernel_rfl⟩
instance : Scl Try.prog 17 := ⟨by kernel_rfl⟩
instance : PtT Try.prog 17 := ⟨by kernel_rfl⟩
instance : ZeT Try.prog 17 (.pointer none) := ⟨by kernel_rfl⟩
instance : One Try.prog 17 := ⟨by kernel_rfl⟩
instance : ZeV Try.prog 17 (.pointer none) := ⟨by kernel_rfl⟩
instance : Agg Try.prog 18 1 := ⟨by kernel_rfl, by kernel_rfl⟩
instance : ZeT Try.prog 18 (.agg #[(.pointer none)]) := ⟨by kernel_rfl⟩
instance : StT Try.prog 18 [(.pointer none)] [(0, 1)] := ⟨by kernel_rfl⟩
instance : One Try.prog 18 := ⟨by kernel_rfl⟩
instance : Fld Try.prog 18 0 0 17 := ⟨by kernel_rfl⟩
instance : ZeV Try.prog 18 (.agg #[(.pointer none)]) := ⟨by kernel_rfl⟩
instance : Agg Try.prog 19 1 := ⟨by kernel_rfl, by kernel_rfl⟩
instance : ZeT Try.prog 19 (.agg #[(.pointer none)]) := ⟨by kernel_rfl⟩
instance : StT Try.prog 19 [(.pointer none)] [(0, 1)] := ⟨by kernel_rfl⟩
instance : One Try.prog 19 := ⟨by kernel_rfl⟩
instance : Fld Try.prog 19 0 0 17 := ⟨by kernel_rfl⟩
instance : ZeV Try.prog 19 (.agg #[(.pointer none)]) := ⟨by kernel_rfl⟩
instance : Scl Try.prog 20 := ⟨by kernel_rfl⟩
instance : ZeT Try.prog 20 .nilIface := ⟨by kernel_rfl⟩
instance : One Try.prog 20 := ⟨by kernel_rfl⟩
instance : ZeV Try.prog 20 .nilIface := ⟨by kernel_rfl⟩
instance : Scl Try.prog 21 := ⟨by kernel_rfl⟩
instance : ZeT Try.prog 21 (.int .i32 0) := ⟨by kernel_rfl⟩
instance : One Try.prog 21 := ⟨by kernel_rfl⟩
instance : ZeV Try.prog 21 (.int .i32 0) := ⟨by kernel_rfl⟩
instance : Scl Try.prog 22 := ⟨by kernel_rfl⟩
instance : ZeT Try.prog 22 (.slice none 0 0) := ⟨by kernel_rfl⟩
instance : One Try.prog 22 := ⟨by kernel_rfl⟩
instance : SlT Try.prog 22 24 1 24 (.slice none 0 0) := ⟨by kernel_rfl⟩
instance : ZeV Try.prog 22 (.slice none 0 0) := ⟨by kernel_rfl⟩
instance : Scl Try.prog 24 := ⟨by kernel_rfl⟩
instance : ZeT Try.prog 24 (.slice none 0 0) := ⟨by kernel_rfl⟩
instance : One Try.prog 24 := ⟨by kernel_rfl⟩
instance : SlT Try.prog 24 5 1 1 (.int .u8 0) := ⟨by kernel_rfl⟩
instance : ZeV Try.prog 24 (.slice none 0 0) := ⟨by kernel_rfl⟩
instance : Scl Try.prog 25 := ⟨by kernel_rfl⟩
instance : ZeT Try.prog 25 (.slice none 0 0) := ⟨by kernel_rfl⟩
instance : One Try.prog 25 := ⟨by kernel_rfl⟩
instance : SlT Try.prog 25 29 2 16 (.agg #[(.int .i64 0), (.int .i64 0)]) := ⟨by kernel_rfl⟩
instance : ZeV Try.prog 25 (.slice none 0 0) := ⟨by kernel_rfl⟩
instance : Scl Try.prog 26 := ⟨by kernel_rfl⟩
instance : ZeT Try.prog 26 (.int .i64 0) := ⟨by kernel_rfl⟩
instance : One Try.prog 26 := ⟨by kernel_rfl⟩
instance : KeyIs Try.prog 26 intK := ⟨by kernel_rfl⟩
instance : ZeV Try.prog 26 (.int .i64 0) := ⟨by kernel_rfl⟩
instance : Agg Try.prog 29 2 := ⟨by kernel_rfl, by kernel_rfl⟩
instance : ZeT Try.prog 29 (.agg #[(.int .i64 0), (.int .i64 0)]) := ⟨by kernel_rfl⟩
instance : StT Try.prog 29 [(.int .i64 0), (.int .i64 0)] [(0, 1), (1, 1)] := ⟨by kernel_rfl⟩
instance : ZeV Try.prog 29 (.agg #[(.int .i64 0), (.int .i64 0)]) := ⟨by kernel_rfl⟩
instance : ArT Try.prog 29 2 3 1 := ⟨by kernel_rfl⟩
instance : Scl Try.prog 34 := ⟨by kernel_rfl⟩
instance : ZeT Try.prog 34 (.slice none 0 0) := ⟨by kernel_rfl⟩
instance : One Try.prog 34 := ⟨by kernel_rfl⟩
instance : SlT Try.prog 34 3 1 8 (.int .i64 0) := ⟨by kernel_rfl⟩
instance : ZeV Try.prog 34 (.slice none 0 0) := ⟨by kernel_rfl⟩
instance : Scl Try.prog 35 := ⟨by kernel_rfl⟩
instance : PtT Try.prog 35 := ⟨by kernel_rfl⟩
instance : ZeT Try.prog 35 (.pointer none) := ⟨by kernel_rfl⟩
instance : One Try.prog 35 := ⟨by kernel_rfl⟩
instance : ZeV Try.prog 35 (.pointer none) := ⟨by kernel_rfl⟩
instance : Scl Try.prog 40 := ⟨by kernel_rfl⟩
instance : ZeT Try.prog 40 (.slice none 0 0) := ⟨by kernel_rfl⟩
instance : One Try.prog 40 := ⟨by kernel_rfl⟩
instance : SlT Try.prog 40 4 1 1 (.bool false) := ⟨by kernel_rfl⟩
instance : ZeV Try.prog 40 (.slice none 0 0) := ⟨by kernel_rfl⟩
instance : Scl Try.prog 50 := ⟨by kernel_rfl⟩
instance : ZeT Try.prog 50 (.slice none 0 0) := ⟨by kernel_rfl⟩
instance : One Try.prog 50 := ⟨by kernel_rfl⟩
instance : SlT Try.prog 50 57 4 48 (.agg #[(.int .i64 0), (.int .i64 0), (.int .i64 0), (.slice none 0 0)]) := ⟨by kernel_rfl⟩
instance : ZeV Try.prog 50 (.slice none 0 0) := ⟨by kernel_rfl⟩
instance : Scl Try.prog 52 := ⟨by kernel_rfl⟩
instance : PtT Try.prog 52 := ⟨by kernel_rfl⟩
instance : ZeT Try.prog 52 (.pointer none) := ⟨by kernel_rfl⟩
instance : One Try.prog 52 := ⟨by kernel_rfl⟩
instance : ZeV Try.prog 52 (.pointer none) := ⟨by kernel_rfl⟩
instance : Agg Try.prog 56 4 := ⟨by kernel_rfl, by kernel_rfl⟩
instance : ZeT Try.prog 56 (.agg #[(.int .i64 0), (.int .i64 0), (.int .i64 0), (.slice none 0 0)]) := ⟨by kernel_rfl⟩
instance : StT Try.prog 56 [(.int .i64 0), (.int .i64 0), (.int .i64 0), (.slice none 0 0)] [(0, 1), (1, 1), (2, 1), (3, 1)] := ⟨by kernel_rfl⟩
instance : Fld Try.prog 56 0 0 3 := ⟨by kernel_rfl⟩
instance : Fld Try.prog 56 1 1 3 := ⟨by kernel_rfl⟩
instance : Fld Try.prog 56 2 2 3 := ⟨by kernel_rfl⟩
instance : Fld Try.prog 56 3 3 24 := ⟨by kernel_rfl⟩
instance : ZeV Try.prog 56 (.agg #[(.int .i64 0), (.int .i64 0), (.int .i64 0), (.slice none 0 0)]) := ⟨by kernel_rfl⟩
instance : Agg Try.prog 57 4 := ⟨by kernel_rfl, by kernel_rfl⟩
instance : ZeT Try.prog 57 (.agg #[(.int .i64 0), (.int .i64 0), (.int .i64 0), (.slice none 0 0)]) := ⟨by kernel_rfl⟩
instance : StT Try.prog 57 [(.int .i64 0), (.int .i64 0), (.int .i64 0), (.slice none 0 0)] [(0, 1), (1, 1), (2, 1), (3, 1)] := ⟨by kernel_rfl⟩
instance : Fld Try.prog 57 0 0 3 := ⟨by kernel_rfl⟩
instance : Fld Try.prog 57 1 1 3 := ⟨by kernel_rfl⟩
instance : Fld Try.prog 57 2 2 3 := ⟨by kernel_rfl⟩
instance : Fld Try.prog 57 3 3 24 := ⟨by kernel_rfl⟩
instance : ZeV Try.prog 57 (.agg #[(.int .i64 0), (.int .i64 0), (.int .i64 0), (.slice none 0 0)]) := ⟨by kernel_rfl⟩
instance : Scl Try.prog 60 := ⟨by kernel_rfl⟩
instance : ZeT Try.prog 60 (.map none) := ⟨by kernel_rfl⟩
instance : One Try.prog 60 := ⟨by kernel_rfl⟩
instance : MapT Try.prog 60 3 73 := ⟨by kernel_rfl⟩
instance : ZeV Try.prog 60 (.map none) := ⟨by kernel_rfl⟩
instance : Agg Try.prog 61 4 := ⟨by kernel_rfl, by kernel_rfl⟩
instance : ZeT Try.prog 61 (.agg #[(.bool false), (.slice none 0 0), (.int .i64 0), (.map none)]) := ⟨by kernel_rfl⟩
instance : StT Try.prog 61 [(.bool false), (.slice none 0 0), (.int .i64 0), (.map none)] [(0, 1), (1, 1), (2, 1), (3, 1)] := ⟨by kernel_rfl⟩
instance : Fld Try.prog 61 0 0 4 := ⟨by kernel_rfl⟩
instance : Fld Try.prog 61 1 1 24 := ⟨by kernel_rfl⟩
instance : Fld Try.prog 61 2 2 3 := ⟨by kernel_rfl⟩
instance : Fld Try.prog 61 3 3 60 := ⟨by kernel_rfl⟩
instance : ZeV Try.prog 61 (.agg #[(.bool false), (.slice none 0 0), (.int .i64 0), (.map none)]) := ⟨by kernel_rfl⟩
instance : Agg Try.prog 62 4 := ⟨by kernel_rfl, by kernel_rfl⟩
instance : ZeT Try.prog 62 (.agg #[(.bool false), (.slice none 0 0), (.int .i64 0), (.map none)]) := ⟨by kernel_rfl⟩
instance : StT Try.prog 62 [(.bool false), (.slice none 0 0), (.int .i64 0), (.map none)] [(0, 1), (1, 1), (2, 1), (3, 1)] := ⟨by kernel_rfl⟩
instance : Fld Try.prog 62 0 0 4 := ⟨by kernel_rfl⟩
instance : Fld Try.prog 62 1 1 24 := ⟨by kernel_rfl⟩
instance : Fld Try.prog 62 2 2 3 := ⟨by kernel_rfl⟩
instance : Fld Try.prog 62 3 3 60 := ⟨by kernel_rfl⟩
instance : ZeV Try.prog 62 (.agg #[(.bool false), (.slice none 0 0), (.int .i64 0), (.map none)]) := ⟨by kernel_rfl⟩
instance : Scl Try.prog 63 := ⟨by kernel_rfl⟩
instance : ZeT Try.prog 63 (.slice none 0 0) := ⟨by kernel_rfl⟩
instance : One Try.prog 63 := ⟨by kernel_rfl⟩
instance : SlT Try.prog 63 35 1 8 (.pointer none) := ⟨by kernel_rfl⟩
instance : ZeV Try.prog 63 (.slice none 0 0) := ⟨by kernel_rfl⟩
instance : Scl Try.prog 66 := ⟨by kernel_rfl⟩
instance : PtT Try.prog 66 := ⟨by kernel_rfl⟩
instance : ZeT Try.prog 66 (.pointer none) := ⟨by kernel_rfl⟩
instance : One Try.prog 66 := ⟨by kernel_rfl⟩
instance : ZeV Try.prog 66 (.pointer none) := ⟨by kernel_rfl⟩
instance : Agg Try.prog 67 2 := ⟨by kernel_rfl, by kernel_rfl⟩
instance : ZeT Try.prog 67 (.agg #[(.pointer none), (.pointer none)]) := ⟨by kernel_rfl⟩
instance : StT Try.prog 67 [(.pointer none), (.pointer none)] [(0, 1), (1, 1)] := ⟨by kernel_rfl⟩
instance : Fld Try.prog 67 0 0 35 := ⟨by kernel_rfl⟩
instance : Fld Try.prog 67 1 1 66 := ⟨by kernel_rfl⟩
instance : ZeV Try.prog 67 (.agg #[(.pointer none), (.pointer none)]) := ⟨by kernel_rfl⟩
instance : Agg Try.prog 68 2 := ⟨by kernel_rfl, by kernel_rfl⟩
instance : ZeT Try.prog 68 (.agg #[(.pointer none), (.pointer none)]) := ⟨by kernel_rfl⟩
instance : StT Try.prog 68 [(.pointer none), (.pointer none)] [(0, 1), (1, 1)] := ⟨by kernel_rfl⟩
instance : Fld Try.prog 68 0 0 35 := ⟨by kernel_rfl⟩
instance : Fld Try.prog 68 1 1 66 := ⟨by kernel_rfl⟩
instance : ZeV Try.prog 68 (.agg #[(.pointer none), (.pointer none)]) := ⟨by kernel_rfl⟩
instance : Scl Try.prog 73 := ⟨by kernel_rfl⟩
instance : PtT Try.prog 73 := ⟨by kernel_rfl⟩
instance : ZeT Try.prog 73 (.pointer none) := ⟨by kernel_rfl⟩
instance : One Try.prog 73 := ⟨by kernel_rfl⟩
instance : ZeV Try.prog 73 (.pointer none) := ⟨by kernel_rfl⟩
instance : Agg Try.prog 76 7 := ⟨by kernel_rfl, by kernel_rfl⟩
instance : ZeT Try.prog 76 (.agg #[(.int .i64 0), (.int .i64 0), (.int .i64 0), (.bool false), (.slice none 0 0), (.int .i64 0), (.slice none 0 0)]) := ⟨by kernel_rfl⟩
instance : StT Try.prog 76 [(.int .i64 0), (.int .i64 0), (.int .i64 0), (.bool false), (.slice none 0 0), (.int .i64 0), (.slice none 0 0)] [(0, 1), (1, 1), (2, 1), (3, 1), (4, 1), (5, 1), (6, 1)] := ⟨by kernel_rfl⟩
instance : Fld Try.prog 76 0 0 3 := ⟨by kernel_rfl⟩
instance : Fld Try.prog 76 1 1 3 := ⟨by kernel_rfl⟩
instance : Fld Try.prog 76 2 2 3 := ⟨by kernel_rfl⟩
instance : Fld Try.prog 76 3 3 4 := ⟨by kernel_rfl⟩
instance : Fld Try.prog 76 4 4 24 := ⟨by kernel_rfl⟩
instance : Fld Try.prog 76 5 5 3 := ⟨by kernel_rfl⟩
instance : Fld Try.prog 76 6 6 34 := ⟨by kernel_rfl⟩
instance : ZeV Try.prog 76 (.agg #[(.int .i64 0), (.int .i64 0), (.int .i64 0), (.bool false), (.slice none 0 0), (.int .i64 0), (.slice none 0 0)]) := ⟨by kernel_rfl⟩
instance : Agg Try.prog 77 7 := ⟨by kernel_rfl, by kernel_rfl⟩
instance : ZeT Try.prog 77 (.agg #[(.int .i64 0), (.int .i64 0), (.int .i64 0), (.bool false), (.slice none 0 0), (.int .i64 0), (.slice none 0 0)]) := ⟨by kernel_rfl⟩
instance : StT Try.prog 77 [(.int .i64 0), (.int .i64 0), (.int .i64 0), (.bool false), (.slice none 0 0), (.int .i64 0), (.slice none 0 0)] [(0, 1), (1, 1), (2, 1), (3, 1), (4, 1), (5, 1), (6, 1)] := ⟨by kernel_rfl⟩
instance : Fld Try.prog 77 0 0 3 := ⟨by kernel_rfl⟩
instance : Fld Try.prog 77 1 1 3 := ⟨by kernel_rfl⟩
instance : Fld Try.prog 77 2 2 3 := ⟨by kernel_rfl⟩
instance : Fld Try.prog 77 3 3 4 := ⟨by kernel_rfl⟩
instance : Fld Try.prog 77 4 4 24 := ⟨by kernel_rfl⟩
instance : Fld Try.prog 77 5 5 3 := ⟨by kernel_rfl⟩
instance : Fld Try.prog 77 6 6 34 := ⟨by kernel_rfl⟩
instance : ZeV Try.prog 77 (.agg #[(.int .i64 0), (.int .i64 0), (.int .i64 0), (.bool false), (.slice none 0 0), (.int .i64 0), (.slice none 0 0)]) := ⟨by kernel_rfl⟩
instance : Scl Try.prog 91 := ⟨by kernel_rfl⟩
instance : ZeT Try.prog 91 (.slice none 0 0) := ⟨by kernel_rfl⟩
instance : One Try.prog 91 := ⟨by kernel_rfl⟩
instance : SlT Try.prog 91 96 8 96 (.agg #[(.int .i64 0), (.int .i64 0), (.int .i64 0), (.int .i64 0), (.bool false), (.int .i64 0), (.slice none 0 0), (.slice none 0 0)]) := ⟨by kernel_rfl⟩
instance : ZeV Try.prog 91 (.slice none 0 0) := ⟨by kernel_rfl⟩
instance : Agg Try.prog 92 3 := ⟨by kernel_rfl, by kernel_rfl⟩
instance : ZeT Try.prog 92 (.agg #[(.slice none 0 0), (.slice none 0 0), (.int .i64 0)]) := ⟨by kernel_rfl⟩
instance : StT Try.prog 92 [(.slice none 0 0), (.slice none 0 0), (.int .i64 0)] [(0, 1), (1, 1), (2, 1)] := ⟨by kernel_rfl⟩
instance : Fld Try.prog 92 0 0 24 := ⟨by kernel_rfl⟩
instance : Fld Try.prog 92 1 1 91 := ⟨by kernel_rfl⟩
instance : Fld Try.prog 92 2 2 3 := ⟨by kernel_rfl⟩
instance : ZeV Try.prog 92 (.agg #[(.slice none 0 0), (.slice none 0 0), (.int .i64 0)]) := ⟨by kernel_rfl⟩
instance : Agg Try.prog 93 3 := ⟨by kernel_rfl, by kernel_rfl⟩
instance : ZeT Try.prog 93 (.agg #[(.slice none 0 0), (.slice none 0 0), (.int .i64 0)]) := ⟨by kernel_rfl⟩
instance : StT Try.prog 93 [(.slice none 0 0), (.slice none 0 0), (.int .i64 0)] [(0, 1), (1, 1), (2, 1)] := ⟨by kernel_rfl⟩
instance : Fld Try.prog 93 0 0 24 := ⟨by kernel_rfl⟩
instance : Fld Try.prog 93 1 1 91 := ⟨by kernel_rfl⟩
instance : Fld Try.prog 93 2 2 3 := ⟨by kernel_rfl⟩
instance : ZeV Try.prog 93 (.agg #[(.slice none 0 0), (.slice none 0 0), (.int .i64 0)]) := ⟨by kernel_rfl⟩
instance : Agg Try.prog 95 8 := ⟨by kernel_rfl, by kernel_rfl⟩
instance : ZeT Try.prog 95 (.agg #[(.int .i64 0), (.int .i64 0), (.int .i64 0), (.int .i64 0), (.bool false), (.int .i64 0), (.slice none 0 0), (.slice none 0 0)]) := ⟨by kernel_rfl⟩
instance : StT Try.prog 95 [(.int .i64 0), (.int .i64 0), (.int .i64 0), (.int .i64 0), (.bool false), (.int .i64 0), (.slice none 0 0), (.slice none 0 0)] [(0, 1), (1, 1), (2, 1), (3, 1), (4, 1), (5, 1), (6, 1), (7, 1)] := ⟨by kernel_rfl⟩
instance : Fld Try.prog 95 0 0 3 := ⟨by kernel_rfl⟩
instance : Fld Try.prog 95 1 1 3 := ⟨by kernel_rfl⟩
instance : Fld Try.prog 95 2 2 3 := ⟨by kernel_rfl⟩
instance : Fld Try.prog 95 3 3 3 := ⟨by kernel_rfl⟩
instance : Fld Try.prog 95 4 4 4 := ⟨by kernel_rfl⟩
instance : Fld Try.prog 95 5 5 3 := ⟨by kernel_rfl⟩
instance : Fld Try.prog 95 6 6 24 := ⟨by kernel_rfl⟩
instance : Fld Try.prog 95 7 7 34 := ⟨by kernel_rfl⟩
instance : ZeV Try.prog 95 (.agg #[(.int .i64 0), (.int .i64 0), (.int .i64 0), (.int .i64 0), (.bool false), (.int .i64 0), (.slice none 0 0), (.slice none 0 0)]) := ⟨by kernel_rfl⟩
instance : Agg Try.prog 96 8 := ⟨by kernel_rfl, by kernel_rfl⟩
instance : ZeT Try.prog 96 (.agg #[(.int .i64 0), (.int .i64 0), (.int .i64 0), (.int .i64 0), (.bool false), (.int .i64 0), (.slice none 0 0), (.slice none 0 0)]) := ⟨by kernel_rfl⟩
instance : StT Try.prog 96 [(.int .i64 0), (.int .i64 0), (.int .i64 0), (.int .i64 0), (.bool false), (.int .i64 0), (.slice none 0 0), (.slice none 0 0)] [(0, 1), (1, 1), (2, 1), (3, 1), (4, 1), (5, 1), (6, 1), (7, 1)] := ⟨by kernel_rfl⟩
instance : Fld Try.prog 96 0 0 3 := ⟨by kernel_rfl⟩
instance : Fld Try.prog 96 1 1 3 := ⟨by kernel_rfl⟩
instance : Fld Try.prog 96 2 2 3 := ⟨by kernel_rfl⟩
instance : Fld Try.prog 96 3 3 3 := ⟨by kernel_rfl⟩
instance : Fld Try.prog 96 4 4 4 := ⟨by kernel_rfl⟩
instance : Fld Try.prog 96 5 5 3 := ⟨by kernel_rfl⟩
instance : Fld Try.prog 96 6 6 24 := ⟨by kernel_rfl⟩
instance : Fld Try.prog 96 7 7 34 := ⟨by kernel_rfl⟩
instance : ZeV Try.prog 96 (.agg #[(.int .i64 0), (.int .i64 0), (.int .i64 0), (.int .i64 0), (.bool false), (.int .i64 0), (.slice none 0 0), (.slice none 0 0)]) := ⟨by kernel_rfl⟩
instance : Scl Try.prog 106 := ⟨by kernel_rfl⟩
instance : ZeT Try.prog 106 (.int .u64 0) := ⟨by kernel_rfl⟩
instance : One Try.prog 106 := ⟨by kernel_rfl⟩
instance : ZeV Try.prog 106 (.int .u64 0) := ⟨by kernel_rfl⟩
instance : Scl Try.prog 108 := ⟨by kernel_rfl⟩
instance : ZeT Try.prog 108 (.int .i64 0) := ⟨by kernel_rfl⟩
instance : One Try.prog 108 := ⟨by kernel_rfl⟩
instance : KeyIs Try.prog 108 intK := ⟨by kernel_rfl⟩
instance : ZeV Try.prog 108 (.int .i64 0) := ⟨by kernel_rfl⟩
instance : Scl Try.prog 116 := ⟨by kernel_rfl⟩
instance : ZeT Try.prog 116 (.int .u32 0) := ⟨by kernel_rfl⟩
instance : One Try.prog 116 := ⟨by kernel_rfl⟩
instance : ZeV Try.prog 116 (.int .u32 0) := ⟨by kernel_rfl⟩
instance : Scl Try.prog 118 := ⟨by kernel_rfl⟩
instance : ZeT Try.prog 118 (.int .u64 0) := ⟨by kernel_rfl⟩
instance : One Try.prog 118 := ⟨by kernel_rfl⟩
instance : ZeV Try.prog 118 (.int .u64 0) := ⟨by kernel_rfl⟩
instance : Scl Try.prog 119 := ⟨by kernel_rfl⟩
instance : ZeT Try.prog 119 (.int .u64 0) := ⟨by kernel_rfl⟩
instance : One Try.prog 119 := ⟨by kernel_rfl⟩
instance : ZeV Try.prog 119 (.int .u64 0) := ⟨by kernel_rfl⟩
instance : Scl Try.prog 123 := ⟨by kernel_rfl⟩
instance : PtT Try.prog 123 := ⟨by kernel_rfl⟩
instance : ZeT Try.prog 123 (.pointer none) := ⟨by kernel_rfl⟩
instance : One Try.prog 123 := ⟨by kernel_rfl⟩
instance : ZeV Try.prog 123 (.pointer none) := ⟨by kernel_rfl⟩
instance : Scl Try.prog 125 := ⟨by kernel_rfl⟩
instance : PtT Try.prog 125 := ⟨by kernel_rfl⟩
instance : ZeT Try.prog 125 (.pointer none) := ⟨by kernel_rfl⟩
instance : One Try.prog 125 := ⟨by kernel_rfl⟩
instance : ZeV Try.prog 125 (.pointer none) := ⟨by kernel_rfl⟩
instance : Agg Try.prog 129 4 := ⟨by kernel_rfl, by kernel_rfl⟩
instance : ZeT Try.prog 129 (.agg #[(.pointer none), (.pointer none), (.pointer none), (.string ByteArray.empty)]) := ⟨by kernel_rfl⟩
instance : StT Try.prog 129 [(.pointer none), (.pointer none), (.pointer none), (.string ByteArray.empty)] [(0, 1), (1, 1), (2, 1), (3, 1)] := ⟨by kernel_rfl⟩
instance : Fld Try.prog 129 0 0 17 := ⟨by kernel_rfl⟩
instance : Fld Try.prog 129 1 1 17 := ⟨by kernel_rfl⟩
instance : Fld Try.prog 129 2 2 17 := ⟨by kernel_rfl⟩
instance : Fld Try.prog 129 3 3 9 := ⟨by kernel_rfl⟩
instance : ZeV Try.prog 129 (.agg #[(.pointer none), (.pointer none), (.pointer none), (.string ByteArray.empty)]) := ⟨by kernel_rfl⟩
instance : Agg Try.prog 130 4 := ⟨by kernel_rfl, by kernel_rfl⟩
instance : ZeT Try.prog 130 (.agg #[(.pointer none), (.pointer none), (.pointer none), (.string ByteArray.empty)]) := ⟨by kernel_rfl⟩
instance : StT Try.prog 130 [(.pointer none), (.pointer none), (.pointer none), (.string ByteArray.empty)] [(0, 1), (1, 1), (2, 1), (3, 1)] := ⟨by kernel_rfl⟩
instance : Fld Try.prog 130 0 0 17 := ⟨by kernel_rfl⟩
instance : Fld Try.prog 130 1 1 17 := ⟨by kernel_rfl⟩
instance : Fld Try.prog 130 2 2 17 := ⟨by kernel_rfl⟩
instance : Fld Try.prog 130 3 3 9 := ⟨by kernel_rfl⟩
instance : ZeV Try.prog 130 (.agg #[(.pointer none), (.pointer none), (.pointer none), (.string ByteArray.empty)]) := ⟨by kernel_rfl⟩
instance : Agg Try.prog 131 0 := ⟨by kernel_rfl, by kernel_rfl⟩
instance : ZeT Try.prog 131 (.agg #[]) := ⟨by kernel_rfl⟩
instance : StT Try.prog 131 [] [] := ⟨by kernel_rfl⟩
instance : ZeV Try.prog 131 (.agg #[]) := ⟨by kernel_rfl⟩
instance : ArT Try.prog 131 0 16 1 := ⟨by kernel_rfl⟩
instance : Agg Try.prog 132 0 := ⟨by kernel_rfl, by kernel_rfl⟩
instance : ZeT Try.prog 132 (.agg #[]) := ⟨by kernel_rfl⟩
instance : StT Try.prog 132 [] [(0, 0)] := ⟨by kernel_rfl⟩
instance : ZeV Try.prog 132 (.agg #[]) := ⟨by kernel_rfl⟩
instance : Agg Try.prog 133 0 := ⟨by kernel_rfl, by kernel_rfl⟩
instance : ZeT Try.prog 133 (.agg #[]) := ⟨by kernel_rfl⟩
instance : StT Try.prog 133 [] [(0, 0)] := ⟨by kernel_rfl⟩
instance : ZeV Try.prog 133 (.agg #[]) := ⟨by kernel_rfl⟩
instance : Scl Try.prog 135 := ⟨by kernel_rfl⟩
instance : ZeT Try.prog 135 (.int .u8 0) := ⟨by kernel_rfl⟩
instance : One Try.prog 135 := ⟨by kernel_rfl⟩
instance : ZeV Try.prog 135 (.int .u8 0) := ⟨by kernel_rfl⟩
instance : Scl Try.prog 136 := ⟨by kernel_rfl⟩
instance : ZeT Try.prog 136 (.int .u8 0) := ⟨by kernel_rfl⟩
instance : One Try.prog 136 := ⟨by kernel_rfl⟩
instance : ZeV Try.prog 136 (.int .u8 0) := ⟨by kernel_rfl⟩
instance : Scl Try.prog 138 := ⟨by kernel_rfl⟩
instance : PtT Try.prog 138 := ⟨by kernel_rfl⟩
instance : ZeT Try.prog 138 (.pointer none) := ⟨by kernel_rfl⟩
instance : One Try.prog 138 := ⟨by kernel_rfl⟩
instance : ZeV Try.prog 138 (.pointer none) := ⟨by kernel_rfl⟩
instance : Scl Try.prog 139 := ⟨by kernel_rfl⟩
instance : ZeT Try.prog 139 (.int .i32 0) := ⟨by kernel_rfl⟩
instance : One Try.prog 139 := ⟨by kernel_rfl⟩
instance : ZeV Try.prog 139 (.int .i32 0) := ⟨by kernel_rfl⟩
instance : Scl Try.prog 140 := ⟨by kernel_rfl⟩
instance : ZeT Try.prog 140 (.int .i32 0) := ⟨by kernel_rfl⟩
instance : One Try.prog 140 := ⟨by kernel_rfl⟩
instance : ZeV Try.prog 140 (.int .i32 0) := ⟨by kernel_rfl⟩
instance : Agg Try.prog 141 11 := ⟨by kernel_rfl, by kernel_rfl⟩
instance : ZeT Try.prog 141 (.agg #[(.int .u64 0), (.int .u64 0), (.int .u32 0), (.int .u8 0), (.int .u8 0), (.int .u8 0), (.int .u8 0), .nilFunc, (.pointer none), (.int .i32 0), (.int .i32 0)]) := ⟨by kernel_rfl⟩
instance : StT Try.prog 141 [(.int .u64 0), (.int .u64 0), (.int .u32 0), (.int .u8 0), (.int .u8 0), (.int .u8 0), (.int .u8 0), .nilFunc, (.pointer none), (.int .i32 0), (.int .i32 0)] [(0, 1), (1, 1), (2, 1), (3, 1), (4, 1), (5, 1), (6, 1), (7, 1), (8, 1), (9, 1), (10, 1)] := ⟨by kernel_rfl⟩
instance : Fld Try.prog 141 0 0 12 := ⟨by kernel_rfl⟩
instance : Fld Try.prog 141 1 1 12 := ⟨by kernel_rfl⟩
instance : Fld Try.prog 141 2 2 116 := ⟨by kernel_rfl⟩
instance : Fld Try.prog 141 3 3 135 := ⟨by kernel_rfl⟩
instance : Fld Try.prog 141 4 4 5 := ⟨by kernel_rfl⟩
instance : Fld Try.prog 141 5 5 5 := ⟨by kernel_rfl⟩
instance : Fld Try.prog 141 6 6 136 := ⟨by kernel_rfl⟩
instance : Fld Try.prog 141 7 7 137 := ⟨by kernel_rfl⟩
instance : Fld Try.prog 141 8 8 138 := ⟨by kernel_rfl⟩
instance : Fld Try.prog 141 9 9 139 := ⟨by kernel_rfl⟩
instance : Fld Try.prog 141 10 10 140 := ⟨by kernel_rfl⟩
instance : ZeV Try.prog 141 (.agg #[(.int .u64 0), (.int .u64 0), (.int .u32 0), (.int .u8 0), (.int .u8 0), (.int .u8 0), (.int .u8 0), .nilFunc, (.pointer none), (.int .i32 0), (.int .i32 0)]) := ⟨by kernel_rfl⟩
instance : Agg Try.prog 142 11 := ⟨by kernel_rfl, by kernel_rfl⟩
instance : ZeT Try.prog 142 (.agg #[(.int .u64 0), (.int .u64 0), (.int .u32 0), (.int .u8 0), (.int .u8 0), (.int .u8 0), (.int .u8 0), .nilFunc, (.pointer none), (.int .i32 0), (.int .i32 0)]) := ⟨by kernel_rfl⟩
instance : StT Try.prog 142 [(.int .u64 0), (.int .u64 0), (.int .u32 0), (.int .u8 0), (.int .u8 0), (.int .u8 0), (.int .u8 0), .nilFunc, (.pointer none), (.int .i32 0), (.int .i32 0)] [(0, 1), (1, 1), (2, 1), (3, 1), (4, 1), (5, 1), (6, 1), (7, 1), (8, 1), (9, 1), (10, 1)] := ⟨by kernel_rfl⟩
instance : Fld Try.prog 142 0 0 12 := ⟨by kernel_rfl⟩
instance : Fld Try.prog 142 1 1 12 := ⟨by kernel_rfl⟩
instance : Fld Try.prog 142 2 2 116 := ⟨by kernel_rfl⟩
instance : Fld Try.prog 142 3 3 135 := ⟨by kernel_rfl⟩
instance : Fld Try.prog 142 4 4 5 := ⟨by kernel_rfl⟩
instance : Fld Try.prog 142 5 5 5 := ⟨by kernel_rfl⟩
instance : Fld Try.prog 142 6 6 136 := ⟨by kernel_rfl⟩
instance : Fld Try.prog 142 7 7 137 := ⟨by kernel_rfl⟩
instance : Fld Try.prog 142 8 8 138 := ⟨by kernel_rfl⟩
instance : Fld Try.prog 142 9 9 139 := ⟨by kernel_rfl⟩
instance : Fld Try.prog 142 10 10 140 := ⟨by kernel_rfl⟩
instance : ZeV Try.prog 142 (.agg #[(.int .u64 0), (.int .u64 0), (.int .u32 0), (.int .u8 0), (.int .u8 0), (.int .u8 0), (.int .u8 0), .nilFunc, (.pointer none), (.int .i32 0), (.int .i32 0)]) := ⟨by kernel_rfl⟩
instance : Body Try.prog 2 := ⟨by kernel_rfl⟩
instance : Body Try.prog 3 := ⟨by kernel_rfl⟩
instance : Body Try.prog 4 := ⟨by kernel_rfl⟩
instance : Body Try.prog 5 := ⟨by kernel_rfl⟩
instance : Body Try.prog 6 := ⟨by kernel_rfl⟩
instance : Body Try.prog 7 := ⟨by kernel_rfl⟩
instance : Body Try.prog 8 := ⟨by kernel_rfl⟩
instance : Body Try.prog 9 := ⟨by kernel_rfl⟩
instance : Body Try.prog 10 := ⟨by kernel_rfl⟩
instance : Body Try.prog 11 := ⟨by kernel_rfl⟩
instance : Body Try.prog 12 := ⟨by kernel_rfl⟩
instance : Body Try.prog 13 := ⟨by kernel_rfl⟩
instance : Body Try.prog 14 := ⟨by kernel_rfl⟩
instance : Body Try.prog 15 := ⟨by kernel_rfl⟩
instance : Body Try.prog 16 := ⟨by kernel_rfl⟩
instance : Body Try.prog 17 := ⟨by kernel_rfl⟩
instance : Body Try.prog 18 := ⟨by kernel_rfl⟩
instance : Body Try.prog 19 := ⟨by kernel_rfl⟩
instance : Body Try.prog 20 := ⟨by kernel_rfl⟩
instance : Body Try.prog 21 := ⟨by kernel_rfl⟩
instance : Body Try.prog 22 := ⟨by kernel_rfl⟩
instance : Body Try.prog 23 := ⟨by kernel_rfl⟩
instance : Body Try.prog 24 := ⟨by kernel_rfl⟩
instance : Body Try.prog 25 := ⟨by kernel_rfl⟩
instance : Body Try.prog 26 := ⟨by kernel_rfl⟩
instance : Body Try.prog 27 := ⟨by kernel_rfl⟩
instance : Body Try.prog 28 := ⟨by kernel_rfl⟩
instance : Body Try.prog 29 := ⟨by kernel_rfl⟩
instance : Body Try.prog 30 := ⟨by kernel_rfl⟩
instance : Body Try.prog 31 := ⟨by kernel_rfl⟩
instance : Body Try.prog 32 := ⟨by kernel_rfl⟩
instance : Body Try.prog 33 := ⟨by kernel_rfl⟩
instance : Body Try.prog 34 := ⟨by kernel_rfl⟩
instance : Body Try.prog 35 := ⟨by kernel_rfl⟩
instance : Body Try.prog 36 := ⟨by kernel_rfl⟩
instance : Body Try.prog 37 := ⟨by kernel_rfl⟩
instance : Body Try.prog 38 := ⟨by kernel_rfl⟩
instance : Body Try.prog 39 := ⟨by kernel_rfl⟩
instance : Body Try.prog 40 := ⟨by kernel_rfl⟩
instance : Body Try.prog 41 := ⟨by kernel_rfl⟩
instance : Body Try.prog 42 := ⟨by kernel_rfl⟩
instance : Body Try.prog 43 := ⟨by kernel_rfl⟩
instance : Body Try.prog 44 := ⟨by kernel_rfl⟩
instance : Body Try.prog 45 := ⟨by kernel_rfl⟩
instance : Body Try.prog 46 := ⟨by kernel_rfl⟩
instance : Body Try.prog 47 := ⟨by kernel_rfl⟩
instance : Body Try.prog 48 := ⟨by kernel_rfl⟩
instance : Body Try.prog 49 := ⟨by kernel_rfl⟩
instance : Body Try.prog 50 := ⟨by kernel_rfl⟩
instance : Body Try.prog 51 := ⟨by kernel_rfl⟩
instance : Body Try.prog 52 := ⟨by kernel_rfl⟩
instance : Body Try.prog 53 := ⟨by kernel_rfl⟩
instance : Body Try.prog 54 := ⟨by kernel_rfl⟩
instance : Body Try.prog 55 := ⟨by kernel_rfl⟩
instance : Body Try.prog 56 := ⟨by kernel_rfl⟩
instance : Body Try.prog 57 := ⟨by kernel_rfl⟩
instance : Body Try.prog 58 := ⟨by kernel_rfl⟩
instance : Body Try.prog 59 := ⟨by kernel_rfl⟩
instance : Body Try.prog 60 := ⟨by kernel_rfl⟩
instance : Body Try.prog 61 := ⟨by kernel_rfl⟩
instance : Body Try.prog 62 := ⟨by kernel_rfl⟩
instance : Body Try.prog 63 := ⟨by kernel_rfl⟩
instance : Body Try.prog 64 := ⟨by kernel_rfl⟩
instance : Body Try.prog 65 := ⟨by kernel_rfl⟩
instance : Body Try.prog 66 := ⟨by kernel_rfl⟩
instance : Body Try.prog 67 := ⟨by kernel_rfl⟩
instance : Body Try.prog 68 := ⟨by kernel_rfl⟩
instance : Body Try.prog 69 := ⟨by kernel_rfl⟩
instance : Body Try.prog 70 := ⟨by kernel_rfl⟩
instance : Body Try.prog 71 := ⟨by kernel_rfl⟩
instance : Body Try.prog 72 := ⟨by kernel_rfl⟩
instance : Body Try.prog 73 := ⟨by kernel_rfl⟩
instance : Body Try.prog 74 := ⟨by kernel_rfl⟩
instance : Body Try.prog 75 := ⟨by kernel_rfl⟩
instance : Body Try.prog 76 := ⟨by kernel_rfl⟩
instance : Body Try.prog 77 := ⟨by kernel_rfl⟩
instance : Body Try.prog 78 := ⟨by kernel_rfl⟩
instance : Body Try.prog 79 := ⟨by kernel_rfl⟩
instance : Body Try.prog 80 := ⟨by kernel_rfl⟩
instance : Body Try.prog 81 := ⟨by kernel_rfl⟩
instance : Body Try.prog 82 := ⟨by kernel_rfl⟩
instance : Body Try.prog 83 := ⟨by kernel_rfl⟩
instance : Body Try.prog 84 := ⟨by kernel_rfl⟩
instance : Body Try.prog 85 := ⟨by kernel_rfl⟩
instance : Body Try.prog 86 := ⟨by kernel_rfl⟩
instance : Body Try.prog 87 := ⟨by kernel_rfl⟩
instance : Body Try.prog 88 := ⟨by kernel_rfl⟩
instance : Body Try.prog 89 := ⟨by kernel_rfl⟩
instance : Body Try.prog 90 := ⟨by kernel_rfl⟩
instance : Body Try.prog 91 := ⟨by kernel_rfl⟩
instance : Body Try.prog 92 := ⟨by kernel_rfl⟩
instance : Body Try.prog 93 := ⟨by kernel_rfl⟩
theorem Try.mixed : Try.prog.follows .mixedOrders = true := by kernel_rfl
end Go.Proofs.Ytgbckamaenapeaa

/- The text HPlain. -/
/-!
  The plain machine of layer 23: a file with channels. No program in sight.
-/
set_option linter.unusedVariables false
set_option linter.unusedSimpArgs false
namespace Hf
open Go.KK
structure Ch where
  num : Int
  fr : Int
  to : Int
  at' : Int
  wr : Bool
  st : Int
  pend : List UInt8
  marks : List Int
  deriving Inhabited
structure Fl where
  bytes : List UInt8
  next : Int
  opens : List Ch
def busy (wr : Bool) (fr to : Int) (c : Ch) : Bool := (c.wr || wr) && decide (max c.fr fr < min c.to to)
def newC (F : Fl) (fr to : Int) (wr : Bool) : Ch := ⟨F.next, fr, to, fr, wr, fr, [], []⟩
def beginF (F : Fl) (fr to : Int) (wr : Bool) : Fl × Int × Int :=
  if fr < 0 ∨ to < fr ∨ 400 < to then (F, 0, 2)
  else if F.opens.any (busy wr fr to) = true then (F, 0, 190)
  else (⟨F.bytes, F.next + 1, F.opens ++ [newC F fr to wr]⟩, F.next, 0)
def ix (F : Fl) (n : Int) : Option Nat := F.opens.findIdx? (fun c => decide (n = c.num))
def ch (F : Fl) (i : Nat) : Ch := F.opens.getD i default
def upd (F : Fl) (i : Nat) (c : Ch) : Fl := ⟨F.bytes, F.next, F.opens.set i c⟩
def many (F : Fl) (c : Ch) (k : Int) : Nat := (min k (min c.to F.bytes.length - c.at')).toNat
def readF (F : Fl) (n k : Int) : Fl × List UInt8 × Int := match ix F n with
  | none => (F, [], 5)
  | some i => if k < 0 then (F, [], 2) else if (ch F i).wr = true then (F, [], 230)
    else (upd F i { ch F i with at' := (ch F i).at' + many F (ch F i) k }, (F.bytes.drop (ch F i).at'.toNat).take (many F (ch F i) k), 0)
def writeF (F : Fl) (n : Int) (b : List UInt8) : Fl × Int := match ix F n with
  | none => (F, 5)
  | some i => if (ch F i).wr = false ∨ (ch F i).to - (ch F i).at' < b.length then (F, 230)
    else (upd F i { ch F i with pend := (ch F i).pend ++ b, at' := (ch F i).at' + b.length }, 0)
def markF (F : Fl) (n : Int) : Fl × Int := match ix F n with
  | none => (F, 5)
  | some i => (upd F i { ch F i with marks := (ch F i).marks ++ [(ch F i).at'] }, 0)
def lastM (c : Ch) : Int := c.marks.getD (c.marks.length - 1) 0
def popC (c : Ch) : Ch := { c with marks := c.marks.take (c.marks.length - 1) }
def revC (c : Ch) : Ch := if c.wr = true then { popC c with at' := lastM c, pend := c.pend.take (lastM c - c.st).toNat } else { popC c with at' := lastM c }
def revertF (F : Fl) (n : Int) : Fl × Int := match ix F n with
  | none => (F, 5)
  | some i => if (ch F i).marks = [] then (F, 230) else (upd F i (revC (ch F i)), 0)
def acceptF (F : Fl) (n : Int) : Fl × Int := match ix F n with
  | none => (F, 5)
  | some i => if (ch F i).marks = [] then (F, 230) else (upd F i (popC (ch F i)), 0)
def padTo (bs : List UInt8) (n : Nat) : List UInt8 := bs ++ List.replicate (n - bs.length) 0
def putB (bs : List UInt8) (c : Ch) : List UInt8 := if c.pend = [] then bs else spl (padTo bs (c.st.toNat + c.pend.length)) c.st.toNat c.pend
def putC (c : Ch) : Ch := if c.pend = [] then c else { c with pend := [], st := c.at' }
def putF (F : Fl) (i : Nat) : Fl := ⟨putB F.bytes (ch F i), F.next, F.opens.set i (putC (ch F i))⟩
def commitF (F : Fl) (n : Int) : Fl × Int := match ix F n with
  | none => (F, 5)
  | some i => if (ch F i).wr = false ∨ ¬ (ch F i).marks = [] then (F, 230) else (putF F i, 0)
def closeF (F : Fl) (n : Int) : Fl × Int := match ix F n with
  | none => (F, 5)
  | some i => (⟨putB F.bytes (ch F i), F.next, F.opens.eraseIdx i⟩, 0)
def placeF (F : Fl) (n : Int) : Int × Int := match ix F n with
  | none => (0, 5)
  | some i => ((ch F i).at', 0)
def leftF (F : Fl) (n : Int) : Int × Int := match ix F n with
  | none => (0, 5)
  | some i => ((ch F i).to - (ch F i).at', 0)
def numsF (F : Fl) : List Int := F.opens.map (·.num)
def newF (bs : List UInt8) : Fl := ⟨bs, 1, []⟩

structure GoodC (c : Ch) : Prop where
  f0 : 0 ≤ c.fr
  ft : c.fr ≤ c.to
  t4 : c.to ≤ 400
  fa : c.fr ≤ c.at'
  at4 : c.at' ≤ c.to
  w1 : c.wr = true → c.fr ≤ c.st ∧ c.at' = c.st + c.pend.length
  r1 : c.wr = false → c.pend = []
  m1 : ∀ m ∈ c.marks, c.fr ≤ m ∧ m ≤ c.at'
  m2 : c.wr = true → ∀ m ∈ c.marks, c.st ≤ m
  m3 : c.marks.Pairwise (· ≤ ·)
structure Good (F : Fl) (k : Nat) : Prop where
  b4 : F.bytes.length ≤ 400
  n1 : 1 ≤ F.next
  nk : F.next ≤ k + 1
  ord : F.opens.Pairwise (fun c d => c.num ≠ d.num)
  lt : ∀ c ∈ F.opens, 1 ≤ c.num ∧ c.num < F.next
  gc : ∀ c ∈ F.opens, GoodC c
  mks : ∀ c ∈ F.opens, c.marks.length ≤ k
  ol : F.opens.length ≤ k

theorem Good.more {F : Fl} {k j : Nat} (g : Good F k) (h : k ≤ j) : Good F j := ⟨g.b4, g.n1, by have := g.nk; omega, g.ord, g.lt, g.gc, fun c hc => Nat.le_trans (g.mks c hc) h, Nat.le_trans g.ol h⟩
theorem ix_some {F : Fl} {n : Int} {i : Nat} (h : ix F n = some i) : i < F.opens.length ∧ F.opens[i]? = some (ch F i) ∧ (ch F i).num = n := by
  unfold ix at h
  obtain ⟨h1, h2, _⟩ := List.findIdx?_eq_some_iff_getElem.1 h
  have e : F.opens[i]? = some (ch F i) := by simp [ch, List.getD_eq_getElem?_getD, h1]
  refine ⟨h1, e, ?_⟩
  have : F.opens[i] = ch F i := by rw [List.getElem?_eq_getElem h1] at e; exact Option.some.inj e
  rw [← this]; simpa using (of_decide_eq_true h2).symm
theorem ch_mem {F : Fl} {n : Int} {i : Nat} (h : ix F n = some i) : ch F i ∈ F.opens := List.mem_of_getElem? (ix_some h).2.1
theorem set_nums {l : List Ch} {i : Nat} {c c' : Ch} (h : l[i]? = some c) (hn : c'.num = c.num) : (l.set i c').map (·.num) = l.map (·.num) := by
  rw [List.map_set, hn]
  exact set_same (by rw [List.getElem?_map, h]; rfl)
theorem ord_iff {l : List Ch} : l.Pairwise (fun c d => c.num ≠ d.num) ↔ (l.map (·.num)).Pairwise (· ≠ ·) := by rw [List.pairwise_map]
theorem good_upd {F : Fl} {k : Nat} {n : Int} {i : Nat} {c : Ch} (g : Good F k) (h : ix F n = some i) (hn : c.num = (ch F i).num) (hc : GoodC c) (hm : c.marks.length ≤ k) : Good (upd F i c) k := by
  obtain ⟨h1, h2, h3⟩ := ix_some h
  refine ⟨g.b4, g.n1, g.nk, ?_, fun d hd => ?_, fun d hd => ?_, fun d hd => ?_, by simpa [upd] using g.ol⟩
  · show (F.opens.set i c).Pairwise _
    rw [ord_iff, set_nums h2 hn, ← ord_iff]; exact g.ord
  · rcases List.mem_or_eq_of_mem_set hd with hd | rfl
    · exact g.lt d hd
    · rw [hn]; exact g.lt _ (ch_mem h)
  · rcases List.mem_or_eq_of_mem_set hd with hd | rfl
    · exact g.gc d hd
    · exact hc
  · rcases List.mem_or_eq_of_mem_set hd with hd | rfl
    · exact g.mks d hd
    · exact hm
theorem good_new {bs : List UInt8} (h : bs.length ≤ 400) : Good (newF bs) 0 := ⟨h, by simp [newF], by simp [newF], by simp [newF], by simp [newF], by simp [newF], by simp [newF], by simp [newF]⟩
theorem good_begin {F : Fl} {k : Nat} (g : Good F k) (fr to : Int) (wr : Bool) : Good (beginF F fr to wr).1 (k + 1) := by
  unfold beginF
  split
  · exact g.more (by omega)
  split
  · exact g.more (by omega)
  rename_i h1 h2
  have hn := g.nk
  refine ⟨g.b4, by have := g.n1; show 1 ≤ F.next + 1; omega, by show F.next + 1 ≤ _; omega, ?_, fun c hc => ?_, fun c hc => ?_, fun c hc => ?_, by simp; exact g.ol⟩
  · show (F.opens ++ [newC F fr to wr]).Pairwise _
    rw [List.pairwise_append]
    refine ⟨g.ord, by simp, fun a ha b hb => ?_⟩
    simp only [List.mem_singleton] at hb; subst hb
    exact Int.ne_of_lt (g.lt a ha).2
  · rcases List.mem_append.1 hc with hc | hc
    · have := g.lt c hc; show 1 ≤ c.num ∧ c.num < F.next + 1; omega
    · simp only [List.mem_singleton] at hc; subst hc
      have := g.n1; show 1 ≤ F.next ∧ F.next < F.next + 1; omega
  · rcases List.mem_append.1 hc with hc | hc
    · exact g.gc c hc
    · simp only [List.mem_singleton] at hc; subst hc
      refine ⟨?_, ?_, ?_, ?_, ?_, fun _ => ⟨?_, ?_⟩, fun _ => rfl, by simp [newC], by simp [newC], by simp [newC]⟩ <;> simp only [newC, List.length_nil] <;> omega
  · rcases List.mem_append.1 hc with hc | hc
    · have := g.mks c hc; omega
    · simp only [List.mem_singleton] at hc; subst hc; simp [newC]
theorem many_le {F : Fl} {c : Ch} {k : Int} : (c.at' ≤ c.to → c.at' + many F c k ≤ c.to) ∧ (0 ≤ c.at' → c.at' ≤ F.bytes.length → c.at' + many F c k ≤ F.bytes.length) := by
  unfold many; omega
theorem good_read {F : Fl} {k : Nat} (g : Good F k) (n q : Int) : Good (readF F n q).1 k := by
  unfold readF
  split
  · exact g
  · rename_i i h
    split
    · exact g
    split
    · exact g
    rename_i h2 h3
    have gc := g.gc _ (ch_mem h)
    have hm := (many_le (F := F) (c := ch F i) (k := q)).1 gc.at4
    exact good_upd g h rfl ⟨gc.f0, gc.ft, gc.t4, by have := gc.fa; simp only; omega, by simpa using hm, fun hw => absurd hw h3, gc.r1, fun m hm => by have := gc.m1 m hm; simp only; omega, fun hw => absurd hw h3, gc.m3⟩ (g.mks (ch F i) (ch_mem h))
theorem good_write {F : Fl} {k : Nat} (g : Good F k) (n : Int) (b : List UInt8) : Good (writeF F n b).1 k := by
  unfold writeF
  split
  · exact g
  · rename_i i h
    split
    · exact g
    rename_i h3
    have gc := g.gc _ (ch_mem h)
    have hw : (ch F i).wr = true := by cases hx : (ch F i).wr with | true => rfl | false => exact absurd (.inl hx) h3
    refine good_upd g h rfl ⟨gc.f0, gc.ft, gc.t4, by have := gc.fa; simp only; omega, by have : ¬ ((ch F i).to - (ch F i).at' < b.length) := fun h => h3 (.inr h); simp only; omega, fun _ => ⟨(gc.w1 hw).1, by have := (gc.w1 hw).2; simp only [List.length_append]; omega⟩, fun hf => (by have hf2 : (ch F i).wr = false := hf; rw [hw] at hf2; cases hf2), fun m hm => by have := gc.m1 m hm; simp only; omega, fun _ => gc.m2 hw, gc.m3⟩ (g.mks (ch F i) (ch_mem h))
theorem good_mark {F : Fl} {k : Nat} (g : Good F k) (n : Int) : Good (markF F n).1 (k + 1) := by
  unfold markF
  split
  · exact g.more (by omega)
  · rename_i i h
    have gc := g.gc _ (ch_mem h)
    have hmk := g.mks _ (ch_mem h)
    refine good_upd (g.more (by omega)) h rfl ⟨gc.f0, gc.ft, gc.t4, gc.fa, gc.at4, gc.w1, gc.r1, fun m hm => ?_, fun hw m hm => ?_, ?_⟩ (by simp; omega)
    · rcases List.mem_append.1 hm with hm | hm
      · exact gc.m1 m hm
      · simp only [List.mem_singleton] at hm; subst hm; exact ⟨gc.fa, Int.le_refl _⟩
    · rcases List.mem_append.1 hm with hm | hm
      · exact gc.m2 hw m hm
      · simp only [List.mem_singleton] at hm; subst hm; have := (gc.w1 hw).2; simp only; omega
    · show ((ch F i).marks ++ [(ch F i).at']).Pairwise _
      rw [List.pairwise_append]
      refine ⟨gc.m3, by simp, fun a ha b hb => ?_⟩
      simp only [List.mem_singleton] at hb; subst hb
      exact (gc.m1 a ha).2
theorem marks_split {c : Ch} (h : ¬ c.marks = []) : c.marks = (popC c).marks ++ [lastM c] := by
  have hp : 0 < c.marks.length := List.length_pos_iff.2 h
  show c.marks = c.marks.take (c.marks.length - 1) ++ [c.marks.getD (c.marks.length - 1) 0]
  rw [List.getD_eq_getElem?_getD, List.getElem?_eq_getElem (by omega), Option.getD_some]
  have h1 : c.marks = c.marks.take (c.marks.length - 1) ++ c.marks.drop (c.marks.length - 1) := (List.take_append_drop _ _).symm
  have h2 : c.marks.drop (c.marks.length - 1) = [c.marks[c.marks.length - 1]] := by
    rw [List.drop_eq_getElem_cons (by omega), List.drop_of_length_le (by omega)]
  rw [h2] at h1; exact h1
theorem good_pop {c : Ch} (gc : GoodC c) : GoodC (popC c) :=
  ⟨gc.f0, gc.ft, gc.t4, gc.fa, gc.at4, gc.w1, gc.r1, fun m hm => gc.m1 m (List.mem_of_mem_take hm), fun hw m hm => gc.m2 hw m (List.mem_of_mem_take hm), gc.m3.sublist (List.take_sublist _ _)⟩
theorem last_in {c : Ch} (h : ¬ c.marks = []) : lastM c ∈ c.marks := by rw [marks_split h]; simp
theorem last_le {c : Ch} (gc : GoodC c) (h : ¬ c.marks = []) : ∀ m ∈ (popC c).marks, m ≤ lastM c := by
  intro m hm
  have := gc.m3
  rw [marks_split h, List.pairwise_append] at this
  exact this.2.2 m hm _ (by simp)
theorem good_rev {c : Ch} (gc : GoodC c) (h : ¬ c.marks = []) : GoodC (revC c) := by
  have hl := gc.m1 _ (last_in h)
  have gp := good_pop gc
  unfold revC
  split
  · rename_i hw
    have hs := gc.m2 hw _ (last_in h)
    have ha := gc.w1 hw
    have h4 := gc.at4
    refine ⟨gc.f0, gc.ft, gc.t4, hl.1, (by show lastM c ≤ c.to; omega), fun _ => ⟨ha.1, (by show lastM c = c.st + ((c.pend.take (lastM c - c.st).toNat).length : Int); rw [List.length_take]; omega)⟩, fun hf => ?_, fun m hm => ⟨(gp.m1 m hm).1, last_le gc h m hm⟩, fun _ m hm => gp.m2 hw m hm, gp.m3⟩
    have hf2 : c.wr = false := hf
    rw [hw] at hf2; cases hf2
  · rename_i hw
    have h4 := gc.at4
    exact ⟨gc.f0, gc.ft, gc.t4, hl.1, (by show lastM c ≤ c.to; omega), fun hx => absurd hx hw, gc.r1, fun m hm => ⟨(gp.m1 m hm).1, last_le gc h m hm⟩, fun hx => absurd hx hw, gp.m3⟩
theorem rev_num (c : Ch) : (revC c).num = c.num ∧ (revC c).marks = (popC c).marks := by unfold revC; split <;> exact ⟨rfl, rfl⟩
theorem pop_len (c : Ch) : (popC c).marks.length ≤ c.marks.length := by simp [popC]
theorem good_revert {F : Fl} {k : Nat} (g : Good F k) (n : Int) : Good (revertF F n).1 k := by
  unfold revertF
  split
  · exact g
  · rename_i i h
    split
    · exact g
    · rename_i h2
      exact good_upd g h (rev_num _).1 (good_rev (g.gc _ (ch_mem h)) h2) (by rw [(rev_num _).2]; exact Nat.le_trans (pop_len _) (g.mks (ch F i) (ch_mem h)))
theorem good_accept {F : Fl} {k : Nat} (g : Good F k) (n : Int) : Good (acceptF F n).1 k := by
  unfold acceptF
  split
  · exact g
  · rename_i i h
    split
    · exact g
    · exact good_upd g h rfl (good_pop (g.gc _ (ch_mem h))) (Nat.le_trans (pop_len _) (g.mks (ch F i) (ch_mem h)))
theorem pad_len (bs : List UInt8) (n : Nat) : (padTo bs n).length = max bs.length n := by simp [padTo]; omega
theorem put_wr {c : Ch} (gc : GoodC c) (h : ¬ c.pend = []) : c.wr = true := by
  cases hw : c.wr with
  | true => rfl
  | false => exact absurd (gc.r1 hw) h
theorem putB_len {bs : List UInt8} {c : Ch} (gc : GoodC c) (h : bs.length ≤ 400) : (putB bs c).length ≤ 400 := by
  unfold putB
  split
  · exact h
  · rename_i hp
    have hw := gc.w1 (put_wr gc hp)
    have h1 := gc.f0; have h2 := gc.at4; have h3 := gc.t4
    have hl := pad_len bs (c.st.toNat + c.pend.length)
    rw [spl_len (by omega), hl]; omega
theorem good_put {c : Ch} (gc : GoodC c) (hm : c.pend = [] ∨ c.marks = []) : GoodC (putC c) := by
  unfold putC
  split
  · exact gc
  · rename_i hp
    have hw := put_wr gc hp
    have hm' : c.marks = [] := by rcases hm with h | h; exact absurd h hp; exact h
    exact ⟨gc.f0, gc.ft, gc.t4, gc.fa, gc.at4, fun _ => ⟨gc.fa, by simp⟩, fun hf => absurd (hw.symm.trans hf) (by decide), fun m h => (by have h2 : m ∈ c.marks := h; rw [hm'] at h2; cases h2), fun _ m h => (by have h2 : m ∈ c.marks := h; rw [hm'] at h2; cases h2), gc.m3⟩
theorem put_num (c : Ch) : (putC c).num = c.num ∧ (putC c).marks = c.marks := by unfold putC; split <;> exact ⟨rfl, rfl⟩
theorem good_commit {F : Fl} {k : Nat} (g : Good F k) (n : Int) : Good (commitF F n).1 k := by
  unfold commitF
  split
  · exact g
  · rename_i i h
    split
    · exact g
    · rename_i h2
      have gc := g.gc _ (ch_mem h)
      have hm : (ch F i).marks = [] := by by_cases hm : (ch F i).marks = []; exact hm; exact absurd (.inr hm) h2
      have gu := good_upd g h (put_num _).1 (good_put gc (.inr hm)) (by rw [(put_num _).2]; exact g.mks _ (ch_mem h))
      exact ⟨putB_len gc g.b4, gu.n1, gu.nk, gu.ord, gu.lt, gu.gc, gu.mks, gu.ol⟩
theorem good_close {F : Fl} {k : Nat} (g : Good F k) (n : Int) : Good (closeF F n).1 k := by
  unfold closeF
  split
  · exact g
  · rename_i i h
    have gc := g.gc _ (ch_mem h)
    have hs := List.eraseIdx_sublist F.opens i
    exact ⟨putB_len gc g.b4, g.n1, g.nk, g.ord.sublist hs, fun c hc => g.lt c (hs.subset hc), fun c hc => g.gc c (hs.subset hc), fun c hc => g.mks c (hs.subset hc), Nat.le_trans hs.length_le g.ol⟩
end Hf
