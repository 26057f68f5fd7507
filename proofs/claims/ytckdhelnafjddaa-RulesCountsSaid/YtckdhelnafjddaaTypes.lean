/- The facts on types that the walks use, by program. Conditions: none. -/
import Derived.Test.YtckdhelnafjddaaRows
import Derived.Test.YtckdhelnafjddaaLt
namespace Go.Proofs.Ytckdhelnafjddaa
open Go Go.Sl Go.Proofs
set_option maxRecDepth 100000

theorem Ty.mixed : Try.prog.follows .mixedOrders = true := by kernel_rfl
theorem Ty.sc1 : Scalar Try.prog 1 := Scalar.of Try.underlying1 rfl (by kernel_rfl)
theorem Ty.ze1 : Zero Try.prog 1 [.nilFunc] := Zero.of (z := .nilFunc) (by kernel_rfl) rfl
theorem Ty.sc2 : Scalar Try.prog 2 := Scalar.of Try.underlying2 rfl (by kernel_rfl)
theorem Ty.ze2 : Zero Try.prog 2 [.int .i64 0] := Zero.of (z := .int .i64 0) (by kernel_rfl) rfl
theorem Ty.sc3 : Scalar Try.prog 3 := Scalar.of Try.underlying3 rfl (by kernel_rfl)
theorem Ty.ze3 : Zero Try.prog 3 [.int .i64 0] := Zero.of (z := .int .i64 0) (by kernel_rfl) rfl
theorem Ty.sc4 : Scalar Try.prog 4 := Scalar.of Try.underlying4 rfl (by kernel_rfl)
theorem Ty.ze4 : Zero Try.prog 4 [.bool false] := Zero.of (z := .bool false) (by kernel_rfl) rfl
theorem Ty.sc5 : Scalar Try.prog 5 := Scalar.of Try.underlying5 rfl (by kernel_rfl)
theorem Ty.ze5 : Zero Try.prog 5 [.int .u8 0] := Zero.of (z := .int .u8 0) (by kernel_rfl) rfl
theorem Ty.sc6 : Scalar Try.prog 6 := Scalar.of Try.underlying6 rfl (by kernel_rfl)
theorem Ty.ze6 : Zero Try.prog 6 [.int .u8 0] := Zero.of (z := .int .u8 0) (by kernel_rfl) rfl
theorem Ty.ag7 : Agg Try.prog 7 4 := Agg.of Try.underlying7 rfl (by kernel_rfl)
theorem Ty.gt7 : Try.prog.eqGuardType Try.prog.depth 7 = false := by kernel_rfl
theorem Ty.fd7_0 : Fld Try.prog 7 0 0 := Fld.of (n := 0) Try.underlying7 rfl rfl (by kernel_rfl)  -- x
theorem Ty.fd7_1 : Fld Try.prog 7 1 1 := Fld.of (n := 0) Try.underlying7 rfl rfl (by kernel_rfl)  -- y
theorem Ty.fd7_2 : Fld Try.prog 7 2 2 := Fld.of (n := 0) Try.underlying7 rfl rfl (by kernel_rfl)  -- signed
theorem Ty.fd7_3 : Fld Try.prog 7 3 3 := Fld.of (n := 0) Try.underlying7 rfl rfl (by kernel_rfl)  -- code
theorem Ty.ze7 : Zero Try.prog 7 [.int .i64 0, .int .i64 0, .bool false, .int .u8 0] := Zero.of (z := .agg #[.int .i64 0, .int .i64 0, .bool false, .int .u8 0]) (by kernel_rfl) rfl
theorem Ty.ag8 : Agg Try.prog 8 4 := Agg.of Try.underlying8 rfl (by kernel_rfl)
theorem Ty.gt8 : Try.prog.eqGuardType Try.prog.depth 8 = false := by kernel_rfl
theorem Ty.fd8_0 : Fld Try.prog 8 0 0 := Fld.of (n := 0) Try.underlying8 rfl rfl (by kernel_rfl)  -- x
theorem Ty.fd8_1 : Fld Try.prog 8 1 1 := Fld.of (n := 0) Try.underlying8 rfl rfl (by kernel_rfl)  -- y
theorem Ty.fd8_2 : Fld Try.prog 8 2 2 := Fld.of (n := 0) Try.underlying8 rfl rfl (by kernel_rfl)  -- signed
theorem Ty.fd8_3 : Fld Try.prog 8 3 3 := Fld.of (n := 0) Try.underlying8 rfl rfl (by kernel_rfl)  -- code
theorem Ty.ze8 : Zero Try.prog 8 [.int .i64 0, .int .i64 0, .bool false, .int .u8 0] := Zero.of (z := .agg #[.int .i64 0, .int .i64 0, .bool false, .int .u8 0]) (by kernel_rfl) rfl
theorem Ty.sc9 : Scalar Try.prog 9 := Scalar.of Try.underlying9 rfl (by kernel_rfl)
theorem Ty.ze9 : Zero Try.prog 9 [.string ⟨#[]⟩] := Zero.of (z := .string ⟨#[]⟩) (by kernel_rfl) rfl
theorem Ty.sc10 : Scalar Try.prog 10 := Scalar.of Try.underlying10 rfl (by kernel_rfl)
theorem Ty.ze10 : Zero Try.prog 10 [.string ⟨#[]⟩] := Zero.of (z := .string ⟨#[]⟩) (by kernel_rfl) rfl
theorem Ty.sc11 : Scalar Try.prog 11 := Scalar.of Try.underlying11 rfl (by kernel_rfl)
theorem Ty.ze11 : Zero Try.prog 11 [.string ⟨#[]⟩] := Zero.of (z := .string ⟨#[]⟩) (by kernel_rfl) rfl
theorem Ty.sc12 : Scalar Try.prog 12 := Scalar.of Try.underlying12 rfl (by kernel_rfl)
theorem Ty.ze12 : Zero Try.prog 12 [.int .u64 0] := Zero.of (z := .int .u64 0) (by kernel_rfl) rfl
theorem Ty.ag13 : Agg Try.prog 13 2 := Agg.of Try.underlying13 rfl (by kernel_rfl)
theorem Ty.gt13 : Try.prog.eqGuardType Try.prog.depth 13 = false := by kernel_rfl
theorem Ty.fd13_0 : Fld Try.prog 13 0 0 := Fld.of (n := 0) Try.underlying13 rfl rfl (by kernel_rfl)  -- msg
theorem Ty.fd13_1 : Fld Try.prog 13 1 1 := Fld.of (n := 0) Try.underlying13 rfl rfl (by kernel_rfl)  -- addr
theorem Ty.ze13 : Zero Try.prog 13 [.string ⟨#[]⟩, .int .u64 0] := Zero.of (z := .agg #[.string ⟨#[]⟩, .int .u64 0]) (by kernel_rfl) rfl
theorem Ty.ag14 : Agg Try.prog 14 2 := Agg.of Try.underlying14 rfl (by kernel_rfl)
theorem Ty.gt14 : Try.prog.eqGuardType Try.prog.depth 14 = false := by kernel_rfl
theorem Ty.fd14_0 : Fld Try.prog 14 0 0 := Fld.of (n := 0) Try.underlying14 rfl rfl (by kernel_rfl)  -- msg
theorem Ty.fd14_1 : Fld Try.prog 14 1 1 := Fld.of (n := 0) Try.underlying14 rfl rfl (by kernel_rfl)  -- addr
theorem Ty.ze14 : Zero Try.prog 14 [.string ⟨#[]⟩, .int .u64 0] := Zero.of (z := .agg #[.string ⟨#[]⟩, .int .u64 0]) (by kernel_rfl) rfl
theorem Ty.sc15 : Scalar Try.prog 15 := Scalar.of Try.underlying15 rfl (by kernel_rfl)
theorem Ty.ze15 : Zero Try.prog 15 [.pointer none] := Zero.of (z := .pointer none) (by kernel_rfl) rfl
theorem Ty.sc16 : Scalar Try.prog 16 := Scalar.of Try.underlying16 rfl (by kernel_rfl)
theorem Ty.ze16 : Zero Try.prog 16 [.pointer none] := Zero.of (z := .pointer none) (by kernel_rfl) rfl
theorem Ty.sc17 : Scalar Try.prog 17 := Scalar.of Try.underlying17 rfl (by kernel_rfl)
theorem Ty.ze17 : Zero Try.prog 17 [.pointer none] := Zero.of (z := .pointer none) (by kernel_rfl) rfl
theorem Ty.ag18 : Agg Try.prog 18 1 := Agg.of Try.underlying18 rfl (by kernel_rfl)
theorem Ty.gt18 : Try.prog.eqGuardType Try.prog.depth 18 = false := by kernel_rfl
theorem Ty.fd18_0 : Fld Try.prog 18 0 0 := Fld.of (n := 0) Try.underlying18 rfl rfl (by kernel_rfl)  -- typ
theorem Ty.ze18 : Zero Try.prog 18 [.pointer none] := Zero.of (z := .agg #[.pointer none]) (by kernel_rfl) rfl
theorem Ty.ag19 : Agg Try.prog 19 1 := Agg.of Try.underlying19 rfl (by kernel_rfl)
theorem Ty.gt19 : Try.prog.eqGuardType Try.prog.depth 19 = false := by kernel_rfl
theorem Ty.fd19_0 : Fld Try.prog 19 0 0 := Fld.of (n := 0) Try.underlying19 rfl rfl (by kernel_rfl)  -- typ
theorem Ty.ze19 : Zero Try.prog 19 [.pointer none] := Zero.of (z := .agg #[.pointer none]) (by kernel_rfl) rfl
theorem Ty.sc20 : Scalar Try.prog 20 := Scalar.of Try.underlying20 rfl (by kernel_rfl)
theorem Ty.ze20 : Zero Try.prog 20 [.nilIface] := Zero.of (z := .nilIface) (by kernel_rfl) rfl
theorem Ty.sc21 : Scalar Try.prog 21 := Scalar.of Try.underlying21 rfl (by kernel_rfl)
theorem Ty.ze21 : Zero Try.prog 21 [.int .i32 0] := Zero.of (z := .int .i32 0) (by kernel_rfl) rfl
theorem Ty.sc22 : Scalar Try.prog 22 := Scalar.of Try.underlying22 rfl (by kernel_rfl)
theorem Ty.ze22 : Zero Try.prog 22 [.int .u64 0] := Zero.of (z := .int .u64 0) (by kernel_rfl) rfl
theorem Ty.sc23 : Scalar Try.prog 23 := Scalar.of Try.underlying23 rfl (by kernel_rfl)
theorem Ty.el23 : (Try.prog.info? 5).map (·.size) = some 1 := by kernel_rfl
theorem Ty.zo23 : Zone Try.prog 5 := by unfold Zone; kernel_rfl
theorem Ty.em23 : Elem Try.prog 5 1 1 := Elem.of (by kernel_rfl)
theorem Ty.ze23 : Zero Try.prog 23 [.slice none 0 0] := Zero.of (z := .slice none 0 0) (by kernel_rfl) rfl
theorem Ty.ag24 : Agg Try.prog 24 8 := Agg.of Try.underlying24 rfl (by kernel_rfl)
theorem Ty.gt24 : Try.prog.eqGuardType Try.prog.depth 24 = false := by kernel_rfl
theorem Ty.el24 : (Try.prog.info? 5).map (·.size) = some 1 := by kernel_rfl
theorem Ty.em24 : Elem Try.prog 5 1 1 := Elem.of (by kernel_rfl)
theorem Ty.ze24 : Zero Try.prog 24 [.int .u8 0, .int .u8 0, .int .u8 0, .int .u8 0, .int .u8 0, .int .u8 0, .int .u8 0, .int .u8 0] := Zero.of (z := .agg #[.int .u8 0, .int .u8 0, .int .u8 0, .int .u8 0, .int .u8 0, .int .u8 0, .int .u8 0, .int .u8 0]) (by kernel_rfl) rfl
theorem Ty.ag25 : Agg Try.prog 25 16 := Agg.of Try.underlying25 rfl (by kernel_rfl)
theorem Ty.gt25 : Try.prog.eqGuardType Try.prog.depth 25 = false := by kernel_rfl
theorem Ty.el25 : (Try.prog.info? 5).map (·.size) = some 1 := by kernel_rfl
theorem Ty.em25 : Elem Try.prog 5 1 1 := Elem.of (by kernel_rfl)
theorem Ty.ze25 : Zero Try.prog 25 [.int .u8 0, .int .u8 0, .int .u8 0, .int .u8 0, .int .u8 0, .int .u8 0, .int .u8 0, .int .u8 0, .int .u8 0, .int .u8 0, .int .u8 0, .int .u8 0, .int .u8 0, .int .u8 0, .int .u8 0, .int .u8 0] := Zero.of (z := .agg #[.int .u8 0, .int .u8 0, .int .u8 0, .int .u8 0, .int .u8 0, .int .u8 0, .int .u8 0, .int .u8 0, .int .u8 0, .int .u8 0, .int .u8 0, .int .u8 0, .int .u8 0, .int .u8 0, .int .u8 0, .int .u8 0]) (by kernel_rfl) rfl
theorem Ty.sc26 : Scalar Try.prog 26 := Scalar.of Try.underlying26 rfl (by kernel_rfl)
theorem Ty.ze26 : Zero Try.prog 26 [.int .u8 0] := Zero.of (z := .int .u8 0) (by kernel_rfl) rfl
theorem Ty.sc27 : Scalar Try.prog 27 := Scalar.of Try.underlying27 rfl (by kernel_rfl)
theorem Ty.el27 : (Try.prog.info? 102).map (·.size) = some 2 := by kernel_rfl
theorem Ty.zo27 : Zone Try.prog 102 := by unfold Zone; kernel_rfl
theorem Ty.em27 : Elem Try.prog 102 2 16 := Elem.of (by kernel_rfl)
theorem Ty.ze27 : Zero Try.prog 27 [.slice none 0 0] := Zero.of (z := .slice none 0 0) (by kernel_rfl) rfl
theorem Ty.ag28 : Agg Try.prog 28 3 := Agg.of Try.underlying28 rfl (by kernel_rfl)
theorem Ty.gt28 : Try.prog.eqGuardType Try.prog.depth 28 = false := by kernel_rfl
theorem Ty.el28 : (Try.prog.info? 22).map (·.size) = some 1 := by kernel_rfl
theorem Ty.em28 : Elem Try.prog 22 1 8 := Elem.of (by kernel_rfl)
theorem Ty.ze28 : Zero Try.prog 28 [.int .u64 0, .int .u64 0, .int .u64 0] := Zero.of (z := .agg #[.int .u64 0, .int .u64 0, .int .u64 0]) (by kernel_rfl) rfl
theorem Ty.ag29 : Agg Try.prog 29 39 := Agg.of Try.underlying29 rfl (by kernel_rfl)
theorem Ty.gt29 : Try.prog.eqGuardType Try.prog.depth 29 = false := by kernel_rfl
theorem Ty.fd29_0 : Fld Try.prog 29 0 0 := Fld.of (n := 0) Try.underlying29 rfl rfl (by kernel_rfl)  -- Kind
theorem Ty.fd29_1 : Fld Try.prog 29 1 1 := Fld.of (n := 0) Try.underlying29 rfl rfl (by kernel_rfl)  -- Stream
theorem Ty.fd29_2 : Fld Try.prog 29 2 2 := Fld.of (n := 0) Try.underlying29 rfl rfl (by kernel_rfl)  -- Offset
theorem Ty.fd29_3 : Fld Try.prog 29 3 3 := Fld.of (n := 0) Try.underlying29 rfl rfl (by kernel_rfl)  -- Limit
theorem Ty.fd29_4 : Fld Try.prog 29 4 4 := Fld.of (n := 0) Try.underlying29 rfl rfl (by kernel_rfl)  -- Code
theorem Ty.fd29_5 : Fld Try.prog 29 5 5 := Fld.of (n := 0) Try.underlying29 rfl rfl (by kernel_rfl)  -- Data
theorem Ty.fd29_6 : Fld Try.prog 29 6 6 := Fld.of (n := 0) Try.underlying29 rfl rfl (by kernel_rfl)  -- Fin
theorem Ty.fd29_7 : Fld Try.prog 29 7 7 := Fld.of (n := 0) Try.underlying29 rfl rfl (by kernel_rfl)  -- Ranges
theorem Ty.fd29_8 : Fld Try.prog 29 8 8 := Fld.of (n := 0) Try.underlying29 rfl rfl (by kernel_rfl)  -- Delay
theorem Ty.fd29_9 : Fld Try.prog 29 9 9 := Fld.of (n := 2) Try.underlying29 rfl rfl (by kernel_rfl)  -- Ecn
theorem Ty.fd29_10 : Fld Try.prog 29 10 12 := Fld.of (n := 0) Try.underlying29 rfl rfl (by kernel_rfl)  -- Seq
theorem Ty.fd29_11 : Fld Try.prog 29 11 13 := Fld.of (n := 0) Try.underlying29 rfl rfl (by kernel_rfl)  -- Prior
theorem Ty.fd29_12 : Fld Try.prog 29 12 14 := Fld.of (n := 0) Try.underlying29 rfl rfl (by kernel_rfl)  -- Id
theorem Ty.fd29_13 : Fld Try.prog 29 13 15 := Fld.of (n := 15) Try.underlying29 rfl rfl (by kernel_rfl)  -- Token
theorem Ty.fd29_14 : Fld Try.prog 29 14 31 := Fld.of (n := 7) Try.underlying29 rfl rfl (by kernel_rfl)  -- Word
theorem Ty.ze29 : Zero Try.prog 29 [.int .u8 0, .int .u64 0, .int .u64 0, .int .u64 0, .int .u64 0, .slice none 0 0, .bool false, .slice none 0 0, .int .u64 0, .int .u64 0, .int .u64 0, .int .u64 0, .int .u64 0, .int .u64 0, .slice none 0 0, .int .u8 0, .int .u8 0, .int .u8 0, .int .u8 0, .int .u8 0, .int .u8 0, .int .u8 0, .int .u8 0, .int .u8 0, .int .u8 0, .int .u8 0, .int .u8 0, .int .u8 0, .int .u8 0, .int .u8 0, .int .u8 0, .int .u8 0, .int .u8 0, .int .u8 0, .int .u8 0, .int .u8 0, .int .u8 0, .int .u8 0, .int .u8 0] := Zero.of (z := .agg #[.int .u8 0, .int .u64 0, .int .u64 0, .int .u64 0, .int .u64 0, .slice none 0 0, .bool false, .slice none 0 0, .int .u64 0, .int .u64 0, .int .u64 0, .int .u64 0, .int .u64 0, .int .u64 0, .slice none 0 0, .int .u8 0, .int .u8 0, .int .u8 0, .int .u8 0, .int .u8 0, .int .u8 0, .int .u8 0, .int .u8 0, .int .u8 0, .int .u8 0, .int .u8 0, .int .u8 0, .int .u8 0, .int .u8 0, .int .u8 0, .int .u8 0, .int .u8 0, .int .u8 0, .int .u8 0, .int .u8 0, .int .u8 0, .int .u8 0, .int .u8 0, .int .u8 0]) (by kernel_rfl) rfl
theorem Ty.ag30 : Agg Try.prog 30 39 := Agg.of Try.underlying30 rfl (by kernel_rfl)
theorem Ty.gt30 : Try.prog.eqGuardType Try.prog.depth 30 = false := by kernel_rfl
theorem Ty.fd30_0 : Fld Try.prog 30 0 0 := Fld.of (n := 0) Try.underlying30 rfl rfl (by kernel_rfl)  -- Kind
theorem Ty.fd30_1 : Fld Try.prog 30 1 1 := Fld.of (n := 0) Try.underlying30 rfl rfl (by kernel_rfl)  -- Stream
theorem Ty.fd30_2 : Fld Try.prog 30 2 2 := Fld.of (n := 0) Try.underlying30 rfl rfl (by kernel_rfl)  -- Offset
theorem Ty.fd30_3 : Fld Try.prog 30 3 3 := Fld.of (n := 0) Try.underlying30 rfl rfl (by kernel_rfl)  -- Limit
theorem Ty.fd30_4 : Fld Try.prog 30 4 4 := Fld.of (n := 0) Try.underlying30 rfl rfl (by kernel_rfl)  -- Code
theorem Ty.fd30_5 : Fld Try.prog 30 5 5 := Fld.of (n := 0) Try.underlying30 rfl rfl (by kernel_rfl)  -- Data
theorem Ty.fd30_6 : Fld Try.prog 30 6 6 := Fld.of (n := 0) Try.underlying30 rfl rfl (by kernel_rfl)  -- Fin
theorem Ty.fd30_7 : Fld Try.prog 30 7 7 := Fld.of (n := 0) Try.underlying30 rfl rfl (by kernel_rfl)  -- Ranges
theorem Ty.fd30_8 : Fld Try.prog 30 8 8 := Fld.of (n := 0) Try.underlying30 rfl rfl (by kernel_rfl)  -- Delay
theorem Ty.fd30_9 : Fld Try.prog 30 9 9 := Fld.of (n := 2) Try.underlying30 rfl rfl (by kernel_rfl)  -- Ecn
theorem Ty.fd30_10 : Fld Try.prog 30 10 12 := Fld.of (n := 0) Try.underlying30 rfl rfl (by kernel_rfl)  -- Seq
theorem Ty.fd30_11 : Fld Try.prog 30 11 13 := Fld.of (n := 0) Try.underlying30 rfl rfl (by kernel_rfl)  -- Prior
theorem Ty.fd30_12 : Fld Try.prog 30 12 14 := Fld.of (n := 0) Try.underlying30 rfl rfl (by kernel_rfl)  -- Id
theorem Ty.fd30_13 : Fld Try.prog 30 13 15 := Fld.of (n := 15) Try.underlying30 rfl rfl (by kernel_rfl)  -- Token
theorem Ty.fd30_14 : Fld Try.prog 30 14 31 := Fld.of (n := 7) Try.underlying30 rfl rfl (by kernel_rfl)  -- Word
theorem Ty.ze30 : Zero Try.prog 30 [.int .u8 0, .int .u64 0, .int .u64 0, .int .u64 0, .int .u64 0, .slice none 0 0, .bool false, .slice none 0 0, .int .u64 0, .int .u64 0, .int .u64 0, .int .u64 0, .int .u64 0, .int .u64 0, .slice none 0 0, .int .u8 0, .int .u8 0, .int .u8 0, .int .u8 0, .int .u8 0, .int .u8 0, .int .u8 0, .int .u8 0, .int .u8 0, .int .u8 0, .int .u8 0, .int .u8 0, .int .u8 0, .int .u8 0, .int .u8 0, .int .u8 0, .int .u8 0, .int .u8 0, .int .u8 0, .int .u8 0, .int .u8 0, .int .u8 0, .int .u8 0, .int .u8 0] := Zero.of (z := .agg #[.int .u8 0, .int .u64 0, .int .u64 0, .int .u64 0, .int .u64 0, .slice none 0 0, .bool false, .slice none 0 0, .int .u64 0, .int .u64 0, .int .u64 0, .int .u64 0, .int .u64 0, .int .u64 0, .slice none 0 0, .int .u8 0, .int .u8 0, .int .u8 0, .int .u8 0, .int .u8 0, .int .u8 0, .int .u8 0, .int .u8 0, .int .u8 0, .int .u8 0, .int .u8 0, .int .u8 0, .int .u8 0, .int .u8 0, .int .u8 0, .int .u8 0, .int .u8 0, .int .u8 0, .int .u8 0, .int .u8 0, .int .u8 0, .int .u8 0, .int .u8 0, .int .u8 0]) (by kernel_rfl) rfl
theorem Ty.ag31 : Agg Try.prog 31 72 := Agg.of Try.underlying31 rfl (by kernel_rfl)
theorem Ty.gt31 : Try.prog.eqGuardType Try.prog.depth 31 = false := by kernel_rfl
theorem Ty.fd31_0 : Fld Try.prog 31 0 0 := Fld.of (n := 0) Try.underlying31 rfl rfl (by kernel_rfl)  -- Kind
theorem Ty.fd31_1 : Fld Try.prog 31 1 1 := Fld.of (n := 0) Try.underlying31 rfl rfl (by kernel_rfl)  -- A
theorem Ty.fd31_2 : Fld Try.prog 31 2 2 := Fld.of (n := 0) Try.underlying31 rfl rfl (by kernel_rfl)  -- B
theorem Ty.fd31_3 : Fld Try.prog 31 3 3 := Fld.of (n := 0) Try.underlying31 rfl rfl (by kernel_rfl)  -- C
theorem Ty.fd31_4 : Fld Try.prog 31 4 4 := Fld.of (n := 0) Try.underlying31 rfl rfl (by kernel_rfl)  -- Data
theorem Ty.fd31_5 : Fld Try.prog 31 5 5 := Fld.of (n := 0) Try.underlying31 rfl rfl (by kernel_rfl)  -- Fin
theorem Ty.fd31_6 : Fld Try.prog 31 6 6 := Fld.of (n := 0) Try.underlying31 rfl rfl (by kernel_rfl)  -- Gaps
theorem Ty.fd31_7 : Fld Try.prog 31 7 7 := Fld.of (n := 7) Try.underlying31 rfl rfl (by kernel_rfl)  -- Word
theorem Ty.fd31_8 : Fld Try.prog 31 8 15 := Fld.of (n := 15) Try.underlying31 rfl rfl (by kernel_rfl)  -- Token
theorem Ty.fd31_9 : Fld Try.prog 31 9 31 := Fld.of (n := 38) Try.underlying31 rfl rfl (by kernel_rfl)  -- Any
theorem Ty.fd31_10 : Fld Try.prog 31 10 70 := Fld.of (n := 0) Try.underlying31 rfl rfl (by kernel_rfl)  -- Raw
theorem Ty.fd31_11 : Fld Try.prog 31 11 71 := Fld.of (n := 0) Try.underlying31 rfl rfl (by kernel_rfl)  -- Large
theorem Ty.ag32 : Agg Try.prog 32 72 := Agg.of Try.underlying32 rfl (by kernel_rfl)
theorem Ty.gt32 : Try.prog.eqGuardType Try.prog.depth 32 = false := by kernel_rfl
theorem Ty.fd32_0 : Fld Try.prog 32 0 0 := Fld.of (n := 0) Try.underlying32 rfl rfl (by kernel_rfl)  -- Kind
theorem Ty.fd32_1 : Fld Try.prog 32 1 1 := Fld.of (n := 0) Try.underlying32 rfl rfl (by kernel_rfl)  -- A
theorem Ty.fd32_2 : Fld Try.prog 32 2 2 := Fld.of (n := 0) Try.underlying32 rfl rfl (by kernel_rfl)  -- B
theorem Ty.fd32_3 : Fld Try.prog 32 3 3 := Fld.of (n := 0) Try.underlying32 rfl rfl (by kernel_rfl)  -- C
theorem Ty.fd32_4 : Fld Try.prog 32 4 4 := Fld.of (n := 0) Try.underlying32 rfl rfl (by kernel_rfl)  -- Data
theorem Ty.fd32_5 : Fld Try.prog 32 5 5 := Fld.of (n := 0) Try.underlying32 rfl rfl (by kernel_rfl)  -- Fin
theorem Ty.fd32_6 : Fld Try.prog 32 6 6 := Fld.of (n := 0) Try.underlying32 rfl rfl (by kernel_rfl)  -- Gaps
theorem Ty.fd32_7 : Fld Try.prog 32 7 7 := Fld.of (n := 7) Try.underlying32 rfl rfl (by kernel_rfl)  -- Word
theorem Ty.fd32_8 : Fld Try.prog 32 8 15 := Fld.of (n := 15) Try.underlying32 rfl rfl (by kernel_rfl)  -- Token
theorem Ty.fd32_9 : Fld Try.prog 32 9 31 := Fld.of (n := 38) Try.underlying32 rfl rfl (by kernel_rfl)  -- Any
theorem Ty.fd32_10 : Fld Try.prog 32 10 70 := Fld.of (n := 0) Try.underlying32 rfl rfl (by kernel_rfl)  -- Raw
theorem Ty.fd32_11 : Fld Try.prog 32 11 71 := Fld.of (n := 0) Try.underlying32 rfl rfl (by kernel_rfl)  -- Large
theorem Ty.sc33 : Scalar Try.prog 33 := Scalar.of Try.underlying33 rfl (by kernel_rfl)
theorem Ty.ze33 : Zero Try.prog 33 [.nilFunc] := Zero.of (z := .nilFunc) (by kernel_rfl) rfl
theorem Ty.sc34 : Scalar Try.prog 34 := Scalar.of Try.underlying34 rfl (by kernel_rfl)
theorem Ty.ze34 : Zero Try.prog 34 [.nilFunc] := Zero.of (z := .nilFunc) (by kernel_rfl) rfl
theorem Ty.sc35 : Scalar Try.prog 35 := Scalar.of Try.underlying35 rfl (by kernel_rfl)
theorem Ty.ze35 : Zero Try.prog 35 [.nilFunc] := Zero.of (z := .nilFunc) (by kernel_rfl) rfl
theorem Ty.sc36 : Scalar Try.prog 36 := Scalar.of Try.underlying36 rfl (by kernel_rfl)
theorem Ty.el36 : (Try.prog.info? 30).map (·.size) = some 39 := by kernel_rfl
theorem Ty.zo36 : Zone Try.prog 30 := by unfold Zone; kernel_rfl
theorem Ty.em36 : Elem Try.prog 30 39 192 := Elem.of (by kernel_rfl)
theorem Ty.ze36 : Zero Try.prog 36 [.slice none 0 0] := Zero.of (z := .slice none 0 0) (by kernel_rfl) rfl
theorem Ty.sc37 : Scalar Try.prog 37 := Scalar.of Try.underlying37 rfl (by kernel_rfl)
theorem Ty.ze37 : Zero Try.prog 37 [.int .i64 0] := Zero.of (z := .int .i64 0) (by kernel_rfl) rfl
theorem Ty.sc39 : Scalar Try.prog 39 := Scalar.of Try.underlying39 rfl (by kernel_rfl)
theorem Ty.ze39 : Zero Try.prog 39 [.nilFunc] := Zero.of (z := .nilFunc) (by kernel_rfl) rfl
theorem Ty.sc41 : Scalar Try.prog 41 := Scalar.of Try.underlying41 rfl (by kernel_rfl)
theorem Ty.ze41 : Zero Try.prog 41 [.nilFunc] := Zero.of (z := .nilFunc) (by kernel_rfl) rfl
theorem Ty.sc42 : Scalar Try.prog 42 := Scalar.of Try.underlying42 rfl (by kernel_rfl)
theorem Ty.ze42 : Zero Try.prog 42 [.nilFunc] := Zero.of (z := .nilFunc) (by kernel_rfl) rfl
theorem Ty.sc43 : Scalar Try.prog 43 := Scalar.of Try.underlying43 rfl (by kernel_rfl)
theorem Ty.ze43 : Zero Try.prog 43 [.nilFunc] := Zero.of (z := .nilFunc) (by kernel_rfl) rfl
theorem Ty.sc44 : Scalar Try.prog 44 := Scalar.of Try.underlying44 rfl (by kernel_rfl)
theorem Ty.el44 : (Try.prog.info? 32).map (·.size) = some 72 := by kernel_rfl
theorem Ty.zo44 : Zone Try.prog 32 := by unfold Zone; kernel_rfl
theorem Ty.em44 : Elem Try.prog 32 72 312 := Elem.of (by kernel_rfl)
theorem Ty.ze44 : Zero Try.prog 44 [.slice none 0 0] := Zero.of (z := .slice none 0 0) (by kernel_rfl) rfl
theorem Ty.sc45 : Scalar Try.prog 45 := Scalar.of Try.underlying45 rfl (by kernel_rfl)
theorem Ty.ze45 : Zero Try.prog 45 [.nilFunc] := Zero.of (z := .nilFunc) (by kernel_rfl) rfl
theorem Ty.sc46 : Scalar Try.prog 46 := Scalar.of Try.underlying46 rfl (by kernel_rfl)
theorem Ty.ze46 : Zero Try.prog 46 [.nilFunc] := Zero.of (z := .nilFunc) (by kernel_rfl) rfl
theorem Ty.sc47 : Scalar Try.prog 47 := Scalar.of Try.underlying47 rfl (by kernel_rfl)
theorem Ty.ze47 : Zero Try.prog 47 [.nilFunc] := Zero.of (z := .nilFunc) (by kernel_rfl) rfl
theorem Ty.sc48 : Scalar Try.prog 48 := Scalar.of Try.underlying48 rfl (by kernel_rfl)
theorem Ty.ze48 : Zero Try.prog 48 [.nilFunc] := Zero.of (z := .nilFunc) (by kernel_rfl) rfl
theorem Ty.sc49 : Scalar Try.prog 49 := Scalar.of Try.underlying49 rfl (by kernel_rfl)
theorem Ty.el49 : (Try.prog.info? 3).map (·.size) = some 1 := by kernel_rfl
theorem Ty.zo49 : Zone Try.prog 3 := by unfold Zone; kernel_rfl
theorem Ty.em49 : Elem Try.prog 3 1 8 := Elem.of (by kernel_rfl)
theorem Ty.ze49 : Zero Try.prog 49 [.slice none 0 0] := Zero.of (z := .slice none 0 0) (by kernel_rfl) rfl
theorem Ty.sc50 : Scalar Try.prog 50 := Scalar.of Try.underlying50 rfl (by kernel_rfl)
theorem Ty.ze50 : Zero Try.prog 50 [.nilFunc] := Zero.of (z := .nilFunc) (by kernel_rfl) rfl
theorem Ty.sc51 : Scalar Try.prog 51 := Scalar.of Try.underlying51 rfl (by kernel_rfl)
theorem Ty.el51 : (Try.prog.info? 114).map (·.size) = some 2 := by kernel_rfl
theorem Ty.zo51 : Zone Try.prog 114 := by unfold Zone; kernel_rfl
theorem Ty.em51 : Elem Try.prog 114 2 16 := Elem.of (by kernel_rfl)
theorem Ty.ze51 : Zero Try.prog 51 [.slice none 0 0] := Zero.of (z := .slice none 0 0) (by kernel_rfl) rfl
theorem Ty.ag52 : Agg Try.prog 52 39 := Agg.of Try.underlying52 rfl (by kernel_rfl)
theorem Ty.gt52 : Try.prog.eqGuardType Try.prog.depth 52 = false := by kernel_rfl
theorem Ty.fd52_0 : Fld Try.prog 52 0 0 := Fld.of (n := 0) Try.underlying52 rfl rfl (by kernel_rfl)  -- Kind
theorem Ty.fd52_1 : Fld Try.prog 52 1 1 := Fld.of (n := 0) Try.underlying52 rfl rfl (by kernel_rfl)  -- Stream
theorem Ty.fd52_2 : Fld Try.prog 52 2 2 := Fld.of (n := 0) Try.underlying52 rfl rfl (by kernel_rfl)  -- Offset
theorem Ty.fd52_3 : Fld Try.prog 52 3 3 := Fld.of (n := 0) Try.underlying52 rfl rfl (by kernel_rfl)  -- Limit
theorem Ty.fd52_4 : Fld Try.prog 52 4 4 := Fld.of (n := 0) Try.underlying52 rfl rfl (by kernel_rfl)  -- Code
theorem Ty.fd52_5 : Fld Try.prog 52 5 5 := Fld.of (n := 0) Try.underlying52 rfl rfl (by kernel_rfl)  -- Data
theorem Ty.fd52_6 : Fld Try.prog 52 6 6 := Fld.of (n := 0) Try.underlying52 rfl rfl (by kernel_rfl)  -- Fin
theorem Ty.fd52_7 : Fld Try.prog 52 7 7 := Fld.of (n := 0) Try.underlying52 rfl rfl (by kernel_rfl)  -- Ranges
theorem Ty.fd52_8 : Fld Try.prog 52 8 8 := Fld.of (n := 0) Try.underlying52 rfl rfl (by kernel_rfl)  -- Delay
theorem Ty.fd52_9 : Fld Try.prog 52 9 9 := Fld.of (n := 2) Try.underlying52 rfl rfl (by kernel_rfl)  -- Ecn
theorem Ty.fd52_10 : Fld Try.prog 52 10 12 := Fld.of (n := 0) Try.underlying52 rfl rfl (by kernel_rfl)  -- Seq
theorem Ty.fd52_11 : Fld Try.prog 52 11 13 := Fld.of (n := 0) Try.underlying52 rfl rfl (by kernel_rfl)  -- Prior
theorem Ty.fd52_12 : Fld Try.prog 52 12 14 := Fld.of (n := 0) Try.underlying52 rfl rfl (by kernel_rfl)  -- Id
theorem Ty.fd52_13 : Fld Try.prog 52 13 15 := Fld.of (n := 15) Try.underlying52 rfl rfl (by kernel_rfl)  -- Token
theorem Ty.fd52_14 : Fld Try.prog 52 14 31 := Fld.of (n := 7) Try.underlying52 rfl rfl (by kernel_rfl)  -- Word
theorem Ty.ze52 : Zero Try.prog 52 [.int .i64 0, .int .u64 0, .int .u64 0, .int .u64 0, .int .u64 0, .slice none 0 0, .bool false, .slice none 0 0, .int .u64 0, .int .u64 0, .int .u64 0, .int .u64 0, .int .u64 0, .int .u64 0, .slice none 0 0, .int .u8 0, .int .u8 0, .int .u8 0, .int .u8 0, .int .u8 0, .int .u8 0, .int .u8 0, .int .u8 0, .int .u8 0, .int .u8 0, .int .u8 0, .int .u8 0, .int .u8 0, .int .u8 0, .int .u8 0, .int .u8 0, .int .u8 0, .int .u8 0, .int .u8 0, .int .u8 0, .int .u8 0, .int .u8 0, .int .u8 0, .int .u8 0] := Zero.of (z := .agg #[.int .i64 0, .int .u64 0, .int .u64 0, .int .u64 0, .int .u64 0, .slice none 0 0, .bool false, .slice none 0 0, .int .u64 0, .int .u64 0, .int .u64 0, .int .u64 0, .int .u64 0, .int .u64 0, .slice none 0 0, .int .u8 0, .int .u8 0, .int .u8 0, .int .u8 0, .int .u8 0, .int .u8 0, .int .u8 0, .int .u8 0, .int .u8 0, .int .u8 0, .int .u8 0, .int .u8 0, .int .u8 0, .int .u8 0, .int .u8 0, .int .u8 0, .int .u8 0, .int .u8 0, .int .u8 0, .int .u8 0, .int .u8 0, .int .u8 0, .int .u8 0, .int .u8 0]) (by kernel_rfl) rfl
theorem Ty.ag53 : Agg Try.prog 53 39 := Agg.of Try.underlying53 rfl (by kernel_rfl)
theorem Ty.gt53 : Try.prog.eqGuardType Try.prog.depth 53 = false := by kernel_rfl
theorem Ty.fd53_0 : Fld Try.prog 53 0 0 := Fld.of (n := 0) Try.underlying53 rfl rfl (by kernel_rfl)  -- Kind
theorem Ty.fd53_1 : Fld Try.prog 53 1 1 := Fld.of (n := 0) Try.underlying53 rfl rfl (by kernel_rfl)  -- Stream
theorem Ty.fd53_2 : Fld Try.prog 53 2 2 := Fld.of (n := 0) Try.underlying53 rfl rfl (by kernel_rfl)  -- Offset
theorem Ty.fd53_3 : Fld Try.prog 53 3 3 := Fld.of (n := 0) Try.underlying53 rfl rfl (by kernel_rfl)  -- Limit
theorem Ty.fd53_4 : Fld Try.prog 53 4 4 := Fld.of (n := 0) Try.underlying53 rfl rfl (by kernel_rfl)  -- Code
theorem Ty.fd53_5 : Fld Try.prog 53 5 5 := Fld.of (n := 0) Try.underlying53 rfl rfl (by kernel_rfl)  -- Data
theorem Ty.fd53_6 : Fld Try.prog 53 6 6 := Fld.of (n := 0) Try.underlying53 rfl rfl (by kernel_rfl)  -- Fin
theorem Ty.fd53_7 : Fld Try.prog 53 7 7 := Fld.of (n := 0) Try.underlying53 rfl rfl (by kernel_rfl)  -- Ranges
theorem Ty.fd53_8 : Fld Try.prog 53 8 8 := Fld.of (n := 0) Try.underlying53 rfl rfl (by kernel_rfl)  -- Delay
theorem Ty.fd53_9 : Fld Try.prog 53 9 9 := Fld.of (n := 2) Try.underlying53 rfl rfl (by kernel_rfl)  -- Ecn
theorem Ty.fd53_10 : Fld Try.prog 53 10 12 := Fld.of (n := 0) Try.underlying53 rfl rfl (by kernel_rfl)  -- Seq
theorem Ty.fd53_11 : Fld Try.prog 53 11 13 := Fld.of (n := 0) Try.underlying53 rfl rfl (by kernel_rfl)  -- Prior
theorem Ty.fd53_12 : Fld Try.prog 53 12 14 := Fld.of (n := 0) Try.underlying53 rfl rfl (by kernel_rfl)  -- Id
theorem Ty.fd53_13 : Fld Try.prog 53 13 15 := Fld.of (n := 15) Try.underlying53 rfl rfl (by kernel_rfl)  -- Token
theorem Ty.fd53_14 : Fld Try.prog 53 14 31 := Fld.of (n := 7) Try.underlying53 rfl rfl (by kernel_rfl)  -- Word
theorem Ty.ze53 : Zero Try.prog 53 [.int .i64 0, .int .u64 0, .int .u64 0, .int .u64 0, .int .u64 0, .slice none 0 0, .bool false, .slice none 0 0, .int .u64 0, .int .u64 0, .int .u64 0, .int .u64 0, .int .u64 0, .int .u64 0, .slice none 0 0, .int .u8 0, .int .u8 0, .int .u8 0, .int .u8 0, .int .u8 0, .int .u8 0, .int .u8 0, .int .u8 0, .int .u8 0, .int .u8 0, .int .u8 0, .int .u8 0, .int .u8 0, .int .u8 0, .int .u8 0, .int .u8 0, .int .u8 0, .int .u8 0, .int .u8 0, .int .u8 0, .int .u8 0, .int .u8 0, .int .u8 0, .int .u8 0] := Zero.of (z := .agg #[.int .i64 0, .int .u64 0, .int .u64 0, .int .u64 0, .int .u64 0, .slice none 0 0, .bool false, .slice none 0 0, .int .u64 0, .int .u64 0, .int .u64 0, .int .u64 0, .int .u64 0, .int .u64 0, .slice none 0 0, .int .u8 0, .int .u8 0, .int .u8 0, .int .u8 0, .int .u8 0, .int .u8 0, .int .u8 0, .int .u8 0, .int .u8 0, .int .u8 0, .int .u8 0, .int .u8 0, .int .u8 0, .int .u8 0, .int .u8 0, .int .u8 0, .int .u8 0, .int .u8 0, .int .u8 0, .int .u8 0, .int .u8 0, .int .u8 0, .int .u8 0, .int .u8 0]) (by kernel_rfl) rfl
theorem Ty.sc54 : Scalar Try.prog 54 := Scalar.of Try.underlying54 rfl (by kernel_rfl)
theorem Ty.ze54 : Zero Try.prog 54 [.nilFunc] := Zero.of (z := .nilFunc) (by kernel_rfl) rfl
theorem Ty.sc55 : Scalar Try.prog 55 := Scalar.of Try.underlying55 rfl (by kernel_rfl)
theorem Ty.ze55 : Zero Try.prog 55 [.nilFunc] := Zero.of (z := .nilFunc) (by kernel_rfl) rfl
theorem Ty.sc56 : Scalar Try.prog 56 := Scalar.of Try.underlying56 rfl (by kernel_rfl)
theorem Ty.ze56 : Zero Try.prog 56 [.nilFunc] := Zero.of (z := .nilFunc) (by kernel_rfl) rfl
theorem Ty.sc57 : Scalar Try.prog 57 := Scalar.of Try.underlying57 rfl (by kernel_rfl)
theorem Ty.el57 : (Try.prog.info? 62).map (·.size) = some 4 := by kernel_rfl
theorem Ty.zo57 : Zone Try.prog 62 := by unfold Zone; kernel_rfl
theorem Ty.em57 : Elem Try.prog 62 4 64 := Elem.of (by kernel_rfl)
theorem Ty.ze57 : Zero Try.prog 57 [.slice none 0 0] := Zero.of (z := .slice none 0 0) (by kernel_rfl) rfl
theorem Ty.sc58 : Scalar Try.prog 58 := Scalar.of Try.underlying58 rfl (by kernel_rfl)
theorem Ty.ze58 : Zero Try.prog 58 [.nilFunc] := Zero.of (z := .nilFunc) (by kernel_rfl) rfl
theorem Ty.sc59 : Scalar Try.prog 59 := Scalar.of Try.underlying59 rfl (by kernel_rfl)
theorem Ty.ze59 : Zero Try.prog 59 [.int .u8 0] := Zero.of (z := .int .u8 0) (by kernel_rfl) rfl
theorem Ty.sc60 : Scalar Try.prog 60 := Scalar.of Try.underlying60 rfl (by kernel_rfl)
theorem Ty.el60 : (Try.prog.info? 22).map (·.size) = some 1 := by kernel_rfl
theorem Ty.zo60 : Zone Try.prog 22 := by unfold Zone; kernel_rfl
theorem Ty.em60 : Elem Try.prog 22 1 8 := Elem.of (by kernel_rfl)
theorem Ty.ze60 : Zero Try.prog 60 [.slice none 0 0] := Zero.of (z := .slice none 0 0) (by kernel_rfl) rfl
theorem Ty.ag61 : Agg Try.prog 61 4 := Agg.of Try.underlying61 rfl (by kernel_rfl)
theorem Ty.gt61 : Try.prog.eqGuardType Try.prog.depth 61 = false := by kernel_rfl
theorem Ty.fd61_0 : Fld Try.prog 61 0 0 := Fld.of (n := 0) Try.underlying61 rfl rfl (by kernel_rfl)  -- Kind
theorem Ty.fd61_1 : Fld Try.prog 61 1 1 := Fld.of (n := 0) Try.underlying61 rfl rfl (by kernel_rfl)  -- At
theorem Ty.fd61_2 : Fld Try.prog 61 2 2 := Fld.of (n := 0) Try.underlying61 rfl rfl (by kernel_rfl)  -- N
theorem Ty.fd61_3 : Fld Try.prog 61 3 3 := Fld.of (n := 0) Try.underlying61 rfl rfl (by kernel_rfl)  -- Data
theorem Ty.ze61 : Zero Try.prog 61 [.int .u8 0, .int .u64 0, .slice none 0 0, .slice none 0 0] := Zero.of (z := .agg #[.int .u8 0, .int .u64 0, .slice none 0 0, .slice none 0 0]) (by kernel_rfl) rfl
theorem Ty.ag62 : Agg Try.prog 62 4 := Agg.of Try.underlying62 rfl (by kernel_rfl)
theorem Ty.gt62 : Try.prog.eqGuardType Try.prog.depth 62 = false := by kernel_rfl
theorem Ty.fd62_0 : Fld Try.prog 62 0 0 := Fld.of (n := 0) Try.underlying62 rfl rfl (by kernel_rfl)  -- Kind
theorem Ty.fd62_1 : Fld Try.prog 62 1 1 := Fld.of (n := 0) Try.underlying62 rfl rfl (by kernel_rfl)  -- At
theorem Ty.fd62_2 : Fld Try.prog 62 2 2 := Fld.of (n := 0) Try.underlying62 rfl rfl (by kernel_rfl)  -- N
theorem Ty.fd62_3 : Fld Try.prog 62 3 3 := Fld.of (n := 0) Try.underlying62 rfl rfl (by kernel_rfl)  -- Data
theorem Ty.ze62 : Zero Try.prog 62 [.int .u8 0, .int .u64 0, .slice none 0 0, .slice none 0 0] := Zero.of (z := .agg #[.int .u8 0, .int .u64 0, .slice none 0 0, .slice none 0 0]) (by kernel_rfl) rfl
theorem Ty.sc63 : Scalar Try.prog 63 := Scalar.of Try.underlying63 rfl (by kernel_rfl)
theorem Ty.ze63 : Zero Try.prog 63 [.nilFunc] := Zero.of (z := .nilFunc) (by kernel_rfl) rfl
theorem Ty.sc64 : Scalar Try.prog 64 := Scalar.of Try.underlying64 rfl (by kernel_rfl)
theorem Ty.el64 : (Try.prog.info? 120).map (·.size) = some 4 := by kernel_rfl
theorem Ty.zo64 : Zone Try.prog 120 := by unfold Zone; kernel_rfl
theorem Ty.em64 : Elem Try.prog 120 4 24 := Elem.of (by kernel_rfl)
theorem Ty.ze64 : Zero Try.prog 64 [.slice none 0 0] := Zero.of (z := .slice none 0 0) (by kernel_rfl) rfl
theorem Ty.ag65 : Agg Try.prog 65 5 := Agg.of Try.underlying65 rfl (by kernel_rfl)
theorem Ty.gt65 : Try.prog.eqGuardType Try.prog.depth 65 = false := by kernel_rfl
theorem Ty.fd65_0 : Fld Try.prog 65 0 0 := Fld.of (n := 0) Try.underlying65 rfl rfl (by kernel_rfl)  -- Next
theorem Ty.fd65_1 : Fld Try.prog 65 1 1 := Fld.of (n := 0) Try.underlying65 rfl rfl (by kernel_rfl)  -- Sent
theorem Ty.fd65_2 : Fld Try.prog 65 2 2 := Fld.of (n := 0) Try.underlying65 rfl rfl (by kernel_rfl)  -- Came
theorem Ty.fd65_3 : Fld Try.prog 65 3 3 := Fld.of (n := 0) Try.underlying65 rfl rfl (by kernel_rfl)  -- Below
theorem Ty.fd65_4 : Fld Try.prog 65 4 4 := Fld.of (n := 0) Try.underlying65 rfl rfl (by kernel_rfl)  -- Dropped
theorem Ty.ze65 : Zero Try.prog 65 [.int .u64 0, .slice none 0 0, .slice none 0 0, .int .u64 0, .bool false] := Zero.of (z := .agg #[.int .u64 0, .slice none 0 0, .slice none 0 0, .int .u64 0, .bool false]) (by kernel_rfl) rfl
theorem Ty.ag66 : Agg Try.prog 66 5 := Agg.of Try.underlying66 rfl (by kernel_rfl)
theorem Ty.gt66 : Try.prog.eqGuardType Try.prog.depth 66 = false := by kernel_rfl
theorem Ty.fd66_0 : Fld Try.prog 66 0 0 := Fld.of (n := 0) Try.underlying66 rfl rfl (by kernel_rfl)  -- Next
theorem Ty.fd66_1 : Fld Try.prog 66 1 1 := Fld.of (n := 0) Try.underlying66 rfl rfl (by kernel_rfl)  -- Sent
theorem Ty.fd66_2 : Fld Try.prog 66 2 2 := Fld.of (n := 0) Try.underlying66 rfl rfl (by kernel_rfl)  -- Came
theorem Ty.fd66_3 : Fld Try.prog 66 3 3 := Fld.of (n := 0) Try.underlying66 rfl rfl (by kernel_rfl)  -- Below
theorem Ty.fd66_4 : Fld Try.prog 66 4 4 := Fld.of (n := 0) Try.underlying66 rfl rfl (by kernel_rfl)  -- Dropped
theorem Ty.ze66 : Zero Try.prog 66 [.int .u64 0, .slice none 0 0, .slice none 0 0, .int .u64 0, .bool false] := Zero.of (z := .agg #[.int .u64 0, .slice none 0 0, .slice none 0 0, .int .u64 0, .bool false]) (by kernel_rfl) rfl
theorem Ty.ag67 : Agg Try.prog 67 15 := Agg.of Try.underlying67 rfl (by kernel_rfl)
theorem Ty.gt67 : Try.prog.eqGuardType Try.prog.depth 67 = false := by kernel_rfl
theorem Ty.el67 : (Try.prog.info? 66).map (·.size) = some 5 := by kernel_rfl
theorem Ty.em67 : Elem Try.prog 66 5 72 := Elem.of (by kernel_rfl)
theorem Ty.ze67 : Zero Try.prog 67 [.int .u64 0, .slice none 0 0, .slice none 0 0, .int .u64 0, .bool false, .int .u64 0, .slice none 0 0, .slice none 0 0, .int .u64 0, .bool false, .int .u64 0, .slice none 0 0, .slice none 0 0, .int .u64 0, .bool false] := Zero.of (z := .agg #[.int .u64 0, .slice none 0 0, .slice none 0 0, .int .u64 0, .bool false, .int .u64 0, .slice none 0 0, .slice none 0 0, .int .u64 0, .bool false, .int .u64 0, .slice none 0 0, .slice none 0 0, .int .u64 0, .bool false]) (by kernel_rfl) rfl
theorem Ty.ag68 : Agg Try.prog 68 8 := Agg.of Try.underlying68 rfl (by kernel_rfl)
theorem Ty.gt68 : Try.prog.eqGuardType Try.prog.depth 68 = false := by kernel_rfl
theorem Ty.el68 : (Try.prog.info? 22).map (·.size) = some 1 := by kernel_rfl
theorem Ty.em68 : Elem Try.prog 22 1 8 := Elem.of (by kernel_rfl)
theorem Ty.ze68 : Zero Try.prog 68 [.int .u64 0, .int .u64 0, .int .u64 0, .int .u64 0, .int .u64 0, .int .u64 0, .int .u64 0, .int .u64 0] := Zero.of (z := .agg #[.int .u64 0, .int .u64 0, .int .u64 0, .int .u64 0, .int .u64 0, .int .u64 0, .int .u64 0, .int .u64 0]) (by kernel_rfl) rfl
theorem Ty.ag69 : Agg Try.prog 69 8 := Agg.of Try.underlying69 rfl (by kernel_rfl)
theorem Ty.gt69 : Try.prog.eqGuardType Try.prog.depth 69 = false := by kernel_rfl
theorem Ty.el69 : (Try.prog.info? 22).map (·.size) = some 1 := by kernel_rfl
theorem Ty.em69 : Elem Try.prog 22 1 8 := Elem.of (by kernel_rfl)
theorem Ty.ze69 : Zero Try.prog 69 [.int .u64 0, .int .u64 0, .int .u64 0, .int .u64 0, .int .u64 0, .int .u64 0, .int .u64 0, .int .u64 0] := Zero.of (z := .agg #[.int .u64 0, .int .u64 0, .int .u64 0, .int .u64 0, .int .u64 0, .int .u64 0, .int .u64 0, .int .u64 0]) (by kernel_rfl) rfl
theorem Ty.sc70 : Scalar Try.prog 70 := Scalar.of Try.underlying70 rfl (by kernel_rfl)
theorem Ty.ze70 : Zero Try.prog 70 [.map none] := Zero.of (z := .map none) (by kernel_rfl) rfl
theorem Ty.sc71 : Scalar Try.prog 71 := Scalar.of Try.underlying71 rfl (by kernel_rfl)
theorem Ty.ze71 : Zero Try.prog 71 [.map none] := Zero.of (z := .map none) (by kernel_rfl) rfl
theorem Ty.sc72 : Scalar Try.prog 72 := Scalar.of Try.underlying72 rfl (by kernel_rfl)
theorem Ty.ze72 : Zero Try.prog 72 [.map none] := Zero.of (z := .map none) (by kernel_rfl) rfl
theorem Ty.sc73 : Scalar Try.prog 73 := Scalar.of Try.underlying73 rfl (by kernel_rfl)
theorem Ty.ze73 : Zero Try.prog 73 [.map none] := Zero.of (z := .map none) (by kernel_rfl) rfl
theorem Ty.ag74 : Agg Try.prog 74 37 := Agg.of Try.underlying74 rfl (by kernel_rfl)
theorem Ty.gt74 : Try.prog.eqGuardType Try.prog.depth 74 = false := by kernel_rfl
theorem Ty.fd74_0 : Fld Try.prog 74 0 0 := Fld.of (n := 0) Try.underlying74 rfl rfl (by kernel_rfl)  -- Phase
theorem Ty.fd74_1 : Fld Try.prog 74 1 1 := Fld.of (n := 14) Try.underlying74 rfl rfl (by kernel_rfl)  -- Spaces
theorem Ty.fd74_2 : Fld Try.prog 74 2 16 := Fld.of (n := 7) Try.underlying74 rfl rfl (by kernel_rfl)  -- Metrics
theorem Ty.fd74_3 : Fld Try.prog 74 3 24 := Fld.of (n := 0) Try.underlying74 rfl rfl (by kernel_rfl)  -- Credits
theorem Ty.fd74_4 : Fld Try.prog 74 4 25 := Fld.of (n := 0) Try.underlying74 rfl rfl (by kernel_rfl)  -- Streams
theorem Ty.fd74_5 : Fld Try.prog 74 5 26 := Fld.of (n := 0) Try.underlying74 rfl rfl (by kernel_rfl)  -- Own
theorem Ty.fd74_6 : Fld Try.prog 74 6 27 := Fld.of (n := 0) Try.underlying74 rfl rfl (by kernel_rfl)  -- Other
theorem Ty.fd74_7 : Fld Try.prog 74 7 28 := Fld.of (n := 0) Try.underlying74 rfl rfl (by kernel_rfl)  -- Using
theorem Ty.fd74_8 : Fld Try.prog 74 8 29 := Fld.of (n := 0) Try.underlying74 rfl rfl (by kernel_rfl)  -- Paths
theorem Ty.fd74_9 : Fld Try.prog 74 9 30 := Fld.of (n := 0) Try.underlying74 rfl rfl (by kernel_rfl)  -- Turns
theorem Ty.fd74_10 : Fld Try.prog 74 10 31 := Fld.of (n := 2) Try.underlying74 rfl rfl (by kernel_rfl)  -- Close
theorem Ty.fd74_11 : Fld Try.prog 74 11 34 := Fld.of (n := 0) Try.underlying74 rfl rfl (by kernel_rfl)  -- Closed
theorem Ty.fd74_12 : Fld Try.prog 74 12 35 := Fld.of (n := 0) Try.underlying74 rfl rfl (by kernel_rfl)  -- Cut
theorem Ty.fd74_13 : Fld Try.prog 74 13 36 := Fld.of (n := 0) Try.underlying74 rfl rfl (by kernel_rfl)  -- Events
theorem Ty.ze74 : Zero Try.prog 74 [.int .u64 0, .int .u64 0, .slice none 0 0, .slice none 0 0, .int .u64 0, .bool false, .int .u64 0, .slice none 0 0, .slice none 0 0, .int .u64 0, .bool false, .int .u64 0, .slice none 0 0, .slice none 0 0, .int .u64 0, .bool false, .int .u64 0, .int .u64 0, .int .u64 0, .int .u64 0, .int .u64 0, .int .u64 0, .int .u64 0, .int .u64 0, .map none, .map none, .map none, .map none, .int .u64 0, .map none, .int .u64 0, .int .u64 0, .int .u64 0, .int .u64 0, .bool false, .bool false, .int .i64 0] := Zero.of (z := .agg #[.int .u64 0, .int .u64 0, .slice none 0 0, .slice none 0 0, .int .u64 0, .bool false, .int .u64 0, .slice none 0 0, .slice none 0 0, .int .u64 0, .bool false, .int .u64 0, .slice none 0 0, .slice none 0 0, .int .u64 0, .bool false, .int .u64 0, .int .u64 0, .int .u64 0, .int .u64 0, .int .u64 0, .int .u64 0, .int .u64 0, .int .u64 0, .map none, .map none, .map none, .map none, .int .u64 0, .map none, .int .u64 0, .int .u64 0, .int .u64 0, .int .u64 0, .bool false, .bool false, .int .i64 0]) (by kernel_rfl) rfl
theorem Ty.ag75 : Agg Try.prog 75 37 := Agg.of Try.underlying75 rfl (by kernel_rfl)
theorem Ty.gt75 : Try.prog.eqGuardType Try.prog.depth 75 = false := by kernel_rfl
theorem Ty.fd75_0 : Fld Try.prog 75 0 0 := Fld.of (n := 0) Try.underlying75 rfl rfl (by kernel_rfl)  -- Phase
theorem Ty.fd75_1 : Fld Try.prog 75 1 1 := Fld.of (n := 14) Try.underlying75 rfl rfl (by kernel_rfl)  -- Spaces
theorem Ty.fd75_2 : Fld Try.prog 75 2 16 := Fld.of (n := 7) Try.underlying75 rfl rfl (by kernel_rfl)  -- Metrics
theorem Ty.fd75_3 : Fld Try.prog 75 3 24 := Fld.of (n := 0) Try.underlying75 rfl rfl (by kernel_rfl)  -- Credits
theorem Ty.fd75_4 : Fld Try.prog 75 4 25 := Fld.of (n := 0) Try.underlying75 rfl rfl (by kernel_rfl)  -- Streams
theorem Ty.fd75_5 : Fld Try.prog 75 5 26 := Fld.of (n := 0) Try.underlying75 rfl rfl (by kernel_rfl)  -- Own
theorem Ty.fd75_6 : Fld Try.prog 75 6 27 := Fld.of (n := 0) Try.underlying75 rfl rfl (by kernel_rfl)  -- Other
theorem Ty.fd75_7 : Fld Try.prog 75 7 28 := Fld.of (n := 0) Try.underlying75 rfl rfl (by kernel_rfl)  -- Using
theorem Ty.fd75_8 : Fld Try.prog 75 8 29 := Fld.of (n := 0) Try.underlying75 rfl rfl (by kernel_rfl)  -- Paths
theorem Ty.fd75_9 : Fld Try.prog 75 9 30 := Fld.of (n := 0) Try.underlying75 rfl rfl (by kernel_rfl)  -- Turns
theorem Ty.fd75_10 : Fld Try.prog 75 10 31 := Fld.of (n := 2) Try.underlying75 rfl rfl (by kernel_rfl)  -- Close
theorem Ty.fd75_11 : Fld Try.prog 75 11 34 := Fld.of (n := 0) Try.underlying75 rfl rfl (by kernel_rfl)  -- Closed
theorem Ty.fd75_12 : Fld Try.prog 75 12 35 := Fld.of (n := 0) Try.underlying75 rfl rfl (by kernel_rfl)  -- Cut
theorem Ty.fd75_13 : Fld Try.prog 75 13 36 := Fld.of (n := 0) Try.underlying75 rfl rfl (by kernel_rfl)  -- Events
theorem Ty.ze75 : Zero Try.prog 75 [.int .u64 0, .int .u64 0, .slice none 0 0, .slice none 0 0, .int .u64 0, .bool false, .int .u64 0, .slice none 0 0, .slice none 0 0, .int .u64 0, .bool false, .int .u64 0, .slice none 0 0, .slice none 0 0, .int .u64 0, .bool false, .int .u64 0, .int .u64 0, .int .u64 0, .int .u64 0, .int .u64 0, .int .u64 0, .int .u64 0, .int .u64 0, .map none, .map none, .map none, .map none, .int .u64 0, .map none, .int .u64 0, .int .u64 0, .int .u64 0, .int .u64 0, .bool false, .bool false, .int .i64 0] := Zero.of (z := .agg #[.int .u64 0, .int .u64 0, .slice none 0 0, .slice none 0 0, .int .u64 0, .bool false, .int .u64 0, .slice none 0 0, .slice none 0 0, .int .u64 0, .bool false, .int .u64 0, .slice none 0 0, .slice none 0 0, .int .u64 0, .bool false, .int .u64 0, .int .u64 0, .int .u64 0, .int .u64 0, .int .u64 0, .int .u64 0, .int .u64 0, .int .u64 0, .map none, .map none, .map none, .map none, .int .u64 0, .map none, .int .u64 0, .int .u64 0, .int .u64 0, .int .u64 0, .bool false, .bool false, .int .i64 0]) (by kernel_rfl) rfl
theorem Ty.sc77 : Scalar Try.prog 77 := Scalar.of Try.underlying77 rfl (by kernel_rfl)
theorem Ty.ze77 : Zero Try.prog 77 [.nilFunc] := Zero.of (z := .nilFunc) (by kernel_rfl) rfl
theorem Ty.sc78 : Scalar Try.prog 78 := Scalar.of Try.underlying78 rfl (by kernel_rfl)
theorem Ty.ze78 : Zero Try.prog 78 [.nilFunc] := Zero.of (z := .nilFunc) (by kernel_rfl) rfl
theorem Ty.sc80 : Scalar Try.prog 80 := Scalar.of Try.underlying80 rfl (by kernel_rfl)
theorem Ty.ze80 : Zero Try.prog 80 [.nilFunc] := Zero.of (z := .nilFunc) (by kernel_rfl) rfl
theorem Ty.sc81 : Scalar Try.prog 81 := Scalar.of Try.underlying81 rfl (by kernel_rfl)
theorem Ty.ze81 : Zero Try.prog 81 [.nilFunc] := Zero.of (z := .nilFunc) (by kernel_rfl) rfl
theorem Ty.sc82 : Scalar Try.prog 82 := Scalar.of Try.underlying82 rfl (by kernel_rfl)
theorem Ty.ze82 : Zero Try.prog 82 [.nilFunc] := Zero.of (z := .nilFunc) (by kernel_rfl) rfl
theorem Ty.sc83 : Scalar Try.prog 83 := Scalar.of Try.underlying83 rfl (by kernel_rfl)
theorem Ty.ze83 : Zero Try.prog 83 [.nilFunc] := Zero.of (z := .nilFunc) (by kernel_rfl) rfl
theorem Ty.sc84 : Scalar Try.prog 84 := Scalar.of Try.underlying84 rfl (by kernel_rfl)
theorem Ty.ze84 : Zero Try.prog 84 [.nilFunc] := Zero.of (z := .nilFunc) (by kernel_rfl) rfl
theorem Ty.sc85 : Scalar Try.prog 85 := Scalar.of Try.underlying85 rfl (by kernel_rfl)
theorem Ty.ze85 : Zero Try.prog 85 [.int .u16 0] := Zero.of (z := .int .u16 0) (by kernel_rfl) rfl
theorem Ty.sc86 : Scalar Try.prog 86 := Scalar.of Try.underlying86 rfl (by kernel_rfl)
theorem Ty.ze86 : Zero Try.prog 86 [.nilFunc] := Zero.of (z := .nilFunc) (by kernel_rfl) rfl
theorem Ty.sc87 : Scalar Try.prog 87 := Scalar.of Try.underlying87 rfl (by kernel_rfl)
theorem Ty.ze87 : Zero Try.prog 87 [.nilFunc] := Zero.of (z := .nilFunc) (by kernel_rfl) rfl
theorem Ty.sc88 : Scalar Try.prog 88 := Scalar.of Try.underlying88 rfl (by kernel_rfl)
theorem Ty.ze88 : Zero Try.prog 88 [.nilFunc] := Zero.of (z := .nilFunc) (by kernel_rfl) rfl
theorem Ty.sc89 : Scalar Try.prog 89 := Scalar.of Try.underlying89 rfl (by kernel_rfl)
theorem Ty.ze89 : Zero Try.prog 89 [.int .u8 0] := Zero.of (z := .int .u8 0) (by kernel_rfl) rfl
theorem Ty.ag90 : Agg Try.prog 90 2 := Agg.of Try.underlying90 rfl (by kernel_rfl)
theorem Ty.gt90 : Try.prog.eqGuardType Try.prog.depth 90 = false := by kernel_rfl
theorem Ty.fd90_0 : Fld Try.prog 90 0 0 := Fld.of (n := 0) Try.underlying90 rfl rfl (by kernel_rfl)  -- l
theorem Ty.fd90_1 : Fld Try.prog 90 1 1 := Fld.of (n := 0) Try.underlying90 rfl rfl (by kernel_rfl)  -- why
theorem Ty.ze90 : Zero Try.prog 90 [.slice none 0 0, .int .u8 0] := Zero.of (z := .agg #[.slice none 0 0, .int .u8 0]) (by kernel_rfl) rfl
theorem Ty.ag91 : Agg Try.prog 91 2 := Agg.of Try.underlying91 rfl (by kernel_rfl)
theorem Ty.gt91 : Try.prog.eqGuardType Try.prog.depth 91 = false := by kernel_rfl
theorem Ty.fd91_0 : Fld Try.prog 91 0 0 := Fld.of (n := 0) Try.underlying91 rfl rfl (by kernel_rfl)  -- l
theorem Ty.fd91_1 : Fld Try.prog 91 1 1 := Fld.of (n := 0) Try.underlying91 rfl rfl (by kernel_rfl)  -- why
theorem Ty.ze91 : Zero Try.prog 91 [.slice none 0 0, .int .u8 0] := Zero.of (z := .agg #[.slice none 0 0, .int .u8 0]) (by kernel_rfl) rfl
theorem Ty.sc92 : Scalar Try.prog 92 := Scalar.of Try.underlying92 rfl (by kernel_rfl)
theorem Ty.el92 : (Try.prog.info? 91).map (·.size) = some 2 := by kernel_rfl
theorem Ty.zo92 : Zone Try.prog 91 := by unfold Zone; kernel_rfl
theorem Ty.em92 : Elem Try.prog 91 2 32 := Elem.of (by kernel_rfl)
theorem Ty.ze92 : Zero Try.prog 92 [.slice none 0 0] := Zero.of (z := .slice none 0 0) (by kernel_rfl) rfl
theorem Ty.sc94 : Scalar Try.prog 94 := Scalar.of Try.underlying94 rfl (by kernel_rfl)
theorem Ty.ze94 : Zero Try.prog 94 [.nilFunc] := Zero.of (z := .nilFunc) (by kernel_rfl) rfl
theorem Ty.sc95 : Scalar Try.prog 95 := Scalar.of Try.underlying95 rfl (by kernel_rfl)
theorem Ty.ze95 : Zero Try.prog 95 [.nilFunc] := Zero.of (z := .nilFunc) (by kernel_rfl) rfl
theorem Ty.sc96 : Scalar Try.prog 96 := Scalar.of Try.underlying96 rfl (by kernel_rfl)
theorem Ty.ze96 : Zero Try.prog 96 [.map none] := Zero.of (z := .map none) (by kernel_rfl) rfl
theorem Ty.sc97 : Scalar Try.prog 97 := Scalar.of Try.underlying97 rfl (by kernel_rfl)
theorem Ty.ze97 : Zero Try.prog 97 [.map none] := Zero.of (z := .map none) (by kernel_rfl) rfl
theorem Ty.sc98 : Scalar Try.prog 98 := Scalar.of Try.underlying98 rfl (by kernel_rfl)
theorem Ty.ze98 : Zero Try.prog 98 [.nilFunc] := Zero.of (z := .nilFunc) (by kernel_rfl) rfl
theorem Ty.sc99 : Scalar Try.prog 99 := Scalar.of Try.underlying99 rfl (by kernel_rfl)
theorem Ty.el99 : (Try.prog.info? 59).map (·.size) = some 1 := by kernel_rfl
theorem Ty.zo99 : Zone Try.prog 59 := by unfold Zone; kernel_rfl
theorem Ty.em99 : Elem Try.prog 59 1 1 := Elem.of (by kernel_rfl)
theorem Ty.ze99 : Zero Try.prog 99 [.slice none 0 0] := Zero.of (z := .slice none 0 0) (by kernel_rfl) rfl
theorem Ty.sc100 : Scalar Try.prog 100 := Scalar.of Try.underlying100 rfl (by kernel_rfl)
theorem Ty.ze100 : Zero Try.prog 100 [.nilFunc] := Zero.of (z := .nilFunc) (by kernel_rfl) rfl
theorem Ty.ag101 : Agg Try.prog 101 2 := Agg.of Try.underlying101 rfl (by kernel_rfl)
theorem Ty.gt101 : Try.prog.eqGuardType Try.prog.depth 101 = false := by kernel_rfl
theorem Ty.fd101_0 : Fld Try.prog 101 0 0 := Fld.of (n := 0) Try.underlying101 rfl rfl (by kernel_rfl)  -- From
theorem Ty.fd101_1 : Fld Try.prog 101 1 1 := Fld.of (n := 0) Try.underlying101 rfl rfl (by kernel_rfl)  -- To
theorem Ty.ze101 : Zero Try.prog 101 [.int .u64 0, .int .u64 0] := Zero.of (z := .agg #[.int .u64 0, .int .u64 0]) (by kernel_rfl) rfl
theorem Ty.ag102 : Agg Try.prog 102 2 := Agg.of Try.underlying102 rfl (by kernel_rfl)
theorem Ty.gt102 : Try.prog.eqGuardType Try.prog.depth 102 = false := by kernel_rfl
theorem Ty.fd102_0 : Fld Try.prog 102 0 0 := Fld.of (n := 0) Try.underlying102 rfl rfl (by kernel_rfl)  -- From
theorem Ty.fd102_1 : Fld Try.prog 102 1 1 := Fld.of (n := 0) Try.underlying102 rfl rfl (by kernel_rfl)  -- To
theorem Ty.ze102 : Zero Try.prog 102 [.int .u64 0, .int .u64 0] := Zero.of (z := .agg #[.int .u64 0, .int .u64 0]) (by kernel_rfl) rfl
theorem Ty.sc103 : Scalar Try.prog 103 := Scalar.of Try.underlying103 rfl (by kernel_rfl)
theorem Ty.ze103 : Zero Try.prog 103 [.nilFunc] := Zero.of (z := .nilFunc) (by kernel_rfl) rfl
theorem Ty.sc104 : Scalar Try.prog 104 := Scalar.of Try.underlying104 rfl (by kernel_rfl)
theorem Ty.ze104 : Zero Try.prog 104 [.nilFunc] := Zero.of (z := .nilFunc) (by kernel_rfl) rfl
theorem Ty.sc105 : Scalar Try.prog 105 := Scalar.of Try.underlying105 rfl (by kernel_rfl)
theorem Ty.ze105 : Zero Try.prog 105 [.pointer none] := Zero.of (z := .pointer none) (by kernel_rfl) rfl
theorem Ty.sc106 : Scalar Try.prog 106 := Scalar.of Try.underlying106 rfl (by kernel_rfl)
theorem Ty.ze106 : Zero Try.prog 106 [.nilFunc] := Zero.of (z := .nilFunc) (by kernel_rfl) rfl
theorem Ty.sc107 : Scalar Try.prog 107 := Scalar.of Try.underlying107 rfl (by kernel_rfl)
theorem Ty.ze107 : Zero Try.prog 107 [.nilFunc] := Zero.of (z := .nilFunc) (by kernel_rfl) rfl
theorem Ty.sc108 : Scalar Try.prog 108 := Scalar.of Try.underlying108 rfl (by kernel_rfl)
theorem Ty.ze108 : Zero Try.prog 108 [.nilFunc] := Zero.of (z := .nilFunc) (by kernel_rfl) rfl
theorem Ty.sc109 : Scalar Try.prog 109 := Scalar.of Try.underlying109 rfl (by kernel_rfl)
theorem Ty.ze109 : Zero Try.prog 109 [.nilFunc] := Zero.of (z := .nilFunc) (by kernel_rfl) rfl
theorem Ty.sc110 : Scalar Try.prog 110 := Scalar.of Try.underlying110 rfl (by kernel_rfl)
theorem Ty.ze110 : Zero Try.prog 110 [.nilFunc] := Zero.of (z := .nilFunc) (by kernel_rfl) rfl
theorem Ty.sc111 : Scalar Try.prog 111 := Scalar.of Try.underlying111 rfl (by kernel_rfl)
theorem Ty.ze111 : Zero Try.prog 111 [.nilFunc] := Zero.of (z := .nilFunc) (by kernel_rfl) rfl
theorem Ty.sc112 : Scalar Try.prog 112 := Scalar.of Try.underlying112 rfl (by kernel_rfl)
theorem Ty.ze112 : Zero Try.prog 112 [.nilFunc] := Zero.of (z := .nilFunc) (by kernel_rfl) rfl
theorem Ty.sc113 : Scalar Try.prog 113 := Scalar.of Try.underlying113 rfl (by kernel_rfl)
theorem Ty.ze113 : Zero Try.prog 113 [.nilFunc] := Zero.of (z := .nilFunc) (by kernel_rfl) rfl
theorem Ty.ag114 : Agg Try.prog 114 2 := Agg.of Try.underlying114 rfl (by kernel_rfl)
theorem Ty.gt114 : Try.prog.eqGuardType Try.prog.depth 114 = false := by kernel_rfl
theorem Ty.fd114_0 : Fld Try.prog 114 0 0 := Fld.of (n := 0) Try.underlying114 rfl rfl (by kernel_rfl)  -- From
theorem Ty.fd114_1 : Fld Try.prog 114 1 1 := Fld.of (n := 0) Try.underlying114 rfl rfl (by kernel_rfl)  -- To
theorem Ty.ze114 : Zero Try.prog 114 [.int .u64 0, .int .u64 0] := Zero.of (z := .agg #[.int .u64 0, .int .u64 0]) (by kernel_rfl) rfl
theorem Ty.sc115 : Scalar Try.prog 115 := Scalar.of Try.underlying115 rfl (by kernel_rfl)
theorem Ty.ze115 : Zero Try.prog 115 [.nilFunc] := Zero.of (z := .nilFunc) (by kernel_rfl) rfl
theorem Ty.sc116 : Scalar Try.prog 116 := Scalar.of Try.underlying116 rfl (by kernel_rfl)
theorem Ty.ze116 : Zero Try.prog 116 [.nilFunc] := Zero.of (z := .nilFunc) (by kernel_rfl) rfl
theorem Ty.sc117 : Scalar Try.prog 117 := Scalar.of Try.underlying117 rfl (by kernel_rfl)
theorem Ty.ze117 : Zero Try.prog 117 [.nilFunc] := Zero.of (z := .nilFunc) (by kernel_rfl) rfl
theorem Ty.sc118 : Scalar Try.prog 118 := Scalar.of Try.underlying118 rfl (by kernel_rfl)
theorem Ty.ze118 : Zero Try.prog 118 [.nilFunc] := Zero.of (z := .nilFunc) (by kernel_rfl) rfl
theorem Ty.ag119 : Agg Try.prog 119 4 := Agg.of Try.underlying119 rfl (by kernel_rfl)
theorem Ty.gt119 : Try.prog.eqGuardType Try.prog.depth 119 = false := by kernel_rfl
theorem Ty.fd119_0 : Fld Try.prog 119 0 0 := Fld.of (n := 0) Try.underlying119 rfl rfl (by kernel_rfl)  -- Number
theorem Ty.fd119_1 : Fld Try.prog 119 1 1 := Fld.of (n := 0) Try.underlying119 rfl rfl (by kernel_rfl)  -- Size
theorem Ty.fd119_2 : Fld Try.prog 119 2 2 := Fld.of (n := 0) Try.underlying119 rfl rfl (by kernel_rfl)  -- Eliciting
theorem Ty.fd119_3 : Fld Try.prog 119 3 3 := Fld.of (n := 0) Try.underlying119 rfl rfl (by kernel_rfl)  -- Flight
theorem Ty.ze119 : Zero Try.prog 119 [.int .u64 0, .int .u64 0, .bool false, .bool false] := Zero.of (z := .agg #[.int .u64 0, .int .u64 0, .bool false, .bool false]) (by kernel_rfl) rfl
theorem Ty.ag120 : Agg Try.prog 120 4 := Agg.of Try.underlying120 rfl (by kernel_rfl)
theorem Ty.gt120 : Try.prog.eqGuardType Try.prog.depth 120 = false := by kernel_rfl
theorem Ty.fd120_0 : Fld Try.prog 120 0 0 := Fld.of (n := 0) Try.underlying120 rfl rfl (by kernel_rfl)  -- Number
theorem Ty.fd120_1 : Fld Try.prog 120 1 1 := Fld.of (n := 0) Try.underlying120 rfl rfl (by kernel_rfl)  -- Size
theorem Ty.fd120_2 : Fld Try.prog 120 2 2 := Fld.of (n := 0) Try.underlying120 rfl rfl (by kernel_rfl)  -- Eliciting
theorem Ty.fd120_3 : Fld Try.prog 120 3 3 := Fld.of (n := 0) Try.underlying120 rfl rfl (by kernel_rfl)  -- Flight
theorem Ty.ze120 : Zero Try.prog 120 [.int .u64 0, .int .u64 0, .bool false, .bool false] := Zero.of (z := .agg #[.int .u64 0, .int .u64 0, .bool false, .bool false]) (by kernel_rfl) rfl
theorem Ty.sc121 : Scalar Try.prog 121 := Scalar.of Try.underlying121 rfl (by kernel_rfl)
theorem Ty.ze121 : Zero Try.prog 121 [.nilFunc] := Zero.of (z := .nilFunc) (by kernel_rfl) rfl
theorem Ty.ag122 : Agg Try.prog 122 4 := Agg.of Try.underlying122 rfl (by kernel_rfl)
theorem Ty.gt122 : Try.prog.eqGuardType Try.prog.depth 122 = false := by kernel_rfl
theorem Ty.fd122_0 : Fld Try.prog 122 0 0 := Fld.of (n := 0) Try.underlying122 rfl rfl (by kernel_rfl)  -- Given
theorem Ty.fd122_1 : Fld Try.prog 122 1 1 := Fld.of (n := 0) Try.underlying122 rfl rfl (by kernel_rfl)  -- Used
theorem Ty.fd122_2 : Fld Try.prog 122 2 2 := Fld.of (n := 0) Try.underlying122 rfl rfl (by kernel_rfl)  -- Got
theorem Ty.fd122_3 : Fld Try.prog 122 3 3 := Fld.of (n := 0) Try.underlying122 rfl rfl (by kernel_rfl)  -- Spent
theorem Ty.ze122 : Zero Try.prog 122 [.int .u64 0, .int .u64 0, .int .u64 0, .int .u64 0] := Zero.of (z := .agg #[.int .u64 0, .int .u64 0, .int .u64 0, .int .u64 0]) (by kernel_rfl) rfl
theorem Ty.ag123 : Agg Try.prog 123 4 := Agg.of Try.underlying123 rfl (by kernel_rfl)
theorem Ty.gt123 : Try.prog.eqGuardType Try.prog.depth 123 = false := by kernel_rfl
theorem Ty.fd123_0 : Fld Try.prog 123 0 0 := Fld.of (n := 0) Try.underlying123 rfl rfl (by kernel_rfl)  -- Given
theorem Ty.fd123_1 : Fld Try.prog 123 1 1 := Fld.of (n := 0) Try.underlying123 rfl rfl (by kernel_rfl)  -- Used
theorem Ty.fd123_2 : Fld Try.prog 123 2 2 := Fld.of (n := 0) Try.underlying123 rfl rfl (by kernel_rfl)  -- Got
theorem Ty.fd123_3 : Fld Try.prog 123 3 3 := Fld.of (n := 0) Try.underlying123 rfl rfl (by kernel_rfl)  -- Spent
theorem Ty.ze123 : Zero Try.prog 123 [.int .u64 0, .int .u64 0, .int .u64 0, .int .u64 0] := Zero.of (z := .agg #[.int .u64 0, .int .u64 0, .int .u64 0, .int .u64 0]) (by kernel_rfl) rfl
theorem Ty.sc124 : Scalar Try.prog 124 := Scalar.of Try.underlying124 rfl (by kernel_rfl)
theorem Ty.ze124 : Zero Try.prog 124 [.nilFunc] := Zero.of (z := .nilFunc) (by kernel_rfl) rfl
theorem Ty.ag125 : Agg Try.prog 125 6 := Agg.of Try.underlying125 rfl (by kernel_rfl)
theorem Ty.gt125 : Try.prog.eqGuardType Try.prog.depth 125 = false := by kernel_rfl
theorem Ty.fd125_0 : Fld Try.prog 125 0 0 := Fld.of (n := 0) Try.underlying125 rfl rfl (by kernel_rfl)  -- Send
theorem Ty.fd125_1 : Fld Try.prog 125 1 1 := Fld.of (n := 0) Try.underlying125 rfl rfl (by kernel_rfl)  -- Written
theorem Ty.fd125_2 : Fld Try.prog 125 2 2 := Fld.of (n := 0) Try.underlying125 rfl rfl (by kernel_rfl)  -- Came
theorem Ty.fd125_3 : Fld Try.prog 125 3 3 := Fld.of (n := 0) Try.underlying125 rfl rfl (by kernel_rfl)  -- Recv
theorem Ty.fd125_4 : Fld Try.prog 125 4 4 := Fld.of (n := 0) Try.underlying125 rfl rfl (by kernel_rfl)  -- Read
theorem Ty.fd125_5 : Fld Try.prog 125 5 5 := Fld.of (n := 0) Try.underlying125 rfl rfl (by kernel_rfl)  -- High
theorem Ty.ze125 : Zero Try.prog 125 [.int .u64 0, .int .u64 0, .int .u64 0, .int .u64 0, .int .u64 0, .int .u64 0] := Zero.of (z := .agg #[.int .u64 0, .int .u64 0, .int .u64 0, .int .u64 0, .int .u64 0, .int .u64 0]) (by kernel_rfl) rfl
theorem Ty.ag126 : Agg Try.prog 126 6 := Agg.of Try.underlying126 rfl (by kernel_rfl)
theorem Ty.gt126 : Try.prog.eqGuardType Try.prog.depth 126 = false := by kernel_rfl
theorem Ty.fd126_0 : Fld Try.prog 126 0 0 := Fld.of (n := 0) Try.underlying126 rfl rfl (by kernel_rfl)  -- Send
theorem Ty.fd126_1 : Fld Try.prog 126 1 1 := Fld.of (n := 0) Try.underlying126 rfl rfl (by kernel_rfl)  -- Written
theorem Ty.fd126_2 : Fld Try.prog 126 2 2 := Fld.of (n := 0) Try.underlying126 rfl rfl (by kernel_rfl)  -- Came
theorem Ty.fd126_3 : Fld Try.prog 126 3 3 := Fld.of (n := 0) Try.underlying126 rfl rfl (by kernel_rfl)  -- Recv
theorem Ty.fd126_4 : Fld Try.prog 126 4 4 := Fld.of (n := 0) Try.underlying126 rfl rfl (by kernel_rfl)  -- Read
theorem Ty.fd126_5 : Fld Try.prog 126 5 5 := Fld.of (n := 0) Try.underlying126 rfl rfl (by kernel_rfl)  -- High
theorem Ty.ze126 : Zero Try.prog 126 [.int .u64 0, .int .u64 0, .int .u64 0, .int .u64 0, .int .u64 0, .int .u64 0] := Zero.of (z := .agg #[.int .u64 0, .int .u64 0, .int .u64 0, .int .u64 0, .int .u64 0, .int .u64 0]) (by kernel_rfl) rfl
theorem Ty.sc127 : Scalar Try.prog 127 := Scalar.of Try.underlying127 rfl (by kernel_rfl)
theorem Ty.ze127 : Zero Try.prog 127 [.nilFunc] := Zero.of (z := .nilFunc) (by kernel_rfl) rfl
theorem Ty.sc128 : Scalar Try.prog 128 := Scalar.of Try.underlying128 rfl (by kernel_rfl)
theorem Ty.ze128 : Zero Try.prog 128 [.nilFunc] := Zero.of (z := .nilFunc) (by kernel_rfl) rfl
theorem Ty.sc129 : Scalar Try.prog 129 := Scalar.of Try.underlying129 rfl (by kernel_rfl)
theorem Ty.ze129 : Zero Try.prog 129 [.pointer none] := Zero.of (z := .pointer none) (by kernel_rfl) rfl
theorem Ty.ag130 : Agg Try.prog 130 3 := Agg.of Try.underlying130 rfl (by kernel_rfl)
theorem Ty.gt130 : Try.prog.eqGuardType Try.prog.depth 130 = false := by kernel_rfl
theorem Ty.el130 : (Try.prog.info? 2).map (·.size) = some 1 := by kernel_rfl
theorem Ty.em130 : Elem Try.prog 2 1 8 := Elem.of (by kernel_rfl)
theorem Ty.ze130 : Zero Try.prog 130 [.int .i64 0, .int .i64 0, .int .i64 0] := Zero.of (z := .agg #[.int .i64 0, .int .i64 0, .int .i64 0]) (by kernel_rfl) rfl
theorem Ty.ag131 : Agg Try.prog 131 41 := Agg.of Try.underlying131 rfl (by kernel_rfl)
theorem Ty.gt131 : Try.prog.eqGuardType Try.prog.depth 131 = false := by kernel_rfl
theorem Ty.fd131_0 : Fld Try.prog 131 0 0 := Fld.of (n := 36) Try.underlying131 rfl rfl (by kernel_rfl)  -- state
theorem Ty.fd131_1 : Fld Try.prog 131 1 37 := Fld.of (n := 2) Try.underlying131 rfl rfl (by kernel_rfl)  -- acked
theorem Ty.fd131_2 : Fld Try.prog 131 2 40 := Fld.of (n := 0) Try.underlying131 rfl rfl (by kernel_rfl)  -- left
theorem Ty.ze131 : Zero Try.prog 131 [.int .u64 0, .int .u64 0, .slice none 0 0, .slice none 0 0, .int .u64 0, .bool false, .int .u64 0, .slice none 0 0, .slice none 0 0, .int .u64 0, .bool false, .int .u64 0, .slice none 0 0, .slice none 0 0, .int .u64 0, .bool false, .int .u64 0, .int .u64 0, .int .u64 0, .int .u64 0, .int .u64 0, .int .u64 0, .int .u64 0, .int .u64 0, .map none, .map none, .map none, .map none, .int .u64 0, .map none, .int .u64 0, .int .u64 0, .int .u64 0, .int .u64 0, .bool false, .bool false, .int .i64 0, .int .i64 0, .int .i64 0, .int .i64 0, .int .i64 0] := Zero.of (z := .agg #[.int .u64 0, .int .u64 0, .slice none 0 0, .slice none 0 0, .int .u64 0, .bool false, .int .u64 0, .slice none 0 0, .slice none 0 0, .int .u64 0, .bool false, .int .u64 0, .slice none 0 0, .slice none 0 0, .int .u64 0, .bool false, .int .u64 0, .int .u64 0, .int .u64 0, .int .u64 0, .int .u64 0, .int .u64 0, .int .u64 0, .int .u64 0, .map none, .map none, .map none, .map none, .int .u64 0, .map none, .int .u64 0, .int .u64 0, .int .u64 0, .int .u64 0, .bool false, .bool false, .int .i64 0, .int .i64 0, .int .i64 0, .int .i64 0, .int .i64 0]) (by kernel_rfl) rfl
theorem Ty.ag132 : Agg Try.prog 132 41 := Agg.of Try.underlying132 rfl (by kernel_rfl)
theorem Ty.gt132 : Try.prog.eqGuardType Try.prog.depth 132 = false := by kernel_rfl
theorem Ty.fd132_0 : Fld Try.prog 132 0 0 := Fld.of (n := 36) Try.underlying132 rfl rfl (by kernel_rfl)  -- state
theorem Ty.fd132_1 : Fld Try.prog 132 1 37 := Fld.of (n := 2) Try.underlying132 rfl rfl (by kernel_rfl)  -- acked
theorem Ty.fd132_2 : Fld Try.prog 132 2 40 := Fld.of (n := 0) Try.underlying132 rfl rfl (by kernel_rfl)  -- left
theorem Ty.ze132 : Zero Try.prog 132 [.int .u64 0, .int .u64 0, .slice none 0 0, .slice none 0 0, .int .u64 0, .bool false, .int .u64 0, .slice none 0 0, .slice none 0 0, .int .u64 0, .bool false, .int .u64 0, .slice none 0 0, .slice none 0 0, .int .u64 0, .bool false, .int .u64 0, .int .u64 0, .int .u64 0, .int .u64 0, .int .u64 0, .int .u64 0, .int .u64 0, .int .u64 0, .map none, .map none, .map none, .map none, .int .u64 0, .map none, .int .u64 0, .int .u64 0, .int .u64 0, .int .u64 0, .bool false, .bool false, .int .i64 0, .int .i64 0, .int .i64 0, .int .i64 0, .int .i64 0] := Zero.of (z := .agg #[.int .u64 0, .int .u64 0, .slice none 0 0, .slice none 0 0, .int .u64 0, .bool false, .int .u64 0, .slice none 0 0, .slice none 0 0, .int .u64 0, .bool false, .int .u64 0, .slice none 0 0, .slice none 0 0, .int .u64 0, .bool false, .int .u64 0, .int .u64 0, .int .u64 0, .int .u64 0, .int .u64 0, .int .u64 0, .int .u64 0, .int .u64 0, .map none, .map none, .map none, .map none, .int .u64 0, .map none, .int .u64 0, .int .u64 0, .int .u64 0, .int .u64 0, .bool false, .bool false, .int .i64 0, .int .i64 0, .int .i64 0, .int .i64 0, .int .i64 0]) (by kernel_rfl) rfl
theorem Ty.sc133 : Scalar Try.prog 133 := Scalar.of Try.underlying133 rfl (by kernel_rfl)
theorem Ty.ze133 : Zero Try.prog 133 [.nilFunc] := Zero.of (z := .nilFunc) (by kernel_rfl) rfl
theorem Ty.sc134 : Scalar Try.prog 134 := Scalar.of Try.underlying134 rfl (by kernel_rfl)
theorem Ty.ze134 : Zero Try.prog 134 [.nilFunc] := Zero.of (z := .nilFunc) (by kernel_rfl) rfl
theorem Ty.ag135 : Agg Try.prog 135 2 := Agg.of Try.underlying135 rfl (by kernel_rfl)
theorem Ty.gt135 : Try.prog.eqGuardType Try.prog.depth 135 = false := by kernel_rfl
theorem Ty.fd135_0 : Fld Try.prog 135 0 0 := Fld.of (n := 0) Try.underlying135 rfl rfl (by kernel_rfl)  -- list
theorem Ty.fd135_1 : Fld Try.prog 135 1 1 := Fld.of (n := 0) Try.underlying135 rfl rfl (by kernel_rfl)  -- err
theorem Ty.ze135 : Zero Try.prog 135 [.slice none 0 0, .int .i64 0] := Zero.of (z := .agg #[.slice none 0 0, .int .i64 0]) (by kernel_rfl) rfl
theorem Ty.ag136 : Agg Try.prog 136 2 := Agg.of Try.underlying136 rfl (by kernel_rfl)
theorem Ty.gt136 : Try.prog.eqGuardType Try.prog.depth 136 = false := by kernel_rfl
theorem Ty.fd136_0 : Fld Try.prog 136 0 0 := Fld.of (n := 0) Try.underlying136 rfl rfl (by kernel_rfl)  -- list
theorem Ty.fd136_1 : Fld Try.prog 136 1 1 := Fld.of (n := 0) Try.underlying136 rfl rfl (by kernel_rfl)  -- err
theorem Ty.ze136 : Zero Try.prog 136 [.slice none 0 0, .int .i64 0] := Zero.of (z := .agg #[.slice none 0 0, .int .i64 0]) (by kernel_rfl) rfl
theorem Ty.sc137 : Scalar Try.prog 137 := Scalar.of Try.underlying137 rfl (by kernel_rfl)
theorem Ty.ze137 : Zero Try.prog 137 [.nilFunc] := Zero.of (z := .nilFunc) (by kernel_rfl) rfl
theorem Ty.sc138 : Scalar Try.prog 138 := Scalar.of Try.underlying138 rfl (by kernel_rfl)
theorem Ty.ze138 : Zero Try.prog 138 [.pointer none] := Zero.of (z := .pointer none) (by kernel_rfl) rfl
theorem Ty.sc139 : Scalar Try.prog 139 := Scalar.of Try.underlying139 rfl (by kernel_rfl)
theorem Ty.el139 : (Try.prog.info? 23).map (·.size) = some 1 := by kernel_rfl
theorem Ty.zo139 : Zone Try.prog 23 := by unfold Zone; kernel_rfl
theorem Ty.em139 : Elem Try.prog 23 1 24 := Elem.of (by kernel_rfl)
theorem Ty.ze139 : Zero Try.prog 139 [.slice none 0 0] := Zero.of (z := .slice none 0 0) (by kernel_rfl) rfl
theorem Ty.sc140 : Scalar Try.prog 140 := Scalar.of Try.underlying140 rfl (by kernel_rfl)
theorem Ty.ze140 : Zero Try.prog 140 [.nilFunc] := Zero.of (z := .nilFunc) (by kernel_rfl) rfl
theorem Ty.ag141 : Agg Try.prog 141 2 := Agg.of Try.underlying141 rfl (by kernel_rfl)
theorem Ty.gt141 : Try.prog.eqGuardType Try.prog.depth 141 = false := by kernel_rfl
theorem Ty.fd141_0 : Fld Try.prog 141 0 0 := Fld.of (n := 0) Try.underlying141 rfl rfl (by kernel_rfl)  -- rest
theorem Ty.fd141_1 : Fld Try.prog 141 1 1 := Fld.of (n := 0) Try.underlying141 rfl rfl (by kernel_rfl)  -- err
theorem Ty.ze141 : Zero Try.prog 141 [.slice none 0 0, .int .i64 0] := Zero.of (z := .agg #[.slice none 0 0, .int .i64 0]) (by kernel_rfl) rfl
theorem Ty.ag142 : Agg Try.prog 142 2 := Agg.of Try.underlying142 rfl (by kernel_rfl)
theorem Ty.gt142 : Try.prog.eqGuardType Try.prog.depth 142 = false := by kernel_rfl
theorem Ty.fd142_0 : Fld Try.prog 142 0 0 := Fld.of (n := 0) Try.underlying142 rfl rfl (by kernel_rfl)  -- rest
theorem Ty.fd142_1 : Fld Try.prog 142 1 1 := Fld.of (n := 0) Try.underlying142 rfl rfl (by kernel_rfl)  -- err
theorem Ty.ze142 : Zero Try.prog 142 [.slice none 0 0, .int .i64 0] := Zero.of (z := .agg #[.slice none 0 0, .int .i64 0]) (by kernel_rfl) rfl
theorem Ty.sc143 : Scalar Try.prog 143 := Scalar.of Try.underlying143 rfl (by kernel_rfl)
theorem Ty.ze143 : Zero Try.prog 143 [.nilFunc] := Zero.of (z := .nilFunc) (by kernel_rfl) rfl
theorem Ty.sc144 : Scalar Try.prog 144 := Scalar.of Try.underlying144 rfl (by kernel_rfl)
theorem Ty.ze144 : Zero Try.prog 144 [.nilFunc] := Zero.of (z := .nilFunc) (by kernel_rfl) rfl
theorem Ty.sc145 : Scalar Try.prog 145 := Scalar.of Try.underlying145 rfl (by kernel_rfl)
theorem Ty.ze145 : Zero Try.prog 145 [.nilFunc] := Zero.of (z := .nilFunc) (by kernel_rfl) rfl
theorem Ty.sc146 : Scalar Try.prog 146 := Scalar.of Try.underlying146 rfl (by kernel_rfl)
theorem Ty.ze146 : Zero Try.prog 146 [.nilFunc] := Zero.of (z := .nilFunc) (by kernel_rfl) rfl
theorem Ty.sc147 : Scalar Try.prog 147 := Scalar.of Try.underlying147 rfl (by kernel_rfl)
theorem Ty.ze147 : Zero Try.prog 147 [.nilFunc] := Zero.of (z := .nilFunc) (by kernel_rfl) rfl
theorem Ty.sc149 : Scalar Try.prog 149 := Scalar.of Try.underlying149 rfl (by kernel_rfl)
theorem Ty.ze149 : Zero Try.prog 149 [.nilFunc] := Zero.of (z := .nilFunc) (by kernel_rfl) rfl
theorem Ty.sc150 : Scalar Try.prog 150 := Scalar.of Try.underlying150 rfl (by kernel_rfl)
theorem Ty.ze150 : Zero Try.prog 150 [.pointer none] := Zero.of (z := .pointer none) (by kernel_rfl) rfl
theorem Ty.sc151 : Scalar Try.prog 151 := Scalar.of Try.underlying151 rfl (by kernel_rfl)
theorem Ty.ze151 : Zero Try.prog 151 [.nilFunc] := Zero.of (z := .nilFunc) (by kernel_rfl) rfl
theorem Ty.sc152 : Scalar Try.prog 152 := Scalar.of Try.underlying152 rfl (by kernel_rfl)
theorem Ty.ze152 : Zero Try.prog 152 [.pointer none] := Zero.of (z := .pointer none) (by kernel_rfl) rfl
theorem Ty.sc153 : Scalar Try.prog 153 := Scalar.of Try.underlying153 rfl (by kernel_rfl)
theorem Ty.ze153 : Zero Try.prog 153 [.nilFunc] := Zero.of (z := .nilFunc) (by kernel_rfl) rfl
theorem Ty.sc154 : Scalar Try.prog 154 := Scalar.of Try.underlying154 rfl (by kernel_rfl)
theorem Ty.ze154 : Zero Try.prog 154 [.nilFunc] := Zero.of (z := .nilFunc) (by kernel_rfl) rfl
theorem Ty.sc155 : Scalar Try.prog 155 := Scalar.of Try.underlying155 rfl (by kernel_rfl)
theorem Ty.ze155 : Zero Try.prog 155 [.nilFunc] := Zero.of (z := .nilFunc) (by kernel_rfl) rfl
theorem Ty.sc156 : Scalar Try.prog 156 := Scalar.of Try.underlying156 rfl (by kernel_rfl)
theorem Ty.ze156 : Zero Try.prog 156 [.nilFunc] := Zero.of (z := .nilFunc) (by kernel_rfl) rfl
theorem Ty.sc161 : Scalar Try.prog 161 := Scalar.of Try.underlying161 rfl (by kernel_rfl)
theorem Ty.ze161 : Zero Try.prog 161 [.nilFunc] := Zero.of (z := .nilFunc) (by kernel_rfl) rfl
theorem Ty.sc162 : Scalar Try.prog 162 := Scalar.of Try.underlying162 rfl (by kernel_rfl)
theorem Ty.ze162 : Zero Try.prog 162 [.nilFunc] := Zero.of (z := .nilFunc) (by kernel_rfl) rfl
theorem Ty.sc163 : Scalar Try.prog 163 := Scalar.of Try.underlying163 rfl (by kernel_rfl)
theorem Ty.ze163 : Zero Try.prog 163 [.nilFunc] := Zero.of (z := .nilFunc) (by kernel_rfl) rfl
theorem Ty.sc164 : Scalar Try.prog 164 := Scalar.of Try.underlying164 rfl (by kernel_rfl)
theorem Ty.ze164 : Zero Try.prog 164 [.nilFunc] := Zero.of (z := .nilFunc) (by kernel_rfl) rfl
theorem Ty.sc165 : Scalar Try.prog 165 := Scalar.of Try.underlying165 rfl (by kernel_rfl)
theorem Ty.ze165 : Zero Try.prog 165 [.nilFunc] := Zero.of (z := .nilFunc) (by kernel_rfl) rfl
theorem Ty.sc166 : Scalar Try.prog 166 := Scalar.of Try.underlying166 rfl (by kernel_rfl)
theorem Ty.ze166 : Zero Try.prog 166 [.int .u64 0] := Zero.of (z := .int .u64 0) (by kernel_rfl) rfl
theorem Ty.sc167 : Scalar Try.prog 167 := Scalar.of Try.underlying167 rfl (by kernel_rfl)
theorem Ty.ze167 : Zero Try.prog 167 [.nilFunc] := Zero.of (z := .nilFunc) (by kernel_rfl) rfl
theorem Ty.sc168 : Scalar Try.prog 168 := Scalar.of Try.underlying168 rfl (by kernel_rfl)
theorem Ty.ze168 : Zero Try.prog 168 [.nilFunc] := Zero.of (z := .nilFunc) (by kernel_rfl) rfl
theorem Ty.sc169 : Scalar Try.prog 169 := Scalar.of Try.underlying169 rfl (by kernel_rfl)
theorem Ty.ze169 : Zero Try.prog 169 [.nilFunc] := Zero.of (z := .nilFunc) (by kernel_rfl) rfl
theorem Ty.sc170 : Scalar Try.prog 170 := Scalar.of Try.underlying170 rfl (by kernel_rfl)
theorem Ty.ze170 : Zero Try.prog 170 [.nilFunc] := Zero.of (z := .nilFunc) (by kernel_rfl) rfl
theorem Ty.sc172 : Scalar Try.prog 172 := Scalar.of Try.underlying172 rfl (by kernel_rfl)
theorem Ty.ze172 : Zero Try.prog 172 [.nilFunc] := Zero.of (z := .nilFunc) (by kernel_rfl) rfl
theorem Ty.sc173 : Scalar Try.prog 173 := Scalar.of Try.underlying173 rfl (by kernel_rfl)
theorem Ty.ze173 : Zero Try.prog 173 [.pointer none] := Zero.of (z := .pointer none) (by kernel_rfl) rfl
theorem Ty.sc174 : Scalar Try.prog 174 := Scalar.of Try.underlying174 rfl (by kernel_rfl)
theorem Ty.ze174 : Zero Try.prog 174 [.nilFunc] := Zero.of (z := .nilFunc) (by kernel_rfl) rfl
theorem Ty.sc175 : Scalar Try.prog 175 := Scalar.of Try.underlying175 rfl (by kernel_rfl)
theorem Ty.el175 : (Try.prog.info? 177).map (·.size) = some 1 := by kernel_rfl
theorem Ty.zo175 : Zone Try.prog 177 := by unfold Zone; kernel_rfl
theorem Ty.em175 : Elem Try.prog 177 1 24 := Elem.of (by kernel_rfl)
theorem Ty.ze175 : Zero Try.prog 175 [.slice none 0 0] := Zero.of (z := .slice none 0 0) (by kernel_rfl) rfl
theorem Ty.sc176 : Scalar Try.prog 176 := Scalar.of Try.underlying176 rfl (by kernel_rfl)
theorem Ty.ze176 : Zero Try.prog 176 [.nilFunc] := Zero.of (z := .nilFunc) (by kernel_rfl) rfl
theorem Ty.sc177 : Scalar Try.prog 177 := Scalar.of Try.underlying177 rfl (by kernel_rfl)
theorem Ty.el177 : (Try.prog.info? 9).map (·.size) = some 1 := by kernel_rfl
theorem Ty.zo177 : Zone Try.prog 9 := by unfold Zone; kernel_rfl
theorem Ty.em177 : Elem Try.prog 9 1 16 := Elem.of (by kernel_rfl)
theorem Ty.ze177 : Zero Try.prog 177 [.slice none 0 0] := Zero.of (z := .slice none 0 0) (by kernel_rfl) rfl
theorem Ty.ag178 : Agg Try.prog 178 3 := Agg.of Try.underlying178 rfl (by kernel_rfl)
theorem Ty.gt178 : Try.prog.eqGuardType Try.prog.depth 178 = false := by kernel_rfl
theorem Ty.fd178_0 : Fld Try.prog 178 0 0 := Fld.of (n := 0) Try.underlying178 rfl rfl (by kernel_rfl)  -- Name
theorem Ty.fd178_1 : Fld Try.prog 178 1 1 := Fld.of (n := 0) Try.underlying178 rfl rfl (by kernel_rfl)  -- Names
theorem Ty.fd178_2 : Fld Try.prog 178 2 2 := Fld.of (n := 0) Try.underlying178 rfl rfl (by kernel_rfl)  -- Data
theorem Ty.ze178 : Zero Try.prog 178 [.string ⟨#[]⟩, .slice none 0 0, .bool false] := Zero.of (z := .agg #[.string ⟨#[]⟩, .slice none 0 0, .bool false]) (by kernel_rfl) rfl
theorem Ty.ag179 : Agg Try.prog 179 3 := Agg.of Try.underlying179 rfl (by kernel_rfl)
theorem Ty.gt179 : Try.prog.eqGuardType Try.prog.depth 179 = false := by kernel_rfl
theorem Ty.fd179_0 : Fld Try.prog 179 0 0 := Fld.of (n := 0) Try.underlying179 rfl rfl (by kernel_rfl)  -- Name
theorem Ty.fd179_1 : Fld Try.prog 179 1 1 := Fld.of (n := 0) Try.underlying179 rfl rfl (by kernel_rfl)  -- Names
theorem Ty.fd179_2 : Fld Try.prog 179 2 2 := Fld.of (n := 0) Try.underlying179 rfl rfl (by kernel_rfl)  -- Data
theorem Ty.ze179 : Zero Try.prog 179 [.string ⟨#[]⟩, .slice none 0 0, .bool false] := Zero.of (z := .agg #[.string ⟨#[]⟩, .slice none 0 0, .bool false]) (by kernel_rfl) rfl
theorem Ty.sc181 : Scalar Try.prog 181 := Scalar.of Try.underlying181 rfl (by kernel_rfl)
theorem Ty.ze181 : Zero Try.prog 181 [.nilFunc] := Zero.of (z := .nilFunc) (by kernel_rfl) rfl
theorem Ty.sc182 : Scalar Try.prog 182 := Scalar.of Try.underlying182 rfl (by kernel_rfl)
theorem Ty.ze182 : Zero Try.prog 182 [.nilFunc] := Zero.of (z := .nilFunc) (by kernel_rfl) rfl
theorem Ty.sc183 : Scalar Try.prog 183 := Scalar.of Try.underlying183 rfl (by kernel_rfl)
theorem Ty.ze183 : Zero Try.prog 183 [.nilFunc] := Zero.of (z := .nilFunc) (by kernel_rfl) rfl
theorem Ty.sc184 : Scalar Try.prog 184 := Scalar.of Try.underlying184 rfl (by kernel_rfl)
theorem Ty.ze184 : Zero Try.prog 184 [.nilFunc] := Zero.of (z := .nilFunc) (by kernel_rfl) rfl
theorem Ty.sc185 : Scalar Try.prog 185 := Scalar.of Try.underlying185 rfl (by kernel_rfl)
theorem Ty.ze185 : Zero Try.prog 185 [.nilFunc] := Zero.of (z := .nilFunc) (by kernel_rfl) rfl
theorem Ty.sc186 : Scalar Try.prog 186 := Scalar.of Try.underlying186 rfl (by kernel_rfl)
theorem Ty.ze186 : Zero Try.prog 186 [.nilFunc] := Zero.of (z := .nilFunc) (by kernel_rfl) rfl
theorem Ty.sc187 : Scalar Try.prog 187 := Scalar.of Try.underlying187 rfl (by kernel_rfl)
theorem Ty.ze187 : Zero Try.prog 187 [.pointer none] := Zero.of (z := .pointer none) (by kernel_rfl) rfl
theorem Ty.sc188 : Scalar Try.prog 188 := Scalar.of Try.underlying188 rfl (by kernel_rfl)
theorem Ty.ze188 : Zero Try.prog 188 [.nilFunc] := Zero.of (z := .nilFunc) (by kernel_rfl) rfl
theorem Ty.sc189 : Scalar Try.prog 189 := Scalar.of Try.underlying189 rfl (by kernel_rfl)
theorem Ty.ze189 : Zero Try.prog 189 [.nilFunc] := Zero.of (z := .nilFunc) (by kernel_rfl) rfl
theorem Ty.sc190 : Scalar Try.prog 190 := Scalar.of Try.underlying190 rfl (by kernel_rfl)
theorem Ty.ze190 : Zero Try.prog 190 [.nilFunc] := Zero.of (z := .nilFunc) (by kernel_rfl) rfl
theorem Ty.sc191 : Scalar Try.prog 191 := Scalar.of Try.underlying191 rfl (by kernel_rfl)
theorem Ty.ze191 : Zero Try.prog 191 [.nilFunc] := Zero.of (z := .nilFunc) (by kernel_rfl) rfl
theorem Ty.sc192 : Scalar Try.prog 192 := Scalar.of Try.underlying192 rfl (by kernel_rfl)
theorem Ty.ze192 : Zero Try.prog 192 [.int .i64 0] := Zero.of (z := .int .i64 0) (by kernel_rfl) rfl
theorem Ty.sc194 : Scalar Try.prog 194 := Scalar.of Try.underlying194 rfl (by kernel_rfl)
theorem Ty.ze194 : Zero Try.prog 194 [.nilFunc] := Zero.of (z := .nilFunc) (by kernel_rfl) rfl
theorem Ty.sc195 : Scalar Try.prog 195 := Scalar.of Try.underlying195 rfl (by kernel_rfl)
theorem Ty.ze195 : Zero Try.prog 195 [.nilFunc] := Zero.of (z := .nilFunc) (by kernel_rfl) rfl
theorem Ty.sc196 : Scalar Try.prog 196 := Scalar.of Try.underlying196 rfl (by kernel_rfl)
theorem Ty.ze196 : Zero Try.prog 196 [.nilFunc] := Zero.of (z := .nilFunc) (by kernel_rfl) rfl
theorem Ty.sc197 : Scalar Try.prog 197 := Scalar.of Try.underlying197 rfl (by kernel_rfl)
theorem Ty.ze197 : Zero Try.prog 197 [.nilFunc] := Zero.of (z := .nilFunc) (by kernel_rfl) rfl
theorem Ty.sc198 : Scalar Try.prog 198 := Scalar.of Try.underlying198 rfl (by kernel_rfl)
theorem Ty.ze198 : Zero Try.prog 198 [.nilFunc] := Zero.of (z := .nilFunc) (by kernel_rfl) rfl
theorem Ty.sc199 : Scalar Try.prog 199 := Scalar.of Try.underlying199 rfl (by kernel_rfl)
theorem Ty.ze199 : Zero Try.prog 199 [.nilFunc] := Zero.of (z := .nilFunc) (by kernel_rfl) rfl
theorem Ty.sc200 : Scalar Try.prog 200 := Scalar.of Try.underlying200 rfl (by kernel_rfl)
theorem Ty.ze200 : Zero Try.prog 200 [.int .u32 0] := Zero.of (z := .int .u32 0) (by kernel_rfl) rfl
theorem Ty.sc201 : Scalar Try.prog 201 := Scalar.of Try.underlying201 rfl (by kernel_rfl)
theorem Ty.ze201 : Zero Try.prog 201 [.nilFunc] := Zero.of (z := .nilFunc) (by kernel_rfl) rfl
theorem Ty.sc203 : Scalar Try.prog 203 := Scalar.of Try.underlying203 rfl (by kernel_rfl)
theorem Ty.ze203 : Zero Try.prog 203 [.nilFunc] := Zero.of (z := .nilFunc) (by kernel_rfl) rfl
theorem Ty.sc204 : Scalar Try.prog 204 := Scalar.of Try.underlying204 rfl (by kernel_rfl)
theorem Ty.ze204 : Zero Try.prog 204 [.nilFunc] := Zero.of (z := .nilFunc) (by kernel_rfl) rfl
theorem Ty.sc205 : Scalar Try.prog 205 := Scalar.of Try.underlying205 rfl (by kernel_rfl)
theorem Ty.ze205 : Zero Try.prog 205 [.nilFunc] := Zero.of (z := .nilFunc) (by kernel_rfl) rfl
theorem Ty.sc206 : Scalar Try.prog 206 := Scalar.of Try.underlying206 rfl (by kernel_rfl)
theorem Ty.ze206 : Zero Try.prog 206 [.nilFunc] := Zero.of (z := .nilFunc) (by kernel_rfl) rfl
theorem Ty.sc207 : Scalar Try.prog 207 := Scalar.of Try.underlying207 rfl (by kernel_rfl)
theorem Ty.ze207 : Zero Try.prog 207 [.nilFunc] := Zero.of (z := .nilFunc) (by kernel_rfl) rfl
theorem Ty.sc208 : Scalar Try.prog 208 := Scalar.of Try.underlying208 rfl (by kernel_rfl)
theorem Ty.ze208 : Zero Try.prog 208 [.nilFunc] := Zero.of (z := .nilFunc) (by kernel_rfl) rfl
theorem Ty.sc209 : Scalar Try.prog 209 := Scalar.of Try.underlying209 rfl (by kernel_rfl)
theorem Ty.ze209 : Zero Try.prog 209 [.nilFunc] := Zero.of (z := .nilFunc) (by kernel_rfl) rfl
theorem Ty.sc210 : Scalar Try.prog 210 := Scalar.of Try.underlying210 rfl (by kernel_rfl)
theorem Ty.ze210 : Zero Try.prog 210 [.nilFunc] := Zero.of (z := .nilFunc) (by kernel_rfl) rfl
theorem Ty.ag211 : Agg Try.prog 211 2 := Agg.of Try.underlying211 rfl (by kernel_rfl)
theorem Ty.gt211 : Try.prog.eqGuardType Try.prog.depth 211 = false := by kernel_rfl
theorem Ty.fd211_0 : Fld Try.prog 211 0 0 := Fld.of (n := 0) Try.underlying211 rfl rfl (by kernel_rfl)  -- limit
theorem Ty.fd211_1 : Fld Try.prog 211 1 1 := Fld.of (n := 0) Try.underlying211 rfl rfl (by kernel_rfl)  -- list
theorem Ty.ze211 : Zero Try.prog 211 [.int .i64 0, .slice none 0 0] := Zero.of (z := .agg #[.int .i64 0, .slice none 0 0]) (by kernel_rfl) rfl
theorem Ty.ag212 : Agg Try.prog 212 2 := Agg.of Try.underlying212 rfl (by kernel_rfl)
theorem Ty.gt212 : Try.prog.eqGuardType Try.prog.depth 212 = false := by kernel_rfl
theorem Ty.fd212_0 : Fld Try.prog 212 0 0 := Fld.of (n := 0) Try.underlying212 rfl rfl (by kernel_rfl)  -- limit
theorem Ty.fd212_1 : Fld Try.prog 212 1 1 := Fld.of (n := 0) Try.underlying212 rfl rfl (by kernel_rfl)  -- list
theorem Ty.ze212 : Zero Try.prog 212 [.int .i64 0, .slice none 0 0] := Zero.of (z := .agg #[.int .i64 0, .slice none 0 0]) (by kernel_rfl) rfl
theorem Ty.sc213 : Scalar Try.prog 213 := Scalar.of Try.underlying213 rfl (by kernel_rfl)
theorem Ty.ze213 : Zero Try.prog 213 [.nilFunc] := Zero.of (z := .nilFunc) (by kernel_rfl) rfl
theorem Ty.sc214 : Scalar Try.prog 214 := Scalar.of Try.underlying214 rfl (by kernel_rfl)
theorem Ty.ze214 : Zero Try.prog 214 [.nilFunc] := Zero.of (z := .nilFunc) (by kernel_rfl) rfl
theorem Ty.sc215 : Scalar Try.prog 215 := Scalar.of Try.underlying215 rfl (by kernel_rfl)
theorem Ty.ze215 : Zero Try.prog 215 [.int .u64 0] := Zero.of (z := .int .u64 0) (by kernel_rfl) rfl
theorem Ty.sc216 : Scalar Try.prog 216 := Scalar.of Try.underlying216 rfl (by kernel_rfl)
theorem Ty.ze216 : Zero Try.prog 216 [.nilFunc] := Zero.of (z := .nilFunc) (by kernel_rfl) rfl
theorem Ty.sc217 : Scalar Try.prog 217 := Scalar.of Try.underlying217 rfl (by kernel_rfl)
theorem Ty.ze217 : Zero Try.prog 217 [.nilFunc] := Zero.of (z := .nilFunc) (by kernel_rfl) rfl
theorem Ty.sc218 : Scalar Try.prog 218 := Scalar.of Try.underlying218 rfl (by kernel_rfl)
theorem Ty.ze218 : Zero Try.prog 218 [.pointer none] := Zero.of (z := .pointer none) (by kernel_rfl) rfl
theorem Ty.sc219 : Scalar Try.prog 219 := Scalar.of Try.underlying219 rfl (by kernel_rfl)
theorem Ty.ze219 : Zero Try.prog 219 [.nilFunc] := Zero.of (z := .nilFunc) (by kernel_rfl) rfl
theorem Ty.sc220 : Scalar Try.prog 220 := Scalar.of Try.underlying220 rfl (by kernel_rfl)
theorem Ty.ze220 : Zero Try.prog 220 [.nilFunc] := Zero.of (z := .nilFunc) (by kernel_rfl) rfl
theorem Ty.sc222 : Scalar Try.prog 222 := Scalar.of Try.underlying222 rfl (by kernel_rfl)
theorem Ty.ze222 : Zero Try.prog 222 [.nilFunc] := Zero.of (z := .nilFunc) (by kernel_rfl) rfl
theorem Ty.sc224 : Scalar Try.prog 224 := Scalar.of Try.underlying224 rfl (by kernel_rfl)
theorem Ty.ze224 : Zero Try.prog 224 [.nilFunc] := Zero.of (z := .nilFunc) (by kernel_rfl) rfl
theorem Ty.sc225 : Scalar Try.prog 225 := Scalar.of Try.underlying225 rfl (by kernel_rfl)
theorem Ty.ze225 : Zero Try.prog 225 [.nilFunc] := Zero.of (z := .nilFunc) (by kernel_rfl) rfl
theorem Ty.sc226 : Scalar Try.prog 226 := Scalar.of Try.underlying226 rfl (by kernel_rfl)
theorem Ty.ze226 : Zero Try.prog 226 [.nilFunc] := Zero.of (z := .nilFunc) (by kernel_rfl) rfl
theorem Ty.sc227 : Scalar Try.prog 227 := Scalar.of Try.underlying227 rfl (by kernel_rfl)
theorem Ty.ze227 : Zero Try.prog 227 [.nilFunc] := Zero.of (z := .nilFunc) (by kernel_rfl) rfl
theorem Ty.sc228 : Scalar Try.prog 228 := Scalar.of Try.underlying228 rfl (by kernel_rfl)
theorem Ty.ze228 : Zero Try.prog 228 [.nilFunc] := Zero.of (z := .nilFunc) (by kernel_rfl) rfl
theorem Ty.sc229 : Scalar Try.prog 229 := Scalar.of Try.underlying229 rfl (by kernel_rfl)
theorem Ty.ze229 : Zero Try.prog 229 [.nilFunc] := Zero.of (z := .nilFunc) (by kernel_rfl) rfl
theorem Ty.sc230 : Scalar Try.prog 230 := Scalar.of Try.underlying230 rfl (by kernel_rfl)
theorem Ty.ze230 : Zero Try.prog 230 [.nilFunc] := Zero.of (z := .nilFunc) (by kernel_rfl) rfl
theorem Ty.sc231 : Scalar Try.prog 231 := Scalar.of Try.underlying231 rfl (by kernel_rfl)
theorem Ty.ze231 : Zero Try.prog 231 [.pointer none] := Zero.of (z := .pointer none) (by kernel_rfl) rfl
theorem Ty.sc233 : Scalar Try.prog 233 := Scalar.of Try.underlying233 rfl (by kernel_rfl)
theorem Ty.ze233 : Zero Try.prog 233 [.nilFunc] := Zero.of (z := .nilFunc) (by kernel_rfl) rfl
theorem Ty.sc234 : Scalar Try.prog 234 := Scalar.of Try.underlying234 rfl (by kernel_rfl)
theorem Ty.ze234 : Zero Try.prog 234 [.pointer none] := Zero.of (z := .pointer none) (by kernel_rfl) rfl
theorem Ty.sc235 : Scalar Try.prog 235 := Scalar.of Try.underlying235 rfl (by kernel_rfl)
theorem Ty.ze235 : Zero Try.prog 235 [.nilFunc] := Zero.of (z := .nilFunc) (by kernel_rfl) rfl
theorem Ty.ag236 : Agg Try.prog 236 4 := Agg.of Try.underlying236 rfl (by kernel_rfl)
theorem Ty.gt236 : Try.prog.eqGuardType Try.prog.depth 236 = false := by kernel_rfl
theorem Ty.fd236_0 : Fld Try.prog 236 0 0 := Fld.of (n := 0) Try.underlying236 rfl rfl (by kernel_rfl)  -- _interface
theorem Ty.fd236_1 : Fld Try.prog 236 1 1 := Fld.of (n := 0) Try.underlying236 rfl rfl (by kernel_rfl)  -- concrete
theorem Ty.fd236_2 : Fld Try.prog 236 2 2 := Fld.of (n := 0) Try.underlying236 rfl rfl (by kernel_rfl)  -- asserted
theorem Ty.fd236_3 : Fld Try.prog 236 3 3 := Fld.of (n := 0) Try.underlying236 rfl rfl (by kernel_rfl)  -- missingMethod
theorem Ty.ze236 : Zero Try.prog 236 [.pointer none, .pointer none, .pointer none, .string ⟨#[]⟩] := Zero.of (z := .agg #[.pointer none, .pointer none, .pointer none, .string ⟨#[]⟩]) (by kernel_rfl) rfl
theorem Ty.ag237 : Agg Try.prog 237 4 := Agg.of Try.underlying237 rfl (by kernel_rfl)
theorem Ty.gt237 : Try.prog.eqGuardType Try.prog.depth 237 = false := by kernel_rfl
theorem Ty.fd237_0 : Fld Try.prog 237 0 0 := Fld.of (n := 0) Try.underlying237 rfl rfl (by kernel_rfl)  -- _interface
theorem Ty.fd237_1 : Fld Try.prog 237 1 1 := Fld.of (n := 0) Try.underlying237 rfl rfl (by kernel_rfl)  -- concrete
theorem Ty.fd237_2 : Fld Try.prog 237 2 2 := Fld.of (n := 0) Try.underlying237 rfl rfl (by kernel_rfl)  -- asserted
theorem Ty.fd237_3 : Fld Try.prog 237 3 3 := Fld.of (n := 0) Try.underlying237 rfl rfl (by kernel_rfl)  -- missingMethod
theorem Ty.ze237 : Zero Try.prog 237 [.pointer none, .pointer none, .pointer none, .string ⟨#[]⟩] := Zero.of (z := .agg #[.pointer none, .pointer none, .pointer none, .string ⟨#[]⟩]) (by kernel_rfl) rfl
theorem Ty.ag238 : Agg Try.prog 238 0 := Agg.of Try.underlying238 rfl (by kernel_rfl)
theorem Ty.gt238 : Try.prog.eqGuardType Try.prog.depth 238 = false := by kernel_rfl
theorem Ty.el238 : (Try.prog.info? 16).map (·.size) = some 1 := by kernel_rfl
theorem Ty.em238 : Elem Try.prog 16 1 8 := Elem.of (by kernel_rfl)
theorem Ty.ze238 : Zero Try.prog 238 [] := Zero.of (z := .agg #[]) (by kernel_rfl) rfl
theorem Ty.ag239 : Agg Try.prog 239 0 := Agg.of Try.underlying239 rfl (by kernel_rfl)
theorem Ty.gt239 : Try.prog.eqGuardType Try.prog.depth 239 = false := by kernel_rfl
theorem Ty.ze239 : Zero Try.prog 239 [] := Zero.of (z := .agg #[]) (by kernel_rfl) rfl
theorem Ty.ag240 : Agg Try.prog 240 0 := Agg.of Try.underlying240 rfl (by kernel_rfl)
theorem Ty.gt240 : Try.prog.eqGuardType Try.prog.depth 240 = false := by kernel_rfl
theorem Ty.ze240 : Zero Try.prog 240 [] := Zero.of (z := .agg #[]) (by kernel_rfl) rfl
theorem Ty.sc241 : Scalar Try.prog 241 := Scalar.of Try.underlying241 rfl (by kernel_rfl)
theorem Ty.ze241 : Zero Try.prog 241 [.int .u8 0] := Zero.of (z := .int .u8 0) (by kernel_rfl) rfl
theorem Ty.sc242 : Scalar Try.prog 242 := Scalar.of Try.underlying242 rfl (by kernel_rfl)
theorem Ty.ze242 : Zero Try.prog 242 [.int .u8 0] := Zero.of (z := .int .u8 0) (by kernel_rfl) rfl
theorem Ty.sc243 : Scalar Try.prog 243 := Scalar.of Try.underlying243 rfl (by kernel_rfl)
theorem Ty.ze243 : Zero Try.prog 243 [.nilFunc] := Zero.of (z := .nilFunc) (by kernel_rfl) rfl
theorem Ty.sc244 : Scalar Try.prog 244 := Scalar.of Try.underlying244 rfl (by kernel_rfl)
theorem Ty.ze244 : Zero Try.prog 244 [.pointer none] := Zero.of (z := .pointer none) (by kernel_rfl) rfl
theorem Ty.sc245 : Scalar Try.prog 245 := Scalar.of Try.underlying245 rfl (by kernel_rfl)
theorem Ty.ze245 : Zero Try.prog 245 [.int .i32 0] := Zero.of (z := .int .i32 0) (by kernel_rfl) rfl
theorem Ty.sc246 : Scalar Try.prog 246 := Scalar.of Try.underlying246 rfl (by kernel_rfl)
theorem Ty.ze246 : Zero Try.prog 246 [.int .i32 0] := Zero.of (z := .int .i32 0) (by kernel_rfl) rfl
theorem Ty.ag247 : Agg Try.prog 247 11 := Agg.of Try.underlying247 rfl (by kernel_rfl)
theorem Ty.gt247 : Try.prog.eqGuardType Try.prog.depth 247 = false := by kernel_rfl
theorem Ty.fd247_0 : Fld Try.prog 247 0 0 := Fld.of (n := 0) Try.underlying247 rfl rfl (by kernel_rfl)  -- Size_
theorem Ty.fd247_1 : Fld Try.prog 247 1 1 := Fld.of (n := 0) Try.underlying247 rfl rfl (by kernel_rfl)  -- PtrBytes
theorem Ty.fd247_2 : Fld Try.prog 247 2 2 := Fld.of (n := 0) Try.underlying247 rfl rfl (by kernel_rfl)  -- Hash
theorem Ty.fd247_3 : Fld Try.prog 247 3 3 := Fld.of (n := 0) Try.underlying247 rfl rfl (by kernel_rfl)  -- TFlag
theorem Ty.fd247_4 : Fld Try.prog 247 4 4 := Fld.of (n := 0) Try.underlying247 rfl rfl (by kernel_rfl)  -- Align_
theorem Ty.fd247_5 : Fld Try.prog 247 5 5 := Fld.of (n := 0) Try.underlying247 rfl rfl (by kernel_rfl)  -- FieldAlign_
theorem Ty.fd247_6 : Fld Try.prog 247 6 6 := Fld.of (n := 0) Try.underlying247 rfl rfl (by kernel_rfl)  -- Kind_
theorem Ty.fd247_7 : Fld Try.prog 247 7 7 := Fld.of (n := 0) Try.underlying247 rfl rfl (by kernel_rfl)  -- Equal
theorem Ty.fd247_8 : Fld Try.prog 247 8 8 := Fld.of (n := 0) Try.underlying247 rfl rfl (by kernel_rfl)  -- GCData
theorem Ty.fd247_9 : Fld Try.prog 247 9 9 := Fld.of (n := 0) Try.underlying247 rfl rfl (by kernel_rfl)  -- Str
theorem Ty.fd247_10 : Fld Try.prog 247 10 10 := Fld.of (n := 0) Try.underlying247 rfl rfl (by kernel_rfl)  -- PtrToThis
theorem Ty.ze247 : Zero Try.prog 247 [.int .u64 0, .int .u64 0, .int .u32 0, .int .u8 0, .int .u8 0, .int .u8 0, .int .u8 0, .nilFunc, .pointer none, .int .i32 0, .int .i32 0] := Zero.of (z := .agg #[.int .u64 0, .int .u64 0, .int .u32 0, .int .u8 0, .int .u8 0, .int .u8 0, .int .u8 0, .nilFunc, .pointer none, .int .i32 0, .int .i32 0]) (by kernel_rfl) rfl
theorem Ty.ag248 : Agg Try.prog 248 11 := Agg.of Try.underlying248 rfl (by kernel_rfl)
theorem Ty.gt248 : Try.prog.eqGuardType Try.prog.depth 248 = false := by kernel_rfl
theorem Ty.fd248_0 : Fld Try.prog 248 0 0 := Fld.of (n := 0) Try.underlying248 rfl rfl (by kernel_rfl)  -- Size_
theorem Ty.fd248_1 : Fld Try.prog 248 1 1 := Fld.of (n := 0) Try.underlying248 rfl rfl (by kernel_rfl)  -- PtrBytes
theorem Ty.fd248_2 : Fld Try.prog 248 2 2 := Fld.of (n := 0) Try.underlying248 rfl rfl (by kernel_rfl)  -- Hash
theorem Ty.fd248_3 : Fld Try.prog 248 3 3 := Fld.of (n := 0) Try.underlying248 rfl rfl (by kernel_rfl)  -- TFlag
theorem Ty.fd248_4 : Fld Try.prog 248 4 4 := Fld.of (n := 0) Try.underlying248 rfl rfl (by kernel_rfl)  -- Align_
theorem Ty.fd248_5 : Fld Try.prog 248 5 5 := Fld.of (n := 0) Try.underlying248 rfl rfl (by kernel_rfl)  -- FieldAlign_
theorem Ty.fd248_6 : Fld Try.prog 248 6 6 := Fld.of (n := 0) Try.underlying248 rfl rfl (by kernel_rfl)  -- Kind_
theorem Ty.fd248_7 : Fld Try.prog 248 7 7 := Fld.of (n := 0) Try.underlying248 rfl rfl (by kernel_rfl)  -- Equal
theorem Ty.fd248_8 : Fld Try.prog 248 8 8 := Fld.of (n := 0) Try.underlying248 rfl rfl (by kernel_rfl)  -- GCData
theorem Ty.fd248_9 : Fld Try.prog 248 9 9 := Fld.of (n := 0) Try.underlying248 rfl rfl (by kernel_rfl)  -- Str
theorem Ty.fd248_10 : Fld Try.prog 248 10 10 := Fld.of (n := 0) Try.underlying248 rfl rfl (by kernel_rfl)  -- PtrToThis
theorem Ty.ze248 : Zero Try.prog 248 [.int .u64 0, .int .u64 0, .int .u32 0, .int .u8 0, .int .u8 0, .int .u8 0, .int .u8 0, .nilFunc, .pointer none, .int .i32 0, .int .i32 0] := Zero.of (z := .agg #[.int .u64 0, .int .u64 0, .int .u32 0, .int .u8 0, .int .u8 0, .int .u8 0, .int .u8 0, .nilFunc, .pointer none, .int .i32 0, .int .i32 0]) (by kernel_rfl) rfl
theorem Ty.sc249 : Scalar Try.prog 249 := Scalar.of Try.underlying249 rfl (by kernel_rfl)
theorem Ty.ze249 : Zero Try.prog 249 [.pointer none] := Zero.of (z := .pointer none) (by kernel_rfl) rfl
end Go.Proofs.Ytckdhelnafjddaa
