/- The facts on types that the walks use, by program. Conditions: none. -/
import Derived.Test.YtlollnhoghledaaRows
import Derived.Test.YtlollnhoghledaaRegion
namespace Go.Proofs.Ytlollnhoghledaa
open Go Go.Sl Go.Proofs
set_option maxRecDepth 100000

theorem Ty.mixed : Try.prog.follows .mixedOrders = true := by kernel_rfl
theorem Ty.sc1 : Scalar Try.prog 1 := Scalar.of Try.underlying1 rfl (by kernel_rfl)
theorem Ty.ze1 : Zero Try.prog 1 [.nilFunc] := Zero.of (z := .nilFunc) (by kernel_rfl) rfl
theorem Ty.sc2 : Scalar Try.prog 2 := Scalar.of Try.underlying2 rfl (by kernel_rfl)
theorem Ty.ze2 : Zero Try.prog 2 [.int .i64 0] := Zero.of (z := .int .i64 0) (by kernel_rfl) rfl
theorem Ty.sc3 : Scalar Try.prog 3 := Scalar.of Try.underlying3 rfl (by kernel_rfl)
theorem Ty.ze3 : Zero Try.prog 3 [.int .i64 0] := Zero.of (z := .int .i64 0) (by kernel_rfl) rfl
theorem Ty.sc4 : Scalar Try.prog 4 := Scalar.of Try.underlying4 rfl (by kernel_rfl)
theorem Ty.ze4 : Zero Try.prog 4 [.bool false] := Zero.of (z := .bool false) (by kernel_rfl) rfl
theorem Ty.sc5 : Scalar Try.prog 5 := Scalar.of Try.underlying5 rfl (by kernel_rfl)
theorem Ty.ze5 : Zero Try.prog 5 [.int .u8 0] := Zero.of (z := .int .u8 0) (by kernel_rfl) rfl
theorem Ty.sc6 : Scalar Try.prog 6 := Scalar.of Try.underlying6 rfl (by kernel_rfl)
theorem Ty.ze6 : Zero Try.prog 6 [.int .u8 0] := Zero.of (z := .int .u8 0) (by kernel_rfl) rfl
theorem Ty.ag7 : Agg Try.prog 7 4 := Agg.of Try.underlying7 rfl (by kernel_rfl)
theorem Ty.gt7 : Try.prog.eqGuardType Try.prog.depth 7 = false := by kernel_rfl
theorem Ty.fd7_0 : Fld Try.prog 7 0 0 := Fld.of (n := 0) Try.underlying7 rfl rfl (by kernel_rfl)  -- x
theorem Ty.fd7_1 : Fld Try.prog 7 1 1 := Fld.of (n := 0) Try.underlying7 rfl rfl (by kernel_rfl)  -- y
theorem Ty.fd7_2 : Fld Try.prog 7 2 2 := Fld.of (n := 0) Try.underlying7 rfl rfl (by kernel_rfl)  -- signed
theorem Ty.fd7_3 : Fld Try.prog 7 3 3 := Fld.of (n := 0) Try.underlying7 rfl rfl (by kernel_rfl)  -- code
theorem Ty.ze7 : Zero Try.prog 7 [.int .i64 0, .int .i64 0, .bool false, .int .u8 0] := Zero.of (z := .agg #[.int .i64 0, .int .i64 0, .bool false, .int .u8 0]) (by kernel_rfl) rfl
theorem Ty.ag8 : Agg Try.prog 8 4 := Agg.of Try.underlying8 rfl (by kernel_rfl)
theorem Ty.gt8 : Try.prog.eqGuardType Try.prog.depth 8 = false := by kernel_rfl
theorem Ty.fd8_0 : Fld Try.prog 8 0 0 := Fld.of (n := 0) Try.underlying8 rfl rfl (by kernel_rfl)  -- x
theorem Ty.fd8_1 : Fld Try.prog 8 1 1 := Fld.of (n := 0) Try.underlying8 rfl rfl (by kernel_rfl)  -- y
theorem Ty.fd8_2 : Fld Try.prog 8 2 2 := Fld.of (n := 0) Try.underlying8 rfl rfl (by kernel_rfl)  -- signed
theorem Ty.fd8_3 : Fld Try.prog 8 3 3 := Fld.of (n := 0) Try.underlying8 rfl rfl (by kernel_rfl)  -- code
theorem Ty.ze8 : Zero Try.prog 8 [.int .i64 0, .int .i64 0, .bool false, .int .u8 0] := Zero.of (z := .agg #[.int .i64 0, .int .i64 0, .bool false, .int .u8 0]) (by kernel_rfl) rfl
theorem Ty.sc9 : Scalar Try.prog 9 := Scalar.of Try.underlying9 rfl (by kernel_rfl)
theorem Ty.ze9 : Zero Try.prog 9 [.string ⟨#[]⟩] := Zero.of (z := .string ⟨#[]⟩) (by kernel_rfl) rfl
theorem Ty.sc10 : Scalar Try.prog 10 := Scalar.of Try.underlying10 rfl (by kernel_rfl)
theorem Ty.ze10 : Zero Try.prog 10 [.string ⟨#[]⟩] := Zero.of (z := .string ⟨#[]⟩) (by kernel_rfl) rfl
theorem Ty.sc11 : Scalar Try.prog 11 := Scalar.of Try.underlying11 rfl (by kernel_rfl)
theorem Ty.ze11 : Zero Try.prog 11 [.string ⟨#[]⟩] := Zero.of (z := .string ⟨#[]⟩) (by kernel_rfl) rfl
theorem Ty.sc12 : Scalar Try.prog 12 := Scalar.of Try.underlying12 rfl (by kernel_rfl)
theorem Ty.ze12 : Zero Try.prog 12 [.int .u64 0] := Zero.of (z := .int .u64 0) (by kernel_rfl) rfl
theorem Ty.ag13 : Agg Try.prog 13 2 := Agg.of Try.underlying13 rfl (by kernel_rfl)
theorem Ty.gt13 : Try.prog.eqGuardType Try.prog.depth 13 = false := by kernel_rfl
theorem Ty.fd13_0 : Fld Try.prog 13 0 0 := Fld.of (n := 0) Try.underlying13 rfl rfl (by kernel_rfl)  -- msg
theorem Ty.fd13_1 : Fld Try.prog 13 1 1 := Fld.of (n := 0) Try.underlying13 rfl rfl (by kernel_rfl)  -- addr
theorem Ty.ze13 : Zero Try.prog 13 [.string ⟨#[]⟩, .int .u64 0] := Zero.of (z := .agg #[.string ⟨#[]⟩, .int .u64 0]) (by kernel_rfl) rfl
theorem Ty.ag14 : Agg Try.prog 14 2 := Agg.of Try.underlying14 rfl (by kernel_rfl)
theorem Ty.gt14 : Try.prog.eqGuardType Try.prog.depth 14 = false := by kernel_rfl
theorem Ty.fd14_0 : Fld Try.prog 14 0 0 := Fld.of (n := 0) Try.underlying14 rfl rfl (by kernel_rfl)  -- msg
theorem Ty.fd14_1 : Fld Try.prog 14 1 1 := Fld.of (n := 0) Try.underlying14 rfl rfl (by kernel_rfl)  -- addr
theorem Ty.ze14 : Zero Try.prog 14 [.string ⟨#[]⟩, .int .u64 0] := Zero.of (z := .agg #[.string ⟨#[]⟩, .int .u64 0]) (by kernel_rfl) rfl
theorem Ty.sc15 : Scalar Try.prog 15 := Scalar.of Try.underlying15 rfl (by kernel_rfl)
theorem Ty.ze15 : Zero Try.prog 15 [.pointer none] := Zero.of (z := .pointer none) (by kernel_rfl) rfl
theorem Ty.sc16 : Scalar Try.prog 16 := Scalar.of Try.underlying16 rfl (by kernel_rfl)
theorem Ty.ze16 : Zero Try.prog 16 [.pointer none] := Zero.of (z := .pointer none) (by kernel_rfl) rfl
theorem Ty.sc17 : Scalar Try.prog 17 := Scalar.of Try.underlying17 rfl (by kernel_rfl)
theorem Ty.ze17 : Zero Try.prog 17 [.pointer none] := Zero.of (z := .pointer none) (by kernel_rfl) rfl
theorem Ty.ag18 : Agg Try.prog 18 1 := Agg.of Try.underlying18 rfl (by kernel_rfl)
theorem Ty.gt18 : Try.prog.eqGuardType Try.prog.depth 18 = false := by kernel_rfl
theorem Ty.fd18_0 : Fld Try.prog 18 0 0 := Fld.of (n := 0) Try.underlying18 rfl rfl (by kernel_rfl)  -- typ
theorem Ty.ze18 : Zero Try.prog 18 [.pointer none] := Zero.of (z := .agg #[.pointer none]) (by kernel_rfl) rfl
theorem Ty.ag19 : Agg Try.prog 19 1 := Agg.of Try.underlying19 rfl (by kernel_rfl)
theorem Ty.gt19 : Try.prog.eqGuardType Try.prog.depth 19 = false := by kernel_rfl
theorem Ty.fd19_0 : Fld Try.prog 19 0 0 := Fld.of (n := 0) Try.underlying19 rfl rfl (by kernel_rfl)  -- typ
theorem Ty.ze19 : Zero Try.prog 19 [.pointer none] := Zero.of (z := .agg #[.pointer none]) (by kernel_rfl) rfl
theorem Ty.sc20 : Scalar Try.prog 20 := Scalar.of Try.underlying20 rfl (by kernel_rfl)
theorem Ty.ze20 : Zero Try.prog 20 [.nilIface] := Zero.of (z := .nilIface) (by kernel_rfl) rfl
theorem Ty.sc21 : Scalar Try.prog 21 := Scalar.of Try.underlying21 rfl (by kernel_rfl)
theorem Ty.ze21 : Zero Try.prog 21 [.int .i32 0] := Zero.of (z := .int .i32 0) (by kernel_rfl) rfl
theorem Ty.sc22 : Scalar Try.prog 22 := Scalar.of Try.underlying22 rfl (by kernel_rfl)
theorem Ty.el22 : (Try.prog.info? 27).map (·.size) = some 1 := by kernel_rfl
theorem Ty.em22 : Elem Try.prog 27 1 2 := Elem.of (by kernel_rfl)
theorem Ty.ze22 : Zero Try.prog 22 [.slice none 0 0] := Zero.of (z := .slice none 0 0) (by kernel_rfl) rfl
theorem Ty.sc23 : Scalar Try.prog 23 := Scalar.of Try.underlying23 rfl (by kernel_rfl)
theorem Ty.ze23 : Zero Try.prog 23 [.nilFunc] := Zero.of (z := .nilFunc) (by kernel_rfl) rfl
theorem Ty.sc24 : Scalar Try.prog 24 := Scalar.of Try.underlying24 rfl (by kernel_rfl)
theorem Ty.ze24 : Zero Try.prog 24 [.pointer none] := Zero.of (z := .pointer none) (by kernel_rfl) rfl
theorem Ty.sc25 : Scalar Try.prog 25 := Scalar.of Try.underlying25 rfl (by kernel_rfl)
theorem Ty.ze25 : Zero Try.prog 25 [.nilFunc] := Zero.of (z := .nilFunc) (by kernel_rfl) rfl
theorem Ty.sc26 : Scalar Try.prog 26 := Scalar.of Try.underlying26 rfl (by kernel_rfl)
theorem Ty.ze26 : Zero Try.prog 26 [.int .u64 0] := Zero.of (z := .int .u64 0) (by kernel_rfl) rfl
theorem Ty.sc27 : Scalar Try.prog 27 := Scalar.of Try.underlying27 rfl (by kernel_rfl)
theorem Ty.ze27 : Zero Try.prog 27 [.int .u16 0] := Zero.of (z := .int .u16 0) (by kernel_rfl) rfl
theorem Ty.sc28 : Scalar Try.prog 28 := Scalar.of Try.underlying28 rfl (by kernel_rfl)
theorem Ty.ze28 : Zero Try.prog 28 [.nilFunc] := Zero.of (z := .nilFunc) (by kernel_rfl) rfl
theorem Ty.sc29 : Scalar Try.prog 29 := Scalar.of Try.underlying29 rfl (by kernel_rfl)
theorem Ty.ze29 : Zero Try.prog 29 [.nilFunc] := Zero.of (z := .nilFunc) (by kernel_rfl) rfl
theorem Ty.sc30 : Scalar Try.prog 30 := Scalar.of Try.underlying30 rfl (by kernel_rfl)
theorem Ty.ze30 : Zero Try.prog 30 [.nilFunc] := Zero.of (z := .nilFunc) (by kernel_rfl) rfl
theorem Ty.sc31 : Scalar Try.prog 31 := Scalar.of Try.underlying31 rfl (by kernel_rfl)
theorem Ty.el31 : (Try.prog.info? 5).map (·.size) = some 1 := by kernel_rfl
theorem Ty.em31 : Elem Try.prog 5 1 1 := Elem.of (by kernel_rfl)
theorem Ty.ze31 : Zero Try.prog 31 [.slice none 0 0] := Zero.of (z := .slice none 0 0) (by kernel_rfl) rfl
theorem Ty.sc32 : Scalar Try.prog 32 := Scalar.of Try.underlying32 rfl (by kernel_rfl)
theorem Ty.el32 : (Try.prog.info? 33).map (·.size) = some 8 := by kernel_rfl
theorem Ty.em32 : Elem Try.prog 33 8 8 := Elem.of (by kernel_rfl)
theorem Ty.ze32 : Zero Try.prog 32 [.slice none 0 0] := Zero.of (z := .slice none 0 0) (by kernel_rfl) rfl
theorem Ty.ag33 : Agg Try.prog 33 8 := Agg.of Try.underlying33 rfl (by kernel_rfl)
theorem Ty.gt33 : Try.prog.eqGuardType Try.prog.depth 33 = false := by kernel_rfl
theorem Ty.el33 : (Try.prog.info? 5).map (·.size) = some 1 := by kernel_rfl
theorem Ty.em33 : Elem Try.prog 5 1 1 := Elem.of (by kernel_rfl)
theorem Ty.ze33 : Zero Try.prog 33 [.int .u8 0, .int .u8 0, .int .u8 0, .int .u8 0, .int .u8 0, .int .u8 0, .int .u8 0, .int .u8 0] := Zero.of (z := .agg #[.int .u8 0, .int .u8 0, .int .u8 0, .int .u8 0, .int .u8 0, .int .u8 0, .int .u8 0, .int .u8 0]) (by kernel_rfl) rfl
theorem Ty.sc34 : Scalar Try.prog 34 := Scalar.of Try.underlying34 rfl (by kernel_rfl)
theorem Ty.ze34 : Zero Try.prog 34 [.nilFunc] := Zero.of (z := .nilFunc) (by kernel_rfl) rfl
theorem Ty.sc36 : Scalar Try.prog 36 := Scalar.of Try.underlying36 rfl (by kernel_rfl)
theorem Ty.ze36 : Zero Try.prog 36 [.nilFunc] := Zero.of (z := .nilFunc) (by kernel_rfl) rfl
theorem Ty.sc37 : Scalar Try.prog 37 := Scalar.of Try.underlying37 rfl (by kernel_rfl)
theorem Ty.ze37 : Zero Try.prog 37 [.nilFunc] := Zero.of (z := .nilFunc) (by kernel_rfl) rfl
theorem Ty.sc38 : Scalar Try.prog 38 := Scalar.of Try.underlying38 rfl (by kernel_rfl)
theorem Ty.ze38 : Zero Try.prog 38 [.nilFunc] := Zero.of (z := .nilFunc) (by kernel_rfl) rfl
theorem Ty.sc39 : Scalar Try.prog 39 := Scalar.of Try.underlying39 rfl (by kernel_rfl)
theorem Ty.ze39 : Zero Try.prog 39 [.int .u8 0] := Zero.of (z := .int .u8 0) (by kernel_rfl) rfl
theorem Ty.ag40 : Agg Try.prog 40 32 := Agg.of Try.underlying40 rfl (by kernel_rfl)
theorem Ty.gt40 : Try.prog.eqGuardType Try.prog.depth 40 = false := by kernel_rfl
theorem Ty.el40 : (Try.prog.info? 33).map (·.size) = some 8 := by kernel_rfl
theorem Ty.em40 : Elem Try.prog 33 8 8 := Elem.of (by kernel_rfl)
theorem Ty.ze40 : Zero Try.prog 40 [.int .u8 0, .int .u8 0, .int .u8 0, .int .u8 0, .int .u8 0, .int .u8 0, .int .u8 0, .int .u8 0, .int .u8 0, .int .u8 0, .int .u8 0, .int .u8 0, .int .u8 0, .int .u8 0, .int .u8 0, .int .u8 0, .int .u8 0, .int .u8 0, .int .u8 0, .int .u8 0, .int .u8 0, .int .u8 0, .int .u8 0, .int .u8 0, .int .u8 0, .int .u8 0, .int .u8 0, .int .u8 0, .int .u8 0, .int .u8 0, .int .u8 0, .int .u8 0] := Zero.of (z := .agg #[.int .u8 0, .int .u8 0, .int .u8 0, .int .u8 0, .int .u8 0, .int .u8 0, .int .u8 0, .int .u8 0, .int .u8 0, .int .u8 0, .int .u8 0, .int .u8 0, .int .u8 0, .int .u8 0, .int .u8 0, .int .u8 0, .int .u8 0, .int .u8 0, .int .u8 0, .int .u8 0, .int .u8 0, .int .u8 0, .int .u8 0, .int .u8 0, .int .u8 0, .int .u8 0, .int .u8 0, .int .u8 0, .int .u8 0, .int .u8 0, .int .u8 0, .int .u8 0]) (by kernel_rfl) rfl
theorem Ty.ag41 : Agg Try.prog 41 47 := Agg.of Try.underlying41 rfl (by kernel_rfl)
theorem Ty.gt41 : Try.prog.eqGuardType Try.prog.depth 41 = false := by kernel_rfl
theorem Ty.fd41_0 : Fld Try.prog 41 0 0 := Fld.of (n := 0) Try.underlying41 rfl rfl (by kernel_rfl)  -- Number
theorem Ty.fd41_1 : Fld Try.prog 41 1 1 := Fld.of (n := 0) Try.underlying41 rfl rfl (by kernel_rfl)  -- State
theorem Ty.fd41_2 : Fld Try.prog 41 2 2 := Fld.of (n := 0) Try.underlying41 rfl rfl (by kernel_rfl)  -- In
theorem Ty.fd41_3 : Fld Try.prog 41 3 3 := Fld.of (n := 0) Try.underlying41 rfl rfl (by kernel_rfl)  -- Out
theorem Ty.fd41_4 : Fld Try.prog 41 4 4 := Fld.of (n := 7) Try.underlying41 rfl rfl (by kernel_rfl)  -- Word
theorem Ty.fd41_5 : Fld Try.prog 41 5 12 := Fld.of (n := 0) Try.underlying41 rfl rfl (by kernel_rfl)  -- Until
theorem Ty.fd41_6 : Fld Try.prog 41 6 13 := Fld.of (n := 0) Try.underlying41 rfl rfl (by kernel_rfl)  -- asks
theorem Ty.fd41_7 : Fld Try.prog 41 7 14 := Fld.of (n := 31) Try.underlying41 rfl rfl (by kernel_rfl)  -- words
theorem Ty.fd41_8 : Fld Try.prog 41 8 46 := Fld.of (n := 0) Try.underlying41 rfl rfl (by kernel_rfl)  -- many
theorem Ty.ze41 : Zero Try.prog 41 [.int .u64 0, .int .u8 0, .int .u64 0, .int .u64 0, .int .u8 0, .int .u8 0, .int .u8 0, .int .u8 0, .int .u8 0, .int .u8 0, .int .u8 0, .int .u8 0, .int .u64 0, .bool false, .int .u8 0, .int .u8 0, .int .u8 0, .int .u8 0, .int .u8 0, .int .u8 0, .int .u8 0, .int .u8 0, .int .u8 0, .int .u8 0, .int .u8 0, .int .u8 0, .int .u8 0, .int .u8 0, .int .u8 0, .int .u8 0, .int .u8 0, .int .u8 0, .int .u8 0, .int .u8 0, .int .u8 0, .int .u8 0, .int .u8 0, .int .u8 0, .int .u8 0, .int .u8 0, .int .u8 0, .int .u8 0, .int .u8 0, .int .u8 0, .int .u8 0, .int .u8 0, .int .i64 0] := Zero.of (z := .agg #[.int .u64 0, .int .u8 0, .int .u64 0, .int .u64 0, .int .u8 0, .int .u8 0, .int .u8 0, .int .u8 0, .int .u8 0, .int .u8 0, .int .u8 0, .int .u8 0, .int .u64 0, .bool false, .int .u8 0, .int .u8 0, .int .u8 0, .int .u8 0, .int .u8 0, .int .u8 0, .int .u8 0, .int .u8 0, .int .u8 0, .int .u8 0, .int .u8 0, .int .u8 0, .int .u8 0, .int .u8 0, .int .u8 0, .int .u8 0, .int .u8 0, .int .u8 0, .int .u8 0, .int .u8 0, .int .u8 0, .int .u8 0, .int .u8 0, .int .u8 0, .int .u8 0, .int .u8 0, .int .u8 0, .int .u8 0, .int .u8 0, .int .u8 0, .int .u8 0, .int .u8 0, .int .i64 0]) (by kernel_rfl) rfl
theorem Ty.ag42 : Agg Try.prog 42 47 := Agg.of Try.underlying42 rfl (by kernel_rfl)
theorem Ty.gt42 : Try.prog.eqGuardType Try.prog.depth 42 = false := by kernel_rfl
theorem Ty.fd42_0 : Fld Try.prog 42 0 0 := Fld.of (n := 0) Try.underlying42 rfl rfl (by kernel_rfl)  -- Number
theorem Ty.fd42_1 : Fld Try.prog 42 1 1 := Fld.of (n := 0) Try.underlying42 rfl rfl (by kernel_rfl)  -- State
theorem Ty.fd42_2 : Fld Try.prog 42 2 2 := Fld.of (n := 0) Try.underlying42 rfl rfl (by kernel_rfl)  -- In
theorem Ty.fd42_3 : Fld Try.prog 42 3 3 := Fld.of (n := 0) Try.underlying42 rfl rfl (by kernel_rfl)  -- Out
theorem Ty.fd42_4 : Fld Try.prog 42 4 4 := Fld.of (n := 7) Try.underlying42 rfl rfl (by kernel_rfl)  -- Word
theorem Ty.fd42_5 : Fld Try.prog 42 5 12 := Fld.of (n := 0) Try.underlying42 rfl rfl (by kernel_rfl)  -- Until
theorem Ty.fd42_6 : Fld Try.prog 42 6 13 := Fld.of (n := 0) Try.underlying42 rfl rfl (by kernel_rfl)  -- asks
theorem Ty.fd42_7 : Fld Try.prog 42 7 14 := Fld.of (n := 31) Try.underlying42 rfl rfl (by kernel_rfl)  -- words
theorem Ty.fd42_8 : Fld Try.prog 42 8 46 := Fld.of (n := 0) Try.underlying42 rfl rfl (by kernel_rfl)  -- many
theorem Ty.ze42 : Zero Try.prog 42 [.int .u64 0, .int .u8 0, .int .u64 0, .int .u64 0, .int .u8 0, .int .u8 0, .int .u8 0, .int .u8 0, .int .u8 0, .int .u8 0, .int .u8 0, .int .u8 0, .int .u64 0, .bool false, .int .u8 0, .int .u8 0, .int .u8 0, .int .u8 0, .int .u8 0, .int .u8 0, .int .u8 0, .int .u8 0, .int .u8 0, .int .u8 0, .int .u8 0, .int .u8 0, .int .u8 0, .int .u8 0, .int .u8 0, .int .u8 0, .int .u8 0, .int .u8 0, .int .u8 0, .int .u8 0, .int .u8 0, .int .u8 0, .int .u8 0, .int .u8 0, .int .u8 0, .int .u8 0, .int .u8 0, .int .u8 0, .int .u8 0, .int .u8 0, .int .u8 0, .int .u8 0, .int .i64 0] := Zero.of (z := .agg #[.int .u64 0, .int .u8 0, .int .u64 0, .int .u64 0, .int .u8 0, .int .u8 0, .int .u8 0, .int .u8 0, .int .u8 0, .int .u8 0, .int .u8 0, .int .u8 0, .int .u64 0, .bool false, .int .u8 0, .int .u8 0, .int .u8 0, .int .u8 0, .int .u8 0, .int .u8 0, .int .u8 0, .int .u8 0, .int .u8 0, .int .u8 0, .int .u8 0, .int .u8 0, .int .u8 0, .int .u8 0, .int .u8 0, .int .u8 0, .int .u8 0, .int .u8 0, .int .u8 0, .int .u8 0, .int .u8 0, .int .u8 0, .int .u8 0, .int .u8 0, .int .u8 0, .int .u8 0, .int .u8 0, .int .u8 0, .int .u8 0, .int .u8 0, .int .u8 0, .int .u8 0, .int .i64 0]) (by kernel_rfl) rfl
theorem Ty.sc43 : Scalar Try.prog 43 := Scalar.of Try.underlying43 rfl (by kernel_rfl)
theorem Ty.ze43 : Zero Try.prog 43 [.nilFunc] := Zero.of (z := .nilFunc) (by kernel_rfl) rfl
theorem Ty.sc44 : Scalar Try.prog 44 := Scalar.of Try.underlying44 rfl (by kernel_rfl)
theorem Ty.el44 : (Try.prog.info? 46).map (·.size) = some 13 := by kernel_rfl
theorem Ty.em44 : Elem Try.prog 46 13 32 := Elem.of (by kernel_rfl)
theorem Ty.ze44 : Zero Try.prog 44 [.slice none 0 0] := Zero.of (z := .slice none 0 0) (by kernel_rfl) rfl
theorem Ty.ag45 : Agg Try.prog 45 13 := Agg.of Try.underlying45 rfl (by kernel_rfl)
theorem Ty.gt45 : Try.prog.eqGuardType Try.prog.depth 45 = false := by kernel_rfl
theorem Ty.fd45_0 : Fld Try.prog 45 0 0 := Fld.of (n := 0) Try.underlying45 rfl rfl (by kernel_rfl)  -- Kind
theorem Ty.fd45_1 : Fld Try.prog 45 1 1 := Fld.of (n := 0) Try.underlying45 rfl rfl (by kernel_rfl)  -- Word
theorem Ty.fd45_2 : Fld Try.prog 45 2 2 := Fld.of (n := 0) Try.underlying45 rfl rfl (by kernel_rfl)  -- Size
theorem Ty.fd45_3 : Fld Try.prog 45 3 3 := Fld.of (n := 0) Try.underlying45 rfl rfl (by kernel_rfl)  -- Wait
theorem Ty.fd45_4 : Fld Try.prog 45 4 4 := Fld.of (n := 7) Try.underlying45 rfl rfl (by kernel_rfl)  -- Any
theorem Ty.fd45_5 : Fld Try.prog 45 5 12 := Fld.of (n := 0) Try.underlying45 rfl rfl (by kernel_rfl)  -- Raw
theorem Ty.ze45 : Zero Try.prog 45 [.int .u8 0, .int .u8 0, .int .i64 0, .int .u16 0, .int .u8 0, .int .u8 0, .int .u8 0, .int .u8 0, .int .u8 0, .int .u8 0, .int .u8 0, .int .u8 0, .bool false] := Zero.of (z := .agg #[.int .u8 0, .int .u8 0, .int .i64 0, .int .u16 0, .int .u8 0, .int .u8 0, .int .u8 0, .int .u8 0, .int .u8 0, .int .u8 0, .int .u8 0, .int .u8 0, .bool false]) (by kernel_rfl) rfl
theorem Ty.ag46 : Agg Try.prog 46 13 := Agg.of Try.underlying46 rfl (by kernel_rfl)
theorem Ty.gt46 : Try.prog.eqGuardType Try.prog.depth 46 = false := by kernel_rfl
theorem Ty.fd46_0 : Fld Try.prog 46 0 0 := Fld.of (n := 0) Try.underlying46 rfl rfl (by kernel_rfl)  -- Kind
theorem Ty.fd46_1 : Fld Try.prog 46 1 1 := Fld.of (n := 0) Try.underlying46 rfl rfl (by kernel_rfl)  -- Word
theorem Ty.fd46_2 : Fld Try.prog 46 2 2 := Fld.of (n := 0) Try.underlying46 rfl rfl (by kernel_rfl)  -- Size
theorem Ty.fd46_3 : Fld Try.prog 46 3 3 := Fld.of (n := 0) Try.underlying46 rfl rfl (by kernel_rfl)  -- Wait
theorem Ty.fd46_4 : Fld Try.prog 46 4 4 := Fld.of (n := 7) Try.underlying46 rfl rfl (by kernel_rfl)  -- Any
theorem Ty.fd46_5 : Fld Try.prog 46 5 12 := Fld.of (n := 0) Try.underlying46 rfl rfl (by kernel_rfl)  -- Raw
theorem Ty.ze46 : Zero Try.prog 46 [.int .u8 0, .int .u8 0, .int .i64 0, .int .u16 0, .int .u8 0, .int .u8 0, .int .u8 0, .int .u8 0, .int .u8 0, .int .u8 0, .int .u8 0, .int .u8 0, .bool false] := Zero.of (z := .agg #[.int .u8 0, .int .u8 0, .int .i64 0, .int .u16 0, .int .u8 0, .int .u8 0, .int .u8 0, .int .u8 0, .int .u8 0, .int .u8 0, .int .u8 0, .int .u8 0, .bool false]) (by kernel_rfl) rfl
theorem Ty.sc47 : Scalar Try.prog 47 := Scalar.of Try.underlying47 rfl (by kernel_rfl)
theorem Ty.ze47 : Zero Try.prog 47 [.nilFunc] := Zero.of (z := .nilFunc) (by kernel_rfl) rfl
theorem Ty.sc48 : Scalar Try.prog 48 := Scalar.of Try.underlying48 rfl (by kernel_rfl)
theorem Ty.ze48 : Zero Try.prog 48 [.nilFunc] := Zero.of (z := .nilFunc) (by kernel_rfl) rfl
theorem Ty.sc49 : Scalar Try.prog 49 := Scalar.of Try.underlying49 rfl (by kernel_rfl)
theorem Ty.ze49 : Zero Try.prog 49 [.nilFunc] := Zero.of (z := .nilFunc) (by kernel_rfl) rfl
theorem Ty.sc50 : Scalar Try.prog 50 := Scalar.of Try.underlying50 rfl (by kernel_rfl)
theorem Ty.ze50 : Zero Try.prog 50 [.nilFunc] := Zero.of (z := .nilFunc) (by kernel_rfl) rfl
theorem Ty.sc51 : Scalar Try.prog 51 := Scalar.of Try.underlying51 rfl (by kernel_rfl)
theorem Ty.ze51 : Zero Try.prog 51 [.nilFunc] := Zero.of (z := .nilFunc) (by kernel_rfl) rfl
theorem Ty.ag52 : Agg Try.prog 52 4 := Agg.of Try.underlying52 rfl (by kernel_rfl)
theorem Ty.gt52 : Try.prog.eqGuardType Try.prog.depth 52 = false := by kernel_rfl
theorem Ty.fd52_0 : Fld Try.prog 52 0 0 := Fld.of (n := 0) Try.underlying52 rfl rfl (by kernel_rfl)  -- _interface
theorem Ty.fd52_1 : Fld Try.prog 52 1 1 := Fld.of (n := 0) Try.underlying52 rfl rfl (by kernel_rfl)  -- concrete
theorem Ty.fd52_2 : Fld Try.prog 52 2 2 := Fld.of (n := 0) Try.underlying52 rfl rfl (by kernel_rfl)  -- asserted
theorem Ty.fd52_3 : Fld Try.prog 52 3 3 := Fld.of (n := 0) Try.underlying52 rfl rfl (by kernel_rfl)  -- missingMethod
theorem Ty.ze52 : Zero Try.prog 52 [.pointer none, .pointer none, .pointer none, .string ⟨#[]⟩] := Zero.of (z := .agg #[.pointer none, .pointer none, .pointer none, .string ⟨#[]⟩]) (by kernel_rfl) rfl
theorem Ty.ag53 : Agg Try.prog 53 4 := Agg.of Try.underlying53 rfl (by kernel_rfl)
theorem Ty.gt53 : Try.prog.eqGuardType Try.prog.depth 53 = false := by kernel_rfl
theorem Ty.fd53_0 : Fld Try.prog 53 0 0 := Fld.of (n := 0) Try.underlying53 rfl rfl (by kernel_rfl)  -- _interface
theorem Ty.fd53_1 : Fld Try.prog 53 1 1 := Fld.of (n := 0) Try.underlying53 rfl rfl (by kernel_rfl)  -- concrete
theorem Ty.fd53_2 : Fld Try.prog 53 2 2 := Fld.of (n := 0) Try.underlying53 rfl rfl (by kernel_rfl)  -- asserted
theorem Ty.fd53_3 : Fld Try.prog 53 3 3 := Fld.of (n := 0) Try.underlying53 rfl rfl (by kernel_rfl)  -- missingMethod
theorem Ty.ze53 : Zero Try.prog 53 [.pointer none, .pointer none, .pointer none, .string ⟨#[]⟩] := Zero.of (z := .agg #[.pointer none, .pointer none, .pointer none, .string ⟨#[]⟩]) (by kernel_rfl) rfl
theorem Ty.ag54 : Agg Try.prog 54 0 := Agg.of Try.underlying54 rfl (by kernel_rfl)
theorem Ty.gt54 : Try.prog.eqGuardType Try.prog.depth 54 = false := by kernel_rfl
theorem Ty.el54 : (Try.prog.info? 16).map (·.size) = some 1 := by kernel_rfl
theorem Ty.em54 : Elem Try.prog 16 1 8 := Elem.of (by kernel_rfl)
theorem Ty.ze54 : Zero Try.prog 54 [] := Zero.of (z := .agg #[]) (by kernel_rfl) rfl
theorem Ty.ag55 : Agg Try.prog 55 0 := Agg.of Try.underlying55 rfl (by kernel_rfl)
theorem Ty.gt55 : Try.prog.eqGuardType Try.prog.depth 55 = false := by kernel_rfl
theorem Ty.ze55 : Zero Try.prog 55 [] := Zero.of (z := .agg #[]) (by kernel_rfl) rfl
theorem Ty.ag56 : Agg Try.prog 56 0 := Agg.of Try.underlying56 rfl (by kernel_rfl)
theorem Ty.gt56 : Try.prog.eqGuardType Try.prog.depth 56 = false := by kernel_rfl
theorem Ty.ze56 : Zero Try.prog 56 [] := Zero.of (z := .agg #[]) (by kernel_rfl) rfl
theorem Ty.sc57 : Scalar Try.prog 57 := Scalar.of Try.underlying57 rfl (by kernel_rfl)
theorem Ty.ze57 : Zero Try.prog 57 [.nilFunc] := Zero.of (z := .nilFunc) (by kernel_rfl) rfl
theorem Ty.sc58 : Scalar Try.prog 58 := Scalar.of Try.underlying58 rfl (by kernel_rfl)
theorem Ty.ze58 : Zero Try.prog 58 [.int .u32 0] := Zero.of (z := .int .u32 0) (by kernel_rfl) rfl
theorem Ty.sc59 : Scalar Try.prog 59 := Scalar.of Try.underlying59 rfl (by kernel_rfl)
theorem Ty.ze59 : Zero Try.prog 59 [.int .u8 0] := Zero.of (z := .int .u8 0) (by kernel_rfl) rfl
theorem Ty.sc60 : Scalar Try.prog 60 := Scalar.of Try.underlying60 rfl (by kernel_rfl)
theorem Ty.ze60 : Zero Try.prog 60 [.int .u8 0] := Zero.of (z := .int .u8 0) (by kernel_rfl) rfl
theorem Ty.sc61 : Scalar Try.prog 61 := Scalar.of Try.underlying61 rfl (by kernel_rfl)
theorem Ty.ze61 : Zero Try.prog 61 [.nilFunc] := Zero.of (z := .nilFunc) (by kernel_rfl) rfl
theorem Ty.sc62 : Scalar Try.prog 62 := Scalar.of Try.underlying62 rfl (by kernel_rfl)
theorem Ty.ze62 : Zero Try.prog 62 [.pointer none] := Zero.of (z := .pointer none) (by kernel_rfl) rfl
theorem Ty.sc63 : Scalar Try.prog 63 := Scalar.of Try.underlying63 rfl (by kernel_rfl)
theorem Ty.ze63 : Zero Try.prog 63 [.int .i32 0] := Zero.of (z := .int .i32 0) (by kernel_rfl) rfl
theorem Ty.sc64 : Scalar Try.prog 64 := Scalar.of Try.underlying64 rfl (by kernel_rfl)
theorem Ty.ze64 : Zero Try.prog 64 [.int .i32 0] := Zero.of (z := .int .i32 0) (by kernel_rfl) rfl
theorem Ty.ag65 : Agg Try.prog 65 11 := Agg.of Try.underlying65 rfl (by kernel_rfl)
theorem Ty.gt65 : Try.prog.eqGuardType Try.prog.depth 65 = false := by kernel_rfl
theorem Ty.fd65_0 : Fld Try.prog 65 0 0 := Fld.of (n := 0) Try.underlying65 rfl rfl (by kernel_rfl)  -- Size_
theorem Ty.fd65_1 : Fld Try.prog 65 1 1 := Fld.of (n := 0) Try.underlying65 rfl rfl (by kernel_rfl)  -- PtrBytes
theorem Ty.fd65_2 : Fld Try.prog 65 2 2 := Fld.of (n := 0) Try.underlying65 rfl rfl (by kernel_rfl)  -- Hash
theorem Ty.fd65_3 : Fld Try.prog 65 3 3 := Fld.of (n := 0) Try.underlying65 rfl rfl (by kernel_rfl)  -- TFlag
theorem Ty.fd65_4 : Fld Try.prog 65 4 4 := Fld.of (n := 0) Try.underlying65 rfl rfl (by kernel_rfl)  -- Align_
theorem Ty.fd65_5 : Fld Try.prog 65 5 5 := Fld.of (n := 0) Try.underlying65 rfl rfl (by kernel_rfl)  -- FieldAlign_
theorem Ty.fd65_6 : Fld Try.prog 65 6 6 := Fld.of (n := 0) Try.underlying65 rfl rfl (by kernel_rfl)  -- Kind_
theorem Ty.fd65_7 : Fld Try.prog 65 7 7 := Fld.of (n := 0) Try.underlying65 rfl rfl (by kernel_rfl)  -- Equal
theorem Ty.fd65_8 : Fld Try.prog 65 8 8 := Fld.of (n := 0) Try.underlying65 rfl rfl (by kernel_rfl)  -- GCData
theorem Ty.fd65_9 : Fld Try.prog 65 9 9 := Fld.of (n := 0) Try.underlying65 rfl rfl (by kernel_rfl)  -- Str
theorem Ty.fd65_10 : Fld Try.prog 65 10 10 := Fld.of (n := 0) Try.underlying65 rfl rfl (by kernel_rfl)  -- PtrToThis
theorem Ty.ze65 : Zero Try.prog 65 [.int .u64 0, .int .u64 0, .int .u32 0, .int .u8 0, .int .u8 0, .int .u8 0, .int .u8 0, .nilFunc, .pointer none, .int .i32 0, .int .i32 0] := Zero.of (z := .agg #[.int .u64 0, .int .u64 0, .int .u32 0, .int .u8 0, .int .u8 0, .int .u8 0, .int .u8 0, .nilFunc, .pointer none, .int .i32 0, .int .i32 0]) (by kernel_rfl) rfl
theorem Ty.ag66 : Agg Try.prog 66 11 := Agg.of Try.underlying66 rfl (by kernel_rfl)
theorem Ty.gt66 : Try.prog.eqGuardType Try.prog.depth 66 = false := by kernel_rfl
theorem Ty.fd66_0 : Fld Try.prog 66 0 0 := Fld.of (n := 0) Try.underlying66 rfl rfl (by kernel_rfl)  -- Size_
theorem Ty.fd66_1 : Fld Try.prog 66 1 1 := Fld.of (n := 0) Try.underlying66 rfl rfl (by kernel_rfl)  -- PtrBytes
theorem Ty.fd66_2 : Fld Try.prog 66 2 2 := Fld.of (n := 0) Try.underlying66 rfl rfl (by kernel_rfl)  -- Hash
theorem Ty.fd66_3 : Fld Try.prog 66 3 3 := Fld.of (n := 0) Try.underlying66 rfl rfl (by kernel_rfl)  -- TFlag
theorem Ty.fd66_4 : Fld Try.prog 66 4 4 := Fld.of (n := 0) Try.underlying66 rfl rfl (by kernel_rfl)  -- Align_
theorem Ty.fd66_5 : Fld Try.prog 66 5 5 := Fld.of (n := 0) Try.underlying66 rfl rfl (by kernel_rfl)  -- FieldAlign_
theorem Ty.fd66_6 : Fld Try.prog 66 6 6 := Fld.of (n := 0) Try.underlying66 rfl rfl (by kernel_rfl)  -- Kind_
theorem Ty.fd66_7 : Fld Try.prog 66 7 7 := Fld.of (n := 0) Try.underlying66 rfl rfl (by kernel_rfl)  -- Equal
theorem Ty.fd66_8 : Fld Try.prog 66 8 8 := Fld.of (n := 0) Try.underlying66 rfl rfl (by kernel_rfl)  -- GCData
theorem Ty.fd66_9 : Fld Try.prog 66 9 9 := Fld.of (n := 0) Try.underlying66 rfl rfl (by kernel_rfl)  -- Str
theorem Ty.fd66_10 : Fld Try.prog 66 10 10 := Fld.of (n := 0) Try.underlying66 rfl rfl (by kernel_rfl)  -- PtrToThis
theorem Ty.ze66 : Zero Try.prog 66 [.int .u64 0, .int .u64 0, .int .u32 0, .int .u8 0, .int .u8 0, .int .u8 0, .int .u8 0, .nilFunc, .pointer none, .int .i32 0, .int .i32 0] := Zero.of (z := .agg #[.int .u64 0, .int .u64 0, .int .u32 0, .int .u8 0, .int .u8 0, .int .u8 0, .int .u8 0, .nilFunc, .pointer none, .int .i32 0, .int .i32 0]) (by kernel_rfl) rfl
theorem Ty.sc67 : Scalar Try.prog 67 := Scalar.of Try.underlying67 rfl (by kernel_rfl)
theorem Ty.ze67 : Zero Try.prog 67 [.pointer none] := Zero.of (z := .pointer none) (by kernel_rfl) rfl
end Go.Proofs.Ytlollnhoghledaa
