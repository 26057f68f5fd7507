/- The facts on types that the walks use, by program. Conditions: none. -/
import Derived.Test.YtfilpenkihdjiaaRows
import Derived.Test.YtfilpenkihdjiaaLt
namespace Go.Proofs.Ytfilpenkihdjiaa
open Go Go.Sl Go.Proofs
set_option maxRecDepth 100000

theorem Ty.mixed : Try.prog.follows .mixedOrders = true := by kernel_rfl
theorem Ty.sc1 : Scalar Try.prog 1 := Scalar.of Try.underlying1 rfl (by kernel_rfl)
theorem Ty.ze1 : Zero Try.prog 1 [.nilFunc] := Zero.of (z := .nilFunc) (by kernel_rfl) rfl
theorem Ty.sc2 : Scalar Try.prog 2 := Scalar.of Try.underlying2 rfl (by kernel_rfl)
theorem Ty.ze2 : Zero Try.prog 2 [.int .i64 0] := Zero.of (z := .int .i64 0) (by kernel_rfl) rfl
theorem Ty.sc3 : Scalar Try.prog 3 := Scalar.of Try.underlying3 rfl (by kernel_rfl)
theorem Ty.ze3 : Zero Try.prog 3 [.int .i64 0] := Zero.of (z := .int .i64 0) (by kernel_rfl) rfl
theorem Ty.sc4 : Scalar Try.prog 4 := Scalar.of Try.underlying4 rfl (by kernel_rfl)
theorem Ty.ze4 : Zero Try.prog 4 [.bool false] := Zero.of (z := .bool false) (by kernel_rfl) rfl
theorem Ty.sc5 : Scalar Try.prog 5 := Scalar.of Try.underlying5 rfl (by kernel_rfl)
theorem Ty.ze5 : Zero Try.prog 5 [.int .u8 0] := Zero.of (z := .int .u8 0) (by kernel_rfl) rfl
theorem Ty.sc6 : Scalar Try.prog 6 := Scalar.of Try.underlying6 rfl (by kernel_rfl)
theorem Ty.ze6 : Zero Try.prog 6 [.int .u8 0] := Zero.of (z := .int .u8 0) (by kernel_rfl) rfl
theorem Ty.ag7 : Agg Try.prog 7 4 := Agg.of Try.underlying7 rfl (by kernel_rfl)
theorem Ty.gt7 : Try.prog.eqGuardType Try.prog.depth 7 = false := by kernel_rfl
theorem Ty.fd7_0 : Fld Try.prog 7 0 0 := Fld.of (n := 0) Try.underlying7 rfl rfl (by kernel_rfl)  -- x
theorem Ty.fd7_1 : Fld Try.prog 7 1 1 := Fld.of (n := 0) Try.underlying7 rfl rfl (by kernel_rfl)  -- y
theorem Ty.fd7_2 : Fld Try.prog 7 2 2 := Fld.of (n := 0) Try.underlying7 rfl rfl (by kernel_rfl)  -- signed
theorem Ty.fd7_3 : Fld Try.prog 7 3 3 := Fld.of (n := 0) Try.underlying7 rfl rfl (by kernel_rfl)  -- code
theorem Ty.ze7 : Zero Try.prog 7 [.int .i64 0, .int .i64 0, .bool false, .int .u8 0] := Zero.of (z := .agg #[.int .i64 0, .int .i64 0, .bool false, .int .u8 0]) (by kernel_rfl) rfl
theorem Ty.ag8 : Agg Try.prog 8 4 := Agg.of Try.underlying8 rfl (by kernel_rfl)
theorem Ty.gt8 : Try.prog.eqGuardType Try.prog.depth 8 = false := by kernel_rfl
theorem Ty.fd8_0 : Fld Try.prog 8 0 0 := Fld.of (n := 0) Try.underlying8 rfl rfl (by kernel_rfl)  -- x
theorem Ty.fd8_1 : Fld Try.prog 8 1 1 := Fld.of (n := 0) Try.underlying8 rfl rfl (by kernel_rfl)  -- y
theorem Ty.fd8_2 : Fld Try.prog 8 2 2 := Fld.of (n := 0) Try.underlying8 rfl rfl (by kernel_rfl)  -- signed
theorem Ty.fd8_3 : Fld Try.prog 8 3 3 := Fld.of (n := 0) Try.underlying8 rfl rfl (by kernel_rfl)  -- code
theorem Ty.ze8 : Zero Try.prog 8 [.int .i64 0, .int .i64 0, .bool false, .int .u8 0] := Zero.of (z := .agg #[.int .i64 0, .int .i64 0, .bool false, .int .u8 0]) (by kernel_rfl) rfl
theorem Ty.sc9 : Scalar Try.prog 9 := Scalar.of Try.underlying9 rfl (by kernel_rfl)
theorem Ty.ze9 : Zero Try.prog 9 [.string ⟨#[]⟩] := Zero.of (z := .string ⟨#[]⟩) (by kernel_rfl) rfl
theorem Ty.sc10 : Scalar Try.prog 10 := Scalar.of Try.underlying10 rfl (by kernel_rfl)
theorem Ty.ze10 : Zero Try.prog 10 [.string ⟨#[]⟩] := Zero.of (z := .string ⟨#[]⟩) (by kernel_rfl) rfl
theorem Ty.sc11 : Scalar Try.prog 11 := Scalar.of Try.underlying11 rfl (by kernel_rfl)
theorem Ty.ze11 : Zero Try.prog 11 [.string ⟨#[]⟩] := Zero.of (z := .string ⟨#[]⟩) (by kernel_rfl) rfl
theorem Ty.sc12 : Scalar Try.prog 12 := Scalar.of Try.underlying12 rfl (by kernel_rfl)
theorem Ty.ze12 : Zero Try.prog 12 [.int .u64 0] := Zero.of (z := .int .u64 0) (by kernel_rfl) rfl
theorem Ty.ag13 : Agg Try.prog 13 2 := Agg.of Try.underlying13 rfl (by kernel_rfl)
theorem Ty.gt13 : Try.prog.eqGuardType Try.prog.depth 13 = false := by kernel_rfl
theorem Ty.fd13_0 : Fld Try.prog 13 0 0 := Fld.of (n := 0) Try.underlying13 rfl rfl (by kernel_rfl)  -- msg
theorem Ty.fd13_1 : Fld Try.prog 13 1 1 := Fld.of (n := 0) Try.underlying13 rfl rfl (by kernel_rfl)  -- addr
theorem Ty.ze13 : Zero Try.prog 13 [.string ⟨#[]⟩, .int .u64 0] := Zero.of (z := .agg #[.string ⟨#[]⟩, .int .u64 0]) (by kernel_rfl) rfl
theorem Ty.ag14 : Agg Try.prog 14 2 := Agg.of Try.underlying14 rfl (by kernel_rfl)
theorem Ty.gt14 : Try.prog.eqGuardType Try.prog.depth 14 = false := by kernel_rfl
theorem Ty.fd14_0 : Fld Try.prog 14 0 0 := Fld.of (n := 0) Try.underlying14 rfl rfl (by kernel_rfl)  -- msg
theorem Ty.fd14_1 : Fld Try.prog 14 1 1 := Fld.of (n := 0) Try.underlying14 rfl rfl (by kernel_rfl)  -- addr
theorem Ty.ze14 : Zero Try.prog 14 [.string ⟨#[]⟩, .int .u64 0] := Zero.of (z := .agg #[.string ⟨#[]⟩, .int .u64 0]) (by kernel_rfl) rfl
theorem Ty.sc15 : Scalar Try.prog 15 := Scalar.of Try.underlying15 rfl (by kernel_rfl)
theorem Ty.ze15 : Zero Try.prog 15 [.pointer none] := Zero.of (z := .pointer none) (by kernel_rfl) rfl
theorem Ty.sc16 : Scalar Try.prog 16 := Scalar.of Try.underlying16 rfl (by kernel_rfl)
theorem Ty.ze16 : Zero Try.prog 16 [.pointer none] := Zero.of (z := .pointer none) (by kernel_rfl) rfl
theorem Ty.sc17 : Scalar Try.prog 17 := Scalar.of Try.underlying17 rfl (by kernel_rfl)
theorem Ty.ze17 : Zero Try.prog 17 [.pointer none] := Zero.of (z := .pointer none) (by kernel_rfl) rfl
theorem Ty.ag18 : Agg Try.prog 18 1 := Agg.of Try.underlying18 rfl (by kernel_rfl)
theorem Ty.gt18 : Try.prog.eqGuardType Try.prog.depth 18 = false := by kernel_rfl
theorem Ty.fd18_0 : Fld Try.prog 18 0 0 := Fld.of (n := 0) Try.underlying18 rfl rfl (by kernel_rfl)  -- typ
theorem Ty.ze18 : Zero Try.prog 18 [.pointer none] := Zero.of (z := .agg #[.pointer none]) (by kernel_rfl) rfl
theorem Ty.ag19 : Agg Try.prog 19 1 := Agg.of Try.underlying19 rfl (by kernel_rfl)
theorem Ty.gt19 : Try.prog.eqGuardType Try.prog.depth 19 = false := by kernel_rfl
theorem Ty.fd19_0 : Fld Try.prog 19 0 0 := Fld.of (n := 0) Try.underlying19 rfl rfl (by kernel_rfl)  -- typ
theorem Ty.ze19 : Zero Try.prog 19 [.pointer none] := Zero.of (z := .agg #[.pointer none]) (by kernel_rfl) rfl
theorem Ty.sc20 : Scalar Try.prog 20 := Scalar.of Try.underlying20 rfl (by kernel_rfl)
theorem Ty.ze20 : Zero Try.prog 20 [.nilIface] := Zero.of (z := .nilIface) (by kernel_rfl) rfl
theorem Ty.sc21 : Scalar Try.prog 21 := Scalar.of Try.underlying21 rfl (by kernel_rfl)
theorem Ty.ze21 : Zero Try.prog 21 [.int .i32 0] := Zero.of (z := .int .i32 0) (by kernel_rfl) rfl
theorem Ty.sc22 : Scalar Try.prog 22 := Scalar.of Try.underlying22 rfl (by kernel_rfl)
theorem Ty.el22 : (Try.prog.info? 35).map (·.size) = some 24 := by kernel_rfl
theorem Ty.zo22 : Zone Try.prog 35 := by unfold Zone; kernel_rfl
theorem Ty.em22 : Elem Try.prog 35 24 64 := Elem.of (by kernel_rfl)
theorem Ty.ze22 : Zero Try.prog 22 [.slice none 0 0] := Zero.of (z := .slice none 0 0) (by kernel_rfl) rfl
theorem Ty.sc23 : Scalar Try.prog 23 := Scalar.of Try.underlying23 rfl (by kernel_rfl)
theorem Ty.ze23 : Zero Try.prog 23 [.nilFunc] := Zero.of (z := .nilFunc) (by kernel_rfl) rfl
theorem Ty.sc24 : Scalar Try.prog 24 := Scalar.of Try.underlying24 rfl (by kernel_rfl)
theorem Ty.ze24 : Zero Try.prog 24 [.pointer none] := Zero.of (z := .pointer none) (by kernel_rfl) rfl
theorem Ty.sc25 : Scalar Try.prog 25 := Scalar.of Try.underlying25 rfl (by kernel_rfl)
theorem Ty.ze25 : Zero Try.prog 25 [.nilFunc] := Zero.of (z := .nilFunc) (by kernel_rfl) rfl
theorem Ty.sc26 : Scalar Try.prog 26 := Scalar.of Try.underlying26 rfl (by kernel_rfl)
theorem Ty.el26 : (Try.prog.info? 5).map (·.size) = some 1 := by kernel_rfl
theorem Ty.zo26 : Zone Try.prog 5 := by unfold Zone; kernel_rfl
theorem Ty.em26 : Elem Try.prog 5 1 1 := Elem.of (by kernel_rfl)
theorem Ty.ze26 : Zero Try.prog 26 [.slice none 0 0] := Zero.of (z := .slice none 0 0) (by kernel_rfl) rfl
theorem Ty.sc27 : Scalar Try.prog 27 := Scalar.of Try.underlying27 rfl (by kernel_rfl)
theorem Ty.ze27 : Zero Try.prog 27 [.int .u64 0] := Zero.of (z := .int .u64 0) (by kernel_rfl) rfl
theorem Ty.ag28 : Agg Try.prog 28 16 := Agg.of Try.underlying28 rfl (by kernel_rfl)
theorem Ty.gt28 : Try.prog.eqGuardType Try.prog.depth 28 = false := by kernel_rfl
theorem Ty.el28 : (Try.prog.info? 5).map (·.size) = some 1 := by kernel_rfl
theorem Ty.em28 : Elem Try.prog 5 1 1 := Elem.of (by kernel_rfl)
theorem Ty.ze28 : Zero Try.prog 28 [.int .u8 0, .int .u8 0, .int .u8 0, .int .u8 0, .int .u8 0, .int .u8 0, .int .u8 0, .int .u8 0, .int .u8 0, .int .u8 0, .int .u8 0, .int .u8 0, .int .u8 0, .int .u8 0, .int .u8 0, .int .u8 0] := Zero.of (z := .agg #[.int .u8 0, .int .u8 0, .int .u8 0, .int .u8 0, .int .u8 0, .int .u8 0, .int .u8 0, .int .u8 0, .int .u8 0, .int .u8 0, .int .u8 0, .int .u8 0, .int .u8 0, .int .u8 0, .int .u8 0, .int .u8 0]) (by kernel_rfl) rfl
theorem Ty.ag29 : Agg Try.prog 29 18 := Agg.of Try.underlying29 rfl (by kernel_rfl)
theorem Ty.gt29 : Try.prog.eqGuardType Try.prog.depth 29 = false := by kernel_rfl
theorem Ty.fd29_0 : Fld Try.prog 29 0 0 := Fld.of (n := 0) Try.underlying29 rfl rfl (by kernel_rfl)  -- Seq
theorem Ty.fd29_1 : Fld Try.prog 29 1 1 := Fld.of (n := 0) Try.underlying29 rfl rfl (by kernel_rfl)  -- Id
theorem Ty.fd29_2 : Fld Try.prog 29 2 2 := Fld.of (n := 15) Try.underlying29 rfl rfl (by kernel_rfl)  -- Token
theorem Ty.ze29 : Zero Try.prog 29 [.int .u64 0, .string ⟨#[]⟩, .int .u8 0, .int .u8 0, .int .u8 0, .int .u8 0, .int .u8 0, .int .u8 0, .int .u8 0, .int .u8 0, .int .u8 0, .int .u8 0, .int .u8 0, .int .u8 0, .int .u8 0, .int .u8 0, .int .u8 0, .int .u8 0] := Zero.of (z := .agg #[.int .u64 0, .string ⟨#[]⟩, .int .u8 0, .int .u8 0, .int .u8 0, .int .u8 0, .int .u8 0, .int .u8 0, .int .u8 0, .int .u8 0, .int .u8 0, .int .u8 0, .int .u8 0, .int .u8 0, .int .u8 0, .int .u8 0, .int .u8 0, .int .u8 0]) (by kernel_rfl) rfl
theorem Ty.ag30 : Agg Try.prog 30 18 := Agg.of Try.underlying30 rfl (by kernel_rfl)
theorem Ty.gt30 : Try.prog.eqGuardType Try.prog.depth 30 = false := by kernel_rfl
theorem Ty.fd30_0 : Fld Try.prog 30 0 0 := Fld.of (n := 0) Try.underlying30 rfl rfl (by kernel_rfl)  -- Seq
theorem Ty.fd30_1 : Fld Try.prog 30 1 1 := Fld.of (n := 0) Try.underlying30 rfl rfl (by kernel_rfl)  -- Id
theorem Ty.fd30_2 : Fld Try.prog 30 2 2 := Fld.of (n := 15) Try.underlying30 rfl rfl (by kernel_rfl)  -- Token
theorem Ty.ze30 : Zero Try.prog 30 [.int .u64 0, .string ⟨#[]⟩, .int .u8 0, .int .u8 0, .int .u8 0, .int .u8 0, .int .u8 0, .int .u8 0, .int .u8 0, .int .u8 0, .int .u8 0, .int .u8 0, .int .u8 0, .int .u8 0, .int .u8 0, .int .u8 0, .int .u8 0, .int .u8 0] := Zero.of (z := .agg #[.int .u64 0, .string ⟨#[]⟩, .int .u8 0, .int .u8 0, .int .u8 0, .int .u8 0, .int .u8 0, .int .u8 0, .int .u8 0, .int .u8 0, .int .u8 0, .int .u8 0, .int .u8 0, .int .u8 0, .int .u8 0, .int .u8 0, .int .u8 0, .int .u8 0]) (by kernel_rfl) rfl
theorem Ty.sc31 : Scalar Try.prog 31 := Scalar.of Try.underlying31 rfl (by kernel_rfl)
theorem Ty.el31 : (Try.prog.info? 30).map (·.size) = some 18 := by kernel_rfl
theorem Ty.zo31 : Zone Try.prog 30 := by unfold Zone; kernel_rfl
theorem Ty.em31 : Elem Try.prog 30 18 40 := Elem.of (by kernel_rfl)
theorem Ty.ze31 : Zero Try.prog 31 [.slice none 0 0] := Zero.of (z := .slice none 0 0) (by kernel_rfl) rfl
theorem Ty.sc32 : Scalar Try.prog 32 := Scalar.of Try.underlying32 rfl (by kernel_rfl)
theorem Ty.el32 : (Try.prog.info? 27).map (·.size) = some 1 := by kernel_rfl
theorem Ty.zo32 : Zone Try.prog 27 := by unfold Zone; kernel_rfl
theorem Ty.em32 : Elem Try.prog 27 1 8 := Elem.of (by kernel_rfl)
theorem Ty.ze32 : Zero Try.prog 32 [.slice none 0 0] := Zero.of (z := .slice none 0 0) (by kernel_rfl) rfl
theorem Ty.sc33 : Scalar Try.prog 33 := Scalar.of Try.underlying33 rfl (by kernel_rfl)
theorem Ty.ze33 : Zero Try.prog 33 [.nilFunc] := Zero.of (z := .nilFunc) (by kernel_rfl) rfl
theorem Ty.ag34 : Agg Try.prog 34 24 := Agg.of Try.underlying34 rfl (by kernel_rfl)
theorem Ty.gt34 : Try.prog.eqGuardType Try.prog.depth 34 = false := by kernel_rfl
theorem Ty.fd34_0 : Fld Try.prog 34 0 0 := Fld.of (n := 0) Try.underlying34 rfl rfl (by kernel_rfl)  -- Kind
theorem Ty.fd34_1 : Fld Try.prog 34 1 1 := Fld.of (n := 0) Try.underlying34 rfl rfl (by kernel_rfl)  -- Seq
theorem Ty.fd34_2 : Fld Try.prog 34 2 2 := Fld.of (n := 0) Try.underlying34 rfl rfl (by kernel_rfl)  -- Prior
theorem Ty.fd34_3 : Fld Try.prog 34 3 3 := Fld.of (n := 0) Try.underlying34 rfl rfl (by kernel_rfl)  -- Id
theorem Ty.fd34_4 : Fld Try.prog 34 4 4 := Fld.of (n := 17) Try.underlying34 rfl rfl (by kernel_rfl)  -- Any
theorem Ty.fd34_5 : Fld Try.prog 34 5 22 := Fld.of (n := 0) Try.underlying34 rfl rfl (by kernel_rfl)  -- Before
theorem Ty.fd34_6 : Fld Try.prog 34 6 23 := Fld.of (n := 0) Try.underlying34 rfl rfl (by kernel_rfl)  -- Raw
theorem Ty.ze34 : Zero Try.prog 34 [.int .u8 0, .int .u8 0, .int .u8 0, .int .u8 0, .int .u64 0, .string ⟨#[]⟩, .int .u8 0, .int .u8 0, .int .u8 0, .int .u8 0, .int .u8 0, .int .u8 0, .int .u8 0, .int .u8 0, .int .u8 0, .int .u8 0, .int .u8 0, .int .u8 0, .int .u8 0, .int .u8 0, .int .u8 0, .int .u8 0, .int .u64 0, .bool false] := Zero.of (z := .agg #[.int .u8 0, .int .u8 0, .int .u8 0, .int .u8 0, .int .u64 0, .string ⟨#[]⟩, .int .u8 0, .int .u8 0, .int .u8 0, .int .u8 0, .int .u8 0, .int .u8 0, .int .u8 0, .int .u8 0, .int .u8 0, .int .u8 0, .int .u8 0, .int .u8 0, .int .u8 0, .int .u8 0, .int .u8 0, .int .u8 0, .int .u64 0, .bool false]) (by kernel_rfl) rfl
theorem Ty.ag35 : Agg Try.prog 35 24 := Agg.of Try.underlying35 rfl (by kernel_rfl)
theorem Ty.gt35 : Try.prog.eqGuardType Try.prog.depth 35 = false := by kernel_rfl
theorem Ty.fd35_0 : Fld Try.prog 35 0 0 := Fld.of (n := 0) Try.underlying35 rfl rfl (by kernel_rfl)  -- Kind
theorem Ty.fd35_1 : Fld Try.prog 35 1 1 := Fld.of (n := 0) Try.underlying35 rfl rfl (by kernel_rfl)  -- Seq
theorem Ty.fd35_2 : Fld Try.prog 35 2 2 := Fld.of (n := 0) Try.underlying35 rfl rfl (by kernel_rfl)  -- Prior
theorem Ty.fd35_3 : Fld Try.prog 35 3 3 := Fld.of (n := 0) Try.underlying35 rfl rfl (by kernel_rfl)  -- Id
theorem Ty.fd35_4 : Fld Try.prog 35 4 4 := Fld.of (n := 17) Try.underlying35 rfl rfl (by kernel_rfl)  -- Any
theorem Ty.fd35_5 : Fld Try.prog 35 5 22 := Fld.of (n := 0) Try.underlying35 rfl rfl (by kernel_rfl)  -- Before
theorem Ty.fd35_6 : Fld Try.prog 35 6 23 := Fld.of (n := 0) Try.underlying35 rfl rfl (by kernel_rfl)  -- Raw
theorem Ty.ze35 : Zero Try.prog 35 [.int .u8 0, .int .u8 0, .int .u8 0, .int .u8 0, .int .u64 0, .string ⟨#[]⟩, .int .u8 0, .int .u8 0, .int .u8 0, .int .u8 0, .int .u8 0, .int .u8 0, .int .u8 0, .int .u8 0, .int .u8 0, .int .u8 0, .int .u8 0, .int .u8 0, .int .u8 0, .int .u8 0, .int .u8 0, .int .u8 0, .int .u64 0, .bool false] := Zero.of (z := .agg #[.int .u8 0, .int .u8 0, .int .u8 0, .int .u8 0, .int .u64 0, .string ⟨#[]⟩, .int .u8 0, .int .u8 0, .int .u8 0, .int .u8 0, .int .u8 0, .int .u8 0, .int .u8 0, .int .u8 0, .int .u8 0, .int .u8 0, .int .u8 0, .int .u8 0, .int .u8 0, .int .u8 0, .int .u8 0, .int .u8 0, .int .u64 0, .bool false]) (by kernel_rfl) rfl
theorem Ty.sc36 : Scalar Try.prog 36 := Scalar.of Try.underlying36 rfl (by kernel_rfl)
theorem Ty.ze36 : Zero Try.prog 36 [.nilFunc] := Zero.of (z := .nilFunc) (by kernel_rfl) rfl
theorem Ty.sc37 : Scalar Try.prog 37 := Scalar.of Try.underlying37 rfl (by kernel_rfl)
theorem Ty.ze37 : Zero Try.prog 37 [.int .i64 0] := Zero.of (z := .int .i64 0) (by kernel_rfl) rfl
theorem Ty.sc38 : Scalar Try.prog 38 := Scalar.of Try.underlying38 rfl (by kernel_rfl)
theorem Ty.ze38 : Zero Try.prog 38 [.nilFunc] := Zero.of (z := .nilFunc) (by kernel_rfl) rfl
theorem Ty.sc39 : Scalar Try.prog 39 := Scalar.of Try.underlying39 rfl (by kernel_rfl)
theorem Ty.ze39 : Zero Try.prog 39 [.nilFunc] := Zero.of (z := .nilFunc) (by kernel_rfl) rfl
theorem Ty.sc40 : Scalar Try.prog 40 := Scalar.of Try.underlying40 rfl (by kernel_rfl)
theorem Ty.ze40 : Zero Try.prog 40 [.nilFunc] := Zero.of (z := .nilFunc) (by kernel_rfl) rfl
theorem Ty.sc41 : Scalar Try.prog 41 := Scalar.of Try.underlying41 rfl (by kernel_rfl)
theorem Ty.ze41 : Zero Try.prog 41 [.nilFunc] := Zero.of (z := .nilFunc) (by kernel_rfl) rfl
theorem Ty.sc42 : Scalar Try.prog 42 := Scalar.of Try.underlying42 rfl (by kernel_rfl)
theorem Ty.ze42 : Zero Try.prog 42 [.nilFunc] := Zero.of (z := .nilFunc) (by kernel_rfl) rfl
theorem Ty.sc43 : Scalar Try.prog 43 := Scalar.of Try.underlying43 rfl (by kernel_rfl)
theorem Ty.ze43 : Zero Try.prog 43 [.nilFunc] := Zero.of (z := .nilFunc) (by kernel_rfl) rfl
theorem Ty.sc44 : Scalar Try.prog 44 := Scalar.of Try.underlying44 rfl (by kernel_rfl)
theorem Ty.ze44 : Zero Try.prog 44 [.nilFunc] := Zero.of (z := .nilFunc) (by kernel_rfl) rfl
theorem Ty.sc45 : Scalar Try.prog 45 := Scalar.of Try.underlying45 rfl (by kernel_rfl)
theorem Ty.el45 : (Try.prog.info? 49).map (·.size) = some 22 := by kernel_rfl
theorem Ty.zo45 : Zone Try.prog 49 := by unfold Zone; kernel_rfl
theorem Ty.em45 : Elem Try.prog 49 22 56 := Elem.of (by kernel_rfl)
theorem Ty.ze45 : Zero Try.prog 45 [.slice none 0 0] := Zero.of (z := .slice none 0 0) (by kernel_rfl) rfl
theorem Ty.sc46 : Scalar Try.prog 46 := Scalar.of Try.underlying46 rfl (by kernel_rfl)
theorem Ty.ze46 : Zero Try.prog 46 [.pointer none] := Zero.of (z := .pointer none) (by kernel_rfl) rfl
theorem Ty.sc47 : Scalar Try.prog 47 := Scalar.of Try.underlying47 rfl (by kernel_rfl)
theorem Ty.ze47 : Zero Try.prog 47 [.nilFunc] := Zero.of (z := .nilFunc) (by kernel_rfl) rfl
theorem Ty.ag48 : Agg Try.prog 48 22 := Agg.of Try.underlying48 rfl (by kernel_rfl)
theorem Ty.gt48 : Try.prog.eqGuardType Try.prog.depth 48 = false := by kernel_rfl
theorem Ty.fd48_0 : Fld Try.prog 48 0 0 := Fld.of (n := 0) Try.underlying48 rfl rfl (by kernel_rfl)  -- Kind
theorem Ty.fd48_1 : Fld Try.prog 48 1 1 := Fld.of (n := 0) Try.underlying48 rfl rfl (by kernel_rfl)  -- Id
theorem Ty.fd48_2 : Fld Try.prog 48 2 2 := Fld.of (n := 0) Try.underlying48 rfl rfl (by kernel_rfl)  -- By
theorem Ty.fd48_3 : Fld Try.prog 48 3 3 := Fld.of (n := 15) Try.underlying48 rfl rfl (by kernel_rfl)  -- Token
theorem Ty.fd48_4 : Fld Try.prog 48 4 19 := Fld.of (n := 0) Try.underlying48 rfl rfl (by kernel_rfl)  -- Any
theorem Ty.fd48_5 : Fld Try.prog 48 5 20 := Fld.of (n := 0) Try.underlying48 rfl rfl (by kernel_rfl)  -- Seq
theorem Ty.fd48_6 : Fld Try.prog 48 6 21 := Fld.of (n := 0) Try.underlying48 rfl rfl (by kernel_rfl)  -- Raw
theorem Ty.ze48 : Zero Try.prog 48 [.int .u8 0, .int .u8 0, .int .u8 0, .int .u8 0, .int .u8 0, .int .u8 0, .int .u8 0, .int .u8 0, .int .u8 0, .int .u8 0, .int .u8 0, .int .u8 0, .int .u8 0, .int .u8 0, .int .u8 0, .int .u8 0, .int .u8 0, .int .u8 0, .int .u8 0, .string ⟨#[]⟩, .int .u64 0, .bool false] := Zero.of (z := .agg #[.int .u8 0, .int .u8 0, .int .u8 0, .int .u8 0, .int .u8 0, .int .u8 0, .int .u8 0, .int .u8 0, .int .u8 0, .int .u8 0, .int .u8 0, .int .u8 0, .int .u8 0, .int .u8 0, .int .u8 0, .int .u8 0, .int .u8 0, .int .u8 0, .int .u8 0, .string ⟨#[]⟩, .int .u64 0, .bool false]) (by kernel_rfl) rfl
theorem Ty.ag49 : Agg Try.prog 49 22 := Agg.of Try.underlying49 rfl (by kernel_rfl)
theorem Ty.gt49 : Try.prog.eqGuardType Try.prog.depth 49 = false := by kernel_rfl
theorem Ty.fd49_0 : Fld Try.prog 49 0 0 := Fld.of (n := 0) Try.underlying49 rfl rfl (by kernel_rfl)  -- Kind
theorem Ty.fd49_1 : Fld Try.prog 49 1 1 := Fld.of (n := 0) Try.underlying49 rfl rfl (by kernel_rfl)  -- Id
theorem Ty.fd49_2 : Fld Try.prog 49 2 2 := Fld.of (n := 0) Try.underlying49 rfl rfl (by kernel_rfl)  -- By
theorem Ty.fd49_3 : Fld Try.prog 49 3 3 := Fld.of (n := 15) Try.underlying49 rfl rfl (by kernel_rfl)  -- Token
theorem Ty.fd49_4 : Fld Try.prog 49 4 19 := Fld.of (n := 0) Try.underlying49 rfl rfl (by kernel_rfl)  -- Any
theorem Ty.fd49_5 : Fld Try.prog 49 5 20 := Fld.of (n := 0) Try.underlying49 rfl rfl (by kernel_rfl)  -- Seq
theorem Ty.fd49_6 : Fld Try.prog 49 6 21 := Fld.of (n := 0) Try.underlying49 rfl rfl (by kernel_rfl)  -- Raw
theorem Ty.ze49 : Zero Try.prog 49 [.int .u8 0, .int .u8 0, .int .u8 0, .int .u8 0, .int .u8 0, .int .u8 0, .int .u8 0, .int .u8 0, .int .u8 0, .int .u8 0, .int .u8 0, .int .u8 0, .int .u8 0, .int .u8 0, .int .u8 0, .int .u8 0, .int .u8 0, .int .u8 0, .int .u8 0, .string ⟨#[]⟩, .int .u64 0, .bool false] := Zero.of (z := .agg #[.int .u8 0, .int .u8 0, .int .u8 0, .int .u8 0, .int .u8 0, .int .u8 0, .int .u8 0, .int .u8 0, .int .u8 0, .int .u8 0, .int .u8 0, .int .u8 0, .int .u8 0, .int .u8 0, .int .u8 0, .int .u8 0, .int .u8 0, .int .u8 0, .int .u8 0, .string ⟨#[]⟩, .int .u64 0, .bool false]) (by kernel_rfl) rfl
theorem Ty.sc51 : Scalar Try.prog 51 := Scalar.of Try.underlying51 rfl (by kernel_rfl)
theorem Ty.ze51 : Zero Try.prog 51 [.nilFunc] := Zero.of (z := .nilFunc) (by kernel_rfl) rfl
theorem Ty.sc52 : Scalar Try.prog 52 := Scalar.of Try.underlying52 rfl (by kernel_rfl)
theorem Ty.ze52 : Zero Try.prog 52 [.nilFunc] := Zero.of (z := .nilFunc) (by kernel_rfl) rfl
theorem Ty.sc54 : Scalar Try.prog 54 := Scalar.of Try.underlying54 rfl (by kernel_rfl)
theorem Ty.ze54 : Zero Try.prog 54 [.nilFunc] := Zero.of (z := .nilFunc) (by kernel_rfl) rfl
theorem Ty.sc55 : Scalar Try.prog 55 := Scalar.of Try.underlying55 rfl (by kernel_rfl)
theorem Ty.ze55 : Zero Try.prog 55 [.nilFunc] := Zero.of (z := .nilFunc) (by kernel_rfl) rfl
theorem Ty.sc56 : Scalar Try.prog 56 := Scalar.of Try.underlying56 rfl (by kernel_rfl)
theorem Ty.ze56 : Zero Try.prog 56 [.nilFunc] := Zero.of (z := .nilFunc) (by kernel_rfl) rfl
theorem Ty.sc57 : Scalar Try.prog 57 := Scalar.of Try.underlying57 rfl (by kernel_rfl)
theorem Ty.ze57 : Zero Try.prog 57 [.nilFunc] := Zero.of (z := .nilFunc) (by kernel_rfl) rfl
theorem Ty.sc58 : Scalar Try.prog 58 := Scalar.of Try.underlying58 rfl (by kernel_rfl)
theorem Ty.ze58 : Zero Try.prog 58 [.nilFunc] := Zero.of (z := .nilFunc) (by kernel_rfl) rfl
theorem Ty.ag59 : Agg Try.prog 59 5 := Agg.of Try.underlying59 rfl (by kernel_rfl)
theorem Ty.gt59 : Try.prog.eqGuardType Try.prog.depth 59 = false := by kernel_rfl
theorem Ty.fd59_0 : Fld Try.prog 59 0 0 := Fld.of (n := 0) Try.underlying59 rfl rfl (by kernel_rfl)  -- most
theorem Ty.fd59_1 : Fld Try.prog 59 1 1 := Fld.of (n := 0) Try.underlying59 rfl rfl (by kernel_rfl)  -- l
theorem Ty.fd59_2 : Fld Try.prog 59 2 2 := Fld.of (n := 0) Try.underlying59 rfl rfl (by kernel_rfl)  -- now
theorem Ty.fd59_3 : Fld Try.prog 59 3 3 := Fld.of (n := 0) Try.underlying59 rfl rfl (by kernel_rfl)  -- prior
theorem Ty.fd59_4 : Fld Try.prog 59 4 4 := Fld.of (n := 0) Try.underlying59 rfl rfl (by kernel_rfl)  -- retired
theorem Ty.ze59 : Zero Try.prog 59 [.int .i64 0, .slice none 0 0, .int .u64 0, .int .u64 0, .slice none 0 0] := Zero.of (z := .agg #[.int .i64 0, .slice none 0 0, .int .u64 0, .int .u64 0, .slice none 0 0]) (by kernel_rfl) rfl
theorem Ty.ag60 : Agg Try.prog 60 5 := Agg.of Try.underlying60 rfl (by kernel_rfl)
theorem Ty.gt60 : Try.prog.eqGuardType Try.prog.depth 60 = false := by kernel_rfl
theorem Ty.fd60_0 : Fld Try.prog 60 0 0 := Fld.of (n := 0) Try.underlying60 rfl rfl (by kernel_rfl)  -- most
theorem Ty.fd60_1 : Fld Try.prog 60 1 1 := Fld.of (n := 0) Try.underlying60 rfl rfl (by kernel_rfl)  -- l
theorem Ty.fd60_2 : Fld Try.prog 60 2 2 := Fld.of (n := 0) Try.underlying60 rfl rfl (by kernel_rfl)  -- now
theorem Ty.fd60_3 : Fld Try.prog 60 3 3 := Fld.of (n := 0) Try.underlying60 rfl rfl (by kernel_rfl)  -- prior
theorem Ty.fd60_4 : Fld Try.prog 60 4 4 := Fld.of (n := 0) Try.underlying60 rfl rfl (by kernel_rfl)  -- retired
theorem Ty.ze60 : Zero Try.prog 60 [.int .i64 0, .slice none 0 0, .int .u64 0, .int .u64 0, .slice none 0 0] := Zero.of (z := .agg #[.int .i64 0, .slice none 0 0, .int .u64 0, .int .u64 0, .slice none 0 0]) (by kernel_rfl) rfl
theorem Ty.sc61 : Scalar Try.prog 61 := Scalar.of Try.underlying61 rfl (by kernel_rfl)
theorem Ty.ze61 : Zero Try.prog 61 [.nilFunc] := Zero.of (z := .nilFunc) (by kernel_rfl) rfl
theorem Ty.sc62 : Scalar Try.prog 62 := Scalar.of Try.underlying62 rfl (by kernel_rfl)
theorem Ty.ze62 : Zero Try.prog 62 [.nilFunc] := Zero.of (z := .nilFunc) (by kernel_rfl) rfl
theorem Ty.sc63 : Scalar Try.prog 63 := Scalar.of Try.underlying63 rfl (by kernel_rfl)
theorem Ty.ze63 : Zero Try.prog 63 [.nilFunc] := Zero.of (z := .nilFunc) (by kernel_rfl) rfl
theorem Ty.sc64 : Scalar Try.prog 64 := Scalar.of Try.underlying64 rfl (by kernel_rfl)
theorem Ty.ze64 : Zero Try.prog 64 [.nilFunc] := Zero.of (z := .nilFunc) (by kernel_rfl) rfl
theorem Ty.sc65 : Scalar Try.prog 65 := Scalar.of Try.underlying65 rfl (by kernel_rfl)
theorem Ty.ze65 : Zero Try.prog 65 [.nilFunc] := Zero.of (z := .nilFunc) (by kernel_rfl) rfl
theorem Ty.sc66 : Scalar Try.prog 66 := Scalar.of Try.underlying66 rfl (by kernel_rfl)
theorem Ty.ze66 : Zero Try.prog 66 [.nilFunc] := Zero.of (z := .nilFunc) (by kernel_rfl) rfl
theorem Ty.sc67 : Scalar Try.prog 67 := Scalar.of Try.underlying67 rfl (by kernel_rfl)
theorem Ty.ze67 : Zero Try.prog 67 [.nilFunc] := Zero.of (z := .nilFunc) (by kernel_rfl) rfl
theorem Ty.sc68 : Scalar Try.prog 68 := Scalar.of Try.underlying68 rfl (by kernel_rfl)
theorem Ty.ze68 : Zero Try.prog 68 [.nilFunc] := Zero.of (z := .nilFunc) (by kernel_rfl) rfl
theorem Ty.sc69 : Scalar Try.prog 69 := Scalar.of Try.underlying69 rfl (by kernel_rfl)
theorem Ty.ze69 : Zero Try.prog 69 [.nilFunc] := Zero.of (z := .nilFunc) (by kernel_rfl) rfl
theorem Ty.ag70 : Agg Try.prog 70 3 := Agg.of Try.underlying70 rfl (by kernel_rfl)
theorem Ty.gt70 : Try.prog.eqGuardType Try.prog.depth 70 = false := by kernel_rfl
theorem Ty.fd70_0 : Fld Try.prog 70 0 0 := Fld.of (n := 0) Try.underlying70 rfl rfl (by kernel_rfl)  -- most
theorem Ty.fd70_1 : Fld Try.prog 70 1 1 := Fld.of (n := 0) Try.underlying70 rfl rfl (by kernel_rfl)  -- next
theorem Ty.fd70_2 : Fld Try.prog 70 2 2 := Fld.of (n := 0) Try.underlying70 rfl rfl (by kernel_rfl)  -- l
theorem Ty.ze70 : Zero Try.prog 70 [.int .i64 0, .int .u64 0, .slice none 0 0] := Zero.of (z := .agg #[.int .i64 0, .int .u64 0, .slice none 0 0]) (by kernel_rfl) rfl
theorem Ty.ag71 : Agg Try.prog 71 3 := Agg.of Try.underlying71 rfl (by kernel_rfl)
theorem Ty.gt71 : Try.prog.eqGuardType Try.prog.depth 71 = false := by kernel_rfl
theorem Ty.fd71_0 : Fld Try.prog 71 0 0 := Fld.of (n := 0) Try.underlying71 rfl rfl (by kernel_rfl)  -- most
theorem Ty.fd71_1 : Fld Try.prog 71 1 1 := Fld.of (n := 0) Try.underlying71 rfl rfl (by kernel_rfl)  -- next
theorem Ty.fd71_2 : Fld Try.prog 71 2 2 := Fld.of (n := 0) Try.underlying71 rfl rfl (by kernel_rfl)  -- l
theorem Ty.ze71 : Zero Try.prog 71 [.int .i64 0, .int .u64 0, .slice none 0 0] := Zero.of (z := .agg #[.int .i64 0, .int .u64 0, .slice none 0 0]) (by kernel_rfl) rfl
theorem Ty.sc72 : Scalar Try.prog 72 := Scalar.of Try.underlying72 rfl (by kernel_rfl)
theorem Ty.ze72 : Zero Try.prog 72 [.nilFunc] := Zero.of (z := .nilFunc) (by kernel_rfl) rfl
theorem Ty.sc73 : Scalar Try.prog 73 := Scalar.of Try.underlying73 rfl (by kernel_rfl)
theorem Ty.ze73 : Zero Try.prog 73 [.nilFunc] := Zero.of (z := .nilFunc) (by kernel_rfl) rfl
theorem Ty.sc74 : Scalar Try.prog 74 := Scalar.of Try.underlying74 rfl (by kernel_rfl)
theorem Ty.ze74 : Zero Try.prog 74 [.nilFunc] := Zero.of (z := .nilFunc) (by kernel_rfl) rfl
theorem Ty.sc75 : Scalar Try.prog 75 := Scalar.of Try.underlying75 rfl (by kernel_rfl)
theorem Ty.ze75 : Zero Try.prog 75 [.nilFunc] := Zero.of (z := .nilFunc) (by kernel_rfl) rfl
theorem Ty.sc76 : Scalar Try.prog 76 := Scalar.of Try.underlying76 rfl (by kernel_rfl)
theorem Ty.ze76 : Zero Try.prog 76 [.nilFunc] := Zero.of (z := .nilFunc) (by kernel_rfl) rfl
theorem Ty.sc77 : Scalar Try.prog 77 := Scalar.of Try.underlying77 rfl (by kernel_rfl)
theorem Ty.ze77 : Zero Try.prog 77 [.nilFunc] := Zero.of (z := .nilFunc) (by kernel_rfl) rfl
theorem Ty.sc78 : Scalar Try.prog 78 := Scalar.of Try.underlying78 rfl (by kernel_rfl)
theorem Ty.ze78 : Zero Try.prog 78 [.nilFunc] := Zero.of (z := .nilFunc) (by kernel_rfl) rfl
theorem Ty.ag79 : Agg Try.prog 79 4 := Agg.of Try.underlying79 rfl (by kernel_rfl)
theorem Ty.gt79 : Try.prog.eqGuardType Try.prog.depth 79 = false := by kernel_rfl
theorem Ty.fd79_0 : Fld Try.prog 79 0 0 := Fld.of (n := 0) Try.underlying79 rfl rfl (by kernel_rfl)  -- _interface
theorem Ty.fd79_1 : Fld Try.prog 79 1 1 := Fld.of (n := 0) Try.underlying79 rfl rfl (by kernel_rfl)  -- concrete
theorem Ty.fd79_2 : Fld Try.prog 79 2 2 := Fld.of (n := 0) Try.underlying79 rfl rfl (by kernel_rfl)  -- asserted
theorem Ty.fd79_3 : Fld Try.prog 79 3 3 := Fld.of (n := 0) Try.underlying79 rfl rfl (by kernel_rfl)  -- missingMethod
theorem Ty.ze79 : Zero Try.prog 79 [.pointer none, .pointer none, .pointer none, .string ⟨#[]⟩] := Zero.of (z := .agg #[.pointer none, .pointer none, .pointer none, .string ⟨#[]⟩]) (by kernel_rfl) rfl
theorem Ty.ag80 : Agg Try.prog 80 4 := Agg.of Try.underlying80 rfl (by kernel_rfl)
theorem Ty.gt80 : Try.prog.eqGuardType Try.prog.depth 80 = false := by kernel_rfl
theorem Ty.fd80_0 : Fld Try.prog 80 0 0 := Fld.of (n := 0) Try.underlying80 rfl rfl (by kernel_rfl)  -- _interface
theorem Ty.fd80_1 : Fld Try.prog 80 1 1 := Fld.of (n := 0) Try.underlying80 rfl rfl (by kernel_rfl)  -- concrete
theorem Ty.fd80_2 : Fld Try.prog 80 2 2 := Fld.of (n := 0) Try.underlying80 rfl rfl (by kernel_rfl)  -- asserted
theorem Ty.fd80_3 : Fld Try.prog 80 3 3 := Fld.of (n := 0) Try.underlying80 rfl rfl (by kernel_rfl)  -- missingMethod
theorem Ty.ze80 : Zero Try.prog 80 [.pointer none, .pointer none, .pointer none, .string ⟨#[]⟩] := Zero.of (z := .agg #[.pointer none, .pointer none, .pointer none, .string ⟨#[]⟩]) (by kernel_rfl) rfl
theorem Ty.ag81 : Agg Try.prog 81 0 := Agg.of Try.underlying81 rfl (by kernel_rfl)
theorem Ty.gt81 : Try.prog.eqGuardType Try.prog.depth 81 = false := by kernel_rfl
theorem Ty.el81 : (Try.prog.info? 16).map (·.size) = some 1 := by kernel_rfl
theorem Ty.em81 : Elem Try.prog 16 1 8 := Elem.of (by kernel_rfl)
theorem Ty.ze81 : Zero Try.prog 81 [] := Zero.of (z := .agg #[]) (by kernel_rfl) rfl
theorem Ty.ag82 : Agg Try.prog 82 0 := Agg.of Try.underlying82 rfl (by kernel_rfl)
theorem Ty.gt82 : Try.prog.eqGuardType Try.prog.depth 82 = false := by kernel_rfl
theorem Ty.ze82 : Zero Try.prog 82 [] := Zero.of (z := .agg #[]) (by kernel_rfl) rfl
theorem Ty.ag83 : Agg Try.prog 83 0 := Agg.of Try.underlying83 rfl (by kernel_rfl)
theorem Ty.gt83 : Try.prog.eqGuardType Try.prog.depth 83 = false := by kernel_rfl
theorem Ty.ze83 : Zero Try.prog 83 [] := Zero.of (z := .agg #[]) (by kernel_rfl) rfl
theorem Ty.sc84 : Scalar Try.prog 84 := Scalar.of Try.underlying84 rfl (by kernel_rfl)
theorem Ty.ze84 : Zero Try.prog 84 [.nilFunc] := Zero.of (z := .nilFunc) (by kernel_rfl) rfl
theorem Ty.sc85 : Scalar Try.prog 85 := Scalar.of Try.underlying85 rfl (by kernel_rfl)
theorem Ty.ze85 : Zero Try.prog 85 [.int .u32 0] := Zero.of (z := .int .u32 0) (by kernel_rfl) rfl
theorem Ty.sc86 : Scalar Try.prog 86 := Scalar.of Try.underlying86 rfl (by kernel_rfl)
theorem Ty.ze86 : Zero Try.prog 86 [.int .u8 0] := Zero.of (z := .int .u8 0) (by kernel_rfl) rfl
theorem Ty.sc87 : Scalar Try.prog 87 := Scalar.of Try.underlying87 rfl (by kernel_rfl)
theorem Ty.ze87 : Zero Try.prog 87 [.int .u8 0] := Zero.of (z := .int .u8 0) (by kernel_rfl) rfl
theorem Ty.sc88 : Scalar Try.prog 88 := Scalar.of Try.underlying88 rfl (by kernel_rfl)
theorem Ty.ze88 : Zero Try.prog 88 [.nilFunc] := Zero.of (z := .nilFunc) (by kernel_rfl) rfl
theorem Ty.sc89 : Scalar Try.prog 89 := Scalar.of Try.underlying89 rfl (by kernel_rfl)
theorem Ty.ze89 : Zero Try.prog 89 [.pointer none] := Zero.of (z := .pointer none) (by kernel_rfl) rfl
theorem Ty.sc90 : Scalar Try.prog 90 := Scalar.of Try.underlying90 rfl (by kernel_rfl)
theorem Ty.ze90 : Zero Try.prog 90 [.int .i32 0] := Zero.of (z := .int .i32 0) (by kernel_rfl) rfl
theorem Ty.sc91 : Scalar Try.prog 91 := Scalar.of Try.underlying91 rfl (by kernel_rfl)
theorem Ty.ze91 : Zero Try.prog 91 [.int .i32 0] := Zero.of (z := .int .i32 0) (by kernel_rfl) rfl
theorem Ty.ag92 : Agg Try.prog 92 11 := Agg.of Try.underlying92 rfl (by kernel_rfl)
theorem Ty.gt92 : Try.prog.eqGuardType Try.prog.depth 92 = false := by kernel_rfl
theorem Ty.fd92_0 : Fld Try.prog 92 0 0 := Fld.of (n := 0) Try.underlying92 rfl rfl (by kernel_rfl)  -- Size_
theorem Ty.fd92_1 : Fld Try.prog 92 1 1 := Fld.of (n := 0) Try.underlying92 rfl rfl (by kernel_rfl)  -- PtrBytes
theorem Ty.fd92_2 : Fld Try.prog 92 2 2 := Fld.of (n := 0) Try.underlying92 rfl rfl (by kernel_rfl)  -- Hash
theorem Ty.fd92_3 : Fld Try.prog 92 3 3 := Fld.of (n := 0) Try.underlying92 rfl rfl (by kernel_rfl)  -- TFlag
theorem Ty.fd92_4 : Fld Try.prog 92 4 4 := Fld.of (n := 0) Try.underlying92 rfl rfl (by kernel_rfl)  -- Align_
theorem Ty.fd92_5 : Fld Try.prog 92 5 5 := Fld.of (n := 0) Try.underlying92 rfl rfl (by kernel_rfl)  -- FieldAlign_
theorem Ty.fd92_6 : Fld Try.prog 92 6 6 := Fld.of (n := 0) Try.underlying92 rfl rfl (by kernel_rfl)  -- Kind_
theorem Ty.fd92_7 : Fld Try.prog 92 7 7 := Fld.of (n := 0) Try.underlying92 rfl rfl (by kernel_rfl)  -- Equal
theorem Ty.fd92_8 : Fld Try.prog 92 8 8 := Fld.of (n := 0) Try.underlying92 rfl rfl (by kernel_rfl)  -- GCData
theorem Ty.fd92_9 : Fld Try.prog 92 9 9 := Fld.of (n := 0) Try.underlying92 rfl rfl (by kernel_rfl)  -- Str
theorem Ty.fd92_10 : Fld Try.prog 92 10 10 := Fld.of (n := 0) Try.underlying92 rfl rfl (by kernel_rfl)  -- PtrToThis
theorem Ty.ze92 : Zero Try.prog 92 [.int .u64 0, .int .u64 0, .int .u32 0, .int .u8 0, .int .u8 0, .int .u8 0, .int .u8 0, .nilFunc, .pointer none, .int .i32 0, .int .i32 0] := Zero.of (z := .agg #[.int .u64 0, .int .u64 0, .int .u32 0, .int .u8 0, .int .u8 0, .int .u8 0, .int .u8 0, .nilFunc, .pointer none, .int .i32 0, .int .i32 0]) (by kernel_rfl) rfl
theorem Ty.ag93 : Agg Try.prog 93 11 := Agg.of Try.underlying93 rfl (by kernel_rfl)
theorem Ty.gt93 : Try.prog.eqGuardType Try.prog.depth 93 = false := by kernel_rfl
theorem Ty.fd93_0 : Fld Try.prog 93 0 0 := Fld.of (n := 0) Try.underlying93 rfl rfl (by kernel_rfl)  -- Size_
theorem Ty.fd93_1 : Fld Try.prog 93 1 1 := Fld.of (n := 0) Try.underlying93 rfl rfl (by kernel_rfl)  -- PtrBytes
theorem Ty.fd93_2 : Fld Try.prog 93 2 2 := Fld.of (n := 0) Try.underlying93 rfl rfl (by kernel_rfl)  -- Hash
theorem Ty.fd93_3 : Fld Try.prog 93 3 3 := Fld.of (n := 0) Try.underlying93 rfl rfl (by kernel_rfl)  -- TFlag
theorem Ty.fd93_4 : Fld Try.prog 93 4 4 := Fld.of (n := 0) Try.underlying93 rfl rfl (by kernel_rfl)  -- Align_
theorem Ty.fd93_5 : Fld Try.prog 93 5 5 := Fld.of (n := 0) Try.underlying93 rfl rfl (by kernel_rfl)  -- FieldAlign_
theorem Ty.fd93_6 : Fld Try.prog 93 6 6 := Fld.of (n := 0) Try.underlying93 rfl rfl (by kernel_rfl)  -- Kind_
theorem Ty.fd93_7 : Fld Try.prog 93 7 7 := Fld.of (n := 0) Try.underlying93 rfl rfl (by kernel_rfl)  -- Equal
theorem Ty.fd93_8 : Fld Try.prog 93 8 8 := Fld.of (n := 0) Try.underlying93 rfl rfl (by kernel_rfl)  -- GCData
theorem Ty.fd93_9 : Fld Try.prog 93 9 9 := Fld.of (n := 0) Try.underlying93 rfl rfl (by kernel_rfl)  -- Str
theorem Ty.fd93_10 : Fld Try.prog 93 10 10 := Fld.of (n := 0) Try.underlying93 rfl rfl (by kernel_rfl)  -- PtrToThis
theorem Ty.ze93 : Zero Try.prog 93 [.int .u64 0, .int .u64 0, .int .u32 0, .int .u8 0, .int .u8 0, .int .u8 0, .int .u8 0, .nilFunc, .pointer none, .int .i32 0, .int .i32 0] := Zero.of (z := .agg #[.int .u64 0, .int .u64 0, .int .u32 0, .int .u8 0, .int .u8 0, .int .u8 0, .int .u8 0, .nilFunc, .pointer none, .int .i32 0, .int .i32 0]) (by kernel_rfl) rfl
theorem Ty.sc94 : Scalar Try.prog 94 := Scalar.of Try.underlying94 rfl (by kernel_rfl)
theorem Ty.ze94 : Zero Try.prog 94 [.pointer none] := Zero.of (z := .pointer none) (by kernel_rfl) rfl
end Go.Proofs.Ytfilpenkihdjiaa
