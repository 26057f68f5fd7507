/- The facts on types that the walks use, by program. Conditions: none. -/
import Derived.Test.YtbpnnkkbaakdjaaRows
import Derived.Test.YtbpnnkkbaakdjaaLt
namespace Go.Proofs.Ytbpnnkkbaakdjaa
open Go Go.Sl Go.Proofs
set_option maxRecDepth 100000

theorem Ty.mixed : Try.prog.follows .mixedOrders = true := by kernel_rfl
theorem Ty.sc1 : Scalar Try.prog 1 := Scalar.of Try.underlying1 rfl (by kernel_rfl)
theorem Ty.ze1 : Zero Try.prog 1 [.nilFunc] := Zero.of (z := .nilFunc) (by kernel_rfl) rfl
theorem Ty.sc2 : Scalar Try.prog 2 := Scalar.of Try.underlying2 rfl (by kernel_rfl)
theorem Ty.ze2 : Zero Try.prog 2 [.int .i64 0] := Zero.of (z := .int .i64 0) (by kernel_rfl) rfl
theorem Ty.sc3 : Scalar Try.prog 3 := Scalar.of Try.underlying3 rfl (by kernel_rfl)
theorem Ty.ze3 : Zero Try.prog 3 [.int .i64 0] := Zero.of (z := .int .i64 0) (by kernel_rfl) rfl
theorem Ty.sc4 : Scalar Try.prog 4 := Scalar.of Try.underlying4 rfl (by kernel_rfl)
theorem Ty.ze4 : Zero Try.prog 4 [.bool false] := Zero.of (z := .bool false) (by kernel_rfl) rfl
theorem Ty.sc5 : Scalar Try.prog 5 := Scalar.of Try.underlying5 rfl (by kernel_rfl)
theorem Ty.ze5 : Zero Try.prog 5 [.int .u8 0] := Zero.of (z := .int .u8 0) (by kernel_rfl) rfl
theorem Ty.sc6 : Scalar Try.prog 6 := Scalar.of Try.underlying6 rfl (by kernel_rfl)
theorem Ty.ze6 : Zero Try.prog 6 [.int .u8 0] := Zero.of (z := .int .u8 0) (by kernel_rfl) rfl
theorem Ty.ag7 : Agg Try.prog 7 4 := Agg.of Try.underlying7 rfl (by kernel_rfl)
theorem Ty.gt7 : Try.prog.eqGuardType Try.prog.depth 7 = false := by kernel_rfl
theorem Ty.fd7_0 : Fld Try.prog 7 0 0 := Fld.of (n := 0) Try.underlying7 rfl rfl (by kernel_rfl)  -- x
theorem Ty.fd7_1 : Fld Try.prog 7 1 1 := Fld.of (n := 0) Try.underlying7 rfl rfl (by kernel_rfl)  -- y
theorem Ty.fd7_2 : Fld Try.prog 7 2 2 := Fld.of (n := 0) Try.underlying7 rfl rfl (by kernel_rfl)  -- signed
theorem Ty.fd7_3 : Fld Try.prog 7 3 3 := Fld.of (n := 0) Try.underlying7 rfl rfl (by kernel_rfl)  -- code
theorem Ty.ze7 : Zero Try.prog 7 [.int .i64 0, .int .i64 0, .bool false, .int .u8 0] := Zero.of (z := .agg #[.int .i64 0, .int .i64 0, .bool false, .int .u8 0]) (by kernel_rfl) rfl
theorem Ty.ag8 : Agg Try.prog 8 4 := Agg.of Try.underlying8 rfl (by kernel_rfl)
theorem Ty.gt8 : Try.prog.eqGuardType Try.prog.depth 8 = false := by kernel_rfl
theorem Ty.fd8_0 : Fld Try.prog 8 0 0 := Fld.of (n := 0) Try.underlying8 rfl rfl (by kernel_rfl)  -- x
theorem Ty.fd8_1 : Fld Try.prog 8 1 1 := Fld.of (n := 0) Try.underlying8 rfl rfl (by kernel_rfl)  -- y
theorem Ty.fd8_2 : Fld Try.prog 8 2 2 := Fld.of (n := 0) Try.underlying8 rfl rfl (by kernel_rfl)  -- signed
theorem Ty.fd8_3 : Fld Try.prog 8 3 3 := Fld.of (n := 0) Try.underlying8 rfl rfl (by kernel_rfl)  -- code
theorem Ty.ze8 : Zero Try.prog 8 [.int .i64 0, .int .i64 0, .bool false, .int .u8 0] := Zero.of (z := .agg #[.int .i64 0, .int .i64 0, .bool false, .int .u8 0]) (by kernel_rfl) rfl
theorem Ty.sc9 : Scalar Try.prog 9 := Scalar.of Try.underlying9 rfl (by kernel_rfl)
theorem Ty.ze9 : Zero Try.prog 9 [.string ⟨#[]⟩] := Zero.of (z := .string ⟨#[]⟩) (by kernel_rfl) rfl
theorem Ty.sc10 : Scalar Try.prog 10 := Scalar.of Try.underlying10 rfl (by kernel_rfl)
theorem Ty.ze10 : Zero Try.prog 10 [.string ⟨#[]⟩] := Zero.of (z := .string ⟨#[]⟩) (by kernel_rfl) rfl
theorem Ty.sc11 : Scalar Try.prog 11 := Scalar.of Try.underlying11 rfl (by kernel_rfl)
theorem Ty.ze11 : Zero Try.prog 11 [.string ⟨#[]⟩] := Zero.of (z := .string ⟨#[]⟩) (by kernel_rfl) rfl
theorem Ty.sc12 : Scalar Try.prog 12 := Scalar.of Try.underlying12 rfl (by kernel_rfl)
theorem Ty.ze12 : Zero Try.prog 12 [.int .u64 0] := Zero.of (z := .int .u64 0) (by kernel_rfl) rfl
theorem Ty.ag13 : Agg Try.prog 13 2 := Agg.of Try.underlying13 rfl (by kernel_rfl)
theorem Ty.gt13 : Try.prog.eqGuardType Try.prog.depth 13 = false := by kernel_rfl
theorem Ty.fd13_0 : Fld Try.prog 13 0 0 := Fld.of (n := 0) Try.underlying13 rfl rfl (by kernel_rfl)  -- msg
theorem Ty.fd13_1 : Fld Try.prog 13 1 1 := Fld.of (n := 0) Try.underlying13 rfl rfl (by kernel_rfl)  -- addr
theorem Ty.ze13 : Zero Try.prog 13 [.string ⟨#[]⟩, .int .u64 0] := Zero.of (z := .agg #[.string ⟨#[]⟩, .int .u64 0]) (by kernel_rfl) rfl
theorem Ty.ag14 : Agg Try.prog 14 2 := Agg.of Try.underlying14 rfl (by kernel_rfl)
theorem Ty.gt14 : Try.prog.eqGuardType Try.prog.depth 14 = false := by kernel_rfl
theorem Ty.fd14_0 : Fld Try.prog 14 0 0 := Fld.of (n := 0) Try.underlying14 rfl rfl (by kernel_rfl)  -- msg
theorem Ty.fd14_1 : Fld Try.prog 14 1 1 := Fld.of (n := 0) Try.underlying14 rfl rfl (by kernel_rfl)  -- addr
theorem Ty.ze14 : Zero Try.prog 14 [.string ⟨#[]⟩, .int .u64 0] := Zero.of (z := .agg #[.string ⟨#[]⟩, .int .u64 0]) (by kernel_rfl) rfl
theorem Ty.sc15 : Scalar Try.prog 15 := Scalar.of Try.underlying15 rfl (by kernel_rfl)
theorem Ty.ze15 : Zero Try.prog 15 [.pointer none] := Zero.of (z := .pointer none) (by kernel_rfl) rfl
theorem Ty.sc16 : Scalar Try.prog 16 := Scalar.of Try.underlying16 rfl (by kernel_rfl)
theorem Ty.ze16 : Zero Try.prog 16 [.pointer none] := Zero.of (z := .pointer none) (by kernel_rfl) rfl
theorem Ty.sc17 : Scalar Try.prog 17 := Scalar.of Try.underlying17 rfl (by kernel_rfl)
theorem Ty.ze17 : Zero Try.prog 17 [.pointer none] := Zero.of (z := .pointer none) (by kernel_rfl) rfl
theorem Ty.ag18 : Agg Try.prog 18 1 := Agg.of Try.underlying18 rfl (by kernel_rfl)
theorem Ty.gt18 : Try.prog.eqGuardType Try.prog.depth 18 = false := by kernel_rfl
theorem Ty.fd18_0 : Fld Try.prog 18 0 0 := Fld.of (n := 0) Try.underlying18 rfl rfl (by kernel_rfl)  -- typ
theorem Ty.ze18 : Zero Try.prog 18 [.pointer none] := Zero.of (z := .agg #[.pointer none]) (by kernel_rfl) rfl
theorem Ty.ag19 : Agg Try.prog 19 1 := Agg.of Try.underlying19 rfl (by kernel_rfl)
theorem Ty.gt19 : Try.prog.eqGuardType Try.prog.depth 19 = false := by kernel_rfl
theorem Ty.fd19_0 : Fld Try.prog 19 0 0 := Fld.of (n := 0) Try.underlying19 rfl rfl (by kernel_rfl)  -- typ
theorem Ty.ze19 : Zero Try.prog 19 [.pointer none] := Zero.of (z := .agg #[.pointer none]) (by kernel_rfl) rfl
theorem Ty.sc20 : Scalar Try.prog 20 := Scalar.of Try.underlying20 rfl (by kernel_rfl)
theorem Ty.ze20 : Zero Try.prog 20 [.nilIface] := Zero.of (z := .nilIface) (by kernel_rfl) rfl
theorem Ty.sc21 : Scalar Try.prog 21 := Scalar.of Try.underlying21 rfl (by kernel_rfl)
theorem Ty.ze21 : Zero Try.prog 21 [.int .i32 0] := Zero.of (z := .int .i32 0) (by kernel_rfl) rfl
theorem Ty.sc22 : Scalar Try.prog 22 := Scalar.of Try.underlying22 rfl (by kernel_rfl)
theorem Ty.el22 : (Try.prog.info? 30).map (·.size) = some 6 := by kernel_rfl
theorem Ty.zo22 : Zone Try.prog 30 := by unfold Zone; kernel_rfl
theorem Ty.em22 : Elem Try.prog 30 6 32 := Elem.of (by kernel_rfl)
theorem Ty.ze22 : Zero Try.prog 22 [.slice none 0 0] := Zero.of (z := .slice none 0 0) (by kernel_rfl) rfl
theorem Ty.sc23 : Scalar Try.prog 23 := Scalar.of Try.underlying23 rfl (by kernel_rfl)
theorem Ty.ze23 : Zero Try.prog 23 [.int .u64 0] := Zero.of (z := .int .u64 0) (by kernel_rfl) rfl
theorem Ty.sc24 : Scalar Try.prog 24 := Scalar.of Try.underlying24 rfl (by kernel_rfl)
theorem Ty.ze24 : Zero Try.prog 24 [.nilFunc] := Zero.of (z := .nilFunc) (by kernel_rfl) rfl
theorem Ty.sc25 : Scalar Try.prog 25 := Scalar.of Try.underlying25 rfl (by kernel_rfl)
theorem Ty.ze25 : Zero Try.prog 25 [.pointer none] := Zero.of (z := .pointer none) (by kernel_rfl) rfl
theorem Ty.sc26 : Scalar Try.prog 26 := Scalar.of Try.underlying26 rfl (by kernel_rfl)
theorem Ty.ze26 : Zero Try.prog 26 [.nilFunc] := Zero.of (z := .nilFunc) (by kernel_rfl) rfl
theorem Ty.ag27 : Agg Try.prog 27 2 := Agg.of Try.underlying27 rfl (by kernel_rfl)
theorem Ty.gt27 : Try.prog.eqGuardType Try.prog.depth 27 = false := by kernel_rfl
theorem Ty.fd27_0 : Fld Try.prog 27 0 0 := Fld.of (n := 0) Try.underlying27 rfl rfl (by kernel_rfl)  -- From
theorem Ty.fd27_1 : Fld Try.prog 27 1 1 := Fld.of (n := 0) Try.underlying27 rfl rfl (by kernel_rfl)  -- To
theorem Ty.ze27 : Zero Try.prog 27 [.int .u64 0, .int .u64 0] := Zero.of (z := .agg #[.int .u64 0, .int .u64 0]) (by kernel_rfl) rfl
theorem Ty.ag28 : Agg Try.prog 28 2 := Agg.of Try.underlying28 rfl (by kernel_rfl)
theorem Ty.gt28 : Try.prog.eqGuardType Try.prog.depth 28 = false := by kernel_rfl
theorem Ty.fd28_0 : Fld Try.prog 28 0 0 := Fld.of (n := 0) Try.underlying28 rfl rfl (by kernel_rfl)  -- From
theorem Ty.fd28_1 : Fld Try.prog 28 1 1 := Fld.of (n := 0) Try.underlying28 rfl rfl (by kernel_rfl)  -- To
theorem Ty.ze28 : Zero Try.prog 28 [.int .u64 0, .int .u64 0] := Zero.of (z := .agg #[.int .u64 0, .int .u64 0]) (by kernel_rfl) rfl
theorem Ty.ag29 : Agg Try.prog 29 6 := Agg.of Try.underlying29 rfl (by kernel_rfl)
theorem Ty.gt29 : Try.prog.eqGuardType Try.prog.depth 29 = false := by kernel_rfl
theorem Ty.fd29_0 : Fld Try.prog 29 0 0 := Fld.of (n := 0) Try.underlying29 rfl rfl (by kernel_rfl)  -- Kind
theorem Ty.fd29_1 : Fld Try.prog 29 1 1 := Fld.of (n := 0) Try.underlying29 rfl rfl (by kernel_rfl)  -- From
theorem Ty.fd29_2 : Fld Try.prog 29 2 2 := Fld.of (n := 0) Try.underlying29 rfl rfl (by kernel_rfl)  -- Long
theorem Ty.fd29_3 : Fld Try.prog 29 3 3 := Fld.of (n := 1) Try.underlying29 rfl rfl (by kernel_rfl)  -- Any
theorem Ty.fd29_4 : Fld Try.prog 29 4 5 := Fld.of (n := 0) Try.underlying29 rfl rfl (by kernel_rfl)  -- Raw
theorem Ty.ze29 : Zero Try.prog 29 [.int .u8 0, .int .u8 0, .int .u8 0, .int .u64 0, .int .u64 0, .bool false] := Zero.of (z := .agg #[.int .u8 0, .int .u8 0, .int .u8 0, .int .u64 0, .int .u64 0, .bool false]) (by kernel_rfl) rfl
theorem Ty.ag30 : Agg Try.prog 30 6 := Agg.of Try.underlying30 rfl (by kernel_rfl)
theorem Ty.gt30 : Try.prog.eqGuardType Try.prog.depth 30 = false := by kernel_rfl
theorem Ty.fd30_0 : Fld Try.prog 30 0 0 := Fld.of (n := 0) Try.underlying30 rfl rfl (by kernel_rfl)  -- Kind
theorem Ty.fd30_1 : Fld Try.prog 30 1 1 := Fld.of (n := 0) Try.underlying30 rfl rfl (by kernel_rfl)  -- From
theorem Ty.fd30_2 : Fld Try.prog 30 2 2 := Fld.of (n := 0) Try.underlying30 rfl rfl (by kernel_rfl)  -- Long
theorem Ty.fd30_3 : Fld Try.prog 30 3 3 := Fld.of (n := 1) Try.underlying30 rfl rfl (by kernel_rfl)  -- Any
theorem Ty.fd30_4 : Fld Try.prog 30 4 5 := Fld.of (n := 0) Try.underlying30 rfl rfl (by kernel_rfl)  -- Raw
theorem Ty.ze30 : Zero Try.prog 30 [.int .u8 0, .int .u8 0, .int .u8 0, .int .u64 0, .int .u64 0, .bool false] := Zero.of (z := .agg #[.int .u8 0, .int .u8 0, .int .u8 0, .int .u64 0, .int .u64 0, .bool false]) (by kernel_rfl) rfl
theorem Ty.sc31 : Scalar Try.prog 31 := Scalar.of Try.underlying31 rfl (by kernel_rfl)
theorem Ty.ze31 : Zero Try.prog 31 [.int .i64 0] := Zero.of (z := .int .i64 0) (by kernel_rfl) rfl
theorem Ty.sc32 : Scalar Try.prog 32 := Scalar.of Try.underlying32 rfl (by kernel_rfl)
theorem Ty.ze32 : Zero Try.prog 32 [.nilFunc] := Zero.of (z := .nilFunc) (by kernel_rfl) rfl
theorem Ty.sc33 : Scalar Try.prog 33 := Scalar.of Try.underlying33 rfl (by kernel_rfl)
theorem Ty.ze33 : Zero Try.prog 33 [.nilFunc] := Zero.of (z := .nilFunc) (by kernel_rfl) rfl
theorem Ty.sc34 : Scalar Try.prog 34 := Scalar.of Try.underlying34 rfl (by kernel_rfl)
theorem Ty.el34 : (Try.prog.info? 28).map (·.size) = some 2 := by kernel_rfl
theorem Ty.zo34 : Zone Try.prog 28 := by unfold Zone; kernel_rfl
theorem Ty.em34 : Elem Try.prog 28 2 16 := Elem.of (by kernel_rfl)
theorem Ty.ze34 : Zero Try.prog 34 [.slice none 0 0] := Zero.of (z := .slice none 0 0) (by kernel_rfl) rfl
theorem Ty.sc35 : Scalar Try.prog 35 := Scalar.of Try.underlying35 rfl (by kernel_rfl)
theorem Ty.ze35 : Zero Try.prog 35 [.nilFunc] := Zero.of (z := .nilFunc) (by kernel_rfl) rfl
theorem Ty.sc36 : Scalar Try.prog 36 := Scalar.of Try.underlying36 rfl (by kernel_rfl)
theorem Ty.ze36 : Zero Try.prog 36 [.nilFunc] := Zero.of (z := .nilFunc) (by kernel_rfl) rfl
theorem Ty.sc37 : Scalar Try.prog 37 := Scalar.of Try.underlying37 rfl (by kernel_rfl)
theorem Ty.ze37 : Zero Try.prog 37 [.nilFunc] := Zero.of (z := .nilFunc) (by kernel_rfl) rfl
theorem Ty.sc38 : Scalar Try.prog 38 := Scalar.of Try.underlying38 rfl (by kernel_rfl)
theorem Ty.ze38 : Zero Try.prog 38 [.nilFunc] := Zero.of (z := .nilFunc) (by kernel_rfl) rfl
theorem Ty.sc39 : Scalar Try.prog 39 := Scalar.of Try.underlying39 rfl (by kernel_rfl)
theorem Ty.ze39 : Zero Try.prog 39 [.nilFunc] := Zero.of (z := .nilFunc) (by kernel_rfl) rfl
theorem Ty.sc40 : Scalar Try.prog 40 := Scalar.of Try.underlying40 rfl (by kernel_rfl)
theorem Ty.ze40 : Zero Try.prog 40 [.nilFunc] := Zero.of (z := .nilFunc) (by kernel_rfl) rfl
theorem Ty.sc41 : Scalar Try.prog 41 := Scalar.of Try.underlying41 rfl (by kernel_rfl)
theorem Ty.ze41 : Zero Try.prog 41 [.nilFunc] := Zero.of (z := .nilFunc) (by kernel_rfl) rfl
theorem Ty.sc42 : Scalar Try.prog 42 := Scalar.of Try.underlying42 rfl (by kernel_rfl)
theorem Ty.el42 : (Try.prog.info? 23).map (·.size) = some 1 := by kernel_rfl
theorem Ty.zo42 : Zone Try.prog 23 := by unfold Zone; kernel_rfl
theorem Ty.em42 : Elem Try.prog 23 1 8 := Elem.of (by kernel_rfl)
theorem Ty.ze42 : Zero Try.prog 42 [.slice none 0 0] := Zero.of (z := .slice none 0 0) (by kernel_rfl) rfl
theorem Ty.sc43 : Scalar Try.prog 43 := Scalar.of Try.underlying43 rfl (by kernel_rfl)
theorem Ty.el43 : (Try.prog.info? 45).map (·.size) = some 2 := by kernel_rfl
theorem Ty.zo43 : Zone Try.prog 45 := by unfold Zone; kernel_rfl
theorem Ty.em43 : Elem Try.prog 45 2 16 := Elem.of (by kernel_rfl)
theorem Ty.ze43 : Zero Try.prog 43 [.slice none 0 0] := Zero.of (z := .slice none 0 0) (by kernel_rfl) rfl
theorem Ty.sc44 : Scalar Try.prog 44 := Scalar.of Try.underlying44 rfl (by kernel_rfl)
theorem Ty.ze44 : Zero Try.prog 44 [.nilFunc] := Zero.of (z := .nilFunc) (by kernel_rfl) rfl
theorem Ty.ag45 : Agg Try.prog 45 2 := Agg.of Try.underlying45 rfl (by kernel_rfl)
theorem Ty.gt45 : Try.prog.eqGuardType Try.prog.depth 45 = false := by kernel_rfl
theorem Ty.fd45_0 : Fld Try.prog 45 0 0 := Fld.of (n := 0) Try.underlying45 rfl rfl (by kernel_rfl)  -- From
theorem Ty.fd45_1 : Fld Try.prog 45 1 1 := Fld.of (n := 0) Try.underlying45 rfl rfl (by kernel_rfl)  -- To
theorem Ty.ze45 : Zero Try.prog 45 [.int .u64 0, .int .u64 0] := Zero.of (z := .agg #[.int .u64 0, .int .u64 0]) (by kernel_rfl) rfl
theorem Ty.sc46 : Scalar Try.prog 46 := Scalar.of Try.underlying46 rfl (by kernel_rfl)
theorem Ty.ze46 : Zero Try.prog 46 [.nilFunc] := Zero.of (z := .nilFunc) (by kernel_rfl) rfl
theorem Ty.sc47 : Scalar Try.prog 47 := Scalar.of Try.underlying47 rfl (by kernel_rfl)
theorem Ty.ze47 : Zero Try.prog 47 [.nilFunc] := Zero.of (z := .nilFunc) (by kernel_rfl) rfl
theorem Ty.sc48 : Scalar Try.prog 48 := Scalar.of Try.underlying48 rfl (by kernel_rfl)
theorem Ty.ze48 : Zero Try.prog 48 [.nilFunc] := Zero.of (z := .nilFunc) (by kernel_rfl) rfl
theorem Ty.sc49 : Scalar Try.prog 49 := Scalar.of Try.underlying49 rfl (by kernel_rfl)
theorem Ty.ze49 : Zero Try.prog 49 [.nilFunc] := Zero.of (z := .nilFunc) (by kernel_rfl) rfl
theorem Ty.sc51 : Scalar Try.prog 51 := Scalar.of Try.underlying51 rfl (by kernel_rfl)
theorem Ty.ze51 : Zero Try.prog 51 [.nilFunc] := Zero.of (z := .nilFunc) (by kernel_rfl) rfl
theorem Ty.sc52 : Scalar Try.prog 52 := Scalar.of Try.underlying52 rfl (by kernel_rfl)
theorem Ty.ze52 : Zero Try.prog 52 [.nilFunc] := Zero.of (z := .nilFunc) (by kernel_rfl) rfl
theorem Ty.sc53 : Scalar Try.prog 53 := Scalar.of Try.underlying53 rfl (by kernel_rfl)
theorem Ty.ze53 : Zero Try.prog 53 [.nilFunc] := Zero.of (z := .nilFunc) (by kernel_rfl) rfl
theorem Ty.sc54 : Scalar Try.prog 54 := Scalar.of Try.underlying54 rfl (by kernel_rfl)
theorem Ty.ze54 : Zero Try.prog 54 [.nilFunc] := Zero.of (z := .nilFunc) (by kernel_rfl) rfl
theorem Ty.sc55 : Scalar Try.prog 55 := Scalar.of Try.underlying55 rfl (by kernel_rfl)
theorem Ty.ze55 : Zero Try.prog 55 [.nilFunc] := Zero.of (z := .nilFunc) (by kernel_rfl) rfl
theorem Ty.sc56 : Scalar Try.prog 56 := Scalar.of Try.underlying56 rfl (by kernel_rfl)
theorem Ty.ze56 : Zero Try.prog 56 [.nilFunc] := Zero.of (z := .nilFunc) (by kernel_rfl) rfl
theorem Ty.sc57 : Scalar Try.prog 57 := Scalar.of Try.underlying57 rfl (by kernel_rfl)
theorem Ty.el57 : (Try.prog.info? 5).map (·.size) = some 1 := by kernel_rfl
theorem Ty.zo57 : Zone Try.prog 5 := by unfold Zone; kernel_rfl
theorem Ty.em57 : Elem Try.prog 5 1 1 := Elem.of (by kernel_rfl)
theorem Ty.ze57 : Zero Try.prog 57 [.slice none 0 0] := Zero.of (z := .slice none 0 0) (by kernel_rfl) rfl
theorem Ty.sc58 : Scalar Try.prog 58 := Scalar.of Try.underlying58 rfl (by kernel_rfl)
theorem Ty.ze58 : Zero Try.prog 58 [.pointer none] := Zero.of (z := .pointer none) (by kernel_rfl) rfl
theorem Ty.sc59 : Scalar Try.prog 59 := Scalar.of Try.underlying59 rfl (by kernel_rfl)
theorem Ty.ze59 : Zero Try.prog 59 [.nilFunc] := Zero.of (z := .nilFunc) (by kernel_rfl) rfl
theorem Ty.sc61 : Scalar Try.prog 61 := Scalar.of Try.underlying61 rfl (by kernel_rfl)
theorem Ty.ze61 : Zero Try.prog 61 [.nilFunc] := Zero.of (z := .nilFunc) (by kernel_rfl) rfl
theorem Ty.sc62 : Scalar Try.prog 62 := Scalar.of Try.underlying62 rfl (by kernel_rfl)
theorem Ty.ze62 : Zero Try.prog 62 [.nilFunc] := Zero.of (z := .nilFunc) (by kernel_rfl) rfl
theorem Ty.ag63 : Agg Try.prog 63 3 := Agg.of Try.underlying63 rfl (by kernel_rfl)
theorem Ty.gt63 : Try.prog.eqGuardType Try.prog.depth 63 = false := by kernel_rfl
theorem Ty.fd63_0 : Fld Try.prog 63 0 0 := Fld.of (n := 0) Try.underlying63 rfl rfl (by kernel_rfl)  -- At
theorem Ty.fd63_1 : Fld Try.prog 63 1 1 := Fld.of (n := 0) Try.underlying63 rfl rfl (by kernel_rfl)  -- Data
theorem Ty.fd63_2 : Fld Try.prog 63 2 2 := Fld.of (n := 0) Try.underlying63 rfl rfl (by kernel_rfl)  -- Fin
theorem Ty.ze63 : Zero Try.prog 63 [.int .u64 0, .slice none 0 0, .bool false] := Zero.of (z := .agg #[.int .u64 0, .slice none 0 0, .bool false]) (by kernel_rfl) rfl
theorem Ty.ag64 : Agg Try.prog 64 3 := Agg.of Try.underlying64 rfl (by kernel_rfl)
theorem Ty.gt64 : Try.prog.eqGuardType Try.prog.depth 64 = false := by kernel_rfl
theorem Ty.fd64_0 : Fld Try.prog 64 0 0 := Fld.of (n := 0) Try.underlying64 rfl rfl (by kernel_rfl)  -- At
theorem Ty.fd64_1 : Fld Try.prog 64 1 1 := Fld.of (n := 0) Try.underlying64 rfl rfl (by kernel_rfl)  -- Data
theorem Ty.fd64_2 : Fld Try.prog 64 2 2 := Fld.of (n := 0) Try.underlying64 rfl rfl (by kernel_rfl)  -- Fin
theorem Ty.ze64 : Zero Try.prog 64 [.int .u64 0, .slice none 0 0, .bool false] := Zero.of (z := .agg #[.int .u64 0, .slice none 0 0, .bool false]) (by kernel_rfl) rfl
theorem Ty.sc66 : Scalar Try.prog 66 := Scalar.of Try.underlying66 rfl (by kernel_rfl)
theorem Ty.ze66 : Zero Try.prog 66 [.nilFunc] := Zero.of (z := .nilFunc) (by kernel_rfl) rfl
theorem Ty.sc67 : Scalar Try.prog 67 := Scalar.of Try.underlying67 rfl (by kernel_rfl)
theorem Ty.ze67 : Zero Try.prog 67 [.nilFunc] := Zero.of (z := .nilFunc) (by kernel_rfl) rfl
theorem Ty.sc68 : Scalar Try.prog 68 := Scalar.of Try.underlying68 rfl (by kernel_rfl)
theorem Ty.ze68 : Zero Try.prog 68 [.nilFunc] := Zero.of (z := .nilFunc) (by kernel_rfl) rfl
theorem Ty.sc69 : Scalar Try.prog 69 := Scalar.of Try.underlying69 rfl (by kernel_rfl)
theorem Ty.el69 : (Try.prog.info? 71).map (·.size) = some 2 := by kernel_rfl
theorem Ty.zo69 : Zone Try.prog 71 := by unfold Zone; kernel_rfl
theorem Ty.em69 : Elem Try.prog 71 2 16 := Elem.of (by kernel_rfl)
theorem Ty.ze69 : Zero Try.prog 69 [.slice none 0 0] := Zero.of (z := .slice none 0 0) (by kernel_rfl) rfl
theorem Ty.ag70 : Agg Try.prog 70 2 := Agg.of Try.underlying70 rfl (by kernel_rfl)
theorem Ty.gt70 : Try.prog.eqGuardType Try.prog.depth 70 = false := by kernel_rfl
theorem Ty.fd70_0 : Fld Try.prog 70 0 0 := Fld.of (n := 0) Try.underlying70 rfl rfl (by kernel_rfl)  -- from
theorem Ty.fd70_1 : Fld Try.prog 70 1 1 := Fld.of (n := 0) Try.underlying70 rfl rfl (by kernel_rfl)  -- to
theorem Ty.ze70 : Zero Try.prog 70 [.int .i64 0, .int .i64 0] := Zero.of (z := .agg #[.int .i64 0, .int .i64 0]) (by kernel_rfl) rfl
theorem Ty.ag71 : Agg Try.prog 71 2 := Agg.of Try.underlying71 rfl (by kernel_rfl)
theorem Ty.gt71 : Try.prog.eqGuardType Try.prog.depth 71 = false := by kernel_rfl
theorem Ty.fd71_0 : Fld Try.prog 71 0 0 := Fld.of (n := 0) Try.underlying71 rfl rfl (by kernel_rfl)  -- from
theorem Ty.fd71_1 : Fld Try.prog 71 1 1 := Fld.of (n := 0) Try.underlying71 rfl rfl (by kernel_rfl)  -- to
theorem Ty.ze71 : Zero Try.prog 71 [.int .i64 0, .int .i64 0] := Zero.of (z := .agg #[.int .i64 0, .int .i64 0]) (by kernel_rfl) rfl
theorem Ty.sc72 : Scalar Try.prog 72 := Scalar.of Try.underlying72 rfl (by kernel_rfl)
theorem Ty.ze72 : Zero Try.prog 72 [.pointer none] := Zero.of (z := .pointer none) (by kernel_rfl) rfl
theorem Ty.sc73 : Scalar Try.prog 73 := Scalar.of Try.underlying73 rfl (by kernel_rfl)
theorem Ty.ze73 : Zero Try.prog 73 [.nilFunc] := Zero.of (z := .nilFunc) (by kernel_rfl) rfl
theorem Ty.sc75 : Scalar Try.prog 75 := Scalar.of Try.underlying75 rfl (by kernel_rfl)
theorem Ty.ze75 : Zero Try.prog 75 [.nilFunc] := Zero.of (z := .nilFunc) (by kernel_rfl) rfl
theorem Ty.sc77 : Scalar Try.prog 77 := Scalar.of Try.underlying77 rfl (by kernel_rfl)
theorem Ty.ze77 : Zero Try.prog 77 [.nilFunc] := Zero.of (z := .nilFunc) (by kernel_rfl) rfl
theorem Ty.sc78 : Scalar Try.prog 78 := Scalar.of Try.underlying78 rfl (by kernel_rfl)
theorem Ty.ze78 : Zero Try.prog 78 [.nilFunc] := Zero.of (z := .nilFunc) (by kernel_rfl) rfl
theorem Ty.sc79 : Scalar Try.prog 79 := Scalar.of Try.underlying79 rfl (by kernel_rfl)
theorem Ty.ze79 : Zero Try.prog 79 [.pointer none] := Zero.of (z := .pointer none) (by kernel_rfl) rfl
theorem Ty.sc80 : Scalar Try.prog 80 := Scalar.of Try.underlying80 rfl (by kernel_rfl)
theorem Ty.ze80 : Zero Try.prog 80 [.nilFunc] := Zero.of (z := .nilFunc) (by kernel_rfl) rfl
theorem Ty.sc81 : Scalar Try.prog 81 := Scalar.of Try.underlying81 rfl (by kernel_rfl)
theorem Ty.ze81 : Zero Try.prog 81 [.map none] := Zero.of (z := .map none) (by kernel_rfl) rfl
theorem Ty.sc82 : Scalar Try.prog 82 := Scalar.of Try.underlying82 rfl (by kernel_rfl)
theorem Ty.ze82 : Zero Try.prog 82 [.nilFunc] := Zero.of (z := .nilFunc) (by kernel_rfl) rfl
theorem Ty.sc83 : Scalar Try.prog 83 := Scalar.of Try.underlying83 rfl (by kernel_rfl)
theorem Ty.ze83 : Zero Try.prog 83 [.nilFunc] := Zero.of (z := .nilFunc) (by kernel_rfl) rfl
theorem Ty.sc85 : Scalar Try.prog 85 := Scalar.of Try.underlying85 rfl (by kernel_rfl)
theorem Ty.ze85 : Zero Try.prog 85 [.nilFunc] := Zero.of (z := .nilFunc) (by kernel_rfl) rfl
theorem Ty.sc86 : Scalar Try.prog 86 := Scalar.of Try.underlying86 rfl (by kernel_rfl)
theorem Ty.ze86 : Zero Try.prog 86 [.nilFunc] := Zero.of (z := .nilFunc) (by kernel_rfl) rfl
theorem Ty.sc87 : Scalar Try.prog 87 := Scalar.of Try.underlying87 rfl (by kernel_rfl)
theorem Ty.ze87 : Zero Try.prog 87 [.nilFunc] := Zero.of (z := .nilFunc) (by kernel_rfl) rfl
theorem Ty.sc88 : Scalar Try.prog 88 := Scalar.of Try.underlying88 rfl (by kernel_rfl)
theorem Ty.ze88 : Zero Try.prog 88 [.nilFunc] := Zero.of (z := .nilFunc) (by kernel_rfl) rfl
theorem Ty.sc89 : Scalar Try.prog 89 := Scalar.of Try.underlying89 rfl (by kernel_rfl)
theorem Ty.ze89 : Zero Try.prog 89 [.int .u32 0] := Zero.of (z := .int .u32 0) (by kernel_rfl) rfl
theorem Ty.sc91 : Scalar Try.prog 91 := Scalar.of Try.underlying91 rfl (by kernel_rfl)
theorem Ty.ze91 : Zero Try.prog 91 [.nilFunc] := Zero.of (z := .nilFunc) (by kernel_rfl) rfl
theorem Ty.sc92 : Scalar Try.prog 92 := Scalar.of Try.underlying92 rfl (by kernel_rfl)
theorem Ty.ze92 : Zero Try.prog 92 [.nilFunc] := Zero.of (z := .nilFunc) (by kernel_rfl) rfl
theorem Ty.sc93 : Scalar Try.prog 93 := Scalar.of Try.underlying93 rfl (by kernel_rfl)
theorem Ty.ze93 : Zero Try.prog 93 [.nilFunc] := Zero.of (z := .nilFunc) (by kernel_rfl) rfl
theorem Ty.sc94 : Scalar Try.prog 94 := Scalar.of Try.underlying94 rfl (by kernel_rfl)
theorem Ty.el94 : (Try.prog.info? 4).map (·.size) = some 1 := by kernel_rfl
theorem Ty.zo94 : Zone Try.prog 4 := by unfold Zone; kernel_rfl
theorem Ty.em94 : Elem Try.prog 4 1 1 := Elem.of (by kernel_rfl)
theorem Ty.ze94 : Zero Try.prog 94 [.slice none 0 0] := Zero.of (z := .slice none 0 0) (by kernel_rfl) rfl
theorem Ty.sc95 : Scalar Try.prog 95 := Scalar.of Try.underlying95 rfl (by kernel_rfl)
theorem Ty.ze95 : Zero Try.prog 95 [.nilFunc] := Zero.of (z := .nilFunc) (by kernel_rfl) rfl
theorem Ty.sc96 : Scalar Try.prog 96 := Scalar.of Try.underlying96 rfl (by kernel_rfl)
theorem Ty.ze96 : Zero Try.prog 96 [.nilFunc] := Zero.of (z := .nilFunc) (by kernel_rfl) rfl
theorem Ty.sc97 : Scalar Try.prog 97 := Scalar.of Try.underlying97 rfl (by kernel_rfl)
theorem Ty.el97 : (Try.prog.info? 101).map (·.size) = some 7 := by kernel_rfl
theorem Ty.zo97 : Zone Try.prog 101 := by unfold Zone; kernel_rfl
theorem Ty.em97 : Elem Try.prog 101 7 56 := Elem.of (by kernel_rfl)
theorem Ty.ze97 : Zero Try.prog 97 [.slice none 0 0] := Zero.of (z := .slice none 0 0) (by kernel_rfl) rfl
theorem Ty.sc98 : Scalar Try.prog 98 := Scalar.of Try.underlying98 rfl (by kernel_rfl)
theorem Ty.el98 : (Try.prog.info? 103).map (·.size) = some 2 := by kernel_rfl
theorem Ty.zo98 : Zone Try.prog 103 := by unfold Zone; kernel_rfl
theorem Ty.em98 : Elem Try.prog 103 2 2 := Elem.of (by kernel_rfl)
theorem Ty.ze98 : Zero Try.prog 98 [.slice none 0 0] := Zero.of (z := .slice none 0 0) (by kernel_rfl) rfl
theorem Ty.sc99 : Scalar Try.prog 99 := Scalar.of Try.underlying99 rfl (by kernel_rfl)
theorem Ty.el99 : (Try.prog.info? 64).map (·.size) = some 3 := by kernel_rfl
theorem Ty.zo99 : Zone Try.prog 64 := by unfold Zone; kernel_rfl
theorem Ty.em99 : Elem Try.prog 64 3 40 := Elem.of (by kernel_rfl)
theorem Ty.ze99 : Zero Try.prog 99 [.slice none 0 0] := Zero.of (z := .slice none 0 0) (by kernel_rfl) rfl
theorem Ty.ag100 : Agg Try.prog 100 7 := Agg.of Try.underlying100 rfl (by kernel_rfl)
theorem Ty.gt100 : Try.prog.eqGuardType Try.prog.depth 100 = false := by kernel_rfl
theorem Ty.fd100_0 : Fld Try.prog 100 0 0 := Fld.of (n := 0) Try.underlying100 rfl rfl (by kernel_rfl)  -- Kind
theorem Ty.fd100_1 : Fld Try.prog 100 1 1 := Fld.of (n := 0) Try.underlying100 rfl rfl (by kernel_rfl)  -- N
theorem Ty.fd100_2 : Fld Try.prog 100 2 2 := Fld.of (n := 0) Try.underlying100 rfl rfl (by kernel_rfl)  -- Long
theorem Ty.fd100_3 : Fld Try.prog 100 3 3 := Fld.of (n := 0) Try.underlying100 rfl rfl (by kernel_rfl)  -- Data
theorem Ty.fd100_4 : Fld Try.prog 100 4 4 := Fld.of (n := 0) Try.underlying100 rfl rfl (by kernel_rfl)  -- Any
theorem Ty.fd100_5 : Fld Try.prog 100 5 5 := Fld.of (n := 0) Try.underlying100 rfl rfl (by kernel_rfl)  -- Size
theorem Ty.fd100_6 : Fld Try.prog 100 6 6 := Fld.of (n := 0) Try.underlying100 rfl rfl (by kernel_rfl)  -- Raw
theorem Ty.ze100 : Zero Try.prog 100 [.int .u8 0, .int .u8 0, .int .u8 0, .slice none 0 0, .int .u64 0, .int .i64 0, .bool false] := Zero.of (z := .agg #[.int .u8 0, .int .u8 0, .int .u8 0, .slice none 0 0, .int .u64 0, .int .i64 0, .bool false]) (by kernel_rfl) rfl
theorem Ty.ag101 : Agg Try.prog 101 7 := Agg.of Try.underlying101 rfl (by kernel_rfl)
theorem Ty.gt101 : Try.prog.eqGuardType Try.prog.depth 101 = false := by kernel_rfl
theorem Ty.fd101_0 : Fld Try.prog 101 0 0 := Fld.of (n := 0) Try.underlying101 rfl rfl (by kernel_rfl)  -- Kind
theorem Ty.fd101_1 : Fld Try.prog 101 1 1 := Fld.of (n := 0) Try.underlying101 rfl rfl (by kernel_rfl)  -- N
theorem Ty.fd101_2 : Fld Try.prog 101 2 2 := Fld.of (n := 0) Try.underlying101 rfl rfl (by kernel_rfl)  -- Long
theorem Ty.fd101_3 : Fld Try.prog 101 3 3 := Fld.of (n := 0) Try.underlying101 rfl rfl (by kernel_rfl)  -- Data
theorem Ty.fd101_4 : Fld Try.prog 101 4 4 := Fld.of (n := 0) Try.underlying101 rfl rfl (by kernel_rfl)  -- Any
theorem Ty.fd101_5 : Fld Try.prog 101 5 5 := Fld.of (n := 0) Try.underlying101 rfl rfl (by kernel_rfl)  -- Size
theorem Ty.fd101_6 : Fld Try.prog 101 6 6 := Fld.of (n := 0) Try.underlying101 rfl rfl (by kernel_rfl)  -- Raw
theorem Ty.ze101 : Zero Try.prog 101 [.int .u8 0, .int .u8 0, .int .u8 0, .slice none 0 0, .int .u64 0, .int .i64 0, .bool false] := Zero.of (z := .agg #[.int .u8 0, .int .u8 0, .int .u8 0, .slice none 0 0, .int .u64 0, .int .i64 0, .bool false]) (by kernel_rfl) rfl
theorem Ty.ag102 : Agg Try.prog 102 2 := Agg.of Try.underlying102 rfl (by kernel_rfl)
theorem Ty.gt102 : Try.prog.eqGuardType Try.prog.depth 102 = false := by kernel_rfl
theorem Ty.fd102_0 : Fld Try.prog 102 0 0 := Fld.of (n := 0) Try.underlying102 rfl rfl (by kernel_rfl)  -- c
theorem Ty.fd102_1 : Fld Try.prog 102 1 1 := Fld.of (n := 0) Try.underlying102 rfl rfl (by kernel_rfl)  -- state
theorem Ty.ze102 : Zero Try.prog 102 [.int .u8 0, .int .u8 0] := Zero.of (z := .agg #[.int .u8 0, .int .u8 0]) (by kernel_rfl) rfl
theorem Ty.ag103 : Agg Try.prog 103 2 := Agg.of Try.underlying103 rfl (by kernel_rfl)
theorem Ty.gt103 : Try.prog.eqGuardType Try.prog.depth 103 = false := by kernel_rfl
theorem Ty.fd103_0 : Fld Try.prog 103 0 0 := Fld.of (n := 0) Try.underlying103 rfl rfl (by kernel_rfl)  -- c
theorem Ty.fd103_1 : Fld Try.prog 103 1 1 := Fld.of (n := 0) Try.underlying103 rfl rfl (by kernel_rfl)  -- state
theorem Ty.ze103 : Zero Try.prog 103 [.int .u8 0, .int .u8 0] := Zero.of (z := .agg #[.int .u8 0, .int .u8 0]) (by kernel_rfl) rfl
theorem Ty.sc105 : Scalar Try.prog 105 := Scalar.of Try.underlying105 rfl (by kernel_rfl)
theorem Ty.ze105 : Zero Try.prog 105 [.nilFunc] := Zero.of (z := .nilFunc) (by kernel_rfl) rfl
theorem Ty.sc106 : Scalar Try.prog 106 := Scalar.of Try.underlying106 rfl (by kernel_rfl)
theorem Ty.ze106 : Zero Try.prog 106 [.nilFunc] := Zero.of (z := .nilFunc) (by kernel_rfl) rfl
theorem Ty.sc107 : Scalar Try.prog 107 := Scalar.of Try.underlying107 rfl (by kernel_rfl)
theorem Ty.el107 : (Try.prog.info? 108).map (·.size) = some 1 := by kernel_rfl
theorem Ty.zo107 : Zone Try.prog 108 := by unfold Zone; kernel_rfl
theorem Ty.em107 : Elem Try.prog 108 1 2 := Elem.of (by kernel_rfl)
theorem Ty.ze107 : Zero Try.prog 107 [.slice none 0 0] := Zero.of (z := .slice none 0 0) (by kernel_rfl) rfl
theorem Ty.sc108 : Scalar Try.prog 108 := Scalar.of Try.underlying108 rfl (by kernel_rfl)
theorem Ty.ze108 : Zero Try.prog 108 [.int .u16 0] := Zero.of (z := .int .u16 0) (by kernel_rfl) rfl
theorem Ty.sc109 : Scalar Try.prog 109 := Scalar.of Try.underlying109 rfl (by kernel_rfl)
theorem Ty.ze109 : Zero Try.prog 109 [.int .u8 0] := Zero.of (z := .int .u8 0) (by kernel_rfl) rfl
theorem Ty.ag110 : Agg Try.prog 110 3 := Agg.of Try.underlying110 rfl (by kernel_rfl)
theorem Ty.gt110 : Try.prog.eqGuardType Try.prog.depth 110 = false := by kernel_rfl
theorem Ty.el110 : (Try.prog.info? 23).map (·.size) = some 1 := by kernel_rfl
theorem Ty.em110 : Elem Try.prog 23 1 8 := Elem.of (by kernel_rfl)
theorem Ty.ze110 : Zero Try.prog 110 [.int .u64 0, .int .u64 0, .int .u64 0] := Zero.of (z := .agg #[.int .u64 0, .int .u64 0, .int .u64 0]) (by kernel_rfl) rfl
theorem Ty.ag111 : Agg Try.prog 111 16 := Agg.of Try.underlying111 rfl (by kernel_rfl)
theorem Ty.gt111 : Try.prog.eqGuardType Try.prog.depth 111 = false := by kernel_rfl
theorem Ty.el111 : (Try.prog.info? 5).map (·.size) = some 1 := by kernel_rfl
theorem Ty.em111 : Elem Try.prog 5 1 1 := Elem.of (by kernel_rfl)
theorem Ty.ze111 : Zero Try.prog 111 [.int .u8 0, .int .u8 0, .int .u8 0, .int .u8 0, .int .u8 0, .int .u8 0, .int .u8 0, .int .u8 0, .int .u8 0, .int .u8 0, .int .u8 0, .int .u8 0, .int .u8 0, .int .u8 0, .int .u8 0, .int .u8 0] := Zero.of (z := .agg #[.int .u8 0, .int .u8 0, .int .u8 0, .int .u8 0, .int .u8 0, .int .u8 0, .int .u8 0, .int .u8 0, .int .u8 0, .int .u8 0, .int .u8 0, .int .u8 0, .int .u8 0, .int .u8 0, .int .u8 0, .int .u8 0]) (by kernel_rfl) rfl
theorem Ty.ag112 : Agg Try.prog 112 8 := Agg.of Try.underlying112 rfl (by kernel_rfl)
theorem Ty.gt112 : Try.prog.eqGuardType Try.prog.depth 112 = false := by kernel_rfl
theorem Ty.el112 : (Try.prog.info? 5).map (·.size) = some 1 := by kernel_rfl
theorem Ty.em112 : Elem Try.prog 5 1 1 := Elem.of (by kernel_rfl)
theorem Ty.ze112 : Zero Try.prog 112 [.int .u8 0, .int .u8 0, .int .u8 0, .int .u8 0, .int .u8 0, .int .u8 0, .int .u8 0, .int .u8 0] := Zero.of (z := .agg #[.int .u8 0, .int .u8 0, .int .u8 0, .int .u8 0, .int .u8 0, .int .u8 0, .int .u8 0, .int .u8 0]) (by kernel_rfl) rfl
theorem Ty.ag113 : Agg Try.prog 113 39 := Agg.of Try.underlying113 rfl (by kernel_rfl)
theorem Ty.gt113 : Try.prog.eqGuardType Try.prog.depth 113 = false := by kernel_rfl
theorem Ty.fd113_0 : Fld Try.prog 113 0 0 := Fld.of (n := 0) Try.underlying113 rfl rfl (by kernel_rfl)  -- Kind
theorem Ty.fd113_1 : Fld Try.prog 113 1 1 := Fld.of (n := 0) Try.underlying113 rfl rfl (by kernel_rfl)  -- Stream
theorem Ty.fd113_2 : Fld Try.prog 113 2 2 := Fld.of (n := 0) Try.underlying113 rfl rfl (by kernel_rfl)  -- Offset
theorem Ty.fd113_3 : Fld Try.prog 113 3 3 := Fld.of (n := 0) Try.underlying113 rfl rfl (by kernel_rfl)  -- Limit
theorem Ty.fd113_4 : Fld Try.prog 113 4 4 := Fld.of (n := 0) Try.underlying113 rfl rfl (by kernel_rfl)  -- Code
theorem Ty.fd113_5 : Fld Try.prog 113 5 5 := Fld.of (n := 0) Try.underlying113 rfl rfl (by kernel_rfl)  -- Data
theorem Ty.fd113_6 : Fld Try.prog 113 6 6 := Fld.of (n := 0) Try.underlying113 rfl rfl (by kernel_rfl)  -- Fin
theorem Ty.fd113_7 : Fld Try.prog 113 7 7 := Fld.of (n := 0) Try.underlying113 rfl rfl (by kernel_rfl)  -- Ranges
theorem Ty.fd113_8 : Fld Try.prog 113 8 8 := Fld.of (n := 0) Try.underlying113 rfl rfl (by kernel_rfl)  -- Delay
theorem Ty.fd113_9 : Fld Try.prog 113 9 9 := Fld.of (n := 2) Try.underlying113 rfl rfl (by kernel_rfl)  -- Ecn
theorem Ty.fd113_10 : Fld Try.prog 113 10 12 := Fld.of (n := 0) Try.underlying113 rfl rfl (by kernel_rfl)  -- Seq
theorem Ty.fd113_11 : Fld Try.prog 113 11 13 := Fld.of (n := 0) Try.underlying113 rfl rfl (by kernel_rfl)  -- Prior
theorem Ty.fd113_12 : Fld Try.prog 113 12 14 := Fld.of (n := 0) Try.underlying113 rfl rfl (by kernel_rfl)  -- Id
theorem Ty.fd113_13 : Fld Try.prog 113 13 15 := Fld.of (n := 15) Try.underlying113 rfl rfl (by kernel_rfl)  -- Token
theorem Ty.fd113_14 : Fld Try.prog 113 14 31 := Fld.of (n := 7) Try.underlying113 rfl rfl (by kernel_rfl)  -- Word
theorem Ty.ze113 : Zero Try.prog 113 [.int .u8 0, .int .u64 0, .int .u64 0, .int .u64 0, .int .u64 0, .slice none 0 0, .bool false, .slice none 0 0, .int .u64 0, .int .u64 0, .int .u64 0, .int .u64 0, .int .u64 0, .int .u64 0, .slice none 0 0, .int .u8 0, .int .u8 0, .int .u8 0, .int .u8 0, .int .u8 0, .int .u8 0, .int .u8 0, .int .u8 0, .int .u8 0, .int .u8 0, .int .u8 0, .int .u8 0, .int .u8 0, .int .u8 0, .int .u8 0, .int .u8 0, .int .u8 0, .int .u8 0, .int .u8 0, .int .u8 0, .int .u8 0, .int .u8 0, .int .u8 0, .int .u8 0] := Zero.of (z := .agg #[.int .u8 0, .int .u64 0, .int .u64 0, .int .u64 0, .int .u64 0, .slice none 0 0, .bool false, .slice none 0 0, .int .u64 0, .int .u64 0, .int .u64 0, .int .u64 0, .int .u64 0, .int .u64 0, .slice none 0 0, .int .u8 0, .int .u8 0, .int .u8 0, .int .u8 0, .int .u8 0, .int .u8 0, .int .u8 0, .int .u8 0, .int .u8 0, .int .u8 0, .int .u8 0, .int .u8 0, .int .u8 0, .int .u8 0, .int .u8 0, .int .u8 0, .int .u8 0, .int .u8 0, .int .u8 0, .int .u8 0, .int .u8 0, .int .u8 0, .int .u8 0, .int .u8 0]) (by kernel_rfl) rfl
theorem Ty.ag114 : Agg Try.prog 114 39 := Agg.of Try.underlying114 rfl (by kernel_rfl)
theorem Ty.gt114 : Try.prog.eqGuardType Try.prog.depth 114 = false := by kernel_rfl
theorem Ty.fd114_0 : Fld Try.prog 114 0 0 := Fld.of (n := 0) Try.underlying114 rfl rfl (by kernel_rfl)  -- Kind
theorem Ty.fd114_1 : Fld Try.prog 114 1 1 := Fld.of (n := 0) Try.underlying114 rfl rfl (by kernel_rfl)  -- Stream
theorem Ty.fd114_2 : Fld Try.prog 114 2 2 := Fld.of (n := 0) Try.underlying114 rfl rfl (by kernel_rfl)  -- Offset
theorem Ty.fd114_3 : Fld Try.prog 114 3 3 := Fld.of (n := 0) Try.underlying114 rfl rfl (by kernel_rfl)  -- Limit
theorem Ty.fd114_4 : Fld Try.prog 114 4 4 := Fld.of (n := 0) Try.underlying114 rfl rfl (by kernel_rfl)  -- Code
theorem Ty.fd114_5 : Fld Try.prog 114 5 5 := Fld.of (n := 0) Try.underlying114 rfl rfl (by kernel_rfl)  -- Data
theorem Ty.fd114_6 : Fld Try.prog 114 6 6 := Fld.of (n := 0) Try.underlying114 rfl rfl (by kernel_rfl)  -- Fin
theorem Ty.fd114_7 : Fld Try.prog 114 7 7 := Fld.of (n := 0) Try.underlying114 rfl rfl (by kernel_rfl)  -- Ranges
theorem Ty.fd114_8 : Fld Try.prog 114 8 8 := Fld.of (n := 0) Try.underlying114 rfl rfl (by kernel_rfl)  -- Delay
theorem Ty.fd114_9 : Fld Try.prog 114 9 9 := Fld.of (n := 2) Try.underlying114 rfl rfl (by kernel_rfl)  -- Ecn
theorem Ty.fd114_10 : Fld Try.prog 114 10 12 := Fld.of (n := 0) Try.underlying114 rfl rfl (by kernel_rfl)  -- Seq
theorem Ty.fd114_11 : Fld Try.prog 114 11 13 := Fld.of (n := 0) Try.underlying114 rfl rfl (by kernel_rfl)  -- Prior
theorem Ty.fd114_12 : Fld Try.prog 114 12 14 := Fld.of (n := 0) Try.underlying114 rfl rfl (by kernel_rfl)  -- Id
theorem Ty.fd114_13 : Fld Try.prog 114 13 15 := Fld.of (n := 15) Try.underlying114 rfl rfl (by kernel_rfl)  -- Token
theorem Ty.fd114_14 : Fld Try.prog 114 14 31 := Fld.of (n := 7) Try.underlying114 rfl rfl (by kernel_rfl)  -- Word
theorem Ty.ze114 : Zero Try.prog 114 [.int .u8 0, .int .u64 0, .int .u64 0, .int .u64 0, .int .u64 0, .slice none 0 0, .bool false, .slice none 0 0, .int .u64 0, .int .u64 0, .int .u64 0, .int .u64 0, .int .u64 0, .int .u64 0, .slice none 0 0, .int .u8 0, .int .u8 0, .int .u8 0, .int .u8 0, .int .u8 0, .int .u8 0, .int .u8 0, .int .u8 0, .int .u8 0, .int .u8 0, .int .u8 0, .int .u8 0, .int .u8 0, .int .u8 0, .int .u8 0, .int .u8 0, .int .u8 0, .int .u8 0, .int .u8 0, .int .u8 0, .int .u8 0, .int .u8 0, .int .u8 0, .int .u8 0] := Zero.of (z := .agg #[.int .u8 0, .int .u64 0, .int .u64 0, .int .u64 0, .int .u64 0, .slice none 0 0, .bool false, .slice none 0 0, .int .u64 0, .int .u64 0, .int .u64 0, .int .u64 0, .int .u64 0, .int .u64 0, .slice none 0 0, .int .u8 0, .int .u8 0, .int .u8 0, .int .u8 0, .int .u8 0, .int .u8 0, .int .u8 0, .int .u8 0, .int .u8 0, .int .u8 0, .int .u8 0, .int .u8 0, .int .u8 0, .int .u8 0, .int .u8 0, .int .u8 0, .int .u8 0, .int .u8 0, .int .u8 0, .int .u8 0, .int .u8 0, .int .u8 0, .int .u8 0, .int .u8 0]) (by kernel_rfl) rfl
theorem Ty.sc116 : Scalar Try.prog 116 := Scalar.of Try.underlying116 rfl (by kernel_rfl)
theorem Ty.ze116 : Zero Try.prog 116 [.nilFunc] := Zero.of (z := .nilFunc) (by kernel_rfl) rfl
theorem Ty.sc118 : Scalar Try.prog 118 := Scalar.of Try.underlying118 rfl (by kernel_rfl)
theorem Ty.ze118 : Zero Try.prog 118 [.nilFunc] := Zero.of (z := .nilFunc) (by kernel_rfl) rfl
theorem Ty.sc119 : Scalar Try.prog 119 := Scalar.of Try.underlying119 rfl (by kernel_rfl)
theorem Ty.el119 : (Try.prog.info? 114).map (·.size) = some 39 := by kernel_rfl
theorem Ty.zo119 : Zone Try.prog 114 := by unfold Zone; kernel_rfl
theorem Ty.em119 : Elem Try.prog 114 39 192 := Elem.of (by kernel_rfl)
theorem Ty.ze119 : Zero Try.prog 119 [.slice none 0 0] := Zero.of (z := .slice none 0 0) (by kernel_rfl) rfl
theorem Ty.sc121 : Scalar Try.prog 121 := Scalar.of Try.underlying121 rfl (by kernel_rfl)
theorem Ty.ze121 : Zero Try.prog 121 [.nilFunc] := Zero.of (z := .nilFunc) (by kernel_rfl) rfl
theorem Ty.sc122 : Scalar Try.prog 122 := Scalar.of Try.underlying122 rfl (by kernel_rfl)
theorem Ty.ze122 : Zero Try.prog 122 [.nilFunc] := Zero.of (z := .nilFunc) (by kernel_rfl) rfl
theorem Ty.sc123 : Scalar Try.prog 123 := Scalar.of Try.underlying123 rfl (by kernel_rfl)
theorem Ty.ze123 : Zero Try.prog 123 [.nilFunc] := Zero.of (z := .nilFunc) (by kernel_rfl) rfl
theorem Ty.ag124 : Agg Try.prog 124 2 := Agg.of Try.underlying124 rfl (by kernel_rfl)
theorem Ty.gt124 : Try.prog.eqGuardType Try.prog.depth 124 = false := by kernel_rfl
theorem Ty.fd124_0 : Fld Try.prog 124 0 0 := Fld.of (n := 0) Try.underlying124 rfl rfl (by kernel_rfl)  -- limit
theorem Ty.fd124_1 : Fld Try.prog 124 1 1 := Fld.of (n := 0) Try.underlying124 rfl rfl (by kernel_rfl)  -- list
theorem Ty.ze124 : Zero Try.prog 124 [.int .i64 0, .slice none 0 0] := Zero.of (z := .agg #[.int .i64 0, .slice none 0 0]) (by kernel_rfl) rfl
theorem Ty.ag125 : Agg Try.prog 125 2 := Agg.of Try.underlying125 rfl (by kernel_rfl)
theorem Ty.gt125 : Try.prog.eqGuardType Try.prog.depth 125 = false := by kernel_rfl
theorem Ty.fd125_0 : Fld Try.prog 125 0 0 := Fld.of (n := 0) Try.underlying125 rfl rfl (by kernel_rfl)  -- limit
theorem Ty.fd125_1 : Fld Try.prog 125 1 1 := Fld.of (n := 0) Try.underlying125 rfl rfl (by kernel_rfl)  -- list
theorem Ty.ze125 : Zero Try.prog 125 [.int .i64 0, .slice none 0 0] := Zero.of (z := .agg #[.int .i64 0, .slice none 0 0]) (by kernel_rfl) rfl
theorem Ty.sc127 : Scalar Try.prog 127 := Scalar.of Try.underlying127 rfl (by kernel_rfl)
theorem Ty.ze127 : Zero Try.prog 127 [.nilFunc] := Zero.of (z := .nilFunc) (by kernel_rfl) rfl
theorem Ty.sc128 : Scalar Try.prog 128 := Scalar.of Try.underlying128 rfl (by kernel_rfl)
theorem Ty.ze128 : Zero Try.prog 128 [.nilFunc] := Zero.of (z := .nilFunc) (by kernel_rfl) rfl
theorem Ty.sc129 : Scalar Try.prog 129 := Scalar.of Try.underlying129 rfl (by kernel_rfl)
theorem Ty.ze129 : Zero Try.prog 129 [.nilFunc] := Zero.of (z := .nilFunc) (by kernel_rfl) rfl
theorem Ty.sc130 : Scalar Try.prog 130 := Scalar.of Try.underlying130 rfl (by kernel_rfl)
theorem Ty.ze130 : Zero Try.prog 130 [.nilFunc] := Zero.of (z := .nilFunc) (by kernel_rfl) rfl
theorem Ty.sc131 : Scalar Try.prog 131 := Scalar.of Try.underlying131 rfl (by kernel_rfl)
theorem Ty.ze131 : Zero Try.prog 131 [.nilFunc] := Zero.of (z := .nilFunc) (by kernel_rfl) rfl
theorem Ty.ag132 : Agg Try.prog 132 7 := Agg.of Try.underlying132 rfl (by kernel_rfl)
theorem Ty.gt132 : Try.prog.eqGuardType Try.prog.depth 132 = false := by kernel_rfl
theorem Ty.fd132_0 : Fld Try.prog 132 0 0 := Fld.of (n := 0) Try.underlying132 rfl rfl (by kernel_rfl)  -- data
theorem Ty.fd132_1 : Fld Try.prog 132 1 1 := Fld.of (n := 0) Try.underlying132 rfl rfl (by kernel_rfl)  -- base
theorem Ty.fd132_2 : Fld Try.prog 132 2 2 := Fld.of (n := 0) Try.underlying132 rfl rfl (by kernel_rfl)  -- pending
theorem Ty.fd132_3 : Fld Try.prog 132 3 3 := Fld.of (n := 0) Try.underlying132 rfl rfl (by kernel_rfl)  -- came
theorem Ty.fd132_4 : Fld Try.prog 132 4 4 := Fld.of (n := 0) Try.underlying132 rfl rfl (by kernel_rfl)  -- finished
theorem Ty.fd132_5 : Fld Try.prog 132 5 5 := Fld.of (n := 0) Try.underlying132 rfl rfl (by kernel_rfl)  -- endWaits
theorem Ty.fd132_6 : Fld Try.prog 132 6 6 := Fld.of (n := 0) Try.underlying132 rfl rfl (by kernel_rfl)  -- endCame
theorem Ty.ze132 : Zero Try.prog 132 [.slice none 0 0, .int .u64 0, .pointer none, .pointer none, .bool false, .bool false, .bool false] := Zero.of (z := .agg #[.slice none 0 0, .int .u64 0, .pointer none, .pointer none, .bool false, .bool false, .bool false]) (by kernel_rfl) rfl
theorem Ty.ag133 : Agg Try.prog 133 7 := Agg.of Try.underlying133 rfl (by kernel_rfl)
theorem Ty.gt133 : Try.prog.eqGuardType Try.prog.depth 133 = false := by kernel_rfl
theorem Ty.fd133_0 : Fld Try.prog 133 0 0 := Fld.of (n := 0) Try.underlying133 rfl rfl (by kernel_rfl)  -- data
theorem Ty.fd133_1 : Fld Try.prog 133 1 1 := Fld.of (n := 0) Try.underlying133 rfl rfl (by kernel_rfl)  -- base
theorem Ty.fd133_2 : Fld Try.prog 133 2 2 := Fld.of (n := 0) Try.underlying133 rfl rfl (by kernel_rfl)  -- pending
theorem Ty.fd133_3 : Fld Try.prog 133 3 3 := Fld.of (n := 0) Try.underlying133 rfl rfl (by kernel_rfl)  -- came
theorem Ty.fd133_4 : Fld Try.prog 133 4 4 := Fld.of (n := 0) Try.underlying133 rfl rfl (by kernel_rfl)  -- finished
theorem Ty.fd133_5 : Fld Try.prog 133 5 5 := Fld.of (n := 0) Try.underlying133 rfl rfl (by kernel_rfl)  -- endWaits
theorem Ty.fd133_6 : Fld Try.prog 133 6 6 := Fld.of (n := 0) Try.underlying133 rfl rfl (by kernel_rfl)  -- endCame
theorem Ty.ze133 : Zero Try.prog 133 [.slice none 0 0, .int .u64 0, .pointer none, .pointer none, .bool false, .bool false, .bool false] := Zero.of (z := .agg #[.slice none 0 0, .int .u64 0, .pointer none, .pointer none, .bool false, .bool false, .bool false]) (by kernel_rfl) rfl
theorem Ty.sc134 : Scalar Try.prog 134 := Scalar.of Try.underlying134 rfl (by kernel_rfl)
theorem Ty.ze134 : Zero Try.prog 134 [.nilFunc] := Zero.of (z := .nilFunc) (by kernel_rfl) rfl
theorem Ty.sc135 : Scalar Try.prog 135 := Scalar.of Try.underlying135 rfl (by kernel_rfl)
theorem Ty.ze135 : Zero Try.prog 135 [.map none] := Zero.of (z := .map none) (by kernel_rfl) rfl
theorem Ty.ag136 : Agg Try.prog 136 6 := Agg.of Try.underlying136 rfl (by kernel_rfl)
theorem Ty.gt136 : Try.prog.eqGuardType Try.prog.depth 136 = false := by kernel_rfl
theorem Ty.fd136_0 : Fld Try.prog 136 0 0 := Fld.of (n := 0) Try.underlying136 rfl rfl (by kernel_rfl)  -- read
theorem Ty.fd136_1 : Fld Try.prog 136 1 1 := Fld.of (n := 0) Try.underlying136 rfl rfl (by kernel_rfl)  -- high
theorem Ty.fd136_2 : Fld Try.prog 136 2 2 := Fld.of (n := 0) Try.underlying136 rfl rfl (by kernel_rfl)  -- final
theorem Ty.fd136_3 : Fld Try.prog 136 3 3 := Fld.of (n := 0) Try.underlying136 rfl rfl (by kernel_rfl)  -- known
theorem Ty.fd136_4 : Fld Try.prog 136 4 4 := Fld.of (n := 0) Try.underlying136 rfl rfl (by kernel_rfl)  -- places
theorem Ty.fd136_5 : Fld Try.prog 136 5 5 := Fld.of (n := 0) Try.underlying136 rfl rfl (by kernel_rfl)  -- bytes
theorem Ty.ze136 : Zero Try.prog 136 [.int .u64 0, .int .u64 0, .int .u64 0, .bool false, .pointer none, .map none] := Zero.of (z := .agg #[.int .u64 0, .int .u64 0, .int .u64 0, .bool false, .pointer none, .map none]) (by kernel_rfl) rfl
theorem Ty.ag137 : Agg Try.prog 137 6 := Agg.of Try.underlying137 rfl (by kernel_rfl)
theorem Ty.gt137 : Try.prog.eqGuardType Try.prog.depth 137 = false := by kernel_rfl
theorem Ty.fd137_0 : Fld Try.prog 137 0 0 := Fld.of (n := 0) Try.underlying137 rfl rfl (by kernel_rfl)  -- read
theorem Ty.fd137_1 : Fld Try.prog 137 1 1 := Fld.of (n := 0) Try.underlying137 rfl rfl (by kernel_rfl)  -- high
theorem Ty.fd137_2 : Fld Try.prog 137 2 2 := Fld.of (n := 0) Try.underlying137 rfl rfl (by kernel_rfl)  -- final
theorem Ty.fd137_3 : Fld Try.prog 137 3 3 := Fld.of (n := 0) Try.underlying137 rfl rfl (by kernel_rfl)  -- known
theorem Ty.fd137_4 : Fld Try.prog 137 4 4 := Fld.of (n := 0) Try.underlying137 rfl rfl (by kernel_rfl)  -- places
theorem Ty.fd137_5 : Fld Try.prog 137 5 5 := Fld.of (n := 0) Try.underlying137 rfl rfl (by kernel_rfl)  -- bytes
theorem Ty.ze137 : Zero Try.prog 137 [.int .u64 0, .int .u64 0, .int .u64 0, .bool false, .pointer none, .map none] := Zero.of (z := .agg #[.int .u64 0, .int .u64 0, .int .u64 0, .bool false, .pointer none, .map none]) (by kernel_rfl) rfl
theorem Ty.sc138 : Scalar Try.prog 138 := Scalar.of Try.underlying138 rfl (by kernel_rfl)
theorem Ty.ze138 : Zero Try.prog 138 [.nilFunc] := Zero.of (z := .nilFunc) (by kernel_rfl) rfl
theorem Ty.sc139 : Scalar Try.prog 139 := Scalar.of Try.underlying139 rfl (by kernel_rfl)
theorem Ty.ze139 : Zero Try.prog 139 [.nilFunc] := Zero.of (z := .nilFunc) (by kernel_rfl) rfl
theorem Ty.ag140 : Agg Try.prog 140 8 := Agg.of Try.underlying140 rfl (by kernel_rfl)
theorem Ty.gt140 : Try.prog.eqGuardType Try.prog.depth 140 = false := by kernel_rfl
theorem Ty.fd140_0 : Fld Try.prog 140 0 0 := Fld.of (n := 0) Try.underlying140 rfl rfl (by kernel_rfl)  -- delay
theorem Ty.fd140_1 : Fld Try.prog 140 1 1 := Fld.of (n := 0) Try.underlying140 rfl rfl (by kernel_rfl)  -- ranges
theorem Ty.fd140_2 : Fld Try.prog 140 2 2 := Fld.of (n := 0) Try.underlying140 rfl rfl (by kernel_rfl)  -- below
theorem Ty.fd140_3 : Fld Try.prog 140 3 3 := Fld.of (n := 0) Try.underlying140 rfl rfl (by kernel_rfl)  -- some
theorem Ty.fd140_4 : Fld Try.prog 140 4 4 := Fld.of (n := 0) Try.underlying140 rfl rfl (by kernel_rfl)  -- greatest
theorem Ty.fd140_5 : Fld Try.prog 140 5 5 := Fld.of (n := 0) Try.underlying140 rfl rfl (by kernel_rfl)  -- at
theorem Ty.fd140_6 : Fld Try.prog 140 6 6 := Fld.of (n := 0) Try.underlying140 rfl rfl (by kernel_rfl)  -- wanted
theorem Ty.fd140_7 : Fld Try.prog 140 7 7 := Fld.of (n := 0) Try.underlying140 rfl rfl (by kernel_rfl)  -- due
theorem Ty.ze140 : Zero Try.prog 140 [.int .u64 0, .pointer none, .int .u64 0, .bool false, .int .u64 0, .int .u64 0, .bool false, .int .u64 0] := Zero.of (z := .agg #[.int .u64 0, .pointer none, .int .u64 0, .bool false, .int .u64 0, .int .u64 0, .bool false, .int .u64 0]) (by kernel_rfl) rfl
theorem Ty.ag141 : Agg Try.prog 141 8 := Agg.of Try.underlying141 rfl (by kernel_rfl)
theorem Ty.gt141 : Try.prog.eqGuardType Try.prog.depth 141 = false := by kernel_rfl
theorem Ty.fd141_0 : Fld Try.prog 141 0 0 := Fld.of (n := 0) Try.underlying141 rfl rfl (by kernel_rfl)  -- delay
theorem Ty.fd141_1 : Fld Try.prog 141 1 1 := Fld.of (n := 0) Try.underlying141 rfl rfl (by kernel_rfl)  -- ranges
theorem Ty.fd141_2 : Fld Try.prog 141 2 2 := Fld.of (n := 0) Try.underlying141 rfl rfl (by kernel_rfl)  -- below
theorem Ty.fd141_3 : Fld Try.prog 141 3 3 := Fld.of (n := 0) Try.underlying141 rfl rfl (by kernel_rfl)  -- some
theorem Ty.fd141_4 : Fld Try.prog 141 4 4 := Fld.of (n := 0) Try.underlying141 rfl rfl (by kernel_rfl)  -- greatest
theorem Ty.fd141_5 : Fld Try.prog 141 5 5 := Fld.of (n := 0) Try.underlying141 rfl rfl (by kernel_rfl)  -- at
theorem Ty.fd141_6 : Fld Try.prog 141 6 6 := Fld.of (n := 0) Try.underlying141 rfl rfl (by kernel_rfl)  -- wanted
theorem Ty.fd141_7 : Fld Try.prog 141 7 7 := Fld.of (n := 0) Try.underlying141 rfl rfl (by kernel_rfl)  -- due
theorem Ty.ze141 : Zero Try.prog 141 [.int .u64 0, .pointer none, .int .u64 0, .bool false, .int .u64 0, .int .u64 0, .bool false, .int .u64 0] := Zero.of (z := .agg #[.int .u64 0, .pointer none, .int .u64 0, .bool false, .int .u64 0, .int .u64 0, .bool false, .int .u64 0]) (by kernel_rfl) rfl
theorem Ty.sc142 : Scalar Try.prog 142 := Scalar.of Try.underlying142 rfl (by kernel_rfl)
theorem Ty.ze142 : Zero Try.prog 142 [.nilFunc] := Zero.of (z := .nilFunc) (by kernel_rfl) rfl
theorem Ty.sc143 : Scalar Try.prog 143 := Scalar.of Try.underlying143 rfl (by kernel_rfl)
theorem Ty.ze143 : Zero Try.prog 143 [.nilFunc] := Zero.of (z := .nilFunc) (by kernel_rfl) rfl
theorem Ty.sc144 : Scalar Try.prog 144 := Scalar.of Try.underlying144 rfl (by kernel_rfl)
theorem Ty.ze144 : Zero Try.prog 144 [.nilFunc] := Zero.of (z := .nilFunc) (by kernel_rfl) rfl
theorem Ty.sc145 : Scalar Try.prog 145 := Scalar.of Try.underlying145 rfl (by kernel_rfl)
theorem Ty.ze145 : Zero Try.prog 145 [.nilFunc] := Zero.of (z := .nilFunc) (by kernel_rfl) rfl
theorem Ty.sc146 : Scalar Try.prog 146 := Scalar.of Try.underlying146 rfl (by kernel_rfl)
theorem Ty.ze146 : Zero Try.prog 146 [.pointer none] := Zero.of (z := .pointer none) (by kernel_rfl) rfl
theorem Ty.sc147 : Scalar Try.prog 147 := Scalar.of Try.underlying147 rfl (by kernel_rfl)
theorem Ty.ze147 : Zero Try.prog 147 [.nilFunc] := Zero.of (z := .nilFunc) (by kernel_rfl) rfl
theorem Ty.sc148 : Scalar Try.prog 148 := Scalar.of Try.underlying148 rfl (by kernel_rfl)
theorem Ty.ze148 : Zero Try.prog 148 [.nilFunc] := Zero.of (z := .nilFunc) (by kernel_rfl) rfl
theorem Ty.sc149 : Scalar Try.prog 149 := Scalar.of Try.underlying149 rfl (by kernel_rfl)
theorem Ty.ze149 : Zero Try.prog 149 [.nilFunc] := Zero.of (z := .nilFunc) (by kernel_rfl) rfl
theorem Ty.sc150 : Scalar Try.prog 150 := Scalar.of Try.underlying150 rfl (by kernel_rfl)
theorem Ty.ze150 : Zero Try.prog 150 [.nilFunc] := Zero.of (z := .nilFunc) (by kernel_rfl) rfl
theorem Ty.sc151 : Scalar Try.prog 151 := Scalar.of Try.underlying151 rfl (by kernel_rfl)
theorem Ty.ze151 : Zero Try.prog 151 [.nilFunc] := Zero.of (z := .nilFunc) (by kernel_rfl) rfl
theorem Ty.sc152 : Scalar Try.prog 152 := Scalar.of Try.underlying152 rfl (by kernel_rfl)
theorem Ty.ze152 : Zero Try.prog 152 [.nilFunc] := Zero.of (z := .nilFunc) (by kernel_rfl) rfl
theorem Ty.sc153 : Scalar Try.prog 153 := Scalar.of Try.underlying153 rfl (by kernel_rfl)
theorem Ty.ze153 : Zero Try.prog 153 [.nilFunc] := Zero.of (z := .nilFunc) (by kernel_rfl) rfl
theorem Ty.sc154 : Scalar Try.prog 154 := Scalar.of Try.underlying154 rfl (by kernel_rfl)
theorem Ty.ze154 : Zero Try.prog 154 [.nilFunc] := Zero.of (z := .nilFunc) (by kernel_rfl) rfl
theorem Ty.sc155 : Scalar Try.prog 155 := Scalar.of Try.underlying155 rfl (by kernel_rfl)
theorem Ty.ze155 : Zero Try.prog 155 [.nilFunc] := Zero.of (z := .nilFunc) (by kernel_rfl) rfl
theorem Ty.ag157 : Agg Try.prog 157 2 := Agg.of Try.underlying157 rfl (by kernel_rfl)
theorem Ty.gt157 : Try.prog.eqGuardType Try.prog.depth 157 = false := by kernel_rfl
theorem Ty.fd157_0 : Fld Try.prog 157 0 0 := Fld.of (n := 0) Try.underlying157 rfl rfl (by kernel_rfl)  -- list
theorem Ty.fd157_1 : Fld Try.prog 157 1 1 := Fld.of (n := 0) Try.underlying157 rfl rfl (by kernel_rfl)  -- err
theorem Ty.ze157 : Zero Try.prog 157 [.slice none 0 0, .int .i64 0] := Zero.of (z := .agg #[.slice none 0 0, .int .i64 0]) (by kernel_rfl) rfl
theorem Ty.ag158 : Agg Try.prog 158 2 := Agg.of Try.underlying158 rfl (by kernel_rfl)
theorem Ty.gt158 : Try.prog.eqGuardType Try.prog.depth 158 = false := by kernel_rfl
theorem Ty.fd158_0 : Fld Try.prog 158 0 0 := Fld.of (n := 0) Try.underlying158 rfl rfl (by kernel_rfl)  -- list
theorem Ty.fd158_1 : Fld Try.prog 158 1 1 := Fld.of (n := 0) Try.underlying158 rfl rfl (by kernel_rfl)  -- err
theorem Ty.ze158 : Zero Try.prog 158 [.slice none 0 0, .int .i64 0] := Zero.of (z := .agg #[.slice none 0 0, .int .i64 0]) (by kernel_rfl) rfl
theorem Ty.sc159 : Scalar Try.prog 159 := Scalar.of Try.underlying159 rfl (by kernel_rfl)
theorem Ty.ze159 : Zero Try.prog 159 [.nilFunc] := Zero.of (z := .nilFunc) (by kernel_rfl) rfl
theorem Ty.sc160 : Scalar Try.prog 160 := Scalar.of Try.underlying160 rfl (by kernel_rfl)
theorem Ty.ze160 : Zero Try.prog 160 [.pointer none] := Zero.of (z := .pointer none) (by kernel_rfl) rfl
theorem Ty.sc161 : Scalar Try.prog 161 := Scalar.of Try.underlying161 rfl (by kernel_rfl)
theorem Ty.el161 : (Try.prog.info? 57).map (·.size) = some 1 := by kernel_rfl
theorem Ty.zo161 : Zone Try.prog 57 := by unfold Zone; kernel_rfl
theorem Ty.em161 : Elem Try.prog 57 1 24 := Elem.of (by kernel_rfl)
theorem Ty.ze161 : Zero Try.prog 161 [.slice none 0 0] := Zero.of (z := .slice none 0 0) (by kernel_rfl) rfl
theorem Ty.sc162 : Scalar Try.prog 162 := Scalar.of Try.underlying162 rfl (by kernel_rfl)
theorem Ty.ze162 : Zero Try.prog 162 [.nilFunc] := Zero.of (z := .nilFunc) (by kernel_rfl) rfl
theorem Ty.ag163 : Agg Try.prog 163 2 := Agg.of Try.underlying163 rfl (by kernel_rfl)
theorem Ty.gt163 : Try.prog.eqGuardType Try.prog.depth 163 = false := by kernel_rfl
theorem Ty.fd163_0 : Fld Try.prog 163 0 0 := Fld.of (n := 0) Try.underlying163 rfl rfl (by kernel_rfl)  -- rest
theorem Ty.fd163_1 : Fld Try.prog 163 1 1 := Fld.of (n := 0) Try.underlying163 rfl rfl (by kernel_rfl)  -- err
theorem Ty.ze163 : Zero Try.prog 163 [.slice none 0 0, .int .i64 0] := Zero.of (z := .agg #[.slice none 0 0, .int .i64 0]) (by kernel_rfl) rfl
theorem Ty.ag164 : Agg Try.prog 164 2 := Agg.of Try.underlying164 rfl (by kernel_rfl)
theorem Ty.gt164 : Try.prog.eqGuardType Try.prog.depth 164 = false := by kernel_rfl
theorem Ty.fd164_0 : Fld Try.prog 164 0 0 := Fld.of (n := 0) Try.underlying164 rfl rfl (by kernel_rfl)  -- rest
theorem Ty.fd164_1 : Fld Try.prog 164 1 1 := Fld.of (n := 0) Try.underlying164 rfl rfl (by kernel_rfl)  -- err
theorem Ty.ze164 : Zero Try.prog 164 [.slice none 0 0, .int .i64 0] := Zero.of (z := .agg #[.slice none 0 0, .int .i64 0]) (by kernel_rfl) rfl
theorem Ty.sc165 : Scalar Try.prog 165 := Scalar.of Try.underlying165 rfl (by kernel_rfl)
theorem Ty.ze165 : Zero Try.prog 165 [.nilFunc] := Zero.of (z := .nilFunc) (by kernel_rfl) rfl
theorem Ty.sc166 : Scalar Try.prog 166 := Scalar.of Try.underlying166 rfl (by kernel_rfl)
theorem Ty.ze166 : Zero Try.prog 166 [.nilFunc] := Zero.of (z := .nilFunc) (by kernel_rfl) rfl
theorem Ty.sc167 : Scalar Try.prog 167 := Scalar.of Try.underlying167 rfl (by kernel_rfl)
theorem Ty.ze167 : Zero Try.prog 167 [.nilFunc] := Zero.of (z := .nilFunc) (by kernel_rfl) rfl
theorem Ty.sc168 : Scalar Try.prog 168 := Scalar.of Try.underlying168 rfl (by kernel_rfl)
theorem Ty.ze168 : Zero Try.prog 168 [.pointer none] := Zero.of (z := .pointer none) (by kernel_rfl) rfl
theorem Ty.sc169 : Scalar Try.prog 169 := Scalar.of Try.underlying169 rfl (by kernel_rfl)
theorem Ty.ze169 : Zero Try.prog 169 [.int .u64 0] := Zero.of (z := .int .u64 0) (by kernel_rfl) rfl
theorem Ty.sc170 : Scalar Try.prog 170 := Scalar.of Try.underlying170 rfl (by kernel_rfl)
theorem Ty.ze170 : Zero Try.prog 170 [.nilFunc] := Zero.of (z := .nilFunc) (by kernel_rfl) rfl
theorem Ty.sc171 : Scalar Try.prog 171 := Scalar.of Try.underlying171 rfl (by kernel_rfl)
theorem Ty.ze171 : Zero Try.prog 171 [.nilFunc] := Zero.of (z := .nilFunc) (by kernel_rfl) rfl
theorem Ty.sc172 : Scalar Try.prog 172 := Scalar.of Try.underlying172 rfl (by kernel_rfl)
theorem Ty.ze172 : Zero Try.prog 172 [.nilFunc] := Zero.of (z := .nilFunc) (by kernel_rfl) rfl
theorem Ty.sc173 : Scalar Try.prog 173 := Scalar.of Try.underlying173 rfl (by kernel_rfl)
theorem Ty.ze173 : Zero Try.prog 173 [.nilFunc] := Zero.of (z := .nilFunc) (by kernel_rfl) rfl
theorem Ty.sc175 : Scalar Try.prog 175 := Scalar.of Try.underlying175 rfl (by kernel_rfl)
theorem Ty.ze175 : Zero Try.prog 175 [.nilFunc] := Zero.of (z := .nilFunc) (by kernel_rfl) rfl
theorem Ty.sc176 : Scalar Try.prog 176 := Scalar.of Try.underlying176 rfl (by kernel_rfl)
theorem Ty.ze176 : Zero Try.prog 176 [.pointer none] := Zero.of (z := .pointer none) (by kernel_rfl) rfl
theorem Ty.sc177 : Scalar Try.prog 177 := Scalar.of Try.underlying177 rfl (by kernel_rfl)
theorem Ty.ze177 : Zero Try.prog 177 [.nilFunc] := Zero.of (z := .nilFunc) (by kernel_rfl) rfl
theorem Ty.sc178 : Scalar Try.prog 178 := Scalar.of Try.underlying178 rfl (by kernel_rfl)
theorem Ty.ze178 : Zero Try.prog 178 [.nilFunc] := Zero.of (z := .nilFunc) (by kernel_rfl) rfl
theorem Ty.sc179 : Scalar Try.prog 179 := Scalar.of Try.underlying179 rfl (by kernel_rfl)
theorem Ty.ze179 : Zero Try.prog 179 [.nilFunc] := Zero.of (z := .nilFunc) (by kernel_rfl) rfl
theorem Ty.sc181 : Scalar Try.prog 181 := Scalar.of Try.underlying181 rfl (by kernel_rfl)
theorem Ty.ze181 : Zero Try.prog 181 [.nilFunc] := Zero.of (z := .nilFunc) (by kernel_rfl) rfl
theorem Ty.sc182 : Scalar Try.prog 182 := Scalar.of Try.underlying182 rfl (by kernel_rfl)
theorem Ty.ze182 : Zero Try.prog 182 [.nilFunc] := Zero.of (z := .nilFunc) (by kernel_rfl) rfl
theorem Ty.sc183 : Scalar Try.prog 183 := Scalar.of Try.underlying183 rfl (by kernel_rfl)
theorem Ty.ze183 : Zero Try.prog 183 [.nilFunc] := Zero.of (z := .nilFunc) (by kernel_rfl) rfl
theorem Ty.sc184 : Scalar Try.prog 184 := Scalar.of Try.underlying184 rfl (by kernel_rfl)
theorem Ty.ze184 : Zero Try.prog 184 [.nilFunc] := Zero.of (z := .nilFunc) (by kernel_rfl) rfl
theorem Ty.sc185 : Scalar Try.prog 185 := Scalar.of Try.underlying185 rfl (by kernel_rfl)
theorem Ty.ze185 : Zero Try.prog 185 [.nilFunc] := Zero.of (z := .nilFunc) (by kernel_rfl) rfl
theorem Ty.ag186 : Agg Try.prog 186 4 := Agg.of Try.underlying186 rfl (by kernel_rfl)
theorem Ty.gt186 : Try.prog.eqGuardType Try.prog.depth 186 = false := by kernel_rfl
theorem Ty.fd186_0 : Fld Try.prog 186 0 0 := Fld.of (n := 0) Try.underlying186 rfl rfl (by kernel_rfl)  -- _interface
theorem Ty.fd186_1 : Fld Try.prog 186 1 1 := Fld.of (n := 0) Try.underlying186 rfl rfl (by kernel_rfl)  -- concrete
theorem Ty.fd186_2 : Fld Try.prog 186 2 2 := Fld.of (n := 0) Try.underlying186 rfl rfl (by kernel_rfl)  -- asserted
theorem Ty.fd186_3 : Fld Try.prog 186 3 3 := Fld.of (n := 0) Try.underlying186 rfl rfl (by kernel_rfl)  -- missingMethod
theorem Ty.ze186 : Zero Try.prog 186 [.pointer none, .pointer none, .pointer none, .string ⟨#[]⟩] := Zero.of (z := .agg #[.pointer none, .pointer none, .pointer none, .string ⟨#[]⟩]) (by kernel_rfl) rfl
theorem Ty.ag187 : Agg Try.prog 187 4 := Agg.of Try.underlying187 rfl (by kernel_rfl)
theorem Ty.gt187 : Try.prog.eqGuardType Try.prog.depth 187 = false := by kernel_rfl
theorem Ty.fd187_0 : Fld Try.prog 187 0 0 := Fld.of (n := 0) Try.underlying187 rfl rfl (by kernel_rfl)  -- _interface
theorem Ty.fd187_1 : Fld Try.prog 187 1 1 := Fld.of (n := 0) Try.underlying187 rfl rfl (by kernel_rfl)  -- concrete
theorem Ty.fd187_2 : Fld Try.prog 187 2 2 := Fld.of (n := 0) Try.underlying187 rfl rfl (by kernel_rfl)  -- asserted
theorem Ty.fd187_3 : Fld Try.prog 187 3 3 := Fld.of (n := 0) Try.underlying187 rfl rfl (by kernel_rfl)  -- missingMethod
theorem Ty.ze187 : Zero Try.prog 187 [.pointer none, .pointer none, .pointer none, .string ⟨#[]⟩] := Zero.of (z := .agg #[.pointer none, .pointer none, .pointer none, .string ⟨#[]⟩]) (by kernel_rfl) rfl
theorem Ty.ag188 : Agg Try.prog 188 0 := Agg.of Try.underlying188 rfl (by kernel_rfl)
theorem Ty.gt188 : Try.prog.eqGuardType Try.prog.depth 188 = false := by kernel_rfl
theorem Ty.el188 : (Try.prog.info? 16).map (·.size) = some 1 := by kernel_rfl
theorem Ty.em188 : Elem Try.prog 16 1 8 := Elem.of (by kernel_rfl)
theorem Ty.ze188 : Zero Try.prog 188 [] := Zero.of (z := .agg #[]) (by kernel_rfl) rfl
theorem Ty.ag189 : Agg Try.prog 189 0 := Agg.of Try.underlying189 rfl (by kernel_rfl)
theorem Ty.gt189 : Try.prog.eqGuardType Try.prog.depth 189 = false := by kernel_rfl
theorem Ty.ze189 : Zero Try.prog 189 [] := Zero.of (z := .agg #[]) (by kernel_rfl) rfl
theorem Ty.ag190 : Agg Try.prog 190 0 := Agg.of Try.underlying190 rfl (by kernel_rfl)
theorem Ty.gt190 : Try.prog.eqGuardType Try.prog.depth 190 = false := by kernel_rfl
theorem Ty.ze190 : Zero Try.prog 190 [] := Zero.of (z := .agg #[]) (by kernel_rfl) rfl
theorem Ty.sc191 : Scalar Try.prog 191 := Scalar.of Try.underlying191 rfl (by kernel_rfl)
theorem Ty.ze191 : Zero Try.prog 191 [.int .u8 0] := Zero.of (z := .int .u8 0) (by kernel_rfl) rfl
theorem Ty.sc192 : Scalar Try.prog 192 := Scalar.of Try.underlying192 rfl (by kernel_rfl)
theorem Ty.ze192 : Zero Try.prog 192 [.int .u8 0] := Zero.of (z := .int .u8 0) (by kernel_rfl) rfl
theorem Ty.sc193 : Scalar Try.prog 193 := Scalar.of Try.underlying193 rfl (by kernel_rfl)
theorem Ty.ze193 : Zero Try.prog 193 [.nilFunc] := Zero.of (z := .nilFunc) (by kernel_rfl) rfl
theorem Ty.sc194 : Scalar Try.prog 194 := Scalar.of Try.underlying194 rfl (by kernel_rfl)
theorem Ty.ze194 : Zero Try.prog 194 [.pointer none] := Zero.of (z := .pointer none) (by kernel_rfl) rfl
theorem Ty.sc195 : Scalar Try.prog 195 := Scalar.of Try.underlying195 rfl (by kernel_rfl)
theorem Ty.ze195 : Zero Try.prog 195 [.int .i32 0] := Zero.of (z := .int .i32 0) (by kernel_rfl) rfl
theorem Ty.sc196 : Scalar Try.prog 196 := Scalar.of Try.underlying196 rfl (by kernel_rfl)
theorem Ty.ze196 : Zero Try.prog 196 [.int .i32 0] := Zero.of (z := .int .i32 0) (by kernel_rfl) rfl
theorem Ty.ag197 : Agg Try.prog 197 11 := Agg.of Try.underlying197 rfl (by kernel_rfl)
theorem Ty.gt197 : Try.prog.eqGuardType Try.prog.depth 197 = false := by kernel_rfl
theorem Ty.fd197_0 : Fld Try.prog 197 0 0 := Fld.of (n := 0) Try.underlying197 rfl rfl (by kernel_rfl)  -- Size_
theorem Ty.fd197_1 : Fld Try.prog 197 1 1 := Fld.of (n := 0) Try.underlying197 rfl rfl (by kernel_rfl)  -- PtrBytes
theorem Ty.fd197_2 : Fld Try.prog 197 2 2 := Fld.of (n := 0) Try.underlying197 rfl rfl (by kernel_rfl)  -- Hash
theorem Ty.fd197_3 : Fld Try.prog 197 3 3 := Fld.of (n := 0) Try.underlying197 rfl rfl (by kernel_rfl)  -- TFlag
theorem Ty.fd197_4 : Fld Try.prog 197 4 4 := Fld.of (n := 0) Try.underlying197 rfl rfl (by kernel_rfl)  -- Align_
theorem Ty.fd197_5 : Fld Try.prog 197 5 5 := Fld.of (n := 0) Try.underlying197 rfl rfl (by kernel_rfl)  -- FieldAlign_
theorem Ty.fd197_6 : Fld Try.prog 197 6 6 := Fld.of (n := 0) Try.underlying197 rfl rfl (by kernel_rfl)  -- Kind_
theorem Ty.fd197_7 : Fld Try.prog 197 7 7 := Fld.of (n := 0) Try.underlying197 rfl rfl (by kernel_rfl)  -- Equal
theorem Ty.fd197_8 : Fld Try.prog 197 8 8 := Fld.of (n := 0) Try.underlying197 rfl rfl (by kernel_rfl)  -- GCData
theorem Ty.fd197_9 : Fld Try.prog 197 9 9 := Fld.of (n := 0) Try.underlying197 rfl rfl (by kernel_rfl)  -- Str
theorem Ty.fd197_10 : Fld Try.prog 197 10 10 := Fld.of (n := 0) Try.underlying197 rfl rfl (by kernel_rfl)  -- PtrToThis
theorem Ty.ze197 : Zero Try.prog 197 [.int .u64 0, .int .u64 0, .int .u32 0, .int .u8 0, .int .u8 0, .int .u8 0, .int .u8 0, .nilFunc, .pointer none, .int .i32 0, .int .i32 0] := Zero.of (z := .agg #[.int .u64 0, .int .u64 0, .int .u32 0, .int .u8 0, .int .u8 0, .int .u8 0, .int .u8 0, .nilFunc, .pointer none, .int .i32 0, .int .i32 0]) (by kernel_rfl) rfl
theorem Ty.ag198 : Agg Try.prog 198 11 := Agg.of Try.underlying198 rfl (by kernel_rfl)
theorem Ty.gt198 : Try.prog.eqGuardType Try.prog.depth 198 = false := by kernel_rfl
theorem Ty.fd198_0 : Fld Try.prog 198 0 0 := Fld.of (n := 0) Try.underlying198 rfl rfl (by kernel_rfl)  -- Size_
theorem Ty.fd198_1 : Fld Try.prog 198 1 1 := Fld.of (n := 0) Try.underlying198 rfl rfl (by kernel_rfl)  -- PtrBytes
theorem Ty.fd198_2 : Fld Try.prog 198 2 2 := Fld.of (n := 0) Try.underlying198 rfl rfl (by kernel_rfl)  -- Hash
theorem Ty.fd198_3 : Fld Try.prog 198 3 3 := Fld.of (n := 0) Try.underlying198 rfl rfl (by kernel_rfl)  -- TFlag
theorem Ty.fd198_4 : Fld Try.prog 198 4 4 := Fld.of (n := 0) Try.underlying198 rfl rfl (by kernel_rfl)  -- Align_
theorem Ty.fd198_5 : Fld Try.prog 198 5 5 := Fld.of (n := 0) Try.underlying198 rfl rfl (by kernel_rfl)  -- FieldAlign_
theorem Ty.fd198_6 : Fld Try.prog 198 6 6 := Fld.of (n := 0) Try.underlying198 rfl rfl (by kernel_rfl)  -- Kind_
theorem Ty.fd198_7 : Fld Try.prog 198 7 7 := Fld.of (n := 0) Try.underlying198 rfl rfl (by kernel_rfl)  -- Equal
theorem Ty.fd198_8 : Fld Try.prog 198 8 8 := Fld.of (n := 0) Try.underlying198 rfl rfl (by kernel_rfl)  -- GCData
theorem Ty.fd198_9 : Fld Try.prog 198 9 9 := Fld.of (n := 0) Try.underlying198 rfl rfl (by kernel_rfl)  -- Str
theorem Ty.fd198_10 : Fld Try.prog 198 10 10 := Fld.of (n := 0) Try.underlying198 rfl rfl (by kernel_rfl)  -- PtrToThis
theorem Ty.ze198 : Zero Try.prog 198 [.int .u64 0, .int .u64 0, .int .u32 0, .int .u8 0, .int .u8 0, .int .u8 0, .int .u8 0, .nilFunc, .pointer none, .int .i32 0, .int .i32 0] := Zero.of (z := .agg #[.int .u64 0, .int .u64 0, .int .u32 0, .int .u8 0, .int .u8 0, .int .u8 0, .int .u8 0, .nilFunc, .pointer none, .int .i32 0, .int .i32 0]) (by kernel_rfl) rfl
theorem Ty.sc199 : Scalar Try.prog 199 := Scalar.of Try.underlying199 rfl (by kernel_rfl)
theorem Ty.ze199 : Zero Try.prog 199 [.pointer none] := Zero.of (z := .pointer none) (by kernel_rfl) rfl
end Go.Proofs.Ytbpnnkkbaakdjaa
