/-
  Closed facts on the seat's translation: the rows of its types, which functions have a body, how regions draw.
-/
import Derived.Test.YtmpfgiffpdackaaProg
import Derived.Test.YtmpfgiffpdackaaXB
import Derived.KernelRfl
namespace Go.Proofs
open Go.X
namespace Ytmpfgiffpdackaa
theorem mix : Try.prog.follows .mixedOrders = true := by kernel_rfl
theorem ti0 : TI Try.prog 0 (.tuple #[]) 1 0 := by unfold TI; kernel_rfl
theorem ti1 : TI Try.prog 1 (.nilFunc) 1 8 := by unfold TI; kernel_rfl
theorem pl1 : plain Try.prog 1 = true := by kernel_rfl
theorem ti2 : TI Try.prog 2 (.int .i64 0) 1 8 := by unfold TI; kernel_rfl
theorem pl2 : plain Try.prog 2 = true := by kernel_rfl
theorem ti3 : TI Try.prog 3 (.int .i64 0) 1 8 := by unfold TI; kernel_rfl
theorem pl3 : plain Try.prog 3 = true := by kernel_rfl
theorem ti4 : TI Try.prog 4 (.bool false) 1 1 := by unfold TI; kernel_rfl
theorem pl4 : plain Try.prog 4 = true := by kernel_rfl
theorem ti5 : TI Try.prog 5 (.int .u8 0) 1 1 := by unfold TI; kernel_rfl
theorem pl5 : plain Try.prog 5 = true := by kernel_rfl
theorem ti6 : TI Try.prog 6 (.int .u8 0) 1 1 := by unfold TI; kernel_rfl
theorem pl6 : plain Try.prog 6 = true := by kernel_rfl
theorem ag7 : agg Try.prog 7 = true := by kernel_rfl
theorem ti7 : TI Try.prog 7 (.agg #[.int .i64 0, .int .i64 0, .bool false, .int .u8 0]) 4 24 := by unfold TI; kernel_rfl
theorem ag8 : agg Try.prog 8 = true := by kernel_rfl
theorem ti8 : TI Try.prog 8 (.agg #[.int .i64 0, .int .i64 0, .bool false, .int .u8 0]) 4 24 := by unfold TI; kernel_rfl
theorem ti9 : TI Try.prog 9 (.string ⟨#[]⟩) 1 16 := by unfold TI; kernel_rfl
theorem pl9 : plain Try.prog 9 = true := by kernel_rfl
theorem ti10 : TI Try.prog 10 (.string ⟨#[]⟩) 1 16 := by unfold TI; kernel_rfl
theorem pl10 : plain Try.prog 10 = true := by kernel_rfl
theorem ti11 : TI Try.prog 11 (.string ⟨#[]⟩) 1 16 := by unfold TI; kernel_rfl
theorem pl11 : plain Try.prog 11 = true := by kernel_rfl
theorem ti12 : TI Try.prog 12 (.int .u64 0) 1 8 := by unfold TI; kernel_rfl
theorem pl12 : plain Try.prog 12 = true := by kernel_rfl
theorem ag13 : agg Try.prog 13 = true := by kernel_rfl
theorem ti13 : TI Try.prog 13 (.agg #[.string ⟨#[]⟩, .int .u64 0]) 2 24 := by unfold TI; kernel_rfl
theorem ag14 : agg Try.prog 14 = true := by kernel_rfl
theorem ti14 : TI Try.prog 14 (.agg #[.string ⟨#[]⟩, .int .u64 0]) 2 24 := by unfold TI; kernel_rfl
theorem ti15 : TI Try.prog 15 (.pointer none) 1 8 := by unfold TI; kernel_rfl
theorem pl15 : plain Try.prog 15 = true := by kernel_rfl
theorem ti16 : TI Try.prog 16 (.pointer none) 1 8 := by unfold TI; kernel_rfl
theorem pl16 : plain Try.prog 16 = true := by kernel_rfl
theorem ti17 : TI Try.prog 17 (.pointer none) 1 8 := by unfold TI; kernel_rfl
theorem pl17 : plain Try.prog 17 = true := by kernel_rfl
theorem ag18 : agg Try.prog 18 = true := by kernel_rfl
theorem ti18 : TI Try.prog 18 (.agg #[.pointer none]) 1 8 := by unfold TI; kernel_rfl
theorem ag19 : agg Try.prog 19 = true := by kernel_rfl
theorem ti19 : TI Try.prog 19 (.agg #[.pointer none]) 1 8 := by unfold TI; kernel_rfl
theorem ti20 : TI Try.prog 20 (.nilIface) 1 16 := by unfold TI; kernel_rfl
theorem pl20 : plain Try.prog 20 = true := by kernel_rfl
theorem ti21 : TI Try.prog 21 (.int .i32 0) 1 4 := by unfold TI; kernel_rfl
theorem pl21 : plain Try.prog 21 = true := by kernel_rfl
theorem ti22 : TI Try.prog 22 (.slice none 0 0) 1 24 := by unfold TI; kernel_rfl
theorem pl22 : plain Try.prog 22 = true := by kernel_rfl
theorem ti23 : TI Try.prog 23 (.nilFunc) 1 8 := by unfold TI; kernel_rfl
theorem pl23 : plain Try.prog 23 = true := by kernel_rfl
theorem ti24 : TI Try.prog 24 (.pointer none) 1 8 := by unfold TI; kernel_rfl
theorem pl24 : plain Try.prog 24 = true := by kernel_rfl
theorem ti25 : TI Try.prog 25 (.nilFunc) 1 8 := by unfold TI; kernel_rfl
theorem pl25 : plain Try.prog 25 = true := by kernel_rfl
theorem ti26 : TI Try.prog 26 (.int .i64 0) 1 8 := by unfold TI; kernel_rfl
theorem pl26 : plain Try.prog 26 = true := by kernel_rfl
theorem ti27 : TI Try.prog 27 (.tuple #[.int .i64 0, .int .i64 0]) 1 0 := by unfold TI; kernel_rfl
theorem ti28 : TI Try.prog 28 (.nilFunc) 1 8 := by unfold TI; kernel_rfl
theorem pl28 : plain Try.prog 28 = true := by kernel_rfl
theorem ti29 : TI Try.prog 29 (.nilFunc) 1 8 := by unfold TI; kernel_rfl
theorem pl29 : plain Try.prog 29 = true := by kernel_rfl
theorem ti30 : TI Try.prog 30 (.nilFunc) 1 8 := by unfold TI; kernel_rfl
theorem pl30 : plain Try.prog 30 = true := by kernel_rfl
theorem ti31 : TI Try.prog 31 (.slice none 0 0) 1 24 := by unfold TI; kernel_rfl
theorem pl31 : plain Try.prog 31 = true := by kernel_rfl
theorem ti32 : TI Try.prog 32 (.nilFunc) 1 8 := by unfold TI; kernel_rfl
theorem pl32 : plain Try.prog 32 = true := by kernel_rfl
theorem ti33 : TI Try.prog 33 (.nilFunc) 1 8 := by unfold TI; kernel_rfl
theorem pl33 : plain Try.prog 33 = true := by kernel_rfl
theorem ti34 : TI Try.prog 34 (.slice none 0 0) 1 24 := by unfold TI; kernel_rfl
theorem pl34 : plain Try.prog 34 = true := by kernel_rfl
theorem ag35 : agg Try.prog 35 = true := by kernel_rfl
theorem ti35 : TI Try.prog 35 (.agg #[.int .i64 0, .string ⟨#[]⟩, .int .i64 0, .slice none 0 0]) 4 56 := by unfold TI; kernel_rfl
theorem ag36 : agg Try.prog 36 = true := by kernel_rfl
theorem ti36 : TI Try.prog 36 (.agg #[.int .i64 0, .string ⟨#[]⟩, .int .i64 0, .slice none 0 0]) 4 56 := by unfold TI; kernel_rfl
theorem ti37 : TI Try.prog 37 (.nilFunc) 1 8 := by unfold TI; kernel_rfl
theorem pl37 : plain Try.prog 37 = true := by kernel_rfl
theorem ti38 : TI Try.prog 38 (.nilFunc) 1 8 := by unfold TI; kernel_rfl
theorem pl38 : plain Try.prog 38 = true := by kernel_rfl
theorem ti39 : TI Try.prog 39 (.nilFunc) 1 8 := by unfold TI; kernel_rfl
theorem pl39 : plain Try.prog 39 = true := by kernel_rfl
theorem ti40 : TI Try.prog 40 (.slice none 0 0) 1 24 := by unfold TI; kernel_rfl
theorem pl40 : plain Try.prog 40 = true := by kernel_rfl
theorem ti41 : TI Try.prog 41 (.pointer none) 1 8 := by unfold TI; kernel_rfl
theorem pl41 : plain Try.prog 41 = true := by kernel_rfl
theorem ti42 : TI Try.prog 42 (.nilFunc) 1 8 := by unfold TI; kernel_rfl
theorem pl42 : plain Try.prog 42 = true := by kernel_rfl
theorem ag43 : agg Try.prog 43 = true := by kernel_rfl
theorem ti43 : TI Try.prog 43 (.agg #[.int .i64 0, .string ⟨#[]⟩, .string ⟨#[]⟩, .slice none 0 0, .slice none 0 0, .int .i64 0]) 6 96 := by unfold TI; kernel_rfl
theorem ag44 : agg Try.prog 44 = true := by kernel_rfl
theorem ti44 : TI Try.prog 44 (.agg #[.int .i64 0, .string ⟨#[]⟩, .string ⟨#[]⟩, .slice none 0 0, .slice none 0 0, .int .i64 0]) 6 96 := by unfold TI; kernel_rfl
theorem ti45 : TI Try.prog 45 (.nilFunc) 1 8 := by unfold TI; kernel_rfl
theorem pl45 : plain Try.prog 45 = true := by kernel_rfl
theorem ti46 : TI Try.prog 46 (.tuple #[.int .i64 0, .int .i64 0]) 1 0 := by unfold TI; kernel_rfl
theorem ti47 : TI Try.prog 47 (.nilFunc) 1 8 := by unfold TI; kernel_rfl
theorem pl47 : plain Try.prog 47 = true := by kernel_rfl
theorem ti48 : TI Try.prog 48 (.nilFunc) 1 8 := by unfold TI; kernel_rfl
theorem pl48 : plain Try.prog 48 = true := by kernel_rfl
theorem ti49 : TI Try.prog 49 (.slice none 0 0) 1 24 := by unfold TI; kernel_rfl
theorem pl49 : plain Try.prog 49 = true := by kernel_rfl
theorem ti50 : TI Try.prog 50 (.nilFunc) 1 8 := by unfold TI; kernel_rfl
theorem pl50 : plain Try.prog 50 = true := by kernel_rfl
theorem ag51 : agg Try.prog 51 = true := by kernel_rfl
theorem ti51 : TI Try.prog 51 (.agg #[.int .i64 0, .int .i64 0, .int .i64 0, .slice none 0 0]) 4 48 := by unfold TI; kernel_rfl
theorem ag52 : agg Try.prog 52 = true := by kernel_rfl
theorem ti52 : TI Try.prog 52 (.agg #[.int .i64 0, .int .i64 0, .int .i64 0, .slice none 0 0]) 4 48 := by unfold TI; kernel_rfl
theorem ti53 : TI Try.prog 53 (.tuple #[.agg #[.int .i64 0, .string ⟨#[]⟩, .int .i64 0, .slice none 0 0], .int .i64 0]) 1 0 := by unfold TI; kernel_rfl
theorem ti54 : TI Try.prog 54 (.nilFunc) 1 8 := by unfold TI; kernel_rfl
theorem pl54 : plain Try.prog 54 = true := by kernel_rfl
theorem ti55 : TI Try.prog 55 (.nilFunc) 1 8 := by unfold TI; kernel_rfl
theorem pl55 : plain Try.prog 55 = true := by kernel_rfl
theorem ag56 : agg Try.prog 56 = true := by kernel_rfl
theorem ti56 : TI Try.prog 56 (.agg #[.int .i64 0, .string ⟨#[]⟩, .string ⟨#[]⟩, .int .i64 0, .slice none 0 0]) 5 72 := by unfold TI; kernel_rfl
theorem ag57 : agg Try.prog 57 = true := by kernel_rfl
theorem ti57 : TI Try.prog 57 (.agg #[.int .i64 0, .string ⟨#[]⟩, .string ⟨#[]⟩, .int .i64 0, .slice none 0 0]) 5 72 := by unfold TI; kernel_rfl
theorem ti58 : TI Try.prog 58 (.nilFunc) 1 8 := by unfold TI; kernel_rfl
theorem pl58 : plain Try.prog 58 = true := by kernel_rfl
theorem ti59 : TI Try.prog 59 (.nilFunc) 1 8 := by unfold TI; kernel_rfl
theorem pl59 : plain Try.prog 59 = true := by kernel_rfl
theorem ti60 : TI Try.prog 60 (.nilFunc) 1 8 := by unfold TI; kernel_rfl
theorem pl60 : plain Try.prog 60 = true := by kernel_rfl
theorem ti61 : TI Try.prog 61 (.slice none 0 0) 1 24 := by unfold TI; kernel_rfl
theorem pl61 : plain Try.prog 61 = true := by kernel_rfl
theorem ti62 : TI Try.prog 62 (.nilFunc) 1 8 := by unfold TI; kernel_rfl
theorem pl62 : plain Try.prog 62 = true := by kernel_rfl
theorem ti63 : TI Try.prog 63 (.map none) 1 8 := by unfold TI; kernel_rfl
theorem pl63 : plain Try.prog 63 = true := by kernel_rfl
theorem ag64 : agg Try.prog 64 = true := by kernel_rfl
theorem ti64 : TI Try.prog 64 (.agg #[.int .i64 0, .int .i64 0, .int .i64 0, .map none]) 4 32 := by unfold TI; kernel_rfl
theorem ag65 : agg Try.prog 65 = true := by kernel_rfl
theorem ti65 : TI Try.prog 65 (.agg #[.int .i64 0, .int .i64 0, .int .i64 0, .map none]) 4 32 := by unfold TI; kernel_rfl
theorem ti66 : TI Try.prog 66 (.nilFunc) 1 8 := by unfold TI; kernel_rfl
theorem pl66 : plain Try.prog 66 = true := by kernel_rfl
theorem ti67 : TI Try.prog 67 (.nilFunc) 1 8 := by unfold TI; kernel_rfl
theorem pl67 : plain Try.prog 67 = true := by kernel_rfl
theorem ti68 : TI Try.prog 68 (.nilFunc) 1 8 := by unfold TI; kernel_rfl
theorem pl68 : plain Try.prog 68 = true := by kernel_rfl
theorem ti69 : TI Try.prog 69 (.nilFunc) 1 8 := by unfold TI; kernel_rfl
theorem pl69 : plain Try.prog 69 = true := by kernel_rfl
theorem ti70 : TI Try.prog 70 (.nilFunc) 1 8 := by unfold TI; kernel_rfl
theorem pl70 : plain Try.prog 70 = true := by kernel_rfl
theorem ti71 : TI Try.prog 71 (.nilFunc) 1 8 := by unfold TI; kernel_rfl
theorem pl71 : plain Try.prog 71 = true := by kernel_rfl
theorem ti72 : TI Try.prog 72 (.nilFunc) 1 8 := by unfold TI; kernel_rfl
theorem pl72 : plain Try.prog 72 = true := by kernel_rfl
theorem ti73 : TI Try.prog 73 (.nilFunc) 1 8 := by unfold TI; kernel_rfl
theorem pl73 : plain Try.prog 73 = true := by kernel_rfl
theorem ti74 : TI Try.prog 74 (.nilFunc) 1 8 := by unfold TI; kernel_rfl
theorem pl74 : plain Try.prog 74 = true := by kernel_rfl
theorem ag75 : agg Try.prog 75 = true := by kernel_rfl
theorem ti75 : TI Try.prog 75 (.agg #[.pointer none, .pointer none, .pointer none, .string ⟨#[]⟩]) 4 40 := by unfold TI; kernel_rfl
theorem ag76 : agg Try.prog 76 = true := by kernel_rfl
theorem ti76 : TI Try.prog 76 (.agg #[.pointer none, .pointer none, .pointer none, .string ⟨#[]⟩]) 4 40 := by unfold TI; kernel_rfl
theorem ti77 : TI Try.prog 77 (.agg #[]) 0 0 := by unfold TI; kernel_rfl
theorem ti78 : TI Try.prog 78 (.agg #[]) 0 0 := by unfold TI; kernel_rfl
theorem ti79 : TI Try.prog 79 (.agg #[]) 0 0 := by unfold TI; kernel_rfl
theorem ti80 : TI Try.prog 80 (.int .u32 0) 1 4 := by unfold TI; kernel_rfl
theorem pl80 : plain Try.prog 80 = true := by kernel_rfl
theorem ti81 : TI Try.prog 81 (.int .u8 0) 1 1 := by unfold TI; kernel_rfl
theorem pl81 : plain Try.prog 81 = true := by kernel_rfl
theorem ti82 : TI Try.prog 82 (.int .u8 0) 1 1 := by unfold TI; kernel_rfl
theorem pl82 : plain Try.prog 82 = true := by kernel_rfl
theorem ti83 : TI Try.prog 83 (.nilFunc) 1 8 := by unfold TI; kernel_rfl
theorem pl83 : plain Try.prog 83 = true := by kernel_rfl
theorem ti84 : TI Try.prog 84 (.pointer none) 1 8 := by unfold TI; kernel_rfl
theorem pl84 : plain Try.prog 84 = true := by kernel_rfl
theorem ti85 : TI Try.prog 85 (.int .i32 0) 1 4 := by unfold TI; kernel_rfl
theorem pl85 : plain Try.prog 85 = true := by kernel_rfl
theorem ti86 : TI Try.prog 86 (.int .i32 0) 1 4 := by unfold TI; kernel_rfl
theorem pl86 : plain Try.prog 86 = true := by kernel_rfl
theorem ag87 : agg Try.prog 87 = true := by kernel_rfl
theorem ti87 : TI Try.prog 87 (.agg #[.int .u64 0, .int .u64 0, .int .u32 0, .int .u8 0, .int .u8 0, .int .u8 0, .int .u8 0, .nilFunc, .pointer none, .int .i32 0, .int .i32 0]) 11 48 := by unfold TI; kernel_rfl
theorem ag88 : agg Try.prog 88 = true := by kernel_rfl
theorem ti88 : TI Try.prog 88 (.agg #[.int .u64 0, .int .u64 0, .int .u32 0, .int .u8 0, .int .u8 0, .int .u8 0, .int .u8 0, .nilFunc, .pointer none, .int .i32 0, .int .i32 0]) 11 48 := by unfold TI; kernel_rfl
theorem ti89 : TI Try.prog 89 (.pointer none) 1 8 := by unfold TI; kernel_rfl
theorem pl89 : plain Try.prog 89 = true := by kernel_rfl
theorem cl2 : callable Try.prog 2 = true := by kernel_rfl
theorem cl3 : callable Try.prog 3 = true := by kernel_rfl
theorem cl4 : callable Try.prog 4 = true := by kernel_rfl
theorem cl5 : callable Try.prog 5 = true := by kernel_rfl
theorem cl6 : callable Try.prog 6 = true := by kernel_rfl
theorem cl7 : callable Try.prog 7 = true := by kernel_rfl
theorem cl8 : callable Try.prog 8 = true := by kernel_rfl
theorem cl9 : callable Try.prog 9 = true := by kernel_rfl
theorem cl10 : callable Try.prog 10 = true := by kernel_rfl
theorem cl11 : callable Try.prog 11 = true := by kernel_rfl
theorem cl12 : callable Try.prog 12 = true := by kernel_rfl
theorem cl13 : callable Try.prog 13 = true := by kernel_rfl
theorem cl14 : callable Try.prog 14 = true := by kernel_rfl
theorem cl15 : callable Try.prog 15 = true := by kernel_rfl
theorem cl16 : callable Try.prog 16 = true := by kernel_rfl
theorem cl17 : callable Try.prog 17 = true := by kernel_rfl
theorem cl18 : callable Try.prog 18 = true := by kernel_rfl
theorem cl19 : callable Try.prog 19 = true := by kernel_rfl
theorem cl20 : callable Try.prog 20 = true := by kernel_rfl
theorem cl21 : callable Try.prog 21 = true := by kernel_rfl
theorem cl22 : callable Try.prog 22 = true := by kernel_rfl
theorem cl23 : callable Try.prog 23 = true := by kernel_rfl
theorem cl24 : callable Try.prog 24 = true := by kernel_rfl
theorem cl25 : callable Try.prog 25 = true := by kernel_rfl
theorem cl26 : callable Try.prog 26 = true := by kernel_rfl
theorem cl27 : callable Try.prog 27 = true := by kernel_rfl
theorem cl28 : callable Try.prog 28 = true := by kernel_rfl
theorem cl29 : callable Try.prog 29 = true := by kernel_rfl
theorem cl30 : callable Try.prog 30 = true := by kernel_rfl
theorem cl31 : callable Try.prog 31 = true := by kernel_rfl
theorem cl32 : callable Try.prog 32 = true := by kernel_rfl
theorem cl33 : callable Try.prog 33 = true := by kernel_rfl
theorem cl34 : callable Try.prog 34 = true := by kernel_rfl
theorem cl35 : callable Try.prog 35 = true := by kernel_rfl
end Ytmpfgiffpdackaa
end Go.Proofs
