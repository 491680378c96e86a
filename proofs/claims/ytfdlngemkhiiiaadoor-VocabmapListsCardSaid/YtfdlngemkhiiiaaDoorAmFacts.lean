/- Sizes and zero values of the types of this translation, as the abstract machine asks for them.
   Conditions: none. -/
import Derived.Test.YtfdlngemkhiiiaaDoorRows
import Derived.Test.YtfdlngemkhiiiaaDoorAmGhost
namespace Go.Proofs.YtfdlngemkhiiiaaDoor
open Go.Am
@[simp] theorem cells0 : Tryd.prog.cellsOf 0 = 1 := by kernel_rfl
@[simp] theorem bytes0 : Tryd.prog.bytesOf 0 = 0 := by kernel_rfl
@[simp] theorem cells1 : Tryd.prog.cellsOf 1 = 1 := by kernel_rfl
@[simp] theorem bytes1 : Tryd.prog.bytesOf 1 = 8 := by kernel_rfl
@[simp] theorem zero1 : azero Tryd.prog 1 = some [.nilf] := by kernel_rfl
@[simp] theorem cells2 : Tryd.prog.cellsOf 2 = 1 := by kernel_rfl
@[simp] theorem bytes2 : Tryd.prog.bytesOf 2 = 8 := by kernel_rfl
@[simp] theorem zero2 : azero Tryd.prog 2 = some [.int .i64 0] := by kernel_rfl
@[simp] theorem cells3 : Tryd.prog.cellsOf 3 = 1 := by kernel_rfl
@[simp] theorem bytes3 : Tryd.prog.bytesOf 3 = 8 := by kernel_rfl
@[simp] theorem zero3 : azero Tryd.prog 3 = some [.int .i64 0] := by kernel_rfl
@[simp] theorem cells4 : Tryd.prog.cellsOf 4 = 1 := by kernel_rfl
@[simp] theorem bytes4 : Tryd.prog.bytesOf 4 = 1 := by kernel_rfl
@[simp] theorem zero4 : azero Tryd.prog 4 = some [.bool false] := by kernel_rfl
@[simp] theorem cells5 : Tryd.prog.cellsOf 5 = 1 := by kernel_rfl
@[simp] theorem bytes5 : Tryd.prog.bytesOf 5 = 1 := by kernel_rfl
@[simp] theorem zero5 : azero Tryd.prog 5 = some [.int .u8 0] := by kernel_rfl
@[simp] theorem cells6 : Tryd.prog.cellsOf 6 = 1 := by kernel_rfl
@[simp] theorem bytes6 : Tryd.prog.bytesOf 6 = 1 := by kernel_rfl
@[simp] theorem zero6 : azero Tryd.prog 6 = some [.int .u8 0] := by kernel_rfl
@[simp] theorem cells7 : Tryd.prog.cellsOf 7 = 4 := by kernel_rfl
@[simp] theorem bytes7 : Tryd.prog.bytesOf 7 = 24 := by kernel_rfl
@[simp] theorem stood7 : Tryd.prog.stoodInHeld 7 = false := by kernel_rfl
@[simp] theorem eqg7 : Tryd.prog.eqGuardType Tryd.prog.depth 7 = false := by kernel_rfl
@[simp] theorem zero7 : azero Tryd.prog 7 = some [.int .i64 0, .int .i64 0, .bool false, .int .u8 0] := by kernel_rfl
@[simp] theorem cells8 : Tryd.prog.cellsOf 8 = 4 := by kernel_rfl
@[simp] theorem bytes8 : Tryd.prog.bytesOf 8 = 24 := by kernel_rfl
@[simp] theorem stood8 : Tryd.prog.stoodInHeld 8 = false := by kernel_rfl
@[simp] theorem eqg8 : Tryd.prog.eqGuardType Tryd.prog.depth 8 = false := by kernel_rfl
@[simp] theorem zero8 : azero Tryd.prog 8 = some [.int .i64 0, .int .i64 0, .bool false, .int .u8 0] := by kernel_rfl
@[simp] theorem cells9 : Tryd.prog.cellsOf 9 = 1 := by kernel_rfl
@[simp] theorem bytes9 : Tryd.prog.bytesOf 9 = 16 := by kernel_rfl
@[simp] theorem zero9 : azero Tryd.prog 9 = some [.str []] := by kernel_rfl
@[simp] theorem cells10 : Tryd.prog.cellsOf 10 = 1 := by kernel_rfl
@[simp] theorem bytes10 : Tryd.prog.bytesOf 10 = 16 := by kernel_rfl
@[simp] theorem zero10 : azero Tryd.prog 10 = some [.str []] := by kernel_rfl
@[simp] theorem cells11 : Tryd.prog.cellsOf 11 = 1 := by kernel_rfl
@[simp] theorem bytes11 : Tryd.prog.bytesOf 11 = 16 := by kernel_rfl
@[simp] theorem zero11 : azero Tryd.prog 11 = some [.str []] := by kernel_rfl
@[simp] theorem cells12 : Tryd.prog.cellsOf 12 = 1 := by kernel_rfl
@[simp] theorem bytes12 : Tryd.prog.bytesOf 12 = 8 := by kernel_rfl
@[simp] theorem zero12 : azero Tryd.prog 12 = some [.int .u64 0] := by kernel_rfl
@[simp] theorem cells13 : Tryd.prog.cellsOf 13 = 2 := by kernel_rfl
@[simp] theorem bytes13 : Tryd.prog.bytesOf 13 = 24 := by kernel_rfl
@[simp] theorem stood13 : Tryd.prog.stoodInHeld 13 = true := by kernel_rfl
@[simp] theorem eqg13 : Tryd.prog.eqGuardType Tryd.prog.depth 13 = false := by kernel_rfl
@[simp] theorem zero13 : azero Tryd.prog 13 = some [.str [], .int .u64 0] := by kernel_rfl
@[simp] theorem cells14 : Tryd.prog.cellsOf 14 = 2 := by kernel_rfl
@[simp] theorem bytes14 : Tryd.prog.bytesOf 14 = 24 := by kernel_rfl
@[simp] theorem stood14 : Tryd.prog.stoodInHeld 14 = true := by kernel_rfl
@[simp] theorem eqg14 : Tryd.prog.eqGuardType Tryd.prog.depth 14 = false := by kernel_rfl
@[simp] theorem zero14 : azero Tryd.prog 14 = some [.str [], .int .u64 0] := by kernel_rfl
@[simp] theorem cells15 : Tryd.prog.cellsOf 15 = 1 := by kernel_rfl
@[simp] theorem bytes15 : Tryd.prog.bytesOf 15 = 8 := by kernel_rfl
@[simp] theorem zero15 : azero Tryd.prog 15 = some [.nilp] := by kernel_rfl
@[simp] theorem cells16 : Tryd.prog.cellsOf 16 = 1 := by kernel_rfl
@[simp] theorem bytes16 : Tryd.prog.bytesOf 16 = 8 := by kernel_rfl
@[simp] theorem zero16 : azero Tryd.prog 16 = some [.nilp] := by kernel_rfl
@[simp] theorem cells17 : Tryd.prog.cellsOf 17 = 1 := by kernel_rfl
@[simp] theorem bytes17 : Tryd.prog.bytesOf 17 = 8 := by kernel_rfl
@[simp] theorem zero17 : azero Tryd.prog 17 = some [.nilp] := by kernel_rfl
@[simp] theorem cells18 : Tryd.prog.cellsOf 18 = 1 := by kernel_rfl
@[simp] theorem bytes18 : Tryd.prog.bytesOf 18 = 8 := by kernel_rfl
@[simp] theorem stood18 : Tryd.prog.stoodInHeld 18 = true := by kernel_rfl
@[simp] theorem eqg18 : Tryd.prog.eqGuardType Tryd.prog.depth 18 = false := by kernel_rfl
@[simp] theorem zero18 : azero Tryd.prog 18 = some [.nilp] := by kernel_rfl
@[simp] theorem cells19 : Tryd.prog.cellsOf 19 = 1 := by kernel_rfl
@[simp] theorem bytes19 : Tryd.prog.bytesOf 19 = 8 := by kernel_rfl
@[simp] theorem stood19 : Tryd.prog.stoodInHeld 19 = true := by kernel_rfl
@[simp] theorem eqg19 : Tryd.prog.eqGuardType Tryd.prog.depth 19 = false := by kernel_rfl
@[simp] theorem zero19 : azero Tryd.prog 19 = some [.nilp] := by kernel_rfl
@[simp] theorem cells20 : Tryd.prog.cellsOf 20 = 1 := by kernel_rfl
@[simp] theorem bytes20 : Tryd.prog.bytesOf 20 = 16 := by kernel_rfl
@[simp] theorem zero20 : azero Tryd.prog 20 = some [.nili] := by kernel_rfl
@[simp] theorem cells21 : Tryd.prog.cellsOf 21 = 1 := by kernel_rfl
@[simp] theorem bytes21 : Tryd.prog.bytesOf 21 = 4 := by kernel_rfl
@[simp] theorem zero21 : azero Tryd.prog 21 = some [.int .i32 0] := by kernel_rfl
@[simp] theorem cells22 : Tryd.prog.cellsOf 22 = 1 := by kernel_rfl
@[simp] theorem bytes22 : Tryd.prog.bytesOf 22 = 24 := by kernel_rfl
@[simp] theorem zero22 : azero Tryd.prog 22 = some [.sl 0 [] .full] := by kernel_rfl
@[simp] theorem cells23 : Tryd.prog.cellsOf 23 = 1 := by kernel_rfl
@[simp] theorem bytes23 : Tryd.prog.bytesOf 23 = 8 := by kernel_rfl
@[simp] theorem zero23 : azero Tryd.prog 23 = some [.nilf] := by kernel_rfl
@[simp] theorem cells24 : Tryd.prog.cellsOf 24 = 1 := by kernel_rfl
@[simp] theorem bytes24 : Tryd.prog.bytesOf 24 = 8 := by kernel_rfl
@[simp] theorem zero24 : azero Tryd.prog 24 = some [.nilf] := by kernel_rfl
@[simp] theorem cells25 : Tryd.prog.cellsOf 25 = 1 := by kernel_rfl
@[simp] theorem bytes25 : Tryd.prog.bytesOf 25 = 8 := by kernel_rfl
@[simp] theorem zero25 : azero Tryd.prog 25 = some [.int .i64 0] := by kernel_rfl
@[simp] theorem cells26 : Tryd.prog.cellsOf 26 = 1 := by kernel_rfl
@[simp] theorem bytes26 : Tryd.prog.bytesOf 26 = 0 := by kernel_rfl
@[simp] theorem cells27 : Tryd.prog.cellsOf 27 = 1 := by kernel_rfl
@[simp] theorem bytes27 : Tryd.prog.bytesOf 27 = 8 := by kernel_rfl
@[simp] theorem zero27 : azero Tryd.prog 27 = some [.nilf] := by kernel_rfl
@[simp] theorem cells28 : Tryd.prog.cellsOf 28 = 1 := by kernel_rfl
@[simp] theorem bytes28 : Tryd.prog.bytesOf 28 = 0 := by kernel_rfl
@[simp] theorem cells29 : Tryd.prog.cellsOf 29 = 1 := by kernel_rfl
@[simp] theorem bytes29 : Tryd.prog.bytesOf 29 = 8 := by kernel_rfl
@[simp] theorem zero29 : azero Tryd.prog 29 = some [.nilf] := by kernel_rfl
@[simp] theorem cells30 : Tryd.prog.cellsOf 30 = 1 := by kernel_rfl
@[simp] theorem bytes30 : Tryd.prog.bytesOf 30 = 8 := by kernel_rfl
@[simp] theorem zero30 : azero Tryd.prog 30 = some [.nilf] := by kernel_rfl
@[simp] theorem cells31 : Tryd.prog.cellsOf 31 = 1 := by kernel_rfl
@[simp] theorem bytes31 : Tryd.prog.bytesOf 31 = 8 := by kernel_rfl
@[simp] theorem zero31 : azero Tryd.prog 31 = some [.nilf] := by kernel_rfl
@[simp] theorem cells32 : Tryd.prog.cellsOf 32 = 1 := by kernel_rfl
@[simp] theorem bytes32 : Tryd.prog.bytesOf 32 = 8 := by kernel_rfl
@[simp] theorem zero32 : azero Tryd.prog 32 = some [.nilf] := by kernel_rfl
@[simp] theorem cells33 : Tryd.prog.cellsOf 33 = 3 := by kernel_rfl
@[simp] theorem bytes33 : Tryd.prog.bytesOf 33 = 24 := by kernel_rfl
@[simp] theorem stood33 : Tryd.prog.stoodInHeld 33 = false := by kernel_rfl
@[simp] theorem eqg33 : Tryd.prog.eqGuardType Tryd.prog.depth 33 = false := by kernel_rfl
@[simp] theorem zero33 : azero Tryd.prog 33 = some [.int .i64 0, .int .i64 0, .int .i64 0] := by kernel_rfl
@[simp] theorem cells34 : Tryd.prog.cellsOf 34 = 3 := by kernel_rfl
@[simp] theorem bytes34 : Tryd.prog.bytesOf 34 = 24 := by kernel_rfl
@[simp] theorem stood34 : Tryd.prog.stoodInHeld 34 = false := by kernel_rfl
@[simp] theorem eqg34 : Tryd.prog.eqGuardType Tryd.prog.depth 34 = false := by kernel_rfl
@[simp] theorem zero34 : azero Tryd.prog 34 = some [.int .i64 0, .int .i64 0, .int .i64 0] := by kernel_rfl
@[simp] theorem cells35 : Tryd.prog.cellsOf 35 = 1 := by kernel_rfl
@[simp] theorem bytes35 : Tryd.prog.bytesOf 35 = 8 := by kernel_rfl
@[simp] theorem zero35 : azero Tryd.prog 35 = some [.nilf] := by kernel_rfl
@[simp] theorem cells36 : Tryd.prog.cellsOf 36 = 1 := by kernel_rfl
@[simp] theorem bytes36 : Tryd.prog.bytesOf 36 = 8 := by kernel_rfl
@[simp] theorem zero36 : azero Tryd.prog 36 = some [.nilf] := by kernel_rfl
@[simp] theorem cells37 : Tryd.prog.cellsOf 37 = 1 := by kernel_rfl
@[simp] theorem bytes37 : Tryd.prog.bytesOf 37 = 8 := by kernel_rfl
@[simp] theorem zero37 : azero Tryd.prog 37 = some [.nilf] := by kernel_rfl
@[simp] theorem cells38 : Tryd.prog.cellsOf 38 = 1 := by kernel_rfl
@[simp] theorem bytes38 : Tryd.prog.bytesOf 38 = 8 := by kernel_rfl
@[simp] theorem zero38 : azero Tryd.prog 38 = some [.nilf] := by kernel_rfl
@[simp] theorem cells39 : Tryd.prog.cellsOf 39 = 1 := by kernel_rfl
@[simp] theorem bytes39 : Tryd.prog.bytesOf 39 = 8 := by kernel_rfl
@[simp] theorem zero39 : azero Tryd.prog 39 = some [.nilf] := by kernel_rfl
@[simp] theorem cells40 : Tryd.prog.cellsOf 40 = 1 := by kernel_rfl
@[simp] theorem bytes40 : Tryd.prog.bytesOf 40 = 8 := by kernel_rfl
@[simp] theorem zero40 : azero Tryd.prog 40 = some [.nilf] := by kernel_rfl
@[simp] theorem cells41 : Tryd.prog.cellsOf 41 = 1 := by kernel_rfl
@[simp] theorem bytes41 : Tryd.prog.bytesOf 41 = 8 := by kernel_rfl
@[simp] theorem zero41 : azero Tryd.prog 41 = some [.nilf] := by kernel_rfl
@[simp] theorem cells42 : Tryd.prog.cellsOf 42 = 1 := by kernel_rfl
@[simp] theorem bytes42 : Tryd.prog.bytesOf 42 = 8 := by kernel_rfl
@[simp] theorem zero42 : azero Tryd.prog 42 = some [.nilf] := by kernel_rfl
@[simp] theorem cells43 : Tryd.prog.cellsOf 43 = 1 := by kernel_rfl
@[simp] theorem bytes43 : Tryd.prog.bytesOf 43 = 8 := by kernel_rfl
@[simp] theorem zero43 : azero Tryd.prog 43 = some [.nilp] := by kernel_rfl
@[simp] theorem cells44 : Tryd.prog.cellsOf 44 = 1 := by kernel_rfl
@[simp] theorem bytes44 : Tryd.prog.bytesOf 44 = 24 := by kernel_rfl
@[simp] theorem zero44 : azero Tryd.prog 44 = some [.sl 0 [] .full] := by kernel_rfl
@[simp] theorem cells45 : Tryd.prog.cellsOf 45 = 2 := by kernel_rfl
@[simp] theorem bytes45 : Tryd.prog.bytesOf 45 = 32 := by kernel_rfl
@[simp] theorem stood45 : Tryd.prog.stoodInHeld 45 = false := by kernel_rfl
@[simp] theorem eqg45 : Tryd.prog.eqGuardType Tryd.prog.depth 45 = false := by kernel_rfl
@[simp] theorem zero45 : azero Tryd.prog 45 = some [.nilp, .sl 0 [] .full] := by kernel_rfl
@[simp] theorem cells46 : Tryd.prog.cellsOf 46 = 2 := by kernel_rfl
@[simp] theorem bytes46 : Tryd.prog.bytesOf 46 = 32 := by kernel_rfl
@[simp] theorem stood46 : Tryd.prog.stoodInHeld 46 = false := by kernel_rfl
@[simp] theorem eqg46 : Tryd.prog.eqGuardType Tryd.prog.depth 46 = false := by kernel_rfl
@[simp] theorem zero46 : azero Tryd.prog 46 = some [.nilp, .sl 0 [] .full] := by kernel_rfl
@[simp] theorem cells47 : Tryd.prog.cellsOf 47 = 1 := by kernel_rfl
@[simp] theorem bytes47 : Tryd.prog.bytesOf 47 = 16 := by kernel_rfl
@[simp] theorem zero47 : azero Tryd.prog 47 = some [.nili] := by kernel_rfl
@[simp] theorem cells48 : Tryd.prog.cellsOf 48 = 1 := by kernel_rfl
@[simp] theorem bytes48 : Tryd.prog.bytesOf 48 = 16 := by kernel_rfl
@[simp] theorem zero48 : azero Tryd.prog 48 = some [.nili] := by kernel_rfl
@[simp] theorem cells49 : Tryd.prog.cellsOf 49 = 1 := by kernel_rfl
@[simp] theorem bytes49 : Tryd.prog.bytesOf 49 = 0 := by kernel_rfl
@[simp] theorem cells50 : Tryd.prog.cellsOf 50 = 1 := by kernel_rfl
@[simp] theorem bytes50 : Tryd.prog.bytesOf 50 = 8 := by kernel_rfl
@[simp] theorem zero50 : azero Tryd.prog 50 = some [.nilf] := by kernel_rfl
@[simp] theorem cells51 : Tryd.prog.cellsOf 51 = 1 := by kernel_rfl
@[simp] theorem bytes51 : Tryd.prog.bytesOf 51 = 8 := by kernel_rfl
@[simp] theorem zero51 : azero Tryd.prog 51 = some [.nilf] := by kernel_rfl
@[simp] theorem cells52 : Tryd.prog.cellsOf 52 = 1 := by kernel_rfl
@[simp] theorem bytes52 : Tryd.prog.bytesOf 52 = 8 := by kernel_rfl
@[simp] theorem zero52 : azero Tryd.prog 52 = some [.nilf] := by kernel_rfl
@[simp] theorem cells53 : Tryd.prog.cellsOf 53 = 1 := by kernel_rfl
@[simp] theorem bytes53 : Tryd.prog.bytesOf 53 = 8 := by kernel_rfl
@[simp] theorem zero53 : azero Tryd.prog 53 = some [.top] := by kernel_rfl
@[simp] theorem mapT53 : mapT Tryd.prog 53 = some (58, 59) := by kernel_rfl
@[simp] theorem zeroV53 : azeroV Tryd.prog 59 = some (.agg [.bool false, .bool false, .bool false, .bool false]) := by kernel_rfl
@[simp] theorem cells54 : Tryd.prog.cellsOf 54 = 1 := by kernel_rfl
@[simp] theorem bytes54 : Tryd.prog.bytesOf 54 = 0 := by kernel_rfl
@[simp] theorem cells55 : Tryd.prog.cellsOf 55 = 1 := by kernel_rfl
@[simp] theorem bytes55 : Tryd.prog.bytesOf 55 = 8 := by kernel_rfl
@[simp] theorem zero55 : azero Tryd.prog 55 = some [.nilf] := by kernel_rfl
@[simp] theorem cells56 : Tryd.prog.cellsOf 56 = 1 := by kernel_rfl
@[simp] theorem bytes56 : Tryd.prog.bytesOf 56 = 8 := by kernel_rfl
@[simp] theorem zero56 : azero Tryd.prog 56 = some [.nilf] := by kernel_rfl
@[simp] theorem cells57 : Tryd.prog.cellsOf 57 = 1 := by kernel_rfl
@[simp] theorem bytes57 : Tryd.prog.bytesOf 57 = 8 := by kernel_rfl
@[simp] theorem zero57 : azero Tryd.prog 57 = some [.nilf] := by kernel_rfl
@[simp] theorem cells58 : Tryd.prog.cellsOf 58 = 2 := by kernel_rfl
@[simp] theorem bytes58 : Tryd.prog.bytesOf 58 = 16 := by kernel_rfl
@[simp] theorem zero58 : azero Tryd.prog 58 = some [.int .i64 0, .int .i64 0] := by kernel_rfl
@[simp] theorem cells59 : Tryd.prog.cellsOf 59 = 4 := by kernel_rfl
@[simp] theorem bytes59 : Tryd.prog.bytesOf 59 = 4 := by kernel_rfl
@[simp] theorem zero59 : azero Tryd.prog 59 = some [.bool false, .bool false, .bool false, .bool false] := by kernel_rfl
@[simp] theorem cells60 : Tryd.prog.cellsOf 60 = 1 := by kernel_rfl
@[simp] theorem bytes60 : Tryd.prog.bytesOf 60 = 8 := by kernel_rfl
@[simp] theorem zero60 : azero Tryd.prog 60 = some [.nilf] := by kernel_rfl
@[simp] theorem cells61 : Tryd.prog.cellsOf 61 = 1 := by kernel_rfl
@[simp] theorem bytes61 : Tryd.prog.bytesOf 61 = 8 := by kernel_rfl
@[simp] theorem zero61 : azero Tryd.prog 61 = some [.nilf] := by kernel_rfl
@[simp] theorem cells62 : Tryd.prog.cellsOf 62 = 1 := by kernel_rfl
@[simp] theorem bytes62 : Tryd.prog.bytesOf 62 = 8 := by kernel_rfl
@[simp] theorem zero62 : azero Tryd.prog 62 = some [.nilf] := by kernel_rfl
@[simp] theorem cells63 : Tryd.prog.cellsOf 63 = 1 := by kernel_rfl
@[simp] theorem bytes63 : Tryd.prog.bytesOf 63 = 8 := by kernel_rfl
@[simp] theorem zero63 : azero Tryd.prog 63 = some [.nilf] := by kernel_rfl
@[simp] theorem cells64 : Tryd.prog.cellsOf 64 = 4 := by kernel_rfl
@[simp] theorem bytes64 : Tryd.prog.bytesOf 64 = 64 := by kernel_rfl
@[simp] theorem zero64 : azero Tryd.prog 64 = some [.str [], .str [], .str [], .str []] := by kernel_rfl
@[simp] theorem cells65 : Tryd.prog.cellsOf 65 = 1 := by kernel_rfl
@[simp] theorem bytes65 : Tryd.prog.bytesOf 65 = 8 := by kernel_rfl
@[simp] theorem zero65 : azero Tryd.prog 65 = some [.nilp] := by kernel_rfl
@[simp] theorem cells66 : Tryd.prog.cellsOf 66 = 1 := by kernel_rfl
@[simp] theorem bytes66 : Tryd.prog.bytesOf 66 = 8 := by kernel_rfl
@[simp] theorem zero66 : azero Tryd.prog 66 = some [.int .u64 0] := by kernel_rfl
@[simp] theorem cells67 : Tryd.prog.cellsOf 67 = 1 := by kernel_rfl
@[simp] theorem bytes67 : Tryd.prog.bytesOf 67 = 8 := by kernel_rfl
@[simp] theorem zero67 : azero Tryd.prog 67 = some [.nilf] := by kernel_rfl
@[simp] theorem cells68 : Tryd.prog.cellsOf 68 = 1 := by kernel_rfl
@[simp] theorem bytes68 : Tryd.prog.bytesOf 68 = 8 := by kernel_rfl
@[simp] theorem zero68 : azero Tryd.prog 68 = some [.nilf] := by kernel_rfl
@[simp] theorem cells69 : Tryd.prog.cellsOf 69 = 1 := by kernel_rfl
@[simp] theorem bytes69 : Tryd.prog.bytesOf 69 = 8 := by kernel_rfl
@[simp] theorem zero69 : azero Tryd.prog 69 = some [.nilf] := by kernel_rfl
@[simp] theorem cells70 : Tryd.prog.cellsOf 70 = 1 := by kernel_rfl
@[simp] theorem bytes70 : Tryd.prog.bytesOf 70 = 24 := by kernel_rfl
@[simp] theorem zero70 : azero Tryd.prog 70 = some [.sl 0 [] .full] := by kernel_rfl
@[simp] theorem cells71 : Tryd.prog.cellsOf 71 = 1 := by kernel_rfl
@[simp] theorem bytes71 : Tryd.prog.bytesOf 71 = 8 := by kernel_rfl
@[simp] theorem zero71 : azero Tryd.prog 71 = some [.nilp] := by kernel_rfl
@[simp] theorem cells72 : Tryd.prog.cellsOf 72 = 1 := by kernel_rfl
@[simp] theorem bytes72 : Tryd.prog.bytesOf 72 = 8 := by kernel_rfl
@[simp] theorem zero72 : azero Tryd.prog 72 = some [.nilf] := by kernel_rfl
@[simp] theorem cells73 : Tryd.prog.cellsOf 73 = 1 := by kernel_rfl
@[simp] theorem bytes73 : Tryd.prog.bytesOf 73 = 8 := by kernel_rfl
@[simp] theorem zero73 : azero Tryd.prog 73 = some [.nilf] := by kernel_rfl
@[simp] theorem cells74 : Tryd.prog.cellsOf 74 = 1 := by kernel_rfl
@[simp] theorem bytes74 : Tryd.prog.bytesOf 74 = 8 := by kernel_rfl
@[simp] theorem zero74 : azero Tryd.prog 74 = some [.int .i64 0] := by kernel_rfl
@[simp] theorem cells75 : Tryd.prog.cellsOf 75 = 1 := by kernel_rfl
@[simp] theorem bytes75 : Tryd.prog.bytesOf 75 = 0 := by kernel_rfl
@[simp] theorem cells76 : Tryd.prog.cellsOf 76 = 1 := by kernel_rfl
@[simp] theorem bytes76 : Tryd.prog.bytesOf 76 = 8 := by kernel_rfl
@[simp] theorem zero76 : azero Tryd.prog 76 = some [.nilf] := by kernel_rfl
@[simp] theorem cells77 : Tryd.prog.cellsOf 77 = 1 := by kernel_rfl
@[simp] theorem bytes77 : Tryd.prog.bytesOf 77 = 8 := by kernel_rfl
@[simp] theorem zero77 : azero Tryd.prog 77 = some [.nilf] := by kernel_rfl
@[simp] theorem cells78 : Tryd.prog.cellsOf 78 = 1 := by kernel_rfl
@[simp] theorem bytes78 : Tryd.prog.bytesOf 78 = 8 := by kernel_rfl
@[simp] theorem zero78 : azero Tryd.prog 78 = some [.nilf] := by kernel_rfl
@[simp] theorem cells79 : Tryd.prog.cellsOf 79 = 1 := by kernel_rfl
@[simp] theorem bytes79 : Tryd.prog.bytesOf 79 = 8 := by kernel_rfl
@[simp] theorem zero79 : azero Tryd.prog 79 = some [.nilf] := by kernel_rfl
@[simp] theorem cells80 : Tryd.prog.cellsOf 80 = 1 := by kernel_rfl
@[simp] theorem bytes80 : Tryd.prog.bytesOf 80 = 8 := by kernel_rfl
@[simp] theorem zero80 : azero Tryd.prog 80 = some [.nilf] := by kernel_rfl
@[simp] theorem cells81 : Tryd.prog.cellsOf 81 = 1 := by kernel_rfl
@[simp] theorem bytes81 : Tryd.prog.bytesOf 81 = 4 := by kernel_rfl
@[simp] theorem zero81 : azero Tryd.prog 81 = some [.int .u32 0] := by kernel_rfl
@[simp] theorem cells82 : Tryd.prog.cellsOf 82 = 1 := by kernel_rfl
@[simp] theorem bytes82 : Tryd.prog.bytesOf 82 = 8 := by kernel_rfl
@[simp] theorem zero82 : azero Tryd.prog 82 = some [.nilf] := by kernel_rfl
@[simp] theorem cells83 : Tryd.prog.cellsOf 83 = 1 := by kernel_rfl
@[simp] theorem bytes83 : Tryd.prog.bytesOf 83 = 8 := by kernel_rfl
@[simp] theorem zero83 : azero Tryd.prog 83 = some [.int .u64 0] := by kernel_rfl
@[simp] theorem cells84 : Tryd.prog.cellsOf 84 = 1 := by kernel_rfl
@[simp] theorem bytes84 : Tryd.prog.bytesOf 84 = 8 := by kernel_rfl
@[simp] theorem zero84 : azero Tryd.prog 84 = some [.nilf] := by kernel_rfl
@[simp] theorem cells85 : Tryd.prog.cellsOf 85 = 1 := by kernel_rfl
@[simp] theorem bytes85 : Tryd.prog.bytesOf 85 = 8 := by kernel_rfl
@[simp] theorem zero85 : azero Tryd.prog 85 = some [.int .u64 0] := by kernel_rfl
@[simp] theorem cells86 : Tryd.prog.cellsOf 86 = 1 := by kernel_rfl
@[simp] theorem bytes86 : Tryd.prog.bytesOf 86 = 8 := by kernel_rfl
@[simp] theorem zero86 : azero Tryd.prog 86 = some [.nilf] := by kernel_rfl
@[simp] theorem cells87 : Tryd.prog.cellsOf 87 = 1 := by kernel_rfl
@[simp] theorem bytes87 : Tryd.prog.bytesOf 87 = 8 := by kernel_rfl
@[simp] theorem zero87 : azero Tryd.prog 87 = some [.nilf] := by kernel_rfl
@[simp] theorem cells88 : Tryd.prog.cellsOf 88 = 1 := by kernel_rfl
@[simp] theorem bytes88 : Tryd.prog.bytesOf 88 = 8 := by kernel_rfl
@[simp] theorem zero88 : azero Tryd.prog 88 = some [.nilf] := by kernel_rfl
@[simp] theorem cells89 : Tryd.prog.cellsOf 89 = 1 := by kernel_rfl
@[simp] theorem bytes89 : Tryd.prog.bytesOf 89 = 8 := by kernel_rfl
@[simp] theorem zero89 : azero Tryd.prog 89 = some [.nilp] := by kernel_rfl
@[simp] theorem cells90 : Tryd.prog.cellsOf 90 = 1 := by kernel_rfl
@[simp] theorem bytes90 : Tryd.prog.bytesOf 90 = 8 := by kernel_rfl
@[simp] theorem zero90 : azero Tryd.prog 90 = some [.nilf] := by kernel_rfl
@[simp] theorem cells91 : Tryd.prog.cellsOf 91 = 24 := by kernel_rfl
@[simp] theorem bytes91 : Tryd.prog.bytesOf 91 = 24 := by kernel_rfl
@[simp] theorem cells92 : Tryd.prog.cellsOf 92 = 1 := by kernel_rfl
@[simp] theorem bytes92 : Tryd.prog.bytesOf 92 = 8 := by kernel_rfl
@[simp] theorem zero92 : azero Tryd.prog 92 = some [.nilf] := by kernel_rfl
@[simp] theorem cells93 : Tryd.prog.cellsOf 93 = 1 := by kernel_rfl
@[simp] theorem bytes93 : Tryd.prog.bytesOf 93 = 0 := by kernel_rfl
@[simp] theorem cells94 : Tryd.prog.cellsOf 94 = 1 := by kernel_rfl
@[simp] theorem bytes94 : Tryd.prog.bytesOf 94 = 8 := by kernel_rfl
@[simp] theorem zero94 : azero Tryd.prog 94 = some [.nilf] := by kernel_rfl
@[simp] theorem cells95 : Tryd.prog.cellsOf 95 = 1 := by kernel_rfl
@[simp] theorem bytes95 : Tryd.prog.bytesOf 95 = 8 := by kernel_rfl
@[simp] theorem zero95 : azero Tryd.prog 95 = some [.nilp] := by kernel_rfl
@[simp] theorem cells96 : Tryd.prog.cellsOf 96 = 1 := by kernel_rfl
@[simp] theorem bytes96 : Tryd.prog.bytesOf 96 = 0 := by kernel_rfl
@[simp] theorem cells97 : Tryd.prog.cellsOf 97 = 1 := by kernel_rfl
@[simp] theorem bytes97 : Tryd.prog.bytesOf 97 = 8 := by kernel_rfl
@[simp] theorem zero97 : azero Tryd.prog 97 = some [.nilf] := by kernel_rfl
@[simp] theorem cells98 : Tryd.prog.cellsOf 98 = 1 := by kernel_rfl
@[simp] theorem bytes98 : Tryd.prog.bytesOf 98 = 8 := by kernel_rfl
@[simp] theorem zero98 : azero Tryd.prog 98 = some [.nilf] := by kernel_rfl
@[simp] theorem cells99 : Tryd.prog.cellsOf 99 = 20 := by kernel_rfl
@[simp] theorem bytes99 : Tryd.prog.bytesOf 99 = 160 := by kernel_rfl
@[simp] theorem cells100 : Tryd.prog.cellsOf 100 = 65 := by kernel_rfl
@[simp] theorem bytes100 : Tryd.prog.bytesOf 100 = 65 := by kernel_rfl
@[simp] theorem cells101 : Tryd.prog.cellsOf 101 = 32 := by kernel_rfl
@[simp] theorem bytes101 : Tryd.prog.bytesOf 101 = 32 := by kernel_rfl
@[simp] theorem cells102 : Tryd.prog.cellsOf 102 = 64 := by kernel_rfl
@[simp] theorem bytes102 : Tryd.prog.bytesOf 102 = 64 := by kernel_rfl
@[simp] theorem cells103 : Tryd.prog.cellsOf 103 = 4 := by kernel_rfl
@[simp] theorem bytes103 : Tryd.prog.bytesOf 103 = 40 := by kernel_rfl
@[simp] theorem stood103 : Tryd.prog.stoodInHeld 103 = true := by kernel_rfl
@[simp] theorem eqg103 : Tryd.prog.eqGuardType Tryd.prog.depth 103 = false := by kernel_rfl
@[simp] theorem zero103 : azero Tryd.prog 103 = some [.nilp, .nilp, .nilp, .str []] := by kernel_rfl
@[simp] theorem cells104 : Tryd.prog.cellsOf 104 = 4 := by kernel_rfl
@[simp] theorem bytes104 : Tryd.prog.bytesOf 104 = 40 := by kernel_rfl
@[simp] theorem stood104 : Tryd.prog.stoodInHeld 104 = true := by kernel_rfl
@[simp] theorem eqg104 : Tryd.prog.eqGuardType Tryd.prog.depth 104 = false := by kernel_rfl
@[simp] theorem zero104 : azero Tryd.prog 104 = some [.nilp, .nilp, .nilp, .str []] := by kernel_rfl
@[simp] theorem cells105 : Tryd.prog.cellsOf 105 = 0 := by kernel_rfl
@[simp] theorem bytes105 : Tryd.prog.bytesOf 105 = 0 := by kernel_rfl
@[simp] theorem zero105 : azero Tryd.prog 105 = some [] := by kernel_rfl
@[simp] theorem cells106 : Tryd.prog.cellsOf 106 = 0 := by kernel_rfl
@[simp] theorem bytes106 : Tryd.prog.bytesOf 106 = 0 := by kernel_rfl
@[simp] theorem stood106 : Tryd.prog.stoodInHeld 106 = true := by kernel_rfl
@[simp] theorem eqg106 : Tryd.prog.eqGuardType Tryd.prog.depth 106 = false := by kernel_rfl
@[simp] theorem zero106 : azero Tryd.prog 106 = some [] := by kernel_rfl
@[simp] theorem cells107 : Tryd.prog.cellsOf 107 = 0 := by kernel_rfl
@[simp] theorem bytes107 : Tryd.prog.bytesOf 107 = 0 := by kernel_rfl
@[simp] theorem stood107 : Tryd.prog.stoodInHeld 107 = true := by kernel_rfl
@[simp] theorem eqg107 : Tryd.prog.eqGuardType Tryd.prog.depth 107 = false := by kernel_rfl
@[simp] theorem zero107 : azero Tryd.prog 107 = some [] := by kernel_rfl
@[simp] theorem cells108 : Tryd.prog.cellsOf 108 = 1 := by kernel_rfl
@[simp] theorem bytes108 : Tryd.prog.bytesOf 108 = 8 := by kernel_rfl
@[simp] theorem zero108 : azero Tryd.prog 108 = some [.nilf] := by kernel_rfl
@[simp] theorem cells109 : Tryd.prog.cellsOf 109 = 1 := by kernel_rfl
@[simp] theorem bytes109 : Tryd.prog.bytesOf 109 = 1 := by kernel_rfl
@[simp] theorem zero109 : azero Tryd.prog 109 = some [.int .u8 0] := by kernel_rfl
@[simp] theorem cells110 : Tryd.prog.cellsOf 110 = 1 := by kernel_rfl
@[simp] theorem bytes110 : Tryd.prog.bytesOf 110 = 1 := by kernel_rfl
@[simp] theorem zero110 : azero Tryd.prog 110 = some [.int .u8 0] := by kernel_rfl
@[simp] theorem cells111 : Tryd.prog.cellsOf 111 = 1 := by kernel_rfl
@[simp] theorem bytes111 : Tryd.prog.bytesOf 111 = 8 := by kernel_rfl
@[simp] theorem zero111 : azero Tryd.prog 111 = some [.nilf] := by kernel_rfl
@[simp] theorem cells112 : Tryd.prog.cellsOf 112 = 1 := by kernel_rfl
@[simp] theorem bytes112 : Tryd.prog.bytesOf 112 = 4 := by kernel_rfl
@[simp] theorem zero112 : azero Tryd.prog 112 = some [.int .i32 0] := by kernel_rfl
@[simp] theorem cells113 : Tryd.prog.cellsOf 113 = 1 := by kernel_rfl
@[simp] theorem bytes113 : Tryd.prog.bytesOf 113 = 4 := by kernel_rfl
@[simp] theorem zero113 : azero Tryd.prog 113 = some [.int .i32 0] := by kernel_rfl
@[simp] theorem cells114 : Tryd.prog.cellsOf 114 = 11 := by kernel_rfl
@[simp] theorem bytes114 : Tryd.prog.bytesOf 114 = 48 := by kernel_rfl
@[simp] theorem stood114 : Tryd.prog.stoodInHeld 114 = true := by kernel_rfl
@[simp] theorem eqg114 : Tryd.prog.eqGuardType Tryd.prog.depth 114 = false := by kernel_rfl
@[simp] theorem zero114 : azero Tryd.prog 114 = some [.int .u64 0, .int .u64 0, .int .u32 0, .int .u8 0, .int .u8 0, .int .u8 0, .int .u8 0, .nilf, .nilp, .int .i32 0, .int .i32 0] := by kernel_rfl
@[simp] theorem cells115 : Tryd.prog.cellsOf 115 = 11 := by kernel_rfl
@[simp] theorem bytes115 : Tryd.prog.bytesOf 115 = 48 := by kernel_rfl
@[simp] theorem stood115 : Tryd.prog.stoodInHeld 115 = true := by kernel_rfl
@[simp] theorem eqg115 : Tryd.prog.eqGuardType Tryd.prog.depth 115 = false := by kernel_rfl
@[simp] theorem zero115 : azero Tryd.prog 115 = some [.int .u64 0, .int .u64 0, .int .u32 0, .int .u8 0, .int .u8 0, .int .u8 0, .int .u8 0, .nilf, .nilp, .int .i32 0, .int .i32 0] := by kernel_rfl
end Go.Proofs.YtfdlngemkhiiiaaDoor
