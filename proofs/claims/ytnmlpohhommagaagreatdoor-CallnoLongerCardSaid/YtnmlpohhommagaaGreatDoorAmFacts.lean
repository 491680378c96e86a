/- Sizes and zero values of the types of this translation, as the abstract machine asks for them.
   Conditions: none. -/
import Derived.Test.YtnmlpohhommagaaGreatDoorRows
import Derived.Test.YtnmlpohhommagaaGreatDoorAmGhost
namespace Go.Proofs.YtnmlpohhommagaaGreatDoor
open Go.Am
@[simp] theorem cells0 : Tryz.prog.cellsOf 0 = 1 := by kernel_rfl
@[simp] theorem bytes0 : Tryz.prog.bytesOf 0 = 0 := by kernel_rfl
@[simp] theorem cells1 : Tryz.prog.cellsOf 1 = 1 := by kernel_rfl
@[simp] theorem bytes1 : Tryz.prog.bytesOf 1 = 8 := by kernel_rfl
@[simp] theorem zero1 : azero Tryz.prog 1 = some [.nilf] := by kernel_rfl
@[simp] theorem cells2 : Tryz.prog.cellsOf 2 = 1 := by kernel_rfl
@[simp] theorem bytes2 : Tryz.prog.bytesOf 2 = 8 := by kernel_rfl
@[simp] theorem zero2 : azero Tryz.prog 2 = some [.int .i64 0] := by kernel_rfl
@[simp] theorem cells3 : Tryz.prog.cellsOf 3 = 1 := by kernel_rfl
@[simp] theorem bytes3 : Tryz.prog.bytesOf 3 = 8 := by kernel_rfl
@[simp] theorem zero3 : azero Tryz.prog 3 = some [.int .i64 0] := by kernel_rfl
@[simp] theorem cells4 : Tryz.prog.cellsOf 4 = 1 := by kernel_rfl
@[simp] theorem bytes4 : Tryz.prog.bytesOf 4 = 1 := by kernel_rfl
@[simp] theorem zero4 : azero Tryz.prog 4 = some [.bool false] := by kernel_rfl
@[simp] theorem cells5 : Tryz.prog.cellsOf 5 = 1 := by kernel_rfl
@[simp] theorem bytes5 : Tryz.prog.bytesOf 5 = 1 := by kernel_rfl
@[simp] theorem zero5 : azero Tryz.prog 5 = some [.int .u8 0] := by kernel_rfl
@[simp] theorem cells6 : Tryz.prog.cellsOf 6 = 1 := by kernel_rfl
@[simp] theorem bytes6 : Tryz.prog.bytesOf 6 = 1 := by kernel_rfl
@[simp] theorem zero6 : azero Tryz.prog 6 = some [.int .u8 0] := by kernel_rfl
@[simp] theorem cells7 : Tryz.prog.cellsOf 7 = 4 := by kernel_rfl
@[simp] theorem bytes7 : Tryz.prog.bytesOf 7 = 24 := by kernel_rfl
@[simp] theorem stood7 : Tryz.prog.stoodInHeld 7 = false := by kernel_rfl
@[simp] theorem eqg7 : Tryz.prog.eqGuardType Tryz.prog.depth 7 = false := by kernel_rfl
@[simp] theorem zero7 : azero Tryz.prog 7 = some [.int .i64 0, .int .i64 0, .bool false, .int .u8 0] := by kernel_rfl
@[simp] theorem cells8 : Tryz.prog.cellsOf 8 = 4 := by kernel_rfl
@[simp] theorem bytes8 : Tryz.prog.bytesOf 8 = 24 := by kernel_rfl
@[simp] theorem stood8 : Tryz.prog.stoodInHeld 8 = false := by kernel_rfl
@[simp] theorem eqg8 : Tryz.prog.eqGuardType Tryz.prog.depth 8 = false := by kernel_rfl
@[simp] theorem zero8 : azero Tryz.prog 8 = some [.int .i64 0, .int .i64 0, .bool false, .int .u8 0] := by kernel_rfl
@[simp] theorem cells9 : Tryz.prog.cellsOf 9 = 1 := by kernel_rfl
@[simp] theorem bytes9 : Tryz.prog.bytesOf 9 = 16 := by kernel_rfl
@[simp] theorem zero9 : azero Tryz.prog 9 = some [.str []] := by kernel_rfl
@[simp] theorem cells10 : Tryz.prog.cellsOf 10 = 1 := by kernel_rfl
@[simp] theorem bytes10 : Tryz.prog.bytesOf 10 = 16 := by kernel_rfl
@[simp] theorem zero10 : azero Tryz.prog 10 = some [.str []] := by kernel_rfl
@[simp] theorem cells11 : Tryz.prog.cellsOf 11 = 1 := by kernel_rfl
@[simp] theorem bytes11 : Tryz.prog.bytesOf 11 = 16 := by kernel_rfl
@[simp] theorem zero11 : azero Tryz.prog 11 = some [.str []] := by kernel_rfl
@[simp] theorem cells12 : Tryz.prog.cellsOf 12 = 1 := by kernel_rfl
@[simp] theorem bytes12 : Tryz.prog.bytesOf 12 = 8 := by kernel_rfl
@[simp] theorem zero12 : azero Tryz.prog 12 = some [.int .u64 0] := by kernel_rfl
@[simp] theorem cells13 : Tryz.prog.cellsOf 13 = 2 := by kernel_rfl
@[simp] theorem bytes13 : Tryz.prog.bytesOf 13 = 24 := by kernel_rfl
@[simp] theorem stood13 : Tryz.prog.stoodInHeld 13 = true := by kernel_rfl
@[simp] theorem eqg13 : Tryz.prog.eqGuardType Tryz.prog.depth 13 = false := by kernel_rfl
@[simp] theorem zero13 : azero Tryz.prog 13 = some [.str [], .int .u64 0] := by kernel_rfl
@[simp] theorem cells14 : Tryz.prog.cellsOf 14 = 2 := by kernel_rfl
@[simp] theorem bytes14 : Tryz.prog.bytesOf 14 = 24 := by kernel_rfl
@[simp] theorem stood14 : Tryz.prog.stoodInHeld 14 = true := by kernel_rfl
@[simp] theorem eqg14 : Tryz.prog.eqGuardType Tryz.prog.depth 14 = false := by kernel_rfl
@[simp] theorem zero14 : azero Tryz.prog 14 = some [.str [], .int .u64 0] := by kernel_rfl
@[simp] theorem cells15 : Tryz.prog.cellsOf 15 = 1 := by kernel_rfl
@[simp] theorem bytes15 : Tryz.prog.bytesOf 15 = 8 := by kernel_rfl
@[simp] theorem zero15 : azero Tryz.prog 15 = some [.nilp] := by kernel_rfl
@[simp] theorem cells16 : Tryz.prog.cellsOf 16 = 1 := by kernel_rfl
@[simp] theorem bytes16 : Tryz.prog.bytesOf 16 = 8 := by kernel_rfl
@[simp] theorem zero16 : azero Tryz.prog 16 = some [.nilp] := by kernel_rfl
@[simp] theorem cells17 : Tryz.prog.cellsOf 17 = 1 := by kernel_rfl
@[simp] theorem bytes17 : Tryz.prog.bytesOf 17 = 8 := by kernel_rfl
@[simp] theorem zero17 : azero Tryz.prog 17 = some [.nilp] := by kernel_rfl
@[simp] theorem cells18 : Tryz.prog.cellsOf 18 = 1 := by kernel_rfl
@[simp] theorem bytes18 : Tryz.prog.bytesOf 18 = 8 := by kernel_rfl
@[simp] theorem stood18 : Tryz.prog.stoodInHeld 18 = true := by kernel_rfl
@[simp] theorem eqg18 : Tryz.prog.eqGuardType Tryz.prog.depth 18 = false := by kernel_rfl
@[simp] theorem zero18 : azero Tryz.prog 18 = some [.nilp] := by kernel_rfl
@[simp] theorem cells19 : Tryz.prog.cellsOf 19 = 1 := by kernel_rfl
@[simp] theorem bytes19 : Tryz.prog.bytesOf 19 = 8 := by kernel_rfl
@[simp] theorem stood19 : Tryz.prog.stoodInHeld 19 = true := by kernel_rfl
@[simp] theorem eqg19 : Tryz.prog.eqGuardType Tryz.prog.depth 19 = false := by kernel_rfl
@[simp] theorem zero19 : azero Tryz.prog 19 = some [.nilp] := by kernel_rfl
@[simp] theorem cells20 : Tryz.prog.cellsOf 20 = 1 := by kernel_rfl
@[simp] theorem bytes20 : Tryz.prog.bytesOf 20 = 16 := by kernel_rfl
@[simp] theorem zero20 : azero Tryz.prog 20 = some [.nili] := by kernel_rfl
@[simp] theorem cells21 : Tryz.prog.cellsOf 21 = 1 := by kernel_rfl
@[simp] theorem bytes21 : Tryz.prog.bytesOf 21 = 4 := by kernel_rfl
@[simp] theorem zero21 : azero Tryz.prog 21 = some [.int .i32 0] := by kernel_rfl
@[simp] theorem cells22 : Tryz.prog.cellsOf 22 = 1 := by kernel_rfl
@[simp] theorem bytes22 : Tryz.prog.bytesOf 22 = 24 := by kernel_rfl
@[simp] theorem zero22 : azero Tryz.prog 22 = some [.sl 0 [] .full] := by kernel_rfl
@[simp] theorem cells23 : Tryz.prog.cellsOf 23 = 7 := by kernel_rfl
@[simp] theorem bytes23 : Tryz.prog.bytesOf 23 = 96 := by kernel_rfl
@[simp] theorem stood23 : Tryz.prog.stoodInHeld 23 = false := by kernel_rfl
@[simp] theorem eqg23 : Tryz.prog.eqGuardType Tryz.prog.depth 23 = false := by kernel_rfl
@[simp] theorem zero23 : azero Tryz.prog 23 = some [.int .i64 0, .str [], .int .i64 0, .str [], .sl 0 [] .full, .int .i64 0, .str []] := by kernel_rfl
@[simp] theorem cells24 : Tryz.prog.cellsOf 24 = 7 := by kernel_rfl
@[simp] theorem bytes24 : Tryz.prog.bytesOf 24 = 96 := by kernel_rfl
@[simp] theorem stood24 : Tryz.prog.stoodInHeld 24 = false := by kernel_rfl
@[simp] theorem eqg24 : Tryz.prog.eqGuardType Tryz.prog.depth 24 = false := by kernel_rfl
@[simp] theorem zero24 : azero Tryz.prog 24 = some [.int .i64 0, .str [], .int .i64 0, .str [], .sl 0 [] .full, .int .i64 0, .str []] := by kernel_rfl
@[simp] theorem cells25 : Tryz.prog.cellsOf 25 = 21 := by kernel_rfl
@[simp] theorem bytes25 : Tryz.prog.bytesOf 25 = 288 := by kernel_rfl
@[simp] theorem cells26 : Tryz.prog.cellsOf 26 = 1 := by kernel_rfl
@[simp] theorem bytes26 : Tryz.prog.bytesOf 26 = 8 := by kernel_rfl
@[simp] theorem zero26 : azero Tryz.prog 26 = some [.nilf] := by kernel_rfl
@[simp] theorem cells27 : Tryz.prog.cellsOf 27 = 1 := by kernel_rfl
@[simp] theorem bytes27 : Tryz.prog.bytesOf 27 = 8 := by kernel_rfl
@[simp] theorem zero27 : azero Tryz.prog 27 = some [.nilf] := by kernel_rfl
@[simp] theorem cells28 : Tryz.prog.cellsOf 28 = 7 := by kernel_rfl
@[simp] theorem bytes28 : Tryz.prog.bytesOf 28 = 96 := by kernel_rfl
@[simp] theorem stood28 : Tryz.prog.stoodInHeld 28 = false := by kernel_rfl
@[simp] theorem eqg28 : Tryz.prog.eqGuardType Tryz.prog.depth 28 = false := by kernel_rfl
@[simp] theorem zero28 : azero Tryz.prog 28 = some [.int .i64 0, .str [], .int .i64 0, .str [], .sl 0 [] .full, .int .i64 0, .str []] := by kernel_rfl
@[simp] theorem cells29 : Tryz.prog.cellsOf 29 = 1 := by kernel_rfl
@[simp] theorem bytes29 : Tryz.prog.bytesOf 29 = 8 := by kernel_rfl
@[simp] theorem zero29 : azero Tryz.prog 29 = some [.nilf] := by kernel_rfl
@[simp] theorem cells30 : Tryz.prog.cellsOf 30 = 1 := by kernel_rfl
@[simp] theorem bytes30 : Tryz.prog.bytesOf 30 = 8 := by kernel_rfl
@[simp] theorem zero30 : azero Tryz.prog 30 = some [.nilf] := by kernel_rfl
@[simp] theorem cells31 : Tryz.prog.cellsOf 31 = 1 := by kernel_rfl
@[simp] theorem bytes31 : Tryz.prog.bytesOf 31 = 8 := by kernel_rfl
@[simp] theorem zero31 : azero Tryz.prog 31 = some [.nilf] := by kernel_rfl
@[simp] theorem cells32 : Tryz.prog.cellsOf 32 = 2 := by kernel_rfl
@[simp] theorem bytes32 : Tryz.prog.bytesOf 32 = 32 := by kernel_rfl
@[simp] theorem zero32 : azero Tryz.prog 32 = some [.str [], .str []] := by kernel_rfl
@[simp] theorem cells33 : Tryz.prog.cellsOf 33 = 1 := by kernel_rfl
@[simp] theorem bytes33 : Tryz.prog.bytesOf 33 = 24 := by kernel_rfl
@[simp] theorem zero33 : azero Tryz.prog 33 = some [.sl 0 [] .full] := by kernel_rfl
@[simp] theorem cells34 : Tryz.prog.cellsOf 34 = 1 := by kernel_rfl
@[simp] theorem bytes34 : Tryz.prog.bytesOf 34 = 8 := by kernel_rfl
@[simp] theorem zero34 : azero Tryz.prog 34 = some [.nilf] := by kernel_rfl
@[simp] theorem cells35 : Tryz.prog.cellsOf 35 = 1 := by kernel_rfl
@[simp] theorem bytes35 : Tryz.prog.bytesOf 35 = 8 := by kernel_rfl
@[simp] theorem zero35 : azero Tryz.prog 35 = some [.nilf] := by kernel_rfl
@[simp] theorem cells36 : Tryz.prog.cellsOf 36 = 1 := by kernel_rfl
@[simp] theorem bytes36 : Tryz.prog.bytesOf 36 = 8 := by kernel_rfl
@[simp] theorem zero36 : azero Tryz.prog 36 = some [.nilf] := by kernel_rfl
@[simp] theorem cells37 : Tryz.prog.cellsOf 37 = 1 := by kernel_rfl
@[simp] theorem bytes37 : Tryz.prog.bytesOf 37 = 8 := by kernel_rfl
@[simp] theorem zero37 : azero Tryz.prog 37 = some [.nilf] := by kernel_rfl
@[simp] theorem cells38 : Tryz.prog.cellsOf 38 = 1 := by kernel_rfl
@[simp] theorem bytes38 : Tryz.prog.bytesOf 38 = 24 := by kernel_rfl
@[simp] theorem zero38 : azero Tryz.prog 38 = some [.sl 0 [] .full] := by kernel_rfl
@[simp] theorem cells39 : Tryz.prog.cellsOf 39 = 1 := by kernel_rfl
@[simp] theorem bytes39 : Tryz.prog.bytesOf 39 = 8 := by kernel_rfl
@[simp] theorem zero39 : azero Tryz.prog 39 = some [.nilf] := by kernel_rfl
@[simp] theorem cells40 : Tryz.prog.cellsOf 40 = 1 := by kernel_rfl
@[simp] theorem bytes40 : Tryz.prog.bytesOf 40 = 8 := by kernel_rfl
@[simp] theorem zero40 : azero Tryz.prog 40 = some [.int .i64 0] := by kernel_rfl
@[simp] theorem cells41 : Tryz.prog.cellsOf 41 = 1 := by kernel_rfl
@[simp] theorem bytes41 : Tryz.prog.bytesOf 41 = 0 := by kernel_rfl
@[simp] theorem cells42 : Tryz.prog.cellsOf 42 = 1 := by kernel_rfl
@[simp] theorem bytes42 : Tryz.prog.bytesOf 42 = 8 := by kernel_rfl
@[simp] theorem zero42 : azero Tryz.prog 42 = some [.nilf] := by kernel_rfl
@[simp] theorem cells43 : Tryz.prog.cellsOf 43 = 1 := by kernel_rfl
@[simp] theorem bytes43 : Tryz.prog.bytesOf 43 = 8 := by kernel_rfl
@[simp] theorem zero43 : azero Tryz.prog 43 = some [.nilf] := by kernel_rfl
@[simp] theorem cells44 : Tryz.prog.cellsOf 44 = 1 := by kernel_rfl
@[simp] theorem bytes44 : Tryz.prog.bytesOf 44 = 8 := by kernel_rfl
@[simp] theorem zero44 : azero Tryz.prog 44 = some [.nilf] := by kernel_rfl
@[simp] theorem cells45 : Tryz.prog.cellsOf 45 = 1 := by kernel_rfl
@[simp] theorem bytes45 : Tryz.prog.bytesOf 45 = 0 := by kernel_rfl
@[simp] theorem cells46 : Tryz.prog.cellsOf 46 = 1 := by kernel_rfl
@[simp] theorem bytes46 : Tryz.prog.bytesOf 46 = 8 := by kernel_rfl
@[simp] theorem zero46 : azero Tryz.prog 46 = some [.nilf] := by kernel_rfl
@[simp] theorem cells47 : Tryz.prog.cellsOf 47 = 1 := by kernel_rfl
@[simp] theorem bytes47 : Tryz.prog.bytesOf 47 = 0 := by kernel_rfl
@[simp] theorem cells48 : Tryz.prog.cellsOf 48 = 1 := by kernel_rfl
@[simp] theorem bytes48 : Tryz.prog.bytesOf 48 = 8 := by kernel_rfl
@[simp] theorem zero48 : azero Tryz.prog 48 = some [.nilf] := by kernel_rfl
@[simp] theorem cells49 : Tryz.prog.cellsOf 49 = 1 := by kernel_rfl
@[simp] theorem bytes49 : Tryz.prog.bytesOf 49 = 8 := by kernel_rfl
@[simp] theorem zero49 : azero Tryz.prog 49 = some [.nilf] := by kernel_rfl
@[simp] theorem cells50 : Tryz.prog.cellsOf 50 = 1 := by kernel_rfl
@[simp] theorem bytes50 : Tryz.prog.bytesOf 50 = 0 := by kernel_rfl
@[simp] theorem cells51 : Tryz.prog.cellsOf 51 = 1 := by kernel_rfl
@[simp] theorem bytes51 : Tryz.prog.bytesOf 51 = 8 := by kernel_rfl
@[simp] theorem zero51 : azero Tryz.prog 51 = some [.nilf] := by kernel_rfl
@[simp] theorem cells52 : Tryz.prog.cellsOf 52 = 1 := by kernel_rfl
@[simp] theorem bytes52 : Tryz.prog.bytesOf 52 = 8 := by kernel_rfl
@[simp] theorem zero52 : azero Tryz.prog 52 = some [.nilf] := by kernel_rfl
@[simp] theorem cells53 : Tryz.prog.cellsOf 53 = 1 := by kernel_rfl
@[simp] theorem bytes53 : Tryz.prog.bytesOf 53 = 8 := by kernel_rfl
@[simp] theorem zero53 : azero Tryz.prog 53 = some [.nilf] := by kernel_rfl
@[simp] theorem cells54 : Tryz.prog.cellsOf 54 = 1 := by kernel_rfl
@[simp] theorem bytes54 : Tryz.prog.bytesOf 54 = 8 := by kernel_rfl
@[simp] theorem zero54 : azero Tryz.prog 54 = some [.nilf] := by kernel_rfl
@[simp] theorem cells55 : Tryz.prog.cellsOf 55 = 1 := by kernel_rfl
@[simp] theorem bytes55 : Tryz.prog.bytesOf 55 = 8 := by kernel_rfl
@[simp] theorem zero55 : azero Tryz.prog 55 = some [.nilf] := by kernel_rfl
@[simp] theorem cells56 : Tryz.prog.cellsOf 56 = 1 := by kernel_rfl
@[simp] theorem bytes56 : Tryz.prog.bytesOf 56 = 8 := by kernel_rfl
@[simp] theorem zero56 : azero Tryz.prog 56 = some [.nilf] := by kernel_rfl
@[simp] theorem cells57 : Tryz.prog.cellsOf 57 = 1 := by kernel_rfl
@[simp] theorem bytes57 : Tryz.prog.bytesOf 57 = 8 := by kernel_rfl
@[simp] theorem zero57 : azero Tryz.prog 57 = some [.nilf] := by kernel_rfl
@[simp] theorem cells58 : Tryz.prog.cellsOf 58 = 1 := by kernel_rfl
@[simp] theorem bytes58 : Tryz.prog.bytesOf 58 = 8 := by kernel_rfl
@[simp] theorem zero58 : azero Tryz.prog 58 = some [.nilf] := by kernel_rfl
@[simp] theorem cells59 : Tryz.prog.cellsOf 59 = 1 := by kernel_rfl
@[simp] theorem bytes59 : Tryz.prog.bytesOf 59 = 8 := by kernel_rfl
@[simp] theorem zero59 : azero Tryz.prog 59 = some [.nilf] := by kernel_rfl
@[simp] theorem cells60 : Tryz.prog.cellsOf 60 = 1 := by kernel_rfl
@[simp] theorem bytes60 : Tryz.prog.bytesOf 60 = 8 := by kernel_rfl
@[simp] theorem zero60 : azero Tryz.prog 60 = some [.nilf] := by kernel_rfl
@[simp] theorem cells61 : Tryz.prog.cellsOf 61 = 1 := by kernel_rfl
@[simp] theorem bytes61 : Tryz.prog.bytesOf 61 = 8 := by kernel_rfl
@[simp] theorem zero61 : azero Tryz.prog 61 = some [.nilf] := by kernel_rfl
@[simp] theorem cells62 : Tryz.prog.cellsOf 62 = 1 := by kernel_rfl
@[simp] theorem bytes62 : Tryz.prog.bytesOf 62 = 8 := by kernel_rfl
@[simp] theorem zero62 : azero Tryz.prog 62 = some [.nilf] := by kernel_rfl
@[simp] theorem cells63 : Tryz.prog.cellsOf 63 = 1 := by kernel_rfl
@[simp] theorem bytes63 : Tryz.prog.bytesOf 63 = 8 := by kernel_rfl
@[simp] theorem zero63 : azero Tryz.prog 63 = some [.int .u64 0] := by kernel_rfl
@[simp] theorem cells64 : Tryz.prog.cellsOf 64 = 1 := by kernel_rfl
@[simp] theorem bytes64 : Tryz.prog.bytesOf 64 = 8 := by kernel_rfl
@[simp] theorem zero64 : azero Tryz.prog 64 = some [.nilf] := by kernel_rfl
@[simp] theorem cells65 : Tryz.prog.cellsOf 65 = 1 := by kernel_rfl
@[simp] theorem bytes65 : Tryz.prog.bytesOf 65 = 8 := by kernel_rfl
@[simp] theorem zero65 : azero Tryz.prog 65 = some [.nilf] := by kernel_rfl
@[simp] theorem cells66 : Tryz.prog.cellsOf 66 = 1 := by kernel_rfl
@[simp] theorem bytes66 : Tryz.prog.bytesOf 66 = 8 := by kernel_rfl
@[simp] theorem zero66 : azero Tryz.prog 66 = some [.nilf] := by kernel_rfl
@[simp] theorem cells67 : Tryz.prog.cellsOf 67 = 1 := by kernel_rfl
@[simp] theorem bytes67 : Tryz.prog.bytesOf 67 = 8 := by kernel_rfl
@[simp] theorem zero67 : azero Tryz.prog 67 = some [.nilf] := by kernel_rfl
@[simp] theorem cells68 : Tryz.prog.cellsOf 68 = 1 := by kernel_rfl
@[simp] theorem bytes68 : Tryz.prog.bytesOf 68 = 0 := by kernel_rfl
@[simp] theorem cells69 : Tryz.prog.cellsOf 69 = 1 := by kernel_rfl
@[simp] theorem bytes69 : Tryz.prog.bytesOf 69 = 8 := by kernel_rfl
@[simp] theorem zero69 : azero Tryz.prog 69 = some [.nilf] := by kernel_rfl
@[simp] theorem cells70 : Tryz.prog.cellsOf 70 = 1 := by kernel_rfl
@[simp] theorem bytes70 : Tryz.prog.bytesOf 70 = 8 := by kernel_rfl
@[simp] theorem zero70 : azero Tryz.prog 70 = some [.nilf] := by kernel_rfl
@[simp] theorem cells71 : Tryz.prog.cellsOf 71 = 1 := by kernel_rfl
@[simp] theorem bytes71 : Tryz.prog.bytesOf 71 = 8 := by kernel_rfl
@[simp] theorem zero71 : azero Tryz.prog 71 = some [.nilf] := by kernel_rfl
@[simp] theorem cells72 : Tryz.prog.cellsOf 72 = 1 := by kernel_rfl
@[simp] theorem bytes72 : Tryz.prog.bytesOf 72 = 0 := by kernel_rfl
@[simp] theorem cells73 : Tryz.prog.cellsOf 73 = 1 := by kernel_rfl
@[simp] theorem bytes73 : Tryz.prog.bytesOf 73 = 8 := by kernel_rfl
@[simp] theorem zero73 : azero Tryz.prog 73 = some [.nilf] := by kernel_rfl
@[simp] theorem cells74 : Tryz.prog.cellsOf 74 = 1 := by kernel_rfl
@[simp] theorem bytes74 : Tryz.prog.bytesOf 74 = 8 := by kernel_rfl
@[simp] theorem zero74 : azero Tryz.prog 74 = some [.nilf] := by kernel_rfl
@[simp] theorem cells75 : Tryz.prog.cellsOf 75 = 1 := by kernel_rfl
@[simp] theorem bytes75 : Tryz.prog.bytesOf 75 = 8 := by kernel_rfl
@[simp] theorem zero75 : azero Tryz.prog 75 = some [.nilf] := by kernel_rfl
@[simp] theorem cells76 : Tryz.prog.cellsOf 76 = 1 := by kernel_rfl
@[simp] theorem bytes76 : Tryz.prog.bytesOf 76 = 8 := by kernel_rfl
@[simp] theorem zero76 : azero Tryz.prog 76 = some [.nilp] := by kernel_rfl
@[simp] theorem cells77 : Tryz.prog.cellsOf 77 = 2 := by kernel_rfl
@[simp] theorem bytes77 : Tryz.prog.bytesOf 77 = 32 := by kernel_rfl
@[simp] theorem stood77 : Tryz.prog.stoodInHeld 77 = false := by kernel_rfl
@[simp] theorem eqg77 : Tryz.prog.eqGuardType Tryz.prog.depth 77 = false := by kernel_rfl
@[simp] theorem zero77 : azero Tryz.prog 77 = some [.sl 0 [] .full, .bool false] := by kernel_rfl
@[simp] theorem cells78 : Tryz.prog.cellsOf 78 = 2 := by kernel_rfl
@[simp] theorem bytes78 : Tryz.prog.bytesOf 78 = 32 := by kernel_rfl
@[simp] theorem stood78 : Tryz.prog.stoodInHeld 78 = false := by kernel_rfl
@[simp] theorem eqg78 : Tryz.prog.eqGuardType Tryz.prog.depth 78 = false := by kernel_rfl
@[simp] theorem zero78 : azero Tryz.prog 78 = some [.sl 0 [] .full, .bool false] := by kernel_rfl
@[simp] theorem cells79 : Tryz.prog.cellsOf 79 = 1 := by kernel_rfl
@[simp] theorem bytes79 : Tryz.prog.bytesOf 79 = 8 := by kernel_rfl
@[simp] theorem zero79 : azero Tryz.prog 79 = some [.nilf] := by kernel_rfl
@[simp] theorem cells80 : Tryz.prog.cellsOf 80 = 1 := by kernel_rfl
@[simp] theorem bytes80 : Tryz.prog.bytesOf 80 = 8 := by kernel_rfl
@[simp] theorem zero80 : azero Tryz.prog 80 = some [.nilf] := by kernel_rfl
@[simp] theorem cells81 : Tryz.prog.cellsOf 81 = 1 := by kernel_rfl
@[simp] theorem bytes81 : Tryz.prog.bytesOf 81 = 0 := by kernel_rfl
@[simp] theorem cells82 : Tryz.prog.cellsOf 82 = 1 := by kernel_rfl
@[simp] theorem bytes82 : Tryz.prog.bytesOf 82 = 8 := by kernel_rfl
@[simp] theorem zero82 : azero Tryz.prog 82 = some [.nilf] := by kernel_rfl
@[simp] theorem cells83 : Tryz.prog.cellsOf 83 = 1 := by kernel_rfl
@[simp] theorem bytes83 : Tryz.prog.bytesOf 83 = 8 := by kernel_rfl
@[simp] theorem zero83 : azero Tryz.prog 83 = some [.nilf] := by kernel_rfl
@[simp] theorem cells84 : Tryz.prog.cellsOf 84 = 1 := by kernel_rfl
@[simp] theorem bytes84 : Tryz.prog.bytesOf 84 = 8 := by kernel_rfl
@[simp] theorem zero84 : azero Tryz.prog 84 = some [.nilf] := by kernel_rfl
@[simp] theorem cells85 : Tryz.prog.cellsOf 85 = 1 := by kernel_rfl
@[simp] theorem bytes85 : Tryz.prog.bytesOf 85 = 8 := by kernel_rfl
@[simp] theorem zero85 : azero Tryz.prog 85 = some [.nilf] := by kernel_rfl
@[simp] theorem cells86 : Tryz.prog.cellsOf 86 = 1 := by kernel_rfl
@[simp] theorem bytes86 : Tryz.prog.bytesOf 86 = 8 := by kernel_rfl
@[simp] theorem zero86 : azero Tryz.prog 86 = some [.nilf] := by kernel_rfl
@[simp] theorem cells87 : Tryz.prog.cellsOf 87 = 1 := by kernel_rfl
@[simp] theorem bytes87 : Tryz.prog.bytesOf 87 = 8 := by kernel_rfl
@[simp] theorem zero87 : azero Tryz.prog 87 = some [.nilf] := by kernel_rfl
@[simp] theorem cells88 : Tryz.prog.cellsOf 88 = 256 := by kernel_rfl
@[simp] theorem bytes88 : Tryz.prog.bytesOf 88 = 256 := by kernel_rfl
@[simp] theorem cells89 : Tryz.prog.cellsOf 89 = 256 := by kernel_rfl
@[simp] theorem bytes89 : Tryz.prog.bytesOf 89 = 256 := by kernel_rfl
@[simp] theorem cells90 : Tryz.prog.cellsOf 90 = 1 := by kernel_rfl
@[simp] theorem bytes90 : Tryz.prog.bytesOf 90 = 0 := by kernel_rfl
@[simp] theorem cells91 : Tryz.prog.cellsOf 91 = 1 := by kernel_rfl
@[simp] theorem bytes91 : Tryz.prog.bytesOf 91 = 8 := by kernel_rfl
@[simp] theorem zero91 : azero Tryz.prog 91 = some [.nilf] := by kernel_rfl
@[simp] theorem cells92 : Tryz.prog.cellsOf 92 = 1 := by kernel_rfl
@[simp] theorem bytes92 : Tryz.prog.bytesOf 92 = 8 := by kernel_rfl
@[simp] theorem zero92 : azero Tryz.prog 92 = some [.nilf] := by kernel_rfl
@[simp] theorem cells93 : Tryz.prog.cellsOf 93 = 1 := by kernel_rfl
@[simp] theorem bytes93 : Tryz.prog.bytesOf 93 = 8 := by kernel_rfl
@[simp] theorem zero93 : azero Tryz.prog 93 = some [.nilp] := by kernel_rfl
@[simp] theorem cells94 : Tryz.prog.cellsOf 94 = 1 := by kernel_rfl
@[simp] theorem bytes94 : Tryz.prog.bytesOf 94 = 16 := by kernel_rfl
@[simp] theorem zero94 : azero Tryz.prog 94 = some [.nili] := by kernel_rfl
@[simp] theorem cells95 : Tryz.prog.cellsOf 95 = 1 := by kernel_rfl
@[simp] theorem bytes95 : Tryz.prog.bytesOf 95 = 16 := by kernel_rfl
@[simp] theorem zero95 : azero Tryz.prog 95 = some [.nili] := by kernel_rfl
@[simp] theorem cells96 : Tryz.prog.cellsOf 96 = 1 := by kernel_rfl
@[simp] theorem bytes96 : Tryz.prog.bytesOf 96 = 0 := by kernel_rfl
@[simp] theorem cells97 : Tryz.prog.cellsOf 97 = 1 := by kernel_rfl
@[simp] theorem bytes97 : Tryz.prog.bytesOf 97 = 8 := by kernel_rfl
@[simp] theorem zero97 : azero Tryz.prog 97 = some [.nilf] := by kernel_rfl
@[simp] theorem cells98 : Tryz.prog.cellsOf 98 = 1 := by kernel_rfl
@[simp] theorem bytes98 : Tryz.prog.bytesOf 98 = 0 := by kernel_rfl
@[simp] theorem cells99 : Tryz.prog.cellsOf 99 = 1 := by kernel_rfl
@[simp] theorem bytes99 : Tryz.prog.bytesOf 99 = 8 := by kernel_rfl
@[simp] theorem zero99 : azero Tryz.prog 99 = some [.nilf] := by kernel_rfl
@[simp] theorem cells100 : Tryz.prog.cellsOf 100 = 1 := by kernel_rfl
@[simp] theorem bytes100 : Tryz.prog.bytesOf 100 = 24 := by kernel_rfl
@[simp] theorem zero100 : azero Tryz.prog 100 = some [.sl 0 [] .full] := by kernel_rfl
@[simp] theorem cells101 : Tryz.prog.cellsOf 101 = 1 := by kernel_rfl
@[simp] theorem bytes101 : Tryz.prog.bytesOf 101 = 8 := by kernel_rfl
@[simp] theorem zero101 : azero Tryz.prog 101 = some [.nilf] := by kernel_rfl
@[simp] theorem cells102 : Tryz.prog.cellsOf 102 = 1 := by kernel_rfl
@[simp] theorem bytes102 : Tryz.prog.bytesOf 102 = 8 := by kernel_rfl
@[simp] theorem zero102 : azero Tryz.prog 102 = some [.nilf] := by kernel_rfl
@[simp] theorem cells103 : Tryz.prog.cellsOf 103 = 1 := by kernel_rfl
@[simp] theorem bytes103 : Tryz.prog.bytesOf 103 = 0 := by kernel_rfl
@[simp] theorem cells104 : Tryz.prog.cellsOf 104 = 1 := by kernel_rfl
@[simp] theorem bytes104 : Tryz.prog.bytesOf 104 = 8 := by kernel_rfl
@[simp] theorem zero104 : azero Tryz.prog 104 = some [.nilf] := by kernel_rfl
@[simp] theorem cells105 : Tryz.prog.cellsOf 105 = 1 := by kernel_rfl
@[simp] theorem bytes105 : Tryz.prog.bytesOf 105 = 8 := by kernel_rfl
@[simp] theorem zero105 : azero Tryz.prog 105 = some [.nilf] := by kernel_rfl
@[simp] theorem cells106 : Tryz.prog.cellsOf 106 = 1 := by kernel_rfl
@[simp] theorem bytes106 : Tryz.prog.bytesOf 106 = 8 := by kernel_rfl
@[simp] theorem zero106 : azero Tryz.prog 106 = some [.nilf] := by kernel_rfl
@[simp] theorem cells107 : Tryz.prog.cellsOf 107 = 1 := by kernel_rfl
@[simp] theorem bytes107 : Tryz.prog.bytesOf 107 = 8 := by kernel_rfl
@[simp] theorem zero107 : azero Tryz.prog 107 = some [.nilf] := by kernel_rfl
@[simp] theorem cells108 : Tryz.prog.cellsOf 108 = 1 := by kernel_rfl
@[simp] theorem bytes108 : Tryz.prog.bytesOf 108 = 8 := by kernel_rfl
@[simp] theorem zero108 : azero Tryz.prog 108 = some [.nilf] := by kernel_rfl
@[simp] theorem cells109 : Tryz.prog.cellsOf 109 = 1 := by kernel_rfl
@[simp] theorem bytes109 : Tryz.prog.bytesOf 109 = 8 := by kernel_rfl
@[simp] theorem zero109 : azero Tryz.prog 109 = some [.nilf] := by kernel_rfl
@[simp] theorem cells110 : Tryz.prog.cellsOf 110 = 1 := by kernel_rfl
@[simp] theorem bytes110 : Tryz.prog.bytesOf 110 = 8 := by kernel_rfl
@[simp] theorem zero110 : azero Tryz.prog 110 = some [.nilf] := by kernel_rfl
@[simp] theorem cells111 : Tryz.prog.cellsOf 111 = 1 := by kernel_rfl
@[simp] theorem bytes111 : Tryz.prog.bytesOf 111 = 8 := by kernel_rfl
@[simp] theorem zero111 : azero Tryz.prog 111 = some [.int .i64 0] := by kernel_rfl
@[simp] theorem cells112 : Tryz.prog.cellsOf 112 = 1 := by kernel_rfl
@[simp] theorem bytes112 : Tryz.prog.bytesOf 112 = 0 := by kernel_rfl
@[simp] theorem cells113 : Tryz.prog.cellsOf 113 = 1 := by kernel_rfl
@[simp] theorem bytes113 : Tryz.prog.bytesOf 113 = 8 := by kernel_rfl
@[simp] theorem zero113 : azero Tryz.prog 113 = some [.nilf] := by kernel_rfl
@[simp] theorem cells114 : Tryz.prog.cellsOf 114 = 1 := by kernel_rfl
@[simp] theorem bytes114 : Tryz.prog.bytesOf 114 = 8 := by kernel_rfl
@[simp] theorem zero114 : azero Tryz.prog 114 = some [.nilp] := by kernel_rfl
@[simp] theorem cells115 : Tryz.prog.cellsOf 115 = 1 := by kernel_rfl
@[simp] theorem bytes115 : Tryz.prog.bytesOf 115 = 8 := by kernel_rfl
@[simp] theorem zero115 : azero Tryz.prog 115 = some [.nilf] := by kernel_rfl
@[simp] theorem cells116 : Tryz.prog.cellsOf 116 = 1 := by kernel_rfl
@[simp] theorem bytes116 : Tryz.prog.bytesOf 116 = 8 := by kernel_rfl
@[simp] theorem zero116 : azero Tryz.prog 116 = some [.nilf] := by kernel_rfl
@[simp] theorem cells117 : Tryz.prog.cellsOf 117 = 1 := by kernel_rfl
@[simp] theorem bytes117 : Tryz.prog.bytesOf 117 = 8 := by kernel_rfl
@[simp] theorem zero117 : azero Tryz.prog 117 = some [.nilf] := by kernel_rfl
@[simp] theorem cells118 : Tryz.prog.cellsOf 118 = 24 := by kernel_rfl
@[simp] theorem bytes118 : Tryz.prog.bytesOf 118 = 24 := by kernel_rfl
@[simp] theorem cells119 : Tryz.prog.cellsOf 119 = 1 := by kernel_rfl
@[simp] theorem bytes119 : Tryz.prog.bytesOf 119 = 8 := by kernel_rfl
@[simp] theorem zero119 : azero Tryz.prog 119 = some [.int .u64 0] := by kernel_rfl
@[simp] theorem cells120 : Tryz.prog.cellsOf 120 = 1 := by kernel_rfl
@[simp] theorem bytes120 : Tryz.prog.bytesOf 120 = 8 := by kernel_rfl
@[simp] theorem zero120 : azero Tryz.prog 120 = some [.nilf] := by kernel_rfl
@[simp] theorem cells121 : Tryz.prog.cellsOf 121 = 1 := by kernel_rfl
@[simp] theorem bytes121 : Tryz.prog.bytesOf 121 = 8 := by kernel_rfl
@[simp] theorem zero121 : azero Tryz.prog 121 = some [.nilf] := by kernel_rfl
@[simp] theorem cells122 : Tryz.prog.cellsOf 122 = 1 := by kernel_rfl
@[simp] theorem bytes122 : Tryz.prog.bytesOf 122 = 0 := by kernel_rfl
@[simp] theorem cells123 : Tryz.prog.cellsOf 123 = 1 := by kernel_rfl
@[simp] theorem bytes123 : Tryz.prog.bytesOf 123 = 8 := by kernel_rfl
@[simp] theorem zero123 : azero Tryz.prog 123 = some [.nilf] := by kernel_rfl
@[simp] theorem cells124 : Tryz.prog.cellsOf 124 = 1 := by kernel_rfl
@[simp] theorem bytes124 : Tryz.prog.bytesOf 124 = 4 := by kernel_rfl
@[simp] theorem zero124 : azero Tryz.prog 124 = some [.int .u32 0] := by kernel_rfl
@[simp] theorem cells125 : Tryz.prog.cellsOf 125 = 1 := by kernel_rfl
@[simp] theorem bytes125 : Tryz.prog.bytesOf 125 = 0 := by kernel_rfl
@[simp] theorem cells126 : Tryz.prog.cellsOf 126 = 1 := by kernel_rfl
@[simp] theorem bytes126 : Tryz.prog.bytesOf 126 = 8 := by kernel_rfl
@[simp] theorem zero126 : azero Tryz.prog 126 = some [.nilf] := by kernel_rfl
@[simp] theorem cells127 : Tryz.prog.cellsOf 127 = 256 := by kernel_rfl
@[simp] theorem bytes127 : Tryz.prog.bytesOf 127 = 256 := by kernel_rfl
@[simp] theorem cells128 : Tryz.prog.cellsOf 128 = 2 := by kernel_rfl
@[simp] theorem bytes128 : Tryz.prog.bytesOf 128 = 2 := by kernel_rfl
@[simp] theorem stood128 : Tryz.prog.stoodInHeld 128 = false := by kernel_rfl
@[simp] theorem eqg128 : Tryz.prog.eqGuardType Tryz.prog.depth 128 = false := by kernel_rfl
@[simp] theorem zero128 : azero Tryz.prog 128 = some [.int .u8 0, .int .u8 0] := by kernel_rfl
@[simp] theorem cells129 : Tryz.prog.cellsOf 129 = 2 := by kernel_rfl
@[simp] theorem bytes129 : Tryz.prog.bytesOf 129 = 2 := by kernel_rfl
@[simp] theorem stood129 : Tryz.prog.stoodInHeld 129 = false := by kernel_rfl
@[simp] theorem eqg129 : Tryz.prog.eqGuardType Tryz.prog.depth 129 = false := by kernel_rfl
@[simp] theorem zero129 : azero Tryz.prog 129 = some [.int .u8 0, .int .u8 0] := by kernel_rfl
@[simp] theorem cells130 : Tryz.prog.cellsOf 130 = 32 := by kernel_rfl
@[simp] theorem bytes130 : Tryz.prog.bytesOf 130 = 32 := by kernel_rfl
@[simp] theorem cells131 : Tryz.prog.cellsOf 131 = 1 := by kernel_rfl
@[simp] theorem bytes131 : Tryz.prog.bytesOf 131 = 8 := by kernel_rfl
@[simp] theorem zero131 : azero Tryz.prog 131 = some [.nilf] := by kernel_rfl
@[simp] theorem cells132 : Tryz.prog.cellsOf 132 = 1 := by kernel_rfl
@[simp] theorem bytes132 : Tryz.prog.bytesOf 132 = 0 := by kernel_rfl
@[simp] theorem cells133 : Tryz.prog.cellsOf 133 = 1 := by kernel_rfl
@[simp] theorem bytes133 : Tryz.prog.bytesOf 133 = 8 := by kernel_rfl
@[simp] theorem zero133 : azero Tryz.prog 133 = some [.nilf] := by kernel_rfl
@[simp] theorem cells134 : Tryz.prog.cellsOf 134 = 1 := by kernel_rfl
@[simp] theorem bytes134 : Tryz.prog.bytesOf 134 = 8 := by kernel_rfl
@[simp] theorem zero134 : azero Tryz.prog 134 = some [.nilf] := by kernel_rfl
@[simp] theorem cells135 : Tryz.prog.cellsOf 135 = 3 := by kernel_rfl
@[simp] theorem bytes135 : Tryz.prog.bytesOf 135 = 48 := by kernel_rfl
@[simp] theorem stood135 : Tryz.prog.stoodInHeld 135 = false := by kernel_rfl
@[simp] theorem eqg135 : Tryz.prog.eqGuardType Tryz.prog.depth 135 = true := by kernel_rfl
@[simp] theorem zero135 : azero Tryz.prog 135 = some [.str [], .str [], .nili] := by kernel_rfl
@[simp] theorem cells136 : Tryz.prog.cellsOf 136 = 3 := by kernel_rfl
@[simp] theorem bytes136 : Tryz.prog.bytesOf 136 = 48 := by kernel_rfl
@[simp] theorem stood136 : Tryz.prog.stoodInHeld 136 = false := by kernel_rfl
@[simp] theorem eqg136 : Tryz.prog.eqGuardType Tryz.prog.depth 136 = true := by kernel_rfl
@[simp] theorem zero136 : azero Tryz.prog 136 = some [.str [], .str [], .nili] := by kernel_rfl
@[simp] theorem cells137 : Tryz.prog.cellsOf 137 = 1 := by kernel_rfl
@[simp] theorem bytes137 : Tryz.prog.bytesOf 137 = 8 := by kernel_rfl
@[simp] theorem zero137 : azero Tryz.prog 137 = some [.nilf] := by kernel_rfl
@[simp] theorem cells138 : Tryz.prog.cellsOf 138 = 1 := by kernel_rfl
@[simp] theorem bytes138 : Tryz.prog.bytesOf 138 = 8 := by kernel_rfl
@[simp] theorem zero138 : azero Tryz.prog 138 = some [.nilf] := by kernel_rfl
@[simp] theorem cells139 : Tryz.prog.cellsOf 139 = 1 := by kernel_rfl
@[simp] theorem bytes139 : Tryz.prog.bytesOf 139 = 8 := by kernel_rfl
@[simp] theorem zero139 : azero Tryz.prog 139 = some [.nilf] := by kernel_rfl
@[simp] theorem cells140 : Tryz.prog.cellsOf 140 = 20 := by kernel_rfl
@[simp] theorem bytes140 : Tryz.prog.bytesOf 140 = 160 := by kernel_rfl
@[simp] theorem cells141 : Tryz.prog.cellsOf 141 = 65 := by kernel_rfl
@[simp] theorem bytes141 : Tryz.prog.bytesOf 141 = 65 := by kernel_rfl
@[simp] theorem cells142 : Tryz.prog.cellsOf 142 = 1 := by kernel_rfl
@[simp] theorem bytes142 : Tryz.prog.bytesOf 142 = 8 := by kernel_rfl
@[simp] theorem zero142 : azero Tryz.prog 142 = some [.nilf] := by kernel_rfl
@[simp] theorem cells143 : Tryz.prog.cellsOf 143 = 1 := by kernel_rfl
@[simp] theorem bytes143 : Tryz.prog.bytesOf 143 = 8 := by kernel_rfl
@[simp] theorem zero143 : azero Tryz.prog 143 = some [.nilf] := by kernel_rfl
@[simp] theorem cells144 : Tryz.prog.cellsOf 144 = 1 := by kernel_rfl
@[simp] theorem bytes144 : Tryz.prog.bytesOf 144 = 8 := by kernel_rfl
@[simp] theorem zero144 : azero Tryz.prog 144 = some [.nilp] := by kernel_rfl
@[simp] theorem cells145 : Tryz.prog.cellsOf 145 = 1 := by kernel_rfl
@[simp] theorem bytes145 : Tryz.prog.bytesOf 145 = 8 := by kernel_rfl
@[simp] theorem zero145 : azero Tryz.prog 145 = some [.nilp] := by kernel_rfl
@[simp] theorem cells146 : Tryz.prog.cellsOf 146 = 1 := by kernel_rfl
@[simp] theorem bytes146 : Tryz.prog.bytesOf 146 = 16 := by kernel_rfl
@[simp] theorem stood146 : Tryz.prog.stoodInHeld 146 = false := by kernel_rfl
@[simp] theorem eqg146 : Tryz.prog.eqGuardType Tryz.prog.depth 146 = false := by kernel_rfl
@[simp] theorem zero146 : azero Tryz.prog 146 = some [.str []] := by kernel_rfl
@[simp] theorem cells147 : Tryz.prog.cellsOf 147 = 1 := by kernel_rfl
@[simp] theorem bytes147 : Tryz.prog.bytesOf 147 = 16 := by kernel_rfl
@[simp] theorem stood147 : Tryz.prog.stoodInHeld 147 = false := by kernel_rfl
@[simp] theorem eqg147 : Tryz.prog.eqGuardType Tryz.prog.depth 147 = false := by kernel_rfl
@[simp] theorem zero147 : azero Tryz.prog 147 = some [.str []] := by kernel_rfl
@[simp] theorem cells148 : Tryz.prog.cellsOf 148 = 1 := by kernel_rfl
@[simp] theorem bytes148 : Tryz.prog.bytesOf 148 = 8 := by kernel_rfl
@[simp] theorem zero148 : azero Tryz.prog 148 = some [.nilf] := by kernel_rfl
@[simp] theorem cells149 : Tryz.prog.cellsOf 149 = 32 := by kernel_rfl
@[simp] theorem bytes149 : Tryz.prog.bytesOf 149 = 32 := by kernel_rfl
@[simp] theorem cells150 : Tryz.prog.cellsOf 150 = 64 := by kernel_rfl
@[simp] theorem bytes150 : Tryz.prog.bytesOf 150 = 64 := by kernel_rfl
@[simp] theorem cells151 : Tryz.prog.cellsOf 151 = 4 := by kernel_rfl
@[simp] theorem bytes151 : Tryz.prog.bytesOf 151 = 40 := by kernel_rfl
@[simp] theorem stood151 : Tryz.prog.stoodInHeld 151 = true := by kernel_rfl
@[simp] theorem eqg151 : Tryz.prog.eqGuardType Tryz.prog.depth 151 = false := by kernel_rfl
@[simp] theorem zero151 : azero Tryz.prog 151 = some [.nilp, .nilp, .nilp, .str []] := by kernel_rfl
@[simp] theorem cells152 : Tryz.prog.cellsOf 152 = 4 := by kernel_rfl
@[simp] theorem bytes152 : Tryz.prog.bytesOf 152 = 40 := by kernel_rfl
@[simp] theorem stood152 : Tryz.prog.stoodInHeld 152 = true := by kernel_rfl
@[simp] theorem eqg152 : Tryz.prog.eqGuardType Tryz.prog.depth 152 = false := by kernel_rfl
@[simp] theorem zero152 : azero Tryz.prog 152 = some [.nilp, .nilp, .nilp, .str []] := by kernel_rfl
@[simp] theorem cells153 : Tryz.prog.cellsOf 153 = 0 := by kernel_rfl
@[simp] theorem bytes153 : Tryz.prog.bytesOf 153 = 0 := by kernel_rfl
@[simp] theorem zero153 : azero Tryz.prog 153 = some [] := by kernel_rfl
@[simp] theorem cells154 : Tryz.prog.cellsOf 154 = 0 := by kernel_rfl
@[simp] theorem bytes154 : Tryz.prog.bytesOf 154 = 0 := by kernel_rfl
@[simp] theorem stood154 : Tryz.prog.stoodInHeld 154 = true := by kernel_rfl
@[simp] theorem eqg154 : Tryz.prog.eqGuardType Tryz.prog.depth 154 = false := by kernel_rfl
@[simp] theorem zero154 : azero Tryz.prog 154 = some [] := by kernel_rfl
@[simp] theorem cells155 : Tryz.prog.cellsOf 155 = 0 := by kernel_rfl
@[simp] theorem bytes155 : Tryz.prog.bytesOf 155 = 0 := by kernel_rfl
@[simp] theorem stood155 : Tryz.prog.stoodInHeld 155 = true := by kernel_rfl
@[simp] theorem eqg155 : Tryz.prog.eqGuardType Tryz.prog.depth 155 = false := by kernel_rfl
@[simp] theorem zero155 : azero Tryz.prog 155 = some [] := by kernel_rfl
@[simp] theorem cells156 : Tryz.prog.cellsOf 156 = 1 := by kernel_rfl
@[simp] theorem bytes156 : Tryz.prog.bytesOf 156 = 1 := by kernel_rfl
@[simp] theorem zero156 : azero Tryz.prog 156 = some [.int .u8 0] := by kernel_rfl
@[simp] theorem cells157 : Tryz.prog.cellsOf 157 = 1 := by kernel_rfl
@[simp] theorem bytes157 : Tryz.prog.bytesOf 157 = 1 := by kernel_rfl
@[simp] theorem zero157 : azero Tryz.prog 157 = some [.int .u8 0] := by kernel_rfl
@[simp] theorem cells158 : Tryz.prog.cellsOf 158 = 1 := by kernel_rfl
@[simp] theorem bytes158 : Tryz.prog.bytesOf 158 = 8 := by kernel_rfl
@[simp] theorem zero158 : azero Tryz.prog 158 = some [.nilf] := by kernel_rfl
@[simp] theorem cells159 : Tryz.prog.cellsOf 159 = 1 := by kernel_rfl
@[simp] theorem bytes159 : Tryz.prog.bytesOf 159 = 4 := by kernel_rfl
@[simp] theorem zero159 : azero Tryz.prog 159 = some [.int .i32 0] := by kernel_rfl
@[simp] theorem cells160 : Tryz.prog.cellsOf 160 = 1 := by kernel_rfl
@[simp] theorem bytes160 : Tryz.prog.bytesOf 160 = 4 := by kernel_rfl
@[simp] theorem zero160 : azero Tryz.prog 160 = some [.int .i32 0] := by kernel_rfl
@[simp] theorem cells161 : Tryz.prog.cellsOf 161 = 11 := by kernel_rfl
@[simp] theorem bytes161 : Tryz.prog.bytesOf 161 = 48 := by kernel_rfl
@[simp] theorem stood161 : Tryz.prog.stoodInHeld 161 = true := by kernel_rfl
@[simp] theorem eqg161 : Tryz.prog.eqGuardType Tryz.prog.depth 161 = false := by kernel_rfl
@[simp] theorem zero161 : azero Tryz.prog 161 = some [.int .u64 0, .int .u64 0, .int .u32 0, .int .u8 0, .int .u8 0, .int .u8 0, .int .u8 0, .nilf, .nilp, .int .i32 0, .int .i32 0] := by kernel_rfl
@[simp] theorem cells162 : Tryz.prog.cellsOf 162 = 11 := by kernel_rfl
@[simp] theorem bytes162 : Tryz.prog.bytesOf 162 = 48 := by kernel_rfl
@[simp] theorem stood162 : Tryz.prog.stoodInHeld 162 = true := by kernel_rfl
@[simp] theorem eqg162 : Tryz.prog.eqGuardType Tryz.prog.depth 162 = false := by kernel_rfl
@[simp] theorem zero162 : azero Tryz.prog 162 = some [.int .u64 0, .int .u64 0, .int .u32 0, .int .u8 0, .int .u8 0, .int .u8 0, .int .u8 0, .nilf, .nilp, .int .i32 0, .int .i32 0] := by kernel_rfl
@[simp] theorem cells163 : Tryz.prog.cellsOf 163 = 1 := by kernel_rfl
@[simp] theorem bytes163 : Tryz.prog.bytesOf 163 = 8 := by kernel_rfl
@[simp] theorem zero163 : azero Tryz.prog 163 = some [.nilp] := by kernel_rfl
end Go.Proofs.YtnmlpohhommagaaGreatDoor
