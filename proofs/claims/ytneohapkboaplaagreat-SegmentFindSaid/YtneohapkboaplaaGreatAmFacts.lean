/- Sizes and zero values of the types of this translation, as the abstract machine asks for them.
  Conditions: none. -/
import Derived.Test.YtneohapkboaplaaGreatRows
import Derived.Test.YtneohapkboaplaaGreatAmGhost
namespace Go.Proofs.YtneohapkboaplaaGreat
open Go.Am
@[simp] theorem cells0 : Tryz.prog.cellsOf 0 = 1 := by kernel_rfl
@[simp] theorem bytes0 : Tryz.prog.bytesOf 0 = 0 := by kernel_rfl
@[simp] theorem cells1 : Tryz.prog.cellsOf 1 = 1 := by kernel_rfl
@[simp] theorem bytes1 : Tryz.prog.bytesOf 1 = 8 := by kernel_rfl
@[simp] theorem zero1 : azero Tryz.prog 1 = some [.nilf] := by kernel_rfl
@[simp] theorem cells2 : Tryz.prog.cellsOf 2 = 1 := by kernel_rfl
@[simp] theorem bytes2 : Tryz.prog.bytesOf 2 = 8 := by kernel_rfl
@[simp] theorem zero2 : azero Tryz.prog 2 = some [.int .i64 0] := by kernel_rfl
@[simp] theorem cells3 : Tryz.prog.cellsOf 3 = 1 := by kernel_rfl
@[simp] theorem bytes3 : Tryz.prog.bytesOf 3 = 8 := by kernel_rfl
@[simp] theorem zero3 : azero Tryz.prog 3 = some [.int .i64 0] := by kernel_rfl
@[simp] theorem cells4 : Tryz.prog.cellsOf 4 = 1 := by kernel_rfl
@[simp] theorem bytes4 : Tryz.prog.bytesOf 4 = 1 := by kernel_rfl
@[simp] theorem zero4 : azero Tryz.prog 4 = some [.bool false] := by kernel_rfl
@[simp] theorem cells5 : Tryz.prog.cellsOf 5 = 1 := by kernel_rfl
@[simp] theorem bytes5 : Tryz.prog.bytesOf 5 = 1 := by kernel_rfl
@[simp] theorem zero5 : azero Tryz.prog 5 = some [.int .u8 0] := by kernel_rfl
@[simp] theorem cells6 : Tryz.prog.cellsOf 6 = 1 := by kernel_rfl
@[simp] theorem bytes6 : Tryz.prog.bytesOf 6 = 1 := by kernel_rfl
@[simp] theorem zero6 : azero Tryz.prog 6 = some [.int .u8 0] := by kernel_rfl
@[simp] theorem cells7 : Tryz.prog.cellsOf 7 = 4 := by kernel_rfl
@[simp] theorem bytes7 : Tryz.prog.bytesOf 7 = 24 := by kernel_rfl
@[simp] theorem stood7 : Tryz.prog.stoodInHeld 7 = false := by kernel_rfl
@[simp] theorem eqg7 : Tryz.prog.eqGuardType Tryz.prog.depth 7 = false := by kernel_rfl
@[simp] theorem zero7 : azero Tryz.prog 7 = some [.int .i64 0, .int .i64 0, .bool false, .int .u8 0] := by kernel_rfl
@[simp] theorem cells8 : Tryz.prog.cellsOf 8 = 4 := by kernel_rfl
@[simp] theorem bytes8 : Tryz.prog.bytesOf 8 = 24 := by kernel_rfl
@[simp] theorem stood8 : Tryz.prog.stoodInHeld 8 = false := by kernel_rfl
@[simp] theorem eqg8 : Tryz.prog.eqGuardType Tryz.prog.depth 8 = false := by kernel_rfl
@[simp] theorem zero8 : azero Tryz.prog 8 = some [.int .i64 0, .int .i64 0, .bool false, .int .u8 0] := by kernel_rfl
@[simp] theorem cells9 : Tryz.prog.cellsOf 9 = 1 := by kernel_rfl
@[simp] theorem bytes9 : Tryz.prog.bytesOf 9 = 16 := by kernel_rfl
@[simp] theorem zero9 : azero Tryz.prog 9 = some [.str []] := by kernel_rfl
@[simp] theorem cells10 : Tryz.prog.cellsOf 10 = 1 := by kernel_rfl
@[simp] theorem bytes10 : Tryz.prog.bytesOf 10 = 16 := by kernel_rfl
@[simp] theorem zero10 : azero Tryz.prog 10 = some [.str []] := by kernel_rfl
@[simp] theorem cells11 : Tryz.prog.cellsOf 11 = 1 := by kernel_rfl
@[simp] theorem bytes11 : Tryz.prog.bytesOf 11 = 16 := by kernel_rfl
@[simp] theorem zero11 : azero Tryz.prog 11 = some [.str []] := by kernel_rfl
@[simp] theorem cells12 : Tryz.prog.cellsOf 12 = 1 := by kernel_rfl
@[simp] theorem bytes12 : Tryz.prog.bytesOf 12 = 8 := by kernel_rfl
@[simp] theorem zero12 : azero Tryz.prog 12 = some [.int .u64 0] := by kernel_rfl
@[simp] theorem cells13 : Tryz.prog.cellsOf 13 = 2 := by kernel_rfl
@[simp] theorem bytes13 : Tryz.prog.bytesOf 13 = 24 := by kernel_rfl
@[simp] theorem stood13 : Tryz.prog.stoodInHeld 13 = true := by kernel_rfl
@[simp] theorem eqg13 : Tryz.prog.eqGuardType Tryz.prog.depth 13 = false := by kernel_rfl
@[simp] theorem zero13 : azero Tryz.prog 13 = some [.str [], .int .u64 0] := by kernel_rfl
@[simp] theorem cells14 : Tryz.prog.cellsOf 14 = 2 := by kernel_rfl
@[simp] theorem bytes14 : Tryz.prog.bytesOf 14 = 24 := by kernel_rfl
@[simp] theorem stood14 : Tryz.prog.stoodInHeld 14 = true := by kernel_rfl
@[simp] theorem eqg14 : Tryz.prog.eqGuardType Tryz.prog.depth 14 = false := by kernel_rfl
@[simp] theorem zero14 : azero Tryz.prog 14 = some [.str [], .int .u64 0] := by kernel_rfl
@[simp] theorem cells15 : Tryz.prog.cellsOf 15 = 1 := by kernel_rfl
@[simp] theorem bytes15 : Tryz.prog.bytesOf 15 = 8 := by kernel_rfl
@[simp] theorem zero15 : azero Tryz.prog 15 = some [.nilp] := by kernel_rfl
@[simp] theorem cells16 : Tryz.prog.cellsOf 16 = 1 := by kernel_rfl
@[simp] theorem bytes16 : Tryz.prog.bytesOf 16 = 8 := by kernel_rfl
@[simp] theorem zero16 : azero Tryz.prog 16 = some [.nilp] := by kernel_rfl
@[simp] theorem cells17 : Tryz.prog.cellsOf 17 = 1 := by kernel_rfl
@[simp] theorem bytes17 : Tryz.prog.bytesOf 17 = 8 := by kernel_rfl
@[simp] theorem zero17 : azero Tryz.prog 17 = some [.nilp] := by kernel_rfl
@[simp] theorem cells18 : Tryz.prog.cellsOf 18 = 1 := by kernel_rfl
@[simp] theorem bytes18 : Tryz.prog.bytesOf 18 = 8 := by kernel_rfl
@[simp] theorem stood18 : Tryz.prog.stoodInHeld 18 = true := by kernel_rfl
@[simp] theorem eqg18 : Tryz.prog.eqGuardType Tryz.prog.depth 18 = false := by kernel_rfl
@[simp] theorem zero18 : azero Tryz.prog 18 = some [.nilp] := by kernel_rfl
@[simp] theorem cells19 : Tryz.prog.cellsOf 19 = 1 := by kernel_rfl
@[simp] theorem bytes19 : Tryz.prog.bytesOf 19 = 8 := by kernel_rfl
@[simp] theorem stood19 : Tryz.prog.stoodInHeld 19 = true := by kernel_rfl
@[simp] theorem eqg19 : Tryz.prog.eqGuardType Tryz.prog.depth 19 = false := by kernel_rfl
@[simp] theorem zero19 : azero Tryz.prog 19 = some [.nilp] := by kernel_rfl
@[simp] theorem cells20 : Tryz.prog.cellsOf 20 = 1 := by kernel_rfl
@[simp] theorem bytes20 : Tryz.prog.bytesOf 20 = 16 := by kernel_rfl
@[simp] theorem zero20 : azero Tryz.prog 20 = some [.nili] := by kernel_rfl
@[simp] theorem cells21 : Tryz.prog.cellsOf 21 = 1 := by kernel_rfl
@[simp] theorem bytes21 : Tryz.prog.bytesOf 21 = 4 := by kernel_rfl
@[simp] theorem zero21 : azero Tryz.prog 21 = some [.int .i32 0] := by kernel_rfl
@[simp] theorem cells22 : Tryz.prog.cellsOf 22 = 1 := by kernel_rfl
@[simp] theorem bytes22 : Tryz.prog.bytesOf 22 = 24 := by kernel_rfl
@[simp] theorem zero22 : azero Tryz.prog 22 = some [.sl 0 [] .full] := by kernel_rfl
@[simp] theorem cells23 : Tryz.prog.cellsOf 23 = 1 := by kernel_rfl
@[simp] theorem bytes23 : Tryz.prog.bytesOf 23 = 8 := by kernel_rfl
@[simp] theorem zero23 : azero Tryz.prog 23 = some [.nilf] := by kernel_rfl
@[simp] theorem cells24 : Tryz.prog.cellsOf 24 = 1 := by kernel_rfl
@[simp] theorem bytes24 : Tryz.prog.bytesOf 24 = 8 := by kernel_rfl
@[simp] theorem zero24 : azero Tryz.prog 24 = some [.nilf] := by kernel_rfl
@[simp] theorem cells25 : Tryz.prog.cellsOf 25 = 1 := by kernel_rfl
@[simp] theorem bytes25 : Tryz.prog.bytesOf 25 = 24 := by kernel_rfl
@[simp] theorem zero25 : azero Tryz.prog 25 = some [.sl 0 [] .full] := by kernel_rfl
@[simp] theorem cells26 : Tryz.prog.cellsOf 26 = 1 := by kernel_rfl
@[simp] theorem bytes26 : Tryz.prog.bytesOf 26 = 24 := by kernel_rfl
@[simp] theorem zero26 : azero Tryz.prog 26 = some [.sl 0 [] .full] := by kernel_rfl
@[simp] theorem cells27 : Tryz.prog.cellsOf 27 = 1 := by kernel_rfl
@[simp] theorem bytes27 : Tryz.prog.bytesOf 27 = 24 := by kernel_rfl
@[simp] theorem zero27 : azero Tryz.prog 27 = some [.sl 0 [] .full] := by kernel_rfl
@[simp] theorem cells28 : Tryz.prog.cellsOf 28 = 3 := by kernel_rfl
@[simp] theorem bytes28 : Tryz.prog.bytesOf 28 = 72 := by kernel_rfl
@[simp] theorem stood28 : Tryz.prog.stoodInHeld 28 = false := by kernel_rfl
@[simp] theorem eqg28 : Tryz.prog.eqGuardType Tryz.prog.depth 28 = false := by kernel_rfl
@[simp] theorem zero28 : azero Tryz.prog 28 = some [.sl 0 [] .full, .sl 0 [] .full, .sl 0 [] .full] := by kernel_rfl
@[simp] theorem cells29 : Tryz.prog.cellsOf 29 = 3 := by kernel_rfl
@[simp] theorem bytes29 : Tryz.prog.bytesOf 29 = 72 := by kernel_rfl
@[simp] theorem stood29 : Tryz.prog.stoodInHeld 29 = false := by kernel_rfl
@[simp] theorem eqg29 : Tryz.prog.eqGuardType Tryz.prog.depth 29 = false := by kernel_rfl
@[simp] theorem zero29 : azero Tryz.prog 29 = some [.sl 0 [] .full, .sl 0 [] .full, .sl 0 [] .full] := by kernel_rfl
@[simp] theorem cells30 : Tryz.prog.cellsOf 30 = 1 := by kernel_rfl
@[simp] theorem bytes30 : Tryz.prog.bytesOf 30 = 8 := by kernel_rfl
@[simp] theorem zero30 : azero Tryz.prog 30 = some [.int .i64 0] := by kernel_rfl
@[simp] theorem cells31 : Tryz.prog.cellsOf 31 = 1 := by kernel_rfl
@[simp] theorem bytes31 : Tryz.prog.bytesOf 31 = 0 := by kernel_rfl
@[simp] theorem cells32 : Tryz.prog.cellsOf 32 = 1 := by kernel_rfl
@[simp] theorem bytes32 : Tryz.prog.bytesOf 32 = 8 := by kernel_rfl
@[simp] theorem zero32 : azero Tryz.prog 32 = some [.nilf] := by kernel_rfl
@[simp] theorem cells33 : Tryz.prog.cellsOf 33 = 1 := by kernel_rfl
@[simp] theorem bytes33 : Tryz.prog.bytesOf 33 = 24 := by kernel_rfl
@[simp] theorem zero33 : azero Tryz.prog 33 = some [.sl 0 [] .full] := by kernel_rfl
@[simp] theorem cells34 : Tryz.prog.cellsOf 34 = 1 := by kernel_rfl
@[simp] theorem bytes34 : Tryz.prog.bytesOf 34 = 24 := by kernel_rfl
@[simp] theorem zero34 : azero Tryz.prog 34 = some [.sl 0 [] .full] := by kernel_rfl
@[simp] theorem cells35 : Tryz.prog.cellsOf 35 = 3 := by kernel_rfl
@[simp] theorem bytes35 : Tryz.prog.bytesOf 35 = 72 := by kernel_rfl
@[simp] theorem stood35 : Tryz.prog.stoodInHeld 35 = false := by kernel_rfl
@[simp] theorem eqg35 : Tryz.prog.eqGuardType Tryz.prog.depth 35 = false := by kernel_rfl
@[simp] theorem zero35 : azero Tryz.prog 35 = some [.sl 0 [] .full, .sl 0 [] .full, .sl 0 [] .full] := by kernel_rfl
@[simp] theorem cells36 : Tryz.prog.cellsOf 36 = 3 := by kernel_rfl
@[simp] theorem bytes36 : Tryz.prog.bytesOf 36 = 72 := by kernel_rfl
@[simp] theorem stood36 : Tryz.prog.stoodInHeld 36 = false := by kernel_rfl
@[simp] theorem eqg36 : Tryz.prog.eqGuardType Tryz.prog.depth 36 = false := by kernel_rfl
@[simp] theorem zero36 : azero Tryz.prog 36 = some [.sl 0 [] .full, .sl 0 [] .full, .sl 0 [] .full] := by kernel_rfl
@[simp] theorem cells37 : Tryz.prog.cellsOf 37 = 1 := by kernel_rfl
@[simp] theorem bytes37 : Tryz.prog.bytesOf 37 = 0 := by kernel_rfl
@[simp] theorem cells38 : Tryz.prog.cellsOf 38 = 1 := by kernel_rfl
@[simp] theorem bytes38 : Tryz.prog.bytesOf 38 = 8 := by kernel_rfl
@[simp] theorem zero38 : azero Tryz.prog 38 = some [.nilf] := by kernel_rfl
@[simp] theorem cells39 : Tryz.prog.cellsOf 39 = 1 := by kernel_rfl
@[simp] theorem bytes39 : Tryz.prog.bytesOf 39 = 8 := by kernel_rfl
@[simp] theorem zero39 : azero Tryz.prog 39 = some [.nilf] := by kernel_rfl
@[simp] theorem cells40 : Tryz.prog.cellsOf 40 = 1 := by kernel_rfl
@[simp] theorem bytes40 : Tryz.prog.bytesOf 40 = 8 := by kernel_rfl
@[simp] theorem zero40 : azero Tryz.prog 40 = some [.nilf] := by kernel_rfl
@[simp] theorem cells41 : Tryz.prog.cellsOf 41 = 4 := by kernel_rfl
@[simp] theorem bytes41 : Tryz.prog.bytesOf 41 = 40 := by kernel_rfl
@[simp] theorem stood41 : Tryz.prog.stoodInHeld 41 = false := by kernel_rfl
@[simp] theorem eqg41 : Tryz.prog.eqGuardType Tryz.prog.depth 41 = false := by kernel_rfl
@[simp] theorem zero41 : azero Tryz.prog 41 = some [.int .i64 0, .str [], .int .i64 0, .int .i64 0] := by kernel_rfl
@[simp] theorem cells42 : Tryz.prog.cellsOf 42 = 4 := by kernel_rfl
@[simp] theorem bytes42 : Tryz.prog.bytesOf 42 = 40 := by kernel_rfl
@[simp] theorem stood42 : Tryz.prog.stoodInHeld 42 = false := by kernel_rfl
@[simp] theorem eqg42 : Tryz.prog.eqGuardType Tryz.prog.depth 42 = false := by kernel_rfl
@[simp] theorem zero42 : azero Tryz.prog 42 = some [.int .i64 0, .str [], .int .i64 0, .int .i64 0] := by kernel_rfl
@[simp] theorem cells43 : Tryz.prog.cellsOf 43 = 1 := by kernel_rfl
@[simp] theorem bytes43 : Tryz.prog.bytesOf 43 = 8 := by kernel_rfl
@[simp] theorem zero43 : azero Tryz.prog 43 = some [.nilf] := by kernel_rfl
@[simp] theorem cells44 : Tryz.prog.cellsOf 44 = 1 := by kernel_rfl
@[simp] theorem bytes44 : Tryz.prog.bytesOf 44 = 8 := by kernel_rfl
@[simp] theorem zero44 : azero Tryz.prog 44 = some [.nilf] := by kernel_rfl
@[simp] theorem cells45 : Tryz.prog.cellsOf 45 = 1 := by kernel_rfl
@[simp] theorem bytes45 : Tryz.prog.bytesOf 45 = 8 := by kernel_rfl
@[simp] theorem zero45 : azero Tryz.prog 45 = some [.nilf] := by kernel_rfl
@[simp] theorem cells46 : Tryz.prog.cellsOf 46 = 1 := by kernel_rfl
@[simp] theorem bytes46 : Tryz.prog.bytesOf 46 = 24 := by kernel_rfl
@[simp] theorem zero46 : azero Tryz.prog 46 = some [.sl 0 [] .full] := by kernel_rfl
@[simp] theorem cells47 : Tryz.prog.cellsOf 47 = 1 := by kernel_rfl
@[simp] theorem bytes47 : Tryz.prog.bytesOf 47 = 24 := by kernel_rfl
@[simp] theorem zero47 : azero Tryz.prog 47 = some [.sl 0 [] .full] := by kernel_rfl
@[simp] theorem cells48 : Tryz.prog.cellsOf 48 = 1 := by kernel_rfl
@[simp] theorem bytes48 : Tryz.prog.bytesOf 48 = 8 := by kernel_rfl
@[simp] theorem zero48 : azero Tryz.prog 48 = some [.nilf] := by kernel_rfl
@[simp] theorem cells49 : Tryz.prog.cellsOf 49 = 1 := by kernel_rfl
@[simp] theorem bytes49 : Tryz.prog.bytesOf 49 = 24 := by kernel_rfl
@[simp] theorem zero49 : azero Tryz.prog 49 = some [.sl 0 [] .full] := by kernel_rfl
@[simp] theorem cells50 : Tryz.prog.cellsOf 50 = 1 := by kernel_rfl
@[simp] theorem bytes50 : Tryz.prog.bytesOf 50 = 24 := by kernel_rfl
@[simp] theorem zero50 : azero Tryz.prog 50 = some [.sl 0 [] .full] := by kernel_rfl
@[simp] theorem cells51 : Tryz.prog.cellsOf 51 = 1 := by kernel_rfl
@[simp] theorem bytes51 : Tryz.prog.bytesOf 51 = 8 := by kernel_rfl
@[simp] theorem zero51 : azero Tryz.prog 51 = some [.nilf] := by kernel_rfl
@[simp] theorem cells52 : Tryz.prog.cellsOf 52 = 1 := by kernel_rfl
@[simp] theorem bytes52 : Tryz.prog.bytesOf 52 = 8 := by kernel_rfl
@[simp] theorem zero52 : azero Tryz.prog 52 = some [.nilf] := by kernel_rfl
@[simp] theorem cells53 : Tryz.prog.cellsOf 53 = 1 := by kernel_rfl
@[simp] theorem bytes53 : Tryz.prog.bytesOf 53 = 24 := by kernel_rfl
@[simp] theorem zero53 : azero Tryz.prog 53 = some [.sl 0 [] .full] := by kernel_rfl
@[simp] theorem cells54 : Tryz.prog.cellsOf 54 = 1 := by kernel_rfl
@[simp] theorem bytes54 : Tryz.prog.bytesOf 54 = 8 := by kernel_rfl
@[simp] theorem zero54 : azero Tryz.prog 54 = some [.nilf] := by kernel_rfl
@[simp] theorem cells55 : Tryz.prog.cellsOf 55 = 1 := by kernel_rfl
@[simp] theorem bytes55 : Tryz.prog.bytesOf 55 = 8 := by kernel_rfl
@[simp] theorem zero55 : azero Tryz.prog 55 = some [.nilf] := by kernel_rfl
@[simp] theorem cells56 : Tryz.prog.cellsOf 56 = 1 := by kernel_rfl
@[simp] theorem bytes56 : Tryz.prog.bytesOf 56 = 8 := by kernel_rfl
@[simp] theorem zero56 : azero Tryz.prog 56 = some [.nilf] := by kernel_rfl
@[simp] theorem cells57 : Tryz.prog.cellsOf 57 = 1 := by kernel_rfl
@[simp] theorem bytes57 : Tryz.prog.bytesOf 57 = 8 := by kernel_rfl
@[simp] theorem zero57 : azero Tryz.prog 57 = some [.nilf] := by kernel_rfl
@[simp] theorem cells58 : Tryz.prog.cellsOf 58 = 1 := by kernel_rfl
@[simp] theorem bytes58 : Tryz.prog.bytesOf 58 = 8 := by kernel_rfl
@[simp] theorem zero58 : azero Tryz.prog 58 = some [.nilf] := by kernel_rfl
@[simp] theorem cells59 : Tryz.prog.cellsOf 59 = 1 := by kernel_rfl
@[simp] theorem bytes59 : Tryz.prog.bytesOf 59 = 8 := by kernel_rfl
@[simp] theorem zero59 : azero Tryz.prog 59 = some [.nilf] := by kernel_rfl
@[simp] theorem cells60 : Tryz.prog.cellsOf 60 = 1 := by kernel_rfl
@[simp] theorem bytes60 : Tryz.prog.bytesOf 60 = 8 := by kernel_rfl
@[simp] theorem zero60 : azero Tryz.prog 60 = some [.nilf] := by kernel_rfl
@[simp] theorem cells61 : Tryz.prog.cellsOf 61 = 1 := by kernel_rfl
@[simp] theorem bytes61 : Tryz.prog.bytesOf 61 = 24 := by kernel_rfl
@[simp] theorem zero61 : azero Tryz.prog 61 = some [.sl 0 [] .full] := by kernel_rfl
@[simp] theorem cells62 : Tryz.prog.cellsOf 62 = 1 := by kernel_rfl
@[simp] theorem bytes62 : Tryz.prog.bytesOf 62 = 8 := by kernel_rfl
@[simp] theorem zero62 : azero Tryz.prog 62 = some [.nilf] := by kernel_rfl
@[simp] theorem cells63 : Tryz.prog.cellsOf 63 = 1 := by kernel_rfl
@[simp] theorem bytes63 : Tryz.prog.bytesOf 63 = 24 := by kernel_rfl
@[simp] theorem zero63 : azero Tryz.prog 63 = some [.sl 0 [] .full] := by kernel_rfl
@[simp] theorem cells64 : Tryz.prog.cellsOf 64 = 1 := by kernel_rfl
@[simp] theorem bytes64 : Tryz.prog.bytesOf 64 = 24 := by kernel_rfl
@[simp] theorem zero64 : azero Tryz.prog 64 = some [.sl 0 [] .full] := by kernel_rfl
@[simp] theorem cells65 : Tryz.prog.cellsOf 65 = 3 := by kernel_rfl
@[simp] theorem bytes65 : Tryz.prog.bytesOf 65 = 56 := by kernel_rfl
@[simp] theorem stood65 : Tryz.prog.stoodInHeld 65 = false := by kernel_rfl
@[simp] theorem eqg65 : Tryz.prog.eqGuardType Tryz.prog.depth 65 = false := by kernel_rfl
@[simp] theorem zero65 : azero Tryz.prog 65 = some [.int .i64 0, .sl 0 [] .full, .sl 0 [] .full] := by kernel_rfl
@[simp] theorem cells66 : Tryz.prog.cellsOf 66 = 3 := by kernel_rfl
@[simp] theorem bytes66 : Tryz.prog.bytesOf 66 = 56 := by kernel_rfl
@[simp] theorem stood66 : Tryz.prog.stoodInHeld 66 = false := by kernel_rfl
@[simp] theorem eqg66 : Tryz.prog.eqGuardType Tryz.prog.depth 66 = false := by kernel_rfl
@[simp] theorem zero66 : azero Tryz.prog 66 = some [.int .i64 0, .sl 0 [] .full, .sl 0 [] .full] := by kernel_rfl
@[simp] theorem cells67 : Tryz.prog.cellsOf 67 = 1 := by kernel_rfl
@[simp] theorem bytes67 : Tryz.prog.bytesOf 67 = 8 := by kernel_rfl
@[simp] theorem zero67 : azero Tryz.prog 67 = some [.nilf] := by kernel_rfl
@[simp] theorem cells68 : Tryz.prog.cellsOf 68 = 1 := by kernel_rfl
@[simp] theorem bytes68 : Tryz.prog.bytesOf 68 = 8 := by kernel_rfl
@[simp] theorem zero68 : azero Tryz.prog 68 = some [.nilf] := by kernel_rfl
@[simp] theorem cells69 : Tryz.prog.cellsOf 69 = 1 := by kernel_rfl
@[simp] theorem bytes69 : Tryz.prog.bytesOf 69 = 8 := by kernel_rfl
@[simp] theorem zero69 : azero Tryz.prog 69 = some [.nilf] := by kernel_rfl
@[simp] theorem cells70 : Tryz.prog.cellsOf 70 = 2 := by kernel_rfl
@[simp] theorem bytes70 : Tryz.prog.bytesOf 70 = 24 := by kernel_rfl
@[simp] theorem stood70 : Tryz.prog.stoodInHeld 70 = false := by kernel_rfl
@[simp] theorem eqg70 : Tryz.prog.eqGuardType Tryz.prog.depth 70 = false := by kernel_rfl
@[simp] theorem zero70 : azero Tryz.prog 70 = some [.str [], .int .i64 0] := by kernel_rfl
@[simp] theorem cells71 : Tryz.prog.cellsOf 71 = 2 := by kernel_rfl
@[simp] theorem bytes71 : Tryz.prog.bytesOf 71 = 24 := by kernel_rfl
@[simp] theorem stood71 : Tryz.prog.stoodInHeld 71 = false := by kernel_rfl
@[simp] theorem eqg71 : Tryz.prog.eqGuardType Tryz.prog.depth 71 = false := by kernel_rfl
@[simp] theorem zero71 : azero Tryz.prog 71 = some [.str [], .int .i64 0] := by kernel_rfl
@[simp] theorem cells72 : Tryz.prog.cellsOf 72 = 1 := by kernel_rfl
@[simp] theorem bytes72 : Tryz.prog.bytesOf 72 = 8 := by kernel_rfl
@[simp] theorem zero72 : azero Tryz.prog 72 = some [.nilf] := by kernel_rfl
@[simp] theorem cells73 : Tryz.prog.cellsOf 73 = 1 := by kernel_rfl
@[simp] theorem bytes73 : Tryz.prog.bytesOf 73 = 8 := by kernel_rfl
@[simp] theorem zero73 : azero Tryz.prog 73 = some [.nilf] := by kernel_rfl
@[simp] theorem cells74 : Tryz.prog.cellsOf 74 = 1 := by kernel_rfl
@[simp] theorem bytes74 : Tryz.prog.bytesOf 74 = 8 := by kernel_rfl
@[simp] theorem zero74 : azero Tryz.prog 74 = some [.nilf] := by kernel_rfl
@[simp] theorem cells75 : Tryz.prog.cellsOf 75 = 1 := by kernel_rfl
@[simp] theorem bytes75 : Tryz.prog.bytesOf 75 = 8 := by kernel_rfl
@[simp] theorem zero75 : azero Tryz.prog 75 = some [.nilf] := by kernel_rfl
@[simp] theorem cells76 : Tryz.prog.cellsOf 76 = 1 := by kernel_rfl
@[simp] theorem bytes76 : Tryz.prog.bytesOf 76 = 8 := by kernel_rfl
@[simp] theorem zero76 : azero Tryz.prog 76 = some [.nilf] := by kernel_rfl
@[simp] theorem cells77 : Tryz.prog.cellsOf 77 = 1 := by kernel_rfl
@[simp] theorem bytes77 : Tryz.prog.bytesOf 77 = 8 := by kernel_rfl
@[simp] theorem zero77 : azero Tryz.prog 77 = some [.nilf] := by kernel_rfl
@[simp] theorem cells78 : Tryz.prog.cellsOf 78 = 1 := by kernel_rfl
@[simp] theorem bytes78 : Tryz.prog.bytesOf 78 = 8 := by kernel_rfl
@[simp] theorem zero78 : azero Tryz.prog 78 = some [.nilf] := by kernel_rfl
@[simp] theorem cells79 : Tryz.prog.cellsOf 79 = 1 := by kernel_rfl
@[simp] theorem bytes79 : Tryz.prog.bytesOf 79 = 8 := by kernel_rfl
@[simp] theorem zero79 : azero Tryz.prog 79 = some [.nilf] := by kernel_rfl
@[simp] theorem cells80 : Tryz.prog.cellsOf 80 = 1 := by kernel_rfl
@[simp] theorem bytes80 : Tryz.prog.bytesOf 80 = 8 := by kernel_rfl
@[simp] theorem zero80 : azero Tryz.prog 80 = some [.nilf] := by kernel_rfl
@[simp] theorem cells81 : Tryz.prog.cellsOf 81 = 1 := by kernel_rfl
@[simp] theorem bytes81 : Tryz.prog.bytesOf 81 = 8 := by kernel_rfl
@[simp] theorem zero81 : azero Tryz.prog 81 = some [.nilf] := by kernel_rfl
@[simp] theorem cells82 : Tryz.prog.cellsOf 82 = 1 := by kernel_rfl
@[simp] theorem bytes82 : Tryz.prog.bytesOf 82 = 8 := by kernel_rfl
@[simp] theorem zero82 : azero Tryz.prog 82 = some [.nilf] := by kernel_rfl
@[simp] theorem cells83 : Tryz.prog.cellsOf 83 = 1 := by kernel_rfl
@[simp] theorem bytes83 : Tryz.prog.bytesOf 83 = 8 := by kernel_rfl
@[simp] theorem zero83 : azero Tryz.prog 83 = some [.nilf] := by kernel_rfl
@[simp] theorem cells84 : Tryz.prog.cellsOf 84 = 1 := by kernel_rfl
@[simp] theorem bytes84 : Tryz.prog.bytesOf 84 = 8 := by kernel_rfl
@[simp] theorem zero84 : azero Tryz.prog 84 = some [.nilf] := by kernel_rfl
@[simp] theorem cells85 : Tryz.prog.cellsOf 85 = 1 := by kernel_rfl
@[simp] theorem bytes85 : Tryz.prog.bytesOf 85 = 8 := by kernel_rfl
@[simp] theorem zero85 : azero Tryz.prog 85 = some [.nilf] := by kernel_rfl
@[simp] theorem cells86 : Tryz.prog.cellsOf 86 = 1 := by kernel_rfl
@[simp] theorem bytes86 : Tryz.prog.bytesOf 86 = 8 := by kernel_rfl
@[simp] theorem zero86 : azero Tryz.prog 86 = some [.nilf] := by kernel_rfl
@[simp] theorem cells87 : Tryz.prog.cellsOf 87 = 1 := by kernel_rfl
@[simp] theorem bytes87 : Tryz.prog.bytesOf 87 = 8 := by kernel_rfl
@[simp] theorem zero87 : azero Tryz.prog 87 = some [.nilf] := by kernel_rfl
@[simp] theorem cells88 : Tryz.prog.cellsOf 88 = 1 := by kernel_rfl
@[simp] theorem bytes88 : Tryz.prog.bytesOf 88 = 8 := by kernel_rfl
@[simp] theorem zero88 : azero Tryz.prog 88 = some [.nilf] := by kernel_rfl
@[simp] theorem cells89 : Tryz.prog.cellsOf 89 = 1 := by kernel_rfl
@[simp] theorem bytes89 : Tryz.prog.bytesOf 89 = 24 := by kernel_rfl
@[simp] theorem zero89 : azero Tryz.prog 89 = some [.sl 0 [] .full] := by kernel_rfl
@[simp] theorem cells90 : Tryz.prog.cellsOf 90 = 1 := by kernel_rfl
@[simp] theorem bytes90 : Tryz.prog.bytesOf 90 = 0 := by kernel_rfl
@[simp] theorem cells91 : Tryz.prog.cellsOf 91 = 1 := by kernel_rfl
@[simp] theorem bytes91 : Tryz.prog.bytesOf 91 = 8 := by kernel_rfl
@[simp] theorem zero91 : azero Tryz.prog 91 = some [.nilf] := by kernel_rfl
@[simp] theorem cells92 : Tryz.prog.cellsOf 92 = 1 := by kernel_rfl
@[simp] theorem bytes92 : Tryz.prog.bytesOf 92 = 8 := by kernel_rfl
@[simp] theorem zero92 : azero Tryz.prog 92 = some [.nilf] := by kernel_rfl
@[simp] theorem cells93 : Tryz.prog.cellsOf 93 = 1 := by kernel_rfl
@[simp] theorem bytes93 : Tryz.prog.bytesOf 93 = 8 := by kernel_rfl
@[simp] theorem zero93 : azero Tryz.prog 93 = some [.nilf] := by kernel_rfl
@[simp] theorem cells94 : Tryz.prog.cellsOf 94 = 1 := by kernel_rfl
@[simp] theorem bytes94 : Tryz.prog.bytesOf 94 = 8 := by kernel_rfl
@[simp] theorem zero94 : azero Tryz.prog 94 = some [.nilf] := by kernel_rfl
@[simp] theorem cells95 : Tryz.prog.cellsOf 95 = 1 := by kernel_rfl
@[simp] theorem bytes95 : Tryz.prog.bytesOf 95 = 8 := by kernel_rfl
@[simp] theorem zero95 : azero Tryz.prog 95 = some [.nilf] := by kernel_rfl
@[simp] theorem cells96 : Tryz.prog.cellsOf 96 = 1 := by kernel_rfl
@[simp] theorem bytes96 : Tryz.prog.bytesOf 96 = 8 := by kernel_rfl
@[simp] theorem zero96 : azero Tryz.prog 96 = some [.nilf] := by kernel_rfl
@[simp] theorem cells97 : Tryz.prog.cellsOf 97 = 2 := by kernel_rfl
@[simp] theorem bytes97 : Tryz.prog.bytesOf 97 = 32 := by kernel_rfl
@[simp] theorem stood97 : Tryz.prog.stoodInHeld 97 = false := by kernel_rfl
@[simp] theorem eqg97 : Tryz.prog.eqGuardType Tryz.prog.depth 97 = false := by kernel_rfl
@[simp] theorem zero97 : azero Tryz.prog 97 = some [.int .i64 0, .sl 0 [] .full] := by kernel_rfl
@[simp] theorem cells98 : Tryz.prog.cellsOf 98 = 2 := by kernel_rfl
@[simp] theorem bytes98 : Tryz.prog.bytesOf 98 = 32 := by kernel_rfl
@[simp] theorem stood98 : Tryz.prog.stoodInHeld 98 = false := by kernel_rfl
@[simp] theorem eqg98 : Tryz.prog.eqGuardType Tryz.prog.depth 98 = false := by kernel_rfl
@[simp] theorem zero98 : azero Tryz.prog 98 = some [.int .i64 0, .sl 0 [] .full] := by kernel_rfl
@[simp] theorem cells99 : Tryz.prog.cellsOf 99 = 2 := by kernel_rfl
@[simp] theorem bytes99 : Tryz.prog.bytesOf 99 = 16 := by kernel_rfl
@[simp] theorem stood99 : Tryz.prog.stoodInHeld 99 = false := by kernel_rfl
@[simp] theorem eqg99 : Tryz.prog.eqGuardType Tryz.prog.depth 99 = false := by kernel_rfl
@[simp] theorem zero99 : azero Tryz.prog 99 = some [.int .i64 0, .int .i64 0] := by kernel_rfl
@[simp] theorem cells100 : Tryz.prog.cellsOf 100 = 2 := by kernel_rfl
@[simp] theorem bytes100 : Tryz.prog.bytesOf 100 = 16 := by kernel_rfl
@[simp] theorem stood100 : Tryz.prog.stoodInHeld 100 = false := by kernel_rfl
@[simp] theorem eqg100 : Tryz.prog.eqGuardType Tryz.prog.depth 100 = false := by kernel_rfl
@[simp] theorem zero100 : azero Tryz.prog 100 = some [.int .i64 0, .int .i64 0] := by kernel_rfl
@[simp] theorem cells101 : Tryz.prog.cellsOf 101 = 2 := by kernel_rfl
@[simp] theorem bytes101 : Tryz.prog.bytesOf 101 = 32 := by kernel_rfl
@[simp] theorem stood101 : Tryz.prog.stoodInHeld 101 = false := by kernel_rfl
@[simp] theorem eqg101 : Tryz.prog.eqGuardType Tryz.prog.depth 101 = false := by kernel_rfl
@[simp] theorem zero101 : azero Tryz.prog 101 = some [.int .i64 0, .sl 0 [] .full] := by kernel_rfl
@[simp] theorem cells102 : Tryz.prog.cellsOf 102 = 2 := by kernel_rfl
@[simp] theorem bytes102 : Tryz.prog.bytesOf 102 = 32 := by kernel_rfl
@[simp] theorem stood102 : Tryz.prog.stoodInHeld 102 = false := by kernel_rfl
@[simp] theorem eqg102 : Tryz.prog.eqGuardType Tryz.prog.depth 102 = false := by kernel_rfl
@[simp] theorem zero102 : azero Tryz.prog 102 = some [.int .i64 0, .sl 0 [] .full] := by kernel_rfl
@[simp] theorem cells103 : Tryz.prog.cellsOf 103 = 1 := by kernel_rfl
@[simp] theorem bytes103 : Tryz.prog.bytesOf 103 = 8 := by kernel_rfl
@[simp] theorem zero103 : azero Tryz.prog 103 = some [.nilf] := by kernel_rfl
@[simp] theorem cells104 : Tryz.prog.cellsOf 104 = 1 := by kernel_rfl
@[simp] theorem bytes104 : Tryz.prog.bytesOf 104 = 8 := by kernel_rfl
@[simp] theorem zero104 : azero Tryz.prog 104 = some [.nilf] := by kernel_rfl
@[simp] theorem cells105 : Tryz.prog.cellsOf 105 = 1 := by kernel_rfl
@[simp] theorem bytes105 : Tryz.prog.bytesOf 105 = 8 := by kernel_rfl
@[simp] theorem zero105 : azero Tryz.prog 105 = some [.nilf] := by kernel_rfl
@[simp] theorem cells106 : Tryz.prog.cellsOf 106 = 1 := by kernel_rfl
@[simp] theorem bytes106 : Tryz.prog.bytesOf 106 = 8 := by kernel_rfl
@[simp] theorem zero106 : azero Tryz.prog 106 = some [.nilf] := by kernel_rfl
@[simp] theorem cells107 : Tryz.prog.cellsOf 107 = 1 := by kernel_rfl
@[simp] theorem bytes107 : Tryz.prog.bytesOf 107 = 8 := by kernel_rfl
@[simp] theorem zero107 : azero Tryz.prog 107 = some [.nilf] := by kernel_rfl
@[simp] theorem cells108 : Tryz.prog.cellsOf 108 = 1 := by kernel_rfl
@[simp] theorem bytes108 : Tryz.prog.bytesOf 108 = 8 := by kernel_rfl
@[simp] theorem zero108 : azero Tryz.prog 108 = some [.top] := by kernel_rfl
@[simp] theorem mapT108 : mapT Tryz.prog 108 = some (111, 47) := by kernel_rfl
@[simp] theorem zeroV108 : azeroV Tryz.prog 47 = some (.sl 0 [] .full) := by kernel_rfl
@[simp] theorem cells109 : Tryz.prog.cellsOf 109 = 1 := by kernel_rfl
@[simp] theorem bytes109 : Tryz.prog.bytesOf 109 = 8 := by kernel_rfl
@[simp] theorem zero109 : azero Tryz.prog 109 = some [.top] := by kernel_rfl
@[simp] theorem mapT109 : mapT Tryz.prog 109 = some (3, 113) := by kernel_rfl
@[simp] theorem zeroV109 : azeroV Tryz.prog 113 = some (.sl 0 [] .full) := by kernel_rfl
@[simp] theorem cells110 : Tryz.prog.cellsOf 110 = 2 := by kernel_rfl
@[simp] theorem bytes110 : Tryz.prog.bytesOf 110 = 24 := by kernel_rfl
@[simp] theorem stood110 : Tryz.prog.stoodInHeld 110 = false := by kernel_rfl
@[simp] theorem eqg110 : Tryz.prog.eqGuardType Tryz.prog.depth 110 = false := by kernel_rfl
@[simp] theorem zero110 : azero Tryz.prog 110 = some [.int .i64 0, .str []] := by kernel_rfl
@[simp] theorem cells111 : Tryz.prog.cellsOf 111 = 2 := by kernel_rfl
@[simp] theorem bytes111 : Tryz.prog.bytesOf 111 = 24 := by kernel_rfl
@[simp] theorem stood111 : Tryz.prog.stoodInHeld 111 = false := by kernel_rfl
@[simp] theorem eqg111 : Tryz.prog.eqGuardType Tryz.prog.depth 111 = false := by kernel_rfl
@[simp] theorem zero111 : azero Tryz.prog 111 = some [.int .i64 0, .str []] := by kernel_rfl
@[simp] theorem cells112 : Tryz.prog.cellsOf 112 = 2 := by kernel_rfl
@[simp] theorem bytes112 : Tryz.prog.bytesOf 112 = 32 := by kernel_rfl
@[simp] theorem stood112 : Tryz.prog.stoodInHeld 112 = false := by kernel_rfl
@[simp] theorem eqg112 : Tryz.prog.eqGuardType Tryz.prog.depth 112 = false := by kernel_rfl
@[simp] theorem zero112 : azero Tryz.prog 112 = some [.int .i64 0, .sl 0 [] .full] := by kernel_rfl
@[simp] theorem cells113 : Tryz.prog.cellsOf 113 = 1 := by kernel_rfl
@[simp] theorem bytes113 : Tryz.prog.bytesOf 113 = 24 := by kernel_rfl
@[simp] theorem zero113 : azero Tryz.prog 113 = some [.sl 0 [] .full] := by kernel_rfl
@[simp] theorem cells114 : Tryz.prog.cellsOf 114 = 2 := by kernel_rfl
@[simp] theorem bytes114 : Tryz.prog.bytesOf 114 = 16 := by kernel_rfl
@[simp] theorem stood114 : Tryz.prog.stoodInHeld 114 = false := by kernel_rfl
@[simp] theorem eqg114 : Tryz.prog.eqGuardType Tryz.prog.depth 114 = false := by kernel_rfl
@[simp] theorem zero114 : azero Tryz.prog 114 = some [.int .i64 0, .int .i64 0] := by kernel_rfl
@[simp] theorem cells115 : Tryz.prog.cellsOf 115 = 2 := by kernel_rfl
@[simp] theorem bytes115 : Tryz.prog.bytesOf 115 = 16 := by kernel_rfl
@[simp] theorem stood115 : Tryz.prog.stoodInHeld 115 = false := by kernel_rfl
@[simp] theorem eqg115 : Tryz.prog.eqGuardType Tryz.prog.depth 115 = false := by kernel_rfl
@[simp] theorem zero115 : azero Tryz.prog 115 = some [.int .i64 0, .int .i64 0] := by kernel_rfl
@[simp] theorem cells116 : Tryz.prog.cellsOf 116 = 3 := by kernel_rfl
@[simp] theorem bytes116 : Tryz.prog.bytesOf 116 = 48 := by kernel_rfl
@[simp] theorem stood116 : Tryz.prog.stoodInHeld 116 = false := by kernel_rfl
@[simp] theorem eqg116 : Tryz.prog.eqGuardType Tryz.prog.depth 116 = false := by kernel_rfl
@[simp] theorem zero116 : azero Tryz.prog 116 = some [.int .i64 0, .str [], .sl 0 [] .full] := by kernel_rfl
@[simp] theorem cells117 : Tryz.prog.cellsOf 117 = 3 := by kernel_rfl
@[simp] theorem bytes117 : Tryz.prog.bytesOf 117 = 48 := by kernel_rfl
@[simp] theorem stood117 : Tryz.prog.stoodInHeld 117 = false := by kernel_rfl
@[simp] theorem eqg117 : Tryz.prog.eqGuardType Tryz.prog.depth 117 = false := by kernel_rfl
@[simp] theorem zero117 : azero Tryz.prog 117 = some [.int .i64 0, .str [], .sl 0 [] .full] := by kernel_rfl
@[simp] theorem cells118 : Tryz.prog.cellsOf 118 = 1 := by kernel_rfl
@[simp] theorem bytes118 : Tryz.prog.bytesOf 118 = 8 := by kernel_rfl
@[simp] theorem zero118 : azero Tryz.prog 118 = some [.nilf] := by kernel_rfl
@[simp] theorem cells119 : Tryz.prog.cellsOf 119 = 1 := by kernel_rfl
@[simp] theorem bytes119 : Tryz.prog.bytesOf 119 = 8 := by kernel_rfl
@[simp] theorem zero119 : azero Tryz.prog 119 = some [.nilf] := by kernel_rfl
@[simp] theorem cells120 : Tryz.prog.cellsOf 120 = 1 := by kernel_rfl
@[simp] theorem bytes120 : Tryz.prog.bytesOf 120 = 8 := by kernel_rfl
@[simp] theorem zero120 : azero Tryz.prog 120 = some [.nilf] := by kernel_rfl
@[simp] theorem cells121 : Tryz.prog.cellsOf 121 = 1 := by kernel_rfl
@[simp] theorem bytes121 : Tryz.prog.bytesOf 121 = 8 := by kernel_rfl
@[simp] theorem zero121 : azero Tryz.prog 121 = some [.nilf] := by kernel_rfl
@[simp] theorem cells122 : Tryz.prog.cellsOf 122 = 2 := by kernel_rfl
@[simp] theorem bytes122 : Tryz.prog.bytesOf 122 = 32 := by kernel_rfl
@[simp] theorem stood122 : Tryz.prog.stoodInHeld 122 = false := by kernel_rfl
@[simp] theorem eqg122 : Tryz.prog.eqGuardType Tryz.prog.depth 122 = false := by kernel_rfl
@[simp] theorem zero122 : azero Tryz.prog 122 = some [.int .i64 0, .sl 0 [] .full] := by kernel_rfl
@[simp] theorem cells123 : Tryz.prog.cellsOf 123 = 2 := by kernel_rfl
@[simp] theorem bytes123 : Tryz.prog.bytesOf 123 = 32 := by kernel_rfl
@[simp] theorem stood123 : Tryz.prog.stoodInHeld 123 = false := by kernel_rfl
@[simp] theorem eqg123 : Tryz.prog.eqGuardType Tryz.prog.depth 123 = false := by kernel_rfl
@[simp] theorem zero123 : azero Tryz.prog 123 = some [.int .i64 0, .sl 0 [] .full] := by kernel_rfl
@[simp] theorem cells124 : Tryz.prog.cellsOf 124 = 1 := by kernel_rfl
@[simp] theorem bytes124 : Tryz.prog.bytesOf 124 = 8 := by kernel_rfl
@[simp] theorem zero124 : azero Tryz.prog 124 = some [.nilf] := by kernel_rfl
@[simp] theorem cells125 : Tryz.prog.cellsOf 125 = 1 := by kernel_rfl
@[simp] theorem bytes125 : Tryz.prog.bytesOf 125 = 8 := by kernel_rfl
@[simp] theorem zero125 : azero Tryz.prog 125 = some [.nilf] := by kernel_rfl
@[simp] theorem cells126 : Tryz.prog.cellsOf 126 = 3 := by kernel_rfl
@[simp] theorem bytes126 : Tryz.prog.bytesOf 126 = 48 := by kernel_rfl
@[simp] theorem stood126 : Tryz.prog.stoodInHeld 126 = false := by kernel_rfl
@[simp] theorem eqg126 : Tryz.prog.eqGuardType Tryz.prog.depth 126 = false := by kernel_rfl
@[simp] theorem zero126 : azero Tryz.prog 126 = some [.int .i64 0, .str [], .sl 0 [] .full] := by kernel_rfl
@[simp] theorem cells127 : Tryz.prog.cellsOf 127 = 3 := by kernel_rfl
@[simp] theorem bytes127 : Tryz.prog.bytesOf 127 = 48 := by kernel_rfl
@[simp] theorem stood127 : Tryz.prog.stoodInHeld 127 = false := by kernel_rfl
@[simp] theorem eqg127 : Tryz.prog.eqGuardType Tryz.prog.depth 127 = false := by kernel_rfl
@[simp] theorem zero127 : azero Tryz.prog 127 = some [.int .i64 0, .str [], .sl 0 [] .full] := by kernel_rfl
@[simp] theorem cells128 : Tryz.prog.cellsOf 128 = 1 := by kernel_rfl
@[simp] theorem bytes128 : Tryz.prog.bytesOf 128 = 24 := by kernel_rfl
@[simp] theorem zero128 : azero Tryz.prog 128 = some [.sl 0 [] .full] := by kernel_rfl
@[simp] theorem cells129 : Tryz.prog.cellsOf 129 = 1 := by kernel_rfl
@[simp] theorem bytes129 : Tryz.prog.bytesOf 129 = 8 := by kernel_rfl
@[simp] theorem zero129 : azero Tryz.prog 129 = some [.nilf] := by kernel_rfl
@[simp] theorem cells130 : Tryz.prog.cellsOf 130 = 2 := by kernel_rfl
@[simp] theorem bytes130 : Tryz.prog.bytesOf 130 = 32 := by kernel_rfl
@[simp] theorem stood130 : Tryz.prog.stoodInHeld 130 = false := by kernel_rfl
@[simp] theorem eqg130 : Tryz.prog.eqGuardType Tryz.prog.depth 130 = false := by kernel_rfl
@[simp] theorem zero130 : azero Tryz.prog 130 = some [.int .i64 0, .sl 0 [] .full] := by kernel_rfl
@[simp] theorem cells131 : Tryz.prog.cellsOf 131 = 2 := by kernel_rfl
@[simp] theorem bytes131 : Tryz.prog.bytesOf 131 = 32 := by kernel_rfl
@[simp] theorem stood131 : Tryz.prog.stoodInHeld 131 = false := by kernel_rfl
@[simp] theorem eqg131 : Tryz.prog.eqGuardType Tryz.prog.depth 131 = false := by kernel_rfl
@[simp] theorem zero131 : azero Tryz.prog 131 = some [.int .i64 0, .sl 0 [] .full] := by kernel_rfl
@[simp] theorem cells132 : Tryz.prog.cellsOf 132 = 1 := by kernel_rfl
@[simp] theorem bytes132 : Tryz.prog.bytesOf 132 = 8 := by kernel_rfl
@[simp] theorem zero132 : azero Tryz.prog 132 = some [.nilf] := by kernel_rfl
@[simp] theorem cells133 : Tryz.prog.cellsOf 133 = 1 := by kernel_rfl
@[simp] theorem bytes133 : Tryz.prog.bytesOf 133 = 8 := by kernel_rfl
@[simp] theorem zero133 : azero Tryz.prog 133 = some [.nilf] := by kernel_rfl
@[simp] theorem cells134 : Tryz.prog.cellsOf 134 = 1 := by kernel_rfl
@[simp] theorem bytes134 : Tryz.prog.bytesOf 134 = 8 := by kernel_rfl
@[simp] theorem zero134 : azero Tryz.prog 134 = some [.top] := by kernel_rfl
@[simp] theorem mapT134 : mapT Tryz.prog 134 = some (139, 4) := by kernel_rfl
@[simp] theorem zeroV134 : azeroV Tryz.prog 4 = some (.bool false) := by kernel_rfl
@[simp] theorem cells135 : Tryz.prog.cellsOf 135 = 1 := by kernel_rfl
@[simp] theorem bytes135 : Tryz.prog.bytesOf 135 = 8 := by kernel_rfl
@[simp] theorem zero135 : azero Tryz.prog 135 = some [.nilf] := by kernel_rfl
@[simp] theorem cells136 : Tryz.prog.cellsOf 136 = 1 := by kernel_rfl
@[simp] theorem bytes136 : Tryz.prog.bytesOf 136 = 8 := by kernel_rfl
@[simp] theorem zero136 : azero Tryz.prog 136 = some [.nilf] := by kernel_rfl
@[simp] theorem cells137 : Tryz.prog.cellsOf 137 = 1 := by kernel_rfl
@[simp] theorem bytes137 : Tryz.prog.bytesOf 137 = 8 := by kernel_rfl
@[simp] theorem zero137 : azero Tryz.prog 137 = some [.nilf] := by kernel_rfl
@[simp] theorem cells138 : Tryz.prog.cellsOf 138 = 3 := by kernel_rfl
@[simp] theorem bytes138 : Tryz.prog.bytesOf 138 = 24 := by kernel_rfl
@[simp] theorem stood138 : Tryz.prog.stoodInHeld 138 = false := by kernel_rfl
@[simp] theorem eqg138 : Tryz.prog.eqGuardType Tryz.prog.depth 138 = false := by kernel_rfl
@[simp] theorem zero138 : azero Tryz.prog 138 = some [.int .i64 0, .int .i64 0, .int .i64 0] := by kernel_rfl
@[simp] theorem cells139 : Tryz.prog.cellsOf 139 = 3 := by kernel_rfl
@[simp] theorem bytes139 : Tryz.prog.bytesOf 139 = 24 := by kernel_rfl
@[simp] theorem stood139 : Tryz.prog.stoodInHeld 139 = false := by kernel_rfl
@[simp] theorem eqg139 : Tryz.prog.eqGuardType Tryz.prog.depth 139 = false := by kernel_rfl
@[simp] theorem zero139 : azero Tryz.prog 139 = some [.int .i64 0, .int .i64 0, .int .i64 0] := by kernel_rfl
@[simp] theorem cells140 : Tryz.prog.cellsOf 140 = 1 := by kernel_rfl
@[simp] theorem bytes140 : Tryz.prog.bytesOf 140 = 0 := by kernel_rfl
@[simp] theorem cells141 : Tryz.prog.cellsOf 141 = 1 := by kernel_rfl
@[simp] theorem bytes141 : Tryz.prog.bytesOf 141 = 8 := by kernel_rfl
@[simp] theorem zero141 : azero Tryz.prog 141 = some [.nilf] := by kernel_rfl
@[simp] theorem cells142 : Tryz.prog.cellsOf 142 = 1 := by kernel_rfl
@[simp] theorem bytes142 : Tryz.prog.bytesOf 142 = 8 := by kernel_rfl
@[simp] theorem zero142 : azero Tryz.prog 142 = some [.nilf] := by kernel_rfl
@[simp] theorem cells143 : Tryz.prog.cellsOf 143 = 1 := by kernel_rfl
@[simp] theorem bytes143 : Tryz.prog.bytesOf 143 = 8 := by kernel_rfl
@[simp] theorem zero143 : azero Tryz.prog 143 = some [.nilf] := by kernel_rfl
@[simp] theorem cells144 : Tryz.prog.cellsOf 144 = 2 := by kernel_rfl
@[simp] theorem bytes144 : Tryz.prog.bytesOf 144 = 16 := by kernel_rfl
@[simp] theorem stood144 : Tryz.prog.stoodInHeld 144 = false := by kernel_rfl
@[simp] theorem eqg144 : Tryz.prog.eqGuardType Tryz.prog.depth 144 = false := by kernel_rfl
@[simp] theorem zero144 : azero Tryz.prog 144 = some [.int .i64 0, .int .i64 0] := by kernel_rfl
@[simp] theorem cells145 : Tryz.prog.cellsOf 145 = 1 := by kernel_rfl
@[simp] theorem bytes145 : Tryz.prog.bytesOf 145 = 8 := by kernel_rfl
@[simp] theorem zero145 : azero Tryz.prog 145 = some [.nilf] := by kernel_rfl
@[simp] theorem cells146 : Tryz.prog.cellsOf 146 = 1 := by kernel_rfl
@[simp] theorem bytes146 : Tryz.prog.bytesOf 146 = 8 := by kernel_rfl
@[simp] theorem zero146 : azero Tryz.prog 146 = some [.nilf] := by kernel_rfl
@[simp] theorem cells147 : Tryz.prog.cellsOf 147 = 1 := by kernel_rfl
@[simp] theorem bytes147 : Tryz.prog.bytesOf 147 = 8 := by kernel_rfl
@[simp] theorem zero147 : azero Tryz.prog 147 = some [.nilf] := by kernel_rfl
@[simp] theorem cells148 : Tryz.prog.cellsOf 148 = 1 := by kernel_rfl
@[simp] theorem bytes148 : Tryz.prog.bytesOf 148 = 8 := by kernel_rfl
@[simp] theorem zero148 : azero Tryz.prog 148 = some [.nilf] := by kernel_rfl
@[simp] theorem cells149 : Tryz.prog.cellsOf 149 = 1 := by kernel_rfl
@[simp] theorem bytes149 : Tryz.prog.bytesOf 149 = 8 := by kernel_rfl
@[simp] theorem zero149 : azero Tryz.prog 149 = some [.nilf] := by kernel_rfl
@[simp] theorem cells150 : Tryz.prog.cellsOf 150 = 1 := by kernel_rfl
@[simp] theorem bytes150 : Tryz.prog.bytesOf 150 = 8 := by kernel_rfl
@[simp] theorem zero150 : azero Tryz.prog 150 = some [.nilf] := by kernel_rfl
@[simp] theorem cells151 : Tryz.prog.cellsOf 151 = 1 := by kernel_rfl
@[simp] theorem bytes151 : Tryz.prog.bytesOf 151 = 8 := by kernel_rfl
@[simp] theorem zero151 : azero Tryz.prog 151 = some [.nilf] := by kernel_rfl
@[simp] theorem cells152 : Tryz.prog.cellsOf 152 = 1 := by kernel_rfl
@[simp] theorem bytes152 : Tryz.prog.bytesOf 152 = 8 := by kernel_rfl
@[simp] theorem zero152 : azero Tryz.prog 152 = some [.nilf] := by kernel_rfl
@[simp] theorem cells153 : Tryz.prog.cellsOf 153 = 1 := by kernel_rfl
@[simp] theorem bytes153 : Tryz.prog.bytesOf 153 = 8 := by kernel_rfl
@[simp] theorem zero153 : azero Tryz.prog 153 = some [.nilf] := by kernel_rfl
@[simp] theorem cells154 : Tryz.prog.cellsOf 154 = 1 := by kernel_rfl
@[simp] theorem bytes154 : Tryz.prog.bytesOf 154 = 8 := by kernel_rfl
@[simp] theorem zero154 : azero Tryz.prog 154 = some [.nilf] := by kernel_rfl
@[simp] theorem cells155 : Tryz.prog.cellsOf 155 = 1 := by kernel_rfl
@[simp] theorem bytes155 : Tryz.prog.bytesOf 155 = 8 := by kernel_rfl
@[simp] theorem zero155 : azero Tryz.prog 155 = some [.nilf] := by kernel_rfl
@[simp] theorem cells156 : Tryz.prog.cellsOf 156 = 1 := by kernel_rfl
@[simp] theorem bytes156 : Tryz.prog.bytesOf 156 = 8 := by kernel_rfl
@[simp] theorem zero156 : azero Tryz.prog 156 = some [.nilf] := by kernel_rfl
@[simp] theorem cells157 : Tryz.prog.cellsOf 157 = 1 := by kernel_rfl
@[simp] theorem bytes157 : Tryz.prog.bytesOf 157 = 8 := by kernel_rfl
@[simp] theorem zero157 : azero Tryz.prog 157 = some [.nilf] := by kernel_rfl
@[simp] theorem cells158 : Tryz.prog.cellsOf 158 = 1 := by kernel_rfl
@[simp] theorem bytes158 : Tryz.prog.bytesOf 158 = 8 := by kernel_rfl
@[simp] theorem zero158 : azero Tryz.prog 158 = some [.nilf] := by kernel_rfl
@[simp] theorem cells159 : Tryz.prog.cellsOf 159 = 1 := by kernel_rfl
@[simp] theorem bytes159 : Tryz.prog.bytesOf 159 = 8 := by kernel_rfl
@[simp] theorem zero159 : azero Tryz.prog 159 = some [.nilf] := by kernel_rfl
@[simp] theorem cells160 : Tryz.prog.cellsOf 160 = 1 := by kernel_rfl
@[simp] theorem bytes160 : Tryz.prog.bytesOf 160 = 8 := by kernel_rfl
@[simp] theorem zero160 : azero Tryz.prog 160 = some [.top] := by kernel_rfl
@[simp] theorem mapT160 : mapT Tryz.prog 160 = some (3, 3) := by kernel_rfl
@[simp] theorem zeroV160 : azeroV Tryz.prog 3 = some (.int .i64 0) := by kernel_rfl
@[simp] theorem cells161 : Tryz.prog.cellsOf 161 = 1 := by kernel_rfl
@[simp] theorem bytes161 : Tryz.prog.bytesOf 161 = 8 := by kernel_rfl
@[simp] theorem zero161 : azero Tryz.prog 161 = some [.nilp] := by kernel_rfl
@[simp] theorem cells162 : Tryz.prog.cellsOf 162 = 1 := by kernel_rfl
@[simp] theorem bytes162 : Tryz.prog.bytesOf 162 = 8 := by kernel_rfl
@[simp] theorem zero162 : azero Tryz.prog 162 = some [.nilp] := by kernel_rfl
@[simp] theorem cells163 : Tryz.prog.cellsOf 163 = 1 := by kernel_rfl
@[simp] theorem bytes163 : Tryz.prog.bytesOf 163 = 8 := by kernel_rfl
@[simp] theorem zero163 : azero Tryz.prog 163 = some [.nilf] := by kernel_rfl
@[simp] theorem cells164 : Tryz.prog.cellsOf 164 = 1 := by kernel_rfl
@[simp] theorem bytes164 : Tryz.prog.bytesOf 164 = 8 := by kernel_rfl
@[simp] theorem zero164 : azero Tryz.prog 164 = some [.nilf] := by kernel_rfl
@[simp] theorem cells165 : Tryz.prog.cellsOf 165 = 1 := by kernel_rfl
@[simp] theorem bytes165 : Tryz.prog.bytesOf 165 = 8 := by kernel_rfl
@[simp] theorem zero165 : azero Tryz.prog 165 = some [.nilf] := by kernel_rfl
@[simp] theorem cells166 : Tryz.prog.cellsOf 166 = 1 := by kernel_rfl
@[simp] theorem bytes166 : Tryz.prog.bytesOf 166 = 8 := by kernel_rfl
@[simp] theorem zero166 : azero Tryz.prog 166 = some [.nilf] := by kernel_rfl
@[simp] theorem cells167 : Tryz.prog.cellsOf 167 = 1 := by kernel_rfl
@[simp] theorem bytes167 : Tryz.prog.bytesOf 167 = 8 := by kernel_rfl
@[simp] theorem zero167 : azero Tryz.prog 167 = some [.nilf] := by kernel_rfl
@[simp] theorem cells168 : Tryz.prog.cellsOf 168 = 1 := by kernel_rfl
@[simp] theorem bytes168 : Tryz.prog.bytesOf 168 = 8 := by kernel_rfl
@[simp] theorem zero168 : azero Tryz.prog 168 = some [.nilf] := by kernel_rfl
@[simp] theorem cells169 : Tryz.prog.cellsOf 169 = 1 := by kernel_rfl
@[simp] theorem bytes169 : Tryz.prog.bytesOf 169 = 8 := by kernel_rfl
@[simp] theorem zero169 : azero Tryz.prog 169 = some [.nilp] := by kernel_rfl
@[simp] theorem cells170 : Tryz.prog.cellsOf 170 = 1 := by kernel_rfl
@[simp] theorem bytes170 : Tryz.prog.bytesOf 170 = 8 := by kernel_rfl
@[simp] theorem zero170 : azero Tryz.prog 170 = some [.nilf] := by kernel_rfl
@[simp] theorem cells171 : Tryz.prog.cellsOf 171 = 1 := by kernel_rfl
@[simp] theorem bytes171 : Tryz.prog.bytesOf 171 = 8 := by kernel_rfl
@[simp] theorem zero171 : azero Tryz.prog 171 = some [.nilf] := by kernel_rfl
@[simp] theorem cells172 : Tryz.prog.cellsOf 172 = 1 := by kernel_rfl
@[simp] theorem bytes172 : Tryz.prog.bytesOf 172 = 8 := by kernel_rfl
@[simp] theorem zero172 : azero Tryz.prog 172 = some [.nilf] := by kernel_rfl
@[simp] theorem cells173 : Tryz.prog.cellsOf 173 = 1 := by kernel_rfl
@[simp] theorem bytes173 : Tryz.prog.bytesOf 173 = 8 := by kernel_rfl
@[simp] theorem zero173 : azero Tryz.prog 173 = some [.nilf] := by kernel_rfl
@[simp] theorem cells174 : Tryz.prog.cellsOf 174 = 1 := by kernel_rfl
@[simp] theorem bytes174 : Tryz.prog.bytesOf 174 = 8 := by kernel_rfl
@[simp] theorem zero174 : azero Tryz.prog 174 = some [.nilf] := by kernel_rfl
@[simp] theorem cells175 : Tryz.prog.cellsOf 175 = 1 := by kernel_rfl
@[simp] theorem bytes175 : Tryz.prog.bytesOf 175 = 8 := by kernel_rfl
@[simp] theorem zero175 : azero Tryz.prog 175 = some [.nilf] := by kernel_rfl
@[simp] theorem cells176 : Tryz.prog.cellsOf 176 = 1 := by kernel_rfl
@[simp] theorem bytes176 : Tryz.prog.bytesOf 176 = 8 := by kernel_rfl
@[simp] theorem zero176 : azero Tryz.prog 176 = some [.nilf] := by kernel_rfl
@[simp] theorem cells177 : Tryz.prog.cellsOf 177 = 1 := by kernel_rfl
@[simp] theorem bytes177 : Tryz.prog.bytesOf 177 = 8 := by kernel_rfl
@[simp] theorem zero177 : azero Tryz.prog 177 = some [.nilf] := by kernel_rfl
@[simp] theorem cells178 : Tryz.prog.cellsOf 178 = 1 := by kernel_rfl
@[simp] theorem bytes178 : Tryz.prog.bytesOf 178 = 8 := by kernel_rfl
@[simp] theorem zero178 : azero Tryz.prog 178 = some [.nilf] := by kernel_rfl
@[simp] theorem cells179 : Tryz.prog.cellsOf 179 = 1 := by kernel_rfl
@[simp] theorem bytes179 : Tryz.prog.bytesOf 179 = 8 := by kernel_rfl
@[simp] theorem zero179 : azero Tryz.prog 179 = some [.nilf] := by kernel_rfl
@[simp] theorem cells180 : Tryz.prog.cellsOf 180 = 1 := by kernel_rfl
@[simp] theorem bytes180 : Tryz.prog.bytesOf 180 = 8 := by kernel_rfl
@[simp] theorem zero180 : azero Tryz.prog 180 = some [.nilf] := by kernel_rfl
@[simp] theorem cells181 : Tryz.prog.cellsOf 181 = 1 := by kernel_rfl
@[simp] theorem bytes181 : Tryz.prog.bytesOf 181 = 8 := by kernel_rfl
@[simp] theorem zero181 : azero Tryz.prog 181 = some [.nilp] := by kernel_rfl
@[simp] theorem cells182 : Tryz.prog.cellsOf 182 = 1 := by kernel_rfl
@[simp] theorem bytes182 : Tryz.prog.bytesOf 182 = 8 := by kernel_rfl
@[simp] theorem zero182 : azero Tryz.prog 182 = some [.nilf] := by kernel_rfl
@[simp] theorem cells183 : Tryz.prog.cellsOf 183 = 1 := by kernel_rfl
@[simp] theorem bytes183 : Tryz.prog.bytesOf 183 = 8 := by kernel_rfl
@[simp] theorem zero183 : azero Tryz.prog 183 = some [.nilf] := by kernel_rfl
@[simp] theorem cells184 : Tryz.prog.cellsOf 184 = 1 := by kernel_rfl
@[simp] theorem bytes184 : Tryz.prog.bytesOf 184 = 8 := by kernel_rfl
@[simp] theorem zero184 : azero Tryz.prog 184 = some [.nilf] := by kernel_rfl
@[simp] theorem cells185 : Tryz.prog.cellsOf 185 = 1 := by kernel_rfl
@[simp] theorem bytes185 : Tryz.prog.bytesOf 185 = 8 := by kernel_rfl
@[simp] theorem zero185 : azero Tryz.prog 185 = some [.nilf] := by kernel_rfl
@[simp] theorem cells186 : Tryz.prog.cellsOf 186 = 1 := by kernel_rfl
@[simp] theorem bytes186 : Tryz.prog.bytesOf 186 = 0 := by kernel_rfl
@[simp] theorem cells187 : Tryz.prog.cellsOf 187 = 1 := by kernel_rfl
@[simp] theorem bytes187 : Tryz.prog.bytesOf 187 = 8 := by kernel_rfl
@[simp] theorem zero187 : azero Tryz.prog 187 = some [.nilf] := by kernel_rfl
@[simp] theorem cells188 : Tryz.prog.cellsOf 188 = 1 := by kernel_rfl
@[simp] theorem bytes188 : Tryz.prog.bytesOf 188 = 8 := by kernel_rfl
@[simp] theorem zero188 : azero Tryz.prog 188 = some [.nilf] := by kernel_rfl
@[simp] theorem cells189 : Tryz.prog.cellsOf 189 = 1 := by kernel_rfl
@[simp] theorem bytes189 : Tryz.prog.bytesOf 189 = 8 := by kernel_rfl
@[simp] theorem zero189 : azero Tryz.prog 189 = some [.nilp] := by kernel_rfl
@[simp] theorem cells190 : Tryz.prog.cellsOf 190 = 3 := by kernel_rfl
@[simp] theorem bytes190 : Tryz.prog.bytesOf 190 = 40 := by kernel_rfl
@[simp] theorem stood190 : Tryz.prog.stoodInHeld 190 = false := by kernel_rfl
@[simp] theorem eqg190 : Tryz.prog.eqGuardType Tryz.prog.depth 190 = false := by kernel_rfl
@[simp] theorem zero190 : azero Tryz.prog 190 = some [.sl 0 [] .full, .int .i64 0, .bool false] := by kernel_rfl
@[simp] theorem cells191 : Tryz.prog.cellsOf 191 = 3 := by kernel_rfl
@[simp] theorem bytes191 : Tryz.prog.bytesOf 191 = 40 := by kernel_rfl
@[simp] theorem stood191 : Tryz.prog.stoodInHeld 191 = false := by kernel_rfl
@[simp] theorem eqg191 : Tryz.prog.eqGuardType Tryz.prog.depth 191 = false := by kernel_rfl
@[simp] theorem zero191 : azero Tryz.prog 191 = some [.sl 0 [] .full, .int .i64 0, .bool false] := by kernel_rfl
@[simp] theorem cells192 : Tryz.prog.cellsOf 192 = 1 := by kernel_rfl
@[simp] theorem bytes192 : Tryz.prog.bytesOf 192 = 0 := by kernel_rfl
@[simp] theorem cells193 : Tryz.prog.cellsOf 193 = 1 := by kernel_rfl
@[simp] theorem bytes193 : Tryz.prog.bytesOf 193 = 8 := by kernel_rfl
@[simp] theorem zero193 : azero Tryz.prog 193 = some [.nilf] := by kernel_rfl
@[simp] theorem cells194 : Tryz.prog.cellsOf 194 = 1 := by kernel_rfl
@[simp] theorem bytes194 : Tryz.prog.bytesOf 194 = 8 := by kernel_rfl
@[simp] theorem zero194 : azero Tryz.prog 194 = some [.nilf] := by kernel_rfl
@[simp] theorem cells195 : Tryz.prog.cellsOf 195 = 1 := by kernel_rfl
@[simp] theorem bytes195 : Tryz.prog.bytesOf 195 = 8 := by kernel_rfl
@[simp] theorem zero195 : azero Tryz.prog 195 = some [.nilf] := by kernel_rfl
@[simp] theorem cells196 : Tryz.prog.cellsOf 196 = 1 := by kernel_rfl
@[simp] theorem bytes196 : Tryz.prog.bytesOf 196 = 8 := by kernel_rfl
@[simp] theorem zero196 : azero Tryz.prog 196 = some [.nilf] := by kernel_rfl
@[simp] theorem cells197 : Tryz.prog.cellsOf 197 = 1 := by kernel_rfl
@[simp] theorem bytes197 : Tryz.prog.bytesOf 197 = 8 := by kernel_rfl
@[simp] theorem zero197 : azero Tryz.prog 197 = some [.nilf] := by kernel_rfl
@[simp] theorem cells198 : Tryz.prog.cellsOf 198 = 1 := by kernel_rfl
@[simp] theorem bytes198 : Tryz.prog.bytesOf 198 = 8 := by kernel_rfl
@[simp] theorem zero198 : azero Tryz.prog 198 = some [.nilf] := by kernel_rfl
@[simp] theorem cells199 : Tryz.prog.cellsOf 199 = 1 := by kernel_rfl
@[simp] theorem bytes199 : Tryz.prog.bytesOf 199 = 8 := by kernel_rfl
@[simp] theorem zero199 : azero Tryz.prog 199 = some [.nilf] := by kernel_rfl
@[simp] theorem cells200 : Tryz.prog.cellsOf 200 = 1 := by kernel_rfl
@[simp] theorem bytes200 : Tryz.prog.bytesOf 200 = 8 := by kernel_rfl
@[simp] theorem zero200 : azero Tryz.prog 200 = some [.int .u64 0] := by kernel_rfl
@[simp] theorem cells201 : Tryz.prog.cellsOf 201 = 1 := by kernel_rfl
@[simp] theorem bytes201 : Tryz.prog.bytesOf 201 = 8 := by kernel_rfl
@[simp] theorem zero201 : azero Tryz.prog 201 = some [.nilf] := by kernel_rfl
@[simp] theorem cells202 : Tryz.prog.cellsOf 202 = 1 := by kernel_rfl
@[simp] theorem bytes202 : Tryz.prog.bytesOf 202 = 8 := by kernel_rfl
@[simp] theorem zero202 : azero Tryz.prog 202 = some [.nilf] := by kernel_rfl
@[simp] theorem cells203 : Tryz.prog.cellsOf 203 = 1 := by kernel_rfl
@[simp] theorem bytes203 : Tryz.prog.bytesOf 203 = 8 := by kernel_rfl
@[simp] theorem zero203 : azero Tryz.prog 203 = some [.nilf] := by kernel_rfl
@[simp] theorem cells204 : Tryz.prog.cellsOf 204 = 1 := by kernel_rfl
@[simp] theorem bytes204 : Tryz.prog.bytesOf 204 = 8 := by kernel_rfl
@[simp] theorem zero204 : azero Tryz.prog 204 = some [.nilf] := by kernel_rfl
@[simp] theorem cells205 : Tryz.prog.cellsOf 205 = 1 := by kernel_rfl
@[simp] theorem bytes205 : Tryz.prog.bytesOf 205 = 8 := by kernel_rfl
@[simp] theorem zero205 : azero Tryz.prog 205 = some [.nilf] := by kernel_rfl
@[simp] theorem cells206 : Tryz.prog.cellsOf 206 = 1 := by kernel_rfl
@[simp] theorem bytes206 : Tryz.prog.bytesOf 206 = 8 := by kernel_rfl
@[simp] theorem zero206 : azero Tryz.prog 206 = some [.nilf] := by kernel_rfl
@[simp] theorem cells207 : Tryz.prog.cellsOf 207 = 1 := by kernel_rfl
@[simp] theorem bytes207 : Tryz.prog.bytesOf 207 = 8 := by kernel_rfl
@[simp] theorem zero207 : azero Tryz.prog 207 = some [.nilf] := by kernel_rfl
@[simp] theorem cells208 : Tryz.prog.cellsOf 208 = 1 := by kernel_rfl
@[simp] theorem bytes208 : Tryz.prog.bytesOf 208 = 8 := by kernel_rfl
@[simp] theorem zero208 : azero Tryz.prog 208 = some [.nilf] := by kernel_rfl
@[simp] theorem cells209 : Tryz.prog.cellsOf 209 = 1 := by kernel_rfl
@[simp] theorem bytes209 : Tryz.prog.bytesOf 209 = 8 := by kernel_rfl
@[simp] theorem zero209 : azero Tryz.prog 209 = some [.nilf] := by kernel_rfl
@[simp] theorem cells210 : Tryz.prog.cellsOf 210 = 1 := by kernel_rfl
@[simp] theorem bytes210 : Tryz.prog.bytesOf 210 = 8 := by kernel_rfl
@[simp] theorem zero210 : azero Tryz.prog 210 = some [.nilf] := by kernel_rfl
@[simp] theorem cells211 : Tryz.prog.cellsOf 211 = 1 := by kernel_rfl
@[simp] theorem bytes211 : Tryz.prog.bytesOf 211 = 8 := by kernel_rfl
@[simp] theorem zero211 : azero Tryz.prog 211 = some [.nilf] := by kernel_rfl
@[simp] theorem cells212 : Tryz.prog.cellsOf 212 = 1 := by kernel_rfl
@[simp] theorem bytes212 : Tryz.prog.bytesOf 212 = 8 := by kernel_rfl
@[simp] theorem zero212 : azero Tryz.prog 212 = some [.nilf] := by kernel_rfl
@[simp] theorem cells213 : Tryz.prog.cellsOf 213 = 1 := by kernel_rfl
@[simp] theorem bytes213 : Tryz.prog.bytesOf 213 = 8 := by kernel_rfl
@[simp] theorem zero213 : azero Tryz.prog 213 = some [.nilf] := by kernel_rfl
@[simp] theorem cells214 : Tryz.prog.cellsOf 214 = 1 := by kernel_rfl
@[simp] theorem bytes214 : Tryz.prog.bytesOf 214 = 8 := by kernel_rfl
@[simp] theorem zero214 : azero Tryz.prog 214 = some [.nilf] := by kernel_rfl
@[simp] theorem cells215 : Tryz.prog.cellsOf 215 = 1 := by kernel_rfl
@[simp] theorem bytes215 : Tryz.prog.bytesOf 215 = 8 := by kernel_rfl
@[simp] theorem zero215 : azero Tryz.prog 215 = some [.nilp] := by kernel_rfl
@[simp] theorem cells216 : Tryz.prog.cellsOf 216 = 1 := by kernel_rfl
@[simp] theorem bytes216 : Tryz.prog.bytesOf 216 = 8 := by kernel_rfl
@[simp] theorem zero216 : azero Tryz.prog 216 = some [.nilf] := by kernel_rfl
@[simp] theorem cells217 : Tryz.prog.cellsOf 217 = 10 := by kernel_rfl
@[simp] theorem bytes217 : Tryz.prog.bytesOf 217 = 10 := by kernel_rfl
@[simp] theorem zero217 : azero Tryz.prog 217 = some [.int .u8 0, .int .u8 0, .int .u8 0, .int .u8 0, .int .u8 0, .int .u8 0, .int .u8 0, .int .u8 0, .int .u8 0, .int .u8 0] := by kernel_rfl
@[simp] theorem cells218 : Tryz.prog.cellsOf 218 = 1 := by kernel_rfl
@[simp] theorem bytes218 : Tryz.prog.bytesOf 218 = 8 := by kernel_rfl
@[simp] theorem zero218 : azero Tryz.prog 218 = some [.int .u64 0] := by kernel_rfl
@[simp] theorem cells219 : Tryz.prog.cellsOf 219 = 1 := by kernel_rfl
@[simp] theorem bytes219 : Tryz.prog.bytesOf 219 = 8 := by kernel_rfl
@[simp] theorem zero219 : azero Tryz.prog 219 = some [.nilf] := by kernel_rfl
@[simp] theorem cells220 : Tryz.prog.cellsOf 220 = 1 := by kernel_rfl
@[simp] theorem bytes220 : Tryz.prog.bytesOf 220 = 8 := by kernel_rfl
@[simp] theorem zero220 : azero Tryz.prog 220 = some [.nilf] := by kernel_rfl
@[simp] theorem cells221 : Tryz.prog.cellsOf 221 = 1 := by kernel_rfl
@[simp] theorem bytes221 : Tryz.prog.bytesOf 221 = 8 := by kernel_rfl
@[simp] theorem zero221 : azero Tryz.prog 221 = some [.nilf] := by kernel_rfl
@[simp] theorem cells222 : Tryz.prog.cellsOf 222 = 3 := by kernel_rfl
@[simp] theorem bytes222 : Tryz.prog.bytesOf 222 = 40 := by kernel_rfl
@[simp] theorem stood222 : Tryz.prog.stoodInHeld 222 = false := by kernel_rfl
@[simp] theorem eqg222 : Tryz.prog.eqGuardType Tryz.prog.depth 222 = false := by kernel_rfl
@[simp] theorem zero222 : azero Tryz.prog 222 = some [.sl 0 [] .full, .int .i64 0, .bool false] := by kernel_rfl
@[simp] theorem cells223 : Tryz.prog.cellsOf 223 = 3 := by kernel_rfl
@[simp] theorem bytes223 : Tryz.prog.bytesOf 223 = 40 := by kernel_rfl
@[simp] theorem stood223 : Tryz.prog.stoodInHeld 223 = false := by kernel_rfl
@[simp] theorem eqg223 : Tryz.prog.eqGuardType Tryz.prog.depth 223 = false := by kernel_rfl
@[simp] theorem zero223 : azero Tryz.prog 223 = some [.sl 0 [] .full, .int .i64 0, .bool false] := by kernel_rfl
@[simp] theorem cells224 : Tryz.prog.cellsOf 224 = 1 := by kernel_rfl
@[simp] theorem bytes224 : Tryz.prog.bytesOf 224 = 8 := by kernel_rfl
@[simp] theorem zero224 : azero Tryz.prog 224 = some [.nilf] := by kernel_rfl
@[simp] theorem cells225 : Tryz.prog.cellsOf 225 = 1 := by kernel_rfl
@[simp] theorem bytes225 : Tryz.prog.bytesOf 225 = 0 := by kernel_rfl
@[simp] theorem cells226 : Tryz.prog.cellsOf 226 = 1 := by kernel_rfl
@[simp] theorem bytes226 : Tryz.prog.bytesOf 226 = 8 := by kernel_rfl
@[simp] theorem zero226 : azero Tryz.prog 226 = some [.nilf] := by kernel_rfl
@[simp] theorem cells227 : Tryz.prog.cellsOf 227 = 1 := by kernel_rfl
@[simp] theorem bytes227 : Tryz.prog.bytesOf 227 = 0 := by kernel_rfl
@[simp] theorem cells228 : Tryz.prog.cellsOf 228 = 1 := by kernel_rfl
@[simp] theorem bytes228 : Tryz.prog.bytesOf 228 = 8 := by kernel_rfl
@[simp] theorem zero228 : azero Tryz.prog 228 = some [.nilf] := by kernel_rfl
@[simp] theorem cells229 : Tryz.prog.cellsOf 229 = 1 := by kernel_rfl
@[simp] theorem bytes229 : Tryz.prog.bytesOf 229 = 8 := by kernel_rfl
@[simp] theorem zero229 : azero Tryz.prog 229 = some [.nilf] := by kernel_rfl
@[simp] theorem cells230 : Tryz.prog.cellsOf 230 = 1 := by kernel_rfl
@[simp] theorem bytes230 : Tryz.prog.bytesOf 230 = 8 := by kernel_rfl
@[simp] theorem zero230 : azero Tryz.prog 230 = some [.nilf] := by kernel_rfl
@[simp] theorem cells231 : Tryz.prog.cellsOf 231 = 1 := by kernel_rfl
@[simp] theorem bytes231 : Tryz.prog.bytesOf 231 = 8 := by kernel_rfl
@[simp] theorem zero231 : azero Tryz.prog 231 = some [.nilf] := by kernel_rfl
@[simp] theorem cells232 : Tryz.prog.cellsOf 232 = 1 := by kernel_rfl
@[simp] theorem bytes232 : Tryz.prog.bytesOf 232 = 8 := by kernel_rfl
@[simp] theorem zero232 : azero Tryz.prog 232 = some [.int .i64 0] := by kernel_rfl
@[simp] theorem cells233 : Tryz.prog.cellsOf 233 = 1 := by kernel_rfl
@[simp] theorem bytes233 : Tryz.prog.bytesOf 233 = 0 := by kernel_rfl
@[simp] theorem cells234 : Tryz.prog.cellsOf 234 = 1 := by kernel_rfl
@[simp] theorem bytes234 : Tryz.prog.bytesOf 234 = 8 := by kernel_rfl
@[simp] theorem zero234 : azero Tryz.prog 234 = some [.nilf] := by kernel_rfl
@[simp] theorem cells235 : Tryz.prog.cellsOf 235 = 1 := by kernel_rfl
@[simp] theorem bytes235 : Tryz.prog.bytesOf 235 = 8 := by kernel_rfl
@[simp] theorem zero235 : azero Tryz.prog 235 = some [.nilf] := by kernel_rfl
@[simp] theorem cells236 : Tryz.prog.cellsOf 236 = 1 := by kernel_rfl
@[simp] theorem bytes236 : Tryz.prog.bytesOf 236 = 8 := by kernel_rfl
@[simp] theorem zero236 : azero Tryz.prog 236 = some [.nilf] := by kernel_rfl
@[simp] theorem cells237 : Tryz.prog.cellsOf 237 = 1 := by kernel_rfl
@[simp] theorem bytes237 : Tryz.prog.bytesOf 237 = 8 := by kernel_rfl
@[simp] theorem zero237 : azero Tryz.prog 237 = some [.nilf] := by kernel_rfl
@[simp] theorem cells238 : Tryz.prog.cellsOf 238 = 1 := by kernel_rfl
@[simp] theorem bytes238 : Tryz.prog.bytesOf 238 = 8 := by kernel_rfl
@[simp] theorem zero238 : azero Tryz.prog 238 = some [.nilf] := by kernel_rfl
@[simp] theorem cells239 : Tryz.prog.cellsOf 239 = 1 := by kernel_rfl
@[simp] theorem bytes239 : Tryz.prog.bytesOf 239 = 4 := by kernel_rfl
@[simp] theorem zero239 : azero Tryz.prog 239 = some [.int .u32 0] := by kernel_rfl
@[simp] theorem cells240 : Tryz.prog.cellsOf 240 = 1 := by kernel_rfl
@[simp] theorem bytes240 : Tryz.prog.bytesOf 240 = 8 := by kernel_rfl
@[simp] theorem zero240 : azero Tryz.prog 240 = some [.nilf] := by kernel_rfl
@[simp] theorem cells241 : Tryz.prog.cellsOf 241 = 1 := by kernel_rfl
@[simp] theorem bytes241 : Tryz.prog.bytesOf 241 = 8 := by kernel_rfl
@[simp] theorem zero241 : azero Tryz.prog 241 = some [.nilf] := by kernel_rfl
@[simp] theorem cells242 : Tryz.prog.cellsOf 242 = 1 := by kernel_rfl
@[simp] theorem bytes242 : Tryz.prog.bytesOf 242 = 8 := by kernel_rfl
@[simp] theorem zero242 : azero Tryz.prog 242 = some [.nilf] := by kernel_rfl
@[simp] theorem cells243 : Tryz.prog.cellsOf 243 = 1 := by kernel_rfl
@[simp] theorem bytes243 : Tryz.prog.bytesOf 243 = 8 := by kernel_rfl
@[simp] theorem zero243 : azero Tryz.prog 243 = some [.nilf] := by kernel_rfl
@[simp] theorem cells244 : Tryz.prog.cellsOf 244 = 1 := by kernel_rfl
@[simp] theorem bytes244 : Tryz.prog.bytesOf 244 = 8 := by kernel_rfl
@[simp] theorem zero244 : azero Tryz.prog 244 = some [.nilf] := by kernel_rfl
@[simp] theorem cells245 : Tryz.prog.cellsOf 245 = 1 := by kernel_rfl
@[simp] theorem bytes245 : Tryz.prog.bytesOf 245 = 8 := by kernel_rfl
@[simp] theorem zero245 : azero Tryz.prog 245 = some [.nilf] := by kernel_rfl
@[simp] theorem cells246 : Tryz.prog.cellsOf 246 = 1 := by kernel_rfl
@[simp] theorem bytes246 : Tryz.prog.bytesOf 246 = 8 := by kernel_rfl
@[simp] theorem zero246 : azero Tryz.prog 246 = some [.nilf] := by kernel_rfl
@[simp] theorem cells247 : Tryz.prog.cellsOf 247 = 1 := by kernel_rfl
@[simp] theorem bytes247 : Tryz.prog.bytesOf 247 = 8 := by kernel_rfl
@[simp] theorem zero247 : azero Tryz.prog 247 = some [.nilf] := by kernel_rfl
@[simp] theorem cells248 : Tryz.prog.cellsOf 248 = 1 := by kernel_rfl
@[simp] theorem bytes248 : Tryz.prog.bytesOf 248 = 8 := by kernel_rfl
@[simp] theorem zero248 : azero Tryz.prog 248 = some [.nilf] := by kernel_rfl
@[simp] theorem cells249 : Tryz.prog.cellsOf 249 = 1 := by kernel_rfl
@[simp] theorem bytes249 : Tryz.prog.bytesOf 249 = 8 := by kernel_rfl
@[simp] theorem zero249 : azero Tryz.prog 249 = some [.nilf] := by kernel_rfl
@[simp] theorem cells250 : Tryz.prog.cellsOf 250 = 1 := by kernel_rfl
@[simp] theorem bytes250 : Tryz.prog.bytesOf 250 = 8 := by kernel_rfl
@[simp] theorem zero250 : azero Tryz.prog 250 = some [.nilf] := by kernel_rfl
@[simp] theorem cells251 : Tryz.prog.cellsOf 251 = 1 := by kernel_rfl
@[simp] theorem bytes251 : Tryz.prog.bytesOf 251 = 8 := by kernel_rfl
@[simp] theorem zero251 : azero Tryz.prog 251 = some [.nilf] := by kernel_rfl
@[simp] theorem cells252 : Tryz.prog.cellsOf 252 = 1 := by kernel_rfl
@[simp] theorem bytes252 : Tryz.prog.bytesOf 252 = 8 := by kernel_rfl
@[simp] theorem zero252 : azero Tryz.prog 252 = some [.nilf] := by kernel_rfl
@[simp] theorem cells253 : Tryz.prog.cellsOf 253 = 1 := by kernel_rfl
@[simp] theorem bytes253 : Tryz.prog.bytesOf 253 = 8 := by kernel_rfl
@[simp] theorem zero253 : azero Tryz.prog 253 = some [.nilf] := by kernel_rfl
@[simp] theorem cells254 : Tryz.prog.cellsOf 254 = 1 := by kernel_rfl
@[simp] theorem bytes254 : Tryz.prog.bytesOf 254 = 8 := by kernel_rfl
@[simp] theorem zero254 : azero Tryz.prog 254 = some [.nilf] := by kernel_rfl
@[simp] theorem cells255 : Tryz.prog.cellsOf 255 = 1 := by kernel_rfl
@[simp] theorem bytes255 : Tryz.prog.bytesOf 255 = 8 := by kernel_rfl
@[simp] theorem zero255 : azero Tryz.prog 255 = some [.nilf] := by kernel_rfl
@[simp] theorem cells256 : Tryz.prog.cellsOf 256 = 1 := by kernel_rfl
@[simp] theorem bytes256 : Tryz.prog.bytesOf 256 = 8 := by kernel_rfl
@[simp] theorem zero256 : azero Tryz.prog 256 = some [.int .u64 0] := by kernel_rfl
@[simp] theorem cells257 : Tryz.prog.cellsOf 257 = 1 := by kernel_rfl
@[simp] theorem bytes257 : Tryz.prog.bytesOf 257 = 8 := by kernel_rfl
@[simp] theorem zero257 : azero Tryz.prog 257 = some [.nilf] := by kernel_rfl
@[simp] theorem cells258 : Tryz.prog.cellsOf 258 = 1 := by kernel_rfl
@[simp] theorem bytes258 : Tryz.prog.bytesOf 258 = 8 := by kernel_rfl
@[simp] theorem zero258 : azero Tryz.prog 258 = some [.nilf] := by kernel_rfl
@[simp] theorem cells259 : Tryz.prog.cellsOf 259 = 1 := by kernel_rfl
@[simp] theorem bytes259 : Tryz.prog.bytesOf 259 = 8 := by kernel_rfl
@[simp] theorem zero259 : azero Tryz.prog 259 = some [.nilf] := by kernel_rfl
@[simp] theorem cells260 : Tryz.prog.cellsOf 260 = 1 := by kernel_rfl
@[simp] theorem bytes260 : Tryz.prog.bytesOf 260 = 8 := by kernel_rfl
@[simp] theorem zero260 : azero Tryz.prog 260 = some [.nilf] := by kernel_rfl
@[simp] theorem cells261 : Tryz.prog.cellsOf 261 = 1 := by kernel_rfl
@[simp] theorem bytes261 : Tryz.prog.bytesOf 261 = 8 := by kernel_rfl
@[simp] theorem zero261 : azero Tryz.prog 261 = some [.nilf] := by kernel_rfl
@[simp] theorem cells262 : Tryz.prog.cellsOf 262 = 1 := by kernel_rfl
@[simp] theorem bytes262 : Tryz.prog.bytesOf 262 = 8 := by kernel_rfl
@[simp] theorem zero262 : azero Tryz.prog 262 = some [.nilf] := by kernel_rfl
@[simp] theorem cells263 : Tryz.prog.cellsOf 263 = 1 := by kernel_rfl
@[simp] theorem bytes263 : Tryz.prog.bytesOf 263 = 8 := by kernel_rfl
@[simp] theorem zero263 : azero Tryz.prog 263 = some [.nilf] := by kernel_rfl
@[simp] theorem cells264 : Tryz.prog.cellsOf 264 = 1 := by kernel_rfl
@[simp] theorem bytes264 : Tryz.prog.bytesOf 264 = 8 := by kernel_rfl
@[simp] theorem zero264 : azero Tryz.prog 264 = some [.nilf] := by kernel_rfl
@[simp] theorem cells265 : Tryz.prog.cellsOf 265 = 1 := by kernel_rfl
@[simp] theorem bytes265 : Tryz.prog.bytesOf 265 = 8 := by kernel_rfl
@[simp] theorem zero265 : azero Tryz.prog 265 = some [.nilf] := by kernel_rfl
@[simp] theorem cells266 : Tryz.prog.cellsOf 266 = 1 := by kernel_rfl
@[simp] theorem bytes266 : Tryz.prog.bytesOf 266 = 8 := by kernel_rfl
@[simp] theorem zero266 : azero Tryz.prog 266 = some [.nilf] := by kernel_rfl
@[simp] theorem cells267 : Tryz.prog.cellsOf 267 = 1 := by kernel_rfl
@[simp] theorem bytes267 : Tryz.prog.bytesOf 267 = 8 := by kernel_rfl
@[simp] theorem zero267 : azero Tryz.prog 267 = some [.nilp] := by kernel_rfl
@[simp] theorem cells268 : Tryz.prog.cellsOf 268 = 1 := by kernel_rfl
@[simp] theorem bytes268 : Tryz.prog.bytesOf 268 = 8 := by kernel_rfl
@[simp] theorem zero268 : azero Tryz.prog 268 = some [.nilf] := by kernel_rfl
@[simp] theorem cells269 : Tryz.prog.cellsOf 269 = 1 := by kernel_rfl
@[simp] theorem bytes269 : Tryz.prog.bytesOf 269 = 8 := by kernel_rfl
@[simp] theorem zero269 : azero Tryz.prog 269 = some [.nilf] := by kernel_rfl
@[simp] theorem cells270 : Tryz.prog.cellsOf 270 = 1 := by kernel_rfl
@[simp] theorem bytes270 : Tryz.prog.bytesOf 270 = 8 := by kernel_rfl
@[simp] theorem zero270 : azero Tryz.prog 270 = some [.nilf] := by kernel_rfl
@[simp] theorem cells271 : Tryz.prog.cellsOf 271 = 1 := by kernel_rfl
@[simp] theorem bytes271 : Tryz.prog.bytesOf 271 = 8 := by kernel_rfl
@[simp] theorem zero271 : azero Tryz.prog 271 = some [.nilf] := by kernel_rfl
@[simp] theorem cells272 : Tryz.prog.cellsOf 272 = 1 := by kernel_rfl
@[simp] theorem bytes272 : Tryz.prog.bytesOf 272 = 8 := by kernel_rfl
@[simp] theorem zero272 : azero Tryz.prog 272 = some [.nilf] := by kernel_rfl
@[simp] theorem cells273 : Tryz.prog.cellsOf 273 = 4 := by kernel_rfl
@[simp] theorem bytes273 : Tryz.prog.bytesOf 273 = 40 := by kernel_rfl
@[simp] theorem stood273 : Tryz.prog.stoodInHeld 273 = true := by kernel_rfl
@[simp] theorem eqg273 : Tryz.prog.eqGuardType Tryz.prog.depth 273 = false := by kernel_rfl
@[simp] theorem zero273 : azero Tryz.prog 273 = some [.nilp, .nilp, .nilp, .str []] := by kernel_rfl
@[simp] theorem cells274 : Tryz.prog.cellsOf 274 = 4 := by kernel_rfl
@[simp] theorem bytes274 : Tryz.prog.bytesOf 274 = 40 := by kernel_rfl
@[simp] theorem stood274 : Tryz.prog.stoodInHeld 274 = true := by kernel_rfl
@[simp] theorem eqg274 : Tryz.prog.eqGuardType Tryz.prog.depth 274 = false := by kernel_rfl
@[simp] theorem zero274 : azero Tryz.prog 274 = some [.nilp, .nilp, .nilp, .str []] := by kernel_rfl
@[simp] theorem cells275 : Tryz.prog.cellsOf 275 = 0 := by kernel_rfl
@[simp] theorem bytes275 : Tryz.prog.bytesOf 275 = 0 := by kernel_rfl
@[simp] theorem zero275 : azero Tryz.prog 275 = some [] := by kernel_rfl
@[simp] theorem cells276 : Tryz.prog.cellsOf 276 = 0 := by kernel_rfl
@[simp] theorem bytes276 : Tryz.prog.bytesOf 276 = 0 := by kernel_rfl
@[simp] theorem stood276 : Tryz.prog.stoodInHeld 276 = true := by kernel_rfl
@[simp] theorem eqg276 : Tryz.prog.eqGuardType Tryz.prog.depth 276 = false := by kernel_rfl
@[simp] theorem zero276 : azero Tryz.prog 276 = some [] := by kernel_rfl
@[simp] theorem cells277 : Tryz.prog.cellsOf 277 = 0 := by kernel_rfl
@[simp] theorem bytes277 : Tryz.prog.bytesOf 277 = 0 := by kernel_rfl
@[simp] theorem stood277 : Tryz.prog.stoodInHeld 277 = true := by kernel_rfl
@[simp] theorem eqg277 : Tryz.prog.eqGuardType Tryz.prog.depth 277 = false := by kernel_rfl
@[simp] theorem zero277 : azero Tryz.prog 277 = some [] := by kernel_rfl
@[simp] theorem cells278 : Tryz.prog.cellsOf 278 = 1 := by kernel_rfl
@[simp] theorem bytes278 : Tryz.prog.bytesOf 278 = 1 := by kernel_rfl
@[simp] theorem zero278 : azero Tryz.prog 278 = some [.int .u8 0] := by kernel_rfl
@[simp] theorem cells279 : Tryz.prog.cellsOf 279 = 1 := by kernel_rfl
@[simp] theorem bytes279 : Tryz.prog.bytesOf 279 = 1 := by kernel_rfl
@[simp] theorem zero279 : azero Tryz.prog 279 = some [.int .u8 0] := by kernel_rfl
@[simp] theorem cells280 : Tryz.prog.cellsOf 280 = 1 := by kernel_rfl
@[simp] theorem bytes280 : Tryz.prog.bytesOf 280 = 8 := by kernel_rfl
@[simp] theorem zero280 : azero Tryz.prog 280 = some [.nilf] := by kernel_rfl
@[simp] theorem cells281 : Tryz.prog.cellsOf 281 = 1 := by kernel_rfl
@[simp] theorem bytes281 : Tryz.prog.bytesOf 281 = 8 := by kernel_rfl
@[simp] theorem zero281 : azero Tryz.prog 281 = some [.nilp] := by kernel_rfl
@[simp] theorem cells282 : Tryz.prog.cellsOf 282 = 1 := by kernel_rfl
@[simp] theorem bytes282 : Tryz.prog.bytesOf 282 = 4 := by kernel_rfl
@[simp] theorem zero282 : azero Tryz.prog 282 = some [.int .i32 0] := by kernel_rfl
@[simp] theorem cells283 : Tryz.prog.cellsOf 283 = 1 := by kernel_rfl
@[simp] theorem bytes283 : Tryz.prog.bytesOf 283 = 4 := by kernel_rfl
@[simp] theorem zero283 : azero Tryz.prog 283 = some [.int .i32 0] := by kernel_rfl
@[simp] theorem cells284 : Tryz.prog.cellsOf 284 = 11 := by kernel_rfl
@[simp] theorem bytes284 : Tryz.prog.bytesOf 284 = 48 := by kernel_rfl
@[simp] theorem stood284 : Tryz.prog.stoodInHeld 284 = true := by kernel_rfl
@[simp] theorem eqg284 : Tryz.prog.eqGuardType Tryz.prog.depth 284 = false := by kernel_rfl
@[simp] theorem zero284 : azero Tryz.prog 284 = some [.int .u64 0, .int .u64 0, .int .u32 0, .int .u8 0, .int .u8 0, .int .u8 0, .int .u8 0, .nilf, .nilp, .int .i32 0, .int .i32 0] := by kernel_rfl
@[simp] theorem cells285 : Tryz.prog.cellsOf 285 = 11 := by kernel_rfl
@[simp] theorem bytes285 : Tryz.prog.bytesOf 285 = 48 := by kernel_rfl
@[simp] theorem stood285 : Tryz.prog.stoodInHeld 285 = true := by kernel_rfl
@[simp] theorem eqg285 : Tryz.prog.eqGuardType Tryz.prog.depth 285 = false := by kernel_rfl
@[simp] theorem zero285 : azero Tryz.prog 285 = some [.int .u64 0, .int .u64 0, .int .u32 0, .int .u8 0, .int .u8 0, .int .u8 0, .int .u8 0, .nilf, .nilp, .int .i32 0, .int .i32 0] := by kernel_rfl
@[simp] theorem cells286 : Tryz.prog.cellsOf 286 = 1 := by kernel_rfl
@[simp] theorem bytes286 : Tryz.prog.bytesOf 286 = 8 := by kernel_rfl
@[simp] theorem zero286 : azero Tryz.prog 286 = some [.nilp] := by kernel_rfl
end Go.Proofs.YtneohapkboaplaaGreat
