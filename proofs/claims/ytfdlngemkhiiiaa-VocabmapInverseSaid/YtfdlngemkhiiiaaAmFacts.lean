/- Sizes and zero values of the types of this translation, as the abstract machine asks for them.
   Conditions: none. -/
import Derived.Test.YtfdlngemkhiiiaaRows
import Derived.Test.YtfdlngemkhiiiaaAmGhost
namespace Go.Proofs.Ytfdlngemkhiiiaa
open Go.Am
@[simp] theorem cells0 : Try.prog.cellsOf 0 = 1 := by kernel_rfl
@[simp] theorem bytes0 : Try.prog.bytesOf 0 = 0 := by kernel_rfl
@[simp] theorem cells1 : Try.prog.cellsOf 1 = 1 := by kernel_rfl
@[simp] theorem bytes1 : Try.prog.bytesOf 1 = 8 := by kernel_rfl
@[simp] theorem zero1 : azero Try.prog 1 = some [.nilf] := by kernel_rfl
@[simp] theorem cells2 : Try.prog.cellsOf 2 = 1 := by kernel_rfl
@[simp] theorem bytes2 : Try.prog.bytesOf 2 = 8 := by kernel_rfl
@[simp] theorem zero2 : azero Try.prog 2 = some [.int .i64 0] := by kernel_rfl
@[simp] theorem cells3 : Try.prog.cellsOf 3 = 1 := by kernel_rfl
@[simp] theorem bytes3 : Try.prog.bytesOf 3 = 8 := by kernel_rfl
@[simp] theorem zero3 : azero Try.prog 3 = some [.int .i64 0] := by kernel_rfl
@[simp] theorem cells4 : Try.prog.cellsOf 4 = 1 := by kernel_rfl
@[simp] theorem bytes4 : Try.prog.bytesOf 4 = 1 := by kernel_rfl
@[simp] theorem zero4 : azero Try.prog 4 = some [.bool false] := by kernel_rfl
@[simp] theorem cells5 : Try.prog.cellsOf 5 = 1 := by kernel_rfl
@[simp] theorem bytes5 : Try.prog.bytesOf 5 = 1 := by kernel_rfl
@[simp] theorem zero5 : azero Try.prog 5 = some [.int .u8 0] := by kernel_rfl
@[simp] theorem cells6 : Try.prog.cellsOf 6 = 1 := by kernel_rfl
@[simp] theorem bytes6 : Try.prog.bytesOf 6 = 1 := by kernel_rfl
@[simp] theorem zero6 : azero Try.prog 6 = some [.int .u8 0] := by kernel_rfl
@[simp] theorem cells7 : Try.prog.cellsOf 7 = 4 := by kernel_rfl
@[simp] theorem bytes7 : Try.prog.bytesOf 7 = 24 := by kernel_rfl
@[simp] theorem stood7 : Try.prog.stoodInHeld 7 = false := by kernel_rfl
@[simp] theorem eqg7 : Try.prog.eqGuardType Try.prog.depth 7 = false := by kernel_rfl
@[simp] theorem zero7 : azero Try.prog 7 = some [.int .i64 0, .int .i64 0, .bool false, .int .u8 0] := by kernel_rfl
@[simp] theorem cells8 : Try.prog.cellsOf 8 = 4 := by kernel_rfl
@[simp] theorem bytes8 : Try.prog.bytesOf 8 = 24 := by kernel_rfl
@[simp] theorem stood8 : Try.prog.stoodInHeld 8 = false := by kernel_rfl
@[simp] theorem eqg8 : Try.prog.eqGuardType Try.prog.depth 8 = false := by kernel_rfl
@[simp] theorem zero8 : azero Try.prog 8 = some [.int .i64 0, .int .i64 0, .bool false, .int .u8 0] := by kernel_rfl
@[simp] theorem cells9 : Try.prog.cellsOf 9 = 1 := by kernel_rfl
@[simp] theorem bytes9 : Try.prog.bytesOf 9 = 16 := by kernel_rfl
@[simp] theorem zero9 : azero Try.prog 9 = some [.str []] := by kernel_rfl
@[simp] theorem cells10 : Try.prog.cellsOf 10 = 1 := by kernel_rfl
@[simp] theorem bytes10 : Try.prog.bytesOf 10 = 16 := by kernel_rfl
@[simp] theorem zero10 : azero Try.prog 10 = some [.str []] := by kernel_rfl
@[simp] theorem cells11 : Try.prog.cellsOf 11 = 1 := by kernel_rfl
@[simp] theorem bytes11 : Try.prog.bytesOf 11 = 16 := by kernel_rfl
@[simp] theorem zero11 : azero Try.prog 11 = some [.str []] := by kernel_rfl
@[simp] theorem cells12 : Try.prog.cellsOf 12 = 1 := by kernel_rfl
@[simp] theorem bytes12 : Try.prog.bytesOf 12 = 8 := by kernel_rfl
@[simp] theorem zero12 : azero Try.prog 12 = some [.int .u64 0] := by kernel_rfl
@[simp] theorem cells13 : Try.prog.cellsOf 13 = 2 := by kernel_rfl
@[simp] theorem bytes13 : Try.prog.bytesOf 13 = 24 := by kernel_rfl
@[simp] theorem stood13 : Try.prog.stoodInHeld 13 = true := by kernel_rfl
@[simp] theorem eqg13 : Try.prog.eqGuardType Try.prog.depth 13 = false := by kernel_rfl
@[simp] theorem zero13 : azero Try.prog 13 = some [.str [], .int .u64 0] := by kernel_rfl
@[simp] theorem cells14 : Try.prog.cellsOf 14 = 2 := by kernel_rfl
@[simp] theorem bytes14 : Try.prog.bytesOf 14 = 24 := by kernel_rfl
@[simp] theorem stood14 : Try.prog.stoodInHeld 14 = true := by kernel_rfl
@[simp] theorem eqg14 : Try.prog.eqGuardType Try.prog.depth 14 = false := by kernel_rfl
@[simp] theorem zero14 : azero Try.prog 14 = some [.str [], .int .u64 0] := by kernel_rfl
@[simp] theorem cells15 : Try.prog.cellsOf 15 = 1 := by kernel_rfl
@[simp] theorem bytes15 : Try.prog.bytesOf 15 = 8 := by kernel_rfl
@[simp] theorem zero15 : azero Try.prog 15 = some [.nilp] := by kernel_rfl
@[simp] theorem cells16 : Try.prog.cellsOf 16 = 1 := by kernel_rfl
@[simp] theorem bytes16 : Try.prog.bytesOf 16 = 8 := by kernel_rfl
@[simp] theorem zero16 : azero Try.prog 16 = some [.nilp] := by kernel_rfl
@[simp] theorem cells17 : Try.prog.cellsOf 17 = 1 := by kernel_rfl
@[simp] theorem bytes17 : Try.prog.bytesOf 17 = 8 := by kernel_rfl
@[simp] theorem zero17 : azero Try.prog 17 = some [.nilp] := by kernel_rfl
@[simp] theorem cells18 : Try.prog.cellsOf 18 = 1 := by kernel_rfl
@[simp] theorem bytes18 : Try.prog.bytesOf 18 = 8 := by kernel_rfl
@[simp] theorem stood18 : Try.prog.stoodInHeld 18 = true := by kernel_rfl
@[simp] theorem eqg18 : Try.prog.eqGuardType Try.prog.depth 18 = false := by kernel_rfl
@[simp] theorem zero18 : azero Try.prog 18 = some [.nilp] := by kernel_rfl
@[simp] theorem cells19 : Try.prog.cellsOf 19 = 1 := by kernel_rfl
@[simp] theorem bytes19 : Try.prog.bytesOf 19 = 8 := by kernel_rfl
@[simp] theorem stood19 : Try.prog.stoodInHeld 19 = true := by kernel_rfl
@[simp] theorem eqg19 : Try.prog.eqGuardType Try.prog.depth 19 = false := by kernel_rfl
@[simp] theorem zero19 : azero Try.prog 19 = some [.nilp] := by kernel_rfl
@[simp] theorem cells20 : Try.prog.cellsOf 20 = 1 := by kernel_rfl
@[simp] theorem bytes20 : Try.prog.bytesOf 20 = 16 := by kernel_rfl
@[simp] theorem zero20 : azero Try.prog 20 = some [.top] := by kernel_rfl
@[simp] theorem cells21 : Try.prog.cellsOf 21 = 1 := by kernel_rfl
@[simp] theorem bytes21 : Try.prog.bytesOf 21 = 4 := by kernel_rfl
@[simp] theorem zero21 : azero Try.prog 21 = some [.int .i32 0] := by kernel_rfl
@[simp] theorem cells22 : Try.prog.cellsOf 22 = 1 := by kernel_rfl
@[simp] theorem bytes22 : Try.prog.bytesOf 22 = 24 := by kernel_rfl
@[simp] theorem zero22 : azero Try.prog 22 = some [.sl 0 [] .full] := by kernel_rfl
@[simp] theorem cells23 : Try.prog.cellsOf 23 = 1 := by kernel_rfl
@[simp] theorem bytes23 : Try.prog.bytesOf 23 = 8 := by kernel_rfl
@[simp] theorem zero23 : azero Try.prog 23 = some [.nilf] := by kernel_rfl
@[simp] theorem cells24 : Try.prog.cellsOf 24 = 1 := by kernel_rfl
@[simp] theorem bytes24 : Try.prog.bytesOf 24 = 8 := by kernel_rfl
@[simp] theorem zero24 : azero Try.prog 24 = some [.int .i64 0] := by kernel_rfl
@[simp] theorem cells25 : Try.prog.cellsOf 25 = 1 := by kernel_rfl
@[simp] theorem bytes25 : Try.prog.bytesOf 25 = 0 := by kernel_rfl
@[simp] theorem cells26 : Try.prog.cellsOf 26 = 1 := by kernel_rfl
@[simp] theorem bytes26 : Try.prog.bytesOf 26 = 8 := by kernel_rfl
@[simp] theorem zero26 : azero Try.prog 26 = some [.nilf] := by kernel_rfl
@[simp] theorem cells27 : Try.prog.cellsOf 27 = 1 := by kernel_rfl
@[simp] theorem bytes27 : Try.prog.bytesOf 27 = 8 := by kernel_rfl
@[simp] theorem zero27 : azero Try.prog 27 = some [.nilf] := by kernel_rfl
@[simp] theorem cells28 : Try.prog.cellsOf 28 = 1 := by kernel_rfl
@[simp] theorem bytes28 : Try.prog.bytesOf 28 = 8 := by kernel_rfl
@[simp] theorem zero28 : azero Try.prog 28 = some [.nilf] := by kernel_rfl
@[simp] theorem cells29 : Try.prog.cellsOf 29 = 1 := by kernel_rfl
@[simp] theorem bytes29 : Try.prog.bytesOf 29 = 8 := by kernel_rfl
@[simp] theorem zero29 : azero Try.prog 29 = some [.nilf] := by kernel_rfl
@[simp] theorem cells30 : Try.prog.cellsOf 30 = 1 := by kernel_rfl
@[simp] theorem bytes30 : Try.prog.bytesOf 30 = 8 := by kernel_rfl
@[simp] theorem zero30 : azero Try.prog 30 = some [.nilf] := by kernel_rfl
@[simp] theorem cells31 : Try.prog.cellsOf 31 = 3 := by kernel_rfl
@[simp] theorem bytes31 : Try.prog.bytesOf 31 = 24 := by kernel_rfl
@[simp] theorem stood31 : Try.prog.stoodInHeld 31 = false := by kernel_rfl
@[simp] theorem eqg31 : Try.prog.eqGuardType Try.prog.depth 31 = false := by kernel_rfl
@[simp] theorem zero31 : azero Try.prog 31 = some [.int .i64 0, .int .i64 0, .int .i64 0] := by kernel_rfl
@[simp] theorem cells32 : Try.prog.cellsOf 32 = 3 := by kernel_rfl
@[simp] theorem bytes32 : Try.prog.bytesOf 32 = 24 := by kernel_rfl
@[simp] theorem stood32 : Try.prog.stoodInHeld 32 = false := by kernel_rfl
@[simp] theorem eqg32 : Try.prog.eqGuardType Try.prog.depth 32 = false := by kernel_rfl
@[simp] theorem zero32 : azero Try.prog 32 = some [.int .i64 0, .int .i64 0, .int .i64 0] := by kernel_rfl
@[simp] theorem cells33 : Try.prog.cellsOf 33 = 1 := by kernel_rfl
@[simp] theorem bytes33 : Try.prog.bytesOf 33 = 8 := by kernel_rfl
@[simp] theorem zero33 : azero Try.prog 33 = some [.nilf] := by kernel_rfl
@[simp] theorem cells34 : Try.prog.cellsOf 34 = 1 := by kernel_rfl
@[simp] theorem bytes34 : Try.prog.bytesOf 34 = 8 := by kernel_rfl
@[simp] theorem zero34 : azero Try.prog 34 = some [.top] := by kernel_rfl
@[simp] theorem mapT34 : mapT Try.prog 34 = some (39, 40) := by kernel_rfl
@[simp] theorem zeroV34 : azeroV Try.prog 40 = some (.agg [.bool false, .bool false, .bool false, .bool false]) := by kernel_rfl
@[simp] theorem cells35 : Try.prog.cellsOf 35 = 1 := by kernel_rfl
@[simp] theorem bytes35 : Try.prog.bytesOf 35 = 0 := by kernel_rfl
@[simp] theorem cells36 : Try.prog.cellsOf 36 = 1 := by kernel_rfl
@[simp] theorem bytes36 : Try.prog.bytesOf 36 = 8 := by kernel_rfl
@[simp] theorem zero36 : azero Try.prog 36 = some [.nilf] := by kernel_rfl
@[simp] theorem cells37 : Try.prog.cellsOf 37 = 1 := by kernel_rfl
@[simp] theorem bytes37 : Try.prog.bytesOf 37 = 8 := by kernel_rfl
@[simp] theorem zero37 : azero Try.prog 37 = some [.nilf] := by kernel_rfl
@[simp] theorem cells38 : Try.prog.cellsOf 38 = 1 := by kernel_rfl
@[simp] theorem bytes38 : Try.prog.bytesOf 38 = 8 := by kernel_rfl
@[simp] theorem zero38 : azero Try.prog 38 = some [.nilf] := by kernel_rfl
@[simp] theorem cells39 : Try.prog.cellsOf 39 = 2 := by kernel_rfl
@[simp] theorem bytes39 : Try.prog.bytesOf 39 = 16 := by kernel_rfl
@[simp] theorem zero39 : azero Try.prog 39 = some [.int .i64 0, .int .i64 0] := by kernel_rfl
@[simp] theorem cells40 : Try.prog.cellsOf 40 = 4 := by kernel_rfl
@[simp] theorem bytes40 : Try.prog.bytesOf 40 = 4 := by kernel_rfl
@[simp] theorem zero40 : azero Try.prog 40 = some [.bool false, .bool false, .bool false, .bool false] := by kernel_rfl
@[simp] theorem cells41 : Try.prog.cellsOf 41 = 1 := by kernel_rfl
@[simp] theorem bytes41 : Try.prog.bytesOf 41 = 8 := by kernel_rfl
@[simp] theorem zero41 : azero Try.prog 41 = some [.nilf] := by kernel_rfl
@[simp] theorem cells42 : Try.prog.cellsOf 42 = 1 := by kernel_rfl
@[simp] theorem bytes42 : Try.prog.bytesOf 42 = 24 := by kernel_rfl
@[simp] theorem zero42 : azero Try.prog 42 = some [.sl 0 [] .full] := by kernel_rfl
@[simp] theorem cells43 : Try.prog.cellsOf 43 = 1 := by kernel_rfl
@[simp] theorem bytes43 : Try.prog.bytesOf 43 = 8 := by kernel_rfl
@[simp] theorem zero43 : azero Try.prog 43 = some [.nilf] := by kernel_rfl
@[simp] theorem cells44 : Try.prog.cellsOf 44 = 1 := by kernel_rfl
@[simp] theorem bytes44 : Try.prog.bytesOf 44 = 8 := by kernel_rfl
@[simp] theorem zero44 : azero Try.prog 44 = some [.nilf] := by kernel_rfl
@[simp] theorem cells45 : Try.prog.cellsOf 45 = 1 := by kernel_rfl
@[simp] theorem bytes45 : Try.prog.bytesOf 45 = 8 := by kernel_rfl
@[simp] theorem zero45 : azero Try.prog 45 = some [.nilf] := by kernel_rfl
@[simp] theorem cells46 : Try.prog.cellsOf 46 = 1 := by kernel_rfl
@[simp] theorem bytes46 : Try.prog.bytesOf 46 = 8 := by kernel_rfl
@[simp] theorem zero46 : azero Try.prog 46 = some [.nilf] := by kernel_rfl
@[simp] theorem cells47 : Try.prog.cellsOf 47 = 1 := by kernel_rfl
@[simp] theorem bytes47 : Try.prog.bytesOf 47 = 8 := by kernel_rfl
@[simp] theorem zero47 : azero Try.prog 47 = some [.nilf] := by kernel_rfl
@[simp] theorem cells48 : Try.prog.cellsOf 48 = 1 := by kernel_rfl
@[simp] theorem bytes48 : Try.prog.bytesOf 48 = 8 := by kernel_rfl
@[simp] theorem zero48 : azero Try.prog 48 = some [.int .u64 0] := by kernel_rfl
@[simp] theorem cells49 : Try.prog.cellsOf 49 = 1 := by kernel_rfl
@[simp] theorem bytes49 : Try.prog.bytesOf 49 = 8 := by kernel_rfl
@[simp] theorem zero49 : azero Try.prog 49 = some [.nilf] := by kernel_rfl
@[simp] theorem cells50 : Try.prog.cellsOf 50 = 1 := by kernel_rfl
@[simp] theorem bytes50 : Try.prog.bytesOf 50 = 8 := by kernel_rfl
@[simp] theorem zero50 : azero Try.prog 50 = some [.nilf] := by kernel_rfl
@[simp] theorem cells51 : Try.prog.cellsOf 51 = 1 := by kernel_rfl
@[simp] theorem bytes51 : Try.prog.bytesOf 51 = 8 := by kernel_rfl
@[simp] theorem zero51 : azero Try.prog 51 = some [.nilf] := by kernel_rfl
@[simp] theorem cells52 : Try.prog.cellsOf 52 = 1 := by kernel_rfl
@[simp] theorem bytes52 : Try.prog.bytesOf 52 = 8 := by kernel_rfl
@[simp] theorem zero52 : azero Try.prog 52 = some [.nilf] := by kernel_rfl
@[simp] theorem cells53 : Try.prog.cellsOf 53 = 1 := by kernel_rfl
@[simp] theorem bytes53 : Try.prog.bytesOf 53 = 8 := by kernel_rfl
@[simp] theorem zero53 : azero Try.prog 53 = some [.nilf] := by kernel_rfl
@[simp] theorem cells54 : Try.prog.cellsOf 54 = 1 := by kernel_rfl
@[simp] theorem bytes54 : Try.prog.bytesOf 54 = 8 := by kernel_rfl
@[simp] theorem zero54 : azero Try.prog 54 = some [.nilf] := by kernel_rfl
@[simp] theorem cells55 : Try.prog.cellsOf 55 = 1 := by kernel_rfl
@[simp] theorem bytes55 : Try.prog.bytesOf 55 = 24 := by kernel_rfl
@[simp] theorem zero55 : azero Try.prog 55 = some [.sl 0 [] .full] := by kernel_rfl
@[simp] theorem cells56 : Try.prog.cellsOf 56 = 1 := by kernel_rfl
@[simp] theorem bytes56 : Try.prog.bytesOf 56 = 8 := by kernel_rfl
@[simp] theorem zero56 : azero Try.prog 56 = some [.nilf] := by kernel_rfl
@[simp] theorem cells57 : Try.prog.cellsOf 57 = 1 := by kernel_rfl
@[simp] theorem bytes57 : Try.prog.bytesOf 57 = 8 := by kernel_rfl
@[simp] theorem zero57 : azero Try.prog 57 = some [.int .i64 0] := by kernel_rfl
@[simp] theorem cells58 : Try.prog.cellsOf 58 = 1 := by kernel_rfl
@[simp] theorem bytes58 : Try.prog.bytesOf 58 = 0 := by kernel_rfl
@[simp] theorem cells59 : Try.prog.cellsOf 59 = 1 := by kernel_rfl
@[simp] theorem bytes59 : Try.prog.bytesOf 59 = 8 := by kernel_rfl
@[simp] theorem zero59 : azero Try.prog 59 = some [.nilf] := by kernel_rfl
@[simp] theorem cells60 : Try.prog.cellsOf 60 = 1 := by kernel_rfl
@[simp] theorem bytes60 : Try.prog.bytesOf 60 = 8 := by kernel_rfl
@[simp] theorem zero60 : azero Try.prog 60 = some [.nilf] := by kernel_rfl
@[simp] theorem cells61 : Try.prog.cellsOf 61 = 1 := by kernel_rfl
@[simp] theorem bytes61 : Try.prog.bytesOf 61 = 8 := by kernel_rfl
@[simp] theorem zero61 : azero Try.prog 61 = some [.nilf] := by kernel_rfl
@[simp] theorem cells62 : Try.prog.cellsOf 62 = 1 := by kernel_rfl
@[simp] theorem bytes62 : Try.prog.bytesOf 62 = 8 := by kernel_rfl
@[simp] theorem zero62 : azero Try.prog 62 = some [.nilf] := by kernel_rfl
@[simp] theorem cells63 : Try.prog.cellsOf 63 = 1 := by kernel_rfl
@[simp] theorem bytes63 : Try.prog.bytesOf 63 = 8 := by kernel_rfl
@[simp] theorem zero63 : azero Try.prog 63 = some [.nilf] := by kernel_rfl
@[simp] theorem cells64 : Try.prog.cellsOf 64 = 1 := by kernel_rfl
@[simp] theorem bytes64 : Try.prog.bytesOf 64 = 4 := by kernel_rfl
@[simp] theorem zero64 : azero Try.prog 64 = some [.int .u32 0] := by kernel_rfl
@[simp] theorem cells65 : Try.prog.cellsOf 65 = 1 := by kernel_rfl
@[simp] theorem bytes65 : Try.prog.bytesOf 65 = 8 := by kernel_rfl
@[simp] theorem zero65 : azero Try.prog 65 = some [.nilf] := by kernel_rfl
@[simp] theorem cells66 : Try.prog.cellsOf 66 = 1 := by kernel_rfl
@[simp] theorem bytes66 : Try.prog.bytesOf 66 = 8 := by kernel_rfl
@[simp] theorem zero66 : azero Try.prog 66 = some [.int .u64 0] := by kernel_rfl
@[simp] theorem cells67 : Try.prog.cellsOf 67 = 1 := by kernel_rfl
@[simp] theorem bytes67 : Try.prog.bytesOf 67 = 8 := by kernel_rfl
@[simp] theorem zero67 : azero Try.prog 67 = some [.int .u64 0] := by kernel_rfl
@[simp] theorem cells68 : Try.prog.cellsOf 68 = 1 := by kernel_rfl
@[simp] theorem bytes68 : Try.prog.bytesOf 68 = 8 := by kernel_rfl
@[simp] theorem zero68 : azero Try.prog 68 = some [.nilf] := by kernel_rfl
@[simp] theorem cells69 : Try.prog.cellsOf 69 = 1 := by kernel_rfl
@[simp] theorem bytes69 : Try.prog.bytesOf 69 = 8 := by kernel_rfl
@[simp] theorem zero69 : azero Try.prog 69 = some [.nilf] := by kernel_rfl
@[simp] theorem cells70 : Try.prog.cellsOf 70 = 1 := by kernel_rfl
@[simp] theorem bytes70 : Try.prog.bytesOf 70 = 8 := by kernel_rfl
@[simp] theorem zero70 : azero Try.prog 70 = some [.nilf] := by kernel_rfl
@[simp] theorem cells71 : Try.prog.cellsOf 71 = 1 := by kernel_rfl
@[simp] theorem bytes71 : Try.prog.bytesOf 71 = 8 := by kernel_rfl
@[simp] theorem zero71 : azero Try.prog 71 = some [.nilp] := by kernel_rfl
@[simp] theorem cells72 : Try.prog.cellsOf 72 = 1 := by kernel_rfl
@[simp] theorem bytes72 : Try.prog.bytesOf 72 = 8 := by kernel_rfl
@[simp] theorem zero72 : azero Try.prog 72 = some [.nilf] := by kernel_rfl
@[simp] theorem cells73 : Try.prog.cellsOf 73 = 1 := by kernel_rfl
@[simp] theorem bytes73 : Try.prog.bytesOf 73 = 8 := by kernel_rfl
@[simp] theorem zero73 : azero Try.prog 73 = some [.nilp] := by kernel_rfl
@[simp] theorem cells74 : Try.prog.cellsOf 74 = 1 := by kernel_rfl
@[simp] theorem bytes74 : Try.prog.bytesOf 74 = 0 := by kernel_rfl
@[simp] theorem cells75 : Try.prog.cellsOf 75 = 1 := by kernel_rfl
@[simp] theorem bytes75 : Try.prog.bytesOf 75 = 8 := by kernel_rfl
@[simp] theorem zero75 : azero Try.prog 75 = some [.nilf] := by kernel_rfl
@[simp] theorem cells76 : Try.prog.cellsOf 76 = 1 := by kernel_rfl
@[simp] theorem bytes76 : Try.prog.bytesOf 76 = 8 := by kernel_rfl
@[simp] theorem zero76 : azero Try.prog 76 = some [.nilf] := by kernel_rfl
@[simp] theorem cells77 : Try.prog.cellsOf 77 = 4 := by kernel_rfl
@[simp] theorem bytes77 : Try.prog.bytesOf 77 = 40 := by kernel_rfl
@[simp] theorem stood77 : Try.prog.stoodInHeld 77 = true := by kernel_rfl
@[simp] theorem eqg77 : Try.prog.eqGuardType Try.prog.depth 77 = false := by kernel_rfl
@[simp] theorem zero77 : azero Try.prog 77 = some [.nilp, .nilp, .nilp, .str []] := by kernel_rfl
@[simp] theorem cells78 : Try.prog.cellsOf 78 = 4 := by kernel_rfl
@[simp] theorem bytes78 : Try.prog.bytesOf 78 = 40 := by kernel_rfl
@[simp] theorem stood78 : Try.prog.stoodInHeld 78 = true := by kernel_rfl
@[simp] theorem eqg78 : Try.prog.eqGuardType Try.prog.depth 78 = false := by kernel_rfl
@[simp] theorem zero78 : azero Try.prog 78 = some [.nilp, .nilp, .nilp, .str []] := by kernel_rfl
@[simp] theorem cells79 : Try.prog.cellsOf 79 = 0 := by kernel_rfl
@[simp] theorem bytes79 : Try.prog.bytesOf 79 = 0 := by kernel_rfl
@[simp] theorem zero79 : azero Try.prog 79 = some [] := by kernel_rfl
@[simp] theorem cells80 : Try.prog.cellsOf 80 = 0 := by kernel_rfl
@[simp] theorem bytes80 : Try.prog.bytesOf 80 = 0 := by kernel_rfl
@[simp] theorem stood80 : Try.prog.stoodInHeld 80 = true := by kernel_rfl
@[simp] theorem eqg80 : Try.prog.eqGuardType Try.prog.depth 80 = false := by kernel_rfl
@[simp] theorem zero80 : azero Try.prog 80 = some [] := by kernel_rfl
@[simp] theorem cells81 : Try.prog.cellsOf 81 = 0 := by kernel_rfl
@[simp] theorem bytes81 : Try.prog.bytesOf 81 = 0 := by kernel_rfl
@[simp] theorem stood81 : Try.prog.stoodInHeld 81 = true := by kernel_rfl
@[simp] theorem eqg81 : Try.prog.eqGuardType Try.prog.depth 81 = false := by kernel_rfl
@[simp] theorem zero81 : azero Try.prog 81 = some [] := by kernel_rfl
@[simp] theorem cells82 : Try.prog.cellsOf 82 = 1 := by kernel_rfl
@[simp] theorem bytes82 : Try.prog.bytesOf 82 = 8 := by kernel_rfl
@[simp] theorem zero82 : azero Try.prog 82 = some [.nilf] := by kernel_rfl
@[simp] theorem cells83 : Try.prog.cellsOf 83 = 1 := by kernel_rfl
@[simp] theorem bytes83 : Try.prog.bytesOf 83 = 1 := by kernel_rfl
@[simp] theorem zero83 : azero Try.prog 83 = some [.int .u8 0] := by kernel_rfl
@[simp] theorem cells84 : Try.prog.cellsOf 84 = 1 := by kernel_rfl
@[simp] theorem bytes84 : Try.prog.bytesOf 84 = 1 := by kernel_rfl
@[simp] theorem zero84 : azero Try.prog 84 = some [.int .u8 0] := by kernel_rfl
@[simp] theorem cells85 : Try.prog.cellsOf 85 = 1 := by kernel_rfl
@[simp] theorem bytes85 : Try.prog.bytesOf 85 = 8 := by kernel_rfl
@[simp] theorem zero85 : azero Try.prog 85 = some [.nilf] := by kernel_rfl
@[simp] theorem cells86 : Try.prog.cellsOf 86 = 1 := by kernel_rfl
@[simp] theorem bytes86 : Try.prog.bytesOf 86 = 8 := by kernel_rfl
@[simp] theorem zero86 : azero Try.prog 86 = some [.nilp] := by kernel_rfl
@[simp] theorem cells87 : Try.prog.cellsOf 87 = 1 := by kernel_rfl
@[simp] theorem bytes87 : Try.prog.bytesOf 87 = 4 := by kernel_rfl
@[simp] theorem zero87 : azero Try.prog 87 = some [.int .i32 0] := by kernel_rfl
@[simp] theorem cells88 : Try.prog.cellsOf 88 = 1 := by kernel_rfl
@[simp] theorem bytes88 : Try.prog.bytesOf 88 = 4 := by kernel_rfl
@[simp] theorem zero88 : azero Try.prog 88 = some [.int .i32 0] := by kernel_rfl
@[simp] theorem cells89 : Try.prog.cellsOf 89 = 11 := by kernel_rfl
@[simp] theorem bytes89 : Try.prog.bytesOf 89 = 48 := by kernel_rfl
@[simp] theorem stood89 : Try.prog.stoodInHeld 89 = true := by kernel_rfl
@[simp] theorem eqg89 : Try.prog.eqGuardType Try.prog.depth 89 = false := by kernel_rfl
@[simp] theorem zero89 : azero Try.prog 89 = some [.int .u64 0, .int .u64 0, .int .u32 0, .int .u8 0, .int .u8 0, .int .u8 0, .int .u8 0, .nilf, .nilp, .int .i32 0, .int .i32 0] := by kernel_rfl
@[simp] theorem cells90 : Try.prog.cellsOf 90 = 11 := by kernel_rfl
@[simp] theorem bytes90 : Try.prog.bytesOf 90 = 48 := by kernel_rfl
@[simp] theorem stood90 : Try.prog.stoodInHeld 90 = true := by kernel_rfl
@[simp] theorem eqg90 : Try.prog.eqGuardType Try.prog.depth 90 = false := by kernel_rfl
@[simp] theorem zero90 : azero Try.prog 90 = some [.int .u64 0, .int .u64 0, .int .u32 0, .int .u8 0, .int .u8 0, .int .u8 0, .int .u8 0, .nilf, .nilp, .int .i32 0, .int .i32 0] := by kernel_rfl
@[simp] theorem cells91 : Try.prog.cellsOf 91 = 1 := by kernel_rfl
@[simp] theorem bytes91 : Try.prog.bytesOf 91 = 8 := by kernel_rfl
@[simp] theorem zero91 : azero Try.prog 91 = some [.nilp] := by kernel_rfl
end Go.Proofs.Ytfdlngemkhiiiaa
