/- Sizes and zero values of the types of this translation, as the abstract machine asks for them.
  Conditions: none. -/
import Derived.Test.YtneohapkboaplaaGreatRows
import Derived.Test.YtneohapkboaplaaGreatAmB
set_option linter.all false
namespace Go.Proofs.YtneohapkboaplaaGreat
open Go.Am
@[simp] theorem cells0:Tryz.prog.cellsOf 0=1:=by kernel_rfl
@[simp] theorem bytes0:Tryz.prog.bytesOf 0=0:=by kernel_rfl
@[simp] theorem cells3:Tryz.prog.cellsOf 3=1:=by kernel_rfl
@[simp] theorem bytes3:Tryz.prog.bytesOf 3=8:=by kernel_rfl
@[simp] theorem zero3:azero Tryz.prog 3=some [.int .i64 0]:=by kernel_rfl
@[simp] theorem cells4:Tryz.prog.cellsOf 4=1:=by kernel_rfl
@[simp] theorem bytes4:Tryz.prog.bytesOf 4=1:=by kernel_rfl
@[simp] theorem zero4:azero Tryz.prog 4=some [.bool false]:=by kernel_rfl
@[simp] theorem cells5:Tryz.prog.cellsOf 5=1:=by kernel_rfl
@[simp] theorem bytes5:Tryz.prog.bytesOf 5=1:=by kernel_rfl
@[simp] theorem zero5:azero Tryz.prog 5=some [.int .u8 0]:=by kernel_rfl
@[simp] theorem cells9:Tryz.prog.cellsOf 9=1:=by kernel_rfl
@[simp] theorem bytes9:Tryz.prog.bytesOf 9=16:=by kernel_rfl
@[simp] theorem zero9:azero Tryz.prog 9=some [.str []]:=by kernel_rfl
@[simp] theorem cells22:Tryz.prog.cellsOf 22=1:=by kernel_rfl
@[simp] theorem bytes22:Tryz.prog.bytesOf 22=24:=by kernel_rfl
@[simp] theorem zero22:azero Tryz.prog 22=some [.sl 0 [] .full]:=by kernel_rfl
@[simp] theorem cells25:Tryz.prog.cellsOf 25=1:=by kernel_rfl
@[simp] theorem bytes25:Tryz.prog.bytesOf 25=24:=by kernel_rfl
@[simp] theorem zero25:azero Tryz.prog 25=some [.sl 0 [] .full]:=by kernel_rfl
@[simp] theorem cells26:Tryz.prog.cellsOf 26=1:=by kernel_rfl
@[simp] theorem bytes26:Tryz.prog.bytesOf 26=24:=by kernel_rfl
@[simp] theorem zero26:azero Tryz.prog 26=some [.sl 0 [] .full]:=by kernel_rfl
@[simp] theorem cells27:Tryz.prog.cellsOf 27=1:=by kernel_rfl
@[simp] theorem bytes27:Tryz.prog.bytesOf 27=24:=by kernel_rfl
@[simp] theorem zero27:azero Tryz.prog 27=some [.sl 0 [] .full]:=by kernel_rfl
@[simp] theorem cells29:Tryz.prog.cellsOf 29=3:=by kernel_rfl
@[simp] theorem bytes29:Tryz.prog.bytesOf 29=72:=by kernel_rfl
@[simp] theorem stood29:Tryz.prog.stoodInHeld 29=false:=by kernel_rfl
@[simp] theorem eqg29:Tryz.prog.eqGuardType Tryz.prog.depth 29=false:=by kernel_rfl
@[simp] theorem zero29:azero Tryz.prog 29=some [.sl 0 [] .full,.sl 0 [] .full,.sl 0 [] .full]:=by kernel_rfl
@[simp] theorem cells30:Tryz.prog.cellsOf 30=1:=by kernel_rfl
@[simp] theorem bytes30:Tryz.prog.bytesOf 30=8:=by kernel_rfl
@[simp] theorem zero30:azero Tryz.prog 30=some [.int .i64 0]:=by kernel_rfl
@[simp] theorem cells31:Tryz.prog.cellsOf 31=1:=by kernel_rfl
@[simp] theorem bytes31:Tryz.prog.bytesOf 31=0:=by kernel_rfl
@[simp] theorem cells33:Tryz.prog.cellsOf 33=1:=by kernel_rfl
@[simp] theorem bytes33:Tryz.prog.bytesOf 33=24:=by kernel_rfl
@[simp] theorem zero33:azero Tryz.prog 33=some [.sl 0 [] .full]:=by kernel_rfl
@[simp] theorem cells34:Tryz.prog.cellsOf 34=1:=by kernel_rfl
@[simp] theorem bytes34:Tryz.prog.bytesOf 34=24:=by kernel_rfl
@[simp] theorem zero34:azero Tryz.prog 34=some [.sl 0 [] .full]:=by kernel_rfl
@[simp] theorem cells36:Tryz.prog.cellsOf 36=3:=by kernel_rfl
@[simp] theorem bytes36:Tryz.prog.bytesOf 36=72:=by kernel_rfl
@[simp] theorem stood36:Tryz.prog.stoodInHeld 36=false:=by kernel_rfl
@[simp] theorem eqg36:Tryz.prog.eqGuardType Tryz.prog.depth 36=false:=by kernel_rfl
@[simp] theorem zero36:azero Tryz.prog 36=some [.sl 0 [] .full,.sl 0 [] .full,.sl 0 [] .full]:=by kernel_rfl
@[simp] theorem cells37:Tryz.prog.cellsOf 37=1:=by kernel_rfl
@[simp] theorem bytes37:Tryz.prog.bytesOf 37=0:=by kernel_rfl
@[simp] theorem cells42:Tryz.prog.cellsOf 42=4:=by kernel_rfl
@[simp] theorem bytes42:Tryz.prog.bytesOf 42=40:=by kernel_rfl
@[simp] theorem stood42:Tryz.prog.stoodInHeld 42=false:=by kernel_rfl
@[simp] theorem eqg42:Tryz.prog.eqGuardType Tryz.prog.depth 42=false:=by kernel_rfl
@[simp] theorem zero42:azero Tryz.prog 42=some [.int .i64 0,.str [],.int .i64 0,.int .i64 0]:=by kernel_rfl
@[simp] theorem cells46:Tryz.prog.cellsOf 46=1:=by kernel_rfl
@[simp] theorem bytes46:Tryz.prog.bytesOf 46=24:=by kernel_rfl
@[simp] theorem zero46:azero Tryz.prog 46=some [.sl 0 [] .full]:=by kernel_rfl
@[simp] theorem cells47:Tryz.prog.cellsOf 47=1:=by kernel_rfl
@[simp] theorem bytes47:Tryz.prog.bytesOf 47=24:=by kernel_rfl
@[simp] theorem zero47:azero Tryz.prog 47=some [.sl 0 [] .full]:=by kernel_rfl
@[simp] theorem cells50:Tryz.prog.cellsOf 50=1:=by kernel_rfl
@[simp] theorem bytes50:Tryz.prog.bytesOf 50=24:=by kernel_rfl
@[simp] theorem zero50:azero Tryz.prog 50=some [.sl 0 [] .full]:=by kernel_rfl
@[simp] theorem cells53:Tryz.prog.cellsOf 53=1:=by kernel_rfl
@[simp] theorem bytes53:Tryz.prog.bytesOf 53=24:=by kernel_rfl
@[simp] theorem zero53:azero Tryz.prog 53=some [.sl 0 [] .full]:=by kernel_rfl
@[simp] theorem cells61:Tryz.prog.cellsOf 61=1:=by kernel_rfl
@[simp] theorem bytes61:Tryz.prog.bytesOf 61=24:=by kernel_rfl
@[simp] theorem zero61:azero Tryz.prog 61=some [.sl 0 [] .full]:=by kernel_rfl
@[simp] theorem cells63:Tryz.prog.cellsOf 63=1:=by kernel_rfl
@[simp] theorem bytes63:Tryz.prog.bytesOf 63=24:=by kernel_rfl
@[simp] theorem zero63:azero Tryz.prog 63=some [.sl 0 [] .full]:=by kernel_rfl
@[simp] theorem cells64:Tryz.prog.cellsOf 64=1:=by kernel_rfl
@[simp] theorem bytes64:Tryz.prog.bytesOf 64=24:=by kernel_rfl
@[simp] theorem zero64:azero Tryz.prog 64=some [.sl 0 [] .full]:=by kernel_rfl
@[simp] theorem cells66:Tryz.prog.cellsOf 66=3:=by kernel_rfl
@[simp] theorem bytes66:Tryz.prog.bytesOf 66=56:=by kernel_rfl
@[simp] theorem stood66:Tryz.prog.stoodInHeld 66=false:=by kernel_rfl
@[simp] theorem eqg66:Tryz.prog.eqGuardType Tryz.prog.depth 66=false:=by kernel_rfl
@[simp] theorem zero66:azero Tryz.prog 66=some [.int .i64 0,.sl 0 [] .full,.sl 0 [] .full]:=by kernel_rfl
@[simp] theorem cells71:Tryz.prog.cellsOf 71=2:=by kernel_rfl
@[simp] theorem bytes71:Tryz.prog.bytesOf 71=24:=by kernel_rfl
@[simp] theorem stood71:Tryz.prog.stoodInHeld 71=false:=by kernel_rfl
@[simp] theorem eqg71:Tryz.prog.eqGuardType Tryz.prog.depth 71=false:=by kernel_rfl
@[simp] theorem zero71:azero Tryz.prog 71=some [.str [],.int .i64 0]:=by kernel_rfl
@[simp] theorem cells98:Tryz.prog.cellsOf 98=2:=by kernel_rfl
@[simp] theorem bytes98:Tryz.prog.bytesOf 98=32:=by kernel_rfl
@[simp] theorem stood98:Tryz.prog.stoodInHeld 98=false:=by kernel_rfl
@[simp] theorem eqg98:Tryz.prog.eqGuardType Tryz.prog.depth 98=false:=by kernel_rfl
@[simp] theorem zero98:azero Tryz.prog 98=some [.int .i64 0,.sl 0 [] .full]:=by kernel_rfl
@[simp] theorem cells100:Tryz.prog.cellsOf 100=2:=by kernel_rfl
@[simp] theorem bytes100:Tryz.prog.bytesOf 100=16:=by kernel_rfl
@[simp] theorem stood100:Tryz.prog.stoodInHeld 100=false:=by kernel_rfl
@[simp] theorem eqg100:Tryz.prog.eqGuardType Tryz.prog.depth 100=false:=by kernel_rfl
@[simp] theorem zero100:azero Tryz.prog 100=some [.int .i64 0,.int .i64 0]:=by kernel_rfl
@[simp] theorem cells102:Tryz.prog.cellsOf 102=2:=by kernel_rfl
@[simp] theorem bytes102:Tryz.prog.bytesOf 102=32:=by kernel_rfl
@[simp] theorem stood102:Tryz.prog.stoodInHeld 102=false:=by kernel_rfl
@[simp] theorem eqg102:Tryz.prog.eqGuardType Tryz.prog.depth 102=false:=by kernel_rfl
@[simp] theorem zero102:azero Tryz.prog 102=some [.int .i64 0,.sl 0 [] .full]:=by kernel_rfl
@[simp] theorem cells103:Tryz.prog.cellsOf 103=1:=by kernel_rfl
@[simp] theorem bytes103:Tryz.prog.bytesOf 103=8:=by kernel_rfl
@[simp] theorem zero103:azero Tryz.prog 103=some [.nilf]:=by kernel_rfl
@[simp] theorem cells106:Tryz.prog.cellsOf 106=1:=by kernel_rfl
@[simp] theorem bytes106:Tryz.prog.bytesOf 106=8:=by kernel_rfl
@[simp] theorem zero106:azero Tryz.prog 106=some [.nilf]:=by kernel_rfl
@[simp] theorem cells108:Tryz.prog.cellsOf 108=1:=by kernel_rfl
@[simp] theorem bytes108:Tryz.prog.bytesOf 108=8:=by kernel_rfl
@[simp] theorem zero108:azero Tryz.prog 108=some [.top]:=by kernel_rfl
@[simp] theorem mapT108:mapT Tryz.prog 108=some (111,47):=by kernel_rfl
@[simp] theorem zeroV108:azeroV Tryz.prog 47=some (.sl 0 [] .full):=by kernel_rfl
@[simp] theorem cells109:Tryz.prog.cellsOf 109=1:=by kernel_rfl
@[simp] theorem bytes109:Tryz.prog.bytesOf 109=8:=by kernel_rfl
@[simp] theorem zero109:azero Tryz.prog 109=some [.top]:=by kernel_rfl
@[simp] theorem mapT109:mapT Tryz.prog 109=some (3,113):=by kernel_rfl
@[simp] theorem zeroV109:azeroV Tryz.prog 113=some (.sl 0 [] .full):=by kernel_rfl
@[simp] theorem cells111:Tryz.prog.cellsOf 111=2:=by kernel_rfl
@[simp] theorem bytes111:Tryz.prog.bytesOf 111=24:=by kernel_rfl
@[simp] theorem stood111:Tryz.prog.stoodInHeld 111=false:=by kernel_rfl
@[simp] theorem eqg111:Tryz.prog.eqGuardType Tryz.prog.depth 111=false:=by kernel_rfl
@[simp] theorem zero111:azero Tryz.prog 111=some [.int .i64 0,.str []]:=by kernel_rfl
@[simp] theorem cells112:Tryz.prog.cellsOf 112=2:=by kernel_rfl
@[simp] theorem bytes112:Tryz.prog.bytesOf 112=32:=by kernel_rfl
@[simp] theorem stood112:Tryz.prog.stoodInHeld 112=false:=by kernel_rfl
@[simp] theorem eqg112:Tryz.prog.eqGuardType Tryz.prog.depth 112=false:=by kernel_rfl
@[simp] theorem zero112:azero Tryz.prog 112=some [.int .i64 0,.sl 0 [] .full]:=by kernel_rfl
@[simp] theorem cells113:Tryz.prog.cellsOf 113=1:=by kernel_rfl
@[simp] theorem bytes113:Tryz.prog.bytesOf 113=24:=by kernel_rfl
@[simp] theorem zero113:azero Tryz.prog 113=some [.sl 0 [] .full]:=by kernel_rfl
@[simp] theorem cells115:Tryz.prog.cellsOf 115=2:=by kernel_rfl
@[simp] theorem bytes115:Tryz.prog.bytesOf 115=16:=by kernel_rfl
@[simp] theorem stood115:Tryz.prog.stoodInHeld 115=false:=by kernel_rfl
@[simp] theorem eqg115:Tryz.prog.eqGuardType Tryz.prog.depth 115=false:=by kernel_rfl
@[simp] theorem zero115:azero Tryz.prog 115=some [.int .i64 0,.int .i64 0]:=by kernel_rfl
@[simp] theorem cells117:Tryz.prog.cellsOf 117=3:=by kernel_rfl
@[simp] theorem bytes117:Tryz.prog.bytesOf 117=48:=by kernel_rfl
@[simp] theorem stood117:Tryz.prog.stoodInHeld 117=false:=by kernel_rfl
@[simp] theorem eqg117:Tryz.prog.eqGuardType Tryz.prog.depth 117=false:=by kernel_rfl
@[simp] theorem zero117:azero Tryz.prog 117=some [.int .i64 0,.str [],.sl 0 [] .full]:=by kernel_rfl
@[simp] theorem cells119:Tryz.prog.cellsOf 119=1:=by kernel_rfl
@[simp] theorem bytes119:Tryz.prog.bytesOf 119=8:=by kernel_rfl
@[simp] theorem zero119:azero Tryz.prog 119=some [.nilf]:=by kernel_rfl
@[simp] theorem cells121:Tryz.prog.cellsOf 121=1:=by kernel_rfl
@[simp] theorem bytes121:Tryz.prog.bytesOf 121=8:=by kernel_rfl
@[simp] theorem zero121:azero Tryz.prog 121=some [.nilf]:=by kernel_rfl
@[simp] theorem cells123:Tryz.prog.cellsOf 123=2:=by kernel_rfl
@[simp] theorem bytes123:Tryz.prog.bytesOf 123=32:=by kernel_rfl
@[simp] theorem stood123:Tryz.prog.stoodInHeld 123=false:=by kernel_rfl
@[simp] theorem eqg123:Tryz.prog.eqGuardType Tryz.prog.depth 123=false:=by kernel_rfl
@[simp] theorem zero123:azero Tryz.prog 123=some [.int .i64 0,.sl 0 [] .full]:=by kernel_rfl
@[simp] theorem cells127:Tryz.prog.cellsOf 127=3:=by kernel_rfl
@[simp] theorem bytes127:Tryz.prog.bytesOf 127=48:=by kernel_rfl
@[simp] theorem stood127:Tryz.prog.stoodInHeld 127=false:=by kernel_rfl
@[simp] theorem eqg127:Tryz.prog.eqGuardType Tryz.prog.depth 127=false:=by kernel_rfl
@[simp] theorem zero127:azero Tryz.prog 127=some [.int .i64 0,.str [],.sl 0 [] .full]:=by kernel_rfl
@[simp] theorem cells128:Tryz.prog.cellsOf 128=1:=by kernel_rfl
@[simp] theorem bytes128:Tryz.prog.bytesOf 128=24:=by kernel_rfl
@[simp] theorem zero128:azero Tryz.prog 128=some [.sl 0 [] .full]:=by kernel_rfl
@[simp] theorem cells131:Tryz.prog.cellsOf 131=2:=by kernel_rfl
@[simp] theorem bytes131:Tryz.prog.bytesOf 131=32:=by kernel_rfl
@[simp] theorem stood131:Tryz.prog.stoodInHeld 131=false:=by kernel_rfl
@[simp] theorem eqg131:Tryz.prog.eqGuardType Tryz.prog.depth 131=false:=by kernel_rfl
@[simp] theorem zero131:azero Tryz.prog 131=some [.int .i64 0,.sl 0 [] .full]:=by kernel_rfl
@[simp] theorem cells134:Tryz.prog.cellsOf 134=1:=by kernel_rfl
@[simp] theorem bytes134:Tryz.prog.bytesOf 134=8:=by kernel_rfl
@[simp] theorem zero134:azero Tryz.prog 134=some [.top]:=by kernel_rfl
@[simp] theorem mapT134:mapT Tryz.prog 134=some (139,4):=by kernel_rfl
@[simp] theorem zeroV134:azeroV Tryz.prog 4=some (.bool false):=by kernel_rfl
@[simp] theorem cells139:Tryz.prog.cellsOf 139=3:=by kernel_rfl
@[simp] theorem bytes139:Tryz.prog.bytesOf 139=24:=by kernel_rfl
@[simp] theorem stood139:Tryz.prog.stoodInHeld 139=false:=by kernel_rfl
@[simp] theorem eqg139:Tryz.prog.eqGuardType Tryz.prog.depth 139=false:=by kernel_rfl
@[simp] theorem zero139:azero Tryz.prog 139=some [.int .i64 0,.int .i64 0,.int .i64 0]:=by kernel_rfl
@[simp] theorem cells140:Tryz.prog.cellsOf 140=1:=by kernel_rfl
@[simp] theorem bytes140:Tryz.prog.bytesOf 140=0:=by kernel_rfl
@[simp] theorem cells144:Tryz.prog.cellsOf 144=2:=by kernel_rfl
@[simp] theorem bytes144:Tryz.prog.bytesOf 144=16:=by kernel_rfl
@[simp] theorem stood144:Tryz.prog.stoodInHeld 144=false:=by kernel_rfl
@[simp] theorem eqg144:Tryz.prog.eqGuardType Tryz.prog.depth 144=false:=by kernel_rfl
@[simp] theorem zero144:azero Tryz.prog 144=some [.int .i64 0,.int .i64 0]:=by kernel_rfl
@[simp] theorem cells152:Tryz.prog.cellsOf 152=1:=by kernel_rfl
@[simp] theorem bytes152:Tryz.prog.bytesOf 152=8:=by kernel_rfl
@[simp] theorem zero152:azero Tryz.prog 152=some [.nilf]:=by kernel_rfl
@[simp] theorem cells154:Tryz.prog.cellsOf 154=1:=by kernel_rfl
@[simp] theorem bytes154:Tryz.prog.bytesOf 154=8:=by kernel_rfl
@[simp] theorem zero154:azero Tryz.prog 154=some [.nilf]:=by kernel_rfl
@[simp] theorem cells156:Tryz.prog.cellsOf 156=1:=by kernel_rfl
@[simp] theorem bytes156:Tryz.prog.bytesOf 156=8:=by kernel_rfl
@[simp] theorem zero156:azero Tryz.prog 156=some [.nilf]:=by kernel_rfl
@[simp] theorem cells160:Tryz.prog.cellsOf 160=1:=by kernel_rfl
@[simp] theorem bytes160:Tryz.prog.bytesOf 160=8:=by kernel_rfl
@[simp] theorem zero160:azero Tryz.prog 160=some [.top]:=by kernel_rfl
@[simp] theorem mapT160:mapT Tryz.prog 160=some (3,3):=by kernel_rfl
@[simp] theorem zeroV160:azeroV Tryz.prog 3=some (.int .i64 0):=by kernel_rfl
@[simp] theorem cells161:Tryz.prog.cellsOf 161=1:=by kernel_rfl
@[simp] theorem bytes161:Tryz.prog.bytesOf 161=8:=by kernel_rfl
@[simp] theorem zero161:azero Tryz.prog 161=some [.nilp]:=by kernel_rfl
@[simp] theorem cells162:Tryz.prog.cellsOf 162=1:=by kernel_rfl
@[simp] theorem bytes162:Tryz.prog.bytesOf 162=8:=by kernel_rfl
@[simp] theorem zero162:azero Tryz.prog 162=some [.nilp]:=by kernel_rfl
@[simp] theorem cells164:Tryz.prog.cellsOf 164=1:=by kernel_rfl
@[simp] theorem bytes164:Tryz.prog.bytesOf 164=8:=by kernel_rfl
@[simp] theorem zero164:azero Tryz.prog 164=some [.nilf]:=by kernel_rfl
@[simp] theorem cells168:Tryz.prog.cellsOf 168=1:=by kernel_rfl
@[simp] theorem bytes168:Tryz.prog.bytesOf 168=8:=by kernel_rfl
@[simp] theorem zero168:azero Tryz.prog 168=some [.nilf]:=by kernel_rfl
@[simp] theorem cells169:Tryz.prog.cellsOf 169=1:=by kernel_rfl
@[simp] theorem bytes169:Tryz.prog.bytesOf 169=8:=by kernel_rfl
@[simp] theorem zero169:azero Tryz.prog 169=some [.nilp]:=by kernel_rfl
@[simp] theorem cells170:Tryz.prog.cellsOf 170=1:=by kernel_rfl
@[simp] theorem bytes170:Tryz.prog.bytesOf 170=8:=by kernel_rfl
@[simp] theorem zero170:azero Tryz.prog 170=some [.nilf]:=by kernel_rfl
@[simp] theorem cells172:Tryz.prog.cellsOf 172=1:=by kernel_rfl
@[simp] theorem bytes172:Tryz.prog.bytesOf 172=8:=by kernel_rfl
@[simp] theorem zero172:azero Tryz.prog 172=some [.nilf]:=by kernel_rfl
@[simp] theorem cells200:Tryz.prog.cellsOf 200=1:=by kernel_rfl
@[simp] theorem bytes200:Tryz.prog.bytesOf 200=8:=by kernel_rfl
@[simp] theorem zero200:azero Tryz.prog 200=some [.int .u64 0]:=by kernel_rfl
@[simp] theorem cells206:Tryz.prog.cellsOf 206=1:=by kernel_rfl
@[simp] theorem bytes206:Tryz.prog.bytesOf 206=8:=by kernel_rfl
@[simp] theorem zero206:azero Tryz.prog 206=some [.nilf]:=by kernel_rfl
@[simp] theorem cells214:Tryz.prog.cellsOf 214=1:=by kernel_rfl
@[simp] theorem bytes214:Tryz.prog.bytesOf 214=8:=by kernel_rfl
@[simp] theorem zero214:azero Tryz.prog 214=some [.nilf]:=by kernel_rfl
@[simp] theorem cells215:Tryz.prog.cellsOf 215=1:=by kernel_rfl
@[simp] theorem bytes215:Tryz.prog.bytesOf 215=8:=by kernel_rfl
@[simp] theorem zero215:azero Tryz.prog 215=some [.nilp]:=by kernel_rfl
@[simp] theorem cells216:Tryz.prog.cellsOf 216=1:=by kernel_rfl
@[simp] theorem bytes216:Tryz.prog.bytesOf 216=8:=by kernel_rfl
@[simp] theorem zero216:azero Tryz.prog 216=some [.nilf]:=by kernel_rfl
@[simp] theorem cells218:Tryz.prog.cellsOf 218=1:=by kernel_rfl
@[simp] theorem bytes218:Tryz.prog.bytesOf 218=8:=by kernel_rfl
@[simp] theorem zero218:azero Tryz.prog 218=some [.int .u64 0]:=by kernel_rfl
@[simp] theorem cells225:Tryz.prog.cellsOf 225=1:=by kernel_rfl
@[simp] theorem bytes225:Tryz.prog.bytesOf 225=0:=by kernel_rfl
@[simp] theorem cells232:Tryz.prog.cellsOf 232=1:=by kernel_rfl
@[simp] theorem bytes232:Tryz.prog.bytesOf 232=8:=by kernel_rfl
@[simp] theorem zero232:azero Tryz.prog 232=some [.int .i64 0]:=by kernel_rfl
@[simp] theorem cells233:Tryz.prog.cellsOf 233=1:=by kernel_rfl
@[simp] theorem bytes233:Tryz.prog.bytesOf 233=0:=by kernel_rfl
@[simp] theorem cells239:Tryz.prog.cellsOf 239=1:=by kernel_rfl
@[simp] theorem bytes239:Tryz.prog.bytesOf 239=4:=by kernel_rfl
@[simp] theorem zero239:azero Tryz.prog 239=some [.int .u32 0]:=by kernel_rfl
@[simp] theorem cells256:Tryz.prog.cellsOf 256=1:=by kernel_rfl
@[simp] theorem bytes256:Tryz.prog.bytesOf 256=8:=by kernel_rfl
@[simp] theorem zero256:azero Tryz.prog 256=some [.int .u64 0]:=by kernel_rfl
@[simp] theorem cells267:Tryz.prog.cellsOf 267=1:=by kernel_rfl
@[simp] theorem bytes267:Tryz.prog.bytesOf 267=8:=by kernel_rfl
@[simp] theorem zero267:azero Tryz.prog 267=some [.nilp]:=by kernel_rfl
end Go.Proofs.YtneohapkboaplaaGreat
