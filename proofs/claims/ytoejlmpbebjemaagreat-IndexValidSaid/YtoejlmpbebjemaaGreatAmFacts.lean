/- Sizes and zero values of the types of this translation, as the abstract machine asks for them.
  Conditions: none. -/
import Derived.Test.YtoejlmpbebjemaaGreatRows
import Derived.Test.YtoejlmpbebjemaaGreatAmB
set_option linter.all false
namespace Go.Proofs.YtoejlmpbebjemaaGreat
open Go.Am
@[simp] theorem cells0:Tryz.prog.cellsOf 0=1:=by kernel_rfl
@[simp] theorem bytes0:Tryz.prog.bytesOf 0=0:=by kernel_rfl
@[simp] theorem cells3:Tryz.prog.cellsOf 3=1:=by kernel_rfl
@[simp] theorem bytes3:Tryz.prog.bytesOf 3=8:=by kernel_rfl
@[simp] theorem zero3:azero Tryz.prog 3=some [.int .i64 0]:=by kernel_rfl
@[simp] theorem cells4:Tryz.prog.cellsOf 4=1:=by kernel_rfl
@[simp] theorem bytes4:Tryz.prog.bytesOf 4=1:=by kernel_rfl
@[simp] theorem zero4:azero Tryz.prog 4=some [.bool false]:=by kernel_rfl
@[simp] theorem cells5:Tryz.prog.cellsOf 5=1:=by kernel_rfl
@[simp] theorem bytes5:Tryz.prog.bytesOf 5=1:=by kernel_rfl
@[simp] theorem zero5:azero Tryz.prog 5=some [.int .u8 0]:=by kernel_rfl
@[simp] theorem cells9:Tryz.prog.cellsOf 9=1:=by kernel_rfl
@[simp] theorem bytes9:Tryz.prog.bytesOf 9=16:=by kernel_rfl
@[simp] theorem zero9:azero Tryz.prog 9=some [.str []]:=by kernel_rfl
@[simp] theorem cells22:Tryz.prog.cellsOf 22=1:=by kernel_rfl
@[simp] theorem bytes22:Tryz.prog.bytesOf 22=24:=by kernel_rfl
@[simp] theorem zero22:azero Tryz.prog 22=some [.sl 0 [] .full]:=by kernel_rfl
@[simp] theorem cells23:Tryz.prog.cellsOf 23=1:=by kernel_rfl
@[simp] theorem bytes23:Tryz.prog.bytesOf 23=24:=by kernel_rfl
@[simp] theorem zero23:azero Tryz.prog 23=some [.sl 0 [] .full]:=by kernel_rfl
@[simp] theorem cells24:Tryz.prog.cellsOf 24=1:=by kernel_rfl
@[simp] theorem bytes24:Tryz.prog.bytesOf 24=24:=by kernel_rfl
@[simp] theorem zero24:azero Tryz.prog 24=some [.sl 0 [] .full]:=by kernel_rfl
@[simp] theorem cells26:Tryz.prog.cellsOf 26=3:=by kernel_rfl
@[simp] theorem bytes26:Tryz.prog.bytesOf 26=56:=by kernel_rfl
@[simp] theorem stood26:Tryz.prog.stoodInHeld 26=false:=by kernel_rfl
@[simp] theorem eqg26:Tryz.prog.eqGuardType Tryz.prog.depth 26=false:=by kernel_rfl
@[simp] theorem zero26:azero Tryz.prog 26=some [.int .i64 0,.sl 0 [] .full,.sl 0 [] .full]:=by kernel_rfl
@[simp] theorem cells29:Tryz.prog.cellsOf 29=1:=by kernel_rfl
@[simp] theorem bytes29:Tryz.prog.bytesOf 29=8:=by kernel_rfl
@[simp] theorem zero29:azero Tryz.prog 29=some [.nilf]:=by kernel_rfl
@[simp] theorem cells30:Tryz.prog.cellsOf 30=1:=by kernel_rfl
@[simp] theorem bytes30:Tryz.prog.bytesOf 30=24:=by kernel_rfl
@[simp] theorem zero30:azero Tryz.prog 30=some [.sl 0 [] .full]:=by kernel_rfl
@[simp] theorem cells31:Tryz.prog.cellsOf 31=1:=by kernel_rfl
@[simp] theorem bytes31:Tryz.prog.bytesOf 31=24:=by kernel_rfl
@[simp] theorem zero31:azero Tryz.prog 31=some [.sl 0 [] .full]:=by kernel_rfl
@[simp] theorem cells33:Tryz.prog.cellsOf 33=2:=by kernel_rfl
@[simp] theorem bytes33:Tryz.prog.bytesOf 33=48:=by kernel_rfl
@[simp] theorem stood33:Tryz.prog.stoodInHeld 33=false:=by kernel_rfl
@[simp] theorem eqg33:Tryz.prog.eqGuardType Tryz.prog.depth 33=false:=by kernel_rfl
@[simp] theorem zero33:azero Tryz.prog 33=some [.sl 0 [] .full,.sl 0 [] .full]:=by kernel_rfl
@[simp] theorem cells35:Tryz.prog.cellsOf 35=1:=by kernel_rfl
@[simp] theorem bytes35:Tryz.prog.bytesOf 35=24:=by kernel_rfl
@[simp] theorem zero35:azero Tryz.prog 35=some [.sl 0 [] .full]:=by kernel_rfl
@[simp] theorem cells37:Tryz.prog.cellsOf 37=2:=by kernel_rfl
@[simp] theorem bytes37:Tryz.prog.bytesOf 37=48:=by kernel_rfl
@[simp] theorem stood37:Tryz.prog.stoodInHeld 37=false:=by kernel_rfl
@[simp] theorem eqg37:Tryz.prog.eqGuardType Tryz.prog.depth 37=false:=by kernel_rfl
@[simp] theorem zero37:azero Tryz.prog 37=some [.sl 0 [] .full,.sl 0 [] .full]:=by kernel_rfl
@[simp] theorem cells42:Tryz.prog.cellsOf 42=1:=by kernel_rfl
@[simp] theorem bytes42:Tryz.prog.bytesOf 42=8:=by kernel_rfl
@[simp] theorem zero42:azero Tryz.prog 42=some [.int .i64 0]:=by kernel_rfl
@[simp] theorem cells43:Tryz.prog.cellsOf 43=1:=by kernel_rfl
@[simp] theorem bytes43:Tryz.prog.bytesOf 43=0:=by kernel_rfl
@[simp] theorem cells45:Tryz.prog.cellsOf 45=1:=by kernel_rfl
@[simp] theorem bytes45:Tryz.prog.bytesOf 45=0:=by kernel_rfl
@[simp] theorem cells47:Tryz.prog.cellsOf 47=1:=by kernel_rfl
@[simp] theorem bytes47:Tryz.prog.bytesOf 47=0:=by kernel_rfl
@[simp] theorem cells49:Tryz.prog.cellsOf 49=1:=by kernel_rfl
@[simp] theorem bytes49:Tryz.prog.bytesOf 49=0:=by kernel_rfl
@[simp] theorem cells53:Tryz.prog.cellsOf 53=1:=by kernel_rfl
@[simp] theorem bytes53:Tryz.prog.bytesOf 53=24:=by kernel_rfl
@[simp] theorem zero53:azero Tryz.prog 53=some [.sl 0 [] .full]:=by kernel_rfl
@[simp] theorem cells54:Tryz.prog.cellsOf 54=1:=by kernel_rfl
@[simp] theorem bytes54:Tryz.prog.bytesOf 54=24:=by kernel_rfl
@[simp] theorem zero54:azero Tryz.prog 54=some [.sl 0 [] .full]:=by kernel_rfl
@[simp] theorem cells55:Tryz.prog.cellsOf 55=1:=by kernel_rfl
@[simp] theorem bytes55:Tryz.prog.bytesOf 55=24:=by kernel_rfl
@[simp] theorem zero55:azero Tryz.prog 55=some [.sl 0 [] .full]:=by kernel_rfl
@[simp] theorem cells57:Tryz.prog.cellsOf 57=3:=by kernel_rfl
@[simp] theorem bytes57:Tryz.prog.bytesOf 57=72:=by kernel_rfl
@[simp] theorem stood57:Tryz.prog.stoodInHeld 57=false:=by kernel_rfl
@[simp] theorem eqg57:Tryz.prog.eqGuardType Tryz.prog.depth 57=false:=by kernel_rfl
@[simp] theorem zero57:azero Tryz.prog 57=some [.sl 0 [] .full,.sl 0 [] .full,.sl 0 [] .full]:=by kernel_rfl
@[simp] theorem cells64:Tryz.prog.cellsOf 64=1:=by kernel_rfl
@[simp] theorem bytes64:Tryz.prog.bytesOf 64=24:=by kernel_rfl
@[simp] theorem zero64:azero Tryz.prog 64=some [.sl 0 [] .full]:=by kernel_rfl
@[simp] theorem cells65:Tryz.prog.cellsOf 65=1:=by kernel_rfl
@[simp] theorem bytes65:Tryz.prog.bytesOf 65=24:=by kernel_rfl
@[simp] theorem zero65:azero Tryz.prog 65=some [.sl 0 [] .full]:=by kernel_rfl
@[simp] theorem cells67:Tryz.prog.cellsOf 67=3:=by kernel_rfl
@[simp] theorem bytes67:Tryz.prog.bytesOf 67=72:=by kernel_rfl
@[simp] theorem stood67:Tryz.prog.stoodInHeld 67=false:=by kernel_rfl
@[simp] theorem eqg67:Tryz.prog.eqGuardType Tryz.prog.depth 67=false:=by kernel_rfl
@[simp] theorem zero67:azero Tryz.prog 67=some [.sl 0 [] .full,.sl 0 [] .full,.sl 0 [] .full]:=by kernel_rfl
@[simp] theorem cells70:Tryz.prog.cellsOf 70=1:=by kernel_rfl
@[simp] theorem bytes70:Tryz.prog.bytesOf 70=24:=by kernel_rfl
@[simp] theorem zero70:azero Tryz.prog 70=some [.sl 0 [] .full]:=by kernel_rfl
@[simp] theorem cells71:Tryz.prog.cellsOf 71=1:=by kernel_rfl
@[simp] theorem bytes71:Tryz.prog.bytesOf 71=24:=by kernel_rfl
@[simp] theorem zero71:azero Tryz.prog 71=some [.sl 0 [] .full]:=by kernel_rfl
@[simp] theorem cells74:Tryz.prog.cellsOf 74=1:=by kernel_rfl
@[simp] theorem bytes74:Tryz.prog.bytesOf 74=24:=by kernel_rfl
@[simp] theorem zero74:azero Tryz.prog 74=some [.sl 0 [] .full]:=by kernel_rfl
@[simp] theorem cells84:Tryz.prog.cellsOf 84=1:=by kernel_rfl
@[simp] theorem bytes84:Tryz.prog.bytesOf 84=0:=by kernel_rfl
@[simp] theorem cells90:Tryz.prog.cellsOf 90=1:=by kernel_rfl
@[simp] theorem bytes90:Tryz.prog.bytesOf 90=24:=by kernel_rfl
@[simp] theorem zero90:azero Tryz.prog 90=some [.sl 0 [] .full]:=by kernel_rfl
@[simp] theorem cells93:Tryz.prog.cellsOf 93=1:=by kernel_rfl
@[simp] theorem bytes93:Tryz.prog.bytesOf 93=24:=by kernel_rfl
@[simp] theorem zero93:azero Tryz.prog 93=some [.sl 0 [] .full]:=by kernel_rfl
@[simp] theorem cells101:Tryz.prog.cellsOf 101=4:=by kernel_rfl
@[simp] theorem bytes101:Tryz.prog.bytesOf 101=64:=by kernel_rfl
@[simp] theorem stood101:Tryz.prog.stoodInHeld 101=false:=by kernel_rfl
@[simp] theorem eqg101:Tryz.prog.eqGuardType Tryz.prog.depth 101=false:=by kernel_rfl
@[simp] theorem zero101:azero Tryz.prog 101=some [.bool false,.int .i64 0,.sl 0 [] .full,.sl 0 [] .full]:=by kernel_rfl
@[simp] theorem cells115:Tryz.prog.cellsOf 115=1:=by kernel_rfl
@[simp] theorem bytes115:Tryz.prog.bytesOf 115=24:=by kernel_rfl
@[simp] theorem zero115:azero Tryz.prog 115=some [.sl 0 [] .full]:=by kernel_rfl
@[simp] theorem cells117:Tryz.prog.cellsOf 117=2:=by kernel_rfl
@[simp] theorem bytes117:Tryz.prog.bytesOf 117=32:=by kernel_rfl
@[simp] theorem stood117:Tryz.prog.stoodInHeld 117=false:=by kernel_rfl
@[simp] theorem eqg117:Tryz.prog.eqGuardType Tryz.prog.depth 117=false:=by kernel_rfl
@[simp] theorem zero117:azero Tryz.prog 117=some [.int .i64 0,.sl 0 [] .full]:=by kernel_rfl
@[simp] theorem cells124:Tryz.prog.cellsOf 124=1:=by kernel_rfl
@[simp] theorem bytes124:Tryz.prog.bytesOf 124=0:=by kernel_rfl
@[simp] theorem cells129:Tryz.prog.cellsOf 129=3:=by kernel_rfl
@[simp] theorem bytes129:Tryz.prog.bytesOf 129=48:=by kernel_rfl
@[simp] theorem stood129:Tryz.prog.stoodInHeld 129=false:=by kernel_rfl
@[simp] theorem eqg129:Tryz.prog.eqGuardType Tryz.prog.depth 129=false:=by kernel_rfl
@[simp] theorem zero129:azero Tryz.prog 129=some [.int .i64 0,.str [],.sl 0 [] .full]:=by kernel_rfl
@[simp] theorem cells130:Tryz.prog.cellsOf 130=1:=by kernel_rfl
@[simp] theorem bytes130:Tryz.prog.bytesOf 130=24:=by kernel_rfl
@[simp] theorem zero130:azero Tryz.prog 130=some [.sl 0 [] .full]:=by kernel_rfl
@[simp] theorem cells132:Tryz.prog.cellsOf 132=2:=by kernel_rfl
@[simp] theorem bytes132:Tryz.prog.bytesOf 132=32:=by kernel_rfl
@[simp] theorem stood132:Tryz.prog.stoodInHeld 132=false:=by kernel_rfl
@[simp] theorem eqg132:Tryz.prog.eqGuardType Tryz.prog.depth 132=false:=by kernel_rfl
@[simp] theorem zero132:azero Tryz.prog 132=some [.int .i64 0,.sl 0 [] .full]:=by kernel_rfl
@[simp] theorem cells136:Tryz.prog.cellsOf 136=2:=by kernel_rfl
@[simp] theorem bytes136:Tryz.prog.bytesOf 136=24:=by kernel_rfl
@[simp] theorem stood136:Tryz.prog.stoodInHeld 136=false:=by kernel_rfl
@[simp] theorem eqg136:Tryz.prog.eqGuardType Tryz.prog.depth 136=false:=by kernel_rfl
@[simp] theorem zero136:azero Tryz.prog 136=some [.str [],.int .i64 0]:=by kernel_rfl
@[simp] theorem cells140:Tryz.prog.cellsOf 140=2:=by kernel_rfl
@[simp] theorem bytes140:Tryz.prog.bytesOf 140=32:=by kernel_rfl
@[simp] theorem stood140:Tryz.prog.stoodInHeld 140=false:=by kernel_rfl
@[simp] theorem eqg140:Tryz.prog.eqGuardType Tryz.prog.depth 140=false:=by kernel_rfl
@[simp] theorem zero140:azero Tryz.prog 140=some [.int .i64 0,.sl 0 [] .full]:=by kernel_rfl
@[simp] theorem cells147:Tryz.prog.cellsOf 147=2:=by kernel_rfl
@[simp] theorem bytes147:Tryz.prog.bytesOf 147=32:=by kernel_rfl
@[simp] theorem stood147:Tryz.prog.stoodInHeld 147=false:=by kernel_rfl
@[simp] theorem eqg147:Tryz.prog.eqGuardType Tryz.prog.depth 147=false:=by kernel_rfl
@[simp] theorem zero147:azero Tryz.prog 147=some [.int .i64 0,.sl 0 [] .full]:=by kernel_rfl
@[simp] theorem cells152:Tryz.prog.cellsOf 152=1:=by kernel_rfl
@[simp] theorem bytes152:Tryz.prog.bytesOf 152=8:=by kernel_rfl
@[simp] theorem zero152:azero Tryz.prog 152=some [.nilf]:=by kernel_rfl
@[simp] theorem cells162:Tryz.prog.cellsOf 162=2:=by kernel_rfl
@[simp] theorem bytes162:Tryz.prog.bytesOf 162=16:=by kernel_rfl
@[simp] theorem stood162:Tryz.prog.stoodInHeld 162=false:=by kernel_rfl
@[simp] theorem eqg162:Tryz.prog.eqGuardType Tryz.prog.depth 162=false:=by kernel_rfl
@[simp] theorem zero162:azero Tryz.prog 162=some [.int .i64 0,.int .i64 0]:=by kernel_rfl
@[simp] theorem cells165:Tryz.prog.cellsOf 165=2:=by kernel_rfl
@[simp] theorem bytes165:Tryz.prog.bytesOf 165=16:=by kernel_rfl
@[simp] theorem stood165:Tryz.prog.stoodInHeld 165=false:=by kernel_rfl
@[simp] theorem eqg165:Tryz.prog.eqGuardType Tryz.prog.depth 165=false:=by kernel_rfl
@[simp] theorem zero165:azero Tryz.prog 165=some [.int .i64 0,.int .i64 0]:=by kernel_rfl
@[simp] theorem cells171:Tryz.prog.cellsOf 171=3:=by kernel_rfl
@[simp] theorem bytes171:Tryz.prog.bytesOf 171=48:=by kernel_rfl
@[simp] theorem stood171:Tryz.prog.stoodInHeld 171=false:=by kernel_rfl
@[simp] theorem eqg171:Tryz.prog.eqGuardType Tryz.prog.depth 171=false:=by kernel_rfl
@[simp] theorem zero171:azero Tryz.prog 171=some [.int .i64 0,.str [],.sl 0 [] .full]:=by kernel_rfl
@[simp] theorem cells172:Tryz.prog.cellsOf 172=1:=by kernel_rfl
@[simp] theorem bytes172:Tryz.prog.bytesOf 172=24:=by kernel_rfl
@[simp] theorem zero172:azero Tryz.prog 172=some [.sl 0 [] .full]:=by kernel_rfl
@[simp] theorem cells174:Tryz.prog.cellsOf 174=2:=by kernel_rfl
@[simp] theorem bytes174:Tryz.prog.bytesOf 174=32:=by kernel_rfl
@[simp] theorem stood174:Tryz.prog.stoodInHeld 174=false:=by kernel_rfl
@[simp] theorem eqg174:Tryz.prog.eqGuardType Tryz.prog.depth 174=false:=by kernel_rfl
@[simp] theorem zero174:azero Tryz.prog 174=some [.int .i64 0,.sl 0 [] .full]:=by kernel_rfl
@[simp] theorem cells175:Tryz.prog.cellsOf 175=2:=by kernel_rfl
@[simp] theorem bytes175:Tryz.prog.bytesOf 175=16:=by kernel_rfl
@[simp] theorem stood175:Tryz.prog.stoodInHeld 175=false:=by kernel_rfl
@[simp] theorem eqg175:Tryz.prog.eqGuardType Tryz.prog.depth 175=false:=by kernel_rfl
@[simp] theorem zero175:azero Tryz.prog 175=some [.int .i64 0,.int .i64 0]:=by kernel_rfl
@[simp] theorem cells176:Tryz.prog.cellsOf 176=1:=by kernel_rfl
@[simp] theorem bytes176:Tryz.prog.bytesOf 176=8:=by kernel_rfl
@[simp] theorem zero176:azero Tryz.prog 176=some [.top]:=by kernel_rfl
@[simp] theorem mapT176:mapT Tryz.prog 176=some (179,4):=by kernel_rfl
@[simp] theorem zeroV176:azeroV Tryz.prog 4=some (.bool false):=by kernel_rfl
@[simp] theorem cells177:Tryz.prog.cellsOf 177=1:=by kernel_rfl
@[simp] theorem bytes177:Tryz.prog.bytesOf 177=8:=by kernel_rfl
@[simp] theorem zero177:azero Tryz.prog 177=some [.nilf]:=by kernel_rfl
@[simp] theorem cells179:Tryz.prog.cellsOf 179=3:=by kernel_rfl
@[simp] theorem bytes179:Tryz.prog.bytesOf 179=24:=by kernel_rfl
@[simp] theorem stood179:Tryz.prog.stoodInHeld 179=false:=by kernel_rfl
@[simp] theorem eqg179:Tryz.prog.eqGuardType Tryz.prog.depth 179=false:=by kernel_rfl
@[simp] theorem zero179:azero Tryz.prog 179=some [.int .i64 0,.int .i64 0,.int .i64 0]:=by kernel_rfl
@[simp] theorem cells180:Tryz.prog.cellsOf 180=1:=by kernel_rfl
@[simp] theorem bytes180:Tryz.prog.bytesOf 180=0:=by kernel_rfl
@[simp] theorem cells182:Tryz.prog.cellsOf 182=1:=by kernel_rfl
@[simp] theorem bytes182:Tryz.prog.bytesOf 182=8:=by kernel_rfl
@[simp] theorem zero182:azero Tryz.prog 182=some [.nilf]:=by kernel_rfl
@[simp] theorem cells185:Tryz.prog.cellsOf 185=1:=by kernel_rfl
@[simp] theorem bytes185:Tryz.prog.bytesOf 185=8:=by kernel_rfl
@[simp] theorem zero185:azero Tryz.prog 185=some [.nilf]:=by kernel_rfl
@[simp] theorem cells190:Tryz.prog.cellsOf 190=1:=by kernel_rfl
@[simp] theorem bytes190:Tryz.prog.bytesOf 190=8:=by kernel_rfl
@[simp] theorem zero190:azero Tryz.prog 190=some [.top]:=by kernel_rfl
@[simp] theorem mapT190:mapT Tryz.prog 190=some (193,71):=by kernel_rfl
@[simp] theorem zeroV190:azeroV Tryz.prog 71=some (.sl 0 [] .full):=by kernel_rfl
@[simp] theorem cells191:Tryz.prog.cellsOf 191=1:=by kernel_rfl
@[simp] theorem bytes191:Tryz.prog.bytesOf 191=8:=by kernel_rfl
@[simp] theorem zero191:azero Tryz.prog 191=some [.top]:=by kernel_rfl
@[simp] theorem mapT191:mapT Tryz.prog 191=some (3,172):=by kernel_rfl
@[simp] theorem zeroV191:azeroV Tryz.prog 172=some (.sl 0 [] .full):=by kernel_rfl
@[simp] theorem cells193:Tryz.prog.cellsOf 193=2:=by kernel_rfl
@[simp] theorem bytes193:Tryz.prog.bytesOf 193=24:=by kernel_rfl
@[simp] theorem stood193:Tryz.prog.stoodInHeld 193=false:=by kernel_rfl
@[simp] theorem eqg193:Tryz.prog.eqGuardType Tryz.prog.depth 193=false:=by kernel_rfl
@[simp] theorem zero193:azero Tryz.prog 193=some [.int .i64 0,.str []]:=by kernel_rfl
@[simp] theorem cells204:Tryz.prog.cellsOf 204=1:=by kernel_rfl
@[simp] theorem bytes204:Tryz.prog.bytesOf 204=8:=by kernel_rfl
@[simp] theorem zero204:azero Tryz.prog 204=some [.nilf]:=by kernel_rfl
@[simp] theorem cells207:Tryz.prog.cellsOf 207=1:=by kernel_rfl
@[simp] theorem bytes207:Tryz.prog.bytesOf 207=8:=by kernel_rfl
@[simp] theorem zero207:azero Tryz.prog 207=some [.nilf]:=by kernel_rfl
@[simp] theorem cells208:Tryz.prog.cellsOf 208=1:=by kernel_rfl
@[simp] theorem bytes208:Tryz.prog.bytesOf 208=8:=by kernel_rfl
@[simp] theorem zero208:azero Tryz.prog 208=some [.nilp]:=by kernel_rfl
@[simp] theorem cells210:Tryz.prog.cellsOf 210=1:=by kernel_rfl
@[simp] theorem bytes210:Tryz.prog.bytesOf 210=8:=by kernel_rfl
@[simp] theorem zero210:azero Tryz.prog 210=some [.nilf]:=by kernel_rfl
@[simp] theorem cells216:Tryz.prog.cellsOf 216=1:=by kernel_rfl
@[simp] theorem bytes216:Tryz.prog.bytesOf 216=8:=by kernel_rfl
@[simp] theorem zero216:azero Tryz.prog 216=some [.top]:=by kernel_rfl
@[simp] theorem mapT216:mapT Tryz.prog 216=some (3,3):=by kernel_rfl
@[simp] theorem zeroV216:azeroV Tryz.prog 3=some (.int .i64 0):=by kernel_rfl
@[simp] theorem cells217:Tryz.prog.cellsOf 217=1:=by kernel_rfl
@[simp] theorem bytes217:Tryz.prog.bytesOf 217=8:=by kernel_rfl
@[simp] theorem zero217:azero Tryz.prog 217=some [.nilp]:=by kernel_rfl
@[simp] theorem cells218:Tryz.prog.cellsOf 218=1:=by kernel_rfl
@[simp] theorem bytes218:Tryz.prog.bytesOf 218=8:=by kernel_rfl
@[simp] theorem zero218:azero Tryz.prog 218=some [.nilp]:=by kernel_rfl
@[simp] theorem cells220:Tryz.prog.cellsOf 220=1:=by kernel_rfl
@[simp] theorem bytes220:Tryz.prog.bytesOf 220=8:=by kernel_rfl
@[simp] theorem zero220:azero Tryz.prog 220=some [.nilf]:=by kernel_rfl
@[simp] theorem cells225:Tryz.prog.cellsOf 225=1:=by kernel_rfl
@[simp] theorem bytes225:Tryz.prog.bytesOf 225=8:=by kernel_rfl
@[simp] theorem zero225:azero Tryz.prog 225=some [.int .u64 0]:=by kernel_rfl
@[simp] theorem cells235:Tryz.prog.cellsOf 235=1:=by kernel_rfl
@[simp] theorem bytes235:Tryz.prog.bytesOf 235=8:=by kernel_rfl
@[simp] theorem zero235:azero Tryz.prog 235=some [.nilf]:=by kernel_rfl
@[simp] theorem cells236:Tryz.prog.cellsOf 236=1:=by kernel_rfl
@[simp] theorem bytes236:Tryz.prog.bytesOf 236=8:=by kernel_rfl
@[simp] theorem zero236:azero Tryz.prog 236=some [.nilp]:=by kernel_rfl
@[simp] theorem cells237:Tryz.prog.cellsOf 237=1:=by kernel_rfl
@[simp] theorem bytes237:Tryz.prog.bytesOf 237=8:=by kernel_rfl
@[simp] theorem zero237:azero Tryz.prog 237=some [.nilf]:=by kernel_rfl
@[simp] theorem cells249:Tryz.prog.cellsOf 249=1:=by kernel_rfl
@[simp] theorem bytes249:Tryz.prog.bytesOf 249=8:=by kernel_rfl
@[simp] theorem zero249:azero Tryz.prog 249=some [.int .i64 0]:=by kernel_rfl
@[simp] theorem cells250:Tryz.prog.cellsOf 250=1:=by kernel_rfl
@[simp] theorem bytes250:Tryz.prog.bytesOf 250=0:=by kernel_rfl
@[simp] theorem cells256:Tryz.prog.cellsOf 256=1:=by kernel_rfl
@[simp] theorem bytes256:Tryz.prog.bytesOf 256=4:=by kernel_rfl
@[simp] theorem zero256:azero Tryz.prog 256=some [.int .u32 0]:=by kernel_rfl
@[simp] theorem cells258:Tryz.prog.cellsOf 258=1:=by kernel_rfl
@[simp] theorem bytes258:Tryz.prog.bytesOf 258=8:=by kernel_rfl
@[simp] theorem zero258:azero Tryz.prog 258=some [.int .u64 0]:=by kernel_rfl
@[simp] theorem cells275:Tryz.prog.cellsOf 275=1:=by kernel_rfl
@[simp] theorem bytes275:Tryz.prog.bytesOf 275=8:=by kernel_rfl
@[simp] theorem zero275:azero Tryz.prog 275=some [.int .u64 0]:=by kernel_rfl
@[simp] theorem cells290:Tryz.prog.cellsOf 290=1:=by kernel_rfl
@[simp] theorem bytes290:Tryz.prog.bytesOf 290=8:=by kernel_rfl
@[simp] theorem zero290:azero Tryz.prog 290=some [.nilp]:=by kernel_rfl
@[simp] theorem cells291:Tryz.prog.cellsOf 291=1:=by kernel_rfl
@[simp] theorem bytes291:Tryz.prog.bytesOf 291=0:=by kernel_rfl
end Go.Proofs.YtoejlmpbebjemaaGreat
