/- Sizes and zero values of the types of this translation, as the abstract machine asks for them.
  Conditions: none. -/
import Derived.Test.YtoejlmpbebjemaaGreatRows
import Derived.Test.YtoejlmpbebjemaaGreatAmB
set_option linter.all false
namespace Go.Proofs.YtoejlmpbebjemaaGreat
open Go.Proofs.Tryz(prog)
open Go.Am
@[simp] theorem agy:prog.cellsOf 0=1:=zK
@[simp] theorem agD:prog.bytesOf 0=0:=zK
@[simp] theorem OY:prog.cellsOf 3=1:=zK
@[simp] theorem agC:prog.bytesOf 3=8:=zK
@[simp] theorem agI:bz prog 3=some [.int .i64 0]:=zK
@[simp] theorem agx:prog.cellsOf 4=1:=zK
@[simp] theorem agB:prog.bytesOf 4=1:=zK
@[simp] theorem agH:bz prog 4=some [.bool false]:=zK
@[simp] theorem agw:prog.cellsOf 5=1:=zK
@[simp] theorem agA:prog.bytesOf 5=1:=zK
@[simp] theorem agG:bz prog 5=some [.int .u8 0]:=zK
@[simp] theorem Hh:prog.cellsOf 9=1:=zK
@[simp] theorem agz:prog.bytesOf 9=16:=zK
@[simp] theorem agF:bz prog 9=some [.str []]:=zK
@[simp] theorem aec:prog.cellsOf 22=1:=zK
@[simp] theorem aeG:prog.bytesOf 22=24:=zK
@[simp] theorem agd:bz prog 22=some [.sl 0 [] .full]:=zK
@[simp] theorem aeb:prog.cellsOf 23=1:=zK
@[simp] theorem aeF:prog.bytesOf 23=24:=zK
@[simp] theorem agc:bz prog 23=some [.sl 0 [] .full]:=zK
@[simp] theorem aea:prog.cellsOf 24=1:=zK
@[simp] theorem aeE:prog.bytesOf 24=24:=zK
@[simp] theorem agb:bz prog 24=some [.sl 0 [] .full]:=zK
@[simp] theorem Cq:prog.cellsOf 26=3:=zK
@[simp] theorem aeD:prog.bytesOf 26=56:=zK
@[simp] theorem adI:prog.stoodInHeld 26=false:=zK
@[simp] theorem agX:prog.eqGuardType prog.depth 26=false:=zK
@[simp] theorem aga:bz prog 26=some [.int .i64 0,.sl 0 [] .full,.sl 0 [] .full]:=zK
@[simp] theorem ad9:prog.cellsOf 29=1:=zK
@[simp] theorem aeC:prog.bytesOf 29=8:=zK
@[simp] theorem af9:bz prog 29=some [.jD]:=zK
@[simp] theorem ad8:prog.cellsOf 30=1:=zK
@[simp] theorem aeB:prog.bytesOf 30=24:=zK
@[simp] theorem af8:bz prog 30=some [.sl 0 [] .full]:=zK
@[simp] theorem ad7:prog.cellsOf 31=1:=zK
@[simp] theorem aeA:prog.bytesOf 31=24:=zK
@[simp] theorem af7:bz prog 31=some [.sl 0 [] .full]:=zK
@[simp] theorem ad6:prog.cellsOf 33=2:=zK
@[simp] theorem aez:prog.bytesOf 33=48:=zK
@[simp] theorem adH:prog.stoodInHeld 33=false:=zK
@[simp] theorem agW:prog.eqGuardType prog.depth 33=false:=zK
@[simp] theorem af6:bz prog 33=some [.sl 0 [] .full,.sl 0 [] .full]:=zK
@[simp] theorem ad5:prog.cellsOf 35=1:=zK
@[simp] theorem aey:prog.bytesOf 35=24:=zK
@[simp] theorem af5:bz prog 35=some [.sl 0 [] .full]:=zK
@[simp] theorem ad4:prog.cellsOf 37=2:=zK
@[simp] theorem aex:prog.bytesOf 37=48:=zK
@[simp] theorem adG:prog.stoodInHeld 37=false:=zK
@[simp] theorem agV:prog.eqGuardType prog.depth 37=false:=zK
@[simp] theorem af4:bz prog 37=some [.sl 0 [] .full,.sl 0 [] .full]:=zK
@[simp] theorem ad3:prog.cellsOf 42=1:=zK
@[simp] theorem aew:prog.bytesOf 42=8:=zK
@[simp] theorem af3:bz prog 42=some [.int .i64 0]:=zK
@[simp] theorem ad2:prog.cellsOf 43=1:=zK
@[simp] theorem aeu:prog.bytesOf 43=0:=zK
@[simp] theorem ad1:prog.cellsOf 45=1:=zK
@[simp] theorem aet:prog.bytesOf 45=0:=zK
@[simp] theorem ad0:prog.cellsOf 47=1:=zK
@[simp] theorem aes:prog.bytesOf 47=0:=zK
@[simp] theorem adZ:prog.cellsOf 49=1:=zK
@[simp] theorem aer:prog.bytesOf 49=0:=zK
@[simp] theorem adY:prog.cellsOf 53=1:=zK
@[simp] theorem aeq:prog.bytesOf 53=24:=zK
@[simp] theorem af2:bz prog 53=some [.sl 0 [] .full]:=zK
@[simp] theorem adX:prog.cellsOf 54=1:=zK
@[simp] theorem aep:prog.bytesOf 54=24:=zK
@[simp] theorem af1:bz prog 54=some [.sl 0 [] .full]:=zK
@[simp] theorem adW:prog.cellsOf 55=1:=zK
@[simp] theorem aeo:prog.bytesOf 55=24:=zK
@[simp] theorem af0:bz prog 55=some [.sl 0 [] .full]:=zK
@[simp] theorem adV:prog.cellsOf 57=3:=zK
@[simp] theorem aen:prog.bytesOf 57=72:=zK
@[simp] theorem adF:prog.stoodInHeld 57=false:=zK
@[simp] theorem agU:prog.eqGuardType prog.depth 57=false:=zK
@[simp] theorem afZ:bz prog 57=some [.sl 0 [] .full,.sl 0 [] .full,.sl 0 [] .full]:=zK
@[simp] theorem adU:prog.cellsOf 64=1:=zK
@[simp] theorem aem:prog.bytesOf 64=24:=zK
@[simp] theorem afY:bz prog 64=some [.sl 0 [] .full]:=zK
@[simp] theorem adT:prog.cellsOf 65=1:=zK
@[simp] theorem ael:prog.bytesOf 65=24:=zK
@[simp] theorem afX:bz prog 65=some [.sl 0 [] .full]:=zK
@[simp] theorem adS:prog.cellsOf 67=3:=zK
@[simp] theorem aek:prog.bytesOf 67=72:=zK
@[simp] theorem adE:prog.stoodInHeld 67=false:=zK
@[simp] theorem agT:prog.eqGuardType prog.depth 67=false:=zK
@[simp] theorem afW:bz prog 67=some [.sl 0 [] .full,.sl 0 [] .full,.sl 0 [] .full]:=zK
@[simp] theorem adR:prog.cellsOf 70=1:=zK
@[simp] theorem aej:prog.bytesOf 70=24:=zK
@[simp] theorem afV:bz prog 70=some [.sl 0 [] .full]:=zK
@[simp] theorem adQ:prog.cellsOf 71=1:=zK
@[simp] theorem aei:prog.bytesOf 71=24:=zK
@[simp] theorem afU:bz prog 71=some [.sl 0 [] .full]:=zK
@[simp] theorem adP:prog.cellsOf 74=1:=zK
@[simp] theorem aeh:prog.bytesOf 74=24:=zK
@[simp] theorem afT:bz prog 74=some [.sl 0 [] .full]:=zK
@[simp] theorem adO:prog.cellsOf 82=4:=zK
@[simp] theorem aeg:prog.bytesOf 82=40:=zK
@[simp] theorem adD:prog.stoodInHeld 82=false:=zK
@[simp] theorem agS:prog.eqGuardType prog.depth 82=false:=zK
@[simp] theorem afS:bz prog 82=some [.int .i64 0,.str [],.int .i64 0,.int .i64 0]:=zK
@[simp] theorem adN:prog.cellsOf 84=1:=zK
@[simp] theorem aef:prog.bytesOf 84=0:=zK
@[simp] theorem adM:prog.cellsOf 90=1:=zK
@[simp] theorem aee:prog.bytesOf 90=24:=zK
@[simp] theorem afR:bz prog 90=some [.sl 0 [] .full]:=zK
@[simp] theorem adL:prog.cellsOf 93=1:=zK
@[simp] theorem aed:prog.bytesOf 93=24:=zK
@[simp] theorem afQ:bz prog 93=some [.sl 0 [] .full]:=zK
@[simp] theorem abT:prog.cellsOf 101=4:=zK
@[simp] theorem acG:prog.bytesOf 101=64:=zK
@[simp] theorem aa3:prog.stoodInHeld 101=false:=zK
@[simp] theorem agv:prog.eqGuardType prog.depth 101=false:=zK
@[simp] theorem adB:bz prog 101=some [.bool false,.int .i64 0,.sl 0 [] .full,.sl 0 [] .full]:=zK
@[simp] theorem abS:prog.cellsOf 115=1:=zK
@[simp] theorem acF:prog.bytesOf 115=24:=zK
@[simp] theorem adA:bz prog 115=some [.sl 0 [] .full]:=zK
@[simp] theorem abR:prog.cellsOf 117=2:=zK
@[simp] theorem acE:prog.bytesOf 117=32:=zK
@[simp] theorem aa2:prog.stoodInHeld 117=false:=zK
@[simp] theorem agu:prog.eqGuardType prog.depth 117=false:=zK
@[simp] theorem adz:bz prog 117=some [.int .i64 0,.sl 0 [] .full]:=zK
@[simp] theorem abQ:prog.cellsOf 124=1:=zK
@[simp] theorem acD:prog.bytesOf 124=0:=zK
@[simp] theorem abP:prog.cellsOf 129=3:=zK
@[simp] theorem acC:prog.bytesOf 129=48:=zK
@[simp] theorem aa1:prog.stoodInHeld 129=false:=zK
@[simp] theorem agt:prog.eqGuardType prog.depth 129=false:=zK
@[simp] theorem ady:bz prog 129=some [.int .i64 0,.str [],.sl 0 [] .full]:=zK
@[simp] theorem abO:prog.cellsOf 130=1:=zK
@[simp] theorem acB:prog.bytesOf 130=24:=zK
@[simp] theorem adx:bz prog 130=some [.sl 0 [] .full]:=zK
@[simp] theorem abN:prog.cellsOf 132=2:=zK
@[simp] theorem acA:prog.bytesOf 132=32:=zK
@[simp] theorem aa0:prog.stoodInHeld 132=false:=zK
@[simp] theorem ags:prog.eqGuardType prog.depth 132=false:=zK
@[simp] theorem adw:bz prog 132=some [.int .i64 0,.sl 0 [] .full]:=zK
@[simp] theorem abM:prog.cellsOf 136=2:=zK
@[simp] theorem acz:prog.bytesOf 136=24:=zK
@[simp] theorem aaZ:prog.stoodInHeld 136=false:=zK
@[simp] theorem agr:prog.eqGuardType prog.depth 136=false:=zK
@[simp] theorem adv:bz prog 136=some [.str [],.int .i64 0]:=zK
@[simp] theorem yi:prog.cellsOf 140=2:=zK
@[simp] theorem acy:prog.bytesOf 140=32:=zK
@[simp] theorem aaY:prog.stoodInHeld 140=false:=zK
@[simp] theorem agq:prog.eqGuardType prog.depth 140=false:=zK
@[simp] theorem adu:bz prog 140=some [.int .i64 0,.sl 0 [] .full]:=zK
@[simp] theorem abL:prog.cellsOf 147=2:=zK
@[simp] theorem acx:prog.bytesOf 147=32:=zK
@[simp] theorem aaX:prog.stoodInHeld 147=false:=zK
@[simp] theorem agp:prog.eqGuardType prog.depth 147=false:=zK
@[simp] theorem adt:bz prog 147=some [.int .i64 0,.sl 0 [] .full]:=zK
@[simp] theorem abK:prog.cellsOf 152=1:=zK
@[simp] theorem acw:prog.bytesOf 152=8:=zK
@[simp] theorem ads:bz prog 152=some [.jD]:=zK
@[simp] theorem abJ:prog.cellsOf 158=1:=zK
@[simp] theorem acv:prog.bytesOf 158=8:=zK
@[simp] theorem adr:bz prog 158=some [.jD]:=zK
@[simp] theorem abI:prog.cellsOf 162=2:=zK
@[simp] theorem acu:prog.bytesOf 162=16:=zK
@[simp] theorem aaW:prog.stoodInHeld 162=false:=zK
@[simp] theorem ago:prog.eqGuardType prog.depth 162=false:=zK
@[simp] theorem adq:bz prog 162=some [.int .i64 0,.int .i64 0]:=zK
@[simp] theorem abH:prog.cellsOf 165=2:=zK
@[simp] theorem acs:prog.bytesOf 165=16:=zK
@[simp] theorem aaV:prog.stoodInHeld 165=false:=zK
@[simp] theorem agn:prog.eqGuardType prog.depth 165=false:=zK
@[simp] theorem adp:bz prog 165=some [.int .i64 0,.int .i64 0]:=zK
@[simp] theorem yh:prog.cellsOf 171=3:=zK
@[simp] theorem acr:prog.bytesOf 171=48:=zK
@[simp] theorem aaU:prog.stoodInHeld 171=false:=zK
@[simp] theorem agm:prog.eqGuardType prog.depth 171=false:=zK
@[simp] theorem ado:bz prog 171=some [.int .i64 0,.str [],.sl 0 [] .full]:=zK
@[simp] theorem abG:prog.cellsOf 172=1:=zK
@[simp] theorem acq:prog.bytesOf 172=24:=zK
@[simp] theorem adn:bz prog 172=some [.sl 0 [] .full]:=zK
@[simp] theorem abF:prog.cellsOf 174=2:=zK
@[simp] theorem acp:prog.bytesOf 174=32:=zK
@[simp] theorem aaT:prog.stoodInHeld 174=false:=zK
@[simp] theorem agl:prog.eqGuardType prog.depth 174=false:=zK
@[simp] theorem adm:bz prog 174=some [.int .i64 0,.sl 0 [] .full]:=zK
@[simp] theorem abE:prog.cellsOf 175=2:=zK
@[simp] theorem aco:prog.bytesOf 175=16:=zK
@[simp] theorem aaS:prog.stoodInHeld 175=false:=zK
@[simp] theorem agk:prog.eqGuardType prog.depth 175=false:=zK
@[simp] theorem adl:bz prog 175=some [.int .i64 0,.int .i64 0]:=zK
@[simp] theorem abD:prog.cellsOf 176=1:=zK
@[simp] theorem acn:prog.bytesOf 176=8:=zK
@[simp] theorem adk:bz prog 176=some [.top]:=zK
@[simp] theorem Cb:wa prog 176=some (179,4):=zK
@[simp] theorem DR:qb prog 4=some (.bool false):=zK
@[simp] theorem abC:prog.cellsOf 177=1:=zK
@[simp] theorem acm:prog.bytesOf 177=8:=zK
@[simp] theorem adj:bz prog 177=some [.jD]:=zK
@[simp] theorem Fi:prog.cellsOf 179=3:=zK
@[simp] theorem ack:prog.bytesOf 179=24:=zK
@[simp] theorem aaR:prog.stoodInHeld 179=false:=zK
@[simp] theorem agj:prog.eqGuardType prog.depth 179=false:=zK
@[simp] theorem adi:bz prog 179=some [.int .i64 0,.int .i64 0,.int .i64 0]:=zK
@[simp] theorem abB:prog.cellsOf 180=1:=zK
@[simp] theorem acj:prog.bytesOf 180=0:=zK
@[simp] theorem abA:prog.cellsOf 182=1:=zK
@[simp] theorem aci:prog.bytesOf 182=8:=zK
@[simp] theorem adh:bz prog 182=some [.jD]:=zK
@[simp] theorem abz:prog.cellsOf 185=1:=zK
@[simp] theorem ach:prog.bytesOf 185=8:=zK
@[simp] theorem adg:bz prog 185=some [.jD]:=zK
@[simp] theorem aby:prog.cellsOf 190=1:=zK
@[simp] theorem acg:prog.bytesOf 190=8:=zK
@[simp] theorem adf:bz prog 190=some [.top]:=zK
@[simp] theorem wK:wa prog 190=some (193,71):=zK
@[simp] theorem tD:qb prog 71=some (.sl 0 [] .full):=zK
@[simp] theorem abx:prog.cellsOf 191=1:=zK
@[simp] theorem acf:prog.bytesOf 191=8:=zK
@[simp] theorem ade:bz prog 191=some [.top]:=zK
@[simp] theorem wJ:wa prog 191=some (3,172):=zK
@[simp] theorem DP:qb prog 172=some (.sl 0 [] .full):=zK
@[simp] theorem Fh:prog.cellsOf 193=2:=zK
@[simp] theorem ace:prog.bytesOf 193=24:=zK
@[simp] theorem aaQ:prog.stoodInHeld 193=false:=zK
@[simp] theorem agi:prog.eqGuardType prog.depth 193=false:=zK
@[simp] theorem adb:bz prog 193=some [.int .i64 0,.str []]:=zK
@[simp] theorem abw:prog.cellsOf 204=1:=zK
@[simp] theorem acd:prog.bytesOf 204=8:=zK
@[simp] theorem ada:bz prog 204=some [.jD]:=zK
@[simp] theorem abv:prog.cellsOf 207=1:=zK
@[simp] theorem acb:prog.bytesOf 207=8:=zK
@[simp] theorem ac9:bz prog 207=some [.jD]:=zK
@[simp] theorem abu:prog.cellsOf 208=1:=zK
@[simp] theorem aca:prog.bytesOf 208=8:=zK
@[simp] theorem ac8:bz prog 208=some [.gq]:=zK
@[simp] theorem abt:prog.cellsOf 210=1:=zK
@[simp] theorem ab9:prog.bytesOf 210=8:=zK
@[simp] theorem ac7:bz prog 210=some [.jD]:=zK
@[simp] theorem abr:prog.cellsOf 216=1:=zK
@[simp] theorem ab8:prog.bytesOf 216=8:=zK
@[simp] theorem ac6:bz prog 216=some [.top]:=zK
@[simp] theorem Ca:wa prog 216=some (3,3):=zK
@[simp] theorem aaO:qb prog 3=some (.int .i64 0):=zK
@[simp] theorem abq:prog.cellsOf 217=1:=zK
@[simp] theorem ab7:prog.bytesOf 217=8:=zK
@[simp] theorem ac5:bz prog 217=some [.gq]:=zK
@[simp] theorem abp:prog.cellsOf 218=1:=zK
@[simp] theorem ab6:prog.bytesOf 218=8:=zK
@[simp] theorem ac4:bz prog 218=some [.gq]:=zK
@[simp] theorem abo:prog.cellsOf 220=1:=zK
@[simp] theorem ab5:prog.bytesOf 220=8:=zK
@[simp] theorem ac3:bz prog 220=some [.jD]:=zK
@[simp] theorem abn:prog.cellsOf 225=1:=zK
@[simp] theorem ab4:prog.bytesOf 225=8:=zK
@[simp] theorem ac2:bz prog 225=some [.int .u64 0]:=zK
@[simp] theorem abm:prog.cellsOf 235=1:=zK
@[simp] theorem ab3:prog.bytesOf 235=8:=zK
@[simp] theorem ac1:bz prog 235=some [.jD]:=zK
@[simp] theorem abl:prog.cellsOf 236=1:=zK
@[simp] theorem ab2:prog.bytesOf 236=8:=zK
@[simp] theorem ac0:bz prog 236=some [.gq]:=zK
@[simp] theorem abk:prog.cellsOf 237=1:=zK
@[simp] theorem ab1:prog.bytesOf 237=8:=zK
@[simp] theorem acZ:bz prog 237=some [.jD]:=zK
@[simp] theorem abj:prog.cellsOf 249=1:=zK
@[simp] theorem ab0:prog.bytesOf 249=8:=zK
@[simp] theorem acY:bz prog 249=some [.int .i64 0]:=zK
@[simp] theorem abi:prog.cellsOf 250=1:=zK
@[simp] theorem abZ:prog.bytesOf 250=0:=zK
@[simp] theorem abh:prog.cellsOf 256=1:=zK
@[simp] theorem abY:prog.bytesOf 256=4:=zK
@[simp] theorem acX:bz prog 256=some [.int .u32 0]:=zK
@[simp] theorem abg:prog.cellsOf 258=1:=zK
@[simp] theorem abX:prog.bytesOf 258=8:=zK
@[simp] theorem acW:bz prog 258=some [.int .u64 0]:=zK
@[simp] theorem abf:prog.cellsOf 275=1:=zK
@[simp] theorem abW:prog.bytesOf 275=8:=zK
@[simp] theorem acV:bz prog 275=some [.int .u64 0]:=zK
@[simp] theorem abe:prog.cellsOf 290=1:=zK
@[simp] theorem abV:prog.bytesOf 290=8:=zK
@[simp] theorem acU:bz prog 290=some [.gq]:=zK
@[simp] theorem abd:prog.cellsOf 291=1:=zK
@[simp] theorem abU:prog.bytesOf 291=0:=zK
end Go.Proofs.YtoejlmpbebjemaaGreat
