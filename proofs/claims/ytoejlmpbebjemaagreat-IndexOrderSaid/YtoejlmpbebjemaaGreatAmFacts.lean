/- Sizes and zero values of the types of this translation, as the abstract machine asks for them.
  Conditions: none. -/
import Derived.Test.YtoejlmpbebjemaaGreatRows
import Derived.Test.YtoejlmpbebjemaaGreatAmB
set_option linter.all false
namespace Go.Proofs.YtoejlmpbebjemaaGreat
open Go.Proofs.Tryz(prog)
open Go.Am
@[simp] theorem agu:prog.cellsOf 0=1:=by kernel_rfl
@[simp] theorem agz:prog.bytesOf 0=0:=by kernel_rfl
@[simp] theorem O9:prog.cellsOf 3=1:=by kernel_rfl
@[simp] theorem agy:prog.bytesOf 3=8:=by kernel_rfl
@[simp] theorem agE:aZ prog 3=some [.int .i64 0]:=by kernel_rfl
@[simp] theorem agt:prog.cellsOf 4=1:=by kernel_rfl
@[simp] theorem agx:prog.bytesOf 4=1:=by kernel_rfl
@[simp] theorem agD:aZ prog 4=some [.bool false]:=by kernel_rfl
@[simp] theorem ags:prog.cellsOf 5=1:=by kernel_rfl
@[simp] theorem agw:prog.bytesOf 5=1:=by kernel_rfl
@[simp] theorem agC:aZ prog 5=some [.int .u8 0]:=by kernel_rfl
@[simp] theorem G7:prog.cellsOf 9=1:=by kernel_rfl
@[simp] theorem agv:prog.bytesOf 9=16:=by kernel_rfl
@[simp] theorem agB:aZ prog 9=some [.str []]:=by kernel_rfl
@[simp] theorem ad7:prog.cellsOf 22=1:=by kernel_rfl
@[simp] theorem aeB:prog.bytesOf 22=24:=by kernel_rfl
@[simp] theorem af9:aZ prog 22=some [.sl 0 [] .full]:=by kernel_rfl
@[simp] theorem ad6:prog.cellsOf 23=1:=by kernel_rfl
@[simp] theorem aeA:prog.bytesOf 23=24:=by kernel_rfl
@[simp] theorem af8:aZ prog 23=some [.sl 0 [] .full]:=by kernel_rfl
@[simp] theorem ad5:prog.cellsOf 24=1:=by kernel_rfl
@[simp] theorem aez:prog.bytesOf 24=24:=by kernel_rfl
@[simp] theorem af7:aZ prog 24=some [.sl 0 [] .full]:=by kernel_rfl
@[simp] theorem Cc:prog.cellsOf 26=3:=by kernel_rfl
@[simp] theorem aey:prog.bytesOf 26=56:=by kernel_rfl
@[simp] theorem adD:prog.stoodInHeld 26=false:=by kernel_rfl
@[simp] theorem agT:prog.eqGuardType prog.depth 26=false:=by kernel_rfl
@[simp] theorem af6:aZ prog 26=some [.int .i64 0,.sl 0 [] .full,.sl 0 [] .full]:=by kernel_rfl
@[simp] theorem ad4:prog.cellsOf 29=1:=by kernel_rfl
@[simp] theorem aex:prog.bytesOf 29=8:=by kernel_rfl
@[simp] theorem af5:aZ prog 29=some [.jr]:=by kernel_rfl
@[simp] theorem ad3:prog.cellsOf 30=1:=by kernel_rfl
@[simp] theorem aew:prog.bytesOf 30=24:=by kernel_rfl
@[simp] theorem af4:aZ prog 30=some [.sl 0 [] .full]:=by kernel_rfl
@[simp] theorem ad2:prog.cellsOf 31=1:=by kernel_rfl
@[simp] theorem aeu:prog.bytesOf 31=24:=by kernel_rfl
@[simp] theorem af3:aZ prog 31=some [.sl 0 [] .full]:=by kernel_rfl
@[simp] theorem ad1:prog.cellsOf 33=2:=by kernel_rfl
@[simp] theorem aet:prog.bytesOf 33=48:=by kernel_rfl
@[simp] theorem adC:prog.stoodInHeld 33=false:=by kernel_rfl
@[simp] theorem agS:prog.eqGuardType prog.depth 33=false:=by kernel_rfl
@[simp] theorem af2:aZ prog 33=some [.sl 0 [] .full,.sl 0 [] .full]:=by kernel_rfl
@[simp] theorem ad0:prog.cellsOf 35=1:=by kernel_rfl
@[simp] theorem aes:prog.bytesOf 35=24:=by kernel_rfl
@[simp] theorem af1:aZ prog 35=some [.sl 0 [] .full]:=by kernel_rfl
@[simp] theorem adZ:prog.cellsOf 37=2:=by kernel_rfl
@[simp] theorem aer:prog.bytesOf 37=48:=by kernel_rfl
@[simp] theorem adB:prog.stoodInHeld 37=false:=by kernel_rfl
@[simp] theorem agR:prog.eqGuardType prog.depth 37=false:=by kernel_rfl
@[simp] theorem af0:aZ prog 37=some [.sl 0 [] .full,.sl 0 [] .full]:=by kernel_rfl
@[simp] theorem adY:prog.cellsOf 42=1:=by kernel_rfl
@[simp] theorem aeq:prog.bytesOf 42=8:=by kernel_rfl
@[simp] theorem afZ:aZ prog 42=some [.int .i64 0]:=by kernel_rfl
@[simp] theorem adX:prog.cellsOf 43=1:=by kernel_rfl
@[simp] theorem aep:prog.bytesOf 43=0:=by kernel_rfl
@[simp] theorem adW:prog.cellsOf 45=1:=by kernel_rfl
@[simp] theorem aeo:prog.bytesOf 45=0:=by kernel_rfl
@[simp] theorem adV:prog.cellsOf 47=1:=by kernel_rfl
@[simp] theorem aen:prog.bytesOf 47=0:=by kernel_rfl
@[simp] theorem adU:prog.cellsOf 49=1:=by kernel_rfl
@[simp] theorem aem:prog.bytesOf 49=0:=by kernel_rfl
@[simp] theorem adT:prog.cellsOf 53=1:=by kernel_rfl
@[simp] theorem ael:prog.bytesOf 53=24:=by kernel_rfl
@[simp] theorem afY:aZ prog 53=some [.sl 0 [] .full]:=by kernel_rfl
@[simp] theorem adS:prog.cellsOf 54=1:=by kernel_rfl
@[simp] theorem aek:prog.bytesOf 54=24:=by kernel_rfl
@[simp] theorem afX:aZ prog 54=some [.sl 0 [] .full]:=by kernel_rfl
@[simp] theorem adR:prog.cellsOf 55=1:=by kernel_rfl
@[simp] theorem aej:prog.bytesOf 55=24:=by kernel_rfl
@[simp] theorem afW:aZ prog 55=some [.sl 0 [] .full]:=by kernel_rfl
@[simp] theorem adQ:prog.cellsOf 57=3:=by kernel_rfl
@[simp] theorem aei:prog.bytesOf 57=72:=by kernel_rfl
@[simp] theorem adA:prog.stoodInHeld 57=false:=by kernel_rfl
@[simp] theorem agQ:prog.eqGuardType prog.depth 57=false:=by kernel_rfl
@[simp] theorem afV:aZ prog 57=some [.sl 0 [] .full,.sl 0 [] .full,.sl 0 [] .full]:=by kernel_rfl
@[simp] theorem adP:prog.cellsOf 64=1:=by kernel_rfl
@[simp] theorem aeh:prog.bytesOf 64=24:=by kernel_rfl
@[simp] theorem afU:aZ prog 64=some [.sl 0 [] .full]:=by kernel_rfl
@[simp] theorem adO:prog.cellsOf 65=1:=by kernel_rfl
@[simp] theorem aeg:prog.bytesOf 65=24:=by kernel_rfl
@[simp] theorem afT:aZ prog 65=some [.sl 0 [] .full]:=by kernel_rfl
@[simp] theorem adN:prog.cellsOf 67=3:=by kernel_rfl
@[simp] theorem aef:prog.bytesOf 67=72:=by kernel_rfl
@[simp] theorem adz:prog.stoodInHeld 67=false:=by kernel_rfl
@[simp] theorem agP:prog.eqGuardType prog.depth 67=false:=by kernel_rfl
@[simp] theorem afS:aZ prog 67=some [.sl 0 [] .full,.sl 0 [] .full,.sl 0 [] .full]:=by kernel_rfl
@[simp] theorem adM:prog.cellsOf 70=1:=by kernel_rfl
@[simp] theorem aee:prog.bytesOf 70=24:=by kernel_rfl
@[simp] theorem afR:aZ prog 70=some [.sl 0 [] .full]:=by kernel_rfl
@[simp] theorem adL:prog.cellsOf 71=1:=by kernel_rfl
@[simp] theorem aed:prog.bytesOf 71=24:=by kernel_rfl
@[simp] theorem afQ:aZ prog 71=some [.sl 0 [] .full]:=by kernel_rfl
@[simp] theorem adK:prog.cellsOf 74=1:=by kernel_rfl
@[simp] theorem aec:prog.bytesOf 74=24:=by kernel_rfl
@[simp] theorem afP:aZ prog 74=some [.sl 0 [] .full]:=by kernel_rfl
@[simp] theorem adJ:prog.cellsOf 82=4:=by kernel_rfl
@[simp] theorem aeb:prog.bytesOf 82=40:=by kernel_rfl
@[simp] theorem ady:prog.stoodInHeld 82=false:=by kernel_rfl
@[simp] theorem agO:prog.eqGuardType prog.depth 82=false:=by kernel_rfl
@[simp] theorem afO:aZ prog 82=some [.int .i64 0,.str [],.int .i64 0,.int .i64 0]:=by kernel_rfl
@[simp] theorem adI:prog.cellsOf 84=1:=by kernel_rfl
@[simp] theorem aea:prog.bytesOf 84=0:=by kernel_rfl
@[simp] theorem adH:prog.cellsOf 90=1:=by kernel_rfl
@[simp] theorem ad9:prog.bytesOf 90=24:=by kernel_rfl
@[simp] theorem afN:aZ prog 90=some [.sl 0 [] .full]:=by kernel_rfl
@[simp] theorem adG:prog.cellsOf 93=1:=by kernel_rfl
@[simp] theorem ad8:prog.bytesOf 93=24:=by kernel_rfl
@[simp] theorem afM:aZ prog 93=some [.sl 0 [] .full]:=by kernel_rfl
@[simp] theorem abO:prog.cellsOf 101=4:=by kernel_rfl
@[simp] theorem acB:prog.bytesOf 101=64:=by kernel_rfl
@[simp] theorem aaX:prog.stoodInHeld 101=false:=by kernel_rfl
@[simp] theorem agr:prog.eqGuardType prog.depth 101=false:=by kernel_rfl
@[simp] theorem adw:aZ prog 101=some [.bool false,.int .i64 0,.sl 0 [] .full,.sl 0 [] .full]:=by kernel_rfl
@[simp] theorem abN:prog.cellsOf 115=1:=by kernel_rfl
@[simp] theorem acA:prog.bytesOf 115=24:=by kernel_rfl
@[simp] theorem adv:aZ prog 115=some [.sl 0 [] .full]:=by kernel_rfl
@[simp] theorem abM:prog.cellsOf 117=2:=by kernel_rfl
@[simp] theorem acz:prog.bytesOf 117=32:=by kernel_rfl
@[simp] theorem aaW:prog.stoodInHeld 117=false:=by kernel_rfl
@[simp] theorem agq:prog.eqGuardType prog.depth 117=false:=by kernel_rfl
@[simp] theorem adu:aZ prog 117=some [.int .i64 0,.sl 0 [] .full]:=by kernel_rfl
@[simp] theorem abL:prog.cellsOf 124=1:=by kernel_rfl
@[simp] theorem acy:prog.bytesOf 124=0:=by kernel_rfl
@[simp] theorem abK:prog.cellsOf 129=3:=by kernel_rfl
@[simp] theorem acx:prog.bytesOf 129=48:=by kernel_rfl
@[simp] theorem aaV:prog.stoodInHeld 129=false:=by kernel_rfl
@[simp] theorem agp:prog.eqGuardType prog.depth 129=false:=by kernel_rfl
@[simp] theorem adt:aZ prog 129=some [.int .i64 0,.str [],.sl 0 [] .full]:=by kernel_rfl
@[simp] theorem abJ:prog.cellsOf 130=1:=by kernel_rfl
@[simp] theorem acw:prog.bytesOf 130=24:=by kernel_rfl
@[simp] theorem ads:aZ prog 130=some [.sl 0 [] .full]:=by kernel_rfl
@[simp] theorem abI:prog.cellsOf 132=2:=by kernel_rfl
@[simp] theorem acv:prog.bytesOf 132=32:=by kernel_rfl
@[simp] theorem aaU:prog.stoodInHeld 132=false:=by kernel_rfl
@[simp] theorem ago:prog.eqGuardType prog.depth 132=false:=by kernel_rfl
@[simp] theorem adr:aZ prog 132=some [.int .i64 0,.sl 0 [] .full]:=by kernel_rfl
@[simp] theorem abH:prog.cellsOf 136=2:=by kernel_rfl
@[simp] theorem acu:prog.bytesOf 136=24:=by kernel_rfl
@[simp] theorem aaT:prog.stoodInHeld 136=false:=by kernel_rfl
@[simp] theorem agn:prog.eqGuardType prog.depth 136=false:=by kernel_rfl
@[simp] theorem adq:aZ prog 136=some [.str [],.int .i64 0]:=by kernel_rfl
@[simp] theorem x4:prog.cellsOf 140=2:=by kernel_rfl
@[simp] theorem acs:prog.bytesOf 140=32:=by kernel_rfl
@[simp] theorem aaS:prog.stoodInHeld 140=false:=by kernel_rfl
@[simp] theorem agm:prog.eqGuardType prog.depth 140=false:=by kernel_rfl
@[simp] theorem adp:aZ prog 140=some [.int .i64 0,.sl 0 [] .full]:=by kernel_rfl
@[simp] theorem abG:prog.cellsOf 147=2:=by kernel_rfl
@[simp] theorem acr:prog.bytesOf 147=32:=by kernel_rfl
@[simp] theorem aaR:prog.stoodInHeld 147=false:=by kernel_rfl
@[simp] theorem agl:prog.eqGuardType prog.depth 147=false:=by kernel_rfl
@[simp] theorem ado:aZ prog 147=some [.int .i64 0,.sl 0 [] .full]:=by kernel_rfl
@[simp] theorem abF:prog.cellsOf 152=1:=by kernel_rfl
@[simp] theorem acq:prog.bytesOf 152=8:=by kernel_rfl
@[simp] theorem adn:aZ prog 152=some [.jr]:=by kernel_rfl
@[simp] theorem abE:prog.cellsOf 158=1:=by kernel_rfl
@[simp] theorem acp:prog.bytesOf 158=8:=by kernel_rfl
@[simp] theorem adm:aZ prog 158=some [.jr]:=by kernel_rfl
@[simp] theorem abD:prog.cellsOf 162=2:=by kernel_rfl
@[simp] theorem aco:prog.bytesOf 162=16:=by kernel_rfl
@[simp] theorem aaQ:prog.stoodInHeld 162=false:=by kernel_rfl
@[simp] theorem agk:prog.eqGuardType prog.depth 162=false:=by kernel_rfl
@[simp] theorem adl:aZ prog 162=some [.int .i64 0,.int .i64 0]:=by kernel_rfl
@[simp] theorem abC:prog.cellsOf 165=2:=by kernel_rfl
@[simp] theorem acn:prog.bytesOf 165=16:=by kernel_rfl
@[simp] theorem aaP:prog.stoodInHeld 165=false:=by kernel_rfl
@[simp] theorem agj:prog.eqGuardType prog.depth 165=false:=by kernel_rfl
@[simp] theorem adk:aZ prog 165=some [.int .i64 0,.int .i64 0]:=by kernel_rfl
@[simp] theorem xZ:prog.cellsOf 171=3:=by kernel_rfl
@[simp] theorem acm:prog.bytesOf 171=48:=by kernel_rfl
@[simp] theorem aaO:prog.stoodInHeld 171=false:=by kernel_rfl
@[simp] theorem agi:prog.eqGuardType prog.depth 171=false:=by kernel_rfl
@[simp] theorem adj:aZ prog 171=some [.int .i64 0,.str [],.sl 0 [] .full]:=by kernel_rfl
@[simp] theorem abB:prog.cellsOf 172=1:=by kernel_rfl
@[simp] theorem ack:prog.bytesOf 172=24:=by kernel_rfl
@[simp] theorem adi:aZ prog 172=some [.sl 0 [] .full]:=by kernel_rfl
@[simp] theorem abA:prog.cellsOf 174=2:=by kernel_rfl
@[simp] theorem acj:prog.bytesOf 174=32:=by kernel_rfl
@[simp] theorem aaN:prog.stoodInHeld 174=false:=by kernel_rfl
@[simp] theorem agh:prog.eqGuardType prog.depth 174=false:=by kernel_rfl
@[simp] theorem adh:aZ prog 174=some [.int .i64 0,.sl 0 [] .full]:=by kernel_rfl
@[simp] theorem abz:prog.cellsOf 175=2:=by kernel_rfl
@[simp] theorem aci:prog.bytesOf 175=16:=by kernel_rfl
@[simp] theorem aaM:prog.stoodInHeld 175=false:=by kernel_rfl
@[simp] theorem agf:prog.eqGuardType prog.depth 175=false:=by kernel_rfl
@[simp] theorem adg:aZ prog 175=some [.int .i64 0,.int .i64 0]:=by kernel_rfl
@[simp] theorem aby:prog.cellsOf 176=1:=by kernel_rfl
@[simp] theorem ach:prog.bytesOf 176=8:=by kernel_rfl
@[simp] theorem adf:aZ prog 176=some [.top]:=by kernel_rfl
@[simp] theorem BR:vT prog 176=some (179,4):=by kernel_rfl
@[simp] theorem DC:pM prog 4=some (.bool false):=by kernel_rfl
@[simp] theorem abx:prog.cellsOf 177=1:=by kernel_rfl
@[simp] theorem acg:prog.bytesOf 177=8:=by kernel_rfl
@[simp] theorem ade:aZ prog 177=some [.jr]:=by kernel_rfl
@[simp] theorem E0:prog.cellsOf 179=3:=by kernel_rfl
@[simp] theorem acf:prog.bytesOf 179=24:=by kernel_rfl
@[simp] theorem aaL:prog.stoodInHeld 179=false:=by kernel_rfl
@[simp] theorem age:prog.eqGuardType prog.depth 179=false:=by kernel_rfl
@[simp] theorem adb:aZ prog 179=some [.int .i64 0,.int .i64 0,.int .i64 0]:=by kernel_rfl
@[simp] theorem abw:prog.cellsOf 180=1:=by kernel_rfl
@[simp] theorem ace:prog.bytesOf 180=0:=by kernel_rfl
@[simp] theorem abv:prog.cellsOf 182=1:=by kernel_rfl
@[simp] theorem acd:prog.bytesOf 182=8:=by kernel_rfl
@[simp] theorem ada:aZ prog 182=some [.jr]:=by kernel_rfl
@[simp] theorem abu:prog.cellsOf 185=1:=by kernel_rfl
@[simp] theorem acb:prog.bytesOf 185=8:=by kernel_rfl
@[simp] theorem ac9:aZ prog 185=some [.jr]:=by kernel_rfl
@[simp] theorem abt:prog.cellsOf 190=1:=by kernel_rfl
@[simp] theorem aca:prog.bytesOf 190=8:=by kernel_rfl
@[simp] theorem ac8:aZ prog 190=some [.top]:=by kernel_rfl
@[simp] theorem wy:vT prog 190=some (193,71):=by kernel_rfl
@[simp] theorem tj:pM prog 71=some (.sl 0 [] .full):=by kernel_rfl
@[simp] theorem abr:prog.cellsOf 191=1:=by kernel_rfl
@[simp] theorem ab9:prog.bytesOf 191=8:=by kernel_rfl
@[simp] theorem ac7:aZ prog 191=some [.top]:=by kernel_rfl
@[simp] theorem wu:vT prog 191=some (3,172):=by kernel_rfl
@[simp] theorem DB:pM prog 172=some (.sl 0 [] .full):=by kernel_rfl
@[simp] theorem EZ:prog.cellsOf 193=2:=by kernel_rfl
@[simp] theorem ab8:prog.bytesOf 193=24:=by kernel_rfl
@[simp] theorem aaK:prog.stoodInHeld 193=false:=by kernel_rfl
@[simp] theorem agd:prog.eqGuardType prog.depth 193=false:=by kernel_rfl
@[simp] theorem ac6:aZ prog 193=some [.int .i64 0,.str []]:=by kernel_rfl
@[simp] theorem abq:prog.cellsOf 204=1:=by kernel_rfl
@[simp] theorem ab7:prog.bytesOf 204=8:=by kernel_rfl
@[simp] theorem ac5:aZ prog 204=some [.jr]:=by kernel_rfl
@[simp] theorem abp:prog.cellsOf 207=1:=by kernel_rfl
@[simp] theorem ab6:prog.bytesOf 207=8:=by kernel_rfl
@[simp] theorem ac4:aZ prog 207=some [.jr]:=by kernel_rfl
@[simp] theorem abo:prog.cellsOf 208=1:=by kernel_rfl
@[simp] theorem ab5:prog.bytesOf 208=8:=by kernel_rfl
@[simp] theorem ac3:aZ prog 208=some [.gn]:=by kernel_rfl
@[simp] theorem abn:prog.cellsOf 210=1:=by kernel_rfl
@[simp] theorem ab4:prog.bytesOf 210=8:=by kernel_rfl
@[simp] theorem ac2:aZ prog 210=some [.jr]:=by kernel_rfl
@[simp] theorem abm:prog.cellsOf 216=1:=by kernel_rfl
@[simp] theorem ab3:prog.bytesOf 216=8:=by kernel_rfl
@[simp] theorem ac1:aZ prog 216=some [.top]:=by kernel_rfl
@[simp] theorem BP:vT prog 216=some (3,3):=by kernel_rfl
@[simp] theorem aaI:pM prog 3=some (.int .i64 0):=by kernel_rfl
@[simp] theorem abl:prog.cellsOf 217=1:=by kernel_rfl
@[simp] theorem ab2:prog.bytesOf 217=8:=by kernel_rfl
@[simp] theorem ac0:aZ prog 217=some [.gn]:=by kernel_rfl
@[simp] theorem abk:prog.cellsOf 218=1:=by kernel_rfl
@[simp] theorem ab1:prog.bytesOf 218=8:=by kernel_rfl
@[simp] theorem acZ:aZ prog 218=some [.gn]:=by kernel_rfl
@[simp] theorem abj:prog.cellsOf 220=1:=by kernel_rfl
@[simp] theorem ab0:prog.bytesOf 220=8:=by kernel_rfl
@[simp] theorem acY:aZ prog 220=some [.jr]:=by kernel_rfl
@[simp] theorem abi:prog.cellsOf 225=1:=by kernel_rfl
@[simp] theorem abZ:prog.bytesOf 225=8:=by kernel_rfl
@[simp] theorem acX:aZ prog 225=some [.int .u64 0]:=by kernel_rfl
@[simp] theorem abh:prog.cellsOf 235=1:=by kernel_rfl
@[simp] theorem abY:prog.bytesOf 235=8:=by kernel_rfl
@[simp] theorem acW:aZ prog 235=some [.jr]:=by kernel_rfl
@[simp] theorem abg:prog.cellsOf 236=1:=by kernel_rfl
@[simp] theorem abX:prog.bytesOf 236=8:=by kernel_rfl
@[simp] theorem acV:aZ prog 236=some [.gn]:=by kernel_rfl
@[simp] theorem abf:prog.cellsOf 237=1:=by kernel_rfl
@[simp] theorem abW:prog.bytesOf 237=8:=by kernel_rfl
@[simp] theorem acU:aZ prog 237=some [.jr]:=by kernel_rfl
@[simp] theorem abe:prog.cellsOf 249=1:=by kernel_rfl
@[simp] theorem abV:prog.bytesOf 249=8:=by kernel_rfl
@[simp] theorem acT:aZ prog 249=some [.int .i64 0]:=by kernel_rfl
@[simp] theorem abd:prog.cellsOf 250=1:=by kernel_rfl
@[simp] theorem abU:prog.bytesOf 250=0:=by kernel_rfl
@[simp] theorem abb:prog.cellsOf 256=1:=by kernel_rfl
@[simp] theorem abT:prog.bytesOf 256=4:=by kernel_rfl
@[simp] theorem acS:aZ prog 256=some [.int .u32 0]:=by kernel_rfl
@[simp] theorem aa9:prog.cellsOf 258=1:=by kernel_rfl
@[simp] theorem abS:prog.bytesOf 258=8:=by kernel_rfl
@[simp] theorem acR:aZ prog 258=some [.int .u64 0]:=by kernel_rfl
@[simp] theorem aa8:prog.cellsOf 275=1:=by kernel_rfl
@[simp] theorem abR:prog.bytesOf 275=8:=by kernel_rfl
@[simp] theorem acQ:aZ prog 275=some [.int .u64 0]:=by kernel_rfl
@[simp] theorem aa7:prog.cellsOf 290=1:=by kernel_rfl
@[simp] theorem abQ:prog.bytesOf 290=8:=by kernel_rfl
@[simp] theorem acP:aZ prog 290=some [.gn]:=by kernel_rfl
@[simp] theorem aa6:prog.cellsOf 291=1:=by kernel_rfl
@[simp] theorem abP:prog.bytesOf 291=0:=by kernel_rfl
end Go.Proofs.YtoejlmpbebjemaaGreat
