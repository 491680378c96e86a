/- Sizes and zero values of the types of this translation, as the abstract machine asks for them.
  Conditions: none. -/
import Derived.Test.YtoejlmpbebjemaaGreatRows
import Derived.Test.YtoejlmpbebjemaaGreatAmB
set_option linter.all false
namespace Go.Proofs.YtoejlmpbebjemaaGreat
open Go.Proofs.Tryz(prog)
open Go.Am
@[simp] theorem afL:prog.cellsOf 0=1:=by kernel_rfl
@[simp] theorem afQ:prog.bytesOf 0=0:=by kernel_rfl
@[simp] theorem Og:prog.cellsOf 3=1:=by kernel_rfl
@[simp] theorem afP:prog.bytesOf 3=8:=by kernel_rfl
@[simp] theorem afV:bc prog 3=some [.int .i64 0]:=by kernel_rfl
@[simp] theorem afK:prog.cellsOf 4=1:=by kernel_rfl
@[simp] theorem afO:prog.bytesOf 4=1:=by kernel_rfl
@[simp] theorem afU:bc prog 4=some [.bool false]:=by kernel_rfl
@[simp] theorem afJ:prog.cellsOf 5=1:=by kernel_rfl
@[simp] theorem afN:prog.bytesOf 5=1:=by kernel_rfl
@[simp] theorem afT:bc prog 5=some [.int .u8 0]:=by kernel_rfl
@[simp] theorem Gz:prog.cellsOf 9=1:=by kernel_rfl
@[simp] theorem afM:prog.bytesOf 9=16:=by kernel_rfl
@[simp] theorem afS:bc prog 9=some [.str []]:=by kernel_rfl
@[simp] theorem ado:prog.cellsOf 22=1:=by kernel_rfl
@[simp] theorem adR:prog.bytesOf 22=24:=by kernel_rfl
@[simp] theorem afr:bc prog 22=some [.sl 0 [] .full]:=by kernel_rfl
@[simp] theorem adn:prog.cellsOf 23=1:=by kernel_rfl
@[simp] theorem adQ:prog.bytesOf 23=24:=by kernel_rfl
@[simp] theorem afq:bc prog 23=some [.sl 0 [] .full]:=by kernel_rfl
@[simp] theorem adm:prog.cellsOf 24=1:=by kernel_rfl
@[simp] theorem adP:prog.bytesOf 24=24:=by kernel_rfl
@[simp] theorem afp:bc prog 24=some [.sl 0 [] .full]:=by kernel_rfl
@[simp] theorem BL:prog.cellsOf 26=3:=by kernel_rfl
@[simp] theorem adO:prog.bytesOf 26=56:=by kernel_rfl
@[simp] theorem acS:prog.stoodInHeld 26=false:=by kernel_rfl
@[simp] theorem aga:prog.eqGuardType prog.depth 26=false:=by kernel_rfl
@[simp] theorem afo:bc prog 26=some [.int .i64 0,.sl 0 [] .full,.sl 0 [] .full]:=by kernel_rfl
@[simp] theorem adl:prog.cellsOf 29=1:=by kernel_rfl
@[simp] theorem adN:prog.bytesOf 29=8:=by kernel_rfl
@[simp] theorem afn:bc prog 29=some [.ji]:=by kernel_rfl
@[simp] theorem adk:prog.cellsOf 30=1:=by kernel_rfl
@[simp] theorem adM:prog.bytesOf 30=24:=by kernel_rfl
@[simp] theorem afm:bc prog 30=some [.sl 0 [] .full]:=by kernel_rfl
@[simp] theorem adj:prog.cellsOf 31=1:=by kernel_rfl
@[simp] theorem adL:prog.bytesOf 31=24:=by kernel_rfl
@[simp] theorem afl:bc prog 31=some [.sl 0 [] .full]:=by kernel_rfl
@[simp] theorem adi:prog.cellsOf 33=2:=by kernel_rfl
@[simp] theorem adK:prog.bytesOf 33=48:=by kernel_rfl
@[simp] theorem acR:prog.stoodInHeld 33=false:=by kernel_rfl
@[simp] theorem af9:prog.eqGuardType prog.depth 33=false:=by kernel_rfl
@[simp] theorem afk:bc prog 33=some [.sl 0 [] .full,.sl 0 [] .full]:=by kernel_rfl
@[simp] theorem adh:prog.cellsOf 35=1:=by kernel_rfl
@[simp] theorem adJ:prog.bytesOf 35=24:=by kernel_rfl
@[simp] theorem afj:bc prog 35=some [.sl 0 [] .full]:=by kernel_rfl
@[simp] theorem adg:prog.cellsOf 37=2:=by kernel_rfl
@[simp] theorem adI:prog.bytesOf 37=48:=by kernel_rfl
@[simp] theorem acQ:prog.stoodInHeld 37=false:=by kernel_rfl
@[simp] theorem af8:prog.eqGuardType prog.depth 37=false:=by kernel_rfl
@[simp] theorem afi:bc prog 37=some [.sl 0 [] .full,.sl 0 [] .full]:=by kernel_rfl
@[simp] theorem adf:prog.cellsOf 42=1:=by kernel_rfl
@[simp] theorem adH:prog.bytesOf 42=8:=by kernel_rfl
@[simp] theorem afh:bc prog 42=some [.int .i64 0]:=by kernel_rfl
@[simp] theorem ade:prog.cellsOf 43=1:=by kernel_rfl
@[simp] theorem adG:prog.bytesOf 43=0:=by kernel_rfl
@[simp] theorem adb:prog.cellsOf 45=1:=by kernel_rfl
@[simp] theorem adF:prog.bytesOf 45=0:=by kernel_rfl
@[simp] theorem ada:prog.cellsOf 47=1:=by kernel_rfl
@[simp] theorem adE:prog.bytesOf 47=0:=by kernel_rfl
@[simp] theorem ac9:prog.cellsOf 49=1:=by kernel_rfl
@[simp] theorem adD:prog.bytesOf 49=0:=by kernel_rfl
@[simp] theorem ac8:prog.cellsOf 53=1:=by kernel_rfl
@[simp] theorem adC:prog.bytesOf 53=24:=by kernel_rfl
@[simp] theorem afg:bc prog 53=some [.sl 0 [] .full]:=by kernel_rfl
@[simp] theorem ac7:prog.cellsOf 54=1:=by kernel_rfl
@[simp] theorem adB:prog.bytesOf 54=24:=by kernel_rfl
@[simp] theorem aff:bc prog 54=some [.sl 0 [] .full]:=by kernel_rfl
@[simp] theorem ac6:prog.cellsOf 55=1:=by kernel_rfl
@[simp] theorem adA:prog.bytesOf 55=24:=by kernel_rfl
@[simp] theorem afe:bc prog 55=some [.sl 0 [] .full]:=by kernel_rfl
@[simp] theorem ac5:prog.cellsOf 57=3:=by kernel_rfl
@[simp] theorem adz:prog.bytesOf 57=72:=by kernel_rfl
@[simp] theorem acP:prog.stoodInHeld 57=false:=by kernel_rfl
@[simp] theorem af7:prog.eqGuardType prog.depth 57=false:=by kernel_rfl
@[simp] theorem afd:bc prog 57=some [.sl 0 [] .full,.sl 0 [] .full,.sl 0 [] .full]:=by kernel_rfl
@[simp] theorem ac4:prog.cellsOf 64=1:=by kernel_rfl
@[simp] theorem ady:prog.bytesOf 64=24:=by kernel_rfl
@[simp] theorem afc:bc prog 64=some [.sl 0 [] .full]:=by kernel_rfl
@[simp] theorem ac3:prog.cellsOf 65=1:=by kernel_rfl
@[simp] theorem adx:prog.bytesOf 65=24:=by kernel_rfl
@[simp] theorem afb:bc prog 65=some [.sl 0 [] .full]:=by kernel_rfl
@[simp] theorem ac2:prog.cellsOf 67=3:=by kernel_rfl
@[simp] theorem adw:prog.bytesOf 67=72:=by kernel_rfl
@[simp] theorem acO:prog.stoodInHeld 67=false:=by kernel_rfl
@[simp] theorem af6:prog.eqGuardType prog.depth 67=false:=by kernel_rfl
@[simp] theorem afa:bc prog 67=some [.sl 0 [] .full,.sl 0 [] .full,.sl 0 [] .full]:=by kernel_rfl
@[simp] theorem ac1:prog.cellsOf 70=1:=by kernel_rfl
@[simp] theorem adv:prog.bytesOf 70=24:=by kernel_rfl
@[simp] theorem ae9:bc prog 70=some [.sl 0 [] .full]:=by kernel_rfl
@[simp] theorem ac0:prog.cellsOf 71=1:=by kernel_rfl
@[simp] theorem adu:prog.bytesOf 71=24:=by kernel_rfl
@[simp] theorem ae8:bc prog 71=some [.sl 0 [] .full]:=by kernel_rfl
@[simp] theorem acZ:prog.cellsOf 74=1:=by kernel_rfl
@[simp] theorem adt:prog.bytesOf 74=24:=by kernel_rfl
@[simp] theorem ae7:bc prog 74=some [.sl 0 [] .full]:=by kernel_rfl
@[simp] theorem acY:prog.cellsOf 82=4:=by kernel_rfl
@[simp] theorem ads:prog.bytesOf 82=40:=by kernel_rfl
@[simp] theorem acN:prog.stoodInHeld 82=false:=by kernel_rfl
@[simp] theorem af5:prog.eqGuardType prog.depth 82=false:=by kernel_rfl
@[simp] theorem ae6:bc prog 82=some [.int .i64 0,.str [],.int .i64 0,.int .i64 0]:=by kernel_rfl
@[simp] theorem acX:prog.cellsOf 84=1:=by kernel_rfl
@[simp] theorem adr:prog.bytesOf 84=0:=by kernel_rfl
@[simp] theorem acW:prog.cellsOf 90=1:=by kernel_rfl
@[simp] theorem adq:prog.bytesOf 90=24:=by kernel_rfl
@[simp] theorem ae5:bc prog 90=some [.sl 0 [] .full]:=by kernel_rfl
@[simp] theorem acV:prog.cellsOf 93=1:=by kernel_rfl
@[simp] theorem adp:prog.bytesOf 93=24:=by kernel_rfl
@[simp] theorem ae4:bc prog 93=some [.sl 0 [] .full]:=by kernel_rfl
@[simp] theorem aa2:prog.cellsOf 101=4:=by kernel_rfl
@[simp] theorem abP:prog.bytesOf 101=64:=by kernel_rfl
@[simp] theorem aae:prog.stoodInHeld 101=false:=by kernel_rfl
@[simp] theorem afI:prog.eqGuardType prog.depth 101=false:=by kernel_rfl
@[simp] theorem acL:bc prog 101=some [.bool false,.int .i64 0,.sl 0 [] .full,.sl 0 [] .full]:=by kernel_rfl
@[simp] theorem aa1:prog.cellsOf 115=1:=by kernel_rfl
@[simp] theorem abO:prog.bytesOf 115=24:=by kernel_rfl
@[simp] theorem acK:bc prog 115=some [.sl 0 [] .full]:=by kernel_rfl
@[simp] theorem aa0:prog.cellsOf 117=2:=by kernel_rfl
@[simp] theorem abN:prog.bytesOf 117=32:=by kernel_rfl
@[simp] theorem aad:prog.stoodInHeld 117=false:=by kernel_rfl
@[simp] theorem afH:prog.eqGuardType prog.depth 117=false:=by kernel_rfl
@[simp] theorem acJ:bc prog 117=some [.int .i64 0,.sl 0 [] .full]:=by kernel_rfl
@[simp] theorem aaZ:prog.cellsOf 124=1:=by kernel_rfl
@[simp] theorem abM:prog.bytesOf 124=0:=by kernel_rfl
@[simp] theorem aaY:prog.cellsOf 129=3:=by kernel_rfl
@[simp] theorem abL:prog.bytesOf 129=48:=by kernel_rfl
@[simp] theorem aac:prog.stoodInHeld 129=false:=by kernel_rfl
@[simp] theorem afG:prog.eqGuardType prog.depth 129=false:=by kernel_rfl
@[simp] theorem acI:bc prog 129=some [.int .i64 0,.str [],.sl 0 [] .full]:=by kernel_rfl
@[simp] theorem aaX:prog.cellsOf 130=1:=by kernel_rfl
@[simp] theorem abK:prog.bytesOf 130=24:=by kernel_rfl
@[simp] theorem acH:bc prog 130=some [.sl 0 [] .full]:=by kernel_rfl
@[simp] theorem aaW:prog.cellsOf 132=2:=by kernel_rfl
@[simp] theorem abJ:prog.bytesOf 132=32:=by kernel_rfl
@[simp] theorem Z9:prog.stoodInHeld 132=false:=by kernel_rfl
@[simp] theorem afF:prog.eqGuardType prog.depth 132=false:=by kernel_rfl
@[simp] theorem acG:bc prog 132=some [.int .i64 0,.sl 0 [] .full]:=by kernel_rfl
@[simp] theorem aaV:prog.cellsOf 136=2:=by kernel_rfl
@[simp] theorem abI:prog.bytesOf 136=24:=by kernel_rfl
@[simp] theorem Z8:prog.stoodInHeld 136=false:=by kernel_rfl
@[simp] theorem afE:prog.eqGuardType prog.depth 136=false:=by kernel_rfl
@[simp] theorem acF:bc prog 136=some [.str [],.int .i64 0]:=by kernel_rfl
@[simp] theorem xM:prog.cellsOf 140=2:=by kernel_rfl
@[simp] theorem abH:prog.bytesOf 140=32:=by kernel_rfl
@[simp] theorem Z7:prog.stoodInHeld 140=false:=by kernel_rfl
@[simp] theorem afD:prog.eqGuardType prog.depth 140=false:=by kernel_rfl
@[simp] theorem acE:bc prog 140=some [.int .i64 0,.sl 0 [] .full]:=by kernel_rfl
@[simp] theorem aaU:prog.cellsOf 147=2:=by kernel_rfl
@[simp] theorem abG:prog.bytesOf 147=32:=by kernel_rfl
@[simp] theorem Z6:prog.stoodInHeld 147=false:=by kernel_rfl
@[simp] theorem afC:prog.eqGuardType prog.depth 147=false:=by kernel_rfl
@[simp] theorem acD:bc prog 147=some [.int .i64 0,.sl 0 [] .full]:=by kernel_rfl
@[simp] theorem aaT:prog.cellsOf 152=1:=by kernel_rfl
@[simp] theorem abF:prog.bytesOf 152=8:=by kernel_rfl
@[simp] theorem acC:bc prog 152=some [.ji]:=by kernel_rfl
@[simp] theorem aaS:prog.cellsOf 158=1:=by kernel_rfl
@[simp] theorem abE:prog.bytesOf 158=8:=by kernel_rfl
@[simp] theorem acB:bc prog 158=some [.ji]:=by kernel_rfl
@[simp] theorem aaR:prog.cellsOf 162=2:=by kernel_rfl
@[simp] theorem abD:prog.bytesOf 162=16:=by kernel_rfl
@[simp] theorem Z5:prog.stoodInHeld 162=false:=by kernel_rfl
@[simp] theorem afB:prog.eqGuardType prog.depth 162=false:=by kernel_rfl
@[simp] theorem acA:bc prog 162=some [.int .i64 0,.int .i64 0]:=by kernel_rfl
@[simp] theorem aaQ:prog.cellsOf 165=2:=by kernel_rfl
@[simp] theorem abC:prog.bytesOf 165=16:=by kernel_rfl
@[simp] theorem Z4:prog.stoodInHeld 165=false:=by kernel_rfl
@[simp] theorem afA:prog.eqGuardType prog.depth 165=false:=by kernel_rfl
@[simp] theorem acz:bc prog 165=some [.int .i64 0,.int .i64 0]:=by kernel_rfl
@[simp] theorem xL:prog.cellsOf 171=3:=by kernel_rfl
@[simp] theorem abB:prog.bytesOf 171=48:=by kernel_rfl
@[simp] theorem Z3:prog.stoodInHeld 171=false:=by kernel_rfl
@[simp] theorem afz:prog.eqGuardType prog.depth 171=false:=by kernel_rfl
@[simp] theorem acy:bc prog 171=some [.int .i64 0,.str [],.sl 0 [] .full]:=by kernel_rfl
@[simp] theorem aaP:prog.cellsOf 172=1:=by kernel_rfl
@[simp] theorem abA:prog.bytesOf 172=24:=by kernel_rfl
@[simp] theorem acx:bc prog 172=some [.sl 0 [] .full]:=by kernel_rfl
@[simp] theorem aaO:prog.cellsOf 174=2:=by kernel_rfl
@[simp] theorem abz:prog.bytesOf 174=32:=by kernel_rfl
@[simp] theorem Z2:prog.stoodInHeld 174=false:=by kernel_rfl
@[simp] theorem afy:prog.eqGuardType prog.depth 174=false:=by kernel_rfl
@[simp] theorem acw:bc prog 174=some [.int .i64 0,.sl 0 [] .full]:=by kernel_rfl
@[simp] theorem aaN:prog.cellsOf 175=2:=by kernel_rfl
@[simp] theorem aby:prog.bytesOf 175=16:=by kernel_rfl
@[simp] theorem Z1:prog.stoodInHeld 175=false:=by kernel_rfl
@[simp] theorem afx:prog.eqGuardType prog.depth 175=false:=by kernel_rfl
@[simp] theorem acv:bc prog 175=some [.int .i64 0,.int .i64 0]:=by kernel_rfl
@[simp] theorem aaM:prog.cellsOf 176=1:=by kernel_rfl
@[simp] theorem abx:prog.bytesOf 176=8:=by kernel_rfl
@[simp] theorem acu:bc prog 176=some [.top]:=by kernel_rfl
@[simp] theorem Bw:vK prog 176=some (179,4):=by kernel_rfl
@[simp] theorem C9:pF prog 4=some (.bool false):=by kernel_rfl
@[simp] theorem aaL:prog.cellsOf 177=1:=by kernel_rfl
@[simp] theorem abw:prog.bytesOf 177=8:=by kernel_rfl
@[simp] theorem acs:bc prog 177=some [.ji]:=by kernel_rfl
@[simp] theorem Ey:prog.cellsOf 179=3:=by kernel_rfl
@[simp] theorem abv:prog.bytesOf 179=24:=by kernel_rfl
@[simp] theorem Z0:prog.stoodInHeld 179=false:=by kernel_rfl
@[simp] theorem afw:prog.eqGuardType prog.depth 179=false:=by kernel_rfl
@[simp] theorem acr:bc prog 179=some [.int .i64 0,.int .i64 0,.int .i64 0]:=by kernel_rfl
@[simp] theorem aaK:prog.cellsOf 180=1:=by kernel_rfl
@[simp] theorem abu:prog.bytesOf 180=0:=by kernel_rfl
@[simp] theorem aaJ:prog.cellsOf 182=1:=by kernel_rfl
@[simp] theorem abt:prog.bytesOf 182=8:=by kernel_rfl
@[simp] theorem acq:bc prog 182=some [.ji]:=by kernel_rfl
@[simp] theorem aaI:prog.cellsOf 185=1:=by kernel_rfl
@[simp] theorem abr:prog.bytesOf 185=8:=by kernel_rfl
@[simp] theorem acp:bc prog 185=some [.ji]:=by kernel_rfl
@[simp] theorem aaH:prog.cellsOf 190=1:=by kernel_rfl
@[simp] theorem abq:prog.bytesOf 190=8:=by kernel_rfl
@[simp] theorem aco:bc prog 190=some [.top]:=by kernel_rfl
@[simp] theorem wb:vK prog 190=some (193,71):=by kernel_rfl
@[simp] theorem sR:pF prog 71=some (.sl 0 [] .full):=by kernel_rfl
@[simp] theorem aaG:prog.cellsOf 191=1:=by kernel_rfl
@[simp] theorem abp:prog.bytesOf 191=8:=by kernel_rfl
@[simp] theorem acn:bc prog 191=some [.top]:=by kernel_rfl
@[simp] theorem wa:vK prog 191=some (3,172):=by kernel_rfl
@[simp] theorem C8:pF prog 172=some (.sl 0 [] .full):=by kernel_rfl
@[simp] theorem Ex:prog.cellsOf 193=2:=by kernel_rfl
@[simp] theorem abo:prog.bytesOf 193=24:=by kernel_rfl
@[simp] theorem ZZ:prog.stoodInHeld 193=false:=by kernel_rfl
@[simp] theorem afv:prog.eqGuardType prog.depth 193=false:=by kernel_rfl
@[simp] theorem acm:bc prog 193=some [.int .i64 0,.str []]:=by kernel_rfl
@[simp] theorem aaF:prog.cellsOf 204=1:=by kernel_rfl
@[simp] theorem abn:prog.bytesOf 204=8:=by kernel_rfl
@[simp] theorem ack:bc prog 204=some [.ji]:=by kernel_rfl
@[simp] theorem aaE:prog.cellsOf 207=1:=by kernel_rfl
@[simp] theorem abm:prog.bytesOf 207=8:=by kernel_rfl
@[simp] theorem acj:bc prog 207=some [.ji]:=by kernel_rfl
@[simp] theorem aaD:prog.cellsOf 208=1:=by kernel_rfl
@[simp] theorem abl:prog.bytesOf 208=8:=by kernel_rfl
@[simp] theorem aci:bc prog 208=some [.fV]:=by kernel_rfl
@[simp] theorem aaC:prog.cellsOf 210=1:=by kernel_rfl
@[simp] theorem abk:prog.bytesOf 210=8:=by kernel_rfl
@[simp] theorem ach:bc prog 210=some [.ji]:=by kernel_rfl
@[simp] theorem aaB:prog.cellsOf 216=1:=by kernel_rfl
@[simp] theorem abj:prog.bytesOf 216=8:=by kernel_rfl
@[simp] theorem acg:bc prog 216=some [.top]:=by kernel_rfl
@[simp] theorem Bv:vK prog 216=some (3,3):=by kernel_rfl
@[simp] theorem ZX:pF prog 3=some (.int .i64 0):=by kernel_rfl
@[simp] theorem aaA:prog.cellsOf 217=1:=by kernel_rfl
@[simp] theorem abi:prog.bytesOf 217=8:=by kernel_rfl
@[simp] theorem acf:bc prog 217=some [.fV]:=by kernel_rfl
@[simp] theorem aaz:prog.cellsOf 218=1:=by kernel_rfl
@[simp] theorem abh:prog.bytesOf 218=8:=by kernel_rfl
@[simp] theorem ace:bc prog 218=some [.fV]:=by kernel_rfl
@[simp] theorem aay:prog.cellsOf 220=1:=by kernel_rfl
@[simp] theorem abg:prog.bytesOf 220=8:=by kernel_rfl
@[simp] theorem acd:bc prog 220=some [.ji]:=by kernel_rfl
@[simp] theorem aax:prog.cellsOf 225=1:=by kernel_rfl
@[simp] theorem abf:prog.bytesOf 225=8:=by kernel_rfl
@[simp] theorem acb:bc prog 225=some [.int .u64 0]:=by kernel_rfl
@[simp] theorem aaw:prog.cellsOf 235=1:=by kernel_rfl
@[simp] theorem abe:prog.bytesOf 235=8:=by kernel_rfl
@[simp] theorem aca:bc prog 235=some [.ji]:=by kernel_rfl
@[simp] theorem aav:prog.cellsOf 236=1:=by kernel_rfl
@[simp] theorem abd:prog.bytesOf 236=8:=by kernel_rfl
@[simp] theorem ab9:bc prog 236=some [.fV]:=by kernel_rfl
@[simp] theorem aau:prog.cellsOf 237=1:=by kernel_rfl
@[simp] theorem abb:prog.bytesOf 237=8:=by kernel_rfl
@[simp] theorem ab8:bc prog 237=some [.ji]:=by kernel_rfl
@[simp] theorem aat:prog.cellsOf 249=1:=by kernel_rfl
@[simp] theorem aa9:prog.bytesOf 249=8:=by kernel_rfl
@[simp] theorem ab7:bc prog 249=some [.int .i64 0]:=by kernel_rfl
@[simp] theorem aas:prog.cellsOf 250=1:=by kernel_rfl
@[simp] theorem aa8:prog.bytesOf 250=0:=by kernel_rfl
@[simp] theorem aar:prog.cellsOf 256=1:=by kernel_rfl
@[simp] theorem aa7:prog.bytesOf 256=4:=by kernel_rfl
@[simp] theorem ab6:bc prog 256=some [.int .u32 0]:=by kernel_rfl
@[simp] theorem aaq:prog.cellsOf 258=1:=by kernel_rfl
@[simp] theorem aa6:prog.bytesOf 258=8:=by kernel_rfl
@[simp] theorem ab5:bc prog 258=some [.int .u64 0]:=by kernel_rfl
@[simp] theorem aap:prog.cellsOf 275=1:=by kernel_rfl
@[simp] theorem aa5:prog.bytesOf 275=8:=by kernel_rfl
@[simp] theorem ab4:bc prog 275=some [.int .u64 0]:=by kernel_rfl
@[simp] theorem aao:prog.cellsOf 290=1:=by kernel_rfl
@[simp] theorem aa4:prog.bytesOf 290=8:=by kernel_rfl
@[simp] theorem ab3:bc prog 290=some [.fV]:=by kernel_rfl
@[simp] theorem aan:prog.cellsOf 291=1:=by kernel_rfl
@[simp] theorem aa3:prog.bytesOf 291=0:=by kernel_rfl
end Go.Proofs.YtoejlmpbebjemaaGreat
