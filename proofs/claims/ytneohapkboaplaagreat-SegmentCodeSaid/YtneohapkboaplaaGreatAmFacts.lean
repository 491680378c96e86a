/- Sizes and zero values of the types of this translation, as the abstract machine asks for them.
  Conditions: none. -/
import Derived.Test.YtneohapkboaplaaGreatRows
import Derived.Test.YtneohapkboaplaaGreatAmB
set_option linter.all false
namespace Go.Proofs.YtneohapkboaplaaGreat
open Go.Am
@[simp] theorem abT:Tryz.prog.cellsOf 0=1:=by kernel_rfl
@[simp] theorem abY:Tryz.prog.bytesOf 0=0:=by kernel_rfl
@[simp] theorem Jd:Tryz.prog.cellsOf 3=1:=by kernel_rfl
@[simp] theorem abX:Tryz.prog.bytesOf 3=8:=by kernel_rfl
@[simp] theorem ab3:aX Tryz.prog 3=some [.int .i64 0]:=by kernel_rfl
@[simp] theorem abS:Tryz.prog.cellsOf 4=1:=by kernel_rfl
@[simp] theorem abW:Tryz.prog.bytesOf 4=1:=by kernel_rfl
@[simp] theorem ab2:aX Tryz.prog 4=some [.bool false]:=by kernel_rfl
@[simp] theorem abR:Tryz.prog.cellsOf 5=1:=by kernel_rfl
@[simp] theorem abV:Tryz.prog.bytesOf 5=1:=by kernel_rfl
@[simp] theorem ab1:aX Tryz.prog 5=some [.int .u8 0]:=by kernel_rfl
@[simp] theorem abQ:Tryz.prog.cellsOf 9=1:=by kernel_rfl
@[simp] theorem abU:Tryz.prog.bytesOf 9=16:=by kernel_rfl
@[simp] theorem ab0:aX Tryz.prog 9=some [.str []]:=by kernel_rfl
@[simp] theorem YP:Tryz.prog.cellsOf 10=1:=by kernel_rfl
@[simp] theorem Zf:Tryz.prog.bytesOf 10=16:=by kernel_rfl
@[simp] theorem abA:aX Tryz.prog 10=some [.str []]:=by kernel_rfl
@[simp] theorem YO:Tryz.prog.cellsOf 22=1:=by kernel_rfl
@[simp] theorem Ze:Tryz.prog.bytesOf 22=24:=by kernel_rfl
@[simp] theorem abz:aX Tryz.prog 22=some [.sl 0 [] .full]:=by kernel_rfl
@[simp] theorem YN:Tryz.prog.cellsOf 25=1:=by kernel_rfl
@[simp] theorem Zd:Tryz.prog.bytesOf 25=24:=by kernel_rfl
@[simp] theorem aby:aX Tryz.prog 25=some [.sl 0 [] .full]:=by kernel_rfl
@[simp] theorem YM:Tryz.prog.cellsOf 26=1:=by kernel_rfl
@[simp] theorem Zc:Tryz.prog.bytesOf 26=24:=by kernel_rfl
@[simp] theorem abx:aX Tryz.prog 26=some [.sl 0 [] .full]:=by kernel_rfl
@[simp] theorem YL:Tryz.prog.cellsOf 27=1:=by kernel_rfl
@[simp] theorem Zb:Tryz.prog.bytesOf 27=24:=by kernel_rfl
@[simp] theorem abw:aX Tryz.prog 27=some [.sl 0 [] .full]:=by kernel_rfl
@[simp] theorem YK:Tryz.prog.cellsOf 29=3:=by kernel_rfl
@[simp] theorem Za:Tryz.prog.bytesOf 29=72:=by kernel_rfl
@[simp] theorem Yn:Tryz.prog.stoodInHeld 29=false:=by kernel_rfl
@[simp] theorem ach:Tryz.prog.eqGuardType Tryz.prog.depth 29=false:=by kernel_rfl
@[simp] theorem abv:aX Tryz.prog 29=some [.sl 0 [] .full,.sl 0 [] .full,.sl 0 [] .full]:=by kernel_rfl
@[simp] theorem YJ:Tryz.prog.cellsOf 30=1:=by kernel_rfl
@[simp] theorem Y9:Tryz.prog.bytesOf 30=8:=by kernel_rfl
@[simp] theorem abu:aX Tryz.prog 30=some [.int .i64 0]:=by kernel_rfl
@[simp] theorem YI:Tryz.prog.cellsOf 31=1:=by kernel_rfl
@[simp] theorem Y8:Tryz.prog.bytesOf 31=0:=by kernel_rfl
@[simp] theorem YH:Tryz.prog.cellsOf 33=1:=by kernel_rfl
@[simp] theorem Y7:Tryz.prog.bytesOf 33=24:=by kernel_rfl
@[simp] theorem abt:aX Tryz.prog 33=some [.sl 0 [] .full]:=by kernel_rfl
@[simp] theorem YG:Tryz.prog.cellsOf 34=1:=by kernel_rfl
@[simp] theorem Y6:Tryz.prog.bytesOf 34=24:=by kernel_rfl
@[simp] theorem abr:aX Tryz.prog 34=some [.sl 0 [] .full]:=by kernel_rfl
@[simp] theorem YF:Tryz.prog.cellsOf 36=3:=by kernel_rfl
@[simp] theorem Y5:Tryz.prog.bytesOf 36=72:=by kernel_rfl
@[simp] theorem Ym:Tryz.prog.stoodInHeld 36=false:=by kernel_rfl
@[simp] theorem acg:Tryz.prog.eqGuardType Tryz.prog.depth 36=false:=by kernel_rfl
@[simp] theorem abq:aX Tryz.prog 36=some [.sl 0 [] .full,.sl 0 [] .full,.sl 0 [] .full]:=by kernel_rfl
@[simp] theorem YE:Tryz.prog.cellsOf 37=1:=by kernel_rfl
@[simp] theorem Y4:Tryz.prog.bytesOf 37=0:=by kernel_rfl
@[simp] theorem YD:Tryz.prog.cellsOf 46=1:=by kernel_rfl
@[simp] theorem Y3:Tryz.prog.bytesOf 46=24:=by kernel_rfl
@[simp] theorem abp:aX Tryz.prog 46=some [.sl 0 [] .full]:=by kernel_rfl
@[simp] theorem YC:Tryz.prog.cellsOf 47=1:=by kernel_rfl
@[simp] theorem Y0:Tryz.prog.bytesOf 47=24:=by kernel_rfl
@[simp] theorem abo:aX Tryz.prog 47=some [.sl 0 [] .full]:=by kernel_rfl
@[simp] theorem YB:Tryz.prog.cellsOf 50=1:=by kernel_rfl
@[simp] theorem YZ:Tryz.prog.bytesOf 50=24:=by kernel_rfl
@[simp] theorem abn:aX Tryz.prog 50=some [.sl 0 [] .full]:=by kernel_rfl
@[simp] theorem YA:Tryz.prog.cellsOf 53=1:=by kernel_rfl
@[simp] theorem YY:Tryz.prog.bytesOf 53=24:=by kernel_rfl
@[simp] theorem abm:aX Tryz.prog 53=some [.sl 0 [] .full]:=by kernel_rfl
@[simp] theorem Yz:Tryz.prog.cellsOf 61=1:=by kernel_rfl
@[simp] theorem YX:Tryz.prog.bytesOf 61=24:=by kernel_rfl
@[simp] theorem abl:aX Tryz.prog 61=some [.sl 0 [] .full]:=by kernel_rfl
@[simp] theorem Yy:Tryz.prog.cellsOf 63=1:=by kernel_rfl
@[simp] theorem YW:Tryz.prog.bytesOf 63=24:=by kernel_rfl
@[simp] theorem abk:aX Tryz.prog 63=some [.sl 0 [] .full]:=by kernel_rfl
@[simp] theorem Yx:Tryz.prog.cellsOf 64=1:=by kernel_rfl
@[simp] theorem YV:Tryz.prog.bytesOf 64=24:=by kernel_rfl
@[simp] theorem abj:aX Tryz.prog 64=some [.sl 0 [] .full]:=by kernel_rfl
@[simp] theorem Yw:Tryz.prog.cellsOf 66=3:=by kernel_rfl
@[simp] theorem YU:Tryz.prog.bytesOf 66=56:=by kernel_rfl
@[simp] theorem Yl:Tryz.prog.stoodInHeld 66=false:=by kernel_rfl
@[simp] theorem acf:Tryz.prog.eqGuardType Tryz.prog.depth 66=false:=by kernel_rfl
@[simp] theorem abi:aX Tryz.prog 66=some [.int .i64 0,.sl 0 [] .full,.sl 0 [] .full]:=by kernel_rfl
@[simp] theorem Yv:Tryz.prog.cellsOf 71=2:=by kernel_rfl
@[simp] theorem YT:Tryz.prog.bytesOf 71=24:=by kernel_rfl
@[simp] theorem Yk:Tryz.prog.stoodInHeld 71=false:=by kernel_rfl
@[simp] theorem ace:Tryz.prog.eqGuardType Tryz.prog.depth 71=false:=by kernel_rfl
@[simp] theorem abh:aX Tryz.prog 71=some [.str [],.int .i64 0]:=by kernel_rfl
@[simp] theorem Yu:Tryz.prog.cellsOf 89=1:=by kernel_rfl
@[simp] theorem YS:Tryz.prog.bytesOf 89=24:=by kernel_rfl
@[simp] theorem abg:aX Tryz.prog 89=some [.sl 0 [] .full]:=by kernel_rfl
@[simp] theorem Yt:Tryz.prog.cellsOf 90=1:=by kernel_rfl
@[simp] theorem YR:Tryz.prog.bytesOf 90=0:=by kernel_rfl
@[simp] theorem Ys:Tryz.prog.cellsOf 98=2:=by kernel_rfl
@[simp] theorem YQ:Tryz.prog.bytesOf 98=32:=by kernel_rfl
@[simp] theorem Yj:Tryz.prog.stoodInHeld 98=false:=by kernel_rfl
@[simp] theorem acd:Tryz.prog.eqGuardType Tryz.prog.depth 98=false:=by kernel_rfl
@[simp] theorem abf:aX Tryz.prog 98=some [.int .i64 0,.sl 0 [] .full]:=by kernel_rfl
@[simp] theorem VA:Tryz.prog.cellsOf 100=2:=by kernel_rfl
@[simp] theorem Wv:Tryz.prog.bytesOf 100=16:=by kernel_rfl
@[simp] theorem UE:Tryz.prog.stoodInHeld 100=false:=by kernel_rfl
@[simp] theorem abP:Tryz.prog.eqGuardType Tryz.prog.depth 100=false:=by kernel_rfl
@[simp] theorem Yi:aX Tryz.prog 100=some [.int .i64 0,.int .i64 0]:=by kernel_rfl
@[simp] theorem Vz:Tryz.prog.cellsOf 102=2:=by kernel_rfl
@[simp] theorem Wu:Tryz.prog.bytesOf 102=32:=by kernel_rfl
@[simp] theorem UD:Tryz.prog.stoodInHeld 102=false:=by kernel_rfl
@[simp] theorem abO:Tryz.prog.eqGuardType Tryz.prog.depth 102=false:=by kernel_rfl
@[simp] theorem Yh:aX Tryz.prog 102=some [.int .i64 0,.sl 0 [] .full]:=by kernel_rfl
@[simp] theorem Vy:Tryz.prog.cellsOf 103=1:=by kernel_rfl
@[simp] theorem Wt:Tryz.prog.bytesOf 103=8:=by kernel_rfl
@[simp] theorem Yg:aX Tryz.prog 103=some [.gw]:=by kernel_rfl
@[simp] theorem Vx:Tryz.prog.cellsOf 106=1:=by kernel_rfl
@[simp] theorem Ws:Tryz.prog.bytesOf 106=8:=by kernel_rfl
@[simp] theorem Yf:aX Tryz.prog 106=some [.gw]:=by kernel_rfl
@[simp] theorem Vw:Tryz.prog.cellsOf 108=1:=by kernel_rfl
@[simp] theorem Wq:Tryz.prog.bytesOf 108=8:=by kernel_rfl
@[simp] theorem Ye:aX Tryz.prog 108=some [.top]:=by kernel_rfl
@[simp] theorem tI:sR Tryz.prog 108=some (111,47):=by kernel_rfl
@[simp] theorem zd:nL Tryz.prog 47=some (.sl 0 [] .full):=by kernel_rfl
@[simp] theorem Vv:Tryz.prog.cellsOf 109=1:=by kernel_rfl
@[simp] theorem Wp:Tryz.prog.bytesOf 109=8:=by kernel_rfl
@[simp] theorem Yd:aX Tryz.prog 109=some [.top]:=by kernel_rfl
@[simp] theorem tH:sR Tryz.prog 109=some (3,113):=by kernel_rfl
@[simp] theorem qq:nL Tryz.prog 113=some (.sl 0 [] .full):=by kernel_rfl
@[simp] theorem AD:Tryz.prog.cellsOf 111=2:=by kernel_rfl
@[simp] theorem Wo:Tryz.prog.bytesOf 111=24:=by kernel_rfl
@[simp] theorem UC:Tryz.prog.stoodInHeld 111=false:=by kernel_rfl
@[simp] theorem abN:Tryz.prog.eqGuardType Tryz.prog.depth 111=false:=by kernel_rfl
@[simp] theorem Yc:aX Tryz.prog 111=some [.int .i64 0,.str []]:=by kernel_rfl
@[simp] theorem uY:Tryz.prog.cellsOf 112=2:=by kernel_rfl
@[simp] theorem Wn:Tryz.prog.bytesOf 112=32:=by kernel_rfl
@[simp] theorem UB:Tryz.prog.stoodInHeld 112=false:=by kernel_rfl
@[simp] theorem abM:Tryz.prog.eqGuardType Tryz.prog.depth 112=false:=by kernel_rfl
@[simp] theorem Yb:aX Tryz.prog 112=some [.int .i64 0,.sl 0 [] .full]:=by kernel_rfl
@[simp] theorem Vu:Tryz.prog.cellsOf 113=1:=by kernel_rfl
@[simp] theorem Wm:Tryz.prog.bytesOf 113=24:=by kernel_rfl
@[simp] theorem Ya:aX Tryz.prog 113=some [.sl 0 [] .full]:=by kernel_rfl
@[simp] theorem Vt:Tryz.prog.cellsOf 115=2:=by kernel_rfl
@[simp] theorem Wl:Tryz.prog.bytesOf 115=16:=by kernel_rfl
@[simp] theorem UA:Tryz.prog.stoodInHeld 115=false:=by kernel_rfl
@[simp] theorem abL:Tryz.prog.eqGuardType Tryz.prog.depth 115=false:=by kernel_rfl
@[simp] theorem X9:aX Tryz.prog 115=some [.int .i64 0,.int .i64 0]:=by kernel_rfl
@[simp] theorem uX:Tryz.prog.cellsOf 117=3:=by kernel_rfl
@[simp] theorem Wk:Tryz.prog.bytesOf 117=48:=by kernel_rfl
@[simp] theorem Uz:Tryz.prog.stoodInHeld 117=false:=by kernel_rfl
@[simp] theorem abK:Tryz.prog.eqGuardType Tryz.prog.depth 117=false:=by kernel_rfl
@[simp] theorem X8:aX Tryz.prog 117=some [.int .i64 0,.str [],.sl 0 [] .full]:=by kernel_rfl
@[simp] theorem Vs:Tryz.prog.cellsOf 119=1:=by kernel_rfl
@[simp] theorem Wj:Tryz.prog.bytesOf 119=8:=by kernel_rfl
@[simp] theorem X7:aX Tryz.prog 119=some [.gw]:=by kernel_rfl
@[simp] theorem Vr:Tryz.prog.cellsOf 121=1:=by kernel_rfl
@[simp] theorem Wi:Tryz.prog.bytesOf 121=8:=by kernel_rfl
@[simp] theorem X6:aX Tryz.prog 121=some [.gw]:=by kernel_rfl
@[simp] theorem Vq:Tryz.prog.cellsOf 123=2:=by kernel_rfl
@[simp] theorem Wh:Tryz.prog.bytesOf 123=32:=by kernel_rfl
@[simp] theorem Uy:Tryz.prog.stoodInHeld 123=false:=by kernel_rfl
@[simp] theorem abJ:Tryz.prog.eqGuardType Tryz.prog.depth 123=false:=by kernel_rfl
@[simp] theorem X5:aX Tryz.prog 123=some [.int .i64 0,.sl 0 [] .full]:=by kernel_rfl
@[simp] theorem Vp:Tryz.prog.cellsOf 127=3:=by kernel_rfl
@[simp] theorem Wf:Tryz.prog.bytesOf 127=48:=by kernel_rfl
@[simp] theorem Ux:Tryz.prog.stoodInHeld 127=false:=by kernel_rfl
@[simp] theorem abI:Tryz.prog.eqGuardType Tryz.prog.depth 127=false:=by kernel_rfl
@[simp] theorem X4:aX Tryz.prog 127=some [.int .i64 0,.str [],.sl 0 [] .full]:=by kernel_rfl
@[simp] theorem Vo:Tryz.prog.cellsOf 128=1:=by kernel_rfl
@[simp] theorem We:Tryz.prog.bytesOf 128=24:=by kernel_rfl
@[simp] theorem X0:aX Tryz.prog 128=some [.sl 0 [] .full]:=by kernel_rfl
@[simp] theorem Vn:Tryz.prog.cellsOf 131=2:=by kernel_rfl
@[simp] theorem Wc:Tryz.prog.bytesOf 131=32:=by kernel_rfl
@[simp] theorem Uw:Tryz.prog.stoodInHeld 131=false:=by kernel_rfl
@[simp] theorem abH:Tryz.prog.eqGuardType Tryz.prog.depth 131=false:=by kernel_rfl
@[simp] theorem XZ:aX Tryz.prog 131=some [.int .i64 0,.sl 0 [] .full]:=by kernel_rfl
@[simp] theorem Vm:Tryz.prog.cellsOf 134=1:=by kernel_rfl
@[simp] theorem Wb:Tryz.prog.bytesOf 134=8:=by kernel_rfl
@[simp] theorem XY:aX Tryz.prog 134=some [.top]:=by kernel_rfl
@[simp] theorem x5:sR Tryz.prog 134=some (139,4):=by kernel_rfl
@[simp] theorem zc:nL Tryz.prog 4=some (.bool false):=by kernel_rfl
@[simp] theorem AB:Tryz.prog.cellsOf 139=3:=by kernel_rfl
@[simp] theorem Wa:Tryz.prog.bytesOf 139=24:=by kernel_rfl
@[simp] theorem Uv:Tryz.prog.stoodInHeld 139=false:=by kernel_rfl
@[simp] theorem abG:Tryz.prog.eqGuardType Tryz.prog.depth 139=false:=by kernel_rfl
@[simp] theorem XX:aX Tryz.prog 139=some [.int .i64 0,.int .i64 0,.int .i64 0]:=by kernel_rfl
@[simp] theorem Vl:Tryz.prog.cellsOf 140=1:=by kernel_rfl
@[simp] theorem V9:Tryz.prog.bytesOf 140=0:=by kernel_rfl
@[simp] theorem Vk:Tryz.prog.cellsOf 144=2:=by kernel_rfl
@[simp] theorem V8:Tryz.prog.bytesOf 144=16:=by kernel_rfl
@[simp] theorem Uu:Tryz.prog.stoodInHeld 144=false:=by kernel_rfl
@[simp] theorem abF:Tryz.prog.eqGuardType Tryz.prog.depth 144=false:=by kernel_rfl
@[simp] theorem XW:aX Tryz.prog 144=some [.int .i64 0,.int .i64 0]:=by kernel_rfl
@[simp] theorem Vj:Tryz.prog.cellsOf 160=1:=by kernel_rfl
@[simp] theorem V7:Tryz.prog.bytesOf 160=8:=by kernel_rfl
@[simp] theorem XV:aX Tryz.prog 160=some [.top]:=by kernel_rfl
@[simp] theorem Yp:sR Tryz.prog 160=some (3,3):=by kernel_rfl
@[simp] theorem Uq:nL Tryz.prog 3=some (.int .i64 0):=by kernel_rfl
@[simp] theorem Vi:Tryz.prog.cellsOf 161=1:=by kernel_rfl
@[simp] theorem V6:Tryz.prog.bytesOf 161=8:=by kernel_rfl
@[simp] theorem XU:aX Tryz.prog 161=some [.eO]:=by kernel_rfl
@[simp] theorem Vh:Tryz.prog.cellsOf 162=1:=by kernel_rfl
@[simp] theorem V5:Tryz.prog.bytesOf 162=8:=by kernel_rfl
@[simp] theorem XS:aX Tryz.prog 162=some [.eO]:=by kernel_rfl
@[simp] theorem Vg:Tryz.prog.cellsOf 164=1:=by kernel_rfl
@[simp] theorem V4:Tryz.prog.bytesOf 164=8:=by kernel_rfl
@[simp] theorem XR:aX Tryz.prog 164=some [.gw]:=by kernel_rfl
@[simp] theorem Vf:Tryz.prog.cellsOf 168=1:=by kernel_rfl
@[simp] theorem V3:Tryz.prog.bytesOf 168=8:=by kernel_rfl
@[simp] theorem XQ:aX Tryz.prog 168=some [.gw]:=by kernel_rfl
@[simp] theorem Ve:Tryz.prog.cellsOf 169=1:=by kernel_rfl
@[simp] theorem V2:Tryz.prog.bytesOf 169=8:=by kernel_rfl
@[simp] theorem XP:aX Tryz.prog 169=some [.eO]:=by kernel_rfl
@[simp] theorem Vd:Tryz.prog.cellsOf 170=1:=by kernel_rfl
@[simp] theorem V1:Tryz.prog.bytesOf 170=8:=by kernel_rfl
@[simp] theorem XO:aX Tryz.prog 170=some [.gw]:=by kernel_rfl
@[simp] theorem Vc:Tryz.prog.cellsOf 172=1:=by kernel_rfl
@[simp] theorem V0:Tryz.prog.bytesOf 172=8:=by kernel_rfl
@[simp] theorem XN:aX Tryz.prog 172=some [.gw]:=by kernel_rfl
@[simp] theorem Vb:Tryz.prog.cellsOf 173=1:=by kernel_rfl
@[simp] theorem VZ:Tryz.prog.bytesOf 173=8:=by kernel_rfl
@[simp] theorem XM:aX Tryz.prog 173=some [.gw]:=by kernel_rfl
@[simp] theorem Va:Tryz.prog.cellsOf 181=1:=by kernel_rfl
@[simp] theorem VY:Tryz.prog.bytesOf 181=8:=by kernel_rfl
@[simp] theorem XL:aX Tryz.prog 181=some [.eO]:=by kernel_rfl
@[simp] theorem U9:Tryz.prog.cellsOf 184=1:=by kernel_rfl
@[simp] theorem VX:Tryz.prog.bytesOf 184=8:=by kernel_rfl
@[simp] theorem XK:aX Tryz.prog 184=some [.gw]:=by kernel_rfl
@[simp] theorem U8:Tryz.prog.cellsOf 186=1:=by kernel_rfl
@[simp] theorem VW:Tryz.prog.bytesOf 186=0:=by kernel_rfl
@[simp] theorem U7:Tryz.prog.cellsOf 189=1:=by kernel_rfl
@[simp] theorem VV:Tryz.prog.bytesOf 189=8:=by kernel_rfl
@[simp] theorem XJ:aX Tryz.prog 189=some [.eO]:=by kernel_rfl
@[simp] theorem U6:Tryz.prog.cellsOf 191=3:=by kernel_rfl
@[simp] theorem VU:Tryz.prog.bytesOf 191=40:=by kernel_rfl
@[simp] theorem Ut:Tryz.prog.stoodInHeld 191=false:=by kernel_rfl
@[simp] theorem abE:Tryz.prog.eqGuardType Tryz.prog.depth 191=false:=by kernel_rfl
@[simp] theorem XI:aX Tryz.prog 191=some [.sl 0 [] .full,.int .i64 0,.bool false]:=by kernel_rfl
@[simp] theorem U5:Tryz.prog.cellsOf 192=1:=by kernel_rfl
@[simp] theorem VT:Tryz.prog.bytesOf 192=0:=by kernel_rfl
@[simp] theorem U4:Tryz.prog.cellsOf 200=1:=by kernel_rfl
@[simp] theorem VR:Tryz.prog.bytesOf 200=8:=by kernel_rfl
@[simp] theorem XH:aX Tryz.prog 200=some [.int .u64 0]:=by kernel_rfl
@[simp] theorem U1:Tryz.prog.cellsOf 206=1:=by kernel_rfl
@[simp] theorem VQ:Tryz.prog.bytesOf 206=8:=by kernel_rfl
@[simp] theorem XG:aX Tryz.prog 206=some [.gw]:=by kernel_rfl
@[simp] theorem UZ:Tryz.prog.cellsOf 214=1:=by kernel_rfl
@[simp] theorem VP:Tryz.prog.bytesOf 214=8:=by kernel_rfl
@[simp] theorem XF:aX Tryz.prog 214=some [.gw]:=by kernel_rfl
@[simp] theorem UY:Tryz.prog.cellsOf 215=1:=by kernel_rfl
@[simp] theorem VO:Tryz.prog.bytesOf 215=8:=by kernel_rfl
@[simp] theorem XE:aX Tryz.prog 215=some [.eO]:=by kernel_rfl
@[simp] theorem UX:Tryz.prog.cellsOf 216=1:=by kernel_rfl
@[simp] theorem VN:Tryz.prog.bytesOf 216=8:=by kernel_rfl
@[simp] theorem XD:aX Tryz.prog 216=some [.gw]:=by kernel_rfl
@[simp] theorem UW:Tryz.prog.cellsOf 217=10:=by kernel_rfl
@[simp] theorem VM:Tryz.prog.bytesOf 217=10:=by kernel_rfl
@[simp] theorem XC:aX Tryz.prog 217=some [.int .u8 0,.int .u8 0,.int .u8 0,.int .u8 0,.int .u8 0,.int .u8 0,.int .u8 0,.int .u8 0,.int .u8 0,.int .u8 0]:=by kernel_rfl
@[simp] theorem UU:Tryz.prog.cellsOf 218=1:=by kernel_rfl
@[simp] theorem VK:Tryz.prog.bytesOf 218=8:=by kernel_rfl
@[simp] theorem XB:aX Tryz.prog 218=some [.int .u64 0]:=by kernel_rfl
@[simp] theorem UT:Tryz.prog.cellsOf 223=3:=by kernel_rfl
@[simp] theorem VJ:Tryz.prog.bytesOf 223=40:=by kernel_rfl
@[simp] theorem Us:Tryz.prog.stoodInHeld 223=false:=by kernel_rfl
@[simp] theorem abD:Tryz.prog.eqGuardType Tryz.prog.depth 223=false:=by kernel_rfl
@[simp] theorem XA:aX Tryz.prog 223=some [.sl 0 [] .full,.int .i64 0,.bool false]:=by kernel_rfl
@[simp] theorem US:Tryz.prog.cellsOf 225=1:=by kernel_rfl
@[simp] theorem VI:Tryz.prog.bytesOf 225=0:=by kernel_rfl
@[simp] theorem UR:Tryz.prog.cellsOf 227=1:=by kernel_rfl
@[simp] theorem VH:Tryz.prog.bytesOf 227=0:=by kernel_rfl
@[simp] theorem UQ:Tryz.prog.cellsOf 232=1:=by kernel_rfl
@[simp] theorem VG:Tryz.prog.bytesOf 232=8:=by kernel_rfl
@[simp] theorem Xz:aX Tryz.prog 232=some [.int .i64 0]:=by kernel_rfl
@[simp] theorem UP:Tryz.prog.cellsOf 233=1:=by kernel_rfl
@[simp] theorem VF:Tryz.prog.bytesOf 233=0:=by kernel_rfl
@[simp] theorem UO:Tryz.prog.cellsOf 239=1:=by kernel_rfl
@[simp] theorem VE:Tryz.prog.bytesOf 239=4:=by kernel_rfl
@[simp] theorem Xy:aX Tryz.prog 239=some [.int .u32 0]:=by kernel_rfl
@[simp] theorem UN:Tryz.prog.cellsOf 256=1:=by kernel_rfl
@[simp] theorem VC:Tryz.prog.bytesOf 256=8:=by kernel_rfl
@[simp] theorem Xx:aX Tryz.prog 256=some [.int .u64 0]:=by kernel_rfl
@[simp] theorem UM:Tryz.prog.cellsOf 267=1:=by kernel_rfl
@[simp] theorem VB:Tryz.prog.bytesOf 267=8:=by kernel_rfl
@[simp] theorem Xw:aX Tryz.prog 267=some [.eO]:=by kernel_rfl
end Go.Proofs.YtneohapkboaplaaGreat
