/- Sizes and zero values of the types of this translation, as the abstract machine asks for them.
  Conditions: none. -/
import Derived.Test.YtneohapkboaplaaGreatRows
import Derived.Test.YtneohapkboaplaaGreatAmB
set_option linter.all false
namespace Go.Proofs.YtneohapkboaplaaGreat
open Go.Am
@[simp] theorem abK:Tryz.prog.cellsOf 0=1:=by kernel_rfl
@[simp] theorem abP:Tryz.prog.bytesOf 0=0:=by kernel_rfl
@[simp] theorem Kd:Tryz.prog.cellsOf 3=1:=by kernel_rfl
@[simp] theorem abO:Tryz.prog.bytesOf 3=8:=by kernel_rfl
@[simp] theorem abU:br Tryz.prog 3=some [.int .i64 0]:=by kernel_rfl
@[simp] theorem abJ:Tryz.prog.cellsOf 4=1:=by kernel_rfl
@[simp] theorem abN:Tryz.prog.bytesOf 4=1:=by kernel_rfl
@[simp] theorem abT:br Tryz.prog 4=some [.bool false]:=by kernel_rfl
@[simp] theorem abI:Tryz.prog.cellsOf 5=1:=by kernel_rfl
@[simp] theorem abM:Tryz.prog.bytesOf 5=1:=by kernel_rfl
@[simp] theorem abS:br Tryz.prog 5=some [.int .u8 0]:=by kernel_rfl
@[simp] theorem abH:Tryz.prog.cellsOf 9=1:=by kernel_rfl
@[simp] theorem abL:Tryz.prog.bytesOf 9=16:=by kernel_rfl
@[simp] theorem abR:br Tryz.prog 9=some [.str []]:=by kernel_rfl
@[simp] theorem Yv:Tryz.prog.cellsOf 22=1:=by kernel_rfl
@[simp] theorem YQ:Tryz.prog.bytesOf 22=24:=by kernel_rfl
@[simp] theorem abt:br Tryz.prog 22=some [.sl 0 [] .full]:=by kernel_rfl
@[simp] theorem Yu:Tryz.prog.cellsOf 25=1:=by kernel_rfl
@[simp] theorem YP:Tryz.prog.bytesOf 25=24:=by kernel_rfl
@[simp] theorem abr:br Tryz.prog 25=some [.sl 0 [] .full]:=by kernel_rfl
@[simp] theorem Yt:Tryz.prog.cellsOf 26=1:=by kernel_rfl
@[simp] theorem YO:Tryz.prog.bytesOf 26=24:=by kernel_rfl
@[simp] theorem abq:br Tryz.prog 26=some [.sl 0 [] .full]:=by kernel_rfl
@[simp] theorem Ys:Tryz.prog.cellsOf 27=1:=by kernel_rfl
@[simp] theorem YN:Tryz.prog.bytesOf 27=24:=by kernel_rfl
@[simp] theorem abp:br Tryz.prog 27=some [.sl 0 [] .full]:=by kernel_rfl
@[simp] theorem Yr:Tryz.prog.cellsOf 29=3:=by kernel_rfl
@[simp] theorem YM:Tryz.prog.bytesOf 29=72:=by kernel_rfl
@[simp] theorem X8:Tryz.prog.stoodInHeld 29=false:=by kernel_rfl
@[simp] theorem ab5:Tryz.prog.eqGuardType Tryz.prog.depth 29=false:=by kernel_rfl
@[simp] theorem abo:br Tryz.prog 29=some [.sl 0 [] .full,.sl 0 [] .full,.sl 0 [] .full]:=by kernel_rfl
@[simp] theorem Yq:Tryz.prog.cellsOf 30=1:=by kernel_rfl
@[simp] theorem YL:Tryz.prog.bytesOf 30=8:=by kernel_rfl
@[simp] theorem abn:br Tryz.prog 30=some [.int .i64 0]:=by kernel_rfl
@[simp] theorem Yp:Tryz.prog.cellsOf 31=1:=by kernel_rfl
@[simp] theorem YK:Tryz.prog.bytesOf 31=0:=by kernel_rfl
@[simp] theorem Yo:Tryz.prog.cellsOf 33=1:=by kernel_rfl
@[simp] theorem YJ:Tryz.prog.bytesOf 33=24:=by kernel_rfl
@[simp] theorem abm:br Tryz.prog 33=some [.sl 0 [] .full]:=by kernel_rfl
@[simp] theorem Yn:Tryz.prog.cellsOf 34=1:=by kernel_rfl
@[simp] theorem YI:Tryz.prog.bytesOf 34=24:=by kernel_rfl
@[simp] theorem abl:br Tryz.prog 34=some [.sl 0 [] .full]:=by kernel_rfl
@[simp] theorem Ym:Tryz.prog.cellsOf 36=3:=by kernel_rfl
@[simp] theorem YH:Tryz.prog.bytesOf 36=72:=by kernel_rfl
@[simp] theorem X7:Tryz.prog.stoodInHeld 36=false:=by kernel_rfl
@[simp] theorem ab4:Tryz.prog.eqGuardType Tryz.prog.depth 36=false:=by kernel_rfl
@[simp] theorem abk:br Tryz.prog 36=some [.sl 0 [] .full,.sl 0 [] .full,.sl 0 [] .full]:=by kernel_rfl
@[simp] theorem Yl:Tryz.prog.cellsOf 37=1:=by kernel_rfl
@[simp] theorem YG:Tryz.prog.bytesOf 37=0:=by kernel_rfl
@[simp] theorem Yk:Tryz.prog.cellsOf 46=1:=by kernel_rfl
@[simp] theorem YF:Tryz.prog.bytesOf 46=24:=by kernel_rfl
@[simp] theorem abj:br Tryz.prog 46=some [.sl 0 [] .full]:=by kernel_rfl
@[simp] theorem Yj:Tryz.prog.cellsOf 47=1:=by kernel_rfl
@[simp] theorem YE:Tryz.prog.bytesOf 47=24:=by kernel_rfl
@[simp] theorem abi:br Tryz.prog 47=some [.sl 0 [] .full]:=by kernel_rfl
@[simp] theorem Yi:Tryz.prog.cellsOf 50=1:=by kernel_rfl
@[simp] theorem YD:Tryz.prog.bytesOf 50=24:=by kernel_rfl
@[simp] theorem abh:br Tryz.prog 50=some [.sl 0 [] .full]:=by kernel_rfl
@[simp] theorem Yh:Tryz.prog.cellsOf 53=1:=by kernel_rfl
@[simp] theorem YC:Tryz.prog.bytesOf 53=24:=by kernel_rfl
@[simp] theorem abg:br Tryz.prog 53=some [.sl 0 [] .full]:=by kernel_rfl
@[simp] theorem Yg:Tryz.prog.cellsOf 61=1:=by kernel_rfl
@[simp] theorem YB:Tryz.prog.bytesOf 61=24:=by kernel_rfl
@[simp] theorem abf:br Tryz.prog 61=some [.sl 0 [] .full]:=by kernel_rfl
@[simp] theorem Yf:Tryz.prog.cellsOf 63=1:=by kernel_rfl
@[simp] theorem YA:Tryz.prog.bytesOf 63=24:=by kernel_rfl
@[simp] theorem abe:br Tryz.prog 63=some [.sl 0 [] .full]:=by kernel_rfl
@[simp] theorem Ye:Tryz.prog.cellsOf 64=1:=by kernel_rfl
@[simp] theorem Yz:Tryz.prog.bytesOf 64=24:=by kernel_rfl
@[simp] theorem abd:br Tryz.prog 64=some [.sl 0 [] .full]:=by kernel_rfl
@[simp] theorem Yd:Tryz.prog.cellsOf 66=3:=by kernel_rfl
@[simp] theorem Yy:Tryz.prog.bytesOf 66=56:=by kernel_rfl
@[simp] theorem X6:Tryz.prog.stoodInHeld 66=false:=by kernel_rfl
@[simp] theorem ab3:Tryz.prog.eqGuardType Tryz.prog.depth 66=false:=by kernel_rfl
@[simp] theorem abb:br Tryz.prog 66=some [.int .i64 0,.sl 0 [] .full,.sl 0 [] .full]:=by kernel_rfl
@[simp] theorem Yc:Tryz.prog.cellsOf 71=2:=by kernel_rfl
@[simp] theorem Yx:Tryz.prog.bytesOf 71=24:=by kernel_rfl
@[simp] theorem X5:Tryz.prog.stoodInHeld 71=false:=by kernel_rfl
@[simp] theorem ab2:Tryz.prog.eqGuardType Tryz.prog.depth 71=false:=by kernel_rfl
@[simp] theorem aa9:br Tryz.prog 71=some [.str [],.int .i64 0]:=by kernel_rfl
@[simp] theorem Yb:Tryz.prog.cellsOf 98=2:=by kernel_rfl
@[simp] theorem Yw:Tryz.prog.bytesOf 98=32:=by kernel_rfl
@[simp] theorem X4:Tryz.prog.stoodInHeld 98=false:=by kernel_rfl
@[simp] theorem ab1:Tryz.prog.eqGuardType Tryz.prog.depth 98=false:=by kernel_rfl
@[simp] theorem aa8:br Tryz.prog 98=some [.int .i64 0,.sl 0 [] .full]:=by kernel_rfl
@[simp] theorem VR:Tryz.prog.cellsOf 100=2:=by kernel_rfl
@[simp] theorem WB:Tryz.prog.bytesOf 100=16:=by kernel_rfl
@[simp] theorem U6:Tryz.prog.stoodInHeld 100=false:=by kernel_rfl
@[simp] theorem abG:Tryz.prog.eqGuardType Tryz.prog.depth 100=false:=by kernel_rfl
@[simp] theorem X2:br Tryz.prog 100=some [.int .i64 0,.int .i64 0]:=by kernel_rfl
@[simp] theorem VQ:Tryz.prog.cellsOf 102=2:=by kernel_rfl
@[simp] theorem WA:Tryz.prog.bytesOf 102=32:=by kernel_rfl
@[simp] theorem U5:Tryz.prog.stoodInHeld 102=false:=by kernel_rfl
@[simp] theorem abF:Tryz.prog.eqGuardType Tryz.prog.depth 102=false:=by kernel_rfl
@[simp] theorem X1:br Tryz.prog 102=some [.int .i64 0,.sl 0 [] .full]:=by kernel_rfl
@[simp] theorem VP:Tryz.prog.cellsOf 103=1:=by kernel_rfl
@[simp] theorem Wy:Tryz.prog.bytesOf 103=8:=by kernel_rfl
@[simp] theorem X0:br Tryz.prog 103=some [.hZ]:=by kernel_rfl
@[simp] theorem VO:Tryz.prog.cellsOf 106=1:=by kernel_rfl
@[simp] theorem Wx:Tryz.prog.bytesOf 106=8:=by kernel_rfl
@[simp] theorem XZ:br Tryz.prog 106=some [.hZ]:=by kernel_rfl
@[simp] theorem VN:Tryz.prog.cellsOf 108=1:=by kernel_rfl
@[simp] theorem Ww:Tryz.prog.bytesOf 108=8:=by kernel_rfl
@[simp] theorem XY:br Tryz.prog 108=some [.top]:=by kernel_rfl
@[simp] theorem tR:tq Tryz.prog 108=some (111,47):=by kernel_rfl
@[simp] theorem Ag:n9 Tryz.prog 47=some (.sl 0 [] .full):=by kernel_rfl
@[simp] theorem VM:Tryz.prog.cellsOf 109=1:=by kernel_rfl
@[simp] theorem Wv:Tryz.prog.bytesOf 109=8:=by kernel_rfl
@[simp] theorem XX:br Tryz.prog 109=some [.top]:=by kernel_rfl
@[simp] theorem tQ:tq Tryz.prog 109=some (3,113):=by kernel_rfl
@[simp] theorem qR:n9 Tryz.prog 113=some (.sl 0 [] .full):=by kernel_rfl
@[simp] theorem Bp:Tryz.prog.cellsOf 111=2:=by kernel_rfl
@[simp] theorem Wu:Tryz.prog.bytesOf 111=24:=by kernel_rfl
@[simp] theorem U4:Tryz.prog.stoodInHeld 111=false:=by kernel_rfl
@[simp] theorem abE:Tryz.prog.eqGuardType Tryz.prog.depth 111=false:=by kernel_rfl
@[simp] theorem XW:br Tryz.prog 111=some [.int .i64 0,.str []]:=by kernel_rfl
@[simp] theorem vh:Tryz.prog.cellsOf 112=2:=by kernel_rfl
@[simp] theorem Wt:Tryz.prog.bytesOf 112=32:=by kernel_rfl
@[simp] theorem UZ:Tryz.prog.stoodInHeld 112=false:=by kernel_rfl
@[simp] theorem abD:Tryz.prog.eqGuardType Tryz.prog.depth 112=false:=by kernel_rfl
@[simp] theorem XV:br Tryz.prog 112=some [.int .i64 0,.sl 0 [] .full]:=by kernel_rfl
@[simp] theorem VK:Tryz.prog.cellsOf 113=1:=by kernel_rfl
@[simp] theorem Ws:Tryz.prog.bytesOf 113=24:=by kernel_rfl
@[simp] theorem XU:br Tryz.prog 113=some [.sl 0 [] .full]:=by kernel_rfl
@[simp] theorem VJ:Tryz.prog.cellsOf 115=2:=by kernel_rfl
@[simp] theorem Wq:Tryz.prog.bytesOf 115=16:=by kernel_rfl
@[simp] theorem UY:Tryz.prog.stoodInHeld 115=false:=by kernel_rfl
@[simp] theorem abC:Tryz.prog.eqGuardType Tryz.prog.depth 115=false:=by kernel_rfl
@[simp] theorem XT:br Tryz.prog 115=some [.int .i64 0,.int .i64 0]:=by kernel_rfl
@[simp] theorem vg:Tryz.prog.cellsOf 117=3:=by kernel_rfl
@[simp] theorem Wp:Tryz.prog.bytesOf 117=48:=by kernel_rfl
@[simp] theorem UX:Tryz.prog.stoodInHeld 117=false:=by kernel_rfl
@[simp] theorem abB:Tryz.prog.eqGuardType Tryz.prog.depth 117=false:=by kernel_rfl
@[simp] theorem XS:br Tryz.prog 117=some [.int .i64 0,.str [],.sl 0 [] .full]:=by kernel_rfl
@[simp] theorem VI:Tryz.prog.cellsOf 119=1:=by kernel_rfl
@[simp] theorem Wo:Tryz.prog.bytesOf 119=8:=by kernel_rfl
@[simp] theorem XR:br Tryz.prog 119=some [.hZ]:=by kernel_rfl
@[simp] theorem VH:Tryz.prog.cellsOf 121=1:=by kernel_rfl
@[simp] theorem Wn:Tryz.prog.bytesOf 121=8:=by kernel_rfl
@[simp] theorem XQ:br Tryz.prog 121=some [.hZ]:=by kernel_rfl
@[simp] theorem VG:Tryz.prog.cellsOf 123=2:=by kernel_rfl
@[simp] theorem Wm:Tryz.prog.bytesOf 123=32:=by kernel_rfl
@[simp] theorem UW:Tryz.prog.stoodInHeld 123=false:=by kernel_rfl
@[simp] theorem abA:Tryz.prog.eqGuardType Tryz.prog.depth 123=false:=by kernel_rfl
@[simp] theorem XP:br Tryz.prog 123=some [.int .i64 0,.sl 0 [] .full]:=by kernel_rfl
@[simp] theorem VF:Tryz.prog.cellsOf 127=3:=by kernel_rfl
@[simp] theorem Wl:Tryz.prog.bytesOf 127=48:=by kernel_rfl
@[simp] theorem UU:Tryz.prog.stoodInHeld 127=false:=by kernel_rfl
@[simp] theorem abz:Tryz.prog.eqGuardType Tryz.prog.depth 127=false:=by kernel_rfl
@[simp] theorem XO:br Tryz.prog 127=some [.int .i64 0,.str [],.sl 0 [] .full]:=by kernel_rfl
@[simp] theorem VE:Tryz.prog.cellsOf 128=1:=by kernel_rfl
@[simp] theorem Wk:Tryz.prog.bytesOf 128=24:=by kernel_rfl
@[simp] theorem XN:br Tryz.prog 128=some [.sl 0 [] .full]:=by kernel_rfl
@[simp] theorem VB:Tryz.prog.cellsOf 131=2:=by kernel_rfl
@[simp] theorem Wj:Tryz.prog.bytesOf 131=32:=by kernel_rfl
@[simp] theorem UT:Tryz.prog.stoodInHeld 131=false:=by kernel_rfl
@[simp] theorem aby:Tryz.prog.eqGuardType Tryz.prog.depth 131=false:=by kernel_rfl
@[simp] theorem XM:br Tryz.prog 131=some [.int .i64 0,.sl 0 [] .full]:=by kernel_rfl
@[simp] theorem VA:Tryz.prog.cellsOf 134=1:=by kernel_rfl
@[simp] theorem Wi:Tryz.prog.bytesOf 134=8:=by kernel_rfl
@[simp] theorem XL:br Tryz.prog 134=some [.top]:=by kernel_rfl
@[simp] theorem yU:tq Tryz.prog 134=some (139,4):=by kernel_rfl
@[simp] theorem Af:n9 Tryz.prog 4=some (.bool false):=by kernel_rfl
@[simp] theorem Bo:Tryz.prog.cellsOf 139=3:=by kernel_rfl
@[simp] theorem Wh:Tryz.prog.bytesOf 139=24:=by kernel_rfl
@[simp] theorem US:Tryz.prog.stoodInHeld 139=false:=by kernel_rfl
@[simp] theorem abx:Tryz.prog.eqGuardType Tryz.prog.depth 139=false:=by kernel_rfl
@[simp] theorem XK:br Tryz.prog 139=some [.int .i64 0,.int .i64 0,.int .i64 0]:=by kernel_rfl
@[simp] theorem Vz:Tryz.prog.cellsOf 140=1:=by kernel_rfl
@[simp] theorem Wf:Tryz.prog.bytesOf 140=0:=by kernel_rfl
@[simp] theorem Vy:Tryz.prog.cellsOf 144=2:=by kernel_rfl
@[simp] theorem We:Tryz.prog.bytesOf 144=16:=by kernel_rfl
@[simp] theorem UR:Tryz.prog.stoodInHeld 144=false:=by kernel_rfl
@[simp] theorem abw:Tryz.prog.eqGuardType Tryz.prog.depth 144=false:=by kernel_rfl
@[simp] theorem XJ:br Tryz.prog 144=some [.int .i64 0,.int .i64 0]:=by kernel_rfl
@[simp] theorem Vx:Tryz.prog.cellsOf 160=1:=by kernel_rfl
@[simp] theorem Wc:Tryz.prog.bytesOf 160=8:=by kernel_rfl
@[simp] theorem XI:br Tryz.prog 160=some [.top]:=by kernel_rfl
@[simp] theorem yT:tq Tryz.prog 160=some (3,3):=by kernel_rfl
@[simp] theorem UP:n9 Tryz.prog 3=some (.int .i64 0):=by kernel_rfl
@[simp] theorem Vw:Tryz.prog.cellsOf 161=1:=by kernel_rfl
@[simp] theorem Wb:Tryz.prog.bytesOf 161=8:=by kernel_rfl
@[simp] theorem XH:br Tryz.prog 161=some [.fc]:=by kernel_rfl
@[simp] theorem Vv:Tryz.prog.cellsOf 162=1:=by kernel_rfl
@[simp] theorem Wa:Tryz.prog.bytesOf 162=8:=by kernel_rfl
@[simp] theorem XG:br Tryz.prog 162=some [.fc]:=by kernel_rfl
@[simp] theorem Vu:Tryz.prog.cellsOf 164=1:=by kernel_rfl
@[simp] theorem V9:Tryz.prog.bytesOf 164=8:=by kernel_rfl
@[simp] theorem XF:br Tryz.prog 164=some [.hZ]:=by kernel_rfl
@[simp] theorem Vt:Tryz.prog.cellsOf 168=1:=by kernel_rfl
@[simp] theorem V8:Tryz.prog.bytesOf 168=8:=by kernel_rfl
@[simp] theorem XE:br Tryz.prog 168=some [.hZ]:=by kernel_rfl
@[simp] theorem Vs:Tryz.prog.cellsOf 169=1:=by kernel_rfl
@[simp] theorem V7:Tryz.prog.bytesOf 169=8:=by kernel_rfl
@[simp] theorem XD:br Tryz.prog 169=some [.fc]:=by kernel_rfl
@[simp] theorem Vr:Tryz.prog.cellsOf 170=1:=by kernel_rfl
@[simp] theorem V6:Tryz.prog.bytesOf 170=8:=by kernel_rfl
@[simp] theorem XC:br Tryz.prog 170=some [.hZ]:=by kernel_rfl
@[simp] theorem Vq:Tryz.prog.cellsOf 172=1:=by kernel_rfl
@[simp] theorem V5:Tryz.prog.bytesOf 172=8:=by kernel_rfl
@[simp] theorem XB:br Tryz.prog 172=some [.hZ]:=by kernel_rfl
@[simp] theorem Vp:Tryz.prog.cellsOf 200=1:=by kernel_rfl
@[simp] theorem V4:Tryz.prog.bytesOf 200=8:=by kernel_rfl
@[simp] theorem XA:br Tryz.prog 200=some [.int .u64 0]:=by kernel_rfl
@[simp] theorem Vo:Tryz.prog.cellsOf 206=1:=by kernel_rfl
@[simp] theorem V3:Tryz.prog.bytesOf 206=8:=by kernel_rfl
@[simp] theorem Xz:br Tryz.prog 206=some [.hZ]:=by kernel_rfl
@[simp] theorem Vn:Tryz.prog.cellsOf 214=1:=by kernel_rfl
@[simp] theorem V2:Tryz.prog.bytesOf 214=8:=by kernel_rfl
@[simp] theorem Xy:br Tryz.prog 214=some [.hZ]:=by kernel_rfl
@[simp] theorem Vm:Tryz.prog.cellsOf 215=1:=by kernel_rfl
@[simp] theorem V1:Tryz.prog.bytesOf 215=8:=by kernel_rfl
@[simp] theorem Xx:br Tryz.prog 215=some [.fc]:=by kernel_rfl
@[simp] theorem Vl:Tryz.prog.cellsOf 216=1:=by kernel_rfl
@[simp] theorem V0:Tryz.prog.bytesOf 216=8:=by kernel_rfl
@[simp] theorem Xw:br Tryz.prog 216=some [.hZ]:=by kernel_rfl
@[simp] theorem Vk:Tryz.prog.cellsOf 218=1:=by kernel_rfl
@[simp] theorem VZ:Tryz.prog.bytesOf 218=8:=by kernel_rfl
@[simp] theorem Xv:br Tryz.prog 218=some [.int .u64 0]:=by kernel_rfl
@[simp] theorem Vj:Tryz.prog.cellsOf 225=1:=by kernel_rfl
@[simp] theorem VY:Tryz.prog.bytesOf 225=0:=by kernel_rfl
@[simp] theorem Vi:Tryz.prog.cellsOf 232=1:=by kernel_rfl
@[simp] theorem VX:Tryz.prog.bytesOf 232=8:=by kernel_rfl
@[simp] theorem Xu:br Tryz.prog 232=some [.int .i64 0]:=by kernel_rfl
@[simp] theorem Vh:Tryz.prog.cellsOf 233=1:=by kernel_rfl
@[simp] theorem VW:Tryz.prog.bytesOf 233=0:=by kernel_rfl
@[simp] theorem Vg:Tryz.prog.cellsOf 239=1:=by kernel_rfl
@[simp] theorem VV:Tryz.prog.bytesOf 239=4:=by kernel_rfl
@[simp] theorem Xt:br Tryz.prog 239=some [.int .u32 0]:=by kernel_rfl
@[simp] theorem Vf:Tryz.prog.cellsOf 256=1:=by kernel_rfl
@[simp] theorem VU:Tryz.prog.bytesOf 256=8:=by kernel_rfl
@[simp] theorem Xs:br Tryz.prog 256=some [.int .u64 0]:=by kernel_rfl
@[simp] theorem Ve:Tryz.prog.cellsOf 267=1:=by kernel_rfl
@[simp] theorem VT:Tryz.prog.bytesOf 267=8:=by kernel_rfl
@[simp] theorem Xr:br Tryz.prog 267=some [.fc]:=by kernel_rfl
end Go.Proofs.YtneohapkboaplaaGreat
