/- segment.Documents (layer 39): documents, while they are gathered; an append to a list that grows in a box. segment.Documents (layer 39): one posting. segment.Documents (layer 39): the postings of the terms. segment.Documents (layer 39): the terms, the columns. The documents of a segment (layer 39), in plain lists. segment.Documents (layer 39): the words are sorted.
  Conditions: as the theorems say. -/
import Derived.Test.YtoejlmpbebjemaaGreatGV
set_option linter.all false
set_option maxRecDepth 100000
set_option maxHeartbeats 16000000
open Nat (add_mul)
open List (getD_eq_getElem?_getD)
namespace Go.Proofs.YtoejlmpbebjemaaGreat
open Go.Proofs.Tryz(prog)
open Go Go.Am eN
def gv (n i cap:Nat):AV:=if n=0 then .sl 0 [] .full else .bJ i n cap
def gb (n i:Nat)(cs:List AV):List (Nat×aA):=if n=0 then [] else [(i,.cells cs)]
structure Wz where
 f:Int
 ws:List Wd
 i:Nat
 cap:Nat
 rest:List AV
abbrev Wz.row (z:Wz):List AV:=[.int .i64 z.f,gv z.ws.length z.i z.cap]
def Wz.bx (z:Wz):List (Nat×aA):=gb z.ws.length z.i (dQ z.ws++z.rest)
def nr (l:List Wz):List AV:=l.flatMap Wz.row
def Bk:ep Wz.row 2:=λ_=>rfl
def kZ (l:List Wz):(nr l).length=l.length*2:=bY Bk l
def Wz.zn (z:Wz):Zn:=⟨z.f,z.ws⟩
structure Dz where
 id:Int
 zs:List Wz
 i:Nat
 cap:Nat
 rest:List AV
 ns:List Nm
 tk:Nat
def ov (ns:List Nm)(tk:Nat):AV:=if ns=[] then .sl 0 [] .full else .sl ns.length (bA ns) (.own tk)
abbrev Dz.row (d:Dz):List AV:=[.int .i64 d.id,gv d.zs.length d.i d.cap,ov d.ns d.tk]
def Dz.bx (d:Dz):List (Nat×aA):=gb d.zs.length d.i (nr d.zs++d.rest)++d.zs.flatMap Wz.bx
def Dz.tx (d:Dz):List (Nat×(Nat×Nat)):=if d.ns=[] then [] else [(d.tk,(d.ns.length*2,2))]
def fo (l:List Dz):List AV:=l.flatMap Dz.row
def BH:ep Dz.row 3:=λ_=>rfl
def lj (l:List Dz):(fo l).length=l.length*3:=bY BH l
def Dz.dc (d:Dz):Dc:=⟨d.id,d.zs.map Wz.zn,d.ns⟩
def Yb (nb N n i cap z:Nat)(rest:List AV):Prop:=n<=N/\(n≠0->rest.length=(cap-n)*z/\n<=cap/\nb<=i)
structure JQ (nb tb N:Nat)(d:Dz):Prop where
 z:Yb nb N d.zs.length d.i d.cap 2 d.rest
 w:∀z∈d.zs,Yb nb N z.ws.length z.i z.cap 2 z.rest
 n:d.ns.length<=N/\(d.ns≠[]->tb<=d.tk)
def Yb.more {nb N M n i cap z:Nat}{rest:List AV}(h:Yb nb N n i cap z rest)(hm:N<=M):Yb nb M n i cap z rest:=⟨agJ h.1 hm,h.2⟩
theorem JQ.more {nb tb N M:Nat}{d:Dz}(h:JQ nb tb N d)(hm:N<=M):JQ nb tb M d:=⟨h.z.more hm,λz hz=>(h.w z hz).more hm,⟨agJ h.n.1 hm,h.n.2⟩⟩
structure DS (H:List aA)(T:au)(R:List (Nat×aA))(bo N:Nat)(J:List aA)(U:au)(D:List Dz):Prop where
 hJ:Has J (R++(bo,.cells (fo D))::D.flatMap Dz.bx)
 hU:Has U (D.flatMap Dz.tx)
 hD:∀d∈D,JQ H.length T.length N d
 pJ:gG H J
 pU:gG T U
 ok:bN J U
theorem DS.more {H:List aA}{T:au}{R:List (Nat×aA)}{bo N M:Nat}{J:List aA}{U:au}{D:List Dz}(h:DS H T R bo N J U D)(hm:N<=M):DS H T R bo M J U D:=⟨h.hJ,h.hU,λd hd=>(h.hD d hd).more hm,h.pJ,h.pU,h.ok⟩
theorem DS.sub {H:List aA}{T:au}{R R':List (Nat×aA)}{bo N:Nat}{J:List aA}{U:au}{D:List Dz}(h:DS H T R bo N J U D)(hs:R'.Sublist R):DS H T R' bo N J U D:=⟨h.hJ.sub (hs.append_right _),h.hU,h.hD,h.pJ,h.pU,h.ok⟩
theorem DS.new {H:List aA}{T:au}{R:List (Nat×aA)}{bo N:Nat}{J:List aA}{U:au}{D:List Dz}(h:DS H T R bo N J U D)(b:aA)(ho:bN (J++[b]) U):DS H T ((J.length,b)::R) bo N (J++[b]) U D:=
 ⟨(h.hJ.new b).perm (ahr _ _).symm,h.hU,h.hD,h.pJ.app _,h.pU,ho⟩
def Gx {D1 D2:List Dz}(d:Dz):(fo (D1++d::D2)).getD (D1.length*3) .top=.int .i64 d.id/\(fo (D1++d::D2)).getD (D1.length*3+1) .top=gv d.zs.length d.i d.cap/\(fo (D1++d::D2)).getD (D1.length*3+2) .top=ov d.ns d.tk:=by
 have h:=lj D1;have e:fo (D1++d::D2)=fo D1++(d.row++fo D2):=by simp[fo]
 rw[e];refine⟨?_,?_,?_⟩
 ·rw[agB,agX (by omega),h,ah1];rfl
 ·rw[agB,agX (by omega),h,show D1.length*3+1-D1.length*3=1 by omega];rfl
 ·rw[agB,agX (by omega),h,show D1.length*3+2-D1.length*3=2 by omega];rfl
def I5 {D1 D2:List Dz}(d:Dz)(v:AV):(fo (D1++d::D2)).set (D1.length*3+1) v=fo D1++([.int .i64 d.id,v,ov d.ns d.tk]++fo D2)/\(fo (D1++d::D2)).set (D1.length*3+2) v=fo D1++([.int .i64 d.id,gv d.zs.length d.i d.cap,v]++fo D2):=by
 have h:=lj D1;have e:fo (D1++d::D2)=fo D1++(d.row++fo D2):=by simp[fo]
 rw[e]
 constructor
 ·rw[aib _ _ (by omega),h,show D1.length*3+1-D1.length*3=1 by omega];rfl
 ·rw[aib _ _ (by omega),h,show D1.length*3+2-D1.length*3=2 by omega];rfl
def NO (l:List Wz)(z:Wz)(r:List AV):(nr (l++[z])++r).getD (l.length*2) .top=.int .i64 z.f/\(nr (l++[z])++r).getD (l.length*2+1) .top=gv z.ws.length z.i z.cap:=by
 have h:=kZ l;have e:nr (l++[z])++r=nr l++(z.row++r):=by simp[nr]
 rw[e];refine⟨?_,?_⟩
 ·rw[agB,agX (by omega),h,ah1];rfl
 ·rw[agB,agX (by omega),h,show l.length*2+1-l.length*2=1 by omega];rfl
def RL (l:List Wz)(z:Wz)(r:List AV)(v:AV):(nr (l++[z])++r).set (l.length*2+1) v=nr l++([.int .i64 z.f,v]++r):=by
 have h:=kZ l;have e:nr (l++[z])++r=nr l++(z.row++r):=by simp[nr]
 rw[e,aib _ _ (by omega),h,show l.length*2+1-l.length*2=1 by omega];rfl
def grow {C:Cx}{o:Oper}{e:Env}{J:List aA}{U:au}{κ:AV->List aA->au->Prop}{t t2 el:TypeId}{n i cap z:Nat}{rows row rest:List AV}{x:AV}{A B:List (Nat×aA)}{H:List aA}
  (h0:n=0->kJ C.P C.bx o e J=some (1,row,z)) (h1:n≠0->kJ C.P C.bx o e J=none/\ss o e=some (t,t2,i,n,cap,x))
  (ht:C.P.underlying t=some (.slice el)) (hz:C.P.cellsOf el=z) (hx:n≠0->gN J z x=some (1,row)) (hb:(n+1)*C.P.bytesOf el<=140737488355328) (hn:n+1<=9223372036854775807) (hi:jN C.P t2=true) (ha:(bc C.P el).isSome=true)
  (hr:rows.length=n*z) (hJ:Has J (A++(gb n i (rows++rest)++B))) (hg:n≠0->rest.length=(cap-n)*z/\n<=cap/\H.length<=i) (hP:gG H J)
  (k:∀(i2 fZ:Nat)(dC:List AV)(J2:List aA),Has J2 (A++((i2,.cells (rows++(row++dC)))::B))->gG H J2->J.length<=J2.length->dC.length=(fZ-(n+1))*z->n+1<=fZ->H.length<=i2->κ (.bJ i2 (n+1) fZ) J2 U):gJ C o e J U κ:=by
 unfold gJ;have hPl:=hP.le;rcases ahc n with rfl|hp
 ·rw[h0 rfl];simp only;intro nc ll;have za:rows=[]:=aho.1 (by omega);subst za;refine k J.length nc (List.replicate ((nc-1)*z) .top) _ ?_ (hP.app _) (by simp) (by simp) ll hPl;have:=hJ.new (.cells (row++List.replicate ((nc-1)*z) .top));simp only[gb,agN,aic] at this;refine this.perm ?_;rw[agV];exact(ahr _ _).symm.append_left _
 ·obtain⟨a1,a2⟩:=h1 (by omega);obtain⟨g1,g2,g3⟩:=hg (by omega);rw[a1,a2];simp only;have FE:n≠0:=by omega
  simp only[gb,agL FE,List.singleton_append] at hJ;have gi:=hJ.get (i:=i) (b:=.cells (rows++rest)) (by simp);have iz:(rows++rest).take (n*z)=rows:=ahD hr;have qc:(rows++rest).drop ((n+1)*z)=rest.drop z:=by
   rw[List.drop_append,aiW (by rw[hr,ahU];omega),aic,hr]
   congr 1;rw[ahU];omega
  refine⟨el,_,row,1,ht,gi,by rw[agF,hr,g1,hz,<-add_mul];congr 1;omega,by rw[hz];exact hx FE,hb,hn,hi,ha,λhle=>?_,λnc aZ ll=>?_⟩
  ·rw[hz,iz,qc,agV];refine k i cap (rest.drop z) _ ?_ (hP.set g3 _) (by simp) ?_ hle g3
   ·exact Has.set hJ _
   ·rw[ahp,g1,<-Nat.sub_one_mul];congr 1
  ·rw[hz,iz,agV];refine k J.length nc (List.replicate ((nc-(n+1))*z) .top) _ ?_ (hP.app _) (by simp) (by simp) ll hPl;have h2:Has J (A++B):=hJ.sub (List.Sublist.append_left (ahB _ _) _);refine(h2.new _).perm ?_;rw[agV];exact(ahr _ _).symm.append_left _
open ia
def Jj (zs:List Zn)(f:Int):List Zn:=match zs.getLast? with
 |some z=>if z.f=f then zs else zs++[⟨f,[]⟩]
 |none=>[⟨f,[]⟩]
def DJ (l:List Zn)(z:Zn)(f:Int):Jj (l++[z]) f=if z.f=f then l++[z] else (l++[z])++[⟨f,[]⟩]:=by
 simp[Jj]
def Y4 (H : List aA) (T : au) (ts : List Tm) (l : List Ps) (vi vj b1 bo bm nd p8 vU : Nat) (N : Nat) (f : Int) (w : Bs) (lv : AV) (R : List (Nat × aA)) (J : List aA) (U : au) (D1 D2 : List Dz) (d : Dz)
    (hS : DS H T R bo N J U (D1 ++ d :: D2)) (hN : N <= 1099511627776) (wA : b1 < J.length) (My : bm < J.length) (AT : H.length <= bo) (aeb : vU < J.length) (h8 : (p8, .cells [.int .i64 f, .str w, lv]) ∈ R) (Q : Exit -> St -> Prop)
    (go : ∀ (e : Env) (J' : List aA) (d' : Dz) (zs : List Wz) (z : Wz), DS H T R bo (N + 1) J' U (D1 ++ d' :: D2) -> J.length <= J'.length -> d'.id = d.id -> d'.ns = d.ns -> d'.zs = zs ++ [z] -> z.f = f -> d'.dc.zs = Jj d.dc.zs f ->
      bC J'.length U.length e [(1, .ptr b1 0), (3, .bJ bo nd nd), (4, .aQ bm), (51, .sl ts.length (du ts) .none), (52, .int .i64 (ts.length : Nat)), (53, .int .i64 (vi : Nat)), (8, .ptr p8 0), (58, .sl l.length (bD l) .none), (59, .int .i64 (l.length : Nat)), (60, .int .i64 (vj : Nat)), (10, .ptr vU 0), (11, .ptr bo (D1.length * 3)), (13, .ptr d'.i (zs.length * 2))] -> AW ⟨prog, 192, 190, H.length, T.length, [100100, 100131]⟩ (dX [1, 1, 1, 1, 1, 0, 1, 0, 0, 1, 1, 0, 0, 1, 1, 0, 0, 1, 1, 0, 0, 1, 1, 1, 1] (Tryz.f88.body.getD .skip)) Q ⟨e, J', U⟩) :
    AW ⟨prog, 192, 190, H.length, T.length, [100100, 100131]⟩ (dX [1, 1, 1, 1, 1, 0, 1, 0, 0, 1, 1, 0, 0, 1, 1, 0, 0, 1, 1, 0, 0, 1, 1] (Tryz.f88.body.getD .skip)) Q ⟨[(1, .ptr b1 0), (3, .bJ bo nd nd), (4, .aQ bm), (51, .sl ts.length (du ts) .none), (52, .int .i64 (ts.length : Nat)), (53, .int .i64 (vi : Nat)), (8, .ptr p8 0), (58, .sl l.length (bD l) .none), (59, .int .i64 (l.length : Nat)), (60, .int .i64 (vj : Nat)), (10, .ptr vU 0), (11, .ptr bo (D1.length * 3))], J, U⟩ := by
  conv => arg 2; whnf
  have g8 := hS.hJ.get (ag1 _ h8);have MD := hS.hJ.get (i := bo) (b := .cells (fo (D1 ++ d :: D2))) (by simp);have l8 := (agC.1 g8).1;have lo := (agC.1 MD).1;have e8 := aX g8;have eo := aX MD;have lH := hS.pJ.le;have lT := hS.pU.le;obtain ⟨r1, r2, r3⟩ := Gx (D1 := D1) (D2 := D2) d;have y9 : (fo (D1 ++ d :: D2)).length = (D1.length + 1 + D2.length) * 3 := by rw [lj]; simp; omega
  have mU := λv => (I5 (D1 := D1) (D2 := D2) d v).1;obtain ⟨id, zs, i, cap, rest, ns, tk⟩ := d;simp only at r1 r2 r3 mU;have jC := hS.hD ⟨id, zs, i, cap, rest, ns, tk⟩ (by simp);obtain ⟨⟨z1, z2⟩, z3, z4⟩ := jC;simp only at z1 z2 z3 z4;refine af λK1 aP => ?_;have fin : ∀ (e : Env) (J2 : List aA) (Jh : List Wz) (z : Wz) (i2 fZ : Nat) (dC : List AV), (bN J2 U -> DS H T R bo (N + 1) J2 U (D1 ++ ⟨id, Jh ++ [z], i2, fZ, dC, ns, tk⟩ :: D2)) -> J.length <= J2.length -> z.f = f -> (Jh ++ [z]).map Wz.zn = Jj (zs.map Wz.zn) f ->
      bC J2.length U.length e [(1, .ptr b1 0), (3, .bJ bo nd nd), (4, .aQ bm), (51, .sl ts.length (du ts) .none), (52, .int .i64 (ts.length : Nat)), (53, .int .i64 (vi : Nat)), (8, .ptr p8 0), (58, .sl l.length (bD l) .none), (59, .int .i64 (l.length : Nat)), (60, .int .i64 (vj : Nat)), (10, .ptr vU 0), (11, .ptr bo (D1.length * 3))] -> K1 ⟨e, J2, U⟩ := by
    intro e J2 Jh z i2 fZ dC jV jy hzf lE he;refine aP _ ?_; clear aP;refine dy λfj => ?_;replace jV := jV fj;refine aI ⟨[(1, .ptr b1 0), (3, .bJ bo nd nd), (4, .aQ bm), (51, .sl ts.length (du ts) .none), (52, .int .i64 (ts.length : Nat)), (53, .int .i64 (vi : Nat)), (8, .ptr p8 0), (58, .sl l.length (bD l) .none), (59, .int .i64 (l.length : Nat)), (60, .int .i64 (vj : Nat)), (10, .ptr vU 0), (11, .ptr bo (D1.length * 3))], J2, U⟩ (ag [] [] (by simp) (by simp) (by show H.length <= _; omega) (by show T.length <= _; omega) jV.ok he) ?_;have g2 := jV.hJ.get (i := bo) (b := .cells (fo (D1 ++ ⟨id, Jh ++ [z], i2, fZ, dC, ns, tk⟩ :: D2))) (by simp);have l2 := (agC.1 g2).1;have e2 := aX g2;obtain ⟨s1, s2, s3⟩ := Gx (D1 := D1) (D2 := D2) ⟨id, Jh ++ [z], i2, fZ, dC, ns, tk⟩;simp only [gv, agF, ahw, Nat.succ_ne_zero, aiq] at s2;have yH : (fo (D1 ++ ⟨id, Jh ++ [z], i2, fZ, dC, ns, tk⟩ :: D2)).length = (D1.length + 1 + D2.length) * 3 := by rw [lj]; simp; omega
    have gz := jV.hJ.get (i := i2) (b := .cells (nr (Jh ++ [z]) ++ dC)) (by simp [Dz.bx, gb]);have lz := (agC.1 gz).1;have ez := aX gz;have y6 : (nr (Jh ++ [z]) ++ dC).length = (Jh.length + 1) * 2 + dC.length := by rw [agF, kZ, agF, ahw]
    have hzn : Jh.length + 1 <= N + 1 := by
      have := (jV.hD ⟨id, Jh ++ [z], i2, fZ, dC, ns, tk⟩ (by simp)).z.1;simpa using this
    refine aK [] [] [] aw (by kernel_rfl) (by kernel_rfl) λK hK => ?_; simp (maxSteps := 1000000) (disch := omega) [-getD_eq_getElem?_getD, e2, s2, yH];refine hK _ ?_;refine go _ _ ⟨id, Jh ++ [z], i2, fZ, dC, ns, tk⟩ Jh z jV jy rfl rfl rfl hzf lE ?_;simp;omega
  have push : Jj (zs.map Wz.zn) f = zs.map Wz.zn ++ [⟨f, []⟩] -> ∀ (Q' : Exit -> St -> Prop), (∀ s, K1 s -> Q' .normal s) -> ∀ e : Env, bC J.length U.length e [(1, .ptr b1 0), (3, .bJ bo nd nd), (4, .aQ bm), (51, .sl ts.length (du ts) .none), (52, .int .i64 (ts.length : Nat)), (53, .int .i64 (vi : Nat)), (8, .ptr p8 0), (58, .sl l.length (bD l) .none), (59, .int .i64 (l.length : Nat)), (60, .int .i64 (vj : Nat)), (10, .ptr vU 0), (11, .ptr bo (D1.length * 3))] -> AW ⟨prog, 192, 190, H.length, T.length, [100100, 100131]⟩ (dX [1, 1, 1, 1, 1, 0, 1, 0, 0, 1, 1, 0, 0, 1, 1, 0, 0, 1, 1, 0, 0, 1, 1, 0, 1, 1, 0] (Tryz.f88.body.getD .skip)) Q' ⟨e, J, U⟩ := by
    intro lE Q' hQ e he
    conv => arg 2; whnf
    refine aI ⟨[(1, .ptr b1 0), (3, .bJ bo nd nd), (4, .aQ bm), (51, .sl ts.length (du ts) .none), (52, .int .i64 (ts.length : Nat)), (53, .int .i64 (vi : Nat)), (8, .ptr p8 0), (58, .sl l.length (bD l) .none), (59, .int .i64 (l.length : Nat)), (60, .int .i64 (vj : Nat)), (10, .ptr vU 0), (11, .ptr bo (D1.length * 3))], J, U⟩ (ag [] [] (by simp) (by simp) (by show H.length <= _; omega) (by show T.length <= _; omega) hS.ok he) ?_;refine qE 9 [9, 12] [0, 0, 0, 0, 0, 0, 0, 0, 0, 0, 1, 1, 1] [[0], []] aw (by kernel_rfl) (by kernel_rfl) (by kernel_rfl) λK hK => ?_;simp (maxSteps := 1000000) (disch := omega) [-getD_eq_getElem?_getD, -gJ, eo, e8, r2, y9];have MC : Has J ((R ++ (bo, .cells (fo (D1 ++ ⟨id, zs, i, cap, rest, ns, tk⟩ :: D2))) :: D1.flatMap Dz.bx) ++ (gb zs.length i (nr zs ++ rest) ++ (zs.flatMap Wz.bx ++ D2.flatMap Dz.bx))) := by simpa [Dz.bx] using hS.hJ
    refine grow (t := 23) (t2 := 23) (el := 117) (z := 2) (row := [.int .i64 f, .sl 0 [] .full]) (x := .sl 1 [.int .i64 f, .sl 0 [] .full] .full) (λh => by simp [gv, h]) (λh => by simp [gv, h]) (by kernel_rfl) (by kernel_rfl) (λ_ => by simp) ?_ ?_ (by kernel_rfl) (by kernel_rfl) (kZ _) MC z2 hS.pJ λi2 fZ dC J2 iQ se jy oO oU zh => ?_
    · rw [show prog.bytesOf 117 = 32 by kernel_rfl]; omega
    · omega
    have g2 := iQ.get (i := bo) (b := .cells (fo (D1 ++ ⟨id, zs, i, cap, rest, ns, tk⟩ :: D2))) (by simp);have l2 := (agC.1 g2).1;have e2 := aX g2;simp (maxSteps := 1000000) (disch := omega) [-getD_eq_getElem?_getD, e2, y9, mU];refine hK _ (hQ _ ?_);have qc : fo (D1 ++ ⟨id, zs ++ [⟨f, [], 0, 0, []⟩], i2, fZ, dC, ns, tk⟩ :: D2) = fo D1 ++ AV.int .i64 id :: .bJ i2 (zs.length + 1) fZ :: ov ns tk :: fo D2 := by simp [fo, gv]
    rw [<- qc];refine fin _ _ zs ⟨f, [], 0, 0, []⟩ i2 fZ dC (λho => ⟨?_, ?_, ?_, se.set AT _, hS.pU, ho⟩) (by simp; omega) rfl (by rw [lE]; simp [Wz.zn]) ?_
    · have Cj : Dz.bx ⟨id, zs ++ [⟨f, [], 0, 0, []⟩], i2, fZ, dC, ns, tk⟩ = (i2, .cells (nr zs ++ ([.int .i64 f, .sl 0 [] .full] ++ dC))) :: zs.flatMap Wz.bx := by simp [Dz.bx, gb, nr, Wz.bx, gv]
      have := Has.set (A := R) (B := D1.flatMap Dz.bx ++ ((i2, .cells (nr zs ++ ([.int .i64 f, .sl 0 [] .full] ++ dC))) :: (zs.flatMap Wz.bx ++ D2.flatMap Dz.bx))) (by simpa using iQ) (.cells (fo (D1 ++ ⟨id, zs ++ [⟨f, [], 0, 0, []⟩], i2, fZ, dC, ns, tk⟩ :: D2)));rw [ahk, agT, Cj];simpa using this
    · simpa [Dz.tx] using hS.hU
    · intro x hx;rcases agR.1 hx with hx | hx
      · exact (hS.hD x (by simp [hx])).more (ahy _)
      rcases ag6.1 hx with rfl | hx
      · refine ⟨⟨by simp; omega, λ_ => by simpa using ⟨oO, oU, zh⟩⟩, λz hz => ?_, ⟨by show ns.length <= _; omega, z4.2⟩⟩;rcases agR.1 hz with hz | hz
        · exact (z3 z hz).more (ahy _)
        · obtain rfl := ahl.1 hz;exact ⟨agP _, λh => absurd rfl h⟩
      · exact (hS.hD x (by simp [hx])).more (ahy _)
    · simp; omega
  rcases List.eq_nil_or_concat zs with hz | ⟨Tz, z0, hz⟩
  · subst hz;simp only [gv, ahV, ain] at r2;refine ae λK hK => ?_; simp (maxSteps := 1000000) (disch := omega) [-getD_eq_getElem?_getD, eo, r2, y9]; refine hK _ ?_; clear hK K;refine aK [] [] [] aw (by kernel_rfl) (by kernel_rfl) λK hK => ?_; simp (maxSteps := 1000000) (disch := omega) [-getD_eq_getElem?_getD, eo, r2, y9];refine hK _ ?_; clear hK K;refine aU rfl (λh => ?_) (λh => absurd h (by simp));refine push (by simp [Jj]) _ (λs h => ?_) _ ?_
    · exact h
    · simp; omega
  · rw [List.concat_eq_append] at hz;subst hz;simp only [gv, agF, ahw, Nat.succ_ne_zero, aiq] at r2;have gz := hS.hJ.get (i := i) (b := .cells (nr (Tz ++ [z0]) ++ rest)) (by simp [Dz.bx, gb]);have lz := (agC.1 gz).1;have ez := aX gz;have y6 : (nr (Tz ++ [z0]) ++ rest).length = (Tz.length + 1) * 2 + rest.length := by rw [agF, kZ, agF, ahw]
    obtain ⟨y1, y2⟩ := NO Tz z0 rest;have z1q : Tz.length + 1 <= N := by simpa using z1
    have bn : (((Tz.length : Int) + 1) == 0) = false := ahq.2 (by omega);have Yg : ¬ ((Tz.length : Int) + 1) = 0 := by omega
    by_cases hf : z0.f = f
    · have bd : (z0.f != f) = false := by simpa using hf
      refine ae λK hK => ?_; simp (maxSteps := 1000000) (disch := omega) [-getD_eq_getElem?_getD, eo, r2, y9]; refine hK _ ?_; clear hK K;refine aK [] [] [] aw (by kernel_rfl) (by kernel_rfl) λK hK => ?_; simp (maxSteps := 1000000) (disch := omega) [-getD_eq_getElem?_getD, eo, e8, r2, y9, bn, Yg, ez, y6, y1, bd];refine hK _ ?_; clear hK K;refine aU rfl (λh => absurd h (by simp)) (λh => ?_);apply aq; simp (maxSteps := 1000000) (disch := omega) [-getD_eq_getElem?_getD];refine fin _ _ Tz z0 i cap rest (λho => hS.more (ahy _)) (agE _) hf ?_ ?_
      · rw [agS, List.map_singleton, DJ, agN (show z0.zn.f = f from hf)]
      · simp; omega
    · have bd : (z0.f != f) = true := by simpa using hf
      refine ae λK hK => ?_; simp (maxSteps := 1000000) (disch := omega) [-getD_eq_getElem?_getD, eo, r2, y9]; refine hK _ ?_; clear hK K;refine aK [] [] [] aw (by kernel_rfl) (by kernel_rfl) λK hK => ?_; simp (maxSteps := 1000000) (disch := omega) [-getD_eq_getElem?_getD, eo, e8, r2, y9, bn, Yg, ez, y6, y1, bd];refine hK _ ?_; clear hK K;refine aU rfl (λh => ?_) (λh => absurd h (by simp));refine push ?_ _ (λs h => ?_) _ ?_
      · rw [agS, List.map_singleton, DJ, agL (show ¬ z0.zn.f = f from hf)]
      · exact h
      · simp; omega
attribute [-simp] getD_eq_getElem?_getD in
def Y7 (H:List aA)(T:au)(ts:List Tm)(l:List Ps)(vi vj b1 bo bm nd p8 vU:Nat)(N:Nat)(f a:Int)(w:Bs)(lv:AV)(at_:List Int)(vk:Nat)(R:List (Nat×aA))(J:List aA)(U:au)(D1 D2:List Dz)(d:Dz)(zs:List Wz)(z:Wz)
  (hS:DS H T R bo N J U (D1++d::D2)) (hz:d.zs=zs++[z]) (hN:N<=1099511627776) (uW:at_.length<=1000) (hvk:vk<at_.length) (wA:b1<J.length) (My:bm<J.length) (aeb:vU<J.length) (h8:(p8,.cells [.int .i64 f,.str w,lv])∈R) (Q:Exit->St->Prop)
  (go:∀(e:Env)(J':List aA)(d':Dz)(z':Wz),(bN J' U->DS H T R bo (N+1) J' U (D1++d'::D2))->J.length<=J'.length->d'.id=d.id->d'.ns=d.ns->d'.zs=zs++[z']->d'.i=d.i->z'.f=z.f->z'.ws=z.ws++[(w,at_.getD vk 0)]->
   bC J'.length U.length e [(1,.ptr b1 0),(3,.bJ bo nd nd),(4,.aQ bm),(51,.sl ts.length (du ts) .none),(52,.int .i64 (ts.length:Nat)),(53,.int .i64 (vi:Nat)),(8,.ptr p8 0),(58,.sl l.length (bD l) .none),(59,.int .i64 (l.length:Nat)),(60,.int .i64 (vj:Nat)),(10,.ptr vU 0),(11,.ptr bo (D1.length*3)),(13,.ptr d.i (zs.length*2)),(115,.sl at_.length (ints at_) .none),(116,.int .i64 (at_.length:Nat)),(117,.int .i64 (vk:Nat))]->Q .normal ⟨e,J',U⟩) :
  AW ⟨prog,192,190,H.length,T.length,[100100,100131]⟩ (dX [1,1,1,1,1,0,1,0,0,1,1,0,0,1,1,0,0,1,1,0,0,1,1,1,1,1,0,0,1,1,0,0] (Tryz.f88.body.getD .skip)) Q ⟨[(1,.ptr b1 0),(3,.bJ bo nd nd),(4,.aQ bm),(51,.sl ts.length (du ts) .none),(52,.int .i64 (ts.length:Nat)),(53,.int .i64 (vi:Nat)),(8,.ptr p8 0),(58,.sl l.length (bD l) .none),(59,.int .i64 (l.length:Nat)),(60,.int .i64 (vj:Nat)),(10,.ptr vU 0),(11,.ptr bo (D1.length*3)),(13,.ptr d.i (zs.length*2)),(115,.sl at_.length (ints at_) .none),(116,.int .i64 (at_.length:Nat)),(117,.int .i64 (vk:Nat))],J,U⟩:=by
 conv=>arg 2;whnf
 have agf:vk<(ints at_).length:=by simpa using hvk
 have hga:=bM (xs:=at_) (k:=vk) hvk;generalize at_.getD vk 0=p at *;obtain⟨id,yl,i,cap,rest,ns,tk⟩:=d;simp only at hz;subst hz;have g8:=hS.hJ.get (ag1 _ h8);have MD:=hS.hJ.get (i:=bo) (b:=.cells (fo (D1++⟨id,zs++[z],i,cap,rest,ns,tk⟩::D2))) (by simp);have gz:=hS.hJ.get (i:=i) (b:=.cells (nr (zs++[z])++rest)) (by simp[Dz.bx,gb]);have l8:=(agC.1 g8).1;have lo:=(agC.1 MD).1;have lz:=(agC.1 gz).1;have e8:=aX g8;have ez:=aX gz;have lH:=hS.pJ.le;have lT:=hS.pU.le;have y6:(nr (zs++[z])++rest).length=(zs.length+1)*2+rest.length:=by rw[agF,kZ,agF,ahw]
 obtain⟨y1,y2⟩:=NO zs z rest;have mU:=λv=>RL zs z rest v;obtain⟨⟨z1,z2⟩,z3,z4⟩:=hS.hD ⟨id,zs++[z],i,cap,rest,ns,tk⟩ (by simp);simp only at z1 z2 z3 z4;obtain⟨q1,q2⟩:=z3 z (by simp);obtain⟨zf,ws,zi,zc,zr⟩:=z;simp only at q1 q2 y1 y2 mU;refine ae λK hK=>?_;simp(disch:=omega)[hga];apply hK;refine qE 10 [10,13] [0,0,0,0,0,0,0,0,0,0,0,1,1,1] [[0],[]] aw (by kernel_rfl) (by kernel_rfl) (by kernel_rfl) λK hK=>?_;simp(disch:=omega)[-gJ,e8,ez,y2,y6];have MC:Has J ((R++(bo,.cells (fo (D1++⟨id,zs++[⟨zf,ws,zi,zc,zr⟩],i,cap,rest,ns,tk⟩::D2)))::(D1.flatMap Dz.bx++((i,.cells (nr (zs++[⟨zf,ws,zi,zc,zr⟩])++rest))::zs.flatMap Wz.bx)))++(gb ws.length zi (dQ ws++zr)++D2.flatMap Dz.bx)):=by simpa[Dz.bx,gb,Wz.bx] using hS.hJ
 refine grow (t:=115) (t2:=115) (el:=136) (z:=2) (row:=[.str w,.int .i64 p]) (x:=.sl 1 [.str w,.int .i64 p] .full) (λh=>by simp[gv,h]) (λh=>by simp[gv,h]) (by kernel_rfl) (by kernel_rfl) (λ_=>by simp) ?_ ?_ (by kernel_rfl) (by kernel_rfl) (gj _) MC q2 hS.pJ λi2 fZ dC J2 iQ se jy oO oU zh=>?_
 ·rw[show prog.bytesOf 136=24 by kernel_rfl];omega
 ·omega
 have g2:=iQ.get (i:=i) (b:=.cells (nr (zs++[⟨zf,ws,zi,zc,zr⟩])++rest)) (by simp);have l2:=(agC.1 g2).1;have e2:=aX g2;simp(disch:=omega)[e2,y6,mU];refine hK _ ?_;have H7:nr zs++AV.int IntKind.i64 zf::AV.bJ i2 (ws.length+1) fZ::rest=nr (zs++[⟨zf,ws++[(w,p)],i2,fZ,dC⟩])++rest:=by simp[nr,gv]
 rw[H7];refine go _ _ ⟨id,zs++[⟨zf,ws++[(w,p)],i2,fZ,dC⟩],i,cap,rest,ns,tk⟩ ⟨zf,ws++[(w,p)],i2,fZ,dC⟩ (λho=>⟨?_,?_,?_,se.set ?_ _,hS.pU,ho⟩) (by simp;omega) rfl rfl rfl rfl rfl rfl ?_
 ·have Cj:Dz.bx ⟨id,zs++[⟨zf,ws++[(w,p)],i2,fZ,dC⟩],i,cap,rest,ns,tk⟩=(i,.cells (nr (zs++[⟨zf,ws++[(w,p)],i2,fZ,dC⟩])++rest))::(zs.flatMap Wz.bx++[(i2,.cells (dQ ws++([.str w,.int .i64 p]++dC)))]):=by
   simp[Dz.bx,gb,Wz.bx,<-JY]
  have qc:fo (D1++⟨id,zs++[⟨zf,ws++[(w,p)],i2,fZ,dC⟩],i,cap,rest,ns,tk⟩::D2)=fo (D1++⟨id,zs++[⟨zf,ws,zi,zc,zr⟩],i,cap,rest,ns,tk⟩::D2):=by simp[fo]
  have:=Has.set (A:=R++(bo,.cells (fo (D1++⟨id,zs++[⟨zf,ws,zi,zc,zr⟩],i,cap,rest,ns,tk⟩::D2)))::D1.flatMap Dz.bx) (B:=zs.flatMap Wz.bx++((i2,.cells (dQ ws++([.str w,.int .i64 p]++dC)))::D2.flatMap Dz.bx)) (by simpa using iQ) (.cells (nr (zs++[⟨zf,ws++[(w,p)],i2,fZ,dC⟩])++rest));rw[ahk,agT,Cj,qc];simpa using this
 ·simpa[Dz.tx] using hS.hU
 ·intro x hx;rcases agR.1 hx with hx|hx
  ·exact(hS.hD x (by simp[hx])).more (ahy _)
  rcases ag6.1 hx with rfl|hx
  ·refine⟨⟨by simp at z1 ⊢;omega,λ_=>by simpa using z2 (by simp)⟩,λy hy=>?_,⟨by show ns.length<=_;omega,z4.2⟩⟩;rcases agR.1 hy with hy|hy
   ·exact(z3 y (by simp[hy])).more (ahy _)
   ·obtain rfl:=ahl.1 hy;exact⟨by simp;omega,λh=>by simpa using⟨oO,oU,zh⟩⟩
  ·exact(hS.hD x (by simp[hx])).more (ahy _)
 ·exact(z2 (by simp)).2.2
 ·simp;omega
def wM (zs:List Zn)(f:Int)(ws:List Wd):List Zn:=match (Jj zs f).getLast? with
 |some z=>(Jj zs f).dropLast++[⟨z.f,z.ws++ws⟩]
 |none=>[]
def Tu {zs l:List Zn}{f:Int}{z:Zn}(h:Jj zs f=l++[z])(ws:List Wd):wM zs f ws=l++[⟨z.f,z.ws++ws⟩]:=by
 unfold wM;rw[h];simp
def aeU (f:Int)(ws:List Wd)(d:Dc):Dc:={ d with zs:=wM d.zs f ws }
def VO (x:Nm)(d:Dc):Dc:={ d with ns:=d.ns++[x] }
def Jy (L:List Dc)(id:Int)(g:Dc->Dc):List Dc:=L.map λd=>if d.id=id then g d else d
def zt (f:Int)(w:Bs)(L:List Dc)(p:Ps):List Dc:=Jy L p.1 (aeU f (p.2.map λa=>(w,a)))
def stepT (L:List Dc)(t:Tm):List Dc:=t.l.foldl (zt t.f t.w) L
def zx (f:Int)(L:List Dc)(x:Nm):List Dc:=Jy L x.2 (VO (f,x.1))
def CT (L:List Dc)(c:Cl):List Dc:=c.x.foldl (zx c.f) L
def mJ {α β:Type}(g:β->α->β)(l:List α)(b:β)(d:α)(j:Nat)(h:j<l.length):(l.take (j+1)).foldl g b=g ((l.take j).foldl g b) (l.getD j d):=by
 rw[aV l j d h,ail];rfl
def Dl {D1 D2:List Dz}{d d':Dz}{g:Dc->Dc}(hn:((D1++d::D2).map (·.id)).Nodup)(hg:d'.dc=g d.dc):(D1++d'::D2).map Dz.dc=Jy ((D1++d::D2).map Dz.dc) d.id g:=by
 rw[agS,ahi,ahn,aiU] at hn;obtain⟨_,⟨n1,_⟩,n2⟩:=hn;have e1:∀x∈D1,(if x.dc.id=d.id then g x.dc else x.dc)=x.dc:=λx hx=>agL λh=>n2 x.id (agG.2 ⟨x,hx,rfl⟩) d.id (by simp) h;have e2:∀x∈D2,(if x.dc.id=d.id then g x.dc else x.dc)=x.dc:=λx hx=>agL λh=>n1 (agG.2 ⟨x,hx,h⟩);unfold Jy;rw[ahG,agS,agS,ahi,ahi]
 congr 1
 ·exact ahh λx hx=>(e1 x hx).symm
 ·congr 1
  ·show d'.dc=if d.dc.id=d.id then g d.dc else d.dc
   rw[agN (show d.dc.id=d.id from rfl),hg]
  ·exact ahh λx hx=>(e2 x hx).symm
def gP (ids:List Int):List (cS×AV):=(List.range ids.length).map λk=>(kP (ids.getD k 0),.int .i64 (k:Nat))
def uy (ids:List Int):(gP ids).map (·.1)=ids.map kP:=by
 unfold gP;apply aiy
 ·simp
 ·intro i h1 h2;simp at h1;simp[agB,agD h1]
def DR {ids:List Int}(hn:ids.Nodup){k:Nat}(hk:k<ids.length):iZ (gP ids) (.one (.int .i64 (ids.getD k 0))) (.int .i64 0) false=.int .i64 (k:Nat):=by
 have XK:((gP ids).map (·.1)).Nodup:=by rw[uy];exact nS (λa b jK=>pM.1 jK) hn
 have hj:k<(gP ids).length:=by simpa[gP] using hk
 have he:(gP ids)[k]'hj=(kP (ids.getD k 0),.int .i64 (k:Nat)):=by simp[gP]
 unfold iZ;rw[show (cS.one (.int .i64 (ids.getD k 0)):cS)=kP (ids.getD k 0) from rfl,v8 XK hj (by rw[he]),he];rfl
def VK {ids:List Int}(h:∀i∈ids,1<=i/\i<=1000000000):dn prog 3 (gP ids)=true:=by
 unfold dn;rw[aha];intro x hx;have:x.1∈(gP ids).map (·.1):=agG.2 ⟨x,hx,rfl⟩;rw[uy] at this;obtain⟨i,hi,e⟩:=agG.1 this;rw[<-e];have:=h i hi;exact JL i (by omega)
attribute [-simp] getD_eq_getElem?_getD in
def O8 (H:List aA)(T:au)(ts:List Tm)(l:List Ps)(vi vj b1 bo bm nd p8 vU:Nat)(N:Nat)(f id:Int)(w:Bs)(lv:AV)(at_:List Int)(R:List (Nat×aA))(J:List aA)(U:au)(D1 D2:List Dz)(d:Dz)(zs:List Wz)(z:Wz)
  (hS:DS H T R bo N J U (D1++d::D2)) (hz:d.zs=zs++[z]) (hN:N+at_.length<=1099511627776) (uW:at_.length<=1000) (wA:b1<J.length) (My:bm<J.length) (h8:(p8,.cells [.int .i64 f,.str w,lv])∈R) (MW:(vU,.cells [.int .i64 id,.sl at_.length (ints at_) .none])∈R) (Q:Exit->St->Prop)
  (go:∀(e:Env)(J':List aA)(d':Dz)(z':Wz),DS H T R bo (N+at_.length) J' U (D1++d'::D2)->J.length<=J'.length->d'.id=d.id->d'.ns=d.ns->d'.zs=zs++[z']->z'.f=z.f->z'.ws=z.ws++at_.map (λa=>(w,a))->
   bC J'.length U.length e [(1,.ptr b1 0),(3,.bJ bo nd nd),(4,.aQ bm),(51,.sl ts.length (du ts) .none),(52,.int .i64 (ts.length:Nat)),(53,.int .i64 (vi:Nat)),(8,.ptr p8 0),(58,.sl l.length (bD l) .none),(59,.int .i64 (l.length:Nat)),(60,.int .i64 (vj:Nat))]->Q .normal ⟨e,J',U⟩) :
  AW ⟨prog,192,190,H.length,T.length,[100100,100131]⟩ (dX [1,1,1,1,1,0,1,0,0,1,1,0,0,1,1,0,0,1,1,0,0,1,1,1,1] (Tryz.f88.body.getD .skip)) Q ⟨[(1,.ptr b1 0),(3,.bJ bo nd nd),(4,.aQ bm),(51,.sl ts.length (du ts) .none),(52,.int .i64 (ts.length:Nat)),(53,.int .i64 (vi:Nat)),(8,.ptr p8 0),(58,.sl l.length (bD l) .none),(59,.int .i64 (l.length:Nat)),(60,.int .i64 (vj:Nat)),(10,.ptr vU 0),(11,.ptr bo (D1.length*3)),(13,.ptr d.i (zs.length*2))],J,U⟩:=by
 conv=>arg 2;whnf
 have g10:=hS.hJ.get (ag1 _ MW);have l10:=(agC.1 g10).1;have Yf:=aX g10;have lo:=hS.hJ.lt (i:=bo) (b:=.cells (fo (D1++d::D2))) (by simp);have l8:=hS.hJ.lt (ag1 _ h8);have lH:=hS.pJ.le;have lT:=hS.pU.le;have ldi:d.i<J.length:=hS.hJ.lt (b:=.cells (nr d.zs++d.rest)) (by simp[Dz.bx,gb,hz]);refine ae λK hK=>?_;simp(disch:=omega)[Yf];apply hK;apply aj;refine aJ (X:=Nat×List aA×Dz×Wz) (λx=>⟨[(1,.ptr b1 0),(3,.bJ bo nd nd),(4,.aQ bm),(51,.sl ts.length (du ts) .none),(52,.int .i64 (ts.length:Nat)),(53,.int .i64 (vi:Nat)),(8,.ptr p8 0),(58,.sl l.length (bD l) .none),(59,.int .i64 (l.length:Nat)),(60,.int .i64 (vj:Nat)),(10,.ptr vU 0),(11,.ptr bo (D1.length*3)),(13,.ptr d.i (zs.length*2)),(115,.sl at_.length (ints at_) .none),(116,.int .i64 (at_.length:Nat)),(117,.int .i64 (x.1:Nat))],x.2.1,U⟩)
  (λx=>x.1<=at_.length/\DS H T R bo (N+x.1) x.2.1 U (D1++x.2.2.1::D2)/\J.length<=x.2.1.length/\(x.2.2.1.id=d.id/\x.2.2.1.ns=d.ns/\x.2.2.1.i=d.i)/\x.2.2.1.zs=zs++[x.2.2.2]/\x.2.2.2.f=z.f/\x.2.2.2.ws=z.ws++(at_.take x.1).map (λa=>(w,a))) (λx=>at_.length-x.1) (0,J,d,z) ?_ ?_ ?_
 ·exact⟨agP _,hS,agE _,⟨rfl,rfl,rfl⟩,hz,rfl,by simp⟩
 ·refine ag [] [] ?_ ?_ ?_ ?_ hS.ok ?_
  all_goals simp
  all_goals omega
 ·rintro⟨k,J2,d2,z2⟩ ⟨k1,k2,k3,⟨k4,k5,k6⟩,k7,k8,k9⟩;simp only at k1 k2 k3 k4 k5 k6 k7 k8 k9;have Mr:=k2.pJ.le;have Qm:=k2.pU.le;apply ae;intro K Z;simp(disch:=omega);apply Z;refine af λK2 bp=>?_;refine aU rfl (λgB=>?_) (λgB=>?_)
  ·simp  at gB;apply aq;simp(disch:=omega) ;apply bp;clear bp;refine af λK3 bG=>?_;apply aj;rw[<-k6];refine aI ⟨[(1,.ptr b1 0),(3,.bJ bo nd nd),(4,.aQ bm),(51,.sl ts.length (du ts) .none),(52,.int .i64 (ts.length:Nat)),(53,.int .i64 (vi:Nat)),(8,.ptr p8 0),(58,.sl l.length (bD l) .none),(59,.int .i64 (l.length:Nat)),(60,.int .i64 (vj:Nat)),(10,.ptr vU 0),(11,.ptr bo (D1.length*3)),(13,.ptr d2.i (zs.length*2)),(115,.sl at_.length (ints at_) .none),(116,.int .i64 (at_.length:Nat)),(117,.int .i64 (k:Nat))],J2,U⟩ (ag [] [] (by simp) (by simp) (by show H.length<=_;omega) (by show T.length<=_;omega) k2.ok (by simp;omega)) ?_;refine Y7 H T ts l vi vj b1 bo bm nd p8 vU (N+k) f (at_.getD k 0) w lv at_ k R J2 U D1 D2 d2 zs z2 k2 k7 (by omega) uW gB (by omega) (by omega) (by omega) h8 _ λe J' d' z' a1 a2 a3 a4 a5 a6 a7 a8 a9=>?_;refine bG _ (dy λAX=>?_);replace a1:=a1 AX;have Jm:=a1.pJ.le;have Jl:=a1.pU.le;refine aI ⟨[(1,.ptr b1 0),(3,.bJ bo nd nd),(4,.aQ bm),(51,.sl ts.length (du ts) .none),(52,.int .i64 (ts.length:Nat)),(53,.int .i64 (vi:Nat)),(8,.ptr p8 0),(58,.sl l.length (bD l) .none),(59,.int .i64 (l.length:Nat)),(60,.int .i64 (vj:Nat)),(10,.ptr vU 0),(11,.ptr bo (D1.length*3)),(13,.ptr d2.i (zs.length*2)),(115,.sl at_.length (ints at_) .none),(116,.int .i64 (at_.length:Nat)),(117,.int .i64 (k:Nat))],J',U⟩ (ag [] [] (by simp) (by simp) (by show H.length<=_;omega) (by show T.length<=_;omega) a1.ok a9) ?_;clear bG;refine aC λK hK=>?_;simp(disch:=omega) ;apply hK;refine⟨(k+1,J',d',z'),⟨by show k+1<=_;omega,a1,by show J.length<=J'.length;omega,⟨a3.trans k4,a4.trans k5,a6.trans k6⟩,a5,a7.trans k8,?_⟩,by show at_.length-(k+1)<at_.length-k;omega,?_⟩
   ·show z'.ws=z.ws++(at_.take (k+1)).map _;rw[a8,k9,aV at_ k 0 gB,agS,agV];rfl
   ·rw[<-k6];refine ag [] [] ?_ ?_ ?_ ?_ a1.ok ?_
    all_goals simp
    all_goals omega
  ·simp  at gB;have qa:k=at_.length:=by omega
   subst qa;apply aG;simp(disch:=omega) ;rw[agZ] at k9;refine go _ J2 d2 z2 k2 k3 k4 k5 k7 k8 k9 ?_;simp;omega
def Dp {D:List Dz}{k:Nat}(hk:k<D.length):∃D1 d D2,D=D1++d::D2/\D1.length=k:=by
 refine⟨D.take k,D[k],D.drop (k+1),?_,by simp;omega⟩;rw[List.getElem_cons_drop,ag7]
def KY (H:List aA)(T:au)(ts:List Tm)(l:List Ps)(vi vj b1 bo bm nd p8:Nat)(N:Nat)(f:Int)(w:Bs)(lv:AV)(ids:List Int)(R:List (Nat×aA))(J:List aA)(U:au)(D:List Dz)
  (hS:DS H T R bo N J U D) (kU:D.map (·.id)=ids) (mM:ids.Nodup) (np:∀i∈ids,1<=i/\i<=1000000000) (vN:nd=ids.length) (hk:vj<l.length) (Cv:l.length<=1000) (sf:(l.getD vj p0).1∈ids) (zb:(l.getD vj p0).2.length<=1000) (hN:N+1001<=1099511627776) (wA:b1<J.length) (AT:H.length<=bo)
  (hm:(bm,.map (gP ids))∈R) (h8:(p8,.cells [.int .i64 f,.str w,lv])∈R) (Q:Exit->St->Prop)
  (go:∀(e:Env)(J':List aA)(D':List Dz),DS H T R bo (N+1001) J' U D'->J.length<=J'.length->D'.map (·.id)=ids->D'.map Dz.dc=zt f w (D.map Dz.dc) (l.getD vj p0)->
   bC J'.length U.length e [(1,.ptr b1 0),(3,.bJ bo nd nd),(4,.aQ bm),(51,.sl ts.length (du ts) .none),(52,.int .i64 (ts.length:Nat)),(53,.int .i64 (vi:Nat)),(8,.ptr p8 0),(58,.sl l.length (bD l) .none),(59,.int .i64 (l.length:Nat)),(60,.int .i64 (vj:Nat))]->Q .normal ⟨e,J',U⟩) :
  AW ⟨prog,192,190,H.length,T.length,[100100,100131]⟩ (dX [1,1,1,1,1,0,1,0,0,1,1,0,0,1,1,0,0,1,1,0,0] (Tryz.f88.body.getD .skip)) Q ⟨[(1,.ptr b1 0),(3,.bJ bo nd nd),(4,.aQ bm),(51,.sl ts.length (du ts) .none),(52,.int .i64 (ts.length:Nat)),(53,.int .i64 (vi:Nat)),(8,.ptr p8 0),(58,.sl l.length (bD l) .none),(59,.int .i64 (l.length:Nat)),(60,.int .i64 (vj:Nat))],J,U⟩:=by
 conv=>arg 2;whnf
 have gm:=hS.hJ.get (ag1 _ hm);have lm:=(agC.1 gm).1;have l8:=hS.hJ.lt (ag1 _ h8);have lo:=hS.hJ.lt (i:=bo) (b:=.cells (fo D)) (by simp);have lH:=hS.pJ.le;have lT:=hS.pU.le;have bu:=mb l vj hk;generalize l.getD vj p0=p at *;obtain⟨pd,ps⟩:=p;simp only at bu sf zb go;have ad9:ps.length<=9223372036854775807:=by omega
 refine ae λK hK=>?_;simp(disch:=omega)[-getD_eq_getElem?_getD,bu,bB];apply hK;have rn:bN (J++[.cells [.int .i64 pd,.sl ps.length (ints ps) .none]]) U:=hS.ok.snoc (by simp);have jV:=hS.new _ rn;have JE:(J++[aA.cells [.int .i64 pd,.sl ps.length (ints ps) .none]]).length=J.length+1:=by simp
 obtain⟨vU,MW⟩:∃i,i=J.length:=⟨_,rfl⟩
 rw[<-MW] at jV;simp only[<-MW];generalize J++[aA.cells [.int .i64 pd,.sl ps.length (ints ps) .none]]=J1 at *;obtain⟨k,gO,UW⟩:=bK 0 sf;have zl:D.length=ids.length:=by rw[<-kU,agU]
 obtain⟨D1,d,D2,hD,X7⟩:=Dp (D:=D) (k:=k) (by omega);have Rp:d.id=pd:=by
  rw[<-UW,<-kU,hD,agB,ahJ,agX (by omega),X7,ah1];rfl
 subst hD;have g10:=jV.hJ.get (i:=vU) (b:=.cells [.int .i64 pd,.sl ps.length (ints ps) .none]) (by simp);have g2:=jV.hJ.get (i:=bm) (b:=.map (gP ids)) (by simp[hm]);have l10:=(agC.1 g10).1;have l2:=(agC.1 g2).1;have Yf:=aX g10;have e2:=aX g2;have eB:=DR mM gO;rw[UW] at eB;have QX:=VK np;have TS:=JL pd (by have:=np pd sf;omega);have kT:kP pd=.one (.int .i64 pd):=rfl;rw[kT] at TS;have QW:k<nd:=by omega
 refine ae λK hK=>?_;simp(disch:=omega)[-getD_eq_getElem?_getD,Bv,Yf,e2,eB,QX,TS];apply hK;subst X7;refine aI ⟨[(1,.ptr b1 0),(3,.bJ bo nd nd),(4,.aQ bm),(51,.sl ts.length (du ts) .none),(52,.int .i64 (ts.length:Nat)),(53,.int .i64 (vi:Nat)),(8,.ptr p8 0),(58,.sl l.length (bD l) .none),(59,.int .i64 (l.length:Nat)),(60,.int .i64 (vj:Nat)),(10,.ptr vU 0),(11,.ptr bo (D1.length*3))],J1,U⟩ (ag [] [] (by simp) (by simp) (by show H.length<=_;omega) (by show T.length<=_;omega) jV.ok (by simp;omega)) ?_;refine Y4 H T ts l vi vj b1 bo bm nd p8 vU N f w lv _ J1 U D1 D2 d jV (by omega) (by omega) (by omega) AT (by omega) (by simp[h8]) Q λe J' d' zs z c1 c2 c3 c4 c5 c6 c7 c8=>?_;have Jm:=c1.pJ.le;have Jl:=c1.pU.le;refine aI ⟨[(1,.ptr b1 0),(3,.bJ bo nd nd),(4,.aQ bm),(51,.sl ts.length (du ts) .none),(52,.int .i64 (ts.length:Nat)),(53,.int .i64 (vi:Nat)),(8,.ptr p8 0),(58,.sl l.length (bD l) .none),(59,.int .i64 (l.length:Nat)),(60,.int .i64 (vj:Nat)),(10,.ptr vU 0),(11,.ptr bo (D1.length*3)),(13,.ptr d'.i (zs.length*2))],J',U⟩ (ag [] [] (by simp) (by simp) (by show H.length<=_;omega) (by show T.length<=_;omega) c1.ok c8) ?_;refine O8 H T ts l vi vj b1 bo bm nd p8 vU (N+1) f pd w lv ps _ J' U D1 D2 d' zs z c1 c5 (by omega) (by omega) (by omega) (by omega) (by simp[h8]) (by simp) Q λe J2 d2 z2 q1 q2 q3 q4 q5 q6 q7 q8=>?_;refine go e J2 (D1++d2::D2) ((q1.more (by omega)).sub (by simp)) (by omega) ?_ ?_ q8
 ·rw[<-kU];simp[q3,c3]
 ·unfold zt;simp only;rw[<-Rp];refine Dl (by rw[kU];exact mM) ?_;have e1:=Tu (zs:=d.dc.zs) (l:=zs.map Wz.zn) (z:=z.zn) (f:=f) (by rw[<-c7];simp[Dz.dc,c5]) (ps.map λa=>(w,a));have e2:d2.dc.zs=zs.map Wz.zn++[⟨z.f,z.ws++ps.map λa=>(w,a)⟩]:=by simp[Dz.dc,q5,Wz.zn,q6,q7]
  have e3:d2.dc=⟨d.id,d2.dc.zs,d.ns⟩:=by show (⟨d2.id,_,d2.ns⟩:Dc)=_;rw[q3,c3,q4,c4];rfl
  rw[e3,e2];show _=(⟨d.id,wM d.dc.zs f _,d.ns⟩:Dc);rw[e1];rfl
attribute [-simp] getD_eq_getElem?_getD in
def Kl (H:List aA)(T:au)(ts:List Tm)(vi b1 bo bm nd:Nat)(N:Nat)(ids:List Int)(R:List (Nat×aA))(J:List aA)(U:au)(D:List Dz)
  (hS:DS H T R bo N J U D) (kU:D.map (·.id)=ids) (vN:nd=ids.length) (mM:ids.Nodup) (np:∀i∈ids,1<=i/\i<=1000000000) (hk:vi<ts.length) (Cv:(ts.getD vi t0).l.length<=1000) (sf:∀p∈(ts.getD vi t0).l,p.1∈ids/\p.2.length<=1000) (hN:N+1001000<=1099511627776) (wA:b1<J.length) (AT:H.length<=bo)
  (hm:(bm,.map (gP ids))∈R) (Q:Exit->St->Prop)
  (go:∀(e:Env)(J':List aA)(D':List Dz),DS H T R bo (N+1001000) J' U D'->J.length<=J'.length->D'.map (·.id)=ids->D'.map Dz.dc=stepT (D.map Dz.dc) (ts.getD vi t0)->
   bC J'.length U.length e [(1,.ptr b1 0),(3,.bJ bo nd nd),(4,.aQ bm),(51,.sl ts.length (du ts) .none),(52,.int .i64 (ts.length:Nat)),(53,.int .i64 (vi:Nat))]->Q .normal ⟨e,J',U⟩) :
  AW ⟨prog,192,190,H.length,T.length,[100100,100131]⟩ (dX [1,1,1,1,1,0,1,0,0,1,1,0,0] (Tryz.f88.body.getD .skip)) Q ⟨[(1,.ptr b1 0),(3,.bJ bo nd nd),(4,.aQ bm),(51,.sl ts.length (du ts) .none),(52,.int .i64 (ts.length:Nat)),(53,.int .i64 (vi:Nat))],J,U⟩:=by
 conv=>arg 2;whnf
 have lm:=hS.hJ.lt (ag1 _ hm);have lo:=hS.hJ.lt (i:=bo) (b:=.cells (fo D)) (by simp);have lH:=hS.pJ.le;have lT:=hS.pU.le;have bu:=nG ts vi hk;generalize ts.getD vi t0=t at *;obtain⟨f,w,l⟩:=t;simp only at bu Cv sf go;have aen:l.length<=9223372036854775807:=by omega
 refine ae λK hK=>?_;simp(disch:=omega)[bu,gk];apply hK;have rn:bN (J++[.cells [.int .i64 f,.str w,.sl l.length (bD l) .none]]) U:=hS.ok.snoc (by simp);have jV:=hS.new _ rn;have JE:(J++[aA.cells [.int .i64 f,.str w,.sl l.length (bD l) .none]]).length=J.length+1:=by simp
 obtain⟨p8,h8⟩:∃i,i=J.length:=⟨_,rfl⟩
 rw[<-h8] at jV;simp only[<-h8];generalize J++[aA.cells [.int .i64 f,.str w,.sl l.length (bD l) .none]]=J1 at *;have g8:=jV.hJ.get (i:=p8) (b:=.cells [.int .i64 f,.str w,.sl l.length (bD l) .none]) (by simp);have l8:=(agC.1 g8).1;have e8:=aX g8;refine ae λK hK=>?_;simp(disch:=omega)[e8];apply hK;apply aj;refine aJ (X:=Nat×List aA×List Dz) (λx=>⟨[(1,.ptr b1 0),(3,.bJ bo nd nd),(4,.aQ bm),(51,.sl ts.length (du ts) .none),(52,.int .i64 (ts.length:Nat)),(53,.int .i64 (vi:Nat)),(8,.ptr p8 0),(58,.sl l.length (bD l) .none),(59,.int .i64 (l.length:Nat)),(60,.int .i64 (x.1:Nat))],x.2.1,U⟩)
  (λx=>x.1<=l.length/\DS H T ((p8,.cells [.int .i64 f,.str w,.sl l.length (bD l) .none])::R) bo (N+1001*x.1) x.2.1 U x.2.2/\J1.length<=x.2.1.length/\x.2.2.map (·.id)=ids/\x.2.2.map Dz.dc=(l.take x.1).foldl (zt f w) (D.map Dz.dc)) (λx=>l.length-x.1) (0,J1,D) ?_ ?_ ?_
 ·exact⟨agP _,jV,agE _,kU,by simp⟩
 ·refine ag [] [] ?_ ?_ ?_ ?_ jV.ok ?_
  all_goals simp
  all_goals omega
 ·rintro⟨k,J2,D2⟩ ⟨k1,k2,k3,k4,k5⟩;simp only at k1 k2 k3 k4 k5;have Mr:=k2.pJ.le;have Qm:=k2.pU.le;apply ae;intro K Z;simp(disch:=omega);apply Z;refine af λK2 bp=>?_;refine aU rfl (λgB=>?_) (λgB=>?_)
  ·simp  at gB;have hp:=sf _ (aT l k p0 gB);apply aq;simp(disch:=omega) ;apply bp;clear bp;refine af λK3 bG=>?_;apply aj;refine aI ⟨[(1,.ptr b1 0),(3,.bJ bo nd nd),(4,.aQ bm),(51,.sl ts.length (du ts) .none),(52,.int .i64 (ts.length:Nat)),(53,.int .i64 (vi:Nat)),(8,.ptr p8 0),(58,.sl l.length (bD l) .none),(59,.int .i64 (l.length:Nat)),(60,.int .i64 (k:Nat))],J2,U⟩ (ag [] [] (by simp) (by simp) (by show H.length<=_;omega) (by show T.length<=_;omega) k2.ok (by simp;omega)) ?_;refine KY H T ts l vi k b1 bo bm nd p8 (N+1001*k) f w _ ids _ J2 U D2 k2 k4 mM np vN gB (by omega) hp.1 hp.2 (by omega) (by omega) AT (by simp[hm]) (List.mem_cons_self ..) _ λe J' D' a1 a2 a3 a4 a5=>?_;have Jm:=a1.pJ.le;have Jl:=a1.pU.le;refine bG _ (aI ⟨[(1,.ptr b1 0),(3,.bJ bo nd nd),(4,.aQ bm),(51,.sl ts.length (du ts) .none),(52,.int .i64 (ts.length:Nat)),(53,.int .i64 (vi:Nat)),(8,.ptr p8 0),(58,.sl l.length (bD l) .none),(59,.int .i64 (l.length:Nat)),(60,.int .i64 (k:Nat))],J',U⟩ (ag [] [] (by simp) (by simp) (by show H.length<=_;omega) (by show T.length<=_;omega) a1.ok a5) ?_);clear bG;refine aC λK hK=>?_;simp(disch:=omega) ;apply hK;refine⟨(k+1,J',D'),⟨by show k+1<=_;omega,a1.more (by omega),by show J1.length<=J'.length;omega,a3,?_⟩,by show l.length-(k+1)<l.length-k;omega,?_⟩
   ·show D'.map Dz.dc=(l.take (k+1)).foldl _ _;rw[mJ _ _ _ p0 k gB,a4,k5]
   ·refine ag [] [] ?_ ?_ ?_ ?_ a1.ok ?_
    all_goals simp
    all_goals omega
  ·simp  at gB;have qa:k=l.length:=by omega
   subst qa;apply aG;simp(disch:=omega) ;rw[agZ] at k5;refine go _ J2 D2 ((k2.more (by omega)).sub (by simp)) (by omega) k4 k5 ?_;simp;omega
attribute [-simp] getD_eq_getElem?_getD in
def BR (H:List aA)(T:au)(s:Sg)(b1 bo bm nd:Nat)(N:Nat)(ids:List Int)(R:List (Nat×aA))(J:List aA)(U:au)(D:List Dz)
  (hS:DS H T R bo N J U D) (kU:D.map (·.id)=ids) (vN:nd=ids.length) (mM:ids.Nodup) (np:∀i∈ids,1<=i/\i<=1000000000) (hs:uX s) (sf:∀t∈s.bO,∀p∈t.l,p.1∈ids) (hN:N+1001000000<=1099511627776) (h1:(b1,.cells (dA s))∈R) (AT:H.length<=bo)
  (hm:(bm,.map (gP ids))∈R) (Q:Exit->St->Prop)
  (go:∀(e:Env)(J':List aA)(D':List Dz),DS H T R bo (N+1001000000) J' U D'->D'.map (·.id)=ids->D'.map Dz.dc=s.bO.foldl stepT (D.map Dz.dc)->
   bC J'.length U.length e [(1,.ptr b1 0),(3,.bJ bo nd nd),(4,.aQ bm)]->AW ⟨prog,192,190,H.length,T.length,[100100,100131]⟩ (dX [1,1,1,1,1,1] (Tryz.f88.body.getD .skip)) Q ⟨e,J',U⟩) :
  AW ⟨prog,192,190,H.length,T.length,[100100,100131]⟩ (dX [1,1,1,1,1] (Tryz.f88.body.getD .skip)) Q ⟨[(1,.ptr b1 0),(3,.bJ bo nd nd),(4,.aQ bm)],J,U⟩:=by
 conv=>arg 2;whnf
 have lm:=hS.hJ.lt (ag1 _ hm);have lo:=hS.hJ.lt (i:=bo) (b:=.cells (fo D)) (by simp);have g1:=hS.hJ.get (ag1 _ h1);have l1:=(agC.1 g1).1;have e1:=aX g1;have lH:=hS.pJ.le;have lT:=hS.pU.le;obtain⟨aB,ts,aO⟩:=s;obtain⟨sd,st,sw,sc,sx⟩:=hs;simp only at e1 sd st sw sc sx sf go;have vC:ts.length<=9223372036854775807:=by omega
 refine af λK1 aP=>?_;refine ae λK hK=>?_;simp(disch:=omega)[e1];apply hK;apply aj;refine aJ (X:=Nat×List aA×List Dz) (λx=>⟨[(1,.ptr b1 0),(3,.bJ bo nd nd),(4,.aQ bm),(51,.sl ts.length (du ts) .none),(52,.int .i64 (ts.length:Nat)),(53,.int .i64 (x.1:Nat))],x.2.1,U⟩)
  (λx=>x.1<=ts.length/\DS H T R bo (N+1001000*x.1) x.2.1 U x.2.2/\J.length<=x.2.1.length/\x.2.2.map (·.id)=ids/\x.2.2.map Dz.dc=(ts.take x.1).foldl stepT (D.map Dz.dc)) (λx=>ts.length-x.1) (0,J,D) ?_ ?_ ?_
 ·exact⟨agP _,hS,agE _,kU,by simp⟩
 ·refine ag [] [] ?_ ?_ ?_ ?_ hS.ok ?_
  all_goals simp
  all_goals omega
 ·rintro⟨k,J2,D2⟩ ⟨k1,k2,k3,k4,k5⟩;simp only at k1 k2 k3 k4 k5;have Mr:=k2.pJ.le;have Qm:=k2.pU.le;apply ae;intro K Z;simp(disch:=omega);apply Z;refine af λK2 bp=>?_;refine aU rfl (λgB=>?_) (λgB=>?_)
  ·simp  at gB;have XG:=aT ts k t0 gB;have hw:=sw _ XG;apply aq;simp(disch:=omega) ;apply bp;clear bp;refine af λK3 bG=>?_;apply aj;refine aI ⟨[(1,.ptr b1 0),(3,.bJ bo nd nd),(4,.aQ bm),(51,.sl ts.length (du ts) .none),(52,.int .i64 (ts.length:Nat)),(53,.int .i64 (k:Nat))],J2,U⟩ (ag [] [] (by simp) (by simp) (by show H.length<=_;omega) (by show T.length<=_;omega) k2.ok (by simp;omega)) ?_;refine Kl H T ts k b1 bo bm nd (N+1001000*k) ids _ J2 U D2 k2 k4 vN mM np gB hw.2.1 (λp hp=>⟨sf _ XG p hp,hw.2.2 p hp⟩) (by omega) (by omega) AT hm _ λe J' D' a1 a2 a3 a4 a5=>?_;have Jm:=a1.pJ.le;have Jl:=a1.pU.le;refine bG _ (aI ⟨[(1,.ptr b1 0),(3,.bJ bo nd nd),(4,.aQ bm),(51,.sl ts.length (du ts) .none),(52,.int .i64 (ts.length:Nat)),(53,.int .i64 (k:Nat))],J',U⟩ (ag [] [] (by simp) (by simp) (by show H.length<=_;omega) (by show T.length<=_;omega) a1.ok a5) ?_);clear bG;refine aC λK hK=>?_;simp(disch:=omega) ;apply hK;refine⟨(k+1,J',D'),⟨by show k+1<=_;omega,a1.more (by omega),by show J.length<=J'.length;omega,a3,?_⟩,by show ts.length-(k+1)<ts.length-k;omega,?_⟩
   ·show D'.map Dz.dc=(ts.take (k+1)).foldl _ _;rw[mJ _ _ _ t0 k gB,a4,k5]
   ·refine ag [] [] ?_ ?_ ?_ ?_ a1.ok ?_
    all_goals simp
    all_goals omega
  ·simp  at gB;have qa:k=ts.length:=by omega
   subst qa;apply aG;simp(disch:=omega) ;rw[agZ] at k5;apply aP;clear aP;refine go _ J2 D2 (k2.more (by omega)) k4 k5 ?_;simp;omega
attribute [-simp] getD_eq_getElem?_getD in
def LC (H:List aA)(T:au)(aO:List Cl)(x:List Nm)(vi vk b1 bo bm nd yq:Nat)(N:Nat)(f:Int)(xv:AV)(ids:List Int)(R:List (Nat×aA))(J:List aA)(U:au)(D:List Dz)
  (hS:DS H T R bo N J U D) (kU:D.map (·.id)=ids) (vN:nd=ids.length) (mM:ids.Nodup) (np:∀i∈ids,1<=i/\i<=1000000000) (hk:vk<x.length) (Cv:x.length<=1000) (sf:(x.getD vk n0).2∈ids) (hN:N+1<=1099511627776) (wA:b1<J.length) (AT:H.length<=bo)
  (hm:(bm,.map (gP ids))∈R) (TV:(yq,.cells [.int .i64 f,xv])∈R) (Q:Exit->St->Prop)
  (go:∀(e:Env)(J':List aA)(U':au)(D':List Dz),(bN J' U'->DS H T R bo (N+1) J' U' D')->J.length<=J'.length->D'.map (·.id)=ids->D'.map Dz.dc=zx f (D.map Dz.dc) (x.getD vk n0)->
   bC J'.length U'.length e [(1,.ptr b1 0),(3,.bJ bo nd nd),(4,.aQ bm),(138,.sl aO.length (dH aO) .none),(139,.int .i64 (aO.length:Nat)),(140,.int .i64 (vi:Nat)),(17,.ptr yq 0),(145,.sl x.length (bA x) .none),(146,.int .i64 (x.length:Nat)),(147,.int .i64 (vk:Nat))]->Q .normal ⟨e,J',U'⟩) :
  AW ⟨prog,192,190,H.length,T.length,[100100,100131]⟩ (dX [1,1,1,1,1,1,0,1,0,0,1,1,0,0,1,1,0,0,1,1,0,0] (Tryz.f88.body.getD .skip)) Q ⟨[(1,.ptr b1 0),(3,.bJ bo nd nd),(4,.aQ bm),(138,.sl aO.length (dH aO) .none),(139,.int .i64 (aO.length:Nat)),(140,.int .i64 (vi:Nat)),(17,.ptr yq 0),(145,.sl x.length (bA x) .none),(146,.int .i64 (x.length:Nat)),(147,.int .i64 (vk:Nat))],J,U⟩:=by
 conv=>arg 2;whnf
 have lm:=hS.hJ.lt (ag1 _ hm);have l17:=hS.hJ.lt (ag1 _ TV);have lo:=hS.hJ.lt (i:=bo) (b:=.cells (fo D)) (by simp);have lH:=hS.pJ.le;have lT:=hS.pU.le;have bu:=gV x vk hk;generalize x.getD vk n0=y at *;obtain⟨yn,yd⟩:=y;simp only at bu sf go;refine ae λK hK=>?_;simp(disch:=omega)[bu,cL];apply hK;have rn:bN (J++[.cells [.int .i64 yn,.int .i64 yd]]) U:=hS.ok.snoc (by simp);have jV:=hS.new _ rn;have JE:(J++[aA.cells [.int .i64 yn,.int .i64 yd]]).length=J.length+1:=by simp
 obtain⟨p19,h19⟩:∃i,i=J.length:=⟨_,rfl⟩
 rw[<-h19] at jV;simp only[<-h19];generalize J++[aA.cells [.int .i64 yn,.int .i64 yd]]=J1 at *;obtain⟨k,gO,UW⟩:=bK 0 sf;have zl:D.length=ids.length:=by rw[<-kU,agU]
 obtain⟨D1,d,D2,hD,X7⟩:=Dp (D:=D) (k:=k) (by omega);have Rp:d.id=yd:=by
  rw[<-UW,<-kU,hD,agB,ahJ,agX (by omega),X7,ah1];rfl
 subst hD;have g19:=jV.hJ.get (i:=p19) (b:=.cells [.int .i64 yn,.int .i64 yd]) (by simp);have g17:=jV.hJ.get (i:=yq) (b:=.cells [.int .i64 f,xv]) (by simp[TV]);have g2:=jV.hJ.get (i:=bm) (b:=.map (gP ids)) (by simp[hm]);have MD:=jV.hJ.get (i:=bo) (b:=.cells (fo (D1++d::D2))) (by simp);have l19:=(agC.1 g19).1;have agc:=(agC.1 g17).1;have l2:=(agC.1 g2).1;have lo':=(agC.1 MD).1;have e19:=aX g19;have U9:=aX g17;have e2:=aX g2;have eo:=aX MD;have eB:=DR mM gO;rw[UW] at eB;have QX:=VK np;have TS:=JL yd (by have:=np yd sf;omega);have kT:kP yd=.one (.int .i64 yd):=rfl;rw[kT] at TS;have QW:k<nd:=by omega
 refine ae λK hK=>?_;simp(disch:=omega)[Bv,e19,e2,eB,QX,TS];apply hK;subst X7;obtain⟨r1,r2,r3⟩:=Gx (D1:=D1) (D2:=D2) d;have y9:(fo (D1++d::D2)).length=(D1.length+1+D2.length)*3:=by rw[lj];simp;omega
 have mU:=λv=>(I5 (D1:=D1) (D2:=D2) d v).2;obtain⟨hz1,H7,hz3,hz4⟩:=jV.hD d (by simp);obtain⟨id,zs,i,cap,rest,ns,tk⟩:=d;simp only at r1 r2 r3 mU Rp hz1 H7 hz3 hz4;have hT:(D1++⟨id,zs,i,cap,rest,ns,tk⟩::D2).flatMap Dz.tx=D1.flatMap Dz.tx++(Dz.tx ⟨id,zs,i,cap,rest,ns,tk⟩++D2.flatMap Dz.tx):=by simp
 have Ck:=jV.hU;rw[hT] at Ck;have fin:∀(e:Env)(U2:au)(TA:Nat),Has U2 (D1.flatMap Dz.tx++((TA,((ns.length+1)*2,2))::D2.flatMap Dz.tx))->T.length<=TA->gG T U2->U.length<=U2.length->
   bC J1.length U2.length e [(1,.ptr b1 0),(3,.bJ bo nd nd),(4,.aQ bm),(138,.sl aO.length (dH aO) .none),(139,.int .i64 (aO.length:Nat)),(140,.int .i64 (vi:Nat)),(17,.ptr yq 0),(145,.sl x.length (bA x) .none),(146,.int .i64 (x.length:Nat)),(147,.int .i64 (vk:Nat))]->Q .normal ⟨e,J1.set bo (.cells (fo D1++([.int .i64 id,gv zs.length i cap,.sl (ns.length+1) (bA (ns++[(f,yn)])) (.own TA)]++fo D2))),U2⟩:=by
  intro e U2 TA hU' iz hP hUl he;have qc:fo (D1++⟨id,zs,i,cap,rest,ns++[(f,yn)],TA⟩::D2)=fo D1++([.int .i64 id,gv zs.length i cap,.sl (ns.length+1) (bA (ns++[(f,yn)])) (.own TA)]++fo D2):=by simp[fo,ov]
  rw[<-qc];refine go _ _ _ (D1++⟨id,zs,i,cap,rest,ns++[(f,yn)],TA⟩::D2) (λho=>⟨?_,?_,?_,jV.pJ.set AT _,hP,ho⟩) (by simp;omega) ?_ ?_ (by simpa using he)
  ·have:=Has.set (A:=(p19,.cells [.int .i64 yn,.int .i64 yd])::R) (B:=(D1++⟨id,zs,i,cap,rest,ns,tk⟩::D2).flatMap Dz.bx) jV.hJ (.cells (fo (D1++⟨id,zs,i,cap,rest,ns++[(f,yn)],TA⟩::D2)));have h2:=this.sub ((ahB (p19,aA.cells [.int .i64 yn,.int .i64 yd]) R).append_right _);simpa[Dz.bx] using h2
  ·rw[ahk,agT];simpa[Dz.tx] using hU'
  ·intro y hy;rcases agR.1 hy with hy|hy
   ·exact(jV.hD y (by simp[hy])).more (ahy _)
   rcases ag6.1 hy with rfl|hy
   ·exact⟨hz1.more (ahy _),λz hz=>(H7 z hz).more (ahy _),⟨by simp;omega,λ_=>iz⟩⟩
   ·exact(jV.hD y (by simp[hy])).more (ahy _)
  ·rw[<-kU];simp
  ·unfold zx;simp only;rw[<-Rp];exact Dl (d:=⟨id,zs,i,cap,rest,ns,tk⟩) (by rw[kU];exact mM) (by simp[Dz.dc,VO])
 rcases List.eq_nil_or_concat ns with hn|⟨QP,x0,hn⟩
 ·subst hn;simp only[ov,ain] at r3;simp only[Dz.tx,ain,aic] at Ck;refine cT [11,14] [0,0,0,0,0,0,0,0,0,0,0,0,1,1,1] [[0],[]] aw (by kernel_rfl) (by kernel_rfl) λK hK=>?_;simp(disch:=omega)[eo,r3,y9,U9,e19,mU];refine hK _ (fin _ _ U.length ?_ lT (jV.pU.app _) (by simp) (by simp;omega));have:=Ck.new (2,2);refine this.perm ?_;rw[agV];exact(ahr _ _).symm.append_left _
 ·rw[List.concat_eq_append] at hn;subst hn;have dN:¬QP++[x0]=[]:=by simp
  simp only[ov,agL dN] at r3;simp only[Dz.tx,agL dN,List.singleton_append] at Ck;have gU:=Ck.get (i:=tk) (b:=((QP++[x0]).length*2,2)) (by simp);have lU:=(agC.1 gU).1;have eU:=aX gU;have QU:=cL (QP++[x0]);have hq:QP.length+1<=N:=by simpa using hz3
  have Cu:=ux (QP++[x0]) (f,yn);simp only at Cu;refine cT [11,14] [0,0,0,0,0,0,0,0,0,0,0,0,1,1,1] [[0],[]] aw (by kernel_rfl) (by kernel_rfl) λK hK=>?_;simp(disch:=omega)[eo,r3,y9,U9,e19,mU,eU,QU,Cu];simp only[agF,ahw] at fin;have hap:QP++[x0,(f,yn)]=QP++[x0]++[(f,yn)]:=by simp
  first|rw[hap]|skip
  refine hK _ ?_;refine fin _ (U.set tk ((QP.length+1+1)*2,2)) tk ?_ (hz4 dN) (jV.pU.set (hz4 dN) _) (by simp) ?_
  ·have:=Has.set Ck ((QP.length+1+1)*2,2);simpa using this
  ·simp;omega
attribute [-simp] getD_eq_getElem?_getD in
def P0 (H:List aA)(T:au)(aO:List Cl)(vi b1 bo bm nd:Nat)(N:Nat)(ids:List Int)(R:List (Nat×aA))(J:List aA)(U:au)(D:List Dz)
  (hS:DS H T R bo N J U D) (kU:D.map (·.id)=ids) (vN:nd=ids.length) (mM:ids.Nodup) (np:∀i∈ids,1<=i/\i<=1000000000) (hk:vi<aO.length) (Cv:(aO.getD vi c0).x.length<=1000) (sf:∀y∈(aO.getD vi c0).x,y.2∈ids) (hN:N+1000<=1099511627776) (wA:b1<J.length) (AT:H.length<=bo)
  (hm:(bm,.map (gP ids))∈R) (Q:Exit->St->Prop)
  (go:∀(e:Env)(J':List aA)(U':au)(D':List Dz),DS H T R bo (N+1000) J' U' D'->J.length<=J'.length->D'.map (·.id)=ids->D'.map Dz.dc=CT (D.map Dz.dc) (aO.getD vi c0)->
   bC J'.length U'.length e [(1,.ptr b1 0),(3,.bJ bo nd nd),(4,.aQ bm),(138,.sl aO.length (dH aO) .none),(139,.int .i64 (aO.length:Nat)),(140,.int .i64 (vi:Nat))]->Q .normal ⟨e,J',U'⟩) :
  AW ⟨prog,192,190,H.length,T.length,[100100,100131]⟩ (dX [1,1,1,1,1,1,0,1,0,0,1,1,0,0] (Tryz.f88.body.getD .skip)) Q ⟨[(1,.ptr b1 0),(3,.bJ bo nd nd),(4,.aQ bm),(138,.sl aO.length (dH aO) .none),(139,.int .i64 (aO.length:Nat)),(140,.int .i64 (vi:Nat))],J,U⟩:=by
 conv=>arg 2;whnf
 have lm:=hS.hJ.lt (ag1 _ hm);have lo:=hS.hJ.lt (i:=bo) (b:=.cells (fo D)) (by simp);have lH:=hS.pJ.le;have lT:=hS.pU.le;have bu:=xK aO vi hk;generalize aO.getD vi c0=t at *;obtain⟨f,x⟩:=t;simp only at bu Cv sf go;have aen:x.length<=9223372036854775807:=by omega
 refine ae λK hK=>?_;simp(disch:=omega)[bu,nI];apply hK;have rn:bN (J++[.cells [.int .i64 f,.sl x.length (bA x) .none]]) U:=hS.ok.snoc (by simp);have jV:=hS.new _ rn;have JE:(J++[aA.cells [.int .i64 f,.sl x.length (bA x) .none]]).length=J.length+1:=by simp
 obtain⟨yq,TV⟩:∃i,i=J.length:=⟨_,rfl⟩
 rw[<-TV] at jV;simp only[<-TV];generalize J++[aA.cells [.int .i64 f,.sl x.length (bA x) .none]]=J1 at *;have g17:=jV.hJ.get (i:=yq) (b:=.cells [.int .i64 f,.sl x.length (bA x) .none]) (by simp);have l17:=(agC.1 g17).1;have U9:=aX g17;refine ae λK hK=>?_;simp(disch:=omega)[U9];apply hK;apply aj;refine aJ (X:=Nat×List aA×au×List Dz) (λy=>⟨[(1,.ptr b1 0),(3,.bJ bo nd nd),(4,.aQ bm),(138,.sl aO.length (dH aO) .none),(139,.int .i64 (aO.length:Nat)),(140,.int .i64 (vi:Nat)),(17,.ptr yq 0),(145,.sl x.length (bA x) .none),(146,.int .i64 (x.length:Nat)),(147,.int .i64 (y.1:Nat))],y.2.1,y.2.2.1⟩)
  (λy=>y.1<=x.length/\DS H T ((yq,.cells [.int .i64 f,.sl x.length (bA x) .none])::R) bo (N+y.1) y.2.1 y.2.2.1 y.2.2.2/\J1.length<=y.2.1.length/\y.2.2.2.map (·.id)=ids/\y.2.2.2.map Dz.dc=(x.take y.1).foldl (zx f) (D.map Dz.dc)) (λy=>x.length-y.1) (0,J1,U,D) ?_ ?_ ?_
 ·exact⟨agP _,jV,agE _,kU,by simp⟩
 ·refine ag [] [] ?_ ?_ ?_ ?_ jV.ok ?_
  all_goals simp
  all_goals omega
 ·rintro⟨k,J2,U2,D2⟩ ⟨k1,k2,k3,k4,k5⟩;simp only at k1 k2 k3 k4 k5;have Mr:=k2.pJ.le;have Qm:=k2.pU.le;apply ae;intro K Z;simp(disch:=omega);apply Z;refine af λK2 bp=>?_;refine aU rfl (λgB=>?_) (λgB=>?_)
  ·simp  at gB;have hp:=sf _ (aT x k n0 gB);apply aq;simp(disch:=omega) ;apply bp;clear bp;refine af λK3 bG=>?_;apply aj;refine aI ⟨[(1,.ptr b1 0),(3,.bJ bo nd nd),(4,.aQ bm),(138,.sl aO.length (dH aO) .none),(139,.int .i64 (aO.length:Nat)),(140,.int .i64 (vi:Nat)),(17,.ptr yq 0),(145,.sl x.length (bA x) .none),(146,.int .i64 (x.length:Nat)),(147,.int .i64 (k:Nat))],J2,U2⟩ (ag [] [] (by simp) (by simp) (by show H.length<=_;omega) (by show T.length<=_;omega) k2.ok (by simp;omega)) ?_;refine LC H T aO x vi k b1 bo bm nd yq (N+k) f _ ids _ J2 U2 D2 k2 k4 vN mM np gB Cv hp (by omega) (by omega) AT (by simp[hm]) (List.mem_cons_self ..) _ λe J' U' D' a1 a2 a3 a4 a5=>?_;refine bG _ (dy λAX=>?_);replace a1:=a1 AX;have Jm:=a1.pJ.le;have Jl:=a1.pU.le;refine aI ⟨[(1,.ptr b1 0),(3,.bJ bo nd nd),(4,.aQ bm),(138,.sl aO.length (dH aO) .none),(139,.int .i64 (aO.length:Nat)),(140,.int .i64 (vi:Nat)),(17,.ptr yq 0),(145,.sl x.length (bA x) .none),(146,.int .i64 (x.length:Nat)),(147,.int .i64 (k:Nat))],J',U'⟩ (ag [] [] (by simp) (by simp) (by show H.length<=_;omega) (by show T.length<=_;omega) a1.ok a5) ?_;clear bG;refine aC λK hK=>?_;simp(disch:=omega) ;apply hK;refine⟨(k+1,J',U',D'),⟨by show k+1<=_;omega,a1,by show J1.length<=J'.length;omega,a3,?_⟩,by show x.length-(k+1)<x.length-k;omega,?_⟩
   ·show D'.map Dz.dc=(x.take (k+1)).foldl _ _;rw[mJ _ _ _ n0 k gB,a4,k5]
   ·refine ag [] [] ?_ ?_ ?_ ?_ a1.ok ?_
    all_goals simp
    all_goals omega
  ·simp  at gB;have qa:k=x.length:=by omega
   subst qa;apply aG;simp(disch:=omega) ;rw[agZ] at k5;refine go _ J2 U2 D2 ((k2.more (by omega)).sub (by simp)) (by omega) k4 k5 ?_;simp;omega
attribute [-simp] getD_eq_getElem?_getD in
def Fv (H:List aA)(T:au)(s:Sg)(b1 bo bm nd:Nat)(N:Nat)(ids:List Int)(R:List (Nat×aA))(J:List aA)(U:au)(D:List Dz)
  (hS:DS H T R bo N J U D) (kU:D.map (·.id)=ids) (vN:nd=ids.length) (mM:ids.Nodup) (np:∀i∈ids,1<=i/\i<=1000000000) (hs:uX s) (sf:∀c∈s.aO,∀y∈c.x,y.2∈ids) (hN:N+1000000<=1099511627776) (h1:(b1,.cells (dA s))∈R) (AT:H.length<=bo)
  (hm:(bm,.map (gP ids))∈R) (Q:Exit->St->Prop)
  (go:∀(e:Env)(J':List aA)(U':au)(D':List Dz),DS H T R bo (N+1000000) J' U' D'->D'.map (·.id)=ids->D'.map Dz.dc=s.aO.foldl CT (D.map Dz.dc)->
   bC J'.length U'.length e [(1,.ptr b1 0),(3,.bJ bo nd nd),(4,.aQ bm)]->AW ⟨prog,192,190,H.length,T.length,[100100,100131]⟩ (dX [1,1,1,1,1,1,1] (Tryz.f88.body.getD .skip)) Q ⟨e,J',U'⟩) :
  AW ⟨prog,192,190,H.length,T.length,[100100,100131]⟩ (dX [1,1,1,1,1,1] (Tryz.f88.body.getD .skip)) Q ⟨[(1,.ptr b1 0),(3,.bJ bo nd nd),(4,.aQ bm)],J,U⟩:=by
 conv=>arg 2;whnf
 have lm:=hS.hJ.lt (ag1 _ hm);have lo:=hS.hJ.lt (i:=bo) (b:=.cells (fo D)) (by simp);have g1:=hS.hJ.get (ag1 _ h1);have l1:=(agC.1 g1).1;have e1:=aX g1;have lH:=hS.pJ.le;have lT:=hS.pU.le;obtain⟨aB,ts,aO⟩:=s;obtain⟨sd,st,sw,sc,sx⟩:=hs;simp only at e1 sd st sw sc sx sf go;have vC:aO.length<=9223372036854775807:=by omega
 refine af λK1 aP=>?_;refine ae λK hK=>?_;simp(disch:=omega)[e1];apply hK;apply aj;refine aJ (X:=Nat×List aA×au×List Dz) (λx=>⟨[(1,.ptr b1 0),(3,.bJ bo nd nd),(4,.aQ bm),(138,.sl aO.length (dH aO) .none),(139,.int .i64 (aO.length:Nat)),(140,.int .i64 (x.1:Nat))],x.2.1,x.2.2.1⟩)
  (λx=>x.1<=aO.length/\DS H T R bo (N+1000*x.1) x.2.1 x.2.2.1 x.2.2.2/\J.length<=x.2.1.length/\x.2.2.2.map (·.id)=ids/\x.2.2.2.map Dz.dc=(aO.take x.1).foldl CT (D.map Dz.dc)) (λx=>aO.length-x.1) (0,J,U,D) ?_ ?_ ?_
 ·exact⟨agP _,hS,agE _,kU,by simp⟩
 ·refine ag [] [] ?_ ?_ ?_ ?_ hS.ok ?_
  all_goals simp
  all_goals omega
 ·rintro⟨k,J2,U2,D2⟩ ⟨k1,k2,k3,k4,k5⟩;simp only at k1 k2 k3 k4 k5;have Mr:=k2.pJ.le;have Qm:=k2.pU.le;apply ae;intro K Z;simp(disch:=omega);apply Z;refine af λK2 bp=>?_;refine aU rfl (λgB=>?_) (λgB=>?_)
  ·simp  at gB;have XG:=aT aO k c0 gB;have hw:=sx _ XG;apply aq;simp(disch:=omega) ;apply bp;clear bp;refine af λK3 bG=>?_;apply aj;refine aI ⟨[(1,.ptr b1 0),(3,.bJ bo nd nd),(4,.aQ bm),(138,.sl aO.length (dH aO) .none),(139,.int .i64 (aO.length:Nat)),(140,.int .i64 (k:Nat))],J2,U2⟩ (ag [] [] (by simp) (by simp) (by show H.length<=_;omega) (by show T.length<=_;omega) k2.ok (by simp;omega)) ?_;refine P0 H T aO k b1 bo bm nd (N+1000*k) ids _ J2 U2 D2 k2 k4 vN mM np gB hw (λp hp=>sf _ XG p hp) (by omega) (by omega) AT hm _ λe J' U' D' a1 a2 a3 a4 a5=>?_;have Jm:=a1.pJ.le;have Jl:=a1.pU.le;refine bG _ (aI ⟨[(1,.ptr b1 0),(3,.bJ bo nd nd),(4,.aQ bm),(138,.sl aO.length (dH aO) .none),(139,.int .i64 (aO.length:Nat)),(140,.int .i64 (k:Nat))],J',U'⟩ (ag [] [] (by simp) (by simp) (by show H.length<=_;omega) (by show T.length<=_;omega) a1.ok a5) ?_);clear bG;refine aC λK hK=>?_;simp(disch:=omega) ;apply hK;refine⟨(k+1,J',U',D'),⟨by show k+1<=_;omega,a1.more (by omega),by show J.length<=J'.length;omega,a3,?_⟩,by show aO.length-(k+1)<aO.length-k;omega,?_⟩
   ·show D'.map Dz.dc=(aO.take (k+1)).foldl _ _;rw[mJ _ _ _ c0 k gB,a4,k5]
   ·refine ag [] [] ?_ ?_ ?_ ?_ a1.ok ?_
    all_goals simp
    all_goals omega
  ·simp  at gB;have qa:k=aO.length:=by omega
   subst qa;apply aG;simp(disch:=omega) ;rw[agZ] at k5;apply aP;clear aP;refine go _ J2 U2 D2 (k2.more (by omega)) k4 k5 ?_;simp;omega
def Re (ts:List Tm)(id:Int):List (Int×List Wd):=ts.flatMap λt=>(t.l.filter λp=>p.1==id).map λp=>(t.f,p.2.map λa=>(t.w,a))
def qV (zs:List Zn)(es:List (Int×List Wd)):List Zn:=es.foldl (λzs e=>wM zs e.1 e.2) zs
def Mp (cs:List Cl)(id:Int):List Nm:=cs.flatMap λc=>(c.x.filter λy=>y.2==id).map λy=>(c.f,y.1)
def zH (zs:List Zn)(a b:List (Int×List Wd)):qV zs (a++b)=qV (qV zs a) b:=ail ..
theorem Up (f:Int)(w:Bs):∀(l:List Ps)(L:List Dc),l.foldl (zt f w) L=L.map λd=>⟨d.id,qV d.zs ((l.filter λp=>p.1==d.id).map λp=>(f,p.2.map λa=>(w,a))),d.ns⟩
 |[],L=>by simp[qV]
 |p::l,L=>by
  rw[aia,Up f w l];unfold zt Jy;rw[ahG];refine ahh λd hd=>?_;simp only[Function.comp]
  by_cases h:d.id=p.1
  ·rw[agN h,ahQ (by simp[h])];rfl
  ·rw[agL h,ahK (by simpa using λe=>h e.symm)]
theorem Uo:∀(ts:List Tm)(L:List Dc),ts.foldl stepT L=L.map λd=>⟨d.id,qV d.zs (Re ts d.id),d.ns⟩
 |[],L=>by simp[qV,Re]
 |t::ts,L=>by
  rw[aia,Uo ts];unfold stepT;rw[Up,ahG];refine ahh λd hd=>?_;simp only[Function.comp,Re,agT,zH]
theorem foldI (f:Int):∀(l:List Nm)(L:List Dc),l.foldl (zx f) L=L.map λd=>⟨d.id,d.zs,d.ns++(l.filter λy=>y.2==d.id).map λy=>(f,y.1)⟩
 |[],L=>by simp
 |p::l,L=>by
  rw[aia,foldI f l];unfold zx Jy;rw[ahG];refine ahh λd hd=>?_;simp only[Function.comp]
  by_cases h:d.id=p.2
  ·rw[agN h,ahQ (by simp[h])];simp[VO]
  ·rw[agL h,ahK (by simpa using λe=>h e.symm)]
theorem Ur:∀(cs:List Cl)(L:List Dc),cs.foldl CT L=L.map λd=>⟨d.id,d.zs,d.ns++Mp cs d.id⟩
 |[],L=>by simp[Mp]
 |c::cs,L=>by
  rw[aia,Ur cs];unfold CT;rw[foldI,ahG];refine ahh λd hd=>?_;simp only[Function.comp,Mp,agT,agV]
def de (g:Int->List Wd):List Zn:=[1,2,3,4].flatMap λf=>if g f=[] then [] else [⟨f,g f⟩]
def yO {g h:Int->List Wd}(e:∀f,1<=f->f<=4->g f=h f):de g=de h:=by
 simp only[de,agT,List.flatMap_nil,e 1 (by omega) (by omega),e 2 (by omega) (by omega),e 3 (by omega) (by omega),e 4 (by omega) (by omega)]
def H3 {g : Int -> List Wd} {f : Int} {ws : List Wd} (h1 : 1 <= f) (h4 : f <= 4) (hw : ws ≠ []) (hg : ∀ f', f < f' -> g f' = []) : wM (de g) f ws = de (λf' => if f' = f then g f' ++ ws else g f') := by
 rcases (by omega : f = 1 \/ f = 2 \/ f = 3 \/ f = 4) with rfl | rfl | rfl | rfl
 ·have a2 := hg 2 (by omega); have a3 := hg 3 (by omega); have a4 := hg 4 (by omega)
  by_cases b1 : g 1 = [] <;> simp [de, wM, Jj, *]
 ·have a3 := hg 3 (by omega); have a4 := hg 4 (by omega)
  by_cases b1 : g 1 = [] <;> by_cases b2 : g 2 = [] <;> simp [de, wM, Jj, *]
 ·have a4 := hg 4 (by omega)
  by_cases b1 : g 1 = [] <;> by_cases b2 : g 2 = [] <;> by_cases b3 : g 3 = [] <;> simp [de, wM, Jj, *]
 ·by_cases b1 : g 1 = [] <;> by_cases b2 : g 2 = [] <;> by_cases b3 : g 3 = [] <;> by_cases b4 : g 4 = [] <;> simp [de, wM, Jj, *]
def pk (es:List (Int×List Wd))(f:Int):List Wd:=(es.filter λe=>e.1==f).flatMap (·.2)
def Lf (es:List (Int×List Wd))(e:Int×List Wd)(f:Int):pk (es++[e]) f=if f=e.1 then pk es f++e.2 else pk es f:=by
 unfold pk;rw[aht]
 by_cases h:f=e.1
 ·rw[agN h,ahQ (by simp[h])];simp
 ·rw[agL h,ahK (by simpa using λx=>h x.symm)];simp
theorem EP (es:List (Int×List Wd))(hs:es.Pairwise λa b=>a.1<=b.1)(h14:∀e∈es,1<=e.1/\e.1<=4/\e.2≠[]):qV [] es=de (pk es):=by
 have key:∀r:List (Int×List Wd),(r.reverse.Pairwise λa b=>a.1<=b.1)->(∀e∈r,1<=e.1/\e.1<=4/\e.2≠[])->qV [] r.reverse=de (pk r.reverse):=by
  intro r
  induction r with
  |nil=>intro _ _;rfl
  |cons e r ih=>
   intro hp hm;rw[List.reverse_cons] at hp ⊢;rw[aio] at hp;obtain⟨p1,_,p3⟩:=hp;obtain⟨q1,q2,q3⟩:=hm e (by simp);rw[zH,ih p1 λx hx=>hm x (by simp[hx])];show wM _ e.1 e.2=_;rw[H3 q1 q2 q3 λf' hf=>?_]
   ·refine yO λf _ _=>?_;exact(Lf _ e f).symm
   ·unfold pk;rw[List.flatMap_eq_nil_iff];intro x hx;rw[ag0] at hx;have:=p3 x hx.1 e (by simp);simp at hx;omega
 have:=key es.reverse (by rwa [List.reverse_reverse]) λe he=>h14 e (by simpa using he)
 rwa [List.reverse_reverse] at this
def occs (ts:List Tm)(id f:Int):List Wd:=pk (Re ts id) f
def ja (s:Sg):List Dc:=s.aB.map λid=>⟨id,de λf=>jq (occs s.bO id f),Mp s.aO id⟩
def Kz:jq []=[]:=by unfold jq;simp
def nf (l:List Wd):jq l=[]↔l=[]:=by
 constructor
 ·intro h;have:=congrArg List.length h;unfold jq at this;rw[aiL] at this;exact aho.1 this
 ·rintro rfl;exact Kz
def Ve (z:Zn):Zn:=⟨z.f,jq z.ws⟩
def EM (g:Int->List Wd):(de g).map Ve=de λf=>jq (g f):=by
 unfold de;rw[List.map_flatMap]
 congr 1
 funext f
 by_cases h:g f=[]
 ·rw[agN h,agN ((nf _).2 h)];rfl
 ·rw[agL h,agL (λe=>h ((nf _).1 e))];rfl
section
variable {s : Sg}
theorem GM (hv:aY s=true):s.bO.Pairwise λa b=>a.f<=b.f:=by
 obtain⟨_,⟨ht,_⟩,_⟩:=ir hv;rw[ag8];have key:∀(n i:Nat)(h1:i<s.bO.length)(h2:i+n<s.bO.length),(s.bO[i]'h1).f<=(s.bO[i+n]'h2).f:=by
  intro n
  induction n with
  |zero=>intro i _ _;exact Int.le_refl _
  |succ n ih=>
   intro i h1 h2;refine Int.le_trans (ih i h1 (by omega)) ?_;have:=(ht (i+n+1) (by omega)).1;unfold rz at this;simp only[agO,ahx,agQ] at this;have h3:=this.2.resolve_left (by omega);rw[ah9,agB,agB,agD (by omega),agD (by omega)] at h3;simp only[aie,bT] at h3;have e:i+(n+1)=i+n+1:=by omega
   simp only[e];simp only[ahx,agO,agQ] at h3;omega
 intro i j h1 h2 jz;have:=key (j-i) i h1 (by omega);have e:i+(j-i)=j:=by omega
 simpa only[e] using this
def Ns (hv:aY s=true){t:Tm}(ht:t∈s.bO):(1<=t.f/\t.f<=4)/\t.l≠[]/\dS t.l=true/\∀p∈t.l,p.1∈s.aB:=by
 obtain⟨_,⟨h,_⟩,_⟩:=ir hv;obtain⟨i,hi,rfl⟩:=bK t0 ht;obtain⟨a,b⟩:=h i hi;unfold rz at a;unfold H4 at b;simp only[agO,agQ] at a b;exact⟨a.1.1,b.1.1,b.1.2,b.2⟩
def ZM (hv:aY s=true){c:Cl}(hc:c∈s.aO):(5<=c.f/\c.f<=7)/\∀y∈c.x,y.2∈s.aB:=by
 obtain⟨_,_,h⟩:=ir hv;obtain⟨i,hi,rfl⟩:=bK c0 hc;obtain⟨a,b⟩:=h i hi;unfold wF at a;simp only[agO,agQ] at a;refine⟨a.1.1,λy hy=>?_⟩;obtain⟨k,hk,rfl⟩:=bK n0 hy;have:=b k hk;unfold sn at this;simp only[agO,agQ] at this;exact this.1.1
def LP (hv:aY s=true)(id:Int):qV [] (Re s.bO id)=de (occs s.bO id):=by
 refine EP _ ?_ λe he=>?_
 ·unfold Re;rw[aiM];refine⟨λt ht=>?_,(GM hv).imp λ{a b} jK x hx y hy=>?_⟩
  ·rw[ahj];exact List.pairwise_of_forall λ_ _=>Int.le_refl _
  ·obtain⟨_,_,rfl⟩:=agG.1 hx;obtain⟨_,_,rfl⟩:=agG.1 hy;exact jK
 ·unfold Re at he;obtain⟨t,ht,he⟩:=ahm.1 he;obtain⟨p,hp,rfl⟩:=agG.1 he;obtain⟨a,b,c,d⟩:=Ns hv ht;obtain⟨v1,v2,v3⟩:=cU c;have:=(v3 p (ag0.1 hp).1).1;refine⟨a.1,a.2,?_⟩;intro h;rw[List.map_eq_nil_iff] at h;exact absurd h (by simpa using this)
end
def j6 (z:Wz):Wz:={ z with ws:=jq z.ws }
def qm (l:List Wd):(jq l).length=l.length:=aiL _
def RM {l:List Wz}{k:Nat}(hk:k<l.length)(r:List AV)(d:Wz):((nr l++r).drop (k*2)).take 2=[.int .i64 (l.getD k d).f,gv (l.getD k d).ws.length (l.getD k d).i (l.getD k d).cap]:=by
 have h:=kZ l;rw[aiP (by omega),ahL (by rw[ahp];omega)];exact fO Bk l k d hk
attribute [-simp] getD_eq_getElem?_getD in
def Y3 (H:List aA)(T:au)(b1 bo bm nd Qj vi vk nz zi zc:Nat)(N:Nat)(R:List (Nat×aA))(J:List aA)(U:au)(D1 D2:List Dz)(id:Int)(yl yX:List Wz)(z:Wz)(rest:List AV)(ns:List Nm)(tk:Nat)
  (hS:DS H T R bo N J U (D1++⟨id,yl++z::yX,zi,zc,rest,ns,tk⟩::D2)) (hN:N<=1099511627776) (hk:vk=yl.length) (hnz:nz=yl.length+1+yX.length) (dN:z.ws≠[]) (hT:z.ws.Pairwise λx y=>x.2≠y.2) (wA:b1<J.length) (My:bm<J.length) (hp:Qj<J.length) (Q:Exit->St->Prop)
  (go:∀(e:Env)(J':List aA),(bN J' U->DS H T R bo N J' U (D1++⟨id,yl++j6 z::yX,zi,zc,rest,ns,tk⟩::D2))->J.length<=J'.length->
   bC J'.length U.length e [(1,.ptr b1 0),(3,.bJ bo nd nd),(4,.aQ bm),(173,.cN bo 0 nd),(174,.int .i64 (nd:Nat)),(175,.int .i64 (vi:Nat)),(22,.ptr Qj 0),(180,.cN zi 0 nz),(181,.int .i64 (nz:Nat)),(182,.int .i64 (vk:Nat))]->Q .normal ⟨e,J',U⟩) :
  AW ⟨prog,192,190,H.length,T.length,[100100,100131]⟩ (dX [1,1,1,1,1,1,1,0,1,0,0,1,1,0,0,1,1,0,0,1,1,0,0] (Tryz.f88.body.getD .skip)) Q ⟨[(1,.ptr b1 0),(3,.bJ bo nd nd),(4,.aQ bm),(173,.cN bo 0 nd),(174,.int .i64 (nd:Nat)),(175,.int .i64 (vi:Nat)),(22,.ptr Qj 0),(180,.cN zi 0 nz),(181,.int .i64 (nz:Nat)),(182,.int .i64 (vk:Nat))],J,U⟩:=by
 conv=>arg 2;whnf
 have gz:=hS.hJ.get (i:=zi) (b:=.cells (nr (yl++z::yX)++rest)) (by simp[Dz.bx,gb]);have lz:=(agC.1 gz).1;have ez:=aX gz;have lo:=hS.hJ.lt (i:=bo) (b:=.cells (fo (D1++⟨id,yl++z::yX,zi,zc,rest,ns,tk⟩::D2))) (by simp);have lH:=hS.pJ.le;have lT:=hS.pU.le;have bu:=RM (l:=yl++z::yX) (k:=vk) (by simp;omega) rest z;have TP:(yl++z::yX).getD vk z=z:=by rw[hk,agB,agX (by omega),ah1];rfl
 rw[TP] at bu;have y6:(nr (yl++z::yX)++rest).length=nz*2+rest.length:=by rw[agF,kZ];simp;omega
 have QW:vk<nz:=by omega
 have hz:=(hS.hD ⟨id,yl++z::yX,zi,zc,rest,ns,tk⟩ (by simp)).w z (by simp);have sa:z.ws.length≠0:=λh=>dN (aho.1 h);simp only[gv,agL sa] at bu;refine ae λK hK=>?_;simp(disch:=omega)[ez,y6,bu];apply hK;have hlz:z.i<J.length:=hS.hJ.lt (b:=.cells (dQ z.ws++z.rest)) (by simp[Dz.bx,Wz.bx,gb,dN]);have rn:bN (J++[.cells [.int .i64 z.f,.bJ z.i z.ws.length z.cap]]) U:=hS.ok.snoc (by intro v hv;simp at hv;rcases hv with rfl|rfl<;>first|exact .int _ _|exact .bJ _ _ _ (by omega));have jV:=hS.new _ rn;have JE:(J++[aA.cells [.int .i64 z.f,.bJ z.i z.ws.length z.cap]]).length=J.length+1:=by simp
 obtain⟨p24,h24⟩:∃i,i=J.length:=⟨_,rfl⟩
 rw[<-h24] at jV;simp only[<-h24];generalize J++[aA.cells [.int .i64 z.f,.bJ z.i z.ws.length z.cap]]=J1 at *;have g24:=jV.hJ.get (i:=p24) (b:=.cells [.int .i64 z.f,.bJ z.i z.ws.length z.cap]) (by simp);have l24:=(agC.1 g24).1;have e24:=aX g24;have gi:=jV.hJ.get (i:=z.i) (b:=.cells (dQ z.ws++z.rest)) (by simp[Dz.bx,Wz.bx,gb,dN]);have cs:=λU=>Kx z.ws dN hT z.rest z.i z.cap (by have:=hz.1;omega) J1 U gi;have qc:fo (D1++⟨id,yl++j6 z::yX,zi,zc,rest,ns,tk⟩::D2)=fo (D1++⟨id,yl++z::yX,zi,zc,rest,ns,tk⟩::D2):=by simp[fo]
 have Qn:nr (yl++j6 z::yX)=nr (yl++z::yX):=by simp[nr,j6,qm]
 have Cj:∀y:Wz,y.ws≠[]->Dz.bx ⟨id,yl++y::yX,zi,zc,rest,ns,tk⟩=(zi,.cells (nr (yl++y::yX)++rest))::(yl.flatMap Wz.bx++((y.i,.cells (dQ y.ws++y.rest))::yX.flatMap Wz.bx)):=λy hy=>by simp[Dz.bx,gb,Wz.bx,hy]
 have zk:=Has.set (A:=(p24,.cells [.int .i64 z.f,.bJ z.i z.ws.length z.cap])::(R++(bo,.cells (fo (D1++⟨id,yl++z::yX,zi,zc,rest,ns,tk⟩::D2)))::(D1.flatMap Dz.bx++((zi,.cells (nr (yl++z::yX)++rest))::yl.flatMap Wz.bx)))) (B:=yX.flatMap Wz.bx++D2.flatMap Dz.bx) (b:=.cells (dQ z.ws++z.rest)) (by
  have:=jV.hJ;rw[ahk,agT,Cj z dN] at this;simpa using this) (.cells (dQ (jq z.ws)++z.rest))
 refine aC λK hK=>?_;simp(disch:=omega)[e24];refine ak (cs _) ?_;simp(disch:=omega) ;apply hK;refine go _ _ (λho=>⟨?_,?_,?_,jV.pJ.set (hz.2 sa).2.2 _,jV.pU,ho⟩) (by simp;omega) (by simp;omega)
 ·rw[ahk,agT,Cj (j6 z) (λh=>dN ((nf _).1 h)),qc,Qn];rw[aiQ] at zk;have h5:=zk.sub (ahB _ _);simpa[j6] using h5
 ·simpa[Dz.tx] using jV.hU
 ·intro x hx;rcases agR.1 hx with hx|hx
  ·exact jV.hD x (by simp[hx])
  rcases ag6.1 hx with rfl|hx
  ·have hd:=jV.hD ⟨id,yl++z::yX,zi,zc,rest,ns,tk⟩ (by simp);refine⟨by simpa using hd.z,λy hy=>?_,hd.n⟩;rcases agR.1 hy with hy|hy
   ·exact hd.w y (by simp[hy])
   rcases ag6.1 hy with rfl|hy
   ·have:=hd.w z (by simp);exact⟨by simpa[j6,qm] using this.1,λh=>by
     have:=this.2 (by simpa[j6,qm] using h);simpa[j6,qm] using this⟩
   ·exact hd.w y (by simp[hy])
  ·exact jV.hD x (by simp[hx])
def sB (d:Dz):Dz:={ d with zs:=d.zs.map j6 }
def OH {l:List Wz}{k:Nat}(hk:k<l.length):∃z∈l,l.drop k=z::l.drop (k+1)/\l.take (k+1)=l.take k++[z]:=
 ⟨l[k],ahb _,(List.getElem_cons_drop ..).symm,by rw[List.take_append_getElem]⟩
attribute [-simp] getD_eq_getElem?_getD in
def ZK (H:List aA)(T:au)(b1 bo bm nd vi:Nat)(N:Nat)(R:List (Nat×aA))(J:List aA)(U:au)(D1 D2:List Dz)(d:Dz)
  (hS:DS H T R bo N J U (D1++d::D2)) (hN:N<=1099511627776) (hk:vi=D1.length) (mM:nd=D1.length+1+D2.length) (hW:∀z∈d.zs,z.ws≠[]/\z.ws.Pairwise λx y=>x.2≠y.2) (wA:b1<J.length) (My:bm<J.length) (Q:Exit->St->Prop)
  (go:∀(e:Env)(J':List aA),DS H T R bo N J' U (D1++sB d::D2)->J.length<=J'.length->
   bC J'.length U.length e [(1,.ptr b1 0),(3,.bJ bo nd nd),(4,.aQ bm),(173,.cN bo 0 nd),(174,.int .i64 (nd:Nat)),(175,.int .i64 (vi:Nat))]->Q .normal ⟨e,J',U⟩) :
  AW ⟨prog,192,190,H.length,T.length,[100100,100131]⟩ (dX [1,1,1,1,1,1,1,0,1,0,0,1,1,0,0] (Tryz.f88.body.getD .skip)) Q ⟨[(1,.ptr b1 0),(3,.bJ bo nd nd),(4,.aQ bm),(173,.cN bo 0 nd),(174,.int .i64 (nd:Nat)),(175,.int .i64 (vi:Nat))],J,U⟩:=by
 conv=>arg 2;whnf
 have MD:=hS.hJ.get (i:=bo) (b:=.cells (fo (D1++d::D2))) (by simp);have lo:=(agC.1 MD).1;have eo:=aX MD;have lH:=hS.pJ.le;have lT:=hS.pU.le;have y9:(fo (D1++d::D2)).length=nd*3:=by rw[lj];simp;omega
 have bu:((fo (D1++d::D2)).drop (vi*3)).take 3=d.row:=by
  have:=fO BH (D1++d::D2) vi d (by simp;omega);rw[show (D1++d::D2).getD vi d=d by rw[hk,agB,agX (by omega),ah1];rfl] at this;exact this
 have hvn:vi<nd:=by omega
 have hd:=hS.hD d (by simp);simp only[Dz.row] at bu;refine ae λK hK=>?_;simp(disch:=omega)[eo,y9,bu];apply hK;refine dy λrn=>?_;simp only at rn;have jV:=hS.new _ rn;have JE:(J++[aA.cells [AV.int .i64 d.id,gv d.zs.length d.i d.cap,ov d.ns d.tk]]).length=J.length+1:=by simp
 obtain⟨Qj,h22⟩:∃i,i=J.length:=⟨_,rfl⟩
 rw[<-h22] at jV;simp only[<-h22];generalize J++[aA.cells [AV.int .i64 d.id,gv d.zs.length d.i d.cap,ov d.ns d.tk]]=J1 at *;have g22:=jV.hJ.get (i:=Qj) (b:=.cells [.int .i64 d.id,gv d.zs.length d.i d.cap,ov d.ns d.tk]) (by simp);have l22:=(agC.1 g22).1;have Yd:=aX g22;obtain⟨id,zs,i,cap,rest,ns,tk⟩:=d;simp only at Yd hW
 by_cases hz:zs=[]
 ·subst hz;simp only[gv,ahV,ain] at Yd;refine ae λK hK=>?_;simp(disch:=omega)[Yd];apply hK;apply aj;refine aJ (X:=Unit) (λ_=>⟨[(1,.ptr b1 0),(3,.bJ bo nd nd),(4,.aQ bm),(173,.cN bo 0 nd),(174,.int .i64 (nd:Nat)),(175,.int .i64 (vi:Nat)),(180,.sl 0 [] .none),(181,.int .i64 0),(182,.int .i64 0)],J1,U⟩) (λ_=>True) (λ_=>0) () ?_ ?_ ?_
  ·trivial
  ·refine ag [] [] ?_ ?_ ?_ ?_ rn ?_
   all_goals simp
   all_goals omega
  ·rintro⟨⟩ -;apply ae;intro K Z;simp(disch:=omega);apply Z;refine af λK2 bp=>?_;apply aF rfl;apply aG;simp(disch:=omega) ;refine go _ J1 ((jV.sub (by simp))) (by omega) ?_;simp;omega
 have y6:zs.length≠0:=λh=>hz (aho.1 h);simp only[gv,agL y6] at Yd;have hq:=hd.z.1;simp only at hq;have WS:i<J1.length:=jV.hJ.lt (b:=.cells (nr zs++rest)) (by simp[Dz.bx,gb,hz]);refine ae λK hK=>?_;simp(disch:=omega)[Yd];apply hK;apply aj;refine aJ (X:=Nat×List aA) (λx=>⟨[(1,.ptr b1 0),(3,.bJ bo nd nd),(4,.aQ bm),(173,.cN bo 0 nd),(174,.int .i64 (nd:Nat)),(175,.int .i64 (vi:Nat)),(22,.ptr Qj 0),(180,.cN i 0 zs.length),(181,.int .i64 (zs.length:Nat)),(182,.int .i64 (x.1:Nat))],x.2,U⟩)
  (λx=>x.1<=zs.length/\DS H T ((Qj,.cells [.int .i64 id,.bJ i zs.length cap,ov ns tk])::R) bo N x.2 U (D1++⟨id,(zs.take x.1).map j6++zs.drop x.1,i,cap,rest,ns,tk⟩::D2)/\J1.length<=x.2.length) (λx=>zs.length-x.1) (0,J1) ?_ ?_ ?_
 ·exact⟨agP _,by simpa[gv,y6] using jV,agE _⟩
 ·refine ag [] [] ?_ ?_ ?_ ?_ rn ?_
  all_goals simp
  all_goals omega
 ·rintro⟨k,J2⟩ ⟨k1,k2,k3⟩;simp only at k1 k2 k3;have Mr:=k2.pJ.le;have Qm:=k2.pU.le;apply ae;intro K Z;simp(disch:=omega);apply Z;refine af λK2 bp=>?_;refine aU rfl (λgB=>?_) (λgB=>?_)
  ·simp  at gB;apply aq;simp(disch:=omega) ;apply bp;clear bp;refine af λK3 bG=>?_;apply aj;refine aI ⟨[(1,.ptr b1 0),(3,.bJ bo nd nd),(4,.aQ bm),(173,.cN bo 0 nd),(174,.int .i64 (nd:Nat)),(175,.int .i64 (vi:Nat)),(22,.ptr Qj 0),(180,.cN i 0 zs.length),(181,.int .i64 (zs.length:Nat)),(182,.int .i64 (k:Nat))],J2,U⟩ (ag [] [] (by simp) (by simp) (by show H.length<=_;omega) (by show T.length<=_;omega) k2.ok (by simp;omega)) ?_;obtain⟨z,TE,QA,adY⟩:=OH gB;rw[QA] at k2;have hlen:((zs.take k).map j6).length=k:=by simp;omega
   refine Y3 H T b1 bo bm nd Qj vi k zs.length i cap N _ J2 U D1 D2 id _ _ z rest ns tk k2 hN hlen.symm (by rw[hlen,ahp];omega) (hW z TE).1 (hW z TE).2 (by omega) (by omega) (by omega) _ λe J' a1 a2 a3=>?_;refine bG _ (dy λAX=>?_);replace a1:=a1 AX;have Jm:=a1.pJ.le;have Jl:=a1.pU.le;refine aI ⟨[(1,.ptr b1 0),(3,.bJ bo nd nd),(4,.aQ bm),(173,.cN bo 0 nd),(174,.int .i64 (nd:Nat)),(175,.int .i64 (vi:Nat)),(22,.ptr Qj 0),(180,.cN i 0 zs.length),(181,.int .i64 (zs.length:Nat)),(182,.int .i64 (k:Nat))],J',U⟩ (ag [] [] (by simp) (by simp) (by show H.length<=_;omega) (by show T.length<=_;omega) a1.ok a3) ?_;clear bG;have iz:(zs.take (k+1)).map j6++zs.drop (k+1)=(zs.take k).map j6++j6 z::zs.drop (k+1):=by
    rw[adY];simp
   refine aC λK hK=>?_;simp(disch:=omega) ;apply hK;refine⟨(k+1,J'),⟨by show k+1<=_;omega,by show DS _ _ _ _ _ _ _ (D1++⟨id,(zs.take (k+1)).map j6++zs.drop (k+1),i,cap,rest,ns,tk⟩::D2);rw[iz];exact a1,by show J1.length<=J'.length;omega⟩,by show zs.length-(k+1)<zs.length-k;omega,?_⟩;refine ag [] [] ?_ ?_ ?_ ?_ a1.ok ?_
   all_goals simp
   all_goals omega
  ·simp  at gB;have qa:k=zs.length:=by omega
   subst qa;apply aG;simp(disch:=omega) ;rw[agZ,ahH,ag2] at k2;refine go _ J2 (k2.sub (by simp)) (by omega) ?_;simp;omega
end Go.Proofs.YtoejlmpbebjemaaGreat
