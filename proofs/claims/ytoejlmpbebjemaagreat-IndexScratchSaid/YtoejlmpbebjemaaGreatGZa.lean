/- segment.Documents (layer 39): documents, while they are gathered; an append to a list that grows in a box. segment.Documents (layer 39): one posting. segment.Documents (layer 39): the postings of the terms. segment.Documents (layer 39): the terms, the columns. The documents of a segment (layer 39), in plain lists. segment.Documents (layer 39): the words are sorted.
  Conditions: as the theorems say. -/
import Derived.Test.YtoejlmpbebjemaaGreatGV
set_option linter.all false
set_option maxRecDepth 100000
set_option maxHeartbeats 16000000
open Nat (add_mul)
open List (getD_eq_getElem?_getD)
namespace Go.Proofs.YtoejlmpbebjemaaGreat
open Go.Proofs.Tryz(prog)
open Go Go.Am eN
def gv (n i cap:Nat):AV:=if n=0 then .sl 0 [] .full else .bQ i n cap
def gb (n i:Nat)(cs:List AV):List (Nat×aA):=if n=0 then [] else [(i,.cells cs)]
structure Wz where
 f:Int
 ws:List Wd
 i:Nat
 cap:Nat
 rest:List AV
abbrev Wz.row (z:Wz):List AV:=[.int .i64 z.f,gv z.ws.length z.i z.cap]
def Wz.bx (z:Wz):List (Nat×aA):=gb z.ws.length z.i (dX z.ws++z.rest)
def nS (l:List Wz):List AV:=l.flatMap Wz.row
def BW:eE Wz.row 2:=λ_=>rfl
def lS (l:List Wz):(nS l).length=l.length*2:=cj BW l
def Wz.zn (z:Wz):Zn:=⟨z.f,z.ws⟩
structure Dz where
 id:Int
 zs:List Wz
 i:Nat
 cap:Nat
 rest:List AV
 ns:List Nm
 tk:Nat
def ov (ns:List Nm)(tk:Nat):AV:=if ns=[] then .sl 0 [] .full else .sl ns.length (bG ns) (.own tk)
abbrev Dz.row (d:Dz):List AV:=[.int .i64 d.id,gv d.zs.length d.i d.cap,ov d.ns d.tk]
def Dz.bx (d:Dz):List (Nat×aA):=gb d.zs.length d.i (nS d.zs++d.rest)++d.zs.flatMap Wz.bx
def Dz.tx (d:Dz):List (Nat×(Nat×Nat)):=if d.ns=[] then [] else [(d.tk,(d.ns.length*2,2))]
def fx (l:List Dz):List AV:=l.flatMap Dz.row
def Cm:eE Dz.row 3:=λ_=>rfl
def lX (l:List Dz):(fx l).length=l.length*3:=cj Cm l
def Dz.dc (d:Dz):Dc:=⟨d.id,d.zs.map Wz.zn,d.ns⟩
def YY (nb N n i cap z:Nat)(rest:List AV):Prop:=n<=N/\(n≠0->rest.length=(cap-n)*z/\n<=cap/\nb<=i)
structure KB (nb tb N:Nat)(d:Dz):Prop where
 z:YY nb N d.zs.length d.i d.cap 2 d.rest
 w:∀z∈d.zs,YY nb N z.ws.length z.i z.cap 2 z.rest
 n:d.ns.length<=N/\(d.ns≠[]->tb<=d.tk)
def YY.more {nb N M n i cap z:Nat}{rest:List AV}(h:YY nb N n i cap z rest)(hm:N<=M):YY nb M n i cap z rest:=⟨ahA h.1 hm,h.2⟩
theorem KB.more {nb tb N M:Nat}{d:Dz}(h:KB nb tb N d)(hm:N<=M):KB nb tb M d:=⟨h.z.more hm,λz hz=>(h.w z hz).more hm,⟨ahA h.n.1 hm,h.n.2⟩⟩
structure DS (H:List aA)(T:au)(R:List (Nat×aA))(bo N:Nat)(J:List aA)(U:au)(D:List Dz):Prop where
 hJ:Has J (R++(bo,.cells (fx D))::D.flatMap Dz.bx)
 hU:Has U (D.flatMap Dz.tx)
 hD:∀d∈D,KB H.length T.length N d
 pJ:gW H J
 pU:gW T U
 ok:bM J U
theorem DS.more {H:List aA}{T:au}{R:List (Nat×aA)}{bo N M:Nat}{J:List aA}{U:au}{D:List Dz}(h:DS H T R bo N J U D)(hm:N<=M):DS H T R bo M J U D:=⟨h.hJ,h.hU,λd hd=>(h.hD d hd).more hm,h.pJ,h.pU,h.ok⟩
theorem DS.sub {H:List aA}{T:au}{R R':List (Nat×aA)}{bo N:Nat}{J:List aA}{U:au}{D:List Dz}(h:DS H T R bo N J U D)(hs:R'.Sublist R):DS H T R' bo N J U D:=⟨h.hJ.sub (hs.append_right _),h.hU,h.hD,h.pJ,h.pU,h.ok⟩
theorem DS.new {H:List aA}{T:au}{R:List (Nat×aA)}{bo N:Nat}{J:List aA}{U:au}{D:List Dz}(h:DS H T R bo N J U D)(b:aA)(ho:bM (J++[b]) U):DS H T ((J.length,b)::R) bo N (J++[b]) U D:=
 ⟨(h.hJ.new b).perm (aik _ _).symm,h.hU,h.hD,h.pJ.app _,h.pU,ho⟩
def Hf {D1 D2:List Dz}(d:Dz):(fx (D1++d::D2)).getD (D1.length*3) .top=.int .i64 d.id/\(fx (D1++d::D2)).getD (D1.length*3+1) .top=gv d.zs.length d.i d.cap/\(fx (D1++d::D2)).getD (D1.length*3+2) .top=ov d.ns d.tk:=by
 have h:=lX D1;have e:fx (D1++d::D2)=fx D1++(d.row++fx D2):=by simp[fx]
 rw[e];refine⟨?_,?_,?_⟩
 ·rw[ahs,ahP zO,h,aiT];rfl
 ·rw[ahs,ahP zO,h,show D1.length*3+1-D1.length*3=1 by omega];rfl
 ·rw[ahs,ahP zO,h,show D1.length*3+2-D1.length*3=2 by omega];rfl
def JC {D1 D2:List Dz}(d:Dz)(v:AV):(fx (D1++d::D2)).set (D1.length*3+1) v=fx D1++([.int .i64 d.id,v,ov d.ns d.tk]++fx D2)/\(fx (D1++d::D2)).set (D1.length*3+2) v=fx D1++([.int .i64 d.id,gv d.zs.length d.i d.cap,v]++fx D2):=by
 have h:=lX D1;have e:fx (D1++d::D2)=fx D1++(d.row++fx D2):=by simp[fx]
 rw[e]
 constructor
 ·rw[ai2 _ _ zO,h,show D1.length*3+1-D1.length*3=1 by omega];rfl
 ·rw[ai2 _ _ zO,h,show D1.length*3+2-D1.length*3=2 by omega];rfl
def Oz (l:List Wz)(z:Wz)(r:List AV):(nS (l++[z])++r).getD (l.length*2) .top=.int .i64 z.f/\(nS (l++[z])++r).getD (l.length*2+1) .top=gv z.ws.length z.i z.cap:=by
 have h:=lS l;have e:nS (l++[z])++r=nS l++(z.row++r):=by simp[nS]
 rw[e];refine⟨?_,?_⟩
 ·rw[ahs,ahP zO,h,aiT];rfl
 ·rw[ahs,ahP zO,h,show l.length*2+1-l.length*2=1 by omega];rfl
def SF (l:List Wz)(z:Wz)(r:List AV)(v:AV):(nS (l++[z])++r).set (l.length*2+1) v=nS l++([.int .i64 z.f,v]++r):=by
 have h:=lS l;have e:nS (l++[z])++r=nS l++(z.row++r):=by simp[nS]
 rw[e,ai2 _ _ zO,h,show l.length*2+1-l.length*2=1 by omega];rfl
def grow {C:Cx}{o:Oper}{e:Env}{J:List aA}{U:au}{κ:AV->List aA->au->Prop}{t t2 el:TypeId}{n i cap z:Nat}{rows row rest:List AV}{x:AV}{A B:List (Nat×aA)}{H:List aA}
  (h0:n=0->lE C.P C.bx o e J=some (1,row,z)) (h1:n≠0->lE C.P C.bx o e J=none/\sV o e=some (t,t2,i,n,cap,x))
  (ht:C.P.underlying t=some (.slice el)) (hz:C.P.cellsOf el=z) (hx:n≠0->ic J z x=some (1,row)) (hb:(n+1)*C.P.bytesOf el<=140737488355328) (hn:n+1<=9223372036854775807) (hi:ke C.P t2=true) (ha:(bz C.P el).isSome=true)
  (hr:rows.length=n*z) (hJ:Has J (A++(gb n i (rows++rest)++B))) (hg:n≠0->rest.length=(cap-n)*z/\n<=cap/\H.length<=i) (hP:gW H J)
  (k:∀(i2 gD:Nat)(dJ:List AV)(J2:List aA),Has J2 (A++((i2,.cells (rows++(row++dJ)))::B))->gW H J2->J.length<=J2.length->dJ.length=(gD-(n+1))*z->n+1<=gD->H.length<=i2->κ (.bQ i2 (n+1) gD) J2 U):gZ C o e J U κ:=by
 unfold gZ;have hPl:=hP.le;rcases ah0 n with rfl|hp
 ·rw[h0 rfl];simp only;intro nc lY;have zL:rows=[]:=ah9.1 zO;subst zL;refine k J.length nc (List.replicate ((nc-1)*z) .top) _ ?_ (hP.app _) zS zS lY hPl;have:=hJ.new (.cells (row++List.replicate ((nc-1)*z) .top));simp only[gb,ahF,ai3] at this;refine this.perm ?_;rw[ahM];exact(aik _ _).symm.append_left _
 ·obtain⟨a1,a2⟩:=h1 zO;obtain⟨g1,g2,g3⟩:=hg zO;rw[a1,a2];simp only;have CS:n≠0:=zO;simp only[gb,ahC CS,List.singleton_append] at hJ;have gi:=hJ.get (i:=i) (b:=.cells (rows++rest)) zS;have gV:(rows++rest).take (n*z)=rows:=aiy hr;have qE:(rows++rest).drop ((n+1)*z)=rest.drop z:=by
   rw[List.drop_append,ajN (by rw[hr,aiM];omega),ai3,hr]
   congr 1;rw[aiM];omega
  refine⟨el,_,row,1,ht,gi,by rw[ahw,hr,g1,hz,<-add_mul];congr 1;omega,by rw[hz];exact hx CS,hb,hn,hi,ha,λhle=>?_,λnc bp lY=>?_⟩
  ·rw[hz,gV,qE,ahM];refine k i cap (rest.drop z) _ ?_ (hP.set g3 _) zS ?_ hle g3
   ·exact Has.set hJ _
   ·rw[aii,g1,<-Nat.sub_one_mul];congr 1
  ·rw[hz,gV,ahM];refine k J.length nc (List.replicate ((nc-(n+1))*z) .top) _ ?_ (hP.app _) zS zS lY hPl;have h2:Has J (A++B):=hJ.sub (List.Sublist.append_left (aiw _ _) _);refine(h2.new _).perm ?_;rw[ahM];exact(aik _ _).symm.append_left _
open ie
def JQ (zs:List Zn)(f:Int):List Zn:=match zs.getLast? with
 |some z=>if z.f=f then zs else zs++[⟨f,[]⟩]
 |none=>[⟨f,[]⟩]
def Ew (l:List Zn)(z:Zn)(f:Int):JQ (l++[z]) f=if z.f=f then l++[z] else (l++[z])++[⟨f,[]⟩]:=by
 simp[JQ]
def ZU (H : List aA) (T : au) (ts : List Tm) (l : List Ps) (vi vj b1 bo bm nd p8 wz : Nat) (N : Nat) (f : Int) (w : Bs) (lv : AV) (R : List (Nat × aA)) (J : List aA) (U : au) (D1 D2 : List Dz) (d : Dz)
    (hS : DS H T R bo N J U (D1 ++ d :: D2)) (hN : N <= 1099511627776) (uq : b1 < J.length) (Ng : bm < J.length) (Bv : H.length <= bo) (ae0 : wz < J.length) (h8 : (p8, .cells [.int .i64 f, .str w, lv]) ∈ R) (Q : Exit -> St -> Prop)
    (go : ∀ (e : Env) (J' : List aA) (d' : Dz) (zs : List Wz) (z : Wz), DS H T R bo (N + 1) J' U (D1 ++ d' :: D2) -> J.length <= J'.length -> d'.id = d.id -> d'.ns = d.ns -> d'.zs = zs ++ [z] -> z.f = f -> d'.dc.zs = JQ d.dc.zs f ->
      bA J'.length U.length e [(1, .ptr b1 0), (3, .bQ bo nd nd), (4, .aP bm), (51, .sl ts.length (dB ts) .none), (52, .int .i64 (ts.length : Nat)), (53, .int .i64 (vi : Nat)), (8, .ptr p8 0), (58, .sl l.length (bD l) .none), (59, .int .i64 (l.length : Nat)), (60, .int .i64 (vj : Nat)), (10, .ptr wz 0), (11, .ptr bo (D1.length * 3)), (13, .ptr d'.i (zs.length * 2))] -> AW ⟨prog, 192, 190, H.length, T.length, [100100, 100131]⟩ (dZ [1, 1, 1, 1, 1, 0, 1, 0, 0, 1, 1, 0, 0, 1, 1, 0, 0, 1, 1, 0, 0, 1, 1, 1, 1] (Tryz.f88.body.getD .skip)) Q ⟨e, J', U⟩) :
    AW ⟨prog, 192, 190, H.length, T.length, [100100, 100131]⟩ (dZ [1, 1, 1, 1, 1, 0, 1, 0, 0, 1, 1, 0, 0, 1, 1, 0, 0, 1, 1, 0, 0, 1, 1] (Tryz.f88.body.getD .skip)) Q ⟨[(1, .ptr b1 0), (3, .bQ bo nd nd), (4, .aP bm), (51, .sl ts.length (dB ts) .none), (52, .int .i64 (ts.length : Nat)), (53, .int .i64 (vi : Nat)), (8, .ptr p8 0), (58, .sl l.length (bD l) .none), (59, .int .i64 (l.length : Nat)), (60, .int .i64 (vj : Nat)), (10, .ptr wz 0), (11, .ptr bo (D1.length * 3))], J, U⟩ := by
  conv => arg 2; whnf
  have g8 := hS.hJ.get (ahR _ h8);have Nl := hS.hJ.get (i := bo) (b := .cells (fx (D1 ++ d :: D2))) (by simp);have l8 := (aht.1 g8).1;have lo := (aht.1 Nl).1;have e8 := aZ g8;have eo := aZ Nl;have lH := hS.pJ.le;have lT := hS.pU.le;obtain ⟨r1, r2, r3⟩ := Hf (D1 := D1) (D2 := D2) d;have zJ : (fx (D1 ++ d :: D2)).length = (D1.length + 1 + D2.length) * 3 := by rw [lX]; simp; omega
  have nJ := λv => (JC (D1 := D1) (D2 := D2) d v).1;obtain ⟨id, zs, i, cap, rest, ns, tk⟩ := d;simp only at r1 r2 r3 nJ;have je := hS.hD ⟨id, zs, i, cap, rest, ns, tk⟩ (by simp);obtain ⟨⟨z1, z2⟩, z3, z4⟩ := je;simp only at z1 z2 z3 z4;refine ae λK1 aN => ?_;have fin : ∀ (e : Env) (J2 : List aA) (JO : List Wz) (z : Wz) (i2 gD : Nat) (dJ : List AV), (bM J2 U -> DS H T R bo (N + 1) J2 U (D1 ++ ⟨id, JO ++ [z], i2, gD, dJ, ns, tk⟩ :: D2)) -> J.length <= J2.length -> z.f = f -> (JO ++ [z]).map Wz.zn = JQ (zs.map Wz.zn) f ->
      bA J2.length U.length e [(1, .ptr b1 0), (3, .bQ bo nd nd), (4, .aP bm), (51, .sl ts.length (dB ts) .none), (52, .int .i64 (ts.length : Nat)), (53, .int .i64 (vi : Nat)), (8, .ptr p8 0), (58, .sl l.length (bD l) .none), (59, .int .i64 (l.length : Nat)), (60, .int .i64 (vj : Nat)), (10, .ptr wz 0), (11, .ptr bo (D1.length * 3))] -> K1 ⟨e, J2, U⟩ := by
    intro e J2 JO z i2 gD dJ kC jT hzf mh he;refine aN _ ?_; clear aN;refine dE λeG => ?_;replace kC := kC eG;refine aF ⟨[(1, .ptr b1 0), (3, .bQ bo nd nd), (4, .aP bm), (51, .sl ts.length (dB ts) .none), (52, .int .i64 (ts.length : Nat)), (53, .int .i64 (vi : Nat)), (8, .ptr p8 0), (58, .sl l.length (bD l) .none), (59, .int .i64 (l.length : Nat)), (60, .int .i64 (vj : Nat)), (10, .ptr wz 0), (11, .ptr bo (D1.length * 3))], J2, U⟩ (ak [] [] (by simp) (by simp) (by show H.length <= _; omega) (by show T.length <= _; omega) kC.ok he) ?_;have g2 := kC.hJ.get (i := bo) (b := .cells (fx (D1 ++ ⟨id, JO ++ [z], i2, gD, dJ, ns, tk⟩ :: D2))) (by simp);have l2 := (aht.1 g2).1;have e2 := aZ g2;obtain ⟨s1, s2, s3⟩ := Hf (D1 := D1) (D2 := D2) ⟨id, JO ++ [z], i2, gD, dJ, ns, tk⟩;simp only [gv, ahw, ain, Nat.succ_ne_zero, aje] at s2;have za : (fx (D1 ++ ⟨id, JO ++ [z], i2, gD, dJ, ns, tk⟩ :: D2)).length = (D1.length + 1 + D2.length) * 3 := by rw [lX]; simp; omega
    have gz := kC.hJ.get (i := i2) (b := .cells (nS (JO ++ [z]) ++ dJ)) (by simp [Dz.bx, gb]);have lz := (aht.1 gz).1;have ez := aZ gz;have zH : (nS (JO ++ [z]) ++ dJ).length = (JO.length + 1) * 2 + dJ.length := by rw [ahw, lS, ahw, ain]
    have hzn : JO.length + 1 <= N + 1 := by
      have := (kC.hD ⟨id, JO ++ [z], i2, gD, dJ, ns, tk⟩ (by simp)).z.1;simpa using this
    refine cQ [] [] [] aO (by kernel_rfl) (by kernel_rfl) λK hK => ?_; simp (maxSteps := 1000000) (disch := omega) [-getD_eq_getElem?_getD, e2, s2, za];refine hK _ ?_;refine go _ _ ⟨id, JO ++ [z], i2, gD, dJ, ns, tk⟩ JO z kC jT rfl rfl rfl hzf mh ?_;simp;omega
  have push : JQ (zs.map Wz.zn) f = zs.map Wz.zn ++ [⟨f, []⟩] -> ∀ (Q' : Exit -> St -> Prop), (∀ s, K1 s -> Q' .normal s) -> ∀ e : Env, bA J.length U.length e [(1, .ptr b1 0), (3, .bQ bo nd nd), (4, .aP bm), (51, .sl ts.length (dB ts) .none), (52, .int .i64 (ts.length : Nat)), (53, .int .i64 (vi : Nat)), (8, .ptr p8 0), (58, .sl l.length (bD l) .none), (59, .int .i64 (l.length : Nat)), (60, .int .i64 (vj : Nat)), (10, .ptr wz 0), (11, .ptr bo (D1.length * 3))] -> AW ⟨prog, 192, 190, H.length, T.length, [100100, 100131]⟩ (dZ [1, 1, 1, 1, 1, 0, 1, 0, 0, 1, 1, 0, 0, 1, 1, 0, 0, 1, 1, 0, 0, 1, 1, 0, 1, 1, 0] (Tryz.f88.body.getD .skip)) Q' ⟨e, J, U⟩ := by
    intro mh Q' hQ e he
    conv => arg 2; whnf
    refine aF ⟨[(1, .ptr b1 0), (3, .bQ bo nd nd), (4, .aP bm), (51, .sl ts.length (dB ts) .none), (52, .int .i64 (ts.length : Nat)), (53, .int .i64 (vi : Nat)), (8, .ptr p8 0), (58, .sl l.length (bD l) .none), (59, .int .i64 (l.length : Nat)), (60, .int .i64 (vj : Nat)), (10, .ptr wz 0), (11, .ptr bo (D1.length * 3))], J, U⟩ (ak [] [] (by simp) (by simp) (by show H.length <= _; omega) (by show T.length <= _; omega) hS.ok he) ?_;refine rk 9 [9, 12] [0, 0, 0, 0, 0, 0, 0, 0, 0, 0, 1, 1, 1] [[0], []] aO (by kernel_rfl) (by kernel_rfl) (by kernel_rfl) λK hK => ?_;simp (maxSteps := 1000000) (disch := omega) [-getD_eq_getElem?_getD, -gZ, eo, e8, r2, zJ];have Nk : Has J ((R ++ (bo, .cells (fx (D1 ++ ⟨id, zs, i, cap, rest, ns, tk⟩ :: D2))) :: D1.flatMap Dz.bx) ++ (gb zs.length i (nS zs ++ rest) ++ (zs.flatMap Wz.bx ++ D2.flatMap Dz.bx))) := by simpa [Dz.bx] using hS.hJ
    refine grow (t := 23) (t2 := 23) (el := 117) (z := 2) (row := [.int .i64 f, .sl 0 [] .full]) (x := .sl 1 [.int .i64 f, .sl 0 [] .full] .full) (λh => by simp [gv, h]) (λh => by simp [gv, h]) (by kernel_rfl) (by kernel_rfl) (λ_ => by simp) ?_ ?_ (by kernel_rfl) (by kernel_rfl) (lS _) Nk z2 hS.pJ λi2 gD dJ J2 jg sL jT o9 pn zR => ?_
    · rw [show prog.bytesOf 117 = 32 by kernel_rfl]; omega
    · omega
    have g2 := jg.get (i := bo) (b := .cells (fx (D1 ++ ⟨id, zs, i, cap, rest, ns, tk⟩ :: D2))) (by simp);have l2 := (aht.1 g2).1;have e2 := aZ g2;simp (maxSteps := 1000000) (disch := omega) [-getD_eq_getElem?_getD, e2, zJ, nJ];refine hK _ (hQ _ ?_);have qE : fx (D1 ++ ⟨id, zs ++ [⟨f, [], 0, 0, []⟩], i2, gD, dJ, ns, tk⟩ :: D2) = fx D1 ++ AV.int .i64 id :: .bQ i2 (zs.length + 1) gD :: ov ns tk :: fx D2 := by simp [fx, gv]
    rw [<- qE];refine fin _ _ zs ⟨f, [], 0, 0, []⟩ i2 gD dJ (λho => ⟨?_, ?_, ?_, sL.set Bv _, hS.pU, ho⟩) (by simp; omega) rfl (by rw [mh]; simp [Wz.zn]) ?_
    · have CY : Dz.bx ⟨id, zs ++ [⟨f, [], 0, 0, []⟩], i2, gD, dJ, ns, tk⟩ = (i2, .cells (nS zs ++ ([.int .i64 f, .sl 0 [] .full] ++ dJ))) :: zs.flatMap Wz.bx := by simp [Dz.bx, gb, nS, Wz.bx, gv]
      have := Has.set (A := R) (B := D1.flatMap Dz.bx ++ ((i2, .cells (nS zs ++ ([.int .i64 f, .sl 0 [] .full] ++ dJ))) :: (zs.flatMap Wz.bx ++ D2.flatMap Dz.bx))) (by simpa using jg) (.cells (fx (D1 ++ ⟨id, zs ++ [⟨f, [], 0, 0, []⟩], i2, gD, dJ, ns, tk⟩ :: D2)));rw [aid, ahK, CY];simpa using this
    · simpa [Dz.tx] using hS.hU
    · intro x hx;rcases ahI.1 hx with hx | hx
      · exact (hS.hD x (by simp [hx])).more (air _)
      rcases ah4.1 hx with rfl | hx
      · refine ⟨⟨by simp; omega, λ_ => by simpa using ⟨o9, pn, zR⟩⟩, λz hz => ?_, ⟨by show ns.length <= _; omega, z4.2⟩⟩;rcases ahI.1 hz with hz | hz
        · exact (z3 z hz).more (air _)
        · obtain rfl := aic.1 hz;exact ⟨ahE _, λh => absurd rfl h⟩
      · exact (hS.hD x (by simp [hx])).more (air _)
    · simp; omega
  rcases List.eq_nil_or_concat zs with hz | ⟨Uo, z0, hz⟩
  · subst hz;simp only [gv, ais, ajc] at r2;refine aK λK hK => ?_; simp (maxSteps := 1000000) (disch := omega) [-getD_eq_getElem?_getD, eo, r2, zJ]; refine hK _ ?_; clear hK K;refine cQ [] [] [] aO (by kernel_rfl) (by kernel_rfl) λK hK => ?_; simp (maxSteps := 1000000) (disch := omega) [-getD_eq_getElem?_getD, eo, r2, zJ];refine hK _ ?_; clear hK K;refine aV rfl (λh => ?_) (λh => absurd h (by simp));refine push (by simp [JQ]) _ (λs h => ?_) _ ?_
    · exact h
    · simp; omega
  · rw [List.concat_eq_append] at hz;subst hz;simp only [gv, ahw, ain, Nat.succ_ne_zero, aje] at r2;have gz := hS.hJ.get (i := i) (b := .cells (nS (Uo ++ [z0]) ++ rest)) (by simp [Dz.bx, gb]);have lz := (aht.1 gz).1;have ez := aZ gz;have zH : (nS (Uo ++ [z0]) ++ rest).length = (Uo.length + 1) * 2 + rest.length := by rw [ahw, lS, ahw, ain]
    obtain ⟨y1, y2⟩ := Oz Uo z0 rest;have z1q : Uo.length + 1 <= N := by simpa using z1
    have bn : (((Uo.length : Int) + 1) == 0) = false := ah8.2 (by omega);have Y3 : ¬ ((Uo.length : Int) + 1) = 0 := by omega
    by_cases hf : z0.f = f
    · have bd : (z0.f != f) = false := by simpa using hf
      refine aK λK hK => ?_; simp (maxSteps := 1000000) (disch := omega) [-getD_eq_getElem?_getD, eo, r2, zJ]; refine hK _ ?_; clear hK K;refine cQ [] [] [] aO (by kernel_rfl) (by kernel_rfl) λK hK => ?_; simp (maxSteps := 1000000) (disch := omega) [-getD_eq_getElem?_getD, eo, e8, r2, zJ, bn, Y3, ez, zH, y1, bd];refine hK _ ?_; clear hK K;refine aV rfl (λh => absurd h (by simp)) (λh => ?_);apply aj; simp (maxSteps := 1000000) (disch := omega) [-getD_eq_getElem?_getD];refine fin _ _ Uo z0 i cap rest (λho => hS.more (air _)) (ahv _) hf ?_ ?_
      · rw [ahJ, List.map_singleton, Ew, ahF (show z0.zn.f = f from hf)]
      · simp; omega
    · have bd : (z0.f != f) = true := by simpa using hf
      refine aK λK hK => ?_; simp (maxSteps := 1000000) (disch := omega) [-getD_eq_getElem?_getD, eo, r2, zJ]; refine hK _ ?_; clear hK K;refine cQ [] [] [] aO (by kernel_rfl) (by kernel_rfl) λK hK => ?_; simp (maxSteps := 1000000) (disch := omega) [-getD_eq_getElem?_getD, eo, e8, r2, zJ, bn, Y3, ez, zH, y1, bd];refine hK _ ?_; clear hK K;refine aV rfl (λh => ?_) (λh => absurd h (by simp));refine push ?_ _ (λs h => ?_) _ ?_
      · rw [ahJ, List.map_singleton, Ew, ahC (show ¬ z0.zn.f = f from hf)]
      · exact h
      · simp; omega
attribute [-simp] getD_eq_getElem?_getD in
def ZX (H:List aA)(T:au)(ts:List Tm)(l:List Ps)(vi vj b1 bo bm nd p8 wz:Nat)(N:Nat)(f a:Int)(w:Bs)(lv:AV)(at_:List Int)(vk:Nat)(R:List (Nat×aA))(J:List aA)(U:au)(D1 D2:List Dz)(d:Dz)(zs:List Wz)(z:Wz)
  (hS:DS H T R bo N J U (D1++d::D2)) (hz:d.zs=zs++[z]) (hN:N<=1099511627776) (ur:at_.length<=1000) (hvk:vk<at_.length) (uq:b1<J.length) (Ng:bm<J.length) (ae0:wz<J.length) (h8:(p8,.cells [.int .i64 f,.str w,lv])∈R) (Q:Exit->St->Prop)
  (go:∀(e:Env)(J':List aA)(d':Dz)(z':Wz),(bM J' U->DS H T R bo (N+1) J' U (D1++d'::D2))->J.length<=J'.length->d'.id=d.id->d'.ns=d.ns->d'.zs=zs++[z']->d'.i=d.i->z'.f=z.f->z'.ws=z.ws++[(w,at_.getD vk 0)]->
   bA J'.length U.length e [(1,.ptr b1 0),(3,.bQ bo nd nd),(4,.aP bm),(51,.sl ts.length (dB ts) .none),(52,.int .i64 (ts.length:Nat)),(53,.int .i64 (vi:Nat)),(8,.ptr p8 0),(58,.sl l.length (bD l) .none),(59,.int .i64 (l.length:Nat)),(60,.int .i64 (vj:Nat)),(10,.ptr wz 0),(11,.ptr bo (D1.length*3)),(13,.ptr d.i (zs.length*2)),(115,.sl at_.length (ints at_) .none),(116,.int .i64 (at_.length:Nat)),(117,.int .i64 (vk:Nat))]->Q .normal ⟨e,J',U⟩) :
  AW ⟨prog,192,190,H.length,T.length,[100100,100131]⟩ (dZ [1,1,1,1,1,0,1,0,0,1,1,0,0,1,1,0,0,1,1,0,0,1,1,1,1,1,0,0,1,1,0,0] (Tryz.f88.body.getD .skip)) Q ⟨[(1,.ptr b1 0),(3,.bQ bo nd nd),(4,.aP bm),(51,.sl ts.length (dB ts) .none),(52,.int .i64 (ts.length:Nat)),(53,.int .i64 (vi:Nat)),(8,.ptr p8 0),(58,.sl l.length (bD l) .none),(59,.int .i64 (l.length:Nat)),(60,.int .i64 (vj:Nat)),(10,.ptr wz 0),(11,.ptr bo (D1.length*3)),(13,.ptr d.i (zs.length*2)),(115,.sl at_.length (ints at_) .none),(116,.int .i64 (at_.length:Nat)),(117,.int .i64 (vk:Nat))],J,U⟩:=by
 conv=>arg 2;whnf
 have aha:vk<(ints at_).length:=by simpa using hvk
 have hga:=aS (xs:=at_) (k:=vk) hvk;generalize at_.getD vk 0=p at *;obtain⟨id,yQ,i,cap,rest,ns,tk⟩:=d;simp only at hz;subst hz;have g8:=hS.hJ.get (ahR _ h8);have Nl:=hS.hJ.get (i:=bo) (b:=.cells (fx (D1++⟨id,zs++[z],i,cap,rest,ns,tk⟩::D2))) zS;have gz:=hS.hJ.get (i:=i) (b:=.cells (nS (zs++[z])++rest)) (by simp[Dz.bx,gb]);have l8:=(aht.1 g8).1;have lo:=(aht.1 Nl).1;have lz:=(aht.1 gz).1;have e8:=aZ g8;have ez:=aZ gz;have lH:=hS.pJ.le;have lT:=hS.pU.le;have zH:(nS (zs++[z])++rest).length=(zs.length+1)*2+rest.length:=by rw[ahw,lS,ahw,ain]
 obtain⟨y1,y2⟩:=Oz zs z rest;have nJ:=λv=>SF zs z rest v;obtain⟨⟨z1,z2⟩,z3,z4⟩:=hS.hD ⟨id,zs++[z],i,cap,rest,ns,tk⟩ zS;simp only at z1 z2 z3 z4;obtain⟨q1,q2⟩:=z3 z zS;obtain⟨zf,ws,zi,zc,zr⟩:=z;simp only at q1 q2 y1 y2 nJ;apply ar;simp(disch:=omega)[hga];refine rk 10 [10,13] [0,0,0,0,0,0,0,0,0,0,0,1,1,1] [[0],[]] aO zK zK zK λK hK=>?_;simp(disch:=omega)[-gZ,e8,ez,y2,zH];have Nk:Has J ((R++(bo,.cells (fx (D1++⟨id,zs++[⟨zf,ws,zi,zc,zr⟩],i,cap,rest,ns,tk⟩::D2)))::(D1.flatMap Dz.bx++((i,.cells (nS (zs++[⟨zf,ws,zi,zc,zr⟩])++rest))::zs.flatMap Wz.bx)))++(gb ws.length zi (dX ws++zr)++D2.flatMap Dz.bx)):=by simpa[Dz.bx,gb,Wz.bx] using hS.hJ
 refine grow (t:=115) (t2:=115) (el:=136) (z:=2) (row:=[.str w,.int .i64 p]) (x:=.sl 1 [.str w,.int .i64 p] .full) (λh=>by simp[gv,h]) (λh=>by simp[gv,h]) zK zK (λ_=>by simp) ?_ ?_ zK zK (gG _) Nk q2 hS.pJ λi2 gD dJ J2 jg sL jT o9 pn zR=>?_
 ·rw[show prog.bytesOf 136=24 by kernel_rfl];omega
 ·omega
 have g2:=jg.get (i:=i) (b:=.cells (nS (zs++[⟨zf,ws,zi,zc,zr⟩])++rest)) zS;have l2:=(aht.1 g2).1;have e2:=aZ g2;simp(disch:=omega)[e2,zH,nJ];refine hK _ ?_;have Gh:nS zs++AV.int IntKind.i64 zf::AV.bQ i2 (ws.length+1) gD::rest=nS (zs++[⟨zf,ws++[(w,p)],i2,gD,dJ⟩])++rest:=by simp[nS,gv]
 rw[Gh];refine go _ _ ⟨id,zs++[⟨zf,ws++[(w,p)],i2,gD,dJ⟩],i,cap,rest,ns,tk⟩ ⟨zf,ws++[(w,p)],i2,gD,dJ⟩ (λho=>⟨?_,?_,?_,sL.set ?_ _,hS.pU,ho⟩) (by simp;omega) rfl rfl rfl rfl rfl rfl ?_
 ·have CY:Dz.bx ⟨id,zs++[⟨zf,ws++[(w,p)],i2,gD,dJ⟩],i,cap,rest,ns,tk⟩=(i,.cells (nS (zs++[⟨zf,ws++[(w,p)],i2,gD,dJ⟩])++rest))::(zs.flatMap Wz.bx++[(i2,.cells (dX ws++([.str w,.int .i64 p]++dJ)))]):=by
   simp[Dz.bx,gb,Wz.bx,<-KN]
  have qE:fx (D1++⟨id,zs++[⟨zf,ws++[(w,p)],i2,gD,dJ⟩],i,cap,rest,ns,tk⟩::D2)=fx (D1++⟨id,zs++[⟨zf,ws,zi,zc,zr⟩],i,cap,rest,ns,tk⟩::D2):=by simp[fx]
  have:=Has.set (A:=R++(bo,.cells (fx (D1++⟨id,zs++[⟨zf,ws,zi,zc,zr⟩],i,cap,rest,ns,tk⟩::D2)))::D1.flatMap Dz.bx) (B:=zs.flatMap Wz.bx++((i2,.cells (dX ws++([.str w,.int .i64 p]++dJ)))::D2.flatMap Dz.bx)) (zU jg) (.cells (nS (zs++[⟨zf,ws++[(w,p)],i2,gD,dJ⟩])++rest));rw[aid,ahK,CY,qE];simpa using this
 ·simpa[Dz.tx] using hS.hU
 ·intro x hx;rcases ahI.1 hx with hx|hx
  ·exact(hS.hD x (by simp[hx])).more (air _)
  rcases ah4.1 hx with rfl|hx
  ·refine⟨⟨by simp at z1 ⊢;omega,λ_=>by simpa using z2 zS⟩,λy hy=>?_,⟨by show ns.length<=_;omega,z4.2⟩⟩;rcases ahI.1 hy with hy|hy
   ·exact(z3 y (by simp[hy])).more (air _)
   ·obtain rfl:=aic.1 hy;exact⟨by simp;omega,λh=>by simpa using⟨o9,pn,zR⟩⟩
  ·exact(hS.hD x (by simp[hx])).more (air _)
 ·exact(z2 zS).2.2
 ·simp;omega
def xi (zs:List Zn)(f:Int)(ws:List Wd):List Zn:=match (JQ zs f).getLast? with
 |some z=>(JQ zs f).dropLast++[⟨z.f,z.ws++ws⟩]
 |none=>[]
def Uj {zs l:List Zn}{f:Int}{z:Zn}(h:JQ zs f=l++[z])(ws:List Wd):xi zs f ws=l++[⟨z.f,z.ws++ws⟩]:=by
 unfold xi;rw[h];simp
def afI (f:Int)(ws:List Wd)(d:Dc):Dc:={ d with zs:=xi d.zs f ws }
def WD (x:Nm)(d:Dc):Dc:={ d with ns:=d.ns++[x] }
def Kf (L:List Dc)(id:Int)(g:Dc->Dc):List Dc:=L.map λd=>if d.id=id then g d else d
def Ab (f:Int)(w:Bs)(L:List Dc)(p:Ps):List Dc:=Kf L p.1 (afI f (p.2.map λa=>(w,a)))
def stepT (L:List Dc)(t:Tm):List Dc:=t.l.foldl (Ab t.f t.w) L
def Ad (f:Int)(L:List Dc)(x:Nm):List Dc:=Kf L x.2 (WD (f,x.1))
def Dx (L:List Dc)(c:Cl):List Dc:=c.x.foldl (Ad c.f) L
def nA {α β:Type}(g:β->α->β)(l:List α)(b:β)(d:α)(j:Nat)(h:j<l.length):(l.take (j+1)).foldl g b=g ((l.take j).foldl g b) (l.getD j d):=by
 rw[aX l j d h,ai8];rfl
def D8 {D1 D2:List Dz}{d d':Dz}{g:Dc->Dc}(hn:((D1++d::D2).map (·.id)).Nodup)(hg:d'.dc=g d.dc):(D1++d'::D2).map Dz.dc=Kf ((D1++d::D2).map Dz.dc) d.id g:=by
 rw[ahJ,aih,aif,ajM] at hn;obtain⟨_,⟨n1,_⟩,n2⟩:=hn;have e1:∀x∈D1,(if x.dc.id=d.id then g x.dc else x.dc)=x.dc:=λx hx=>ahC λh=>n2 x.id (ahz.2 ⟨x,hx,rfl⟩) d.id zS h;have e2:∀x∈D2,(if x.dc.id=d.id then g x.dc else x.dc)=x.dc:=λx hx=>ahC λh=>n1 (ahz.2 ⟨x,hx,h⟩);unfold Kf;rw[aiA,ahJ,ahJ,aih,aih]
 congr 1
 ·exact aib λx hx=>(e1 x hx).symm
 ·congr 1
  ·show d'.dc=if d.dc.id=d.id then g d.dc else d.dc
   rw[ahF (show d.dc.id=d.id from rfl),hg]
  ·exact aib λx hx=>(e2 x hx).symm
def ig (ids:List Int):List (cZ×AV):=(List.range ids.length).map λk=>(lL (ids.getD k 0),.int .i64 (k:Nat))
def uS (ids:List Int):(ig ids).map (·.1)=ids.map lL:=by
 unfold ig;apply ajq
 ·simp
 ·intro i h1 h2;simp at h1;simp[ahs,ahu h1]
def EC {ids:List Int}(hn:ids.Nodup){k:Nat}(hk:k<ids.length):ju (ig ids) (.one (.int .i64 (ids.getD k 0))) (.int .i64 0) false=.int .i64 (k:Nat):=by
 have Yx:((ig ids).map (·.1)).Nodup:=by rw[uS];exact oq (λa b j9=>qi.1 j9) hn
 have hj:k<(ig ids).length:=by simpa[ig] using hk
 have he:(ig ids)[k]'hj=(lL (ids.getD k 0),.int .i64 (k:Nat)):=by simp[ig]
 unfold ju;rw[show (cZ.one (.int .i64 (ids.getD k 0)):cZ)=lL (ids.getD k 0) from rfl,wI Yx hj (by rw[he]),he];rfl
def Wy {ids:List Int}(h:∀i∈ids,1<=i/\i<=1000000000):dz prog 3 (ig ids)=true:=by
 unfold dz;rw[ah3];intro x hx;have:x.1∈(ig ids).map (·.1):=ahz.2 ⟨x,hx,rfl⟩;rw[uS] at this;obtain⟨i,hi,e⟩:=ahz.1 this;rw[<-e];have:=h i hi;exact Ku i zO
attribute [-simp] getD_eq_getElem?_getD in
def PO (H:List aA)(T:au)(ts:List Tm)(l:List Ps)(vi vj b1 bo bm nd p8 wz:Nat)(N:Nat)(f id:Int)(w:Bs)(lv:AV)(at_:List Int)(R:List (Nat×aA))(J:List aA)(U:au)(D1 D2:List Dz)(d:Dz)(zs:List Wz)(z:Wz)
  (hS:DS H T R bo N J U (D1++d::D2)) (hz:d.zs=zs++[z]) (hN:N+at_.length<=1099511627776) (ur:at_.length<=1000) (uq:b1<J.length) (Ng:bm<J.length) (h8:(p8,.cells [.int .i64 f,.str w,lv])∈R) (ND:(wz,.cells [.int .i64 id,.sl at_.length (ints at_) .none])∈R) (Q:Exit->St->Prop)
  (go:∀(e:Env)(J':List aA)(d':Dz)(z':Wz),DS H T R bo (N+at_.length) J' U (D1++d'::D2)->J.length<=J'.length->d'.id=d.id->d'.ns=d.ns->d'.zs=zs++[z']->z'.f=z.f->z'.ws=z.ws++at_.map (λa=>(w,a))->
   bA J'.length U.length e [(1,.ptr b1 0),(3,.bQ bo nd nd),(4,.aP bm),(51,.sl ts.length (dB ts) .none),(52,.int .i64 (ts.length:Nat)),(53,.int .i64 (vi:Nat)),(8,.ptr p8 0),(58,.sl l.length (bD l) .none),(59,.int .i64 (l.length:Nat)),(60,.int .i64 (vj:Nat))]->Q .normal ⟨e,J',U⟩) :
  AW ⟨prog,192,190,H.length,T.length,[100100,100131]⟩ (dZ [1,1,1,1,1,0,1,0,0,1,1,0,0,1,1,0,0,1,1,0,0,1,1,1,1] (Tryz.f88.body.getD .skip)) Q ⟨[(1,.ptr b1 0),(3,.bQ bo nd nd),(4,.aP bm),(51,.sl ts.length (dB ts) .none),(52,.int .i64 (ts.length:Nat)),(53,.int .i64 (vi:Nat)),(8,.ptr p8 0),(58,.sl l.length (bD l) .none),(59,.int .i64 (l.length:Nat)),(60,.int .i64 (vj:Nat)),(10,.ptr wz 0),(11,.ptr bo (D1.length*3)),(13,.ptr d.i (zs.length*2))],J,U⟩:=by
 conv=>arg 2;whnf
 have g10:=hS.hJ.get (ahR _ ND);have l10:=(aht.1 g10).1;have Y2:=aZ g10;have lo:=hS.hJ.lt (i:=bo) (b:=.cells (fx (D1++d::D2))) (by simp);have l8:=hS.hJ.lt (ahR _ h8);have lH:=hS.pJ.le;have lT:=hS.pU.le;have ldi:d.i<J.length:=hS.hJ.lt (b:=.cells (nS d.zs++d.rest)) (by simp[Dz.bx,gb,hz]);refine aK λK hK=>?_;simp(disch:=omega)[Y2];apply hK;apply ag;refine aG (X:=Nat×List aA×Dz×Wz) (λx=>⟨[(1,.ptr b1 0),(3,.bQ bo nd nd),(4,.aP bm),(51,.sl ts.length (dB ts) .none),(52,.int .i64 (ts.length:Nat)),(53,.int .i64 (vi:Nat)),(8,.ptr p8 0),(58,.sl l.length (bD l) .none),(59,.int .i64 (l.length:Nat)),(60,.int .i64 (vj:Nat)),(10,.ptr wz 0),(11,.ptr bo (D1.length*3)),(13,.ptr d.i (zs.length*2)),(115,.sl at_.length (ints at_) .none),(116,.int .i64 (at_.length:Nat)),(117,.int .i64 (x.1:Nat))],x.2.1,U⟩)
  (λx=>x.1<=at_.length/\DS H T R bo (N+x.1) x.2.1 U (D1++x.2.2.1::D2)/\J.length<=x.2.1.length/\(x.2.2.1.id=d.id/\x.2.2.1.ns=d.ns/\x.2.2.1.i=d.i)/\x.2.2.1.zs=zs++[x.2.2.2]/\x.2.2.2.f=z.f/\x.2.2.2.ws=z.ws++(at_.take x.1).map (λa=>(w,a))) (λx=>at_.length-x.1) (0,J,d,z) ?_ ?_ ?_
 ·exact⟨ahE _,hS,ahv _,⟨rfl,rfl,rfl⟩,hz,rfl,by simp⟩
 ·refine ak [] [] ?_ ?_ ?_ ?_ hS.ok ?_
  all_goals simp
  all_goals omega
 ·rintro⟨k,J2,d2,z2⟩ ⟨k1,k2,k3,⟨k4,k5,k6⟩,k7,k8,k9⟩;simp only at k1 k2 k3 k4 k5 k6 k7 k8 k9;have M9:=k2.pJ.le;have Q4:=k2.pU.le;apply aK;intro K Z;simp(disch:=omega);apply Z;refine ae λK2 ba=>?_;refine aV rfl (λgN=>?_) (λgN=>?_)
  ·simp  at gN;apply aj;simp(disch:=omega) ;apply ba;clear ba;refine ae λK3 bH=>?_;apply ag;rw[<-k6];refine aF ⟨[(1,.ptr b1 0),(3,.bQ bo nd nd),(4,.aP bm),(51,.sl ts.length (dB ts) .none),(52,.int .i64 (ts.length:Nat)),(53,.int .i64 (vi:Nat)),(8,.ptr p8 0),(58,.sl l.length (bD l) .none),(59,.int .i64 (l.length:Nat)),(60,.int .i64 (vj:Nat)),(10,.ptr wz 0),(11,.ptr bo (D1.length*3)),(13,.ptr d2.i (zs.length*2)),(115,.sl at_.length (ints at_) .none),(116,.int .i64 (at_.length:Nat)),(117,.int .i64 (k:Nat))],J2,U⟩ (ak [] [] (by simp) (by simp) (by show H.length<=_;omega) (by show T.length<=_;omega) k2.ok (by simp;omega)) ?_;refine ZX H T ts l vi vj b1 bo bm nd p8 wz (N+k) f (at_.getD k 0) w lv at_ k R J2 U D1 D2 d2 zs z2 k2 k7 (by omega) ur gN (by omega) (by omega) (by omega) h8 _ λe J' d' z' a1 a2 a3 a4 a5 a6 a7 a8 a9=>?_;refine bH _ (dE λz8=>?_);replace a1:=a1 z8;have JT:=a1.pJ.le;have JS:=a1.pU.le;refine aF ⟨[(1,.ptr b1 0),(3,.bQ bo nd nd),(4,.aP bm),(51,.sl ts.length (dB ts) .none),(52,.int .i64 (ts.length:Nat)),(53,.int .i64 (vi:Nat)),(8,.ptr p8 0),(58,.sl l.length (bD l) .none),(59,.int .i64 (l.length:Nat)),(60,.int .i64 (vj:Nat)),(10,.ptr wz 0),(11,.ptr bo (D1.length*3)),(13,.ptr d2.i (zs.length*2)),(115,.sl at_.length (ints at_) .none),(116,.int .i64 (at_.length:Nat)),(117,.int .i64 (k:Nat))],J',U⟩ (ak [] [] (by simp) (by simp) (by show H.length<=_;omega) (by show T.length<=_;omega) a1.ok a9) ?_;clear bH;refine br λK hK=>?_;simp(disch:=omega) ;apply hK;refine⟨(k+1,J',d',z'),⟨by show k+1<=_;omega,a1,by show J.length<=J'.length;omega,⟨a3.trans k4,a4.trans k5,a6.trans k6⟩,a5,a7.trans k8,?_⟩,by show at_.length-(k+1)<at_.length-k;omega,?_⟩
   ·show z'.ws=z.ws++(at_.take (k+1)).map _;rw[a8,k9,aX at_ k 0 gN,ahJ,ahM];rfl
   ·rw[<-k6];refine ak [] [] ?_ ?_ ?_ ?_ a1.ok ?_
    all_goals simp
    all_goals omega
  ·simp  at gN;have pD:k=at_.length:=by omega
   subst pD;apply aD;simp(disch:=omega) ;rw[ahO] at k9;refine go _ J2 d2 z2 k2 k3 k4 k5 k7 k8 k9 ?_;simp;omega
def Eb {D:List Dz}{k:Nat}(hk:k<D.length):∃D1 d D2,D=D1++d::D2/\D1.length=k:=by
 refine⟨D.take k,D[k],D.drop (k+1),?_,by simp;omega⟩;rw[List.getElem_cons_drop,ah1]
def LJ (H:List aA)(T:au)(ts:List Tm)(l:List Ps)(vi vj b1 bo bm nd p8:Nat)(N:Nat)(f:Int)(w:Bs)(lv:AV)(ids:List Int)(R:List (Nat×aA))(J:List aA)(U:au)(D:List Dz)
  (hS:DS H T R bo N J U D) (lP:D.map (·.id)=ids) (nU:ids.Nodup) (mY:∀i∈ids,1<=i/\i<=1000000000) (we:nd=ids.length) (hk:vj<l.length) (CT:l.length<=1000) (sN:(l.getD vj p0).1∈ids) (zM:(l.getD vj p0).2.length<=1000) (hN:N+1001<=1099511627776) (uq:b1<J.length) (Bv:H.length<=bo)
  (hm:(bm,.map (ig ids))∈R) (h8:(p8,.cells [.int .i64 f,.str w,lv])∈R) (Q:Exit->St->Prop)
  (go:∀(e:Env)(J':List aA)(D':List Dz),DS H T R bo (N+1001) J' U D'->J.length<=J'.length->D'.map (·.id)=ids->D'.map Dz.dc=Ab f w (D.map Dz.dc) (l.getD vj p0)->
   bA J'.length U.length e [(1,.ptr b1 0),(3,.bQ bo nd nd),(4,.aP bm),(51,.sl ts.length (dB ts) .none),(52,.int .i64 (ts.length:Nat)),(53,.int .i64 (vi:Nat)),(8,.ptr p8 0),(58,.sl l.length (bD l) .none),(59,.int .i64 (l.length:Nat)),(60,.int .i64 (vj:Nat))]->Q .normal ⟨e,J',U⟩) :
  AW ⟨prog,192,190,H.length,T.length,[100100,100131]⟩ (dZ [1,1,1,1,1,0,1,0,0,1,1,0,0,1,1,0,0,1,1,0,0] (Tryz.f88.body.getD .skip)) Q ⟨[(1,.ptr b1 0),(3,.bQ bo nd nd),(4,.aP bm),(51,.sl ts.length (dB ts) .none),(52,.int .i64 (ts.length:Nat)),(53,.int .i64 (vi:Nat)),(8,.ptr p8 0),(58,.sl l.length (bD l) .none),(59,.int .i64 (l.length:Nat)),(60,.int .i64 (vj:Nat))],J,U⟩:=by
 conv=>arg 2;whnf
 have gm:=hS.hJ.get (ahR _ hm);have lm:=(aht.1 gm).1;have l8:=hS.hJ.lt (ahR _ h8);have lo:=hS.hJ.lt (i:=bo) (b:=.cells (fx D)) zS;have lH:=hS.pJ.le;have lT:=hS.pU.le;have bB:=mI l vj hk;generalize l.getD vj p0=p at *;obtain⟨pd,ps⟩:=p;simp only at bB sN zM go;have aeY:ps.length<=9223372036854775807:=zO;apply ar;simp(disch:=omega)[-getD_eq_getElem?_getD,bB,bc];have rV:bM (J++[.cells [.int .i64 pd,.sl ps.length (ints ps) .none]]) U:=hS.ok.snoc zS;have kC:=hS.new _ rV;have Km:(J++[aA.cells [.int .i64 pd,.sl ps.length (ints ps) .none]]).length=J.length+1:=zS;obtain⟨wz,ND⟩:∃i,i=J.length:=⟨_,rfl⟩
 rw[<-ND] at kC;simp only[<-ND];generalize J++[aA.cells [.int .i64 pd,.sl ps.length (ints ps) .none]]=J1 at *;obtain⟨k,gy,VJ⟩:=bP 0 sN;have zY:D.length=ids.length:=by rw[<-lP,ahL]
 obtain⟨D1,d,D2,hD,YU⟩:=Eb (D:=D) (k:=k) zO;have Si:d.id=pd:=by
  rw[<-VJ,<-lP,hD,ahs,aiD,ahP zO,YU,aiT];rfl
 subst hD;have g10:=kC.hJ.get (i:=wz) (b:=.cells [.int .i64 pd,.sl ps.length (ints ps) .none]) zS;have g2:=kC.hJ.get (i:=bm) (b:=.map (ig ids)) (by simp[hm]);have l10:=(aht.1 g10).1;have l2:=(aht.1 g2).1;have Y2:=aZ g10;have e2:=aZ g2;have eI:=EC nU gy;rw[VJ] at eI;have RN:=Wy mY;have UB:=Ku pd (by have:=mY pd sN;omega);have lO:lL pd=.one (.int .i64 pd):=rfl;rw[lO] at UB;have RM:k<nd:=zO;apply ar;simp(disch:=omega)[-getD_eq_getElem?_getD,Ca,Y2,e2,eI,RN,UB];subst YU;refine aF ⟨[(1,.ptr b1 0),(3,.bQ bo nd nd),(4,.aP bm),(51,.sl ts.length (dB ts) .none),(52,.int .i64 (ts.length:Nat)),(53,.int .i64 (vi:Nat)),(8,.ptr p8 0),(58,.sl l.length (bD l) .none),(59,.int .i64 (l.length:Nat)),(60,.int .i64 (vj:Nat)),(10,.ptr wz 0),(11,.ptr bo (D1.length*3))],J1,U⟩ (ak [] [] zS zS (by show H.length<=_;omega) (by show T.length<=_;omega) kC.ok (by simp;omega)) ?_;refine ZU H T ts l vi vj b1 bo bm nd p8 wz N f w lv _ J1 U D1 D2 d kC zO zO zO Bv zO (by simp[h8]) Q λe J' d' zs z c1 c2 c3 c4 c5 c6 c7 c8=>?_;have JT:=c1.pJ.le;have JS:=c1.pU.le;refine aF ⟨[(1,.ptr b1 0),(3,.bQ bo nd nd),(4,.aP bm),(51,.sl ts.length (dB ts) .none),(52,.int .i64 (ts.length:Nat)),(53,.int .i64 (vi:Nat)),(8,.ptr p8 0),(58,.sl l.length (bD l) .none),(59,.int .i64 (l.length:Nat)),(60,.int .i64 (vj:Nat)),(10,.ptr wz 0),(11,.ptr bo (D1.length*3)),(13,.ptr d'.i (zs.length*2))],J',U⟩ (ak [] [] zS zS (by show H.length<=_;omega) (by show T.length<=_;omega) c1.ok c8) ?_;refine PO H T ts l vi vj b1 bo bm nd p8 wz (N+1) f pd w lv ps _ J' U D1 D2 d' zs z c1 c5 zO zO zO zO (by simp[h8]) zS Q λe J2 d2 z2 q1 q2 q3 q4 q5 q6 q7 q8=>?_;refine go e J2 (D1++d2::D2) ((q1.more zO).sub zS) zO ?_ ?_ q8
 ·rw[<-lP];simp[q3,c3]
 ·unfold Ab;simp only;rw[<-Si];refine D8 (by rw[lP];exact nU) ?_;have e1:=Uj (zs:=d.dc.zs) (l:=zs.map Wz.zn) (z:=z.zn) (f:=f) (by rw[<-c7];simp[Dz.dc,c5]) (ps.map λa=>(w,a));have e2:d2.dc.zs=zs.map Wz.zn++[⟨z.f,z.ws++ps.map λa=>(w,a)⟩]:=by simp[Dz.dc,q5,Wz.zn,q6,q7]
  have e3:d2.dc=⟨d.id,d2.dc.zs,d.ns⟩:=by show (⟨d2.id,_,d2.ns⟩:Dc)=_;rw[q3,c3,q4,c4];rfl
  rw[e3,e2];show _=(⟨d.id,xi d.dc.zs f _,d.ns⟩:Dc);rw[e1];rfl
attribute [-simp] getD_eq_getElem?_getD in
def K0 (H:List aA)(T:au)(ts:List Tm)(vi b1 bo bm nd:Nat)(N:Nat)(ids:List Int)(R:List (Nat×aA))(J:List aA)(U:au)(D:List Dz)
  (hS:DS H T R bo N J U D) (lP:D.map (·.id)=ids) (we:nd=ids.length) (nU:ids.Nodup) (mY:∀i∈ids,1<=i/\i<=1000000000) (hk:vi<ts.length) (CT:(ts.getD vi t0).l.length<=1000) (sN:∀p∈(ts.getD vi t0).l,p.1∈ids/\p.2.length<=1000) (hN:N+1001000<=1099511627776) (uq:b1<J.length) (Bv:H.length<=bo)
  (hm:(bm,.map (ig ids))∈R) (Q:Exit->St->Prop)
  (go:∀(e:Env)(J':List aA)(D':List Dz),DS H T R bo (N+1001000) J' U D'->J.length<=J'.length->D'.map (·.id)=ids->D'.map Dz.dc=stepT (D.map Dz.dc) (ts.getD vi t0)->
   bA J'.length U.length e [(1,.ptr b1 0),(3,.bQ bo nd nd),(4,.aP bm),(51,.sl ts.length (dB ts) .none),(52,.int .i64 (ts.length:Nat)),(53,.int .i64 (vi:Nat))]->Q .normal ⟨e,J',U⟩) :
  AW ⟨prog,192,190,H.length,T.length,[100100,100131]⟩ (dZ [1,1,1,1,1,0,1,0,0,1,1,0,0] (Tryz.f88.body.getD .skip)) Q ⟨[(1,.ptr b1 0),(3,.bQ bo nd nd),(4,.aP bm),(51,.sl ts.length (dB ts) .none),(52,.int .i64 (ts.length:Nat)),(53,.int .i64 (vi:Nat))],J,U⟩:=by
 conv=>arg 2;whnf
 have lm:=hS.hJ.lt (ahR _ hm);have lo:=hS.hJ.lt (i:=bo) (b:=.cells (fx D)) (by simp);have lH:=hS.pJ.le;have lT:=hS.pU.le;have bB:=kN ts vi hk;generalize ts.getD vi t0=t at *;obtain⟨f,w,l⟩:=t;simp only at bB CT sN go;have afc:l.length<=9223372036854775807:=by omega
 refine aK λK hK=>?_;simp(disch:=omega)[bB,cT];apply hK;have rV:bM (J++[.cells [.int .i64 f,.str w,.sl l.length (bD l) .none]]) U:=hS.ok.snoc (by simp);have kC:=hS.new _ rV;have Km:(J++[aA.cells [.int .i64 f,.str w,.sl l.length (bD l) .none]]).length=J.length+1:=by simp
 obtain⟨p8,h8⟩:∃i,i=J.length:=⟨_,rfl⟩
 rw[<-h8] at kC;simp only[<-h8];generalize J++[aA.cells [.int .i64 f,.str w,.sl l.length (bD l) .none]]=J1 at *;have g8:=kC.hJ.get (i:=p8) (b:=.cells [.int .i64 f,.str w,.sl l.length (bD l) .none]) (by simp);have l8:=(aht.1 g8).1;have e8:=aZ g8;refine aK λK hK=>?_;simp(disch:=omega)[e8];apply hK;apply ag;refine aG (X:=Nat×List aA×List Dz) (λx=>⟨[(1,.ptr b1 0),(3,.bQ bo nd nd),(4,.aP bm),(51,.sl ts.length (dB ts) .none),(52,.int .i64 (ts.length:Nat)),(53,.int .i64 (vi:Nat)),(8,.ptr p8 0),(58,.sl l.length (bD l) .none),(59,.int .i64 (l.length:Nat)),(60,.int .i64 (x.1:Nat))],x.2.1,U⟩)
  (λx=>x.1<=l.length/\DS H T ((p8,.cells [.int .i64 f,.str w,.sl l.length (bD l) .none])::R) bo (N+1001*x.1) x.2.1 U x.2.2/\J1.length<=x.2.1.length/\x.2.2.map (·.id)=ids/\x.2.2.map Dz.dc=(l.take x.1).foldl (Ab f w) (D.map Dz.dc)) (λx=>l.length-x.1) (0,J1,D) ?_ ?_ ?_
 ·exact⟨ahE _,kC,ahv _,lP,by simp⟩
 ·refine ak [] [] ?_ ?_ ?_ ?_ kC.ok ?_
  all_goals simp
  all_goals omega
 ·rintro⟨k,J2,D2⟩ ⟨k1,k2,k3,k4,k5⟩;simp only at k1 k2 k3 k4 k5;have M9:=k2.pJ.le;have Q4:=k2.pU.le;apply aK;intro K Z;simp(disch:=omega);apply Z;refine ae λK2 ba=>?_;refine aV rfl (λgN=>?_) (λgN=>?_)
  ·simp  at gN;have hp:=sN _ (aQ l k p0 gN);apply aj;simp(disch:=omega) ;apply ba;clear ba;refine ae λK3 bH=>?_;apply ag;refine aF ⟨[(1,.ptr b1 0),(3,.bQ bo nd nd),(4,.aP bm),(51,.sl ts.length (dB ts) .none),(52,.int .i64 (ts.length:Nat)),(53,.int .i64 (vi:Nat)),(8,.ptr p8 0),(58,.sl l.length (bD l) .none),(59,.int .i64 (l.length:Nat)),(60,.int .i64 (k:Nat))],J2,U⟩ (ak [] [] (by simp) (by simp) (by show H.length<=_;omega) (by show T.length<=_;omega) k2.ok (by simp;omega)) ?_;refine LJ H T ts l vi k b1 bo bm nd p8 (N+1001*k) f w _ ids _ J2 U D2 k2 k4 nU mY we gN (by omega) hp.1 hp.2 (by omega) (by omega) Bv (by simp[hm]) (List.mem_cons_self ..) _ λe J' D' a1 a2 a3 a4 a5=>?_;have JT:=a1.pJ.le;have JS:=a1.pU.le;refine bH _ (aF ⟨[(1,.ptr b1 0),(3,.bQ bo nd nd),(4,.aP bm),(51,.sl ts.length (dB ts) .none),(52,.int .i64 (ts.length:Nat)),(53,.int .i64 (vi:Nat)),(8,.ptr p8 0),(58,.sl l.length (bD l) .none),(59,.int .i64 (l.length:Nat)),(60,.int .i64 (k:Nat))],J',U⟩ (ak [] [] (by simp) (by simp) (by show H.length<=_;omega) (by show T.length<=_;omega) a1.ok a5) ?_);clear bH;refine br λK hK=>?_;simp(disch:=omega) ;apply hK;refine⟨(k+1,J',D'),⟨by show k+1<=_;omega,a1.more (by omega),by show J1.length<=J'.length;omega,a3,?_⟩,by show l.length-(k+1)<l.length-k;omega,?_⟩
   ·show D'.map Dz.dc=(l.take (k+1)).foldl _ _;rw[nA _ _ _ p0 k gN,a4,k5]
   ·refine ak [] [] ?_ ?_ ?_ ?_ a1.ok ?_
    all_goals simp
    all_goals omega
  ·simp  at gN;have pD:k=l.length:=by omega
   subst pD;apply aD;simp(disch:=omega) ;rw[ahO] at k5;refine go _ J2 D2 ((k2.more (by omega)).sub (by simp)) (by omega) k4 k5 ?_;simp;omega
attribute [-simp] getD_eq_getElem?_getD in
def Cw (H:List aA)(T:au)(s:Sg)(b1 bo bm nd:Nat)(N:Nat)(ids:List Int)(R:List (Nat×aA))(J:List aA)(U:au)(D:List Dz)
  (hS:DS H T R bo N J U D) (lP:D.map (·.id)=ids) (we:nd=ids.length) (nU:ids.Nodup) (mY:∀i∈ids,1<=i/\i<=1000000000) (hs:rz s) (sN:∀t∈s.aW,∀p∈t.l,p.1∈ids) (hN:N+1001000000<=1099511627776) (h1:(b1,.cells (cH s))∈R) (Bv:H.length<=bo)
  (hm:(bm,.map (ig ids))∈R) (Q:Exit->St->Prop)
  (go:∀(e:Env)(J':List aA)(D':List Dz),DS H T R bo (N+1001000000) J' U D'->D'.map (·.id)=ids->D'.map Dz.dc=s.aW.foldl stepT (D.map Dz.dc)->
   bA J'.length U.length e [(1,.ptr b1 0),(3,.bQ bo nd nd),(4,.aP bm)]->AW ⟨prog,192,190,H.length,T.length,[100100,100131]⟩ (dZ [1,1,1,1,1,1] (Tryz.f88.body.getD .skip)) Q ⟨e,J',U⟩) :
  AW ⟨prog,192,190,H.length,T.length,[100100,100131]⟩ (dZ [1,1,1,1,1] (Tryz.f88.body.getD .skip)) Q ⟨[(1,.ptr b1 0),(3,.bQ bo nd nd),(4,.aP bm)],J,U⟩:=by
 conv=>arg 2;whnf
 have lm:=hS.hJ.lt (ahR _ hm);have lo:=hS.hJ.lt (i:=bo) (b:=.cells (fx D)) (by simp);have g1:=hS.hJ.get (ahR _ h1);have l1:=(aht.1 g1).1;have e1:=aZ g1;have lH:=hS.pJ.le;have lT:=hS.pU.le;obtain⟨aw,ts,aH⟩:=s;obtain⟨sd,st,sw,sc,sx⟩:=hs;simp only at e1 sd st sw sc sx sN go;have sM:ts.length<=9223372036854775807:=by omega
 refine ae λK1 aN=>?_;refine aK λK hK=>?_;simp(disch:=omega)[e1];apply hK;apply ag;refine aG (X:=Nat×List aA×List Dz) (λx=>⟨[(1,.ptr b1 0),(3,.bQ bo nd nd),(4,.aP bm),(51,.sl ts.length (dB ts) .none),(52,.int .i64 (ts.length:Nat)),(53,.int .i64 (x.1:Nat))],x.2.1,U⟩)
  (λx=>x.1<=ts.length/\DS H T R bo (N+1001000*x.1) x.2.1 U x.2.2/\J.length<=x.2.1.length/\x.2.2.map (·.id)=ids/\x.2.2.map Dz.dc=(ts.take x.1).foldl stepT (D.map Dz.dc)) (λx=>ts.length-x.1) (0,J,D) ?_ ?_ ?_
 ·exact⟨ahE _,hS,ahv _,lP,by simp⟩
 ·refine ak [] [] ?_ ?_ ?_ ?_ hS.ok ?_
  all_goals simp
  all_goals omega
 ·rintro⟨k,J2,D2⟩ ⟨k1,k2,k3,k4,k5⟩;simp only at k1 k2 k3 k4 k5;have M9:=k2.pJ.le;have Q4:=k2.pU.le;apply aK;intro K Z;simp(disch:=omega);apply Z;refine ae λK2 ba=>?_;refine aV rfl (λgN=>?_) (λgN=>?_)
  ·simp  at gN;have Yt:=aQ ts k t0 gN;have hw:=sw _ Yt;apply aj;simp(disch:=omega) ;apply ba;clear ba;refine ae λK3 bH=>?_;apply ag;refine aF ⟨[(1,.ptr b1 0),(3,.bQ bo nd nd),(4,.aP bm),(51,.sl ts.length (dB ts) .none),(52,.int .i64 (ts.length:Nat)),(53,.int .i64 (k:Nat))],J2,U⟩ (ak [] [] (by simp) (by simp) (by show H.length<=_;omega) (by show T.length<=_;omega) k2.ok (by simp;omega)) ?_;refine K0 H T ts k b1 bo bm nd (N+1001000*k) ids _ J2 U D2 k2 k4 we nU mY gN hw.2.1 (λp hp=>⟨sN _ Yt p hp,hw.2.2 p hp⟩) (by omega) (by omega) Bv hm _ λe J' D' a1 a2 a3 a4 a5=>?_;have JT:=a1.pJ.le;have JS:=a1.pU.le;refine bH _ (aF ⟨[(1,.ptr b1 0),(3,.bQ bo nd nd),(4,.aP bm),(51,.sl ts.length (dB ts) .none),(52,.int .i64 (ts.length:Nat)),(53,.int .i64 (k:Nat))],J',U⟩ (ak [] [] (by simp) (by simp) (by show H.length<=_;omega) (by show T.length<=_;omega) a1.ok a5) ?_);clear bH;refine br λK hK=>?_;simp(disch:=omega) ;apply hK;refine⟨(k+1,J',D'),⟨by show k+1<=_;omega,a1.more (by omega),by show J.length<=J'.length;omega,a3,?_⟩,by show ts.length-(k+1)<ts.length-k;omega,?_⟩
   ·show D'.map Dz.dc=(ts.take (k+1)).foldl _ _;rw[nA _ _ _ t0 k gN,a4,k5]
   ·refine ak [] [] ?_ ?_ ?_ ?_ a1.ok ?_
    all_goals simp
    all_goals omega
  ·simp  at gN;have pD:k=ts.length:=by omega
   subst pD;apply aD;simp(disch:=omega) ;rw[ahO] at k5;apply aN;clear aN;refine go _ J2 D2 (k2.more (by omega)) k4 k5 ?_;simp;omega
attribute [-simp] getD_eq_getElem?_getD in
def Mj (H:List aA)(T:au)(aH:List Cl)(x:List Nm)(vi vk b1 bo bm nd yX:Nat)(N:Nat)(f:Int)(xv:AV)(ids:List Int)(R:List (Nat×aA))(J:List aA)(U:au)(D:List Dz)
  (hS:DS H T R bo N J U D) (lP:D.map (·.id)=ids) (we:nd=ids.length) (nU:ids.Nodup) (mY:∀i∈ids,1<=i/\i<=1000000000) (hk:vk<x.length) (CT:x.length<=1000) (sN:(x.getD vk n0).2∈ids) (hN:N+1<=1099511627776) (uq:b1<J.length) (Bv:H.length<=bo)
  (hm:(bm,.map (ig ids))∈R) (UC:(yX,.cells [.int .i64 f,xv])∈R) (Q:Exit->St->Prop)
  (go:∀(e:Env)(J':List aA)(U':au)(D':List Dz),(bM J' U'->DS H T R bo (N+1) J' U' D')->J.length<=J'.length->D'.map (·.id)=ids->D'.map Dz.dc=Ad f (D.map Dz.dc) (x.getD vk n0)->
   bA J'.length U'.length e [(1,.ptr b1 0),(3,.bQ bo nd nd),(4,.aP bm),(138,.sl aH.length (dP aH) .none),(139,.int .i64 (aH.length:Nat)),(140,.int .i64 (vi:Nat)),(17,.ptr yX 0),(145,.sl x.length (bG x) .none),(146,.int .i64 (x.length:Nat)),(147,.int .i64 (vk:Nat))]->Q .normal ⟨e,J',U'⟩) :
  AW ⟨prog,192,190,H.length,T.length,[100100,100131]⟩ (dZ [1,1,1,1,1,1,0,1,0,0,1,1,0,0,1,1,0,0,1,1,0,0] (Tryz.f88.body.getD .skip)) Q ⟨[(1,.ptr b1 0),(3,.bQ bo nd nd),(4,.aP bm),(138,.sl aH.length (dP aH) .none),(139,.int .i64 (aH.length:Nat)),(140,.int .i64 (vi:Nat)),(17,.ptr yX 0),(145,.sl x.length (bG x) .none),(146,.int .i64 (x.length:Nat)),(147,.int .i64 (vk:Nat))],J,U⟩:=by
 conv=>arg 2;whnf
 have lm:=hS.hJ.lt (ahR _ hm);have l17:=hS.hJ.lt (ahR _ UC);have lo:=hS.hJ.lt (i:=bo) (b:=.cells (fx D)) zS;have lH:=hS.pJ.le;have lT:=hS.pU.le;have bB:=fH x vk hk;generalize x.getD vk n0=y at *;obtain⟨yn,yd⟩:=y;simp only at bB sN go;apply ar;simp(disch:=omega)[bB,cE];have rV:bM (J++[.cells [.int .i64 yn,.int .i64 yd]]) U:=hS.ok.snoc zS;have kC:=hS.new _ rV;have Km:(J++[aA.cells [.int .i64 yn,.int .i64 yd]]).length=J.length+1:=zS;obtain⟨p19,h19⟩:∃i,i=J.length:=⟨_,rfl⟩
 rw[<-h19] at kC;simp only[<-h19];generalize J++[aA.cells [.int .i64 yn,.int .i64 yd]]=J1 at *;obtain⟨k,gy,VJ⟩:=bP 0 sN;have zY:D.length=ids.length:=by rw[<-lP,ahL]
 obtain⟨D1,d,D2,hD,YU⟩:=Eb (D:=D) (k:=k) zO;have Si:d.id=yd:=by
  rw[<-VJ,<-lP,hD,ahs,aiD,ahP zO,YU,aiT];rfl
 subst hD;have g19:=kC.hJ.get (i:=p19) (b:=.cells [.int .i64 yn,.int .i64 yd]) zS;have g17:=kC.hJ.get (i:=yX) (b:=.cells [.int .i64 f,xv]) (by simp[UC]);have g2:=kC.hJ.get (i:=bm) (b:=.map (ig ids)) (by simp[hm]);have Nl:=kC.hJ.get (i:=bo) (b:=.cells (fx (D1++d::D2))) zS;have l19:=(aht.1 g19).1;have ag7:=(aht.1 g17).1;have l2:=(aht.1 g2).1;have lo':=(aht.1 Nl).1;have e19:=aZ g19;have VW:=aZ g17;have e2:=aZ g2;have eo:=aZ Nl;have eI:=EC nU gy;rw[VJ] at eI;have RN:=Wy mY;have UB:=Ku yd (by have:=mY yd sN;omega);have lO:lL yd=.one (.int .i64 yd):=rfl;rw[lO] at UB;have RM:k<nd:=zO;apply ar;simp(disch:=omega)[Ca,e19,e2,eI,RN,UB];subst YU;obtain⟨r1,r2,r3⟩:=Hf (D1:=D1) (D2:=D2) d;have zJ:(fx (D1++d::D2)).length=(D1.length+1+D2.length)*3:=by rw[lX];simp;omega
 have nJ:=λv=>(JC (D1:=D1) (D2:=D2) d v).2;obtain⟨hz1,Gh,hz3,hz4⟩:=kC.hD d zS;obtain⟨id,zs,i,cap,rest,ns,tk⟩:=d;simp only at r1 r2 r3 nJ Si hz1 Gh hz3 hz4;have hT:(D1++⟨id,zs,i,cap,rest,ns,tk⟩::D2).flatMap Dz.tx=D1.flatMap Dz.tx++(Dz.tx ⟨id,zs,i,cap,rest,ns,tk⟩++D2.flatMap Dz.tx):=zS;have CZ:=kC.hU;rw[hT] at CZ;have fin:∀(e:Env)(U2:au)(Up:Nat),Has U2 (D1.flatMap Dz.tx++((Up,((ns.length+1)*2,2))::D2.flatMap Dz.tx))->T.length<=Up->gW T U2->U.length<=U2.length->
   bA J1.length U2.length e [(1,.ptr b1 0),(3,.bQ bo nd nd),(4,.aP bm),(138,.sl aH.length (dP aH) .none),(139,.int .i64 (aH.length:Nat)),(140,.int .i64 (vi:Nat)),(17,.ptr yX 0),(145,.sl x.length (bG x) .none),(146,.int .i64 (x.length:Nat)),(147,.int .i64 (vk:Nat))]->Q .normal ⟨e,J1.set bo (.cells (fx D1++([.int .i64 id,gv zs.length i cap,.sl (ns.length+1) (bG (ns++[(f,yn)])) (.own Up)]++fx D2))),U2⟩:=by
  intro e U2 Up hU' gV hP hUl he;have qE:fx (D1++⟨id,zs,i,cap,rest,ns++[(f,yn)],Up⟩::D2)=fx D1++([.int .i64 id,gv zs.length i cap,.sl (ns.length+1) (bG (ns++[(f,yn)])) (.own Up)]++fx D2):=by simp[fx,ov]
  rw[<-qE];refine go _ _ _ (D1++⟨id,zs,i,cap,rest,ns++[(f,yn)],Up⟩::D2) (λho=>⟨?_,?_,?_,kC.pJ.set Bv _,hP,ho⟩) (by simp;omega) ?_ ?_ (zU he)
  ·have:=Has.set (A:=(p19,.cells [.int .i64 yn,.int .i64 yd])::R) (B:=(D1++⟨id,zs,i,cap,rest,ns,tk⟩::D2).flatMap Dz.bx) kC.hJ (.cells (fx (D1++⟨id,zs,i,cap,rest,ns++[(f,yn)],Up⟩::D2)));have h2:=this.sub ((aiw (p19,aA.cells [.int .i64 yn,.int .i64 yd]) R).append_right _);simpa[Dz.bx] using h2
  ·rw[aid,ahK];simpa[Dz.tx] using hU'
  ·intro y hy;rcases ahI.1 hy with hy|hy
   ·exact(kC.hD y (by simp[hy])).more (air _)
   rcases ah4.1 hy with rfl|hy
   ·exact⟨hz1.more (air _),λz hz=>(Gh z hz).more (air _),⟨by simp;omega,λ_=>gV⟩⟩
   ·exact(kC.hD y (by simp[hy])).more (air _)
  ·rw[<-lP];simp
  ·unfold Ad;simp only;rw[<-Si];exact D8 (d:=⟨id,zs,i,cap,rest,ns,tk⟩) (by rw[lP];exact nU) (by simp[Dz.dc,WD])
 rcases List.eq_nil_or_concat ns with hn|⟨RB,x0,hn⟩
 ·subst hn;simp only[ov,ajc] at r3;simp only[Dz.tx,ajc,ai3] at CZ;refine du [11,14] [0,0,0,0,0,0,0,0,0,0,0,0,1,1,1] [[0],[]] aO zK zK λK hK=>?_;simp(disch:=omega)[eo,r3,zJ,VW,e19,nJ];refine hK _ (fin _ _ U.length ?_ lT (kC.pU.app _) zS (by simp;omega));have:=CZ.new (2,2);refine this.perm ?_;rw[ahM];exact(aik _ _).symm.append_left _
 ·rw[List.concat_eq_append] at hn;subst hn;have dM:¬RB++[x0]=[]:=zS;simp only[ov,ahC dM] at r3;simp only[Dz.tx,ahC dM,List.singleton_append] at CZ;have gU:=CZ.get (i:=tk) (b:=((RB++[x0]).length*2,2)) zS;have lU:=(aht.1 gU).1;have eU:=aZ gU;have RK:=cE (RB++[x0]);have hq:RB.length+1<=N:=by simpa using hz3
  have C7:=uR (RB++[x0]) (f,yn);simp only at C7;refine du [11,14] [0,0,0,0,0,0,0,0,0,0,0,0,1,1,1] [[0],[]] aO zK zK λK hK=>?_;simp(disch:=omega)[eo,r3,zJ,VW,e19,nJ,eU,RK,C7];simp only[ahw,ain] at fin;have VQ:RB++[x0,(f,yn)]=RB++[x0]++[(f,yn)]:=zS
  first|rw[VQ]|skip
  refine hK _ ?_;refine fin _ (U.set tk ((RB.length+1+1)*2,2)) tk ?_ (hz4 dM) (kC.pU.set (hz4 dM) _) zS ?_
  ·have:=Has.set CZ ((RB.length+1+1)*2,2);simpa using this
  ·simp;omega
attribute [-simp] getD_eq_getElem?_getD in
def QE (H:List aA)(T:au)(aH:List Cl)(vi b1 bo bm nd:Nat)(N:Nat)(ids:List Int)(R:List (Nat×aA))(J:List aA)(U:au)(D:List Dz)
  (hS:DS H T R bo N J U D) (lP:D.map (·.id)=ids) (we:nd=ids.length) (nU:ids.Nodup) (mY:∀i∈ids,1<=i/\i<=1000000000) (hk:vi<aH.length) (CT:(aH.getD vi c0).x.length<=1000) (sN:∀y∈(aH.getD vi c0).x,y.2∈ids) (hN:N+1000<=1099511627776) (uq:b1<J.length) (Bv:H.length<=bo)
  (hm:(bm,.map (ig ids))∈R) (Q:Exit->St->Prop)
  (go:∀(e:Env)(J':List aA)(U':au)(D':List Dz),DS H T R bo (N+1000) J' U' D'->J.length<=J'.length->D'.map (·.id)=ids->D'.map Dz.dc=Dx (D.map Dz.dc) (aH.getD vi c0)->
   bA J'.length U'.length e [(1,.ptr b1 0),(3,.bQ bo nd nd),(4,.aP bm),(138,.sl aH.length (dP aH) .none),(139,.int .i64 (aH.length:Nat)),(140,.int .i64 (vi:Nat))]->Q .normal ⟨e,J',U'⟩) :
  AW ⟨prog,192,190,H.length,T.length,[100100,100131]⟩ (dZ [1,1,1,1,1,1,0,1,0,0,1,1,0,0] (Tryz.f88.body.getD .skip)) Q ⟨[(1,.ptr b1 0),(3,.bQ bo nd nd),(4,.aP bm),(138,.sl aH.length (dP aH) .none),(139,.int .i64 (aH.length:Nat)),(140,.int .i64 (vi:Nat))],J,U⟩:=by
 conv=>arg 2;whnf
 have lm:=hS.hJ.lt (ahR _ hm);have lo:=hS.hJ.lt (i:=bo) (b:=.cells (fx D)) (by simp);have lH:=hS.pJ.le;have lT:=hS.pU.le;have bB:=tU aH vi hk;generalize aH.getD vi c0=t at *;obtain⟨f,x⟩:=t;simp only at bB CT sN go;have afc:x.length<=9223372036854775807:=by omega
 refine aK λK hK=>?_;simp(disch:=omega)[bB,fl];apply hK;have rV:bM (J++[.cells [.int .i64 f,.sl x.length (bG x) .none]]) U:=hS.ok.snoc (by simp);have kC:=hS.new _ rV;have Km:(J++[aA.cells [.int .i64 f,.sl x.length (bG x) .none]]).length=J.length+1:=by simp
 obtain⟨yX,UC⟩:∃i,i=J.length:=⟨_,rfl⟩
 rw[<-UC] at kC;simp only[<-UC];generalize J++[aA.cells [.int .i64 f,.sl x.length (bG x) .none]]=J1 at *;have g17:=kC.hJ.get (i:=yX) (b:=.cells [.int .i64 f,.sl x.length (bG x) .none]) (by simp);have l17:=(aht.1 g17).1;have VW:=aZ g17;refine aK λK hK=>?_;simp(disch:=omega)[VW];apply hK;apply ag;refine aG (X:=Nat×List aA×au×List Dz) (λy=>⟨[(1,.ptr b1 0),(3,.bQ bo nd nd),(4,.aP bm),(138,.sl aH.length (dP aH) .none),(139,.int .i64 (aH.length:Nat)),(140,.int .i64 (vi:Nat)),(17,.ptr yX 0),(145,.sl x.length (bG x) .none),(146,.int .i64 (x.length:Nat)),(147,.int .i64 (y.1:Nat))],y.2.1,y.2.2.1⟩)
  (λy=>y.1<=x.length/\DS H T ((yX,.cells [.int .i64 f,.sl x.length (bG x) .none])::R) bo (N+y.1) y.2.1 y.2.2.1 y.2.2.2/\J1.length<=y.2.1.length/\y.2.2.2.map (·.id)=ids/\y.2.2.2.map Dz.dc=(x.take y.1).foldl (Ad f) (D.map Dz.dc)) (λy=>x.length-y.1) (0,J1,U,D) ?_ ?_ ?_
 ·exact⟨ahE _,kC,ahv _,lP,by simp⟩
 ·refine ak [] [] ?_ ?_ ?_ ?_ kC.ok ?_
  all_goals simp
  all_goals omega
 ·rintro⟨k,J2,U2,D2⟩ ⟨k1,k2,k3,k4,k5⟩;simp only at k1 k2 k3 k4 k5;have M9:=k2.pJ.le;have Q4:=k2.pU.le;apply aK;intro K Z;simp(disch:=omega);apply Z;refine ae λK2 ba=>?_;refine aV rfl (λgN=>?_) (λgN=>?_)
  ·simp  at gN;have hp:=sN _ (aQ x k n0 gN);apply aj;simp(disch:=omega) ;apply ba;clear ba;refine ae λK3 bH=>?_;apply ag;refine aF ⟨[(1,.ptr b1 0),(3,.bQ bo nd nd),(4,.aP bm),(138,.sl aH.length (dP aH) .none),(139,.int .i64 (aH.length:Nat)),(140,.int .i64 (vi:Nat)),(17,.ptr yX 0),(145,.sl x.length (bG x) .none),(146,.int .i64 (x.length:Nat)),(147,.int .i64 (k:Nat))],J2,U2⟩ (ak [] [] (by simp) (by simp) (by show H.length<=_;omega) (by show T.length<=_;omega) k2.ok (by simp;omega)) ?_;refine Mj H T aH x vi k b1 bo bm nd yX (N+k) f _ ids _ J2 U2 D2 k2 k4 we nU mY gN CT hp (by omega) (by omega) Bv (by simp[hm]) (List.mem_cons_self ..) _ λe J' U' D' a1 a2 a3 a4 a5=>?_;refine bH _ (dE λz8=>?_);replace a1:=a1 z8;have JT:=a1.pJ.le;have JS:=a1.pU.le;refine aF ⟨[(1,.ptr b1 0),(3,.bQ bo nd nd),(4,.aP bm),(138,.sl aH.length (dP aH) .none),(139,.int .i64 (aH.length:Nat)),(140,.int .i64 (vi:Nat)),(17,.ptr yX 0),(145,.sl x.length (bG x) .none),(146,.int .i64 (x.length:Nat)),(147,.int .i64 (k:Nat))],J',U'⟩ (ak [] [] (by simp) (by simp) (by show H.length<=_;omega) (by show T.length<=_;omega) a1.ok a5) ?_;clear bH;refine br λK hK=>?_;simp(disch:=omega) ;apply hK;refine⟨(k+1,J',U',D'),⟨by show k+1<=_;omega,a1,by show J1.length<=J'.length;omega,a3,?_⟩,by show x.length-(k+1)<x.length-k;omega,?_⟩
   ·show D'.map Dz.dc=(x.take (k+1)).foldl _ _;rw[nA _ _ _ n0 k gN,a4,k5]
   ·refine ak [] [] ?_ ?_ ?_ ?_ a1.ok ?_
    all_goals simp
    all_goals omega
  ·simp  at gN;have pD:k=x.length:=by omega
   subst pD;apply aD;simp(disch:=omega) ;rw[ahO] at k5;refine go _ J2 U2 D2 ((k2.more (by omega)).sub (by simp)) (by omega) k4 k5 ?_;simp;omega
attribute [-simp] getD_eq_getElem?_getD in
def Ga (H:List aA)(T:au)(s:Sg)(b1 bo bm nd:Nat)(N:Nat)(ids:List Int)(R:List (Nat×aA))(J:List aA)(U:au)(D:List Dz)
  (hS:DS H T R bo N J U D) (lP:D.map (·.id)=ids) (we:nd=ids.length) (nU:ids.Nodup) (mY:∀i∈ids,1<=i/\i<=1000000000) (hs:rz s) (sN:∀c∈s.aH,∀y∈c.x,y.2∈ids) (hN:N+1000000<=1099511627776) (h1:(b1,.cells (cH s))∈R) (Bv:H.length<=bo)
  (hm:(bm,.map (ig ids))∈R) (Q:Exit->St->Prop)
  (go:∀(e:Env)(J':List aA)(U':au)(D':List Dz),DS H T R bo (N+1000000) J' U' D'->D'.map (·.id)=ids->D'.map Dz.dc=s.aH.foldl Dx (D.map Dz.dc)->
   bA J'.length U'.length e [(1,.ptr b1 0),(3,.bQ bo nd nd),(4,.aP bm)]->AW ⟨prog,192,190,H.length,T.length,[100100,100131]⟩ (dZ [1,1,1,1,1,1,1] (Tryz.f88.body.getD .skip)) Q ⟨e,J',U'⟩) :
  AW ⟨prog,192,190,H.length,T.length,[100100,100131]⟩ (dZ [1,1,1,1,1,1] (Tryz.f88.body.getD .skip)) Q ⟨[(1,.ptr b1 0),(3,.bQ bo nd nd),(4,.aP bm)],J,U⟩:=by
 conv=>arg 2;whnf
 have lm:=hS.hJ.lt (ahR _ hm);have lo:=hS.hJ.lt (i:=bo) (b:=.cells (fx D)) (by simp);have g1:=hS.hJ.get (ahR _ h1);have l1:=(aht.1 g1).1;have e1:=aZ g1;have lH:=hS.pJ.le;have lT:=hS.pU.le;obtain⟨aw,ts,aH⟩:=s;obtain⟨sd,st,sw,sc,sx⟩:=hs;simp only at e1 sd st sw sc sx sN go;have sM:aH.length<=9223372036854775807:=by omega
 refine ae λK1 aN=>?_;refine aK λK hK=>?_;simp(disch:=omega)[e1];apply hK;apply ag;refine aG (X:=Nat×List aA×au×List Dz) (λx=>⟨[(1,.ptr b1 0),(3,.bQ bo nd nd),(4,.aP bm),(138,.sl aH.length (dP aH) .none),(139,.int .i64 (aH.length:Nat)),(140,.int .i64 (x.1:Nat))],x.2.1,x.2.2.1⟩)
  (λx=>x.1<=aH.length/\DS H T R bo (N+1000*x.1) x.2.1 x.2.2.1 x.2.2.2/\J.length<=x.2.1.length/\x.2.2.2.map (·.id)=ids/\x.2.2.2.map Dz.dc=(aH.take x.1).foldl Dx (D.map Dz.dc)) (λx=>aH.length-x.1) (0,J,U,D) ?_ ?_ ?_
 ·exact⟨ahE _,hS,ahv _,lP,by simp⟩
 ·refine ak [] [] ?_ ?_ ?_ ?_ hS.ok ?_
  all_goals simp
  all_goals omega
 ·rintro⟨k,J2,U2,D2⟩ ⟨k1,k2,k3,k4,k5⟩;simp only at k1 k2 k3 k4 k5;have M9:=k2.pJ.le;have Q4:=k2.pU.le;apply aK;intro K Z;simp(disch:=omega);apply Z;refine ae λK2 ba=>?_;refine aV rfl (λgN=>?_) (λgN=>?_)
  ·simp  at gN;have Yt:=aQ aH k c0 gN;have hw:=sx _ Yt;apply aj;simp(disch:=omega) ;apply ba;clear ba;refine ae λK3 bH=>?_;apply ag;refine aF ⟨[(1,.ptr b1 0),(3,.bQ bo nd nd),(4,.aP bm),(138,.sl aH.length (dP aH) .none),(139,.int .i64 (aH.length:Nat)),(140,.int .i64 (k:Nat))],J2,U2⟩ (ak [] [] (by simp) (by simp) (by show H.length<=_;omega) (by show T.length<=_;omega) k2.ok (by simp;omega)) ?_;refine QE H T aH k b1 bo bm nd (N+1000*k) ids _ J2 U2 D2 k2 k4 we nU mY gN hw (λp hp=>sN _ Yt p hp) (by omega) (by omega) Bv hm _ λe J' U' D' a1 a2 a3 a4 a5=>?_;have JT:=a1.pJ.le;have JS:=a1.pU.le;refine bH _ (aF ⟨[(1,.ptr b1 0),(3,.bQ bo nd nd),(4,.aP bm),(138,.sl aH.length (dP aH) .none),(139,.int .i64 (aH.length:Nat)),(140,.int .i64 (k:Nat))],J',U'⟩ (ak [] [] (by simp) (by simp) (by show H.length<=_;omega) (by show T.length<=_;omega) a1.ok a5) ?_);clear bH;refine br λK hK=>?_;simp(disch:=omega) ;apply hK;refine⟨(k+1,J',U',D'),⟨by show k+1<=_;omega,a1.more (by omega),by show J.length<=J'.length;omega,a3,?_⟩,by show aH.length-(k+1)<aH.length-k;omega,?_⟩
   ·show D'.map Dz.dc=(aH.take (k+1)).foldl _ _;rw[nA _ _ _ c0 k gN,a4,k5]
   ·refine ak [] [] ?_ ?_ ?_ ?_ a1.ok ?_
    all_goals simp
    all_goals omega
  ·simp  at gN;have pD:k=aH.length:=by omega
   subst pD;apply aD;simp(disch:=omega) ;rw[ahO] at k5;apply aN;clear aN;refine go _ J2 U2 D2 (k2.more (by omega)) k4 k5 ?_;simp;omega
def R6 (ts:List Tm)(id:Int):List (Int×List Wd):=ts.flatMap λt=>(t.l.filter λp=>p.1==id).map λp=>(t.f,p.2.map λa=>(t.w,a))
def rK (zs:List Zn)(es:List (Int×List Wd)):List Zn:=es.foldl (λzs e=>xi zs e.1 e.2) zs
def M7 (cs:List Cl)(id:Int):List Nm:=cs.flatMap λc=>(c.x.filter λy=>y.2==id).map λy=>(c.f,y.1)
def Al (zs:List Zn)(a b:List (Int×List Wd)):rK zs (a++b)=rK (rK zs a) b:=ai8 ..
theorem U9 (f:Int)(w:Bs):∀(l:List Ps)(L:List Dc),l.foldl (Ab f w) L=L.map λd=>⟨d.id,rK d.zs ((l.filter λp=>p.1==d.id).map λp=>(f,p.2.map λa=>(w,a))),d.ns⟩
 |[],L=>by simp[rK]
 |p::l,L=>by
  rw[ajb,U9 f w l];unfold Ab Kf;rw[aiA];refine aib λd hd=>?_;simp only[Function.comp]
  by_cases h:d.id=p.1
  ·rw[ahF h,aiI (by simp[h])];rfl
  ·rw[ahC h,aiE (by simpa using λe=>h e.symm)]
theorem U8:∀(ts:List Tm)(L:List Dc),ts.foldl stepT L=L.map λd=>⟨d.id,rK d.zs (R6 ts d.id),d.ns⟩
 |[],L=>by simp[rK,R6]
 |t::ts,L=>by
  rw[ajb,U8 ts];unfold stepT;rw[U9,aiA];refine aib λd hd=>?_;simp only[Function.comp,R6,ahK,Al]
theorem foldI (f:Int):∀(l:List Nm)(L:List Dc),l.foldl (Ad f) L=L.map λd=>⟨d.id,d.zs,d.ns++(l.filter λy=>y.2==d.id).map λy=>(f,y.1)⟩
 |[],L=>by simp
 |p::l,L=>by
  rw[ajb,foldI f l];unfold Ad Kf;rw[aiA];refine aib λd hd=>?_;simp only[Function.comp]
  by_cases h:d.id=p.2
  ·rw[ahF h,aiI (by simp[h])];simp[WD]
  ·rw[ahC h,aiE (by simpa using λe=>h e.symm)]
theorem Vb:∀(cs:List Cl)(L:List Dc),cs.foldl Dx L=L.map λd=>⟨d.id,d.zs,d.ns++M7 cs d.id⟩
 |[],L=>by simp[M7]
 |c::cs,L=>by
  rw[ajb,Vb cs];unfold Dx;rw[foldI,aiA];refine aib λd hd=>?_;simp only[Function.comp,M7,ahK,ahM]
def dm (g:Int->List Wd):List Zn:=[1,2,3,4].flatMap λf=>if g f=[] then [] else [⟨f,g f⟩]
def zm {g h:Int->List Wd}(e:∀f,1<=f->f<=4->g f=h f):dm g=dm h:=by
 simp only[dm,ahK,List.flatMap_nil,e 1 zO zO,e 2 zO zO,e 3 zO zO,e 4 zO zO]
def IF {g : Int -> List Wd} {f : Int} {ws : List Wd} (h1 : 1 <= f) (h4 : f <= 4) (hw : ws ≠ []) (hg : ∀ f', f < f' -> g f' = []) : xi (dm g) f ws = dm (λf' => if f' = f then g f' ++ ws else g f') := by
 rcases (by omega : f = 1 \/ f = 2 \/ f = 3 \/ f = 4) with rfl | rfl | rfl | rfl
 ·have a2 := hg 2 (by omega); have a3 := hg 3 (by omega); have a4 := hg 4 (by omega)
  by_cases b1 : g 1 = [] <;> simp [dm, xi, JQ, *]
 ·have a3 := hg 3 (by omega); have a4 := hg 4 (by omega)
  by_cases b1 : g 1 = [] <;> by_cases b2 : g 2 = [] <;> simp [dm, xi, JQ, *]
 ·have a4 := hg 4 (by omega)
  by_cases b1 : g 1 = [] <;> by_cases b2 : g 2 = [] <;> by_cases b3 : g 3 = [] <;> simp [dm, xi, JQ, *]
 ·by_cases b1 : g 1 = [] <;> by_cases b2 : g 2 = [] <;> by_cases b3 : g 3 = [] <;> by_cases b4 : g 4 = [] <;> simp [dm, xi, JQ, *]
def pM (es:List (Int×List Wd))(f:Int):List Wd:=(es.filter λe=>e.1==f).flatMap (·.2)
def LR (es:List (Int×List Wd))(e:Int×List Wd)(f:Int):pM (es++[e]) f=if f=e.1 then pM es f++e.2 else pM es f:=by
 unfold pM;rw[aij]
 by_cases h:f=e.1
 ·rw[ahF h,aiI (by simp[h])];simp
 ·rw[ahC h,aiE (by simpa using λx=>h x.symm)];simp
theorem Fx (es:List (Int×List Wd))(hs:es.Pairwise λa b=>a.1<=b.1)(h14:∀e∈es,1<=e.1/\e.1<=4/\e.2≠[]):rK [] es=dm (pM es):=by
 have key:∀r:List (Int×List Wd),(r.reverse.Pairwise λa b=>a.1<=b.1)->(∀e∈r,1<=e.1/\e.1<=4/\e.2≠[])->rK [] r.reverse=dm (pM r.reverse):=by
  intro r
  induction r with
  |nil=>intro _ _;rfl
  |cons e r ih=>
   intro hp hm;rw[List.reverse_cons] at hp ⊢;rw[ajg] at hp;obtain⟨p1,_,p3⟩:=hp;obtain⟨q1,q2,q3⟩:=hm e zS;rw[Al,ih p1 λx hx=>hm x (by simp[hx])];show xi _ e.1 e.2=_;rw[IF q1 q2 q3 λf' hf=>?_]
   ·refine zm λf _ _=>?_;exact(LR _ e f).symm
   ·unfold pM;rw[akd];intro x hx;rw[ahU] at hx;have:=p3 x hx.1 e zS;simp at hx;omega
 have:=key es.reverse (by rwa [List.reverse_reverse]) λe he=>h14 e (zU he)
 rwa [List.reverse_reverse] at this
def occs (ts:List Tm)(id f:Int):List Wd:=pM (R6 ts id) f
def jx (s:Sg):List Dc:=s.aw.map λid=>⟨id,dm λf=>jM (occs s.aW id f),M7 s.aH id⟩
def Lj:jM []=[]:=by unfold jM;simp
def nM (l:List Wd):jM l=[]↔l=[]:=by
 constructor
 ·intro h;have:=congrArg List.length h;unfold jM at this;rw[ajE] at this;exact ah9.1 this
 ·rintro rfl;exact Lj
def V1 (z:Zn):Zn:=⟨z.f,jM z.ws⟩
def Fu (g:Int->List Wd):(dm g).map V1=dm λf=>jM (g f):=by
 unfold dm;rw[List.map_flatMap]
 congr 1
 funext f
 by_cases h:g f=[]
 ·rw[ahF h,ahF ((nM _).2 h)];rfl
 ·rw[ahC h,ahC (λe=>h ((nM _).1 e))];rfl
section
variable {s : Sg}
theorem Hv (hv:aT s=true):s.aW.Pairwise λa b=>a.f<=b.f:=by
 obtain⟨_,⟨ht,_⟩,_⟩:=fJ hv;rw[ah6];have key:∀(n i:Nat)(h1:i<s.aW.length)(h2:i+n<s.aW.length),(s.aW[i]'h1).f<=(s.aW[i+n]'h2).f:=by
  intro n
  induction n with
  |zero=>intro i _ _;exact Int.le_refl _
  |succ n ih=>
   intro i h1 h2;refine Int.le_trans (ih i h1 zO) ?_;have:=(ht (i+n+1) zO).1;unfold np at this;simp only[ahG,aiq,ahH] at this;have h3:=this.2.resolve_left zO;rw[ai1,ahs,ahs,ahu zO,ahu zO] at h3;simp only[ai5,bS] at h3;have e:i+(n+1)=i+n+1:=zO;simp only[e];simp only[aiq,ahG,ahH] at h3;omega
 intro i j h1 h2 jV;have:=key (j-i) i h1 zO;have e:i+(j-i)=j:=zO;simpa only[e] using this
def N9 (hv:aT s=true){t:Tm}(ht:t∈s.aW):(1<=t.f/\t.f<=4)/\t.l≠[]/\cC t.l=true/\∀p∈t.l,p.1∈s.aw:=by
 obtain⟨_,⟨h,_⟩,_⟩:=fJ hv;obtain⟨i,hi,rfl⟩:=bP t0 ht;obtain⟨a,b⟩:=h i hi;unfold np at a;unfold yR at b;simp only[ahG,ahH] at a b;exact⟨a.1.1,b.1.1,b.1.2,b.2⟩
def aaG (hv:aT s=true){c:Cl}(hc:c∈s.aH):(5<=c.f/\c.f<=7)/\∀y∈c.x,y.2∈s.aw:=by
 obtain⟨_,_,h⟩:=fJ hv;obtain⟨i,hi,rfl⟩:=bP c0 hc;obtain⟨a,b⟩:=h i hi;unfold pL at a;simp only[ahG,ahH] at a;refine⟨a.1.1,λy hy=>?_⟩;obtain⟨k,hk,rfl⟩:=bP n0 hy;have:=b k hk;unfold mj at this;simp only[ahG,ahH] at this;exact this.1.1
def Mx (hv:aT s=true)(id:Int):rK [] (R6 s.aW id)=dm (occs s.aW id):=by
 refine Fx _ ?_ λe he=>?_
 ·unfold R6;rw[ajF];refine⟨λt ht=>?_,(Hv hv).imp λ{a b} j9 x hx y hy=>?_⟩
  ·rw[aie];exact List.pairwise_of_forall λ_ _=>Int.le_refl _
  ·obtain⟨_,_,rfl⟩:=ahz.1 hx;obtain⟨_,_,rfl⟩:=ahz.1 hy;exact j9
 ·unfold R6 at he;obtain⟨t,ht,he⟩:=ah7.1 he;obtain⟨p,hp,rfl⟩:=ahz.1 he;obtain⟨a,b,c,d⟩:=N9 hv ht;obtain⟨v1,v2,v3⟩:=de c;have:=(v3 p (ahU.1 hp).1).1;refine⟨a.1,a.2,?_⟩;intro h;rw[List.map_eq_nil_iff] at h;exact absurd h (zU this)
end
def kM (z:Wz):Wz:={ z with ws:=jM z.ws }
def qO (l:List Wd):(jM l).length=l.length:=ajE _
def SG {l:List Wz}{k:Nat}(hk:k<l.length)(r:List AV)(d:Wz):((nS l++r).drop (k*2)).take 2=[.int .i64 (l.getD k d).f,gv (l.getD k d).ws.length (l.getD k d).i (l.getD k d).cap]:=by
 have h:=lS l;rw[ajH zO,aiF (by rw[aii];omega)];exact fX BW l k d hk
attribute [-simp] getD_eq_getElem?_getD in
def ZT (H:List aA)(T:au)(b1 bo bm nd QZ vi vk nz zi zc:Nat)(N:Nat)(R:List (Nat×aA))(J:List aA)(U:au)(D1 D2:List Dz)(id:Int)(yQ zA:List Wz)(z:Wz)(rest:List AV)(ns:List Nm)(tk:Nat)
  (hS:DS H T R bo N J U (D1++⟨id,yQ++z::zA,zi,zc,rest,ns,tk⟩::D2)) (hN:N<=1099511627776) (hk:vk=yQ.length) (hnz:nz=yQ.length+1+zA.length) (dM:z.ws≠[]) (hT:z.ws.Pairwise λx y=>x.2≠y.2) (uq:b1<J.length) (Ng:bm<J.length) (hp:QZ<J.length) (Q:Exit->St->Prop)
  (go:∀(e:Env)(J':List aA),(bM J' U->DS H T R bo N J' U (D1++⟨id,yQ++kM z::zA,zi,zc,rest,ns,tk⟩::D2))->J.length<=J'.length->
   bA J'.length U.length e [(1,.ptr b1 0),(3,.bQ bo nd nd),(4,.aP bm),(173,.cV bo 0 nd),(174,.int .i64 (nd:Nat)),(175,.int .i64 (vi:Nat)),(22,.ptr QZ 0),(180,.cV zi 0 nz),(181,.int .i64 (nz:Nat)),(182,.int .i64 (vk:Nat))]->Q .normal ⟨e,J',U⟩) :
  AW ⟨prog,192,190,H.length,T.length,[100100,100131]⟩ (dZ [1,1,1,1,1,1,1,0,1,0,0,1,1,0,0,1,1,0,0,1,1,0,0] (Tryz.f88.body.getD .skip)) Q ⟨[(1,.ptr b1 0),(3,.bQ bo nd nd),(4,.aP bm),(173,.cV bo 0 nd),(174,.int .i64 (nd:Nat)),(175,.int .i64 (vi:Nat)),(22,.ptr QZ 0),(180,.cV zi 0 nz),(181,.int .i64 (nz:Nat)),(182,.int .i64 (vk:Nat))],J,U⟩:=by
 conv=>arg 2;whnf
 have gz:=hS.hJ.get (i:=zi) (b:=.cells (nS (yQ++z::zA)++rest)) (by simp[Dz.bx,gb]);have lz:=(aht.1 gz).1;have ez:=aZ gz;have lo:=hS.hJ.lt (i:=bo) (b:=.cells (fx (D1++⟨id,yQ++z::zA,zi,zc,rest,ns,tk⟩::D2))) zS;have lH:=hS.pJ.le;have lT:=hS.pU.le;have bB:=SG (l:=yQ++z::zA) (k:=vk) (by simp;omega) rest z;have Uz:(yQ++z::zA).getD vk z=z:=by rw[hk,ahs,ahP zO,aiT];rfl
 rw[Uz] at bB;have zH:(nS (yQ++z::zA)++rest).length=nz*2+rest.length:=by rw[ahw,lS];simp;omega
 have RM:vk<nz:=zO;have hz:=(hS.hD ⟨id,yQ++z::zA,zi,zc,rest,ns,tk⟩ zS).w z zS;have qC:z.ws.length≠0:=λh=>dM (ah9.1 h);simp only[gv,ahC qC] at bB;apply ar;simp(disch:=omega)[ez,zH,bB];have hlz:z.i<J.length:=hS.hJ.lt (b:=.cells (dX z.ws++z.rest)) (by simp[Dz.bx,Wz.bx,gb,dM]);have rV:bM (J++[.cells [.int .i64 z.f,.bQ z.i z.ws.length z.cap]]) U:=hS.ok.snoc (by intro v hv;simp at hv;rcases hv with rfl|rfl<;>first|exact .int _ _|exact .bQ _ _ _ zO);have kC:=hS.new _ rV;have Km:(J++[aA.cells [.int .i64 z.f,.bQ z.i z.ws.length z.cap]]).length=J.length+1:=zS;obtain⟨p24,h24⟩:∃i,i=J.length:=⟨_,rfl⟩
 rw[<-h24] at kC;simp only[<-h24];generalize J++[aA.cells [.int .i64 z.f,.bQ z.i z.ws.length z.cap]]=J1 at *;have g24:=kC.hJ.get (i:=p24) (b:=.cells [.int .i64 z.f,.bQ z.i z.ws.length z.cap]) zS;have l24:=(aht.1 g24).1;have e24:=aZ g24;have gi:=kC.hJ.get (i:=z.i) (b:=.cells (dX z.ws++z.rest)) (by simp[Dz.bx,Wz.bx,gb,dM]);have cs:=λU=>Li z.ws dM hT z.rest z.i z.cap (by have:=hz.1;omega) J1 U gi;have qE:fx (D1++⟨id,yQ++kM z::zA,zi,zc,rest,ns,tk⟩::D2)=fx (D1++⟨id,yQ++z::zA,zi,zc,rest,ns,tk⟩::D2):=by simp[fx]
 have Q5:nS (yQ++kM z::zA)=nS (yQ++z::zA):=by simp[nS,kM,qO]
 have CY:∀y:Wz,y.ws≠[]->Dz.bx ⟨id,yQ++y::zA,zi,zc,rest,ns,tk⟩=(zi,.cells (nS (yQ++y::zA)++rest))::(yQ.flatMap Wz.bx++((y.i,.cells (dX y.ws++y.rest))::zA.flatMap Wz.bx)):=λy hy=>by simp[Dz.bx,gb,Wz.bx,hy]
 have zX:=Has.set (A:=(p24,.cells [.int .i64 z.f,.bQ z.i z.ws.length z.cap])::(R++(bo,.cells (fx (D1++⟨id,yQ++z::zA,zi,zc,rest,ns,tk⟩::D2)))::(D1.flatMap Dz.bx++((zi,.cells (nS (yQ++z::zA)++rest))::yQ.flatMap Wz.bx)))) (B:=zA.flatMap Wz.bx++D2.flatMap Dz.bx) (b:=.cells (dX z.ws++z.rest)) (by
  have:=kC.hJ;rw[aid,ahK,CY z dM] at this;simpa using this) (.cells (dX (jM z.ws)++z.rest))
 refine br λK hK=>?_;simp(disch:=omega)[e24];refine ai (cs _) ?_;refine zQ ?_;apply hK;refine go _ _ (λho=>⟨?_,?_,?_,kC.pJ.set (hz.2 qC).2.2 _,kC.pU,ho⟩) (by simp;omega) (by simp;omega)
 ·rw[aid,ahK,CY (kM z) (λh=>dM ((nM _).1 h)),qE,Q5];rw[ajI] at zX;have h5:=zX.sub (aiw _ _);simpa[kM] using h5
 ·simpa[Dz.tx] using kC.hU
 ·intro x hx;rcases ahI.1 hx with hx|hx
  ·exact kC.hD x (by simp[hx])
  rcases ah4.1 hx with rfl|hx
  ·have hd:=kC.hD ⟨id,yQ++z::zA,zi,zc,rest,ns,tk⟩ zS;refine⟨by simpa using hd.z,λy hy=>?_,hd.n⟩;rcases ahI.1 hy with hy|hy
   ·exact hd.w y (by simp[hy])
   rcases ah4.1 hy with rfl|hy
   ·have:=hd.w z zS;exact⟨by simpa[kM,qO] using this.1,λh=>by
     have:=this.2 (by simpa[kM,qO] using h);simpa[kM,qO] using this⟩
   ·exact hd.w y (by simp[hy])
  ·exact kC.hD x (by simp[hx])
def s8 (d:Dz):Dz:={ d with zs:=d.zs.map kM }
def Pm {l:List Wz}{k:Nat}(hk:k<l.length):∃z∈l,l.drop k=z::l.drop (k+1)/\l.take (k+1)=l.take k++[z]:=
 ⟨l[k],ah2 _,(List.getElem_cons_drop ..).symm,by rw[List.take_append_getElem]⟩
attribute [-simp] getD_eq_getElem?_getD in
def aaE (H:List aA)(T:au)(b1 bo bm nd vi:Nat)(N:Nat)(R:List (Nat×aA))(J:List aA)(U:au)(D1 D2:List Dz)(d:Dz)
  (hS:DS H T R bo N J U (D1++d::D2)) (hN:N<=1099511627776) (hk:vi=D1.length) (nU:nd=D1.length+1+D2.length) (hW:∀z∈d.zs,z.ws≠[]/\z.ws.Pairwise λx y=>x.2≠y.2) (uq:b1<J.length) (Ng:bm<J.length) (Q:Exit->St->Prop)
  (go:∀(e:Env)(J':List aA),DS H T R bo N J' U (D1++s8 d::D2)->J.length<=J'.length->
   bA J'.length U.length e [(1,.ptr b1 0),(3,.bQ bo nd nd),(4,.aP bm),(173,.cV bo 0 nd),(174,.int .i64 (nd:Nat)),(175,.int .i64 (vi:Nat))]->Q .normal ⟨e,J',U⟩) :
  AW ⟨prog,192,190,H.length,T.length,[100100,100131]⟩ (dZ [1,1,1,1,1,1,1,0,1,0,0,1,1,0,0] (Tryz.f88.body.getD .skip)) Q ⟨[(1,.ptr b1 0),(3,.bQ bo nd nd),(4,.aP bm),(173,.cV bo 0 nd),(174,.int .i64 (nd:Nat)),(175,.int .i64 (vi:Nat))],J,U⟩:=by
 conv=>arg 2;whnf
 have Nl:=hS.hJ.get (i:=bo) (b:=.cells (fx (D1++d::D2))) (by simp);have lo:=(aht.1 Nl).1;have eo:=aZ Nl;have lH:=hS.pJ.le;have lT:=hS.pU.le;have zJ:(fx (D1++d::D2)).length=nd*3:=by rw[lX];simp;omega
 have bB:((fx (D1++d::D2)).drop (vi*3)).take 3=d.row:=by
  have:=fX Cm (D1++d::D2) vi d (by simp;omega);rw[show (D1++d::D2).getD vi d=d by rw[hk,ahs,ahP (by omega),aiT];rfl] at this;exact this
 have hvn:vi<nd:=by omega
 have hd:=hS.hD d (by simp);simp only[Dz.row] at bB;refine aK λK hK=>?_;simp(disch:=omega)[eo,zJ,bB];apply hK;refine dE λrV=>?_;simp only at rV;have kC:=hS.new _ rV;have Km:(J++[aA.cells [AV.int .i64 d.id,gv d.zs.length d.i d.cap,ov d.ns d.tk]]).length=J.length+1:=by simp
 obtain⟨QZ,h22⟩:∃i,i=J.length:=⟨_,rfl⟩
 rw[<-h22] at kC;simp only[<-h22];generalize J++[aA.cells [AV.int .i64 d.id,gv d.zs.length d.i d.cap,ov d.ns d.tk]]=J1 at *;have g22:=kC.hJ.get (i:=QZ) (b:=.cells [.int .i64 d.id,gv d.zs.length d.i d.cap,ov d.ns d.tk]) (by simp);have l22:=(aht.1 g22).1;have Y0:=aZ g22;obtain⟨id,zs,i,cap,rest,ns,tk⟩:=d;simp only at Y0 hW
 by_cases hz:zs=[]
 ·subst hz;simp only[gv,ais,ajc] at Y0;refine aK λK hK=>?_;simp(disch:=omega)[Y0];apply hK;apply ag;refine aG (X:=Unit) (λ_=>⟨[(1,.ptr b1 0),(3,.bQ bo nd nd),(4,.aP bm),(173,.cV bo 0 nd),(174,.int .i64 (nd:Nat)),(175,.int .i64 (vi:Nat)),(180,.sl 0 [] .none),(181,.int .i64 0),(182,.int .i64 0)],J1,U⟩) (λ_=>True) (λ_=>0) () ?_ ?_ ?_
  ·trivial
  ·refine ak [] [] ?_ ?_ ?_ ?_ rV ?_
   all_goals simp
   all_goals omega
  ·rintro⟨⟩ -;apply aK;intro K Z;simp(disch:=omega);apply Z;refine ae λK2 ba=>?_;apply aB rfl;apply aD;simp(disch:=omega) ;refine go _ J1 ((kC.sub (by simp))) (by omega) ?_;simp;omega
 have zH:zs.length≠0:=λh=>hz (ah9.1 h);simp only[gv,ahC zH] at Y0;have hq:=hd.z.1;simp only at hq;have XJ:i<J1.length:=kC.hJ.lt (b:=.cells (nS zs++rest)) (by simp[Dz.bx,gb,hz]);refine aK λK hK=>?_;simp(disch:=omega)[Y0];apply hK;apply ag;refine aG (X:=Nat×List aA) (λx=>⟨[(1,.ptr b1 0),(3,.bQ bo nd nd),(4,.aP bm),(173,.cV bo 0 nd),(174,.int .i64 (nd:Nat)),(175,.int .i64 (vi:Nat)),(22,.ptr QZ 0),(180,.cV i 0 zs.length),(181,.int .i64 (zs.length:Nat)),(182,.int .i64 (x.1:Nat))],x.2,U⟩)
  (λx=>x.1<=zs.length/\DS H T ((QZ,.cells [.int .i64 id,.bQ i zs.length cap,ov ns tk])::R) bo N x.2 U (D1++⟨id,(zs.take x.1).map kM++zs.drop x.1,i,cap,rest,ns,tk⟩::D2)/\J1.length<=x.2.length) (λx=>zs.length-x.1) (0,J1) ?_ ?_ ?_
 ·exact⟨ahE _,by simpa[gv,zH] using kC,ahv _⟩
 ·refine ak [] [] ?_ ?_ ?_ ?_ rV ?_
  all_goals simp
  all_goals omega
 ·rintro⟨k,J2⟩ ⟨k1,k2,k3⟩;simp only at k1 k2 k3;have M9:=k2.pJ.le;have Q4:=k2.pU.le;apply aK;intro K Z;simp(disch:=omega);apply Z;refine ae λK2 ba=>?_;refine aV rfl (λgN=>?_) (λgN=>?_)
  ·simp  at gN;apply aj;simp(disch:=omega) ;apply ba;clear ba;refine ae λK3 bH=>?_;apply ag;refine aF ⟨[(1,.ptr b1 0),(3,.bQ bo nd nd),(4,.aP bm),(173,.cV bo 0 nd),(174,.int .i64 (nd:Nat)),(175,.int .i64 (vi:Nat)),(22,.ptr QZ 0),(180,.cV i 0 zs.length),(181,.int .i64 (zs.length:Nat)),(182,.int .i64 (k:Nat))],J2,U⟩ (ak [] [] (by simp) (by simp) (by show H.length<=_;omega) (by show T.length<=_;omega) k2.ok (by simp;omega)) ?_;obtain⟨z,Ur,Rl,aeO⟩:=Pm gN;rw[Rl] at k2;have hlen:((zs.take k).map kM).length=k:=by simp;omega
   refine ZT H T b1 bo bm nd QZ vi k zs.length i cap N _ J2 U D1 D2 id _ _ z rest ns tk k2 hN hlen.symm (by rw[hlen,aii];omega) (hW z Ur).1 (hW z Ur).2 (by omega) (by omega) (by omega) _ λe J' a1 a2 a3=>?_;refine bH _ (dE λz8=>?_);replace a1:=a1 z8;have JT:=a1.pJ.le;have JS:=a1.pU.le;refine aF ⟨[(1,.ptr b1 0),(3,.bQ bo nd nd),(4,.aP bm),(173,.cV bo 0 nd),(174,.int .i64 (nd:Nat)),(175,.int .i64 (vi:Nat)),(22,.ptr QZ 0),(180,.cV i 0 zs.length),(181,.int .i64 (zs.length:Nat)),(182,.int .i64 (k:Nat))],J',U⟩ (ak [] [] (by simp) (by simp) (by show H.length<=_;omega) (by show T.length<=_;omega) a1.ok a3) ?_;clear bH;have gV:(zs.take (k+1)).map kM++zs.drop (k+1)=(zs.take k).map kM++kM z::zs.drop (k+1):=by
    rw[aeO];simp
   refine br λK hK=>?_;simp(disch:=omega) ;apply hK;refine⟨(k+1,J'),⟨by show k+1<=_;omega,by show DS _ _ _ _ _ _ _ (D1++⟨id,(zs.take (k+1)).map kM++zs.drop (k+1),i,cap,rest,ns,tk⟩::D2);rw[gV];exact a1,by show J1.length<=J'.length;omega⟩,by show zs.length-(k+1)<zs.length-k;omega,?_⟩;refine ak [] [] ?_ ?_ ?_ ?_ a1.ok ?_
   all_goals simp
   all_goals omega
  ·simp  at gN;have pD:k=zs.length:=by omega
   subst pD;apply aD;simp(disch:=omega) ;rw[ahO,aiB,ahS] at k2;refine go _ J2 (k2.sub (by simp)) (by omega) ?_;simp;omega
end Go.Proofs.YtoejlmpbebjemaaGreat
