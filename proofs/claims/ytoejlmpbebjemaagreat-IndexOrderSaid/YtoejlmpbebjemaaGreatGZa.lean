/- segment.Documents (layer 39): documents, while they are gathered; an append to a list that grows in a box. segment.Documents (layer 39): one posting. segment.Documents (layer 39): the postings of the terms. segment.Documents (layer 39): the terms, the columns. The documents of a segment (layer 39), in plain lists. segment.Documents (layer 39): the words are sorted.
  Conditions: as the theorems say. -/
import Derived.Test.YtoejlmpbebjemaaGreatGV
set_option linter.all false
set_option maxRecDepth 100000
set_option maxHeartbeats 16000000
open Nat (add_mul)
open List (getD_eq_getElem?_getD)
namespace Go.Proofs.YtoejlmpbebjemaaGreat
open Go.Proofs.Tryz(prog)
open Go Go.Am eT
def gv (n i cap:Nat):AV:=if n=0 then .sl 0 [] .full else .bG i n cap
def gb (n i:Nat)(cs:List AV):List (Nat×az):=if n=0 then [] else [(i,.cells cs)]
structure Wz where
 f:Int
 ws:List Wd
 i:Nat
 cap:Nat
 rest:List AV
abbrev Wz.row (z:Wz):List AV:=[.int .i64 z.f,gv z.ws.length z.i z.cap]
def Wz.bx (z:Wz):List (Nat×az):=gb z.ws.length z.i (dR z.ws++z.rest)
def ny (l:List Wz):List AV:=l.flatMap Wz.row
def BC:eu Wz.row 2:=λ_=>rfl
def lr (l:List Wz):(ny l).length=l.length*2:=bU BC l
def Wz.zn (z:Wz):Zn:=⟨z.f,z.ws⟩
structure Dz where
 id:Int
 zs:List Wz
 i:Nat
 cap:Nat
 rest:List AV
 ns:List Nm
 tk:Nat
def ov (ns:List Nm)(tk:Nat):AV:=if ns=[] then .sl 0 [] .full else .sl ns.length (br ns) (.own tk)
abbrev Dz.row (d:Dz):List AV:=[.int .i64 d.id,gv d.zs.length d.i d.cap,ov d.ns d.tk]
def Dz.bx (d:Dz):List (Nat×az):=gb d.zs.length d.i (ny d.zs++d.rest)++d.zs.flatMap Wz.bx
def Dz.tx (d:Dz):List (Nat×(Nat×Nat)):=if d.ns=[] then [] else [(d.tk,(d.ns.length*2,2))]
def fE (l:List Dz):List AV:=l.flatMap Dz.row
def B9:eu Dz.row 3:=λ_=>rfl
def ly (l:List Dz):(fE l).length=l.length*3:=bU B9 l
def Dz.dc (d:Dz):Dc:=⟨d.id,d.zs.map Wz.zn,d.ns⟩
def YS (nb N n i cap z:Nat)(rest:List AV):Prop:=n<=N/\(n≠0->rest.length=(cap-n)*z/\n<=cap/\nb<=i)
structure KJ (nb tb N:Nat)(d:Dz):Prop where
 z:YS nb N d.zs.length d.i d.cap 2 d.rest
 w:∀z∈d.zs,YS nb N z.ws.length z.i z.cap 2 z.rest
 n:d.ns.length<=N/\(d.ns≠[]->tb<=d.tk)
def YS.more {nb N M n i cap z:Nat}{rest:List AV}(h:YS nb N n i cap z rest)(hm:N<=M):YS nb M n i cap z rest:=⟨aho h.1 hm,h.2⟩
theorem KJ.more {nb tb N M:Nat}{d:Dz}(h:KJ nb tb N d)(hm:N<=M):KJ nb tb M d:=⟨h.z.more hm,λz hz=>(h.w z hz).more hm,⟨aho h.n.1 hm,h.n.2⟩⟩
structure DS (H:List az)(T:au)(R:List (Nat×az))(bo N:Nat)(J:List az)(U:au)(D:List Dz):Prop where
 hJ:Has J (R++(bo,.cells (fE D))::D.flatMap Dz.bx)
 hU:Has U (D.flatMap Dz.tx)
 hD:∀d∈D,KJ H.length T.length N d
 pJ:gM H J
 pU:gM T U
 ok:bJ J U
theorem DS.more {H:List az}{T:au}{R:List (Nat×az)}{bo N M:Nat}{J:List az}{U:au}{D:List Dz}(h:DS H T R bo N J U D)(hm:N<=M):DS H T R bo M J U D:=⟨h.hJ,h.hU,λd hd=>(h.hD d hd).more hm,h.pJ,h.pU,h.ok⟩
theorem DS.sub {H:List az}{T:au}{R R':List (Nat×az)}{bo N:Nat}{J:List az}{U:au}{D:List Dz}(h:DS H T R bo N J U D)(hs:R'.Sublist R):DS H T R' bo N J U D:=⟨h.hJ.sub (hs.append_right _),h.hU,h.hD,h.pJ,h.pU,h.ok⟩
theorem DS.new {H:List az}{T:au}{R:List (Nat×az)}{bo N:Nat}{J:List az}{U:au}{D:List Dz}(h:DS H T R bo N J U D)(b:az)(ho:bJ (J++[b]) U):DS H T ((J.length,b)::R) bo N (J++[b]) U D:=
 ⟨(h.hJ.new b).perm (ah6 _ _).symm,h.hU,h.hD,h.pJ.app _,h.pU,ho⟩
def G5 {D1 D2:List Dz}(d:Dz):(fE (D1++d::D2)).getD (D1.length*3) .top=.int .i64 d.id/\(fE (D1++d::D2)).getD (D1.length*3+1) .top=gv d.zs.length d.i d.cap/\(fE (D1++d::D2)).getD (D1.length*3+2) .top=ov d.ns d.tk:=by
 have h:=ly D1;have e:fE (D1++d::D2)=fE D1++(d.row++fE D2):=by simp[fE]
 rw[e];refine⟨?_,?_,?_⟩
 ·rw[ahg,ahC (by omega),h,aiH];rfl
 ·rw[ahg,ahC (by omega),h,show D1.length*3+1-D1.length*3=1 by omega];rfl
 ·rw[ahg,ahC (by omega),h,show D1.length*3+2-D1.length*3=2 by omega];rfl
def JR {D1 D2:List Dz}(d:Dz)(v:AV):(fE (D1++d::D2)).set (D1.length*3+1) v=fE D1++([.int .i64 d.id,v,ov d.ns d.tk]++fE D2)/\(fE (D1++d::D2)).set (D1.length*3+2) v=fE D1++([.int .i64 d.id,gv d.zs.length d.i d.cap,v]++fE D2):=by
 have h:=ly D1;have e:fE (D1++d::D2)=fE D1++(d.row++fE D2):=by simp[fE]
 rw[e]
 constructor
 ·rw[aiS _ _ (by omega),h,show D1.length*3+1-D1.length*3=1 by omega];rfl
 ·rw[aiS _ _ (by omega),h,show D1.length*3+2-D1.length*3=2 by omega];rfl
def OI (l:List Wz)(z:Wz)(r:List AV):(ny (l++[z])++r).getD (l.length*2) .top=.int .i64 z.f/\(ny (l++[z])++r).getD (l.length*2+1) .top=gv z.ws.length z.i z.cap:=by
 have h:=lr l;have e:ny (l++[z])++r=ny l++(z.row++r):=by simp[ny]
 rw[e];refine⟨?_,?_⟩
 ·rw[ahg,ahC (by omega),h,aiH];rfl
 ·rw[ahg,ahC (by omega),h,show l.length*2+1-l.length*2=1 by omega];rfl
def SK (l:List Wz)(z:Wz)(r:List AV)(v:AV):(ny (l++[z])++r).set (l.length*2+1) v=ny l++([.int .i64 z.f,v]++r):=by
 have h:=lr l;have e:ny (l++[z])++r=ny l++(z.row++r):=by simp[ny]
 rw[e,aiS _ _ (by omega),h,show l.length*2+1-l.length*2=1 by omega];rfl
def grow {C:Cx}{o:Oper}{e:Env}{J:List az}{U:au}{κ:AV->List az->au->Prop}{t t2 el:TypeId}{n i cap z:Nat}{rows row rest:List AV}{x:AV}{A B:List (Nat×az)}{H:List az}
  (h0:n=0->kO C.P C.bx o e J=some (1,row,z)) (h1:n≠0->kO C.P C.bx o e J=none/\sG o e=some (t,t2,i,n,cap,x))
  (ht:C.P.underlying t=some (.slice el)) (hz:C.P.cellsOf el=z) (hx:n≠0->gT J z x=some (1,row)) (hb:(n+1)*C.P.bytesOf el<=140737488355328) (hn:n+1<=9223372036854775807) (hi:jT C.P t2=true) (ha:(aZ C.P el).isSome=true)
  (hr:rows.length=n*z) (hJ:Has J (A++(gb n i (rows++rest)++B))) (hg:n≠0->rest.length=(cap-n)*z/\n<=cap/\H.length<=i) (hP:gM H J)
  (k:∀(i2 gw:Nat)(dE:List AV)(J2:List az),Has J2 (A++((i2,.cells (rows++(row++dE)))::B))->gM H J2->J.length<=J2.length->dE.length=(gw-(n+1))*z->n+1<=gw->H.length<=i2->κ (.bG i2 (n+1) gw) J2 U):gP C o e J U κ:=by
 unfold gP;have hPl:=hP.le;rcases ahR n with rfl|hp
 ·rw[h0 rfl];simp only;intro nc lC;have zq:rows=[]:=ah3.1 (by omega);subst zq;refine k J.length nc (List.replicate ((nc-1)*z) .top) _ ?_ (hP.app _) (by simp) (by simp) lC hPl;have:=hJ.new (.cells (row++List.replicate ((nc-1)*z) .top));simp only[gb,ahs,aiQ] at this;refine this.perm ?_;rw[ahA];exact(ah6 _ _).symm.append_left _
 ·obtain⟨a1,a2⟩:=h1 (by omega);obtain⟨g1,g2,g3⟩:=hg (by omega);rw[a1,a2];simp only;have hn0:n≠0:=by omega
  simp only[gb,ahq hn0,List.singleton_append] at hJ;have gi:=hJ.get (i:=i) (b:=.cells (rows++rest)) (by simp);have iH:(rows++rest).take (n*z)=rows:=aij hr;have hdr:(rows++rest).drop ((n+1)*z)=rest.drop z:=by
   rw[List.drop_append,ajB (by rw[hr,aiA];omega),aiQ,hr]
   congr 1;rw[aiA];omega
  refine⟨el,_,row,1,ht,gi,by rw[ahk,hr,g1,hz,<-add_mul];congr 1;omega,by rw[hz];exact hx hn0,hb,hn,hi,ha,λhle=>?_,λnc hlt lC=>?_⟩
  ·rw[hz,iH,hdr,ahA];refine k i cap (rest.drop z) _ ?_ (hP.set g3 _) (by simp) ?_ hle g3
   ·exact Has.set hJ _
   ·rw[ah4,g1,<-Nat.sub_one_mul];congr 1
  ·rw[hz,iH,ahA];refine k J.length nc (List.replicate ((nc-(n+1))*z) .top) _ ?_ (hP.app _) (by simp) (by simp) lC hPl;have h2:Has J (A++B):=hJ.sub (List.Sublist.append_left (aih _ _) _);refine(h2.new _).perm ?_;rw[ahA];exact(ah6 _ _).symm.append_left _
open im
def Kc (zs:List Zn)(f:Int):List Zn:=match zs.getLast? with
 |some z=>if z.f=f then zs else zs++[⟨f,[]⟩]
 |none=>[⟨f,[]⟩]
def Ee (l:List Zn)(z:Zn)(f:Int):Kc (l++[z]) f=if z.f=f then l++[z] else (l++[z])++[⟨f,[]⟩]:=by
 simp[Kc]
def ZO (H : List az) (T : au) (ts : List Tm) (l : List Ps) (vi vj b1 bo bm nd p8 we : Nat) (N : Nat) (f : Int) (w : Bs) (lv : AV) (R : List (Nat × az)) (J : List az) (U : au) (D1 D2 : List Dz) (d : Dz)
    (hS : DS H T R bo N J U (D1 ++ d :: D2)) (hN : N <= 1099511627776) (wL : b1 < J.length) (Nq : bm < J.length) (Bb : H.length <= bo) (aeV : we < J.length) (h8 : (p8, .cells [.int .i64 f, .str w, lv]) ∈ R) (Q : Exit -> St -> Prop)
    (go : ∀ (e : Env) (J' : List az) (d' : Dz) (zs : List Wz) (z : Wz), DS H T R bo (N + 1) J' U (D1 ++ d' :: D2) -> J.length <= J'.length -> d'.id = d.id -> d'.ns = d.ns -> d'.zs = zs ++ [z] -> z.f = f -> d'.dc.zs = Kc d.dc.zs f ->
      bu J'.length U.length e [(1, .ptr b1 0), (3, .bG bo nd nd), (4, .aP bm), (51, .sl ts.length (dx ts) .none), (52, .int .i64 (ts.length : Nat)), (53, .int .i64 (vi : Nat)), (8, .ptr p8 0), (58, .sl l.length (bA l) .none), (59, .int .i64 (l.length : Nat)), (60, .int .i64 (vj : Nat)), (10, .ptr we 0), (11, .ptr bo (D1.length * 3)), (13, .ptr d'.i (zs.length * 2))] -> AW ⟨prog, 192, 190, H.length, T.length, [100100, 100131]⟩ (dY [1, 1, 1, 1, 1, 0, 1, 0, 0, 1, 1, 0, 0, 1, 1, 0, 0, 1, 1, 0, 0, 1, 1, 1, 1] (Tryz.f88.body.getD .skip)) Q ⟨e, J', U⟩) :
    AW ⟨prog, 192, 190, H.length, T.length, [100100, 100131]⟩ (dY [1, 1, 1, 1, 1, 0, 1, 0, 0, 1, 1, 0, 0, 1, 1, 0, 0, 1, 1, 0, 0, 1, 1] (Tryz.f88.body.getD .skip)) Q ⟨[(1, .ptr b1 0), (3, .bG bo nd nd), (4, .aP bm), (51, .sl ts.length (dx ts) .none), (52, .int .i64 (ts.length : Nat)), (53, .int .i64 (vi : Nat)), (8, .ptr p8 0), (58, .sl l.length (bA l) .none), (59, .int .i64 (l.length : Nat)), (60, .int .i64 (vj : Nat)), (10, .ptr we 0), (11, .ptr bo (D1.length * 3))], J, U⟩ := by
  conv => arg 2; whnf
  have g8 := hS.hJ.get (ahG _ h8);have Nv := hS.hJ.get (i := bo) (b := .cells (fE (D1 ++ d :: D2))) (by simp);have l8 := (ahh.1 g8).1;have lo := (ahh.1 Nv).1;have e8 := aW g8;have eo := aW Nv;have lH := hS.pJ.le;have lT := hS.pU.le;obtain ⟨r1, r2, r3⟩ := G5 (D1 := D1) (D2 := D2) d;have zp : (fE (D1 ++ d :: D2)).length = (D1.length + 1 + D2.length) * 3 := by rw [ly]; simp; omega
  have m7 := λv => (JR (D1 := D1) (D2 := D2) d v).1;obtain ⟨id, zs, i, cap, rest, ns, tk⟩ := d;simp only at r1 r2 r3 m7;have jK := hS.hD ⟨id, zs, i, cap, rest, ns, tk⟩ (by simp);obtain ⟨⟨z1, z2⟩, z3, z4⟩ := jK;simp only at z1 z2 z3 z4;refine af λK1 aO => ?_;have fin : ∀ (e : Env) (J2 : List az) (zs' : List Wz) (z : Wz) (i2 gw : Nat) (dE : List AV), (bJ J2 U -> DS H T R bo (N + 1) J2 U (D1 ++ ⟨id, zs' ++ [z], i2, gw, dE, ns, tk⟩ :: D2)) -> J.length <= J2.length -> z.f = f -> (zs' ++ [z]).map Wz.zn = Kc (zs.map Wz.zn) f ->
      bu J2.length U.length e [(1, .ptr b1 0), (3, .bG bo nd nd), (4, .aP bm), (51, .sl ts.length (dx ts) .none), (52, .int .i64 (ts.length : Nat)), (53, .int .i64 (vi : Nat)), (8, .ptr p8 0), (58, .sl l.length (bA l) .none), (59, .int .i64 (l.length : Nat)), (60, .int .i64 (vj : Nat)), (10, .ptr we 0), (11, .ptr bo (D1.length * 3))] -> K1 ⟨e, J2, U⟩ := by
    intro e J2 zs' z i2 gw dE hS2 jH hzf lL he;refine aO _ ?_; clear aO;refine dA λfx => ?_;replace hS2 := hS2 fx;refine aH ⟨[(1, .ptr b1 0), (3, .bG bo nd nd), (4, .aP bm), (51, .sl ts.length (dx ts) .none), (52, .int .i64 (ts.length : Nat)), (53, .int .i64 (vi : Nat)), (8, .ptr p8 0), (58, .sl l.length (bA l) .none), (59, .int .i64 (l.length : Nat)), (60, .int .i64 (vj : Nat)), (10, .ptr we 0), (11, .ptr bo (D1.length * 3))], J2, U⟩ (ag [] [] (by simp) (by simp) (by show H.length <= _; omega) (by show T.length <= _; omega) hS2.ok he) ?_;have g2 := hS2.hJ.get (i := bo) (b := .cells (fE (D1 ++ ⟨id, zs' ++ [z], i2, gw, dE, ns, tk⟩ :: D2))) (by simp);have l2 := (ahh.1 g2).1;have e2 := aW g2;obtain ⟨s1, s2, s3⟩ := G5 (D1 := D1) (D2 := D2) ⟨id, zs' ++ [z], i2, gw, dE, ns, tk⟩;simp only [gv, ahk, aib, Nat.succ_ne_zero, ai5] at s2;have yS : (fE (D1 ++ ⟨id, zs' ++ [z], i2, gw, dE, ns, tk⟩ :: D2)).length = (D1.length + 1 + D2.length) * 3 := by rw [ly]; simp; omega
    have gz := hS2.hJ.get (i := i2) (b := .cells (ny (zs' ++ [z]) ++ dE)) (by simp [Dz.bx, gb]);have lz := (ahh.1 gz).1;have ez := aW gz;have zm : (ny (zs' ++ [z]) ++ dE).length = (zs'.length + 1) * 2 + dE.length := by rw [ahk, lr, ahk, aib]
    have hzn : zs'.length + 1 <= N + 1 := by
      have := (hS2.hD ⟨id, zs' ++ [z], i2, gw, dE, ns, tk⟩ (by simp)).z.1;simpa using this
    refine aJ [] [] [] aw (by kernel_rfl) (by kernel_rfl) λK hK => ?_; simp (maxSteps := 1000000) (disch := omega) [-getD_eq_getElem?_getD, e2, s2, yS];refine hK _ ?_;refine go _ _ ⟨id, zs' ++ [z], i2, gw, dE, ns, tk⟩ zs' z hS2 jH rfl rfl rfl hzf lL ?_;simp;omega
  have push : Kc (zs.map Wz.zn) f = zs.map Wz.zn ++ [⟨f, []⟩] -> ∀ (Q' : Exit -> St -> Prop), (∀ s, K1 s -> Q' .normal s) -> ∀ e : Env, bu J.length U.length e [(1, .ptr b1 0), (3, .bG bo nd nd), (4, .aP bm), (51, .sl ts.length (dx ts) .none), (52, .int .i64 (ts.length : Nat)), (53, .int .i64 (vi : Nat)), (8, .ptr p8 0), (58, .sl l.length (bA l) .none), (59, .int .i64 (l.length : Nat)), (60, .int .i64 (vj : Nat)), (10, .ptr we 0), (11, .ptr bo (D1.length * 3))] -> AW ⟨prog, 192, 190, H.length, T.length, [100100, 100131]⟩ (dY [1, 1, 1, 1, 1, 0, 1, 0, 0, 1, 1, 0, 0, 1, 1, 0, 0, 1, 1, 0, 0, 1, 1, 0, 1, 1, 0] (Tryz.f88.body.getD .skip)) Q' ⟨e, J, U⟩ := by
    intro lL Q' hQ e he
    conv => arg 2; whnf
    refine aH ⟨[(1, .ptr b1 0), (3, .bG bo nd nd), (4, .aP bm), (51, .sl ts.length (dx ts) .none), (52, .int .i64 (ts.length : Nat)), (53, .int .i64 (vi : Nat)), (8, .ptr p8 0), (58, .sl l.length (bA l) .none), (59, .int .i64 (l.length : Nat)), (60, .int .i64 (vj : Nat)), (10, .ptr we 0), (11, .ptr bo (D1.length * 3))], J, U⟩ (ag [] [] (by simp) (by simp) (by show H.length <= _; omega) (by show T.length <= _; omega) hS.ok he) ?_;refine qI 9 [9, 12] [0, 0, 0, 0, 0, 0, 0, 0, 0, 0, 1, 1, 1] [[0], []] aw (by kernel_rfl) (by kernel_rfl) (by kernel_rfl) λK hK => ?_;simp (maxSteps := 1000000) (disch := omega) [-getD_eq_getElem?_getD, -gP, eo, e8, r2, zp];have Nu : Has J ((R ++ (bo, .cells (fE (D1 ++ ⟨id, zs, i, cap, rest, ns, tk⟩ :: D2))) :: D1.flatMap Dz.bx) ++ (gb zs.length i (ny zs ++ rest) ++ (zs.flatMap Wz.bx ++ D2.flatMap Dz.bx))) := by simpa [Dz.bx] using hS.hJ
    refine grow (t := 23) (t2 := 23) (el := 117) (z := 2) (row := [.int .i64 f, .sl 0 [] .full]) (x := .sl 1 [.int .i64 f, .sl 0 [] .full] .full) (λh => by simp [gv, h]) (λh => by simp [gv, h]) (by kernel_rfl) (by kernel_rfl) (λ_ => by simp) ?_ ?_ (by kernel_rfl) (by kernel_rfl) (lr _) Nu z2 hS.pJ λi2 gw dE J2 iW sv jH oS hc2 hi2 => ?_
    · rw [show prog.bytesOf 117 = 32 by kernel_rfl]; omega
    · omega
    have g2 := iW.get (i := bo) (b := .cells (fE (D1 ++ ⟨id, zs, i, cap, rest, ns, tk⟩ :: D2))) (by simp);have l2 := (ahh.1 g2).1;have e2 := aW g2;simp (maxSteps := 1000000) (disch := omega) [-getD_eq_getElem?_getD, e2, zp, m7];refine hK _ (hQ _ ?_);have hdr : fE (D1 ++ ⟨id, zs ++ [⟨f, [], 0, 0, []⟩], i2, gw, dE, ns, tk⟩ :: D2) = fE D1 ++ AV.int .i64 id :: .bG i2 (zs.length + 1) gw :: ov ns tk :: fE D2 := by simp [fE, gv]
    rw [<- hdr];refine fin _ _ zs ⟨f, [], 0, 0, []⟩ i2 gw dE (λho => ⟨?_, ?_, ?_, sv.set Bb _, hS.pU, ho⟩) (by simp; omega) rfl (by rw [lL]; simp [Wz.zn]) ?_
    · have CH : Dz.bx ⟨id, zs ++ [⟨f, [], 0, 0, []⟩], i2, gw, dE, ns, tk⟩ = (i2, .cells (ny zs ++ ([.int .i64 f, .sl 0 [] .full] ++ dE))) :: zs.flatMap Wz.bx := by simp [Dz.bx, gb, ny, Wz.bx, gv]
      have := Has.set (A := R) (B := D1.flatMap Dz.bx ++ ((i2, .cells (ny zs ++ ([.int .i64 f, .sl 0 [] .full] ++ dE))) :: (zs.flatMap Wz.bx ++ D2.flatMap Dz.bx))) (by simpa using iW) (.cells (fE (D1 ++ ⟨id, zs ++ [⟨f, [], 0, 0, []⟩], i2, gw, dE, ns, tk⟩ :: D2)));rw [ahZ, ahy, CH];simpa using this
    · simpa [Dz.tx] using hS.hU
    · intro x hx;rcases ahw.1 hx with hx | hx
      · exact (hS.hD x (by simp [hx])).more (aid _)
      rcases ahL.1 hx with rfl | hx
      · refine ⟨⟨by simp; omega, λ_ => by simpa using ⟨oS, hc2, hi2⟩⟩, λz hz => ?_, ⟨by show ns.length <= _; omega, z4.2⟩⟩;rcases ahw.1 hz with hz | hz
        · exact (z3 z hz).more (aid _)
        · obtain rfl := ah0.1 hz;exact ⟨ahu _, λh => absurd rfl h⟩
      · exact (hS.hD x (by simp [hx])).more (aid _)
    · simp; omega
  rcases List.eq_nil_or_concat zs with hz | ⟨UB, z0, hz⟩
  · subst hz;simp only [gv, aiB, ai1] at r2;refine ae λK hK => ?_; simp (maxSteps := 1000000) (disch := omega) [-getD_eq_getElem?_getD, eo, r2, zp]; refine hK _ ?_; clear hK K;refine aJ [] [] [] aw (by kernel_rfl) (by kernel_rfl) λK hK => ?_; simp (maxSteps := 1000000) (disch := omega) [-getD_eq_getElem?_getD, eo, r2, zp];refine hK _ ?_; clear hK K;refine aT rfl (λh => ?_) (λh => absurd h (by simp));refine push (by simp [Kc]) _ (λs h => ?_) _ ?_
    · exact h
    · simp; omega
  · rw [List.concat_eq_append] at hz;subst hz;simp only [gv, ahk, aib, Nat.succ_ne_zero, ai5] at r2;have gz := hS.hJ.get (i := i) (b := .cells (ny (UB ++ [z0]) ++ rest)) (by simp [Dz.bx, gb]);have lz := (ahh.1 gz).1;have ez := aW gz;have zm : (ny (UB ++ [z0]) ++ rest).length = (UB.length + 1) * 2 + rest.length := by rw [ahk, lr, ahk, aib]
    obtain ⟨y1, y2⟩ := OI UB z0 rest;have z1q : UB.length + 1 <= N := by simpa using z1
    have bn : (((UB.length : Int) + 1) == 0) = false := ah5.2 (by omega);have YZ : ¬ ((UB.length : Int) + 1) = 0 := by omega
    by_cases hf : z0.f = f
    · have bd : (z0.f != f) = false := by simpa using hf
      refine ae λK hK => ?_; simp (maxSteps := 1000000) (disch := omega) [-getD_eq_getElem?_getD, eo, r2, zp]; refine hK _ ?_; clear hK K;refine aJ [] [] [] aw (by kernel_rfl) (by kernel_rfl) λK hK => ?_; simp (maxSteps := 1000000) (disch := omega) [-getD_eq_getElem?_getD, eo, e8, r2, zp, bn, YZ, ez, zm, y1, bd];refine hK _ ?_; clear hK K;refine aT rfl (λh => absurd h (by simp)) (λh => ?_);apply aq; simp (maxSteps := 1000000) (disch := omega) [-getD_eq_getElem?_getD];refine fin _ _ UB z0 i cap rest (λho => hS.more (aid _)) (ahj _) hf ?_ ?_
      · rw [ahx, List.map_singleton, Ee, ahs (show z0.zn.f = f from hf)]
      · simp; omega
    · have bd : (z0.f != f) = true := by simpa using hf
      refine ae λK hK => ?_; simp (maxSteps := 1000000) (disch := omega) [-getD_eq_getElem?_getD, eo, r2, zp]; refine hK _ ?_; clear hK K;refine aJ [] [] [] aw (by kernel_rfl) (by kernel_rfl) λK hK => ?_; simp (maxSteps := 1000000) (disch := omega) [-getD_eq_getElem?_getD, eo, e8, r2, zp, bn, YZ, ez, zm, y1, bd];refine hK _ ?_; clear hK K;refine aT rfl (λh => ?_) (λh => absurd h (by simp));refine push ?_ _ (λs h => ?_) _ ?_
      · rw [ahx, List.map_singleton, Ee, ahq (show ¬ z0.zn.f = f from hf)]
      · exact h
      · simp; omega
attribute [-simp] getD_eq_getElem?_getD in
def ZR (H:List az)(T:au)(ts:List Tm)(l:List Ps)(vi vj b1 bo bm nd p8 we:Nat)(N:Nat)(f a:Int)(w:Bs)(lv:AV)(at_:List Int)(vk:Nat)(R:List (Nat×az))(J:List az)(U:au)(D1 D2:List Dz)(d:Dz)(zs:List Wz)(z:Wz)
  (hS:DS H T R bo N J U (D1++d::D2)) (hz:d.zs=zs++[z]) (hN:N<=1099511627776) (vb:at_.length<=1000) (hvk:vk<at_.length) (wL:b1<J.length) (Nq:bm<J.length) (aeV:we<J.length) (h8:(p8,.cells [.int .i64 f,.str w,lv])∈R) (Q:Exit->St->Prop)
  (go:∀(e:Env)(J':List az)(d':Dz)(z':Wz),(bJ J' U->DS H T R bo (N+1) J' U (D1++d'::D2))->J.length<=J'.length->d'.id=d.id->d'.ns=d.ns->d'.zs=zs++[z']->d'.i=d.i->z'.f=z.f->z'.ws=z.ws++[(w,at_.getD vk 0)]->
   bu J'.length U.length e [(1,.ptr b1 0),(3,.bG bo nd nd),(4,.aP bm),(51,.sl ts.length (dx ts) .none),(52,.int .i64 (ts.length:Nat)),(53,.int .i64 (vi:Nat)),(8,.ptr p8 0),(58,.sl l.length (bA l) .none),(59,.int .i64 (l.length:Nat)),(60,.int .i64 (vj:Nat)),(10,.ptr we 0),(11,.ptr bo (D1.length*3)),(13,.ptr d.i (zs.length*2)),(115,.sl at_.length (ints at_) .none),(116,.int .i64 (at_.length:Nat)),(117,.int .i64 (vk:Nat))]->Q .normal ⟨e,J',U⟩) :
  AW ⟨prog,192,190,H.length,T.length,[100100,100131]⟩ (dY [1,1,1,1,1,0,1,0,0,1,1,0,0,1,1,0,0,1,1,0,0,1,1,1,1,1,0,0,1,1,0,0] (Tryz.f88.body.getD .skip)) Q ⟨[(1,.ptr b1 0),(3,.bG bo nd nd),(4,.aP bm),(51,.sl ts.length (dx ts) .none),(52,.int .i64 (ts.length:Nat)),(53,.int .i64 (vi:Nat)),(8,.ptr p8 0),(58,.sl l.length (bA l) .none),(59,.int .i64 (l.length:Nat)),(60,.int .i64 (vj:Nat)),(10,.ptr we 0),(11,.ptr bo (D1.length*3)),(13,.ptr d.i (zs.length*2)),(115,.sl at_.length (ints at_) .none),(116,.int .i64 (at_.length:Nat)),(117,.int .i64 (vk:Nat))],J,U⟩:=by
 conv=>arg 2;whnf
 have agY:vk<(ints at_).length:=by simpa using hvk
 have hga:=bI (xs:=at_) (k:=vk) hvk;generalize at_.getD vk 0=p at *;obtain⟨id,yE,i,cap,rest,ns,tk⟩:=d;simp only at hz;subst hz;have g8:=hS.hJ.get (ahG _ h8);have Nv:=hS.hJ.get (i:=bo) (b:=.cells (fE (D1++⟨id,zs++[z],i,cap,rest,ns,tk⟩::D2))) (by simp);have gz:=hS.hJ.get (i:=i) (b:=.cells (ny (zs++[z])++rest)) (by simp[Dz.bx,gb]);have l8:=(ahh.1 g8).1;have lo:=(ahh.1 Nv).1;have lz:=(ahh.1 gz).1;have e8:=aW g8;have ez:=aW gz;have lH:=hS.pJ.le;have lT:=hS.pU.le;have zm:(ny (zs++[z])++rest).length=(zs.length+1)*2+rest.length:=by rw[ahk,lr,ahk,aib]
 obtain⟨y1,y2⟩:=OI zs z rest;have m7:=λv=>SK zs z rest v;obtain⟨⟨z1,z2⟩,z3,z4⟩:=hS.hD ⟨id,zs++[z],i,cap,rest,ns,tk⟩ (by simp);simp only at z1 z2 z3 z4;obtain⟨q1,q2⟩:=z3 z (by simp);obtain⟨zf,ws,zi,zc,zr⟩:=z;simp only at q1 q2 y1 y2 m7;refine ae λK hK=>?_;simp(disch:=omega)[hga];apply hK;refine qI 10 [10,13] [0,0,0,0,0,0,0,0,0,0,0,1,1,1] [[0],[]] aw (by kernel_rfl) (by kernel_rfl) (by kernel_rfl) λK hK=>?_;simp(disch:=omega)[-gP,e8,ez,y2,zm];have Nu:Has J ((R++(bo,.cells (fE (D1++⟨id,zs++[⟨zf,ws,zi,zc,zr⟩],i,cap,rest,ns,tk⟩::D2)))::(D1.flatMap Dz.bx++((i,.cells (ny (zs++[⟨zf,ws,zi,zc,zr⟩])++rest))::zs.flatMap Wz.bx)))++(gb ws.length zi (dR ws++zr)++D2.flatMap Dz.bx)):=by simpa[Dz.bx,gb,Wz.bx] using hS.hJ
 refine grow (t:=115) (t2:=115) (el:=136) (z:=2) (row:=[.str w,.int .i64 p]) (x:=.sl 1 [.str w,.int .i64 p] .full) (λh=>by simp[gv,h]) (λh=>by simp[gv,h]) (by kernel_rfl) (by kernel_rfl) (λ_=>by simp) ?_ ?_ (by kernel_rfl) (by kernel_rfl) (gB _) Nu q2 hS.pJ λi2 gw dE J2 iW sv jH oS hc2 hi2=>?_
 ·rw[show prog.bytesOf 136=24 by kernel_rfl];omega
 ·omega
 have g2:=iW.get (i:=i) (b:=.cells (ny (zs++[⟨zf,ws,zi,zc,zr⟩])++rest)) (by simp);have l2:=(ahh.1 g2).1;have e2:=aW g2;simp(disch:=omega)[e2,zm,m7];refine hK _ ?_;have IZ:ny zs++AV.int IntKind.i64 zf::AV.bG i2 (ws.length+1) gw::rest=ny (zs++[⟨zf,ws++[(w,p)],i2,gw,dE⟩])++rest:=by simp[ny,gv]
 rw[IZ];refine go _ _ ⟨id,zs++[⟨zf,ws++[(w,p)],i2,gw,dE⟩],i,cap,rest,ns,tk⟩ ⟨zf,ws++[(w,p)],i2,gw,dE⟩ (λho=>⟨?_,?_,?_,sv.set ?_ _,hS.pU,ho⟩) (by simp;omega) rfl rfl rfl rfl rfl rfl ?_
 ·have CH:Dz.bx ⟨id,zs++[⟨zf,ws++[(w,p)],i2,gw,dE⟩],i,cap,rest,ns,tk⟩=(i,.cells (ny (zs++[⟨zf,ws++[(w,p)],i2,gw,dE⟩])++rest))::(zs.flatMap Wz.bx++[(i2,.cells (dR ws++([.str w,.int .i64 p]++dE)))]):=by
   simp[Dz.bx,gb,Wz.bx,<-KT]
  have hdr:fE (D1++⟨id,zs++[⟨zf,ws++[(w,p)],i2,gw,dE⟩],i,cap,rest,ns,tk⟩::D2)=fE (D1++⟨id,zs++[⟨zf,ws,zi,zc,zr⟩],i,cap,rest,ns,tk⟩::D2):=by simp[fE]
  have:=Has.set (A:=R++(bo,.cells (fE (D1++⟨id,zs++[⟨zf,ws,zi,zc,zr⟩],i,cap,rest,ns,tk⟩::D2)))::D1.flatMap Dz.bx) (B:=zs.flatMap Wz.bx++((i2,.cells (dR ws++([.str w,.int .i64 p]++dE)))::D2.flatMap Dz.bx)) (by simpa using iW) (.cells (ny (zs++[⟨zf,ws++[(w,p)],i2,gw,dE⟩])++rest));rw[ahZ,ahy,CH,hdr];simpa using this
 ·simpa[Dz.tx] using hS.hU
 ·intro x hx;rcases ahw.1 hx with hx|hx
  ·exact(hS.hD x (by simp[hx])).more (aid _)
  rcases ahL.1 hx with rfl|hx
  ·refine⟨⟨by simp at z1 ⊢;omega,λ_=>by simpa using z2 (by simp)⟩,λy hy=>?_,⟨by show ns.length<=_;omega,z4.2⟩⟩;rcases ahw.1 hy with hy|hy
   ·exact(z3 y (by simp[hy])).more (aid _)
   ·obtain rfl:=ah0.1 hy;exact⟨by simp;omega,λh=>by simpa using⟨oS,hc2,hi2⟩⟩
  ·exact(hS.hD x (by simp[hx])).more (aid _)
 ·exact(z2 (by simp)).2.2
 ·simp;omega
def wX (zs:List Zn)(f:Int)(ws:List Wd):List Zn:=match (Kc zs f).getLast? with
 |some z=>(Kc zs f).dropLast++[⟨z.f,z.ws++ws⟩]
 |none=>[]
def Uw {zs l:List Zn}{f:Int}{z:Zn}(h:Kc zs f=l++[z])(ws:List Wd):wX zs f ws=l++[⟨z.f,z.ws++ws⟩]:=by
 unfold wX;rw[h];simp
def afC (f:Int)(ws:List Wd)(d:Dc):Dc:={ d with zs:=wX d.zs f ws }
def WG (x:Nm)(d:Dc):Dc:={ d with ns:=d.ns++[x] }
def Kp (L:List Dc)(id:Int)(g:Dc->Dc):List Dc:=L.map λd=>if d.id=id then g d else d
def zF (f:Int)(w:Bs)(L:List Dc)(p:Ps):List Dc:=Kp L p.1 (afC f (p.2.map λa=>(w,a)))
def stepT (L:List Dc)(t:Tm):List Dc:=t.l.foldl (zF t.f t.w) L
def zH (f:Int)(L:List Dc)(x:Nm):List Dc:=Kp L x.2 (WG (f,x.1))
def Dm (L:List Dc)(c:Cl):List Dc:=c.x.foldl (zH c.f) L
def mS {α β:Type}(g:β->α->β)(l:List α)(b:β)(d:α)(j:Nat)(h:j<l.length):(l.take (j+1)).foldl g b=g ((l.take j).foldl g b) (l.getD j d):=by
 rw[aU l j d h,ai0];rfl
def DO {D1 D2:List Dz}{d d':Dz}{g:Dc->Dc}(hn:((D1++d::D2).map (·.id)).Nodup)(hg:d'.dc=g d.dc):(D1++d'::D2).map Dz.dc=Kp ((D1++d::D2).map Dz.dc) d.id g:=by
 rw[ahx,ahX,ah2,ajz] at hn;obtain⟨_,⟨n1,_⟩,n2⟩:=hn;have e1:∀x∈D1,(if x.dc.id=d.id then g x.dc else x.dc)=x.dc:=λx hx=>ahq λh=>n2 x.id (ahl.2 ⟨x,hx,rfl⟩) d.id (by simp) h;have e2:∀x∈D2,(if x.dc.id=d.id then g x.dc else x.dc)=x.dc:=λx hx=>ahq λh=>n1 (ahl.2 ⟨x,hx,h⟩);unfold Kp;rw[ain,ahx,ahx,ahX,ahX]
 congr 1
 ·exact ahW λx hx=>(e1 x hx).symm
 ·congr 1
  ·show d'.dc=if d.dc.id=d.id then g d.dc else d.dc
   rw[ahs (show d.dc.id=d.id from rfl),hg]
  ·exact ahW λx hx=>(e2 x hx).symm
def gW (ids:List Int):List (cQ×AV):=(List.range ids.length).map λk=>(kU (ids.getD k 0),.int .i64 (k:Nat))
def uJ (ids:List Int):(gW ids).map (·.1)=ids.map kU:=by
 unfold gW;apply ajd
 ·simp
 ·intro i h1 h2;simp at h1;simp[ahg,ahi h1]
def Em {ids:List Int}(hn:ids.Nodup){k:Nat}(hk:k<ids.length):jg (gW ids) (.one (.int .i64 (ids.getD k 0))) (.int .i64 0) false=.int .i64 (k:Nat):=by
 have Yv:((gW ids).map (·.1)).Nodup:=by rw[uJ];exact nV (λa b hab=>pS.1 hab) hn
 have hj:k<(gW ids).length:=by simpa[gW] using hk
 have he:(gW ids)[k]'hj=(kU (ids.getD k 0),.int .i64 (k:Nat)):=by simp[gW]
 unfold jg;rw[show (cQ.one (.int .i64 (ids.getD k 0)):cQ)=kU (ids.getD k 0) from rfl,wo Yv hj (by rw[he]),he];rfl
def WC {ids:List Int}(h:∀i∈ids,1<=i/\i<=1000000000):dq prog 3 (gW ids)=true:=by
 unfold dq;rw[ahQ];intro x hx;have:x.1∈(gW ids).map (·.1):=ahl.2 ⟨x,hx,rfl⟩;rw[uJ] at this;obtain⟨i,hi,e⟩:=ahl.1 this;rw[<-e];have:=h i hi;exact KD i (by omega)
attribute [-simp] getD_eq_getElem?_getD in
def P4 (H:List az)(T:au)(ts:List Tm)(l:List Ps)(vi vj b1 bo bm nd p8 we:Nat)(N:Nat)(f id:Int)(w:Bs)(lv:AV)(at_:List Int)(R:List (Nat×az))(J:List az)(U:au)(D1 D2:List Dz)(d:Dz)(zs:List Wz)(z:Wz)
  (hS:DS H T R bo N J U (D1++d::D2)) (hz:d.zs=zs++[z]) (hN:N+at_.length<=1099511627776) (vb:at_.length<=1000) (wL:b1<J.length) (Nq:bm<J.length) (h8:(p8,.cells [.int .i64 f,.str w,lv])∈R) (NL:(we,.cells [.int .i64 id,.sl at_.length (ints at_) .none])∈R) (Q:Exit->St->Prop)
  (go:∀(e:Env)(J':List az)(d':Dz)(z':Wz),DS H T R bo (N+at_.length) J' U (D1++d'::D2)->J.length<=J'.length->d'.id=d.id->d'.ns=d.ns->d'.zs=zs++[z']->z'.f=z.f->z'.ws=z.ws++at_.map (λa=>(w,a))->
   bu J'.length U.length e [(1,.ptr b1 0),(3,.bG bo nd nd),(4,.aP bm),(51,.sl ts.length (dx ts) .none),(52,.int .i64 (ts.length:Nat)),(53,.int .i64 (vi:Nat)),(8,.ptr p8 0),(58,.sl l.length (bA l) .none),(59,.int .i64 (l.length:Nat)),(60,.int .i64 (vj:Nat))]->Q .normal ⟨e,J',U⟩) :
  AW ⟨prog,192,190,H.length,T.length,[100100,100131]⟩ (dY [1,1,1,1,1,0,1,0,0,1,1,0,0,1,1,0,0,1,1,0,0,1,1,1,1] (Tryz.f88.body.getD .skip)) Q ⟨[(1,.ptr b1 0),(3,.bG bo nd nd),(4,.aP bm),(51,.sl ts.length (dx ts) .none),(52,.int .i64 (ts.length:Nat)),(53,.int .i64 (vi:Nat)),(8,.ptr p8 0),(58,.sl l.length (bA l) .none),(59,.int .i64 (l.length:Nat)),(60,.int .i64 (vj:Nat)),(10,.ptr we 0),(11,.ptr bo (D1.length*3)),(13,.ptr d.i (zs.length*2))],J,U⟩:=by
 conv=>arg 2;whnf
 have US:=hS.hJ.get (ahG _ NL);have l10:=(ahh.1 US).1;have YY:=aW US;have lo:=hS.hJ.lt (i:=bo) (b:=.cells (fE (D1++d::D2))) (by simp);have l8:=hS.hJ.lt (ahG _ h8);have lH:=hS.pJ.le;have lT:=hS.pU.le;have ldi:d.i<J.length:=hS.hJ.lt (b:=.cells (ny d.zs++d.rest)) (by simp[Dz.bx,gb,hz]);refine ae λK hK=>?_;simp(disch:=omega)[YY];apply hK;apply aj;refine aI (X:=Nat×List az×Dz×Wz) (λx=>⟨[(1,.ptr b1 0),(3,.bG bo nd nd),(4,.aP bm),(51,.sl ts.length (dx ts) .none),(52,.int .i64 (ts.length:Nat)),(53,.int .i64 (vi:Nat)),(8,.ptr p8 0),(58,.sl l.length (bA l) .none),(59,.int .i64 (l.length:Nat)),(60,.int .i64 (vj:Nat)),(10,.ptr we 0),(11,.ptr bo (D1.length*3)),(13,.ptr d.i (zs.length*2)),(115,.sl at_.length (ints at_) .none),(116,.int .i64 (at_.length:Nat)),(117,.int .i64 (x.1:Nat))],x.2.1,U⟩)
  (λx=>x.1<=at_.length/\DS H T R bo (N+x.1) x.2.1 U (D1++x.2.2.1::D2)/\J.length<=x.2.1.length/\(x.2.2.1.id=d.id/\x.2.2.1.ns=d.ns/\x.2.2.1.i=d.i)/\x.2.2.1.zs=zs++[x.2.2.2]/\x.2.2.2.f=z.f/\x.2.2.2.ws=z.ws++(at_.take x.1).map (λa=>(w,a))) (λx=>at_.length-x.1) (0,J,d,z) ?_ ?_ ?_
 ·exact⟨ahu _,hS,ahj _,⟨rfl,rfl,rfl⟩,hz,rfl,by simp⟩
 ·refine ag [] [] ?_ ?_ ?_ ?_ hS.ok ?_
  all_goals simp
  all_goals omega
 ·rintro⟨k,J2,d2,z2⟩ ⟨k1,k2,k3,⟨k4,k5,k6⟩,k7,k8,k9⟩;simp only at k1 k2 k3 k4 k5 k6 k7 k8 k9;have Ni:=k2.pJ.le;have Rf:=k2.pU.le;apply ae;intro K Z;simp(disch:=omega);apply Z;refine af λK2 bc=>?_;refine aT rfl (λgI=>?_) (λgI=>?_)
  ·simp  at gI;apply aq;simp(disch:=omega) ;apply bc;clear bc;refine af λK3 bD=>?_;apply aj;rw[<-k6];refine aH ⟨[(1,.ptr b1 0),(3,.bG bo nd nd),(4,.aP bm),(51,.sl ts.length (dx ts) .none),(52,.int .i64 (ts.length:Nat)),(53,.int .i64 (vi:Nat)),(8,.ptr p8 0),(58,.sl l.length (bA l) .none),(59,.int .i64 (l.length:Nat)),(60,.int .i64 (vj:Nat)),(10,.ptr we 0),(11,.ptr bo (D1.length*3)),(13,.ptr d2.i (zs.length*2)),(115,.sl at_.length (ints at_) .none),(116,.int .i64 (at_.length:Nat)),(117,.int .i64 (k:Nat))],J2,U⟩ (ag [] [] (by simp) (by simp) (by show H.length<=_;omega) (by show T.length<=_;omega) k2.ok (by simp;omega)) ?_;refine ZR H T ts l vi vj b1 bo bm nd p8 we (N+k) f (at_.getD k 0) w lv at_ k R J2 U D1 D2 d2 zs z2 k2 k7 (by omega) vb gI (by omega) (by omega) (by omega) h8 _ λe J' d' z' a1 a2 a3 a4 a5 a6 a7 a8 a9=>?_;refine bD _ (dA λBd=>?_);replace a1:=a1 Bd;have Kf:=a1.pJ.le;have Ke:=a1.pU.le;refine aH ⟨[(1,.ptr b1 0),(3,.bG bo nd nd),(4,.aP bm),(51,.sl ts.length (dx ts) .none),(52,.int .i64 (ts.length:Nat)),(53,.int .i64 (vi:Nat)),(8,.ptr p8 0),(58,.sl l.length (bA l) .none),(59,.int .i64 (l.length:Nat)),(60,.int .i64 (vj:Nat)),(10,.ptr we 0),(11,.ptr bo (D1.length*3)),(13,.ptr d2.i (zs.length*2)),(115,.sl at_.length (ints at_) .none),(116,.int .i64 (at_.length:Nat)),(117,.int .i64 (k:Nat))],J',U⟩ (ag [] [] (by simp) (by simp) (by show H.length<=_;omega) (by show T.length<=_;omega) a1.ok a9) ?_;clear bD;refine aB λK hK=>?_;simp(disch:=omega) ;apply hK;refine⟨(k+1,J',d',z'),⟨by show k+1<=_;omega,a1,by show J.length<=J'.length;omega,⟨a3.trans k4,a4.trans k5,a6.trans k6⟩,a5,a7.trans k8,?_⟩,by show at_.length-(k+1)<at_.length-k;omega,?_⟩
   ·show z'.ws=z.ws++(at_.take (k+1)).map _;rw[a8,k9,aU at_ k 0 gI,ahx,ahA];rfl
   ·rw[<-k6];refine ag [] [] ?_ ?_ ?_ ?_ a1.ok ?_
    all_goals simp
    all_goals omega
  ·simp  at gI;have hkk:k=at_.length:=by omega
   subst hkk;apply aF;simp(disch:=omega) ;rw[ahE] at k9;refine go _ J2 d2 z2 k2 k3 k4 k5 k7 k8 k9 ?_;simp;omega
def DT {D:List Dz}{k:Nat}(hk:k<D.length):∃D1 d D2,D=D1++d::D2/\D1.length=k:=by
 refine⟨D.take k,D[k],D.drop (k+1),?_,by simp;omega⟩;rw[List.getElem_cons_drop,ahM]
def LQ (H:List az)(T:au)(ts:List Tm)(l:List Ps)(vi vj b1 bo bm nd p8:Nat)(N:Nat)(f:Int)(w:Bs)(lv:AV)(ids:List Int)(R:List (Nat×az))(J:List az)(U:au)(D:List Dz)
  (hS:DS H T R bo N J U D) (kZ:D.map (·.id)=ids) (mU:ids.Nodup) (nu:∀i∈ids,1<=i/\i<=1000000000) (vW:nd=ids.length) (hk:vj<l.length) (CT:l.length<=1000) (sy:(l.getD vj p0).1∈ids) (zt:(l.getD vj p0).2.length<=1000) (hN:N+1001<=1099511627776) (wL:b1<J.length) (Bb:H.length<=bo)
  (hm:(bm,.map (gW ids))∈R) (h8:(p8,.cells [.int .i64 f,.str w,lv])∈R) (Q:Exit->St->Prop)
  (go:∀(e:Env)(J':List az)(D':List Dz),DS H T R bo (N+1001) J' U D'->J.length<=J'.length->D'.map (·.id)=ids->D'.map Dz.dc=zF f w (D.map Dz.dc) (l.getD vj p0)->
   bu J'.length U.length e [(1,.ptr b1 0),(3,.bG bo nd nd),(4,.aP bm),(51,.sl ts.length (dx ts) .none),(52,.int .i64 (ts.length:Nat)),(53,.int .i64 (vi:Nat)),(8,.ptr p8 0),(58,.sl l.length (bA l) .none),(59,.int .i64 (l.length:Nat)),(60,.int .i64 (vj:Nat))]->Q .normal ⟨e,J',U⟩) :
  AW ⟨prog,192,190,H.length,T.length,[100100,100131]⟩ (dY [1,1,1,1,1,0,1,0,0,1,1,0,0,1,1,0,0,1,1,0,0] (Tryz.f88.body.getD .skip)) Q ⟨[(1,.ptr b1 0),(3,.bG bo nd nd),(4,.aP bm),(51,.sl ts.length (dx ts) .none),(52,.int .i64 (ts.length:Nat)),(53,.int .i64 (vi:Nat)),(8,.ptr p8 0),(58,.sl l.length (bA l) .none),(59,.int .i64 (l.length:Nat)),(60,.int .i64 (vj:Nat))],J,U⟩:=by
 conv=>arg 2;whnf
 have gm:=hS.hJ.get (ahG _ hm);have lm:=(ahh.1 gm).1;have l8:=hS.hJ.lt (ahG _ h8);have lo:=hS.hJ.lt (i:=bo) (b:=.cells (fE D)) (by simp);have lH:=hS.pJ.le;have lT:=hS.pU.le;have hcut:=mj l vj hk;generalize l.getD vj p0=p at *;obtain⟨pd,ps⟩:=p;simp only at hcut sy zt go;have aeT:ps.length<=9223372036854775807:=by omega
 refine ae λK hK=>?_;simp(disch:=omega)[-getD_eq_getElem?_getD,hcut,bt];apply hK;have rv:bJ (J++[.cells [.int .i64 pd,.sl ps.length (ints ps) .none]]) U:=hS.ok.snoc (by simp);have hS2:=hS.new _ rv;have Kv:(J++[az.cells [.int .i64 pd,.sl ps.length (ints ps) .none]]).length=J.length+1:=by simp
 obtain⟨we,NL⟩:∃i,i=J.length:=⟨_,rfl⟩
 rw[<-NL] at hS2;simp only[<-NL];generalize J++[az.cells [.int .i64 pd,.sl ps.length (ints ps) .none]]=J1 at *;obtain⟨k,gV,hkp⟩:=bH 0 sy;have zz:D.length=ids.length:=by rw[<-kZ,ahz]
 obtain⟨D1,d,D2,hD,YO⟩:=DT (D:=D) (k:=k) (by omega);have Sk:d.id=pd:=by
  rw[<-hkp,<-kZ,hD,ahg,aip,ahC (by omega),YO,aiH];rfl
 subst hD;have US:=hS2.hJ.get (i:=we) (b:=.cells [.int .i64 pd,.sl ps.length (ints ps) .none]) (by simp);have g2:=hS2.hJ.get (i:=bm) (b:=.map (gW ids)) (by simp[hm]);have l10:=(ahh.1 US).1;have l2:=(ahh.1 g2).1;have YY:=aW US;have e2:=aW g2;have eE:=Em mU gV;rw[hkp] at eE;have RR:=WC nu;have UP:=KD pd (by have:=nu pd sy;omega);have kY:kU pd=.one (.int .i64 pd):=rfl;rw[kY] at UP;have RQ:k<nd:=by omega
 refine ae λK hK=>?_;simp(disch:=omega)[-getD_eq_getElem?_getD,BP,YY,e2,eE,RR,UP];apply hK;subst YO;refine aH ⟨[(1,.ptr b1 0),(3,.bG bo nd nd),(4,.aP bm),(51,.sl ts.length (dx ts) .none),(52,.int .i64 (ts.length:Nat)),(53,.int .i64 (vi:Nat)),(8,.ptr p8 0),(58,.sl l.length (bA l) .none),(59,.int .i64 (l.length:Nat)),(60,.int .i64 (vj:Nat)),(10,.ptr we 0),(11,.ptr bo (D1.length*3))],J1,U⟩ (ag [] [] (by simp) (by simp) (by show H.length<=_;omega) (by show T.length<=_;omega) hS2.ok (by simp;omega)) ?_;refine ZO H T ts l vi vj b1 bo bm nd p8 we N f w lv _ J1 U D1 D2 d hS2 (by omega) (by omega) (by omega) Bb (by omega) (by simp[h8]) Q λe J' d' zs z c1 c2 c3 c4 c5 c6 c7 c8=>?_;have Kf:=c1.pJ.le;have Ke:=c1.pU.le;refine aH ⟨[(1,.ptr b1 0),(3,.bG bo nd nd),(4,.aP bm),(51,.sl ts.length (dx ts) .none),(52,.int .i64 (ts.length:Nat)),(53,.int .i64 (vi:Nat)),(8,.ptr p8 0),(58,.sl l.length (bA l) .none),(59,.int .i64 (l.length:Nat)),(60,.int .i64 (vj:Nat)),(10,.ptr we 0),(11,.ptr bo (D1.length*3)),(13,.ptr d'.i (zs.length*2))],J',U⟩ (ag [] [] (by simp) (by simp) (by show H.length<=_;omega) (by show T.length<=_;omega) c1.ok c8) ?_;refine P4 H T ts l vi vj b1 bo bm nd p8 we (N+1) f pd w lv ps _ J' U D1 D2 d' zs z c1 c5 (by omega) (by omega) (by omega) (by omega) (by simp[h8]) (by simp) Q λe J2 d2 z2 q1 q2 q3 q4 q5 q6 q7 q8=>?_;refine go e J2 (D1++d2::D2) ((q1.more (by omega)).sub (by simp)) (by omega) ?_ ?_ q8
 ·rw[<-kZ];simp[q3,c3]
 ·unfold zF;simp only;rw[<-Sk];refine DO (by rw[kZ];exact mU) ?_;have e1:=Uw (zs:=d.dc.zs) (l:=zs.map Wz.zn) (z:=z.zn) (f:=f) (by rw[<-c7];simp[Dz.dc,c5]) (ps.map λa=>(w,a));have e2:d2.dc.zs=zs.map Wz.zn++[⟨z.f,z.ws++ps.map λa=>(w,a)⟩]:=by simp[Dz.dc,q5,Wz.zn,q6,q7]
  have e3:d2.dc=⟨d.id,d2.dc.zs,d.ns⟩:=by show (⟨d2.id,_,d2.ns⟩:Dc)=_;rw[q3,c3,q4,c4];rfl
  rw[e3,e2];show _=(⟨d.id,wX d.dc.zs f _,d.ns⟩:Dc);rw[e1];rfl
attribute [-simp] getD_eq_getElem?_getD in
def Lf (H:List az)(T:au)(ts:List Tm)(vi b1 bo bm nd:Nat)(N:Nat)(ids:List Int)(R:List (Nat×az))(J:List az)(U:au)(D:List Dz)
  (hS:DS H T R bo N J U D) (kZ:D.map (·.id)=ids) (vW:nd=ids.length) (mU:ids.Nodup) (nu:∀i∈ids,1<=i/\i<=1000000000) (hk:vi<ts.length) (CT:(ts.getD vi t0).l.length<=1000) (sy:∀p∈(ts.getD vi t0).l,p.1∈ids/\p.2.length<=1000) (hN:N+1001000<=1099511627776) (wL:b1<J.length) (Bb:H.length<=bo)
  (hm:(bm,.map (gW ids))∈R) (Q:Exit->St->Prop)
  (go:∀(e:Env)(J':List az)(D':List Dz),DS H T R bo (N+1001000) J' U D'->J.length<=J'.length->D'.map (·.id)=ids->D'.map Dz.dc=stepT (D.map Dz.dc) (ts.getD vi t0)->
   bu J'.length U.length e [(1,.ptr b1 0),(3,.bG bo nd nd),(4,.aP bm),(51,.sl ts.length (dx ts) .none),(52,.int .i64 (ts.length:Nat)),(53,.int .i64 (vi:Nat))]->Q .normal ⟨e,J',U⟩) :
  AW ⟨prog,192,190,H.length,T.length,[100100,100131]⟩ (dY [1,1,1,1,1,0,1,0,0,1,1,0,0] (Tryz.f88.body.getD .skip)) Q ⟨[(1,.ptr b1 0),(3,.bG bo nd nd),(4,.aP bm),(51,.sl ts.length (dx ts) .none),(52,.int .i64 (ts.length:Nat)),(53,.int .i64 (vi:Nat))],J,U⟩:=by
 conv=>arg 2;whnf
 have lm:=hS.hJ.lt (ahG _ hm);have lo:=hS.hJ.lt (i:=bo) (b:=.cells (fE D)) (by simp);have lH:=hS.pJ.le;have lT:=hS.pU.le;have hcut:=nJ ts vi hk;generalize ts.getD vi t0=t at *;obtain⟨f,w,l⟩:=t;simp only at hcut CT sy go;have ae7:l.length<=9223372036854775807:=by omega
 refine ae λK hK=>?_;simp(disch:=omega)[hcut,gC];apply hK;have rv:bJ (J++[.cells [.int .i64 f,.str w,.sl l.length (bA l) .none]]) U:=hS.ok.snoc (by simp);have hS2:=hS.new _ rv;have Kv:(J++[az.cells [.int .i64 f,.str w,.sl l.length (bA l) .none]]).length=J.length+1:=by simp
 obtain⟨p8,h8⟩:∃i,i=J.length:=⟨_,rfl⟩
 rw[<-h8] at hS2;simp only[<-h8];generalize J++[az.cells [.int .i64 f,.str w,.sl l.length (bA l) .none]]=J1 at *;have g8:=hS2.hJ.get (i:=p8) (b:=.cells [.int .i64 f,.str w,.sl l.length (bA l) .none]) (by simp);have l8:=(ahh.1 g8).1;have e8:=aW g8;refine ae λK hK=>?_;simp(disch:=omega)[e8];apply hK;apply aj;refine aI (X:=Nat×List az×List Dz) (λx=>⟨[(1,.ptr b1 0),(3,.bG bo nd nd),(4,.aP bm),(51,.sl ts.length (dx ts) .none),(52,.int .i64 (ts.length:Nat)),(53,.int .i64 (vi:Nat)),(8,.ptr p8 0),(58,.sl l.length (bA l) .none),(59,.int .i64 (l.length:Nat)),(60,.int .i64 (x.1:Nat))],x.2.1,U⟩)
  (λx=>x.1<=l.length/\DS H T ((p8,.cells [.int .i64 f,.str w,.sl l.length (bA l) .none])::R) bo (N+1001*x.1) x.2.1 U x.2.2/\J1.length<=x.2.1.length/\x.2.2.map (·.id)=ids/\x.2.2.map Dz.dc=(l.take x.1).foldl (zF f w) (D.map Dz.dc)) (λx=>l.length-x.1) (0,J1,D) ?_ ?_ ?_
 ·exact⟨ahu _,hS2,ahj _,kZ,by simp⟩
 ·refine ag [] [] ?_ ?_ ?_ ?_ hS2.ok ?_
  all_goals simp
  all_goals omega
 ·rintro⟨k,J2,D2⟩ ⟨k1,k2,k3,k4,k5⟩;simp only at k1 k2 k3 k4 k5;have Ni:=k2.pJ.le;have Rf:=k2.pU.le;apply ae;intro K Z;simp(disch:=omega);apply Z;refine af λK2 bc=>?_;refine aT rfl (λgI=>?_) (λgI=>?_)
  ·simp  at gI;have hp:=sy _ (aS l k p0 gI);apply aq;simp(disch:=omega) ;apply bc;clear bc;refine af λK3 bD=>?_;apply aj;refine aH ⟨[(1,.ptr b1 0),(3,.bG bo nd nd),(4,.aP bm),(51,.sl ts.length (dx ts) .none),(52,.int .i64 (ts.length:Nat)),(53,.int .i64 (vi:Nat)),(8,.ptr p8 0),(58,.sl l.length (bA l) .none),(59,.int .i64 (l.length:Nat)),(60,.int .i64 (k:Nat))],J2,U⟩ (ag [] [] (by simp) (by simp) (by show H.length<=_;omega) (by show T.length<=_;omega) k2.ok (by simp;omega)) ?_;refine LQ H T ts l vi k b1 bo bm nd p8 (N+1001*k) f w _ ids _ J2 U D2 k2 k4 mU nu vW gI (by omega) hp.1 hp.2 (by omega) (by omega) Bb (by simp[hm]) (List.mem_cons_self ..) _ λe J' D' a1 a2 a3 a4 a5=>?_;have Kf:=a1.pJ.le;have Ke:=a1.pU.le;refine bD _ (aH ⟨[(1,.ptr b1 0),(3,.bG bo nd nd),(4,.aP bm),(51,.sl ts.length (dx ts) .none),(52,.int .i64 (ts.length:Nat)),(53,.int .i64 (vi:Nat)),(8,.ptr p8 0),(58,.sl l.length (bA l) .none),(59,.int .i64 (l.length:Nat)),(60,.int .i64 (k:Nat))],J',U⟩ (ag [] [] (by simp) (by simp) (by show H.length<=_;omega) (by show T.length<=_;omega) a1.ok a5) ?_);clear bD;refine aB λK hK=>?_;simp(disch:=omega) ;apply hK;refine⟨(k+1,J',D'),⟨by show k+1<=_;omega,a1.more (by omega),by show J1.length<=J'.length;omega,a3,?_⟩,by show l.length-(k+1)<l.length-k;omega,?_⟩
   ·show D'.map Dz.dc=(l.take (k+1)).foldl _ _;rw[mS _ _ _ p0 k gI,a4,k5]
   ·refine ag [] [] ?_ ?_ ?_ ?_ a1.ok ?_
    all_goals simp
    all_goals omega
  ·simp  at gI;have hkk:k=l.length:=by omega
   subst hkk;apply aF;simp(disch:=omega) ;rw[ahE] at k5;refine go _ J2 D2 ((k2.more (by omega)).sub (by simp)) (by omega) k4 k5 ?_;simp;omega
attribute [-simp] getD_eq_getElem?_getD in
def Ch (H:List az)(T:au)(s:Sg)(b1 bo bm nd:Nat)(N:Nat)(ids:List Int)(R:List (Nat×az))(J:List az)(U:au)(D:List Dz)
  (hS:DS H T R bo N J U D) (kZ:D.map (·.id)=ids) (vW:nd=ids.length) (mU:ids.Nodup) (nu:∀i∈ids,1<=i/\i<=1000000000) (hs:ve s) (sy:∀t∈s.bK,∀p∈t.l,p.1∈ids) (hN:N+1001000000<=1099511627776) (h1:(b1,.cells (dC s))∈R) (Bb:H.length<=bo)
  (hm:(bm,.map (gW ids))∈R) (Q:Exit->St->Prop)
  (go:∀(e:Env)(J':List az)(D':List Dz),DS H T R bo (N+1001000000) J' U D'->D'.map (·.id)=ids->D'.map Dz.dc=s.bK.foldl stepT (D.map Dz.dc)->
   bu J'.length U.length e [(1,.ptr b1 0),(3,.bG bo nd nd),(4,.aP bm)]->AW ⟨prog,192,190,H.length,T.length,[100100,100131]⟩ (dY [1,1,1,1,1,1] (Tryz.f88.body.getD .skip)) Q ⟨e,J',U⟩) :
  AW ⟨prog,192,190,H.length,T.length,[100100,100131]⟩ (dY [1,1,1,1,1] (Tryz.f88.body.getD .skip)) Q ⟨[(1,.ptr b1 0),(3,.bG bo nd nd),(4,.aP bm)],J,U⟩:=by
 conv=>arg 2;whnf
 have lm:=hS.hJ.lt (ahG _ hm);have lo:=hS.hJ.lt (i:=bo) (b:=.cells (fE D)) (by simp);have g1:=hS.hJ.get (ahG _ h1);have l1:=(ahh.1 g1).1;have e1:=aW g1;have lH:=hS.pJ.le;have lT:=hS.pU.le;obtain⟨aA,ts,aN⟩:=s;obtain⟨sd,st,sw,sc,sx⟩:=hs;simp only at e1 sd st sw sc sx sy go;have vL:ts.length<=9223372036854775807:=by omega
 refine af λK1 aO=>?_;refine ae λK hK=>?_;simp(disch:=omega)[e1];apply hK;apply aj;refine aI (X:=Nat×List az×List Dz) (λx=>⟨[(1,.ptr b1 0),(3,.bG bo nd nd),(4,.aP bm),(51,.sl ts.length (dx ts) .none),(52,.int .i64 (ts.length:Nat)),(53,.int .i64 (x.1:Nat))],x.2.1,U⟩)
  (λx=>x.1<=ts.length/\DS H T R bo (N+1001000*x.1) x.2.1 U x.2.2/\J.length<=x.2.1.length/\x.2.2.map (·.id)=ids/\x.2.2.map Dz.dc=(ts.take x.1).foldl stepT (D.map Dz.dc)) (λx=>ts.length-x.1) (0,J,D) ?_ ?_ ?_
 ·exact⟨ahu _,hS,ahj _,kZ,by simp⟩
 ·refine ag [] [] ?_ ?_ ?_ ?_ hS.ok ?_
  all_goals simp
  all_goals omega
 ·rintro⟨k,J2,D2⟩ ⟨k1,k2,k3,k4,k5⟩;simp only at k1 k2 k3 k4 k5;have Ni:=k2.pJ.le;have Rf:=k2.pU.le;apply ae;intro K Z;simp(disch:=omega);apply Z;refine af λK2 bc=>?_;refine aT rfl (λgI=>?_) (λgI=>?_)
  ·simp  at gI;have Yr:=aS ts k t0 gI;have hw:=sw _ Yr;apply aq;simp(disch:=omega) ;apply bc;clear bc;refine af λK3 bD=>?_;apply aj;refine aH ⟨[(1,.ptr b1 0),(3,.bG bo nd nd),(4,.aP bm),(51,.sl ts.length (dx ts) .none),(52,.int .i64 (ts.length:Nat)),(53,.int .i64 (k:Nat))],J2,U⟩ (ag [] [] (by simp) (by simp) (by show H.length<=_;omega) (by show T.length<=_;omega) k2.ok (by simp;omega)) ?_;refine Lf H T ts k b1 bo bm nd (N+1001000*k) ids _ J2 U D2 k2 k4 vW mU nu gI hw.2.1 (λp hp=>⟨sy _ Yr p hp,hw.2.2 p hp⟩) (by omega) (by omega) Bb hm _ λe J' D' a1 a2 a3 a4 a5=>?_;have Kf:=a1.pJ.le;have Ke:=a1.pU.le;refine bD _ (aH ⟨[(1,.ptr b1 0),(3,.bG bo nd nd),(4,.aP bm),(51,.sl ts.length (dx ts) .none),(52,.int .i64 (ts.length:Nat)),(53,.int .i64 (k:Nat))],J',U⟩ (ag [] [] (by simp) (by simp) (by show H.length<=_;omega) (by show T.length<=_;omega) a1.ok a5) ?_);clear bD;refine aB λK hK=>?_;simp(disch:=omega) ;apply hK;refine⟨(k+1,J',D'),⟨by show k+1<=_;omega,a1.more (by omega),by show J.length<=J'.length;omega,a3,?_⟩,by show ts.length-(k+1)<ts.length-k;omega,?_⟩
   ·show D'.map Dz.dc=(ts.take (k+1)).foldl _ _;rw[mS _ _ _ t0 k gI,a4,k5]
   ·refine ag [] [] ?_ ?_ ?_ ?_ a1.ok ?_
    all_goals simp
    all_goals omega
  ·simp  at gI;have hkk:k=ts.length:=by omega
   subst hkk;apply aF;simp(disch:=omega) ;rw[ahE] at k5;apply aO;clear aO;refine go _ J2 D2 (k2.more (by omega)) k4 k5 ?_;simp;omega
attribute [-simp] getD_eq_getElem?_getD in
def Mr (H:List az)(T:au)(aN:List Cl)(x:List Nm)(vi vk b1 bo bm nd yI:Nat)(N:Nat)(f:Int)(xv:AV)(ids:List Int)(R:List (Nat×az))(J:List az)(U:au)(D:List Dz)
  (hS:DS H T R bo N J U D) (kZ:D.map (·.id)=ids) (vW:nd=ids.length) (mU:ids.Nodup) (nu:∀i∈ids,1<=i/\i<=1000000000) (hk:vk<x.length) (CT:x.length<=1000) (sy:(x.getD vk n0).2∈ids) (hN:N+1<=1099511627776) (wL:b1<J.length) (Bb:H.length<=bo)
  (hm:(bm,.map (gW ids))∈R) (UR:(yI,.cells [.int .i64 f,xv])∈R) (Q:Exit->St->Prop)
  (go:∀(e:Env)(J':List az)(U':au)(D':List Dz),(bJ J' U'->DS H T R bo (N+1) J' U' D')->J.length<=J'.length->D'.map (·.id)=ids->D'.map Dz.dc=zH f (D.map Dz.dc) (x.getD vk n0)->
   bu J'.length U'.length e [(1,.ptr b1 0),(3,.bG bo nd nd),(4,.aP bm),(138,.sl aN.length (dJ aN) .none),(139,.int .i64 (aN.length:Nat)),(140,.int .i64 (vi:Nat)),(17,.ptr yI 0),(145,.sl x.length (br x) .none),(146,.int .i64 (x.length:Nat)),(147,.int .i64 (vk:Nat))]->Q .normal ⟨e,J',U'⟩) :
  AW ⟨prog,192,190,H.length,T.length,[100100,100131]⟩ (dY [1,1,1,1,1,1,0,1,0,0,1,1,0,0,1,1,0,0,1,1,0,0] (Tryz.f88.body.getD .skip)) Q ⟨[(1,.ptr b1 0),(3,.bG bo nd nd),(4,.aP bm),(138,.sl aN.length (dJ aN) .none),(139,.int .i64 (aN.length:Nat)),(140,.int .i64 (vi:Nat)),(17,.ptr yI 0),(145,.sl x.length (br x) .none),(146,.int .i64 (x.length:Nat)),(147,.int .i64 (vk:Nat))],J,U⟩:=by
 conv=>arg 2;whnf
 have lm:=hS.hJ.lt (ahG _ hm);have l17:=hS.hJ.lt (ahG _ UR);have lo:=hS.hJ.lt (i:=bo) (b:=.cells (fE D)) (by simp);have lH:=hS.pJ.le;have lT:=hS.pU.le;have hcut:=ia x vk hk;generalize x.getD vk n0=y at *;obtain⟨yn,yd⟩:=y;simp only at hcut sy go;refine ae λK hK=>?_;simp(disch:=omega)[hcut,cH];apply hK;have rv:bJ (J++[.cells [.int .i64 yn,.int .i64 yd]]) U:=hS.ok.snoc (by simp);have hS2:=hS.new _ rv;have Kv:(J++[az.cells [.int .i64 yn,.int .i64 yd]]).length=J.length+1:=by simp
 obtain⟨p19,h19⟩:∃i,i=J.length:=⟨_,rfl⟩
 rw[<-h19] at hS2;simp only[<-h19];generalize J++[az.cells [.int .i64 yn,.int .i64 yd]]=J1 at *;obtain⟨k,gV,hkp⟩:=bH 0 sy;have zz:D.length=ids.length:=by rw[<-kZ,ahz]
 obtain⟨D1,d,D2,hD,YO⟩:=DT (D:=D) (k:=k) (by omega);have Sk:d.id=yd:=by
  rw[<-hkp,<-kZ,hD,ahg,aip,ahC (by omega),YO,aiH];rfl
 subst hD;have g19:=hS2.hJ.get (i:=p19) (b:=.cells [.int .i64 yn,.int .i64 yd]) (by simp);have YT:=hS2.hJ.get (i:=yI) (b:=.cells [.int .i64 f,xv]) (by simp[UR]);have g2:=hS2.hJ.get (i:=bm) (b:=.map (gW ids)) (by simp[hm]);have Nv:=hS2.hJ.get (i:=bo) (b:=.cells (fE (D1++d::D2))) (by simp);have l19:=(ahh.1 g19).1;have agV:=(ahh.1 YT).1;have l2:=(ahh.1 g2).1;have lo':=(ahh.1 Nv).1;have e19:=aW g19;have VZ:=aW YT;have e2:=aW g2;have eo:=aW Nv;have eE:=Em mU gV;rw[hkp] at eE;have RR:=WC nu;have UP:=KD yd (by have:=nu yd sy;omega);have kY:kU yd=.one (.int .i64 yd):=rfl;rw[kY] at UP;have RQ:k<nd:=by omega
 refine ae λK hK=>?_;simp(disch:=omega)[BP,e19,e2,eE,RR,UP];apply hK;subst YO;obtain⟨r1,r2,r3⟩:=G5 (D1:=D1) (D2:=D2) d;have zp:(fE (D1++d::D2)).length=(D1.length+1+D2.length)*3:=by rw[ly];simp;omega
 have m7:=λv=>(JR (D1:=D1) (D2:=D2) d v).2;obtain⟨hz1,IZ,hz3,hz4⟩:=hS2.hD d (by simp);obtain⟨id,zs,i,cap,rest,ns,tk⟩:=d;simp only at r1 r2 r3 m7 Sk hz1 IZ hz3 hz4;have hT:(D1++⟨id,zs,i,cap,rest,ns,tk⟩::D2).flatMap Dz.tx=D1.flatMap Dz.tx++(Dz.tx ⟨id,zs,i,cap,rest,ns,tk⟩++D2.flatMap Dz.tx):=by simp
 have CJ:=hS2.hU;rw[hT] at CJ;have fin:∀(e:Env)(U2:au)(UC:Nat),Has U2 (D1.flatMap Dz.tx++((UC,((ns.length+1)*2,2))::D2.flatMap Dz.tx))->T.length<=UC->gM T U2->U.length<=U2.length->
   bu J1.length U2.length e [(1,.ptr b1 0),(3,.bG bo nd nd),(4,.aP bm),(138,.sl aN.length (dJ aN) .none),(139,.int .i64 (aN.length:Nat)),(140,.int .i64 (vi:Nat)),(17,.ptr yI 0),(145,.sl x.length (br x) .none),(146,.int .i64 (x.length:Nat)),(147,.int .i64 (vk:Nat))]->Q .normal ⟨e,J1.set bo (.cells (fE D1++([.int .i64 id,gv zs.length i cap,.sl (ns.length+1) (br (ns++[(f,yn)])) (.own UC)]++fE D2))),U2⟩:=by
  intro e U2 UC hU' iH hP hUl he;have hdr:fE (D1++⟨id,zs,i,cap,rest,ns++[(f,yn)],UC⟩::D2)=fE D1++([.int .i64 id,gv zs.length i cap,.sl (ns.length+1) (br (ns++[(f,yn)])) (.own UC)]++fE D2):=by simp[fE,ov]
  rw[<-hdr];refine go _ _ _ (D1++⟨id,zs,i,cap,rest,ns++[(f,yn)],UC⟩::D2) (λho=>⟨?_,?_,?_,hS2.pJ.set Bb _,hP,ho⟩) (by simp;omega) ?_ ?_ (by simpa using he)
  ·have:=Has.set (A:=(p19,.cells [.int .i64 yn,.int .i64 yd])::R) (B:=(D1++⟨id,zs,i,cap,rest,ns,tk⟩::D2).flatMap Dz.bx) hS2.hJ (.cells (fE (D1++⟨id,zs,i,cap,rest,ns++[(f,yn)],UC⟩::D2)));have h2:=this.sub ((aih (p19,az.cells [.int .i64 yn,.int .i64 yd]) R).append_right _);simpa[Dz.bx] using h2
  ·rw[ahZ,ahy];simpa[Dz.tx] using hU'
  ·intro y hy;rcases ahw.1 hy with hy|hy
   ·exact(hS2.hD y (by simp[hy])).more (aid _)
   rcases ahL.1 hy with rfl|hy
   ·exact⟨hz1.more (aid _),λz hz=>(IZ z hz).more (aid _),⟨by simp;omega,λ_=>iH⟩⟩
   ·exact(hS2.hD y (by simp[hy])).more (aid _)
  ·rw[<-kZ];simp
  ·unfold zH;simp only;rw[<-Sk];exact DO (d:=⟨id,zs,i,cap,rest,ns,tk⟩) (by rw[kZ];exact mU) (by simp[Dz.dc,WG])
 rcases List.eq_nil_or_concat ns with hn|⟨RK,x0,hn⟩
 ·subst hn;simp only[ov,ai1] at r3;simp only[Dz.tx,ai1,aiQ] at CJ;refine cT [11,14] [0,0,0,0,0,0,0,0,0,0,0,0,1,1,1] [[0],[]] aw (by kernel_rfl) (by kernel_rfl) λK hK=>?_;simp(disch:=omega)[eo,r3,zp,VZ,e19,m7];refine hK _ (fin _ _ U.length ?_ lT (hS2.pU.app _) (by simp) (by simp;omega));have:=CJ.new (2,2);refine this.perm ?_;rw[ahA];exact(ah6 _ _).symm.append_left _
 ·rw[List.concat_eq_append] at hn;subst hn;have hne:¬RK++[x0]=[]:=by simp
  simp only[ov,ahq hne] at r3;simp only[Dz.tx,ahq hne,List.singleton_append] at CJ;have gU:=CJ.get (i:=tk) (b:=((RK++[x0]).length*2,2)) (by simp);have lU:=(ahh.1 gU).1;have eU:=aW gU;have RO:=cH (RK++[x0]);have hq:RK.length+1<=N:=by simpa using hz3
  have CS:=uI (RK++[x0]) (f,yn);simp only at CS;refine cT [11,14] [0,0,0,0,0,0,0,0,0,0,0,0,1,1,1] [[0],[]] aw (by kernel_rfl) (by kernel_rfl) λK hK=>?_;simp(disch:=omega)[eo,r3,zp,VZ,e19,m7,eU,RO,CS];simp only[ahk,aib] at fin;have hap:RK++[x0,(f,yn)]=RK++[x0]++[(f,yn)]:=by simp
  first|rw[hap]|skip
  refine hK _ ?_;refine fin _ (U.set tk ((RK.length+1+1)*2,2)) tk ?_ (hz4 hne) (hS2.pU.set (hz4 hne) _) (by simp) ?_
  ·have:=Has.set CJ ((RK.length+1+1)*2,2);simpa using this
  ·simp;omega
attribute [-simp] getD_eq_getElem?_getD in
def QQ (H:List az)(T:au)(aN:List Cl)(vi b1 bo bm nd:Nat)(N:Nat)(ids:List Int)(R:List (Nat×az))(J:List az)(U:au)(D:List Dz)
  (hS:DS H T R bo N J U D) (kZ:D.map (·.id)=ids) (vW:nd=ids.length) (mU:ids.Nodup) (nu:∀i∈ids,1<=i/\i<=1000000000) (hk:vi<aN.length) (CT:(aN.getD vi c0).x.length<=1000) (sy:∀y∈(aN.getD vi c0).x,y.2∈ids) (hN:N+1000<=1099511627776) (wL:b1<J.length) (Bb:H.length<=bo)
  (hm:(bm,.map (gW ids))∈R) (Q:Exit->St->Prop)
  (go:∀(e:Env)(J':List az)(U':au)(D':List Dz),DS H T R bo (N+1000) J' U' D'->J.length<=J'.length->D'.map (·.id)=ids->D'.map Dz.dc=Dm (D.map Dz.dc) (aN.getD vi c0)->
   bu J'.length U'.length e [(1,.ptr b1 0),(3,.bG bo nd nd),(4,.aP bm),(138,.sl aN.length (dJ aN) .none),(139,.int .i64 (aN.length:Nat)),(140,.int .i64 (vi:Nat))]->Q .normal ⟨e,J',U'⟩) :
  AW ⟨prog,192,190,H.length,T.length,[100100,100131]⟩ (dY [1,1,1,1,1,1,0,1,0,0,1,1,0,0] (Tryz.f88.body.getD .skip)) Q ⟨[(1,.ptr b1 0),(3,.bG bo nd nd),(4,.aP bm),(138,.sl aN.length (dJ aN) .none),(139,.int .i64 (aN.length:Nat)),(140,.int .i64 (vi:Nat))],J,U⟩:=by
 conv=>arg 2;whnf
 have lm:=hS.hJ.lt (ahG _ hm);have lo:=hS.hJ.lt (i:=bo) (b:=.cells (fE D)) (by simp);have lH:=hS.pJ.le;have lT:=hS.pU.le;have hcut:=xY aN vi hk;generalize aN.getD vi c0=t at *;obtain⟨f,x⟩:=t;simp only at hcut CT sy go;have ae7:x.length<=9223372036854775807:=by omega
 refine ae λK hK=>?_;simp(disch:=omega)[hcut,nL];apply hK;have rv:bJ (J++[.cells [.int .i64 f,.sl x.length (br x) .none]]) U:=hS.ok.snoc (by simp);have hS2:=hS.new _ rv;have Kv:(J++[az.cells [.int .i64 f,.sl x.length (br x) .none]]).length=J.length+1:=by simp
 obtain⟨yI,UR⟩:∃i,i=J.length:=⟨_,rfl⟩
 rw[<-UR] at hS2;simp only[<-UR];generalize J++[az.cells [.int .i64 f,.sl x.length (br x) .none]]=J1 at *;have YT:=hS2.hJ.get (i:=yI) (b:=.cells [.int .i64 f,.sl x.length (br x) .none]) (by simp);have l17:=(ahh.1 YT).1;have VZ:=aW YT;refine ae λK hK=>?_;simp(disch:=omega)[VZ];apply hK;apply aj;refine aI (X:=Nat×List az×au×List Dz) (λy=>⟨[(1,.ptr b1 0),(3,.bG bo nd nd),(4,.aP bm),(138,.sl aN.length (dJ aN) .none),(139,.int .i64 (aN.length:Nat)),(140,.int .i64 (vi:Nat)),(17,.ptr yI 0),(145,.sl x.length (br x) .none),(146,.int .i64 (x.length:Nat)),(147,.int .i64 (y.1:Nat))],y.2.1,y.2.2.1⟩)
  (λy=>y.1<=x.length/\DS H T ((yI,.cells [.int .i64 f,.sl x.length (br x) .none])::R) bo (N+y.1) y.2.1 y.2.2.1 y.2.2.2/\J1.length<=y.2.1.length/\y.2.2.2.map (·.id)=ids/\y.2.2.2.map Dz.dc=(x.take y.1).foldl (zH f) (D.map Dz.dc)) (λy=>x.length-y.1) (0,J1,U,D) ?_ ?_ ?_
 ·exact⟨ahu _,hS2,ahj _,kZ,by simp⟩
 ·refine ag [] [] ?_ ?_ ?_ ?_ hS2.ok ?_
  all_goals simp
  all_goals omega
 ·rintro⟨k,J2,U2,D2⟩ ⟨k1,k2,k3,k4,k5⟩;simp only at k1 k2 k3 k4 k5;have Ni:=k2.pJ.le;have Rf:=k2.pU.le;apply ae;intro K Z;simp(disch:=omega);apply Z;refine af λK2 bc=>?_;refine aT rfl (λgI=>?_) (λgI=>?_)
  ·simp  at gI;have hp:=sy _ (aS x k n0 gI);apply aq;simp(disch:=omega) ;apply bc;clear bc;refine af λK3 bD=>?_;apply aj;refine aH ⟨[(1,.ptr b1 0),(3,.bG bo nd nd),(4,.aP bm),(138,.sl aN.length (dJ aN) .none),(139,.int .i64 (aN.length:Nat)),(140,.int .i64 (vi:Nat)),(17,.ptr yI 0),(145,.sl x.length (br x) .none),(146,.int .i64 (x.length:Nat)),(147,.int .i64 (k:Nat))],J2,U2⟩ (ag [] [] (by simp) (by simp) (by show H.length<=_;omega) (by show T.length<=_;omega) k2.ok (by simp;omega)) ?_;refine Mr H T aN x vi k b1 bo bm nd yI (N+k) f _ ids _ J2 U2 D2 k2 k4 vW mU nu gI CT hp (by omega) (by omega) Bb (by simp[hm]) (List.mem_cons_self ..) _ λe J' U' D' a1 a2 a3 a4 a5=>?_;refine bD _ (dA λBd=>?_);replace a1:=a1 Bd;have Kf:=a1.pJ.le;have Ke:=a1.pU.le;refine aH ⟨[(1,.ptr b1 0),(3,.bG bo nd nd),(4,.aP bm),(138,.sl aN.length (dJ aN) .none),(139,.int .i64 (aN.length:Nat)),(140,.int .i64 (vi:Nat)),(17,.ptr yI 0),(145,.sl x.length (br x) .none),(146,.int .i64 (x.length:Nat)),(147,.int .i64 (k:Nat))],J',U'⟩ (ag [] [] (by simp) (by simp) (by show H.length<=_;omega) (by show T.length<=_;omega) a1.ok a5) ?_;clear bD;refine aB λK hK=>?_;simp(disch:=omega) ;apply hK;refine⟨(k+1,J',U',D'),⟨by show k+1<=_;omega,a1,by show J1.length<=J'.length;omega,a3,?_⟩,by show x.length-(k+1)<x.length-k;omega,?_⟩
   ·show D'.map Dz.dc=(x.take (k+1)).foldl _ _;rw[mS _ _ _ n0 k gI,a4,k5]
   ·refine ag [] [] ?_ ?_ ?_ ?_ a1.ok ?_
    all_goals simp
    all_goals omega
  ·simp  at gI;have hkk:k=x.length:=by omega
   subst hkk;apply aF;simp(disch:=omega) ;rw[ahE] at k5;refine go _ J2 U2 D2 ((k2.more (by omega)).sub (by simp)) (by omega) k4 k5 ?_;simp;omega
attribute [-simp] getD_eq_getElem?_getD in
def FZ (H:List az)(T:au)(s:Sg)(b1 bo bm nd:Nat)(N:Nat)(ids:List Int)(R:List (Nat×az))(J:List az)(U:au)(D:List Dz)
  (hS:DS H T R bo N J U D) (kZ:D.map (·.id)=ids) (vW:nd=ids.length) (mU:ids.Nodup) (nu:∀i∈ids,1<=i/\i<=1000000000) (hs:ve s) (sy:∀c∈s.aN,∀y∈c.x,y.2∈ids) (hN:N+1000000<=1099511627776) (h1:(b1,.cells (dC s))∈R) (Bb:H.length<=bo)
  (hm:(bm,.map (gW ids))∈R) (Q:Exit->St->Prop)
  (go:∀(e:Env)(J':List az)(U':au)(D':List Dz),DS H T R bo (N+1000000) J' U' D'->D'.map (·.id)=ids->D'.map Dz.dc=s.aN.foldl Dm (D.map Dz.dc)->
   bu J'.length U'.length e [(1,.ptr b1 0),(3,.bG bo nd nd),(4,.aP bm)]->AW ⟨prog,192,190,H.length,T.length,[100100,100131]⟩ (dY [1,1,1,1,1,1,1] (Tryz.f88.body.getD .skip)) Q ⟨e,J',U'⟩) :
  AW ⟨prog,192,190,H.length,T.length,[100100,100131]⟩ (dY [1,1,1,1,1,1] (Tryz.f88.body.getD .skip)) Q ⟨[(1,.ptr b1 0),(3,.bG bo nd nd),(4,.aP bm)],J,U⟩:=by
 conv=>arg 2;whnf
 have lm:=hS.hJ.lt (ahG _ hm);have lo:=hS.hJ.lt (i:=bo) (b:=.cells (fE D)) (by simp);have g1:=hS.hJ.get (ahG _ h1);have l1:=(ahh.1 g1).1;have e1:=aW g1;have lH:=hS.pJ.le;have lT:=hS.pU.le;obtain⟨aA,ts,aN⟩:=s;obtain⟨sd,st,sw,sc,sx⟩:=hs;simp only at e1 sd st sw sc sx sy go;have vL:aN.length<=9223372036854775807:=by omega
 refine af λK1 aO=>?_;refine ae λK hK=>?_;simp(disch:=omega)[e1];apply hK;apply aj;refine aI (X:=Nat×List az×au×List Dz) (λx=>⟨[(1,.ptr b1 0),(3,.bG bo nd nd),(4,.aP bm),(138,.sl aN.length (dJ aN) .none),(139,.int .i64 (aN.length:Nat)),(140,.int .i64 (x.1:Nat))],x.2.1,x.2.2.1⟩)
  (λx=>x.1<=aN.length/\DS H T R bo (N+1000*x.1) x.2.1 x.2.2.1 x.2.2.2/\J.length<=x.2.1.length/\x.2.2.2.map (·.id)=ids/\x.2.2.2.map Dz.dc=(aN.take x.1).foldl Dm (D.map Dz.dc)) (λx=>aN.length-x.1) (0,J,U,D) ?_ ?_ ?_
 ·exact⟨ahu _,hS,ahj _,kZ,by simp⟩
 ·refine ag [] [] ?_ ?_ ?_ ?_ hS.ok ?_
  all_goals simp
  all_goals omega
 ·rintro⟨k,J2,U2,D2⟩ ⟨k1,k2,k3,k4,k5⟩;simp only at k1 k2 k3 k4 k5;have Ni:=k2.pJ.le;have Rf:=k2.pU.le;apply ae;intro K Z;simp(disch:=omega);apply Z;refine af λK2 bc=>?_;refine aT rfl (λgI=>?_) (λgI=>?_)
  ·simp  at gI;have Yr:=aS aN k c0 gI;have hw:=sx _ Yr;apply aq;simp(disch:=omega) ;apply bc;clear bc;refine af λK3 bD=>?_;apply aj;refine aH ⟨[(1,.ptr b1 0),(3,.bG bo nd nd),(4,.aP bm),(138,.sl aN.length (dJ aN) .none),(139,.int .i64 (aN.length:Nat)),(140,.int .i64 (k:Nat))],J2,U2⟩ (ag [] [] (by simp) (by simp) (by show H.length<=_;omega) (by show T.length<=_;omega) k2.ok (by simp;omega)) ?_;refine QQ H T aN k b1 bo bm nd (N+1000*k) ids _ J2 U2 D2 k2 k4 vW mU nu gI hw (λp hp=>sy _ Yr p hp) (by omega) (by omega) Bb hm _ λe J' U' D' a1 a2 a3 a4 a5=>?_;have Kf:=a1.pJ.le;have Ke:=a1.pU.le;refine bD _ (aH ⟨[(1,.ptr b1 0),(3,.bG bo nd nd),(4,.aP bm),(138,.sl aN.length (dJ aN) .none),(139,.int .i64 (aN.length:Nat)),(140,.int .i64 (k:Nat))],J',U'⟩ (ag [] [] (by simp) (by simp) (by show H.length<=_;omega) (by show T.length<=_;omega) a1.ok a5) ?_);clear bD;refine aB λK hK=>?_;simp(disch:=omega) ;apply hK;refine⟨(k+1,J',U',D'),⟨by show k+1<=_;omega,a1.more (by omega),by show J.length<=J'.length;omega,a3,?_⟩,by show aN.length-(k+1)<aN.length-k;omega,?_⟩
   ·show D'.map Dz.dc=(aN.take (k+1)).foldl _ _;rw[mS _ _ _ c0 k gI,a4,k5]
   ·refine ag [] [] ?_ ?_ ?_ ?_ a1.ok ?_
    all_goals simp
    all_goals omega
  ·simp  at gI;have hkk:k=aN.length:=by omega
   subst hkk;apply aF;simp(disch:=omega) ;rw[ahE] at k5;apply aO;clear aO;refine go _ J2 U2 D2 (k2.more (by omega)) k4 k5 ?_;simp;omega
def R8 (ts:List Tm)(id:Int):List (Int×List Wd):=ts.flatMap λt=>(t.l.filter λp=>p.1==id).map λp=>(t.f,p.2.map λa=>(t.w,a))
def qZ (zs:List Zn)(es:List (Int×List Wd)):List Zn:=es.foldl (λzs e=>wX zs e.1 e.2) zs
def Ng (cs:List Cl)(id:Int):List Nm:=cs.flatMap λc=>(c.x.filter λy=>y.2==id).map λy=>(c.f,y.1)
def zR (zs:List Zn)(a b:List (Int×List Wd)):qZ zs (a++b)=qZ (qZ zs a) b:=ai0 ..
theorem Vn (f:Int)(w:Bs):∀(l:List Ps)(L:List Dc),l.foldl (zF f w) L=L.map λd=>⟨d.id,qZ d.zs ((l.filter λp=>p.1==d.id).map λp=>(f,p.2.map λa=>(w,a))),d.ns⟩
 |[],L=>by simp[qZ]
 |p::l,L=>by
  rw[aiR,Vn f w l];unfold zF Kp;rw[ain];refine ahW λd hd=>?_;simp only[Function.comp]
  by_cases h:d.id=p.1
  ·rw[ahs h,aiw (by simp[h])];rfl
  ·rw[ahq h,aiq (by simpa using λe=>h e.symm)]
theorem Vm:∀(ts:List Tm)(L:List Dc),ts.foldl stepT L=L.map λd=>⟨d.id,qZ d.zs (R8 ts d.id),d.ns⟩
 |[],L=>by simp[qZ,R8]
 |t::ts,L=>by
  rw[aiR,Vm ts];unfold stepT;rw[Vn,ain];refine ahW λd hd=>?_;simp only[Function.comp,R8,ahy,zR]
theorem foldI (f:Int):∀(l:List Nm)(L:List Dc),l.foldl (zH f) L=L.map λd=>⟨d.id,d.zs,d.ns++(l.filter λy=>y.2==d.id).map λy=>(f,y.1)⟩
 |[],L=>by simp
 |p::l,L=>by
  rw[aiR,foldI f l];unfold zH Kp;rw[ain];refine ahW λd hd=>?_;simp only[Function.comp]
  by_cases h:d.id=p.2
  ·rw[ahs h,aiw (by simp[h])];simp[WG]
  ·rw[ahq h,aiq (by simpa using λe=>h e.symm)]
theorem Vp:∀(cs:List Cl)(L:List Dc),cs.foldl Dm L=L.map λd=>⟨d.id,d.zs,d.ns++Ng cs d.id⟩
 |[],L=>by simp[Ng]
 |c::cs,L=>by
  rw[aiR,Vp cs];unfold Dm;rw[foldI,ain];refine ahW λd hd=>?_;simp only[Function.comp,Ng,ahy,ahA]
def de (g:Int->List Wd):List Zn:=[1,2,3,4].flatMap λf=>if g f=[] then [] else [⟨f,g f⟩]
def yZ {g h:Int->List Wd}(e:∀f,1<=f->f<=4->g f=h f):de g=de h:=by
 simp only[de,ahy,List.flatMap_nil,e 1 (by omega) (by omega),e 2 (by omega) (by omega),e 3 (by omega) (by omega),e 4 (by omega) (by omega)]
def IU {g : Int -> List Wd} {f : Int} {ws : List Wd} (h1 : 1 <= f) (h4 : f <= 4) (hw : ws ≠ []) (hg : ∀ f', f < f' -> g f' = []) : wX (de g) f ws = de (λf' => if f' = f then g f' ++ ws else g f') := by
 rcases (by omega : f = 1 \/ f = 2 \/ f = 3 \/ f = 4) with rfl | rfl | rfl | rfl
 ·have a2 := hg 2 (by omega); have a3 := hg 3 (by omega); have a4 := hg 4 (by omega)
  by_cases b1 : g 1 = [] <;> simp [de, wX, Kc, *]
 ·have a3 := hg 3 (by omega); have a4 := hg 4 (by omega)
  by_cases b1 : g 1 = [] <;> by_cases b2 : g 2 = [] <;> simp [de, wX, Kc, *]
 ·have a4 := hg 4 (by omega)
  by_cases b1 : g 1 = [] <;> by_cases b2 : g 2 = [] <;> by_cases b3 : g 3 = [] <;> simp [de, wX, Kc, *]
 ·by_cases b1 : g 1 = [] <;> by_cases b2 : g 2 = [] <;> by_cases b3 : g 3 = [] <;> by_cases b4 : g 4 = [] <;> simp [de, wX, Kc, *]
def pw (es:List (Int×List Wd))(f:Int):List Wd:=(es.filter λe=>e.1==f).flatMap (·.2)
def L5 (es:List (Int×List Wd))(e:Int×List Wd)(f:Int):pw (es++[e]) f=if f=e.1 then pw es f++e.2 else pw es f:=by
 unfold pw;rw[ah8]
 by_cases h:f=e.1
 ·rw[ahs h,aiw (by simp[h])];simp
 ·rw[ahq h,aiq (by simpa using λx=>h x.symm)];simp
theorem Fl (es:List (Int×List Wd))(hs:es.Pairwise λa b=>a.1<=b.1)(h14:∀e∈es,1<=e.1/\e.1<=4/\e.2≠[]):qZ [] es=de (pw es):=by
 have key:∀r:List (Int×List Wd),(r.reverse.Pairwise λa b=>a.1<=b.1)->(∀e∈r,1<=e.1/\e.1<=4/\e.2≠[])->qZ [] r.reverse=de (pw r.reverse):=by
  intro r
  induction r with
  |nil=>intro _ _;rfl
  |cons e r ih=>
   intro hp hm;rw[List.reverse_cons] at hp ⊢;rw[ai3] at hp;obtain⟨p1,_,p3⟩:=hp;obtain⟨q1,q2,q3⟩:=hm e (by simp);rw[zR,ih p1 λx hx=>hm x (by simp[hx])];show wX _ e.1 e.2=_;rw[IU q1 q2 q3 λf' hf=>?_]
   ·refine yZ λf _ _=>?_;exact(L5 _ e f).symm
   ·unfold pw;rw[List.flatMap_eq_nil_iff];intro x hx;rw[ahF] at hx;have:=p3 x hx.1 e (by simp);simp at hx;omega
 have:=key es.reverse (by rwa [List.reverse_reverse]) λe he=>h14 e (by simpa using he)
 rwa [List.reverse_reverse] at this
def occs (ts:List Tm)(id f:Int):List Wd:=pw (R8 ts id) f
def jh (s:Sg):List Dc:=s.aA.map λid=>⟨id,de λf=>jA (occs s.bK id f),Ng s.aN id⟩
def Ls:jA []=[]:=by unfold jA;simp
def nk (l:List Wd):jA l=[]↔l=[]:=by
 constructor
 ·intro h;have:=congrArg List.length h;unfold jA at this;rw[ajq] at this;exact ah3.1 this
 ·rintro rfl;exact Ls
def V4 (z:Zn):Zn:=⟨z.f,jA z.ws⟩
def Fi (g:Int->List Wd):(de g).map V4=de λf=>jA (g f):=by
 unfold de;rw[List.map_flatMap]
 congr 1
 funext f
 by_cases h:g f=[]
 ·rw[ahs h,ahs ((nk _).2 h)];rfl
 ·rw[ahq h,ahq (λe=>h ((nk _).1 e))];rfl
section
variable {s : Sg}
theorem Ho (hv:aX s=true):s.bK.Pairwise λa b=>a.f<=b.f:=by
 obtain⟨_,⟨ht,_⟩,_⟩:=iC hv;rw[ahN];have key:∀(n i:Nat)(h1:i<s.bK.length)(h2:i+n<s.bK.length),(s.bK[i]'h1).f<=(s.bK[i+n]'h2).f:=by
  intro n
  induction n with
  |zero=>intro i _ _;exact Int.le_refl _
  |succ n ih=>
   intro i h1 h2;refine Int.le_trans (ih i h1 (by omega)) ?_;have:=(ht (i+n+1) (by omega)).1;unfold rB at this;simp only[aht,aic,ahv] at this;have h3:=this.2.resolve_left (by omega);rw[aiP,ahg,ahg,ahi (by omega),ahi (by omega)] at h3;simp only[aiU,bP] at h3;have e:i+(n+1)=i+n+1:=by omega
   simp only[e];simp only[aic,aht,ahv] at h3;omega
 intro i j h1 h2 hij;have:=key (j-i) i h1 (by omega);have e:i+(j-i)=j:=by omega
 simpa only[e] using this
def Oj (hv:aX s=true){t:Tm}(ht:t∈s.bK):(1<=t.f/\t.f<=4)/\t.l≠[]/\dT t.l=true/\∀p∈t.l,p.1∈s.aA:=by
 obtain⟨_,⟨h,_⟩,_⟩:=iC hv;obtain⟨i,hi,rfl⟩:=bH t0 ht;obtain⟨a,b⟩:=h i hi;unfold rB at a;unfold IV at b;simp only[aht,ahv] at a b;exact⟨a.1.1,b.1.1,b.1.2,b.2⟩
def aax (hv:aX s=true){c:Cl}(hc:c∈s.aN):(5<=c.f/\c.f<=7)/\∀y∈c.x,y.2∈s.aA:=by
 obtain⟨_,_,h⟩:=iC hv;obtain⟨i,hi,rfl⟩:=bH c0 hc;obtain⟨a,b⟩:=h i hi;unfold wQ at a;simp only[aht,ahv] at a;refine⟨a.1.1,λy hy=>?_⟩;obtain⟨k,hk,rfl⟩:=bH n0 hy;have:=b k hk;unfold sC at this;simp only[aht,ahv] at this;exact this.1.1
def MF (hv:aX s=true)(id:Int):qZ [] (R8 s.bK id)=de (occs s.bK id):=by
 refine Fl _ ?_ λe he=>?_
 ·unfold R8;rw[ajr];refine⟨λt ht=>?_,(Ho hv).imp λ{a b} hab x hx y hy=>?_⟩
  ·rw[ahY];exact List.pairwise_of_forall λ_ _=>Int.le_refl _
  ·obtain⟨_,_,rfl⟩:=ahl.1 hx;obtain⟨_,_,rfl⟩:=ahl.1 hy;exact hab
 ·unfold R8 at he;obtain⟨t,ht,he⟩:=ah1.1 he;obtain⟨p,hp,rfl⟩:=ahl.1 he;obtain⟨a,b,c,d⟩:=Oj hv ht;obtain⟨v1,v2,v3⟩:=cU c;have:=(v3 p (ahF.1 hp).1).1;refine⟨a.1,a.2,?_⟩;intro h;rw[List.map_eq_nil_iff] at h;exact absurd h (by simpa using this)
end
def kb (z:Wz):Wz:={ z with ws:=jA z.ws }
def qq (l:List Wd):(jA l).length=l.length:=ajq _
def SL {l:List Wz}{k:Nat}(hk:k<l.length)(r:List AV)(d:Wz):((ny l++r).drop (k*2)).take 2=[.int .i64 (l.getD k d).f,gv (l.getD k d).ws.length (l.getD k d).i (l.getD k d).cap]:=by
 have h:=lr l;rw[aju (by omega),air (by rw[ah4];omega)];exact fW BC l k d hk
attribute [-simp] getD_eq_getElem?_getD in
def ZN (H:List az)(T:au)(b1 bo bm nd Rb vi vk nz zi zc:Nat)(N:Nat)(R:List (Nat×az))(J:List az)(U:au)(D1 D2:List Dz)(id:Int)(yE zg:List Wz)(z:Wz)(rest:List AV)(ns:List Nm)(tk:Nat)
  (hS:DS H T R bo N J U (D1++⟨id,yE++z::zg,zi,zc,rest,ns,tk⟩::D2)) (hN:N<=1099511627776) (hk:vk=yE.length) (hnz:nz=yE.length+1+zg.length) (hne:z.ws≠[]) (hT:z.ws.Pairwise λx y=>x.2≠y.2) (wL:b1<J.length) (Nq:bm<J.length) (hp:Rb<J.length) (Q:Exit->St->Prop)
  (go:∀(e:Env)(J':List az),(bJ J' U->DS H T R bo N J' U (D1++⟨id,yE++kb z::zg,zi,zc,rest,ns,tk⟩::D2))->J.length<=J'.length->
   bu J'.length U.length e [(1,.ptr b1 0),(3,.bG bo nd nd),(4,.aP bm),(173,.cK bo 0 nd),(174,.int .i64 (nd:Nat)),(175,.int .i64 (vi:Nat)),(22,.ptr Rb 0),(180,.cK zi 0 nz),(181,.int .i64 (nz:Nat)),(182,.int .i64 (vk:Nat))]->Q .normal ⟨e,J',U⟩) :
  AW ⟨prog,192,190,H.length,T.length,[100100,100131]⟩ (dY [1,1,1,1,1,1,1,0,1,0,0,1,1,0,0,1,1,0,0,1,1,0,0] (Tryz.f88.body.getD .skip)) Q ⟨[(1,.ptr b1 0),(3,.bG bo nd nd),(4,.aP bm),(173,.cK bo 0 nd),(174,.int .i64 (nd:Nat)),(175,.int .i64 (vi:Nat)),(22,.ptr Rb 0),(180,.cK zi 0 nz),(181,.int .i64 (nz:Nat)),(182,.int .i64 (vk:Nat))],J,U⟩:=by
 conv=>arg 2;whnf
 have gz:=hS.hJ.get (i:=zi) (b:=.cells (ny (yE++z::zg)++rest)) (by simp[Dz.bx,gb]);have lz:=(ahh.1 gz).1;have ez:=aW gz;have lo:=hS.hJ.lt (i:=bo) (b:=.cells (fE (D1++⟨id,yE++z::zg,zi,zc,rest,ns,tk⟩::D2))) (by simp);have lH:=hS.pJ.le;have lT:=hS.pU.le;have hcut:=SL (l:=yE++z::zg) (k:=vk) (by simp;omega) rest z;have UN:(yE++z::zg).getD vk z=z:=by rw[hk,ahg,ahC (by omega),aiH];rfl
 rw[UN] at hcut;have zm:(ny (yE++z::zg)++rest).length=nz*2+rest.length:=by rw[ahk,lr];simp;omega
 have RQ:vk<nz:=by omega
 have hz:=(hS.hD ⟨id,yE++z::zg,zi,zc,rest,ns,tk⟩ (by simp)).w z (by simp);have sr:z.ws.length≠0:=λh=>hne (ah3.1 h);simp only[gv,ahq sr] at hcut;refine ae λK hK=>?_;simp(disch:=omega)[ez,zm,hcut];apply hK;have hlz:z.i<J.length:=hS.hJ.lt (b:=.cells (dR z.ws++z.rest)) (by simp[Dz.bx,Wz.bx,gb,hne]);have rv:bJ (J++[.cells [.int .i64 z.f,.bG z.i z.ws.length z.cap]]) U:=hS.ok.snoc (by intro v hv;simp at hv;rcases hv with rfl|rfl<;>first|exact .int _ _|exact .bG _ _ _ (by omega));have hS2:=hS.new _ rv;have Kv:(J++[az.cells [.int .i64 z.f,.bG z.i z.ws.length z.cap]]).length=J.length+1:=by simp
 obtain⟨p24,h24⟩:∃i,i=J.length:=⟨_,rfl⟩
 rw[<-h24] at hS2;simp only[<-h24];generalize J++[az.cells [.int .i64 z.f,.bG z.i z.ws.length z.cap]]=J1 at *;have g24:=hS2.hJ.get (i:=p24) (b:=.cells [.int .i64 z.f,.bG z.i z.ws.length z.cap]) (by simp);have l24:=(ahh.1 g24).1;have e24:=aW g24;have gi:=hS2.hJ.get (i:=z.i) (b:=.cells (dR z.ws++z.rest)) (by simp[Dz.bx,Wz.bx,gb,hne]);have cs:=λU=>Lr z.ws hne hT z.rest z.i z.cap (by have:=hz.1;omega) J1 U gi;have hdr:fE (D1++⟨id,yE++kb z::zg,zi,zc,rest,ns,tk⟩::D2)=fE (D1++⟨id,yE++z::zg,zi,zc,rest,ns,tk⟩::D2):=by simp[fE]
 have Rg:ny (yE++kb z::zg)=ny (yE++z::zg):=by simp[ny,kb,qq]
 have CH:∀y:Wz,y.ws≠[]->Dz.bx ⟨id,yE++y::zg,zi,zc,rest,ns,tk⟩=(zi,.cells (ny (yE++y::zg)++rest))::(yE.flatMap Wz.bx++((y.i,.cells (dR y.ws++y.rest))::zg.flatMap Wz.bx)):=λy hy=>by simp[Dz.bx,gb,Wz.bx,hy]
 have zy:=Has.set (A:=(p24,.cells [.int .i64 z.f,.bG z.i z.ws.length z.cap])::(R++(bo,.cells (fE (D1++⟨id,yE++z::zg,zi,zc,rest,ns,tk⟩::D2)))::(D1.flatMap Dz.bx++((zi,.cells (ny (yE++z::zg)++rest))::yE.flatMap Wz.bx)))) (B:=zg.flatMap Wz.bx++D2.flatMap Dz.bx) (b:=.cells (dR z.ws++z.rest)) (by
  have:=hS2.hJ;rw[ahZ,ahy,CH z hne] at this;simpa using this) (.cells (dR (jA z.ws)++z.rest))
 refine aB λK hK=>?_;simp(disch:=omega)[e24];refine ak (cs _) ?_;simp(disch:=omega) ;apply hK;refine go _ _ (λho=>⟨?_,?_,?_,hS2.pJ.set (hz.2 sr).2.2 _,hS2.pU,ho⟩) (by simp;omega) (by simp;omega)
 ·rw[ahZ,ahy,CH (kb z) (λh=>hne ((nk _).1 h)),hdr,Rg];rw[ajv] at zy;have h5:=zy.sub (aih _ _);simpa[kb] using h5
 ·simpa[Dz.tx] using hS2.hU
 ·intro x hx;rcases ahw.1 hx with hx|hx
  ·exact hS2.hD x (by simp[hx])
  rcases ahL.1 hx with rfl|hx
  ·have hd:=hS2.hD ⟨id,yE++z::zg,zi,zc,rest,ns,tk⟩ (by simp);refine⟨by simpa using hd.z,λy hy=>?_,hd.n⟩;rcases ahw.1 hy with hy|hy
   ·exact hd.w y (by simp[hy])
   rcases ahL.1 hy with rfl|hy
   ·have:=hd.w z (by simp);exact⟨by simpa[kb,qq] using this.1,λh=>by
     have:=this.2 (by simpa[kb,qq] using h);simpa[kb,qq] using this⟩
   ·exact hd.w y (by simp[hy])
  ·exact hS2.hD x (by simp[hx])
def sM (d:Dz):Dz:={ d with zs:=d.zs.map kb }
def Pz {l:List Wz}{k:Nat}(hk:k<l.length):∃z∈l,l.drop k=z::l.drop (k+1)/\l.take (k+1)=l.take k++[z]:=
 ⟨l[k],ahP _,(List.getElem_cons_drop ..).symm,by rw[List.take_append_getElem]⟩
attribute [-simp] getD_eq_getElem?_getD in
def aav (H:List az)(T:au)(b1 bo bm nd vi:Nat)(N:Nat)(R:List (Nat×az))(J:List az)(U:au)(D1 D2:List Dz)(d:Dz)
  (hS:DS H T R bo N J U (D1++d::D2)) (hN:N<=1099511627776) (hk:vi=D1.length) (mU:nd=D1.length+1+D2.length) (hW:∀z∈d.zs,z.ws≠[]/\z.ws.Pairwise λx y=>x.2≠y.2) (wL:b1<J.length) (Nq:bm<J.length) (Q:Exit->St->Prop)
  (go:∀(e:Env)(J':List az),DS H T R bo N J' U (D1++sM d::D2)->J.length<=J'.length->
   bu J'.length U.length e [(1,.ptr b1 0),(3,.bG bo nd nd),(4,.aP bm),(173,.cK bo 0 nd),(174,.int .i64 (nd:Nat)),(175,.int .i64 (vi:Nat))]->Q .normal ⟨e,J',U⟩) :
  AW ⟨prog,192,190,H.length,T.length,[100100,100131]⟩ (dY [1,1,1,1,1,1,1,0,1,0,0,1,1,0,0] (Tryz.f88.body.getD .skip)) Q ⟨[(1,.ptr b1 0),(3,.bG bo nd nd),(4,.aP bm),(173,.cK bo 0 nd),(174,.int .i64 (nd:Nat)),(175,.int .i64 (vi:Nat))],J,U⟩:=by
 conv=>arg 2;whnf
 have Nv:=hS.hJ.get (i:=bo) (b:=.cells (fE (D1++d::D2))) (by simp);have lo:=(ahh.1 Nv).1;have eo:=aW Nv;have lH:=hS.pJ.le;have lT:=hS.pU.le;have zp:(fE (D1++d::D2)).length=nd*3:=by rw[ly];simp;omega
 have hcut:((fE (D1++d::D2)).drop (vi*3)).take 3=d.row:=by
  have:=fW B9 (D1++d::D2) vi d (by simp;omega);rw[show (D1++d::D2).getD vi d=d by rw[hk,ahg,ahC (by omega),aiH];rfl] at this;exact this
 have hvn:vi<nd:=by omega
 have hd:=hS.hD d (by simp);simp only[Dz.row] at hcut;refine ae λK hK=>?_;simp(disch:=omega)[eo,zp,hcut];apply hK;refine dA λrv=>?_;simp only at rv;have hS2:=hS.new _ rv;have Kv:(J++[az.cells [AV.int .i64 d.id,gv d.zs.length d.i d.cap,ov d.ns d.tk]]).length=J.length+1:=by simp
 obtain⟨Rb,h22⟩:∃i,i=J.length:=⟨_,rfl⟩
 rw[<-h22] at hS2;simp only[<-h22];generalize J++[az.cells [AV.int .i64 d.id,gv d.zs.length d.i d.cap,ov d.ns d.tk]]=J1 at *;have g22:=hS2.hJ.get (i:=Rb) (b:=.cells [.int .i64 d.id,gv d.zs.length d.i d.cap,ov d.ns d.tk]) (by simp);have l22:=(ahh.1 g22).1;have e22:=aW g22;obtain⟨id,zs,i,cap,rest,ns,tk⟩:=d;simp only at e22 hW
 by_cases hz:zs=[]
 ·subst hz;simp only[gv,aiB,ai1] at e22;refine ae λK hK=>?_;simp(disch:=omega)[e22];apply hK;apply aj;refine aI (X:=Unit) (λ_=>⟨[(1,.ptr b1 0),(3,.bG bo nd nd),(4,.aP bm),(173,.cK bo 0 nd),(174,.int .i64 (nd:Nat)),(175,.int .i64 (vi:Nat)),(180,.sl 0 [] .none),(181,.int .i64 0),(182,.int .i64 0)],J1,U⟩) (λ_=>True) (λ_=>0) () ?_ ?_ ?_
  ·trivial
  ·refine ag [] [] ?_ ?_ ?_ ?_ rv ?_
   all_goals simp
   all_goals omega
  ·rintro⟨⟩ -;apply ae;intro K Z;simp(disch:=omega);apply Z;refine af λK2 bc=>?_;apply aD rfl;apply aF;simp(disch:=omega) ;refine go _ J1 ((hS2.sub (by simp))) (by omega) ?_;simp;omega
 have zm:zs.length≠0:=λh=>hz (ah3.1 h);simp only[gv,ahq zm] at e22;have hq:=hd.z.1;simp only at hq;have XH:i<J1.length:=hS2.hJ.lt (b:=.cells (ny zs++rest)) (by simp[Dz.bx,gb,hz]);refine ae λK hK=>?_;simp(disch:=omega)[e22];apply hK;apply aj;refine aI (X:=Nat×List az) (λx=>⟨[(1,.ptr b1 0),(3,.bG bo nd nd),(4,.aP bm),(173,.cK bo 0 nd),(174,.int .i64 (nd:Nat)),(175,.int .i64 (vi:Nat)),(22,.ptr Rb 0),(180,.cK i 0 zs.length),(181,.int .i64 (zs.length:Nat)),(182,.int .i64 (x.1:Nat))],x.2,U⟩)
  (λx=>x.1<=zs.length/\DS H T ((Rb,.cells [.int .i64 id,.bG i zs.length cap,ov ns tk])::R) bo N x.2 U (D1++⟨id,(zs.take x.1).map kb++zs.drop x.1,i,cap,rest,ns,tk⟩::D2)/\J1.length<=x.2.length) (λx=>zs.length-x.1) (0,J1) ?_ ?_ ?_
 ·exact⟨ahu _,by simpa[gv,zm] using hS2,ahj _⟩
 ·refine ag [] [] ?_ ?_ ?_ ?_ rv ?_
  all_goals simp
  all_goals omega
 ·rintro⟨k,J2⟩ ⟨k1,k2,k3⟩;simp only at k1 k2 k3;have Ni:=k2.pJ.le;have Rf:=k2.pU.le;apply ae;intro K Z;simp(disch:=omega);apply Z;refine af λK2 bc=>?_;refine aT rfl (λgI=>?_) (λgI=>?_)
  ·simp  at gI;apply aq;simp(disch:=omega) ;apply bc;clear bc;refine af λK3 bD=>?_;apply aj;refine aH ⟨[(1,.ptr b1 0),(3,.bG bo nd nd),(4,.aP bm),(173,.cK bo 0 nd),(174,.int .i64 (nd:Nat)),(175,.int .i64 (vi:Nat)),(22,.ptr Rb 0),(180,.cK i 0 zs.length),(181,.int .i64 (zs.length:Nat)),(182,.int .i64 (k:Nat))],J2,U⟩ (ag [] [] (by simp) (by simp) (by show H.length<=_;omega) (by show T.length<=_;omega) k2.ok (by simp;omega)) ?_;obtain⟨z,UF,hdk,aeI⟩:=Pz gI;rw[hdk] at k2;have hlen:((zs.take k).map kb).length=k:=by simp;omega
   refine ZN H T b1 bo bm nd Rb vi k zs.length i cap N _ J2 U D1 D2 id _ _ z rest ns tk k2 hN hlen.symm (by rw[hlen,ah4];omega) (hW z UF).1 (hW z UF).2 (by omega) (by omega) (by omega) _ λe J' a1 a2 a3=>?_;refine bD _ (dA λBd=>?_);replace a1:=a1 Bd;have Kf:=a1.pJ.le;have Ke:=a1.pU.le;refine aH ⟨[(1,.ptr b1 0),(3,.bG bo nd nd),(4,.aP bm),(173,.cK bo 0 nd),(174,.int .i64 (nd:Nat)),(175,.int .i64 (vi:Nat)),(22,.ptr Rb 0),(180,.cK i 0 zs.length),(181,.int .i64 (zs.length:Nat)),(182,.int .i64 (k:Nat))],J',U⟩ (ag [] [] (by simp) (by simp) (by show H.length<=_;omega) (by show T.length<=_;omega) a1.ok a3) ?_;clear bD;have iH:(zs.take (k+1)).map kb++zs.drop (k+1)=(zs.take k).map kb++kb z::zs.drop (k+1):=by
    rw[aeI];simp
   refine aB λK hK=>?_;simp(disch:=omega) ;apply hK;refine⟨(k+1,J'),⟨by show k+1<=_;omega,by show DS _ _ _ _ _ _ _ (D1++⟨id,(zs.take (k+1)).map kb++zs.drop (k+1),i,cap,rest,ns,tk⟩::D2);rw[iH];exact a1,by show J1.length<=J'.length;omega⟩,by show zs.length-(k+1)<zs.length-k;omega,?_⟩;refine ag [] [] ?_ ?_ ?_ ?_ a1.ok ?_
   all_goals simp
   all_goals omega
  ·simp  at gI;have hkk:k=zs.length:=by omega
   subst hkk;apply aF;simp(disch:=omega) ;rw[ahE,aim,ahH] at k2;refine go _ J2 (k2.sub (by simp)) (by omega) ?_;simp;omega
end Go.Proofs.YtoejlmpbebjemaaGreat
