/- segment.Documents (layer 39): documents, while they are gathered; an append to a list that grows in a box. segment.Documents (layer 39): one posting. segment.Documents (layer 39): the postings of the terms. segment.Documents (layer 39): the terms, the columns. The documents of a segment (layer 39), in plain lists. segment.Documents (layer 39): the words are sorted.
   Conditions: as the theorems say. -/
import Derived.Test.YtneohapkboaplaaGreatGV
set_option linter.all false
set_option maxRecDepth 100000
set_option maxHeartbeats 16000000
open Nat (le_succ zero_le le_refl sub_self add_mul)
open List (getD_eq_getElem?_getD mem_append_left length_append getElem?_append_right flatMap_cons append_assoc length_singleton map_append map_congr_left take_length flatMap_append map_map foldl_cons nil_append length_drop map_cons)
namespace Go.Proofs.YtneohapkboaplaaGreat
open Go Go.Am eJ
def gv (n i cap:Nat):AV:=if n=0 then .sl 0 [] .full else .bJ i n cap
def gb (n i:Nat)(cs:List AV):List (Nat×aA):=if n=0 then [] else [(i,.cells cs)]
structure Wz where
 f:Int
 ws:List Wd
 i:Nat
 cap:Nat
 rest:List AV
abbrev Wz.row (z:Wz):List AV:=[.int .i64 z.f,gv z.ws.length z.i z.cap]
def Wz.bx (z:Wz):List (Nat×aA):=gb z.ws.length z.i (cJ z.ws++z.rest)
def lM (l:List Wz):List AV:=l.flatMap Wz.row
theorem yL:eC Wz.row 2:=fun _=>rfl
theorem jP (l:List Wz):(lM l).length=l.length*2:=b9 yL l
def Wz.zn (z:Wz):Zn:=⟨z.f,z.ws⟩
structure Dz where
 id:Int
 zs:List Wz
 i:Nat
 cap:Nat
 rest:List AV
 ns:List Nm
 tk:Nat
def ov (ns:List Nm)(tk:Nat):AV:=if ns=[] then .sl 0 [] .full else .sl ns.length (aU ns) (.own tk)
abbrev Dz.row (d:Dz):List AV:=[.int .i64 d.id,gv d.zs.length d.i d.cap,ov d.ns d.tk]
def Dz.bx (d:Dz):List (Nat×aA):=gb d.zs.length d.i (lM d.zs++d.rest)++d.zs.flatMap Wz.bx
def Dz.tx (d:Dz):List (Nat×(Nat×Nat)):=if d.ns=[] then [] else [(d.tk,(d.ns.length*2,2))]
def eD (l:List Dz):List AV:=l.flatMap Dz.row
theorem yY:eC Dz.row 3:=fun _=>rfl
theorem jR (l:List Dz):(eD l).length=l.length*3:=b9 yY l
def Dz.dc (d:Dz):Dc:=⟨d.id,d.zs.map Wz.zn,d.ns⟩
def S4 (nb N n i cap z:Nat)(rest:List AV):Prop:=n≤N∧(n≠0→rest.length=(cap-n)*z∧n≤cap∧nb≤i)
structure Gj (nb tb N:Nat)(d:Dz):Prop where
 z:S4 nb N d.zs.length d.i d.cap 2 d.rest
 w:∀z∈d.zs,S4 nb N z.ws.length z.i z.cap 2 z.rest
 n:d.ns.length≤N∧(d.ns≠[]→tb≤d.tk)
theorem S4.more {nb N M n i cap z:Nat}{rest:List AV}(h:S4 nb N n i cap z rest)(hm:N≤M):S4 nb M n i cap z rest:=⟨Nat.le_trans h.1 hm,h.2⟩
theorem Gj.more {nb tb N M:Nat}{d:Dz}(h:Gj nb tb N d)(hm:N≤M):Gj nb tb M d:=⟨h.z.more hm,fun z hz=>(h.w z hz).more hm,⟨Nat.le_trans h.n.1 hm,h.n.2⟩⟩
structure DS (H:List aA)(T:ar)(R:List (Nat×aA))(bo N:Nat)(J:List aA)(U:ar)(D:List Dz):Prop where
 hJ:Has J (R++(bo,.cells (eD D))::D.flatMap Dz.bx)
 hU:Has U (D.flatMap Dz.tx)
 hD:∀d∈D,Gj H.length T.length N d
 pJ:eT H J
 pU:eT T U
 ok:bC J U
theorem DS.more {H:List aA}{T:ar}{R:List (Nat×aA)}{bo N M:Nat}{J:List aA}{U:ar}{D:List Dz}(h:DS H T R bo N J U D)(hm:N≤M):DS H T R bo M J U D:=⟨h.hJ,h.hU,fun d hd=>(h.hD d hd).more hm,h.pJ,h.pU,h.ok⟩
theorem DS.sub {H:List aA}{T:ar}{R R':List (Nat×aA)}{bo N:Nat}{J:List aA}{U:ar}{D:List Dz}(h:DS H T R bo N J U D)(hs:R'.Sublist R):DS H T R' bo N J U D:=⟨h.hJ.sub (hs.append_right _),h.hU,h.hD,h.pJ,h.pU,h.ok⟩
theorem DS.new {H:List aA}{T:ar}{R:List (Nat×aA)}{bo N:Nat}{J:List aA}{U:ar}{D:List Dz}(h:DS H T R bo N J U D)(b:aA)(ho:bC (J++[b]) U):DS H T ((J.length,b)::R) bo N (J++[b]) U D:=
 ⟨(h.hJ.new b).perm (List.perm_append_singleton _ _).symm,h.hU,h.hD,h.pJ.app _,h.pU,ho⟩
theorem C7 {D1 D2:List Dz}(d:Dz):(eD (D1++d::D2)).getD (D1.length*3) .top=.int .i64 d.id∧(eD (D1++d::D2)).getD (D1.length*3+1) .top=gv d.zs.length d.i d.cap∧(eD (D1++d::D2)).getD (D1.length*3+2) .top=ov d.ns d.tk:=by
 have h:=jR D1;have e:eD (D1++d::D2)=eD D1++(d.row++eD D2):=by simp[eD]
 rw[e];refine⟨?_,?_,?_⟩
 ·rw[getD_eq_getElem?_getD,getElem?_append_right (by omega),h,sub_self];rfl
 ·rw[getD_eq_getElem?_getD,getElem?_append_right (by omega),h,show D1.length*3+1-D1.length*3=1 by omega];rfl
 ·rw[getD_eq_getElem?_getD,getElem?_append_right (by omega),h,show D1.length*3+2-D1.length*3=2 by omega];rfl
theorem Fm {D1 D2:List Dz}(d:Dz)(v:AV):(eD (D1++d::D2)).set (D1.length*3+1) v=eD D1++([.int .i64 d.id,v,ov d.ns d.tk]++eD D2)∧(eD (D1++d::D2)).set (D1.length*3+2) v=eD D1++([.int .i64 d.id,gv d.zs.length d.i d.cap,v]++eD D2):=by
 have h:=jR D1;have e:eD (D1++d::D2)=eD D1++(d.row++eD D2):=by simp[eD]
 rw[e]
 constructor
 ·rw[List.set_append_right _ _ (by omega),h,show D1.length*3+1-D1.length*3=1 by omega];rfl
 ·rw[List.set_append_right _ _ (by omega),h,show D1.length*3+2-D1.length*3=2 by omega];rfl
theorem JM (l:List Wz)(z:Wz)(r:List AV):(lM (l++[z])++r).getD (l.length*2) .top=.int .i64 z.f∧(lM (l++[z])++r).getD (l.length*2+1) .top=gv z.ws.length z.i z.cap:=by
 have h:=jP l;have e:lM (l++[z])++r=lM l++(z.row++r):=by simp[lM]
 rw[e];refine⟨?_,?_⟩
 ·rw[getD_eq_getElem?_getD,getElem?_append_right (by omega),h,sub_self];rfl
 ·rw[getD_eq_getElem?_getD,getElem?_append_right (by omega),h,show l.length*2+1-l.length*2=1 by omega];rfl
theorem Nb (l:List Wz)(z:Wz)(r:List AV)(v:AV):(lM (l++[z])++r).set (l.length*2+1) v=lM l++([.int .i64 z.f,v]++r):=by
 have h:=jP l;have e:lM (l++[z])++r=lM l++(z.row++r):=by simp[lM]
 rw[e,List.set_append_right _ _ (by omega),h,show l.length*2+1-l.length*2=1 by omega];rfl
theorem grow {C:Cx}{o:Oper}{e:Env}{J:List aA}{U:ar}{κ:AV→List aA→ar→Prop}{t t2 el:TypeId}{n i cap z:Nat}{rows row rest:List AV}{x:AV}{A B:List (Nat×aA)}{H:List aA}
  (h0:n=0→jD C.P C.bx o e J=some (1,row,z)) (h1:n≠0→jD C.P C.bx o e J=none∧qv o e=some (t,t2,i,n,cap,x))
  (ht:C.P.underlying t=some (.slice el)) (hz:C.P.cellsOf el=z) (hx:n≠0→fN J z x=some (1,row)) (hb:(n+1)*C.P.bytesOf el≤140737488355328) (hn:n+1≤9223372036854775807) (hi:iS C.P t2=true) (ha:(br C.P el).isSome=true)
  (hr:rows.length=n*z) (hJ:Has J (A++(gb n i (rows++rest)++B))) (hg:n≠0→rest.length=(cap-n)*z∧n≤cap∧H.length≤i) (hP:eT H J)
  (k:∀(i2 fk:Nat)(dm:List AV)(J2:List aA),Has J2 (A++((i2,.cells (rows++(row++dm)))::B))→eT H J2→J.length≤J2.length→dm.length=(fk-(n+1))*z→n+1≤fk→H.length≤i2→κ (.bJ i2 (n+1) fk) J2 U):fF C o e J U κ:=by
 unfold fF;have RE:=hP.le;rcases Nat.eq_zero_or_pos n with rfl|hp
 ·rw[h0 rfl];simp only;intro nc kT;have Es:rows=[]:=List.length_eq_zero_iff.1 (by omega);subst Es;refine k J.length nc (List.replicate ((nc-1)*z) .top) _ ?_ (hP.app _) (by simp) (by simp) kT RE;have:=hJ.new (.cells (row++List.replicate ((nc-1)*z) .top));simp only[gb,if_pos,nil_append] at this;refine this.perm ?_;rw[append_assoc];exact(List.perm_append_singleton _ _).symm.append_left _
 ·obtain⟨a1,a2⟩:=h1 (by omega);obtain⟨g1,g2,g3⟩:=hg (by omega);rw[a1,a2];simp only;have Cq:n≠0:=by omega
  simp only[gb,if_neg Cq,List.singleton_append] at hJ;have gi:=hJ.get (i:=i) (b:=.cells (rows++rest)) (by simp);have eN:(rows++rest).take (n*z)=rows:=List.take_left' hr;have oH:(rows++rest).drop ((n+1)*z)=rest.drop z:=by
   rw[List.drop_append,List.drop_of_length_le (by rw[hr,add_mul];omega),nil_append,hr]
   congr 1;rw[add_mul];omega
  refine⟨el,_,row,1,ht,gi,by rw[length_append,hr,g1,hz,←add_mul];congr 1;omega,by rw[hz];exact hx Cq,hb,hn,hi,ha,fun hle=>?_,fun nc aZ kT=>?_⟩
  ·rw[hz,eN,oH,append_assoc];refine k i cap (rest.drop z) _ ?_ (hP.set g3 _) (by simp) ?_ hle g3
   ·exact Has.set hJ _
   ·rw[length_drop,g1,←Nat.sub_one_mul];congr 1
  ·rw[hz,eN,append_assoc];refine k J.length nc (List.replicate ((nc-(n+1))*z) .top) _ ?_ (hP.app _) (by simp) (by simp) kT RE;have h2:Has J (A++B):=hJ.sub (List.Sublist.append_left (List.sublist_cons_self _ _) _);refine(h2.new _).perm ?_;rw[append_assoc];exact(List.perm_append_singleton _ _).symm.append_left _
open iF
def FB (zs:List Zn)(f:Int):List Zn:=match zs.getLast? with
 |some z=>if z.f=f then zs else zs++[⟨f,[]⟩]
 |none=>[⟨f,[]⟩]
theorem AN (l:List Zn)(z:Zn)(f:Int):FB (l++[z]) f=if z.f=f then l++[z] else (l++[z])++[⟨f,[]⟩]:=by
 simp[FB]
theorem TW (H : List aA) (T : ar) (ts : List Tm) (l : List Ps) (vi vj b1 bo bm nd p8 tH : Nat) (N : Nat) (f : Int) (w : Bs) (lv : AV) (R : List (Nat × aA)) (J : List aA) (U : ar) (D1 D2 : List Dz) (d : Dz)
    (hS : DS H T R bo N J U (D1 ++ d :: D2)) (hN : N ≤ 1099511627776) (oI : b1 < J.length) (My : bm < J.length) (yk : H.length ≤ bo) (aak : tH < J.length) (h8 : (p8, .cells [.int .i64 f, .str w, lv]) ∈ R) (Q : Exit → St → Prop)
    (go : ∀ (e : Env) (J' : List aA) (d' : Dz) (zs : List Wz) (z : Wz), DS H T R bo (N + 1) J' U (D1 ++ d' :: D2) → J.length ≤ J'.length → d'.id = d.id → d'.ns = d.ns → d'.zs = zs ++ [z] → z.f = f → d'.dc.zs = FB d.dc.zs f →
      bt J'.length U.length e [(1, .ptr b1 0), (3, .bJ bo nd nd), (4, .aO bm), (51, .sl ts.length (bO ts) .none), (52, .int .i64 (ts.length : Nat)), (53, .int .i64 (vi : Nat)), (8, .ptr p8 0), (58, .sl l.length (bp l) .none), (59, .int .i64 (l.length : Nat)), (60, .int .i64 (vj : Nat)), (10, .ptr tH 0), (11, .ptr bo (D1.length * 3)), (13, .ptr d'.i (zs.length * 2))] → AW ⟨Tryz.prog, 192, 190, H.length, T.length, [100100, 100131]⟩ (du [1, 1, 1, 1, 1, 0, 1, 0, 0, 1, 1, 0, 0, 1, 1, 0, 0, 1, 1, 0, 0, 1, 1, 1, 1] (Tryz.f40.body.getD .skip)) Q ⟨e, J', U⟩) :
    AW ⟨Tryz.prog, 192, 190, H.length, T.length, [100100, 100131]⟩ (du [1, 1, 1, 1, 1, 0, 1, 0, 0, 1, 1, 0, 0, 1, 1, 0, 0, 1, 1, 0, 0, 1, 1] (Tryz.f40.body.getD .skip)) Q ⟨[(1, .ptr b1 0), (3, .bJ bo nd nd), (4, .aO bm), (51, .sl ts.length (bO ts) .none), (52, .int .i64 (ts.length : Nat)), (53, .int .i64 (vi : Nat)), (8, .ptr p8 0), (58, .sl l.length (bp l) .none), (59, .int .i64 (l.length : Nat)), (60, .int .i64 (vj : Nat)), (10, .ptr tH 0), (11, .ptr bo (D1.length * 3))], J, U⟩ := by
  conv => arg 2; whnf
  have g8 := hS.hJ.get (mem_append_left _ h8);have IK := hS.hJ.get (i := bo) (b := .cells (eD (D1 ++ d :: D2))) (by simp);have l8 := (List.getElem?_eq_some_iff.1 g8).1;have lo := (List.getElem?_eq_some_iff.1 IK).1;have e8 := aV g8;have eo := aV IK;have lH := hS.pJ.le;have lT := hS.pU.le;obtain ⟨r1, r2, r3⟩ := C7 (D1 := D1) (D2 := D2) d;have Cp : (eD (D1 ++ d :: D2)).length = (D1.length + 1 + D2.length) * 3 := by rw [jR]; simp; omega
  have pn := fun v => (Fm (D1 := D1) (D2 := D2) d v).1;obtain ⟨id, zs, i, cap, rest, ns, tk⟩ := d;simp only at r1 r2 r3 pn;have iG := hS.hD ⟨id, zs, i, cap, rest, ns, tk⟩ (by simp);obtain ⟨⟨z1, z2⟩, z3, z4⟩ := iG;simp only at z1 z2 z3 z4;refine af fun K1 aQ => ?_;have fin : ∀ (e : Env) (J2 : List aA) (Fz : List Wz) (z : Wz) (i2 fk : Nat) (dm : List AV), (bC J2 U → DS H T R bo (N + 1) J2 U (D1 ++ ⟨id, Fz ++ [z], i2, fk, dm, ns, tk⟩ :: D2)) → J.length ≤ J2.length → z.f = f → (Fz ++ [z]).map Wz.zn = FB (zs.map Wz.zn) f →
      bt J2.length U.length e [(1, .ptr b1 0), (3, .bJ bo nd nd), (4, .aO bm), (51, .sl ts.length (bO ts) .none), (52, .int .i64 (ts.length : Nat)), (53, .int .i64 (vi : Nat)), (8, .ptr p8 0), (58, .sl l.length (bp l) .none), (59, .int .i64 (l.length : Nat)), (60, .int .i64 (vj : Nat)), (10, .ptr tH 0), (11, .ptr bo (D1.length * 3))] → K1 ⟨e, J2, U⟩ := by
    intro e J2 Fz z i2 fk dm ja iD hzf lq he;refine aQ _ ?_; clear aQ;refine cZ fun dy => ?_;replace ja := ja dy;refine aH ⟨[(1, .ptr b1 0), (3, .bJ bo nd nd), (4, .aO bm), (51, .sl ts.length (bO ts) .none), (52, .int .i64 (ts.length : Nat)), (53, .int .i64 (vi : Nat)), (8, .ptr p8 0), (58, .sl l.length (bp l) .none), (59, .int .i64 (l.length : Nat)), (60, .int .i64 (vj : Nat)), (10, .ptr tH 0), (11, .ptr bo (D1.length * 3))], J2, U⟩ (ag [] [] (by simp) (by simp) (by show H.length ≤ _; omega) (by show T.length ≤ _; omega) ja.ok he) ?_;have g2 := ja.hJ.get (i := bo) (b := .cells (eD (D1 ++ ⟨id, Fz ++ [z], i2, fk, dm, ns, tk⟩ :: D2))) (by simp);have l2 := (List.getElem?_eq_some_iff.1 g2).1;have e2 := aV g2;obtain ⟨s1, s2, s3⟩ := C7 (D1 := D1) (D2 := D2) ⟨id, Fz ++ [z], i2, fk, dm, ns, tk⟩;simp only [gv, length_append, length_singleton, Nat.succ_ne_zero, if_false] at s2;have we : (eD (D1 ++ ⟨id, Fz ++ [z], i2, fk, dm, ns, tk⟩ :: D2)).length = (D1.length + 1 + D2.length) * 3 := by rw [jR]; simp; omega
    have gz := ja.hJ.get (i := i2) (b := .cells (lM (Fz ++ [z]) ++ dm)) (by simp [Dz.bx, gb]);have lz := (List.getElem?_eq_some_iff.1 gz).1;have ez := aV gz;have vR : (lM (Fz ++ [z]) ++ dm).length = (Fz.length + 1) * 2 + dm.length := by rw [length_append, jP, length_append, length_singleton]
    have hzn : Fz.length + 1 ≤ N + 1 := by
      have := (ja.hD ⟨id, Fz ++ [z], i2, fk, dm, ns, tk⟩ (by simp)).z.1;simpa using this
    refine aI [] [] [] al (by kernel_rfl) (by kernel_rfl) fun K hK => ?_; simp (maxSteps := 1000000) (disch := omega) [-getD_eq_getElem?_getD, e2, s2, we];refine hK _ ?_;refine go _ _ ⟨id, Fz ++ [z], i2, fk, dm, ns, tk⟩ Fz z ja iD rfl rfl rfl hzf lq ?_;simp;omega
  have push : FB (zs.map Wz.zn) f = zs.map Wz.zn ++ [⟨f, []⟩] → ∀ (Q' : Exit → St → Prop), (∀ s, K1 s → Q' .normal s) → ∀ e : Env, bt J.length U.length e [(1, .ptr b1 0), (3, .bJ bo nd nd), (4, .aO bm), (51, .sl ts.length (bO ts) .none), (52, .int .i64 (ts.length : Nat)), (53, .int .i64 (vi : Nat)), (8, .ptr p8 0), (58, .sl l.length (bp l) .none), (59, .int .i64 (l.length : Nat)), (60, .int .i64 (vj : Nat)), (10, .ptr tH 0), (11, .ptr bo (D1.length * 3))] → AW ⟨Tryz.prog, 192, 190, H.length, T.length, [100100, 100131]⟩ (du [1, 1, 1, 1, 1, 0, 1, 0, 0, 1, 1, 0, 0, 1, 1, 0, 0, 1, 1, 0, 0, 1, 1, 0, 1, 1, 0] (Tryz.f40.body.getD .skip)) Q' ⟨e, J, U⟩ := by
    intro lq Q' hQ e he
    conv => arg 2; whnf
    refine aH ⟨[(1, .ptr b1 0), (3, .bJ bo nd nd), (4, .aO bm), (51, .sl ts.length (bO ts) .none), (52, .int .i64 (ts.length : Nat)), (53, .int .i64 (vi : Nat)), (8, .ptr p8 0), (58, .sl l.length (bp l) .none), (59, .int .i64 (l.length : Nat)), (60, .int .i64 (vj : Nat)), (10, .ptr tH 0), (11, .ptr bo (D1.length * 3))], J, U⟩ (ag [] [] (by simp) (by simp) (by show H.length ≤ _; omega) (by show T.length ≤ _; omega) hS.ok he) ?_;refine o8 9 [9, 12] [0, 0, 0, 0, 0, 0, 0, 0, 0, 0, 1, 1, 1] [[0], []] al (by kernel_rfl) (by kernel_rfl) (by kernel_rfl) fun K hK => ?_;simp (maxSteps := 1000000) (disch := omega) [-getD_eq_getElem?_getD, -fF, eo, e8, r2, Cp];have IJ : Has J ((R ++ (bo, .cells (eD (D1 ++ ⟨id, zs, i, cap, rest, ns, tk⟩ :: D2))) :: D1.flatMap Dz.bx) ++ (gb zs.length i (lM zs ++ rest) ++ (zs.flatMap Wz.bx ++ D2.flatMap Dz.bx))) := by simpa [Dz.bx] using hS.hJ
    refine grow (t := 63) (t2 := 63) (el := 98) (z := 2) (row := [.int .i64 f, .sl 0 [] .full]) (x := .sl 1 [.int .i64 f, .sl 0 [] .full] .full) (fun h => by simp [gv, h]) (fun h => by simp [gv, h]) (by kernel_rfl) (by kernel_rfl) (fun _ => by simp) ?_ ?_ (by kernel_rfl) (by kernel_rfl) (jP _) IJ z2 hS.pJ fun i2 fk dm J2 gL oJ iD mN jg dY => ?_
    · rw [show Tryz.prog.bytesOf 98 = 32 by kernel_rfl]; omega
    · omega
    have g2 := gL.get (i := bo) (b := .cells (eD (D1 ++ ⟨id, zs, i, cap, rest, ns, tk⟩ :: D2))) (by simp);have l2 := (List.getElem?_eq_some_iff.1 g2).1;have e2 := aV g2;simp (maxSteps := 1000000) (disch := omega) [-getD_eq_getElem?_getD, e2, Cp, pn];refine hK _ (hQ _ ?_);have oH : eD (D1 ++ ⟨id, zs ++ [⟨f, [], 0, 0, []⟩], i2, fk, dm, ns, tk⟩ :: D2) = eD D1 ++ AV.int .i64 id :: .bJ i2 (zs.length + 1) fk :: ov ns tk :: eD D2 := by simp [eD, gv]
    rw [← oH];refine fin _ _ zs ⟨f, [], 0, 0, []⟩ i2 fk dm (fun ho => ⟨?_, ?_, ?_, oJ.set yk _, hS.pU, ho⟩) (by simp; omega) rfl (by rw [lq]; simp [Wz.zn]) ?_
    · have zq : Dz.bx ⟨id, zs ++ [⟨f, [], 0, 0, []⟩], i2, fk, dm, ns, tk⟩ = (i2, .cells (lM zs ++ ([.int .i64 f, .sl 0 [] .full] ++ dm))) :: zs.flatMap Wz.bx := by simp [Dz.bx, gb, lM, Wz.bx, gv]
      have := Has.set (A := R) (B := D1.flatMap Dz.bx ++ ((i2, .cells (lM zs ++ ([.int .i64 f, .sl 0 [] .full] ++ dm))) :: (zs.flatMap Wz.bx ++ D2.flatMap Dz.bx))) (by simpa using gL) (.cells (eD (D1 ++ ⟨id, zs ++ [⟨f, [], 0, 0, []⟩], i2, fk, dm, ns, tk⟩ :: D2)));rw [flatMap_append, flatMap_cons, zq];simpa using this
    · simpa [Dz.tx] using hS.hU
    · intro x hx;rcases List.mem_append.1 hx with hx | hx
      · exact (hS.hD x (by simp [hx])).more (le_succ _)
      rcases List.mem_cons.1 hx with rfl | hx
      · refine ⟨⟨by simp; omega, fun _ => by simpa using ⟨mN, jg, dY⟩⟩, fun z hz => ?_, ⟨by show ns.length ≤ _; omega, z4.2⟩⟩;rcases List.mem_append.1 hz with hz | hz
        · exact (z3 z hz).more (le_succ _)
        · obtain rfl := List.mem_singleton.1 hz;exact ⟨zero_le _, fun h => absurd rfl h⟩
      · exact (hS.hD x (by simp [hx])).more (le_succ _)
    · simp; omega
  rcases List.eq_nil_or_concat zs with hz | ⟨Ou, z0, hz⟩
  · subst hz;simp only [gv, List.length_nil, if_true] at r2;refine ae fun K hK => ?_; simp (maxSteps := 1000000) (disch := omega) [-getD_eq_getElem?_getD, eo, r2, Cp]; refine hK _ ?_; clear hK K;refine aI [] [] [] al (by kernel_rfl) (by kernel_rfl) fun K hK => ?_; simp (maxSteps := 1000000) (disch := omega) [-getD_eq_getElem?_getD, eo, r2, Cp];refine hK _ ?_; clear hK K;refine aN rfl (fun h => ?_) (fun h => absurd h (by simp));refine push (by simp [FB]) _ (fun s h => ?_) _ ?_
    · exact h
    · simp; omega
  · rw [List.concat_eq_append] at hz;subst hz;simp only [gv, length_append, length_singleton, Nat.succ_ne_zero, if_false] at r2;have gz := hS.hJ.get (i := i) (b := .cells (lM (Ou ++ [z0]) ++ rest)) (by simp [Dz.bx, gb]);have lz := (List.getElem?_eq_some_iff.1 gz).1;have ez := aV gz;have vR : (lM (Ou ++ [z0]) ++ rest).length = (Ou.length + 1) * 2 + rest.length := by rw [length_append, jP, length_append, length_singleton]
    obtain ⟨y1, y2⟩ := JM Ou z0 rest;have z1q : Ou.length + 1 ≤ N := by simpa using z1
    have bn : (((Ou.length : Int) + 1) == 0) = false := beq_eq_false_iff_ne.2 (by omega);have S8 : ¬ ((Ou.length : Int) + 1) = 0 := by omega
    by_cases hf : z0.f = f
    · have bd : (z0.f != f) = false := by simpa using hf
      refine ae fun K hK => ?_; simp (maxSteps := 1000000) (disch := omega) [-getD_eq_getElem?_getD, eo, r2, Cp]; refine hK _ ?_; clear hK K;refine aI [] [] [] al (by kernel_rfl) (by kernel_rfl) fun K hK => ?_; simp (maxSteps := 1000000) (disch := omega) [-getD_eq_getElem?_getD, eo, e8, r2, Cp, bn, S8, ez, vR, y1, bd];refine hK _ ?_; clear hK K;refine aN rfl (fun h => absurd h (by simp)) (fun h => ?_);apply ai; simp (maxSteps := 1000000) (disch := omega) [-getD_eq_getElem?_getD];refine fin _ _ Ou z0 i cap rest (fun ho => hS.more (le_succ _)) (le_refl _) hf ?_ ?_
      · rw [map_append, List.map_singleton, AN, if_pos (show z0.zn.f = f from hf)]
      · simp; omega
    · have bd : (z0.f != f) = true := by simpa using hf
      refine ae fun K hK => ?_; simp (maxSteps := 1000000) (disch := omega) [-getD_eq_getElem?_getD, eo, r2, Cp]; refine hK _ ?_; clear hK K;refine aI [] [] [] al (by kernel_rfl) (by kernel_rfl) fun K hK => ?_; simp (maxSteps := 1000000) (disch := omega) [-getD_eq_getElem?_getD, eo, e8, r2, Cp, bn, S8, ez, vR, y1, bd];refine hK _ ?_; clear hK K;refine aN rfl (fun h => ?_) (fun h => absurd h (by simp));refine push ?_ _ (fun s h => ?_) _ ?_
      · rw [map_append, List.map_singleton, AN, if_neg (show ¬ z0.zn.f = f from hf)]
      · exact h
      · simp; omega
attribute [-simp] getD_eq_getElem?_getD in
theorem TZ (H:List aA)(T:ar)(ts:List Tm)(l:List Ps)(vi vj b1 bo bm nd p8 tH:Nat)(N:Nat)(f a:Int)(w:Bs)(lv:AV)(at_:List Int)(vk:Nat)(R:List (Nat×aA))(J:List aA)(U:ar)(D1 D2:List Dz)(d:Dz)(zs:List Wz)(z:Wz)
  (hS:DS H T R bo N J U (D1++d::D2)) (hz:d.zs=zs++[z]) (hN:N≤1099511627776) (Ey:at_.length≤1000) (hvk:vk<at_.length) (oI:b1<J.length) (My:bm<J.length) (aak:tH<J.length) (h8:(p8,.cells [.int .i64 f,.str w,lv])∈R) (Q:Exit→St→Prop)
  (go:∀(e:Env)(J':List aA)(d':Dz)(z':Wz),(bC J' U→DS H T R bo (N+1) J' U (D1++d'::D2))→J.length≤J'.length→d'.id=d.id→d'.ns=d.ns→d'.zs=zs++[z']→d'.i=d.i→z'.f=z.f→z'.ws=z.ws++[(w,at_.getD vk 0)]→
   bt J'.length U.length e [(1,.ptr b1 0),(3,.bJ bo nd nd),(4,.aO bm),(51,.sl ts.length (bO ts) .none),(52,.int .i64 (ts.length:Nat)),(53,.int .i64 (vi:Nat)),(8,.ptr p8 0),(58,.sl l.length (bp l) .none),(59,.int .i64 (l.length:Nat)),(60,.int .i64 (vj:Nat)),(10,.ptr tH 0),(11,.ptr bo (D1.length*3)),(13,.ptr d.i (zs.length*2)),(115,.sl at_.length (ints at_) .none),(116,.int .i64 (at_.length:Nat)),(117,.int .i64 (vk:Nat))]→Q .normal ⟨e,J',U⟩) :
  AW ⟨Tryz.prog,192,190,H.length,T.length,[100100,100131]⟩ (du [1,1,1,1,1,0,1,0,0,1,1,0,0,1,1,0,0,1,1,0,0,1,1,1,1,1,0,0,1,1,0,0] (Tryz.f40.body.getD .skip)) Q ⟨[(1,.ptr b1 0),(3,.bJ bo nd nd),(4,.aO bm),(51,.sl ts.length (bO ts) .none),(52,.int .i64 (ts.length:Nat)),(53,.int .i64 (vi:Nat)),(8,.ptr p8 0),(58,.sl l.length (bp l) .none),(59,.int .i64 (l.length:Nat)),(60,.int .i64 (vj:Nat)),(10,.ptr tH 0),(11,.ptr bo (D1.length*3)),(13,.ptr d.i (zs.length*2)),(115,.sl at_.length (ints at_) .none),(116,.int .i64 (at_.length:Nat)),(117,.int .i64 (vk:Nat))],J,U⟩:=by
 conv=>arg 2;whnf
 have aca:vk<(ints at_).length:=by simpa using hvk
 have Zx:=aS (xs:=at_) (k:=vk) hvk;generalize at_.getD vk 0=p at *;obtain⟨id,vJ,i,cap,rest,ns,tk⟩:=d;simp only at hz;subst hz;have g8:=hS.hJ.get (mem_append_left _ h8);have IK:=hS.hJ.get (i:=bo) (b:=.cells (eD (D1++⟨id,zs++[z],i,cap,rest,ns,tk⟩::D2))) (by simp);have gz:=hS.hJ.get (i:=i) (b:=.cells (lM (zs++[z])++rest)) (by simp[Dz.bx,gb]);have l8:=(List.getElem?_eq_some_iff.1 g8).1;have lo:=(List.getElem?_eq_some_iff.1 IK).1;have lz:=(List.getElem?_eq_some_iff.1 gz).1;have e8:=aV g8;have ez:=aV gz;have lH:=hS.pJ.le;have lT:=hS.pU.le;have vR:(lM (zs++[z])++rest).length=(zs.length+1)*2+rest.length:=by rw[length_append,jP,length_append,length_singleton]
 obtain⟨y1,y2⟩:=JM zs z rest;have pn:=fun v=>Nb zs z rest v;obtain⟨⟨z1,z2⟩,z3,z4⟩:=hS.hD ⟨id,zs++[z],i,cap,rest,ns,tk⟩ (by simp);simp only at z1 z2 z3 z4;obtain⟨q1,q2⟩:=z3 z (by simp);obtain⟨zf,ws,zi,zc,zr⟩:=z;simp only at q1 q2 y1 y2 pn;refine ae fun K hK=>?_;simp(disch:=omega)[Zx];apply hK;clear hK K;refine o8 10 [10,13] [0,0,0,0,0,0,0,0,0,0,0,1,1,1] [[0],[]] al (by kernel_rfl) (by kernel_rfl) (by kernel_rfl) fun K hK=>?_;simp(disch:=omega)[-fF,e8,ez,y2,vR];have IJ:Has J ((R++(bo,.cells (eD (D1++⟨id,zs++[⟨zf,ws,zi,zc,zr⟩],i,cap,rest,ns,tk⟩::D2)))::(D1.flatMap Dz.bx++((i,.cells (lM (zs++[⟨zf,ws,zi,zc,zr⟩])++rest))::zs.flatMap Wz.bx)))++(gb ws.length zi (cJ ws++zr)++D2.flatMap Dz.bx)):=by simpa[Dz.bx,gb,Wz.bx] using hS.hJ
 refine grow (t:=61) (t2:=61) (el:=71) (z:=2) (row:=[.str w,.int .i64 p]) (x:=.sl 1 [.str w,.int .i64 p] .full) (fun h=>by simp[gv,h]) (fun h=>by simp[gv,h]) (by kernel_rfl) (by kernel_rfl) (fun _=>by simp) ?_ ?_ (by kernel_rfl) (by kernel_rfl) (dV _) IJ q2 hS.pJ fun i2 fk dm J2 gL oJ iD mN jg dY=>?_
 ·rw[show Tryz.prog.bytesOf 71=24 by kernel_rfl];omega
 ·omega
 have g2:=gL.get (i:=i) (b:=.cells (lM (zs++[⟨zf,ws,zi,zc,zr⟩])++rest)) (by simp);have l2:=(List.getElem?_eq_some_iff.1 g2).1;have e2:=aV g2;simp(disch:=omega)[e2,vR,pn];refine hK _ ?_;have Co:lM zs++AV.int IntKind.i64 zf::AV.bJ i2 (ws.length+1) fk::rest=lM (zs++[⟨zf,ws++[(w,p)],i2,fk,dm⟩])++rest:=by simp[lM,gv]
 rw[Co];refine go _ _ ⟨id,zs++[⟨zf,ws++[(w,p)],i2,fk,dm⟩],i,cap,rest,ns,tk⟩ ⟨zf,ws++[(w,p)],i2,fk,dm⟩ (fun ho=>⟨?_,?_,?_,oJ.set ?_ _,hS.pU,ho⟩) (by simp;omega) rfl rfl rfl rfl rfl rfl ?_
 ·have zq:Dz.bx ⟨id,zs++[⟨zf,ws++[(w,p)],i2,fk,dm⟩],i,cap,rest,ns,tk⟩=(i,.cells (lM (zs++[⟨zf,ws++[(w,p)],i2,fk,dm⟩])++rest))::(zs.flatMap Wz.bx++[(i2,.cells (cJ ws++([.str w,.int .i64 p]++dm)))]):=by
   simp[Dz.bx,gb,Wz.bx,←Gt]
  have oH:eD (D1++⟨id,zs++[⟨zf,ws++[(w,p)],i2,fk,dm⟩],i,cap,rest,ns,tk⟩::D2)=eD (D1++⟨id,zs++[⟨zf,ws,zi,zc,zr⟩],i,cap,rest,ns,tk⟩::D2):=by simp[eD]
  have:=Has.set (A:=R++(bo,.cells (eD (D1++⟨id,zs++[⟨zf,ws,zi,zc,zr⟩],i,cap,rest,ns,tk⟩::D2)))::D1.flatMap Dz.bx) (B:=zs.flatMap Wz.bx++((i2,.cells (cJ ws++([.str w,.int .i64 p]++dm)))::D2.flatMap Dz.bx)) (by simpa using gL) (.cells (lM (zs++[⟨zf,ws++[(w,p)],i2,fk,dm⟩])++rest));rw[flatMap_append,flatMap_cons,zq,oH];simpa using this
 ·simpa[Dz.tx] using hS.hU
 ·intro x hx;rcases List.mem_append.1 hx with hx|hx
  ·exact(hS.hD x (by simp[hx])).more (le_succ _)
  rcases List.mem_cons.1 hx with rfl|hx
  ·refine⟨⟨by simp at z1 ⊢;omega,fun _=>by simpa using z2 (by simp)⟩,fun y hy=>?_,⟨by show ns.length≤_;omega,z4.2⟩⟩;rcases List.mem_append.1 hy with hy|hy
   ·exact(z3 y (by simp[hy])).more (le_succ _)
   ·obtain rfl:=List.mem_singleton.1 hy;exact⟨by simp;omega,fun h=>by simpa using⟨mN,jg,dY⟩⟩
  ·exact(hS.hD x (by simp[hx])).more (le_succ _)
 ·exact(z2 (by simp)).2.2
 ·simp;omega
def uq (zs:List Zn)(f:Int)(ws:List Wd):List Zn:=match (FB zs f).getLast? with
 |some z=>(FB zs f).dropLast++[⟨z.f,z.ws++ws⟩]
 |none=>[]
theorem On {zs l:List Zn}{f:Int}{z:Zn}(h:FB zs f=l++[z])(ws:List Wd):uq zs f ws=l++[⟨z.f,z.ws++ws⟩]:=by
 unfold uq;rw[h];simp
def aaZ (f:Int)(ws:List Wd)(d:Dc):Dc:={ d with zs:=uq d.zs f ws }
def Qs (x:Nm)(d:Dc):Dc:={ d with ns:=d.ns++[x] }
def FW (L:List Dc)(id:Int)(g:Dc→Dc):List Dc:=L.map fun d=>if d.id=id then g d else d
def wM (f:Int)(w:Bs)(L:List Dc)(p:Ps):List Dc:=FW L p.1 (aaZ f (p.2.map fun a=>(w,a)))
def stepT (L:List Dc)(t:Tm):List Dc:=t.l.foldl (wM t.f t.w) L
def wO (f:Int)(L:List Dc)(x:Nm):List Dc:=FW L x.2 (Qs (f,x.1))
def zW (L:List Dc)(c:Cl):List Dc:=c.x.foldl (wO c.f) L
theorem mG {α β:Type}(g:β→α→β)(l:List α)(b:β)(d:α)(j:Nat)(h:j<l.length):(l.take (j+1)).foldl g b=g ((l.take j).foldl g b) (l.getD j d):=by
 rw[bf l j d h,List.foldl_append];rfl
theorem Av {D1 D2:List Dz}{d d':Dz}{g:Dc→Dc}(hn:((D1++d::D2).map (·.id)).Nodup)(hg:d'.dc=g d.dc):(D1++d'::D2).map Dz.dc=FW ((D1++d::D2).map Dz.dc) d.id g:=by
 rw[map_append,map_cons,List.nodup_append,List.nodup_cons] at hn;obtain⟨_,⟨n1,_⟩,n2⟩:=hn;have e1:∀x∈D1,(if x.dc.id=d.id then g x.dc else x.dc)=x.dc:=fun x hx=>if_neg fun h=>n2 x.id (List.mem_map.2 ⟨x,hx,rfl⟩) d.id (by simp) h;have e2:∀x∈D2,(if x.dc.id=d.id then g x.dc else x.dc)=x.dc:=fun x hx=>if_neg fun h=>n1 (List.mem_map.2 ⟨x,hx,h⟩);unfold FW;rw[map_map,map_append,map_append,map_cons,map_cons]
 congr 1
 ·exact map_congr_left fun x hx=>(e1 x hx).symm
 ·congr 1
  ·show d'.dc=if d.dc.id=d.id then g d.dc else d.dc
   rw[if_pos (show d.dc.id=d.id from rfl),hg]
  ·exact map_congr_left fun x hx=>(e2 x hx).symm
def fR (ids:List Int):List (cN×AV):=(List.range ids.length).map fun k=>(jI (ids.getD k 0),.int .i64 (k:Nat))
theorem rY (ids:List Int):(fR ids).map (·.1)=ids.map jI:=by
 unfold fR;apply List.ext_getElem
 ·simp
 ·intro i h1 h2;simp at h1;simp[getD_eq_getElem?_getD,List.getElem?_eq_getElem h1]
theorem AT {ids:List Int}(hn:ids.Nodup){k:Nat}(hk:k<ids.length):gS (fR ids) (.one (.int .i64 (ids.getD k 0))) (.int .i64 0) false=.int .i64 (k:Nat):=by
 have Zq:((fR ids).map (·.1)).Nodup:=by rw[rY];exact lY (fun a b iZ=>oj.1 iZ) hn
 have hj:k<(fR ids).length:=by simpa[fR] using hk
 have he:(fR ids)[k]'hj=(jI (ids.getD k 0),.int .i64 (k:Nat)):=by simp[fR]
 unfold gS;rw[show (cN.one (.int .i64 (ids.getD k 0)):cN)=jI (ids.getD k 0) from rfl,tO Zq hj (by rw[he]),he];rfl
theorem Qo {ids:List Int}(h:∀i∈ids,1≤i∧i≤1000000000):cW Tryz.prog 3 (fR ids)=true:=by
 unfold cW;rw[List.all_eq_true];intro x hx;have:x.1∈(fR ids).map (·.1):=List.mem_map.2 ⟨x,hx,rfl⟩;rw[rY] at this;obtain⟨i,hi,e⟩:=List.mem_map.1 this;rw[←e];have:=h i hi;exact Gd i (by omega)
attribute [-simp] getD_eq_getElem?_getD in
theorem KN (H:List aA)(T:ar)(ts:List Tm)(l:List Ps)(vi vj b1 bo bm nd p8 tH:Nat)(N:Nat)(f id:Int)(w:Bs)(lv:AV)(at_:List Int)(R:List (Nat×aA))(J:List aA)(U:ar)(D1 D2:List Dz)(d:Dz)(zs:List Wz)(z:Wz)
  (hS:DS H T R bo N J U (D1++d::D2)) (hz:d.zs=zs++[z]) (hN:N+at_.length≤1099511627776) (Ey:at_.length≤1000) (oI:b1<J.length) (My:bm<J.length) (h8:(p8,.cells [.int .i64 f,.str w,lv])∈R) (I0:(tH,.cells [.int .i64 id,.sl at_.length (ints at_) .none])∈R) (Q:Exit→St→Prop)
  (go:∀(e:Env)(J':List aA)(d':Dz)(z':Wz),DS H T R bo (N+at_.length) J' U (D1++d'::D2)→J.length≤J'.length→d'.id=d.id→d'.ns=d.ns→d'.zs=zs++[z']→z'.f=z.f→z'.ws=z.ws++at_.map (fun a=>(w,a))→
   bt J'.length U.length e [(1,.ptr b1 0),(3,.bJ bo nd nd),(4,.aO bm),(51,.sl ts.length (bO ts) .none),(52,.int .i64 (ts.length:Nat)),(53,.int .i64 (vi:Nat)),(8,.ptr p8 0),(58,.sl l.length (bp l) .none),(59,.int .i64 (l.length:Nat)),(60,.int .i64 (vj:Nat))]→Q .normal ⟨e,J',U⟩) :
  AW ⟨Tryz.prog,192,190,H.length,T.length,[100100,100131]⟩ (du [1,1,1,1,1,0,1,0,0,1,1,0,0,1,1,0,0,1,1,0,0,1,1,1,1] (Tryz.f40.body.getD .skip)) Q ⟨[(1,.ptr b1 0),(3,.bJ bo nd nd),(4,.aO bm),(51,.sl ts.length (bO ts) .none),(52,.int .i64 (ts.length:Nat)),(53,.int .i64 (vi:Nat)),(8,.ptr p8 0),(58,.sl l.length (bp l) .none),(59,.int .i64 (l.length:Nat)),(60,.int .i64 (vj:Nat)),(10,.ptr tH 0),(11,.ptr bo (D1.length*3)),(13,.ptr d.i (zs.length*2))],J,U⟩:=by
 conv=>arg 2;whnf
 have g10:=hS.hJ.get (mem_append_left _ I0);have l10:=(List.getElem?_eq_some_iff.1 g10).1;have S7:=aV g10;have lo:=hS.hJ.lt (i:=bo) (b:=.cells (eD (D1++d::D2))) (by simp);have l8:=hS.hJ.lt (mem_append_left _ h8);have lH:=hS.pJ.le;have lT:=hS.pU.le;have ldi:d.i<J.length:=hS.hJ.lt (b:=.cells (lM d.zs++d.rest)) (by simp[Dz.bx,gb,hz]);refine ae fun K hK=>?_;simp(disch:=omega)[S7];apply hK;clear hK K;apply ah;refine aG (X:=Nat×List aA×Dz×Wz) (fun x=>⟨[(1,.ptr b1 0),(3,.bJ bo nd nd),(4,.aO bm),(51,.sl ts.length (bO ts) .none),(52,.int .i64 (ts.length:Nat)),(53,.int .i64 (vi:Nat)),(8,.ptr p8 0),(58,.sl l.length (bp l) .none),(59,.int .i64 (l.length:Nat)),(60,.int .i64 (vj:Nat)),(10,.ptr tH 0),(11,.ptr bo (D1.length*3)),(13,.ptr d.i (zs.length*2)),(115,.sl at_.length (ints at_) .none),(116,.int .i64 (at_.length:Nat)),(117,.int .i64 (x.1:Nat))],x.2.1,U⟩)
  (fun x=>x.1≤at_.length∧DS H T R bo (N+x.1) x.2.1 U (D1++x.2.2.1::D2)∧J.length≤x.2.1.length∧(x.2.2.1.id=d.id∧x.2.2.1.ns=d.ns∧x.2.2.1.i=d.i)∧x.2.2.1.zs=zs++[x.2.2.2]∧x.2.2.2.f=z.f∧x.2.2.2.ws=z.ws++(at_.take x.1).map (fun a=>(w,a))) (fun x=>at_.length-x.1) (0,J,d,z) ?_ ?_ ?_
 ·exact⟨zero_le _,hS,le_refl _,⟨rfl,rfl,rfl⟩,hz,rfl,by simp⟩
 ·refine ag [] [] ?_ ?_ ?_ ?_ hS.ok ?_
  all_goals simp
  all_goals omega
 ·rintro⟨k,J2,d2,z2⟩ ⟨k1,k2,k3,⟨k4,k5,k6⟩,k7,k8,k9⟩;simp only at k1 k2 k3 k4 k5 k6 k7 k8 k9;have Iv:=k2.pJ.le;have LX:=k2.pU.le;apply ae;intro K h;simp(disch:=omega);apply h;clear h K;refine af fun K2 aW=>?_;refine aN rfl (fun fD=>?_) (fun fD=>?_)
  ·simp  at fD;apply ai;simp(disch:=omega) ;apply aW;clear aW;refine af fun K3 bz=>?_;apply ah;rw[←k6];refine aH ⟨[(1,.ptr b1 0),(3,.bJ bo nd nd),(4,.aO bm),(51,.sl ts.length (bO ts) .none),(52,.int .i64 (ts.length:Nat)),(53,.int .i64 (vi:Nat)),(8,.ptr p8 0),(58,.sl l.length (bp l) .none),(59,.int .i64 (l.length:Nat)),(60,.int .i64 (vj:Nat)),(10,.ptr tH 0),(11,.ptr bo (D1.length*3)),(13,.ptr d2.i (zs.length*2)),(115,.sl at_.length (ints at_) .none),(116,.int .i64 (at_.length:Nat)),(117,.int .i64 (k:Nat))],J2,U⟩ (ag [] [] (by simp) (by simp) (by show H.length≤_;omega) (by show T.length≤_;omega) k2.ok (by simp;omega)) ?_;refine TZ H T ts l vi vj b1 bo bm nd p8 tH (N+k) f (at_.getD k 0) w lv at_ k R J2 U D1 D2 d2 zs z2 k2 k7 (by omega) Ey fD (by omega) (by omega) (by omega) h8 _ fun e J' d' z' a1 a2 a3 a4 a5 a6 a7 a8 a9=>?_;refine bz _ (cZ fun nG=>?_);replace a1:=a1 nG;have FE:=a1.pJ.le;have FD:=a1.pU.le;refine aH ⟨[(1,.ptr b1 0),(3,.bJ bo nd nd),(4,.aO bm),(51,.sl ts.length (bO ts) .none),(52,.int .i64 (ts.length:Nat)),(53,.int .i64 (vi:Nat)),(8,.ptr p8 0),(58,.sl l.length (bp l) .none),(59,.int .i64 (l.length:Nat)),(60,.int .i64 (vj:Nat)),(10,.ptr tH 0),(11,.ptr bo (D1.length*3)),(13,.ptr d2.i (zs.length*2)),(115,.sl at_.length (ints at_) .none),(116,.int .i64 (at_.length:Nat)),(117,.int .i64 (k:Nat))],J',U⟩ (ag [] [] (by simp) (by simp) (by show H.length≤_;omega) (by show T.length≤_;omega) a1.ok a9) ?_;clear bz;refine au fun K hK=>?_;simp(disch:=omega) ;apply hK;clear hK K;refine⟨(k+1,J',d',z'),⟨by show k+1≤_;omega,a1,by show J.length≤J'.length;omega,⟨a3.trans k4,a4.trans k5,a6.trans k6⟩,a5,a7.trans k8,?_⟩,by show at_.length-(k+1)<at_.length-k;omega,?_⟩
   ·show z'.ws=z.ws++(at_.take (k+1)).map _;rw[a8,k9,bf at_ k 0 fD,map_append,append_assoc];rfl
   ·rw[←k6];refine ag [] [] ?_ ?_ ?_ ?_ a1.ok ?_
    all_goals simp
    all_goals omega
  ·simp  at fD;have pI:k=at_.length:=by omega
   subst pI;apply aC;simp(disch:=omega) ;rw[take_length] at k9;refine go _ J2 d2 z2 k2 k3 k4 k5 k7 k8 k9 ?_;simp;omega
theorem Ax {D:List Dz}{k:Nat}(hk:k<D.length):∃D1 d D2,D=D1++d::D2∧D1.length=k:=by
 refine⟨D.take k,D[k],D.drop (k+1),?_,by simp;omega⟩;rw[List.getElem_cons_drop,List.take_append_drop]
theorem Hg (H:List aA)(T:ar)(ts:List Tm)(l:List Ps)(vi vj b1 bo bm nd p8:Nat)(N:Nat)(f:Int)(w:Bs)(lv:AV)(ids:List Int)(R:List (Nat×aA))(J:List aA)(U:ar)(D:List Dz)
  (hS:DS H T R bo N J U D) (jM:D.map (·.id)=ids) (lr:ids.Nodup) (kL:∀i∈ids,1≤i∧i≤1000000000) (tz:nd=ids.length) (hk:vj<l.length) (wG:l.length≤1000) (ub:(l.getD vj p0).1∈ids) (CC:(l.getD vj p0).2.length≤400) (hN:N+401≤1099511627776) (oI:b1<J.length) (yk:H.length≤bo)
  (hm:(bm,.map (fR ids))∈R) (h8:(p8,.cells [.int .i64 f,.str w,lv])∈R) (Q:Exit→St→Prop)
  (go:∀(e:Env)(J':List aA)(D':List Dz),DS H T R bo (N+401) J' U D'→J.length≤J'.length→D'.map (·.id)=ids→D'.map Dz.dc=wM f w (D.map Dz.dc) (l.getD vj p0)→
   bt J'.length U.length e [(1,.ptr b1 0),(3,.bJ bo nd nd),(4,.aO bm),(51,.sl ts.length (bO ts) .none),(52,.int .i64 (ts.length:Nat)),(53,.int .i64 (vi:Nat)),(8,.ptr p8 0),(58,.sl l.length (bp l) .none),(59,.int .i64 (l.length:Nat)),(60,.int .i64 (vj:Nat))]→Q .normal ⟨e,J',U⟩) :
  AW ⟨Tryz.prog,192,190,H.length,T.length,[100100,100131]⟩ (du [1,1,1,1,1,0,1,0,0,1,1,0,0,1,1,0,0,1,1,0,0] (Tryz.f40.body.getD .skip)) Q ⟨[(1,.ptr b1 0),(3,.bJ bo nd nd),(4,.aO bm),(51,.sl ts.length (bO ts) .none),(52,.int .i64 (ts.length:Nat)),(53,.int .i64 (vi:Nat)),(8,.ptr p8 0),(58,.sl l.length (bp l) .none),(59,.int .i64 (l.length:Nat)),(60,.int .i64 (vj:Nat))],J,U⟩:=by
 conv=>arg 2;whnf
 have gm:=hS.hJ.get (mem_append_left _ hm);have lm:=(List.getElem?_eq_some_iff.1 gm).1;have l8:=hS.hJ.lt (mem_append_left _ h8);have lo:=hS.hJ.lt (i:=bo) (b:=.cells (eD D)) (by simp);have lH:=hS.pJ.le;have lT:=hS.pU.le;have bA:=jq l vj hk;generalize l.getD vj p0=p at *;obtain⟨pd,ps⟩:=p;simp only at bA ub CC go;have aaj:ps.length≤9223372036854775807:=by omega
 refine ae fun K hK=>?_;simp(disch:=omega)[-getD_eq_getElem?_getD,bA,aY];apply hK;clear hK K;have pH:bC (J++[.cells [.int .i64 pd,.sl ps.length (ints ps) .none]]) U:=hS.ok.snoc (by simp);have ja:=hS.new _ pH;have F3:(J++[aA.cells [.int .i64 pd,.sl ps.length (ints ps) .none]]).length=J.length+1:=by simp
 obtain⟨tH,I0⟩:∃i,i=J.length:=⟨_,rfl⟩
 rw[←I0] at ja;simp only[←I0];generalize J++[aA.cells [.int .i64 pd,.sl ps.length (ints ps) .none]]=J1 at *;obtain⟨k,gB,Px⟩:=bS 0 ub;have EB:D.length=ids.length:=by rw[←jM,List.length_map]
 obtain⟨D1,d,D2,hD,S1⟩:=Ax (D:=D) (k:=k) (by omega);have MR:d.id=pd:=by
  rw[←Px,←jM,hD,getD_eq_getElem?_getD,List.getElem?_map,getElem?_append_right (by omega),S1,sub_self];rfl
 subst hD;have g10:=ja.hJ.get (i:=tH) (b:=.cells [.int .i64 pd,.sl ps.length (ints ps) .none]) (by simp);have g2:=ja.hJ.get (i:=bm) (b:=.map (fR ids)) (by simp[hm]);have l10:=(List.getElem?_eq_some_iff.1 g10).1;have l2:=(List.getElem?_eq_some_iff.1 g2).1;have S7:=aV g10;have e2:=aV g2;have dH:=AT lr gB;rw[Px] at dH;have Mu:=Qo kL;have OD:=Gd pd (by have:=kL pd ub;omega);have jK:jI pd=.one (.int .i64 pd):=rfl;rw[jK] at OD;have Ru:k<nd:=by omega
 refine ae fun K hK=>?_;simp(disch:=omega)[-getD_eq_getElem?_getD,yT,S7,e2,dH,Mu,OD];apply hK;clear hK K;subst S1;refine aH ⟨[(1,.ptr b1 0),(3,.bJ bo nd nd),(4,.aO bm),(51,.sl ts.length (bO ts) .none),(52,.int .i64 (ts.length:Nat)),(53,.int .i64 (vi:Nat)),(8,.ptr p8 0),(58,.sl l.length (bp l) .none),(59,.int .i64 (l.length:Nat)),(60,.int .i64 (vj:Nat)),(10,.ptr tH 0),(11,.ptr bo (D1.length*3))],J1,U⟩ (ag [] [] (by simp) (by simp) (by show H.length≤_;omega) (by show T.length≤_;omega) ja.ok (by simp;omega)) ?_;refine TW H T ts l vi vj b1 bo bm nd p8 tH N f w lv _ J1 U D1 D2 d ja (by omega) (by omega) (by omega) yk (by omega) (by simp[h8]) Q fun e J' d' zs z c1 c2 c3 c4 c5 c6 c7 c8=>?_;have FE:=c1.pJ.le;have FD:=c1.pU.le;refine aH ⟨[(1,.ptr b1 0),(3,.bJ bo nd nd),(4,.aO bm),(51,.sl ts.length (bO ts) .none),(52,.int .i64 (ts.length:Nat)),(53,.int .i64 (vi:Nat)),(8,.ptr p8 0),(58,.sl l.length (bp l) .none),(59,.int .i64 (l.length:Nat)),(60,.int .i64 (vj:Nat)),(10,.ptr tH 0),(11,.ptr bo (D1.length*3)),(13,.ptr d'.i (zs.length*2))],J',U⟩ (ag [] [] (by simp) (by simp) (by show H.length≤_;omega) (by show T.length≤_;omega) c1.ok c8) ?_;refine KN H T ts l vi vj b1 bo bm nd p8 tH (N+1) f pd w lv ps _ J' U D1 D2 d' zs z c1 c5 (by omega) (by omega) (by omega) (by omega) (by simp[h8]) (by simp) Q fun e J2 d2 z2 q1 q2 q3 q4 q5 q6 q7 q8=>?_;refine go e J2 (D1++d2::D2) ((q1.more (by omega)).sub (by simp)) (by omega) ?_ ?_ q8
 ·rw[←jM];simp[q3,c3]
 ·unfold wM;simp only;rw[←MR];refine Av (by rw[jM];exact lr) ?_;have e1:=On (zs:=d.dc.zs) (l:=zs.map Wz.zn) (z:=z.zn) (f:=f) (by rw[←c7];simp[Dz.dc,c5]) (ps.map fun a=>(w,a));have e2:d2.dc.zs=zs.map Wz.zn++[⟨z.f,z.ws++ps.map fun a=>(w,a)⟩]:=by simp[Dz.dc,q5,Wz.zn,q6,q7]
  have e3:d2.dc=⟨d.id,d2.dc.zs,d.ns⟩:=by show (⟨d2.id,_,d2.ns⟩:Dc)=_;rw[q3,c3,q4,c4];rfl
  rw[e3,e2];show _=(⟨d.id,uq d.dc.zs f _,d.ns⟩:Dc);rw[e1];rfl
attribute [-simp] getD_eq_getElem?_getD in
theorem GC (H:List aA)(T:ar)(ts:List Tm)(vi b1 bo bm nd:Nat)(N:Nat)(ids:List Int)(R:List (Nat×aA))(J:List aA)(U:ar)(D:List Dz)
  (hS:DS H T R bo N J U D) (jM:D.map (·.id)=ids) (tz:nd=ids.length) (lr:ids.Nodup) (kL:∀i∈ids,1≤i∧i≤1000000000) (hk:vi<ts.length) (wG:(ts.getD vi t0).l.length≤400) (ub:∀p∈(ts.getD vi t0).l,p.1∈ids∧p.2.length≤400) (hN:N+160400≤1099511627776) (oI:b1<J.length) (yk:H.length≤bo)
  (hm:(bm,.map (fR ids))∈R) (Q:Exit→St→Prop)
  (go:∀(e:Env)(J':List aA)(D':List Dz),DS H T R bo (N+160400) J' U D'→J.length≤J'.length→D'.map (·.id)=ids→D'.map Dz.dc=stepT (D.map Dz.dc) (ts.getD vi t0)→
   bt J'.length U.length e [(1,.ptr b1 0),(3,.bJ bo nd nd),(4,.aO bm),(51,.sl ts.length (bO ts) .none),(52,.int .i64 (ts.length:Nat)),(53,.int .i64 (vi:Nat))]→Q .normal ⟨e,J',U⟩) :
  AW ⟨Tryz.prog,192,190,H.length,T.length,[100100,100131]⟩ (du [1,1,1,1,1,0,1,0,0,1,1,0,0] (Tryz.f40.body.getD .skip)) Q ⟨[(1,.ptr b1 0),(3,.bJ bo nd nd),(4,.aO bm),(51,.sl ts.length (bO ts) .none),(52,.int .i64 (ts.length:Nat)),(53,.int .i64 (vi:Nat))],J,U⟩:=by
 conv=>arg 2;whnf
 have lm:=hS.hJ.lt (mem_append_left _ hm);have lo:=hS.hJ.lt (i:=bo) (b:=.cells (eD D)) (by simp);have lH:=hS.pJ.le;have lT:=hS.pU.le;have bA:=gH ts vi hk;generalize ts.getD vi t0=t at *;obtain⟨f,w,l⟩:=t;simp only at bA wG ub go;have aap:l.length≤9223372036854775807:=by omega
 refine ae fun K hK=>?_;simp(disch:=omega)[bA,bU];apply hK;clear hK K;have pH:bC (J++[.cells [.int .i64 f,.str w,.sl l.length (bp l) .none]]) U:=hS.ok.snoc (by simp);have ja:=hS.new _ pH;have F3:(J++[aA.cells [.int .i64 f,.str w,.sl l.length (bp l) .none]]).length=J.length+1:=by simp
 obtain⟨p8,h8⟩:∃i,i=J.length:=⟨_,rfl⟩
 rw[←h8] at ja;simp only[←h8];generalize J++[aA.cells [.int .i64 f,.str w,.sl l.length (bp l) .none]]=J1 at *;have g8:=ja.hJ.get (i:=p8) (b:=.cells [.int .i64 f,.str w,.sl l.length (bp l) .none]) (by simp);have l8:=(List.getElem?_eq_some_iff.1 g8).1;have e8:=aV g8;refine ae fun K hK=>?_;simp(disch:=omega)[e8];apply hK;clear hK K;apply ah;refine aG (X:=Nat×List aA×List Dz) (fun x=>⟨[(1,.ptr b1 0),(3,.bJ bo nd nd),(4,.aO bm),(51,.sl ts.length (bO ts) .none),(52,.int .i64 (ts.length:Nat)),(53,.int .i64 (vi:Nat)),(8,.ptr p8 0),(58,.sl l.length (bp l) .none),(59,.int .i64 (l.length:Nat)),(60,.int .i64 (x.1:Nat))],x.2.1,U⟩)
  (fun x=>x.1≤l.length∧DS H T ((p8,.cells [.int .i64 f,.str w,.sl l.length (bp l) .none])::R) bo (N+401*x.1) x.2.1 U x.2.2∧J1.length≤x.2.1.length∧x.2.2.map (·.id)=ids∧x.2.2.map Dz.dc=(l.take x.1).foldl (wM f w) (D.map Dz.dc)) (fun x=>l.length-x.1) (0,J1,D) ?_ ?_ ?_
 ·exact⟨zero_le _,ja,le_refl _,jM,by simp⟩
 ·refine ag [] [] ?_ ?_ ?_ ?_ ja.ok ?_
  all_goals simp
  all_goals omega
 ·rintro⟨k,J2,D2⟩ ⟨k1,k2,k3,k4,k5⟩;simp only at k1 k2 k3 k4 k5;have Iv:=k2.pJ.le;have LX:=k2.pU.le;apply ae;intro K h;simp(disch:=omega);apply h;clear h K;refine af fun K2 aW=>?_;refine aN rfl (fun fD=>?_) (fun fD=>?_)
  ·simp  at fD;have hp:=ub _ (aR l k p0 fD);apply ai;simp(disch:=omega) ;apply aW;clear aW;refine af fun K3 bz=>?_;apply ah;refine aH ⟨[(1,.ptr b1 0),(3,.bJ bo nd nd),(4,.aO bm),(51,.sl ts.length (bO ts) .none),(52,.int .i64 (ts.length:Nat)),(53,.int .i64 (vi:Nat)),(8,.ptr p8 0),(58,.sl l.length (bp l) .none),(59,.int .i64 (l.length:Nat)),(60,.int .i64 (k:Nat))],J2,U⟩ (ag [] [] (by simp) (by simp) (by show H.length≤_;omega) (by show T.length≤_;omega) k2.ok (by simp;omega)) ?_;refine Hg H T ts l vi k b1 bo bm nd p8 (N+401*k) f w _ ids _ J2 U D2 k2 k4 lr kL tz fD (by omega) hp.1 hp.2 (by omega) (by omega) yk (by simp[hm]) (List.mem_cons_self ..) _ fun e J' D' a1 a2 a3 a4 a5=>?_;have FE:=a1.pJ.le;have FD:=a1.pU.le;refine bz _ (aH ⟨[(1,.ptr b1 0),(3,.bJ bo nd nd),(4,.aO bm),(51,.sl ts.length (bO ts) .none),(52,.int .i64 (ts.length:Nat)),(53,.int .i64 (vi:Nat)),(8,.ptr p8 0),(58,.sl l.length (bp l) .none),(59,.int .i64 (l.length:Nat)),(60,.int .i64 (k:Nat))],J',U⟩ (ag [] [] (by simp) (by simp) (by show H.length≤_;omega) (by show T.length≤_;omega) a1.ok a5) ?_);clear bz;refine au fun K hK=>?_;simp(disch:=omega) ;apply hK;clear hK K;refine⟨(k+1,J',D'),⟨by show k+1≤_;omega,a1.more (by omega),by show J1.length≤J'.length;omega,a3,?_⟩,by show l.length-(k+1)<l.length-k;omega,?_⟩
   ·show D'.map Dz.dc=(l.take (k+1)).foldl _ _;rw[mG _ _ _ p0 k fD,a4,k5]
   ·refine ag [] [] ?_ ?_ ?_ ?_ a1.ok ?_
    all_goals simp
    all_goals omega
  ·simp  at fD;have pI:k=l.length:=by omega
   subst pI;apply aC;simp(disch:=omega) ;rw[take_length] at k5;refine go _ J2 D2 ((k2.more (by omega)).sub (by simp)) (by omega) k4 k5 ?_;simp;omega
attribute [-simp] getD_eq_getElem?_getD in
theorem y6 (H:List aA)(T:ar)(s:Sg)(b1 bo bm nd:Nat)(N:Nat)(ids:List Int)(R:List (Nat×aA))(J:List aA)(U:ar)(D:List Dz)
  (hS:DS H T R bo N J U D) (jM:D.map (·.id)=ids) (tz:nd=ids.length) (lr:ids.Nodup) (kL:∀i∈ids,1≤i∧i≤1000000000) (hs:mh s) (ub:∀t∈s.aK,∀p∈t.l,p.1∈ids) (hN:N+160400000≤1099511627776) (h1:(b1,.cells (bH s))∈R) (yk:H.length≤bo)
  (hm:(bm,.map (fR ids))∈R) (Q:Exit→St→Prop)
  (go:∀(e:Env)(J':List aA)(D':List Dz),DS H T R bo (N+160400000) J' U D'→D'.map (·.id)=ids→D'.map Dz.dc=s.aK.foldl stepT (D.map Dz.dc)→
   bt J'.length U.length e [(1,.ptr b1 0),(3,.bJ bo nd nd),(4,.aO bm)]→AW ⟨Tryz.prog,192,190,H.length,T.length,[100100,100131]⟩ (du [1,1,1,1,1,1] (Tryz.f40.body.getD .skip)) Q ⟨e,J',U⟩) :
  AW ⟨Tryz.prog,192,190,H.length,T.length,[100100,100131]⟩ (du [1,1,1,1,1] (Tryz.f40.body.getD .skip)) Q ⟨[(1,.ptr b1 0),(3,.bJ bo nd nd),(4,.aO bm)],J,U⟩:=by
 conv=>arg 2;whnf
 have lm:=hS.hJ.lt (mem_append_left _ hm);have lo:=hS.hJ.lt (i:=bo) (b:=.cells (eD D)) (by simp);have g1:=hS.hJ.get (mem_append_left _ h1);have l1:=(List.getElem?_eq_some_iff.1 g1).1;have e1:=aV g1;have lH:=hS.pJ.le;have lT:=hS.pU.le;obtain⟨an,ts,aw⟩:=s;obtain⟨sd,st,sw,sc,sx⟩:=hs;simp only at e1 sd st sw sc sx ub go;have pg:ts.length≤9223372036854775807:=by omega
 refine af fun K1 aQ=>?_;refine ae fun K hK=>?_;simp(disch:=omega)[e1];apply hK;clear hK K;apply ah;refine aG (X:=Nat×List aA×List Dz) (fun x=>⟨[(1,.ptr b1 0),(3,.bJ bo nd nd),(4,.aO bm),(51,.sl ts.length (bO ts) .none),(52,.int .i64 (ts.length:Nat)),(53,.int .i64 (x.1:Nat))],x.2.1,U⟩)
  (fun x=>x.1≤ts.length∧DS H T R bo (N+160400*x.1) x.2.1 U x.2.2∧J.length≤x.2.1.length∧x.2.2.map (·.id)=ids∧x.2.2.map Dz.dc=(ts.take x.1).foldl stepT (D.map Dz.dc)) (fun x=>ts.length-x.1) (0,J,D) ?_ ?_ ?_
 ·exact⟨zero_le _,hS,le_refl _,jM,by simp⟩
 ·refine ag [] [] ?_ ?_ ?_ ?_ hS.ok ?_
  all_goals simp
  all_goals omega
 ·rintro⟨k,J2,D2⟩ ⟨k1,k2,k3,k4,k5⟩;simp only at k1 k2 k3 k4 k5;have Iv:=k2.pJ.le;have LX:=k2.pU.le;apply ae;intro K h;simp(disch:=omega);apply h;clear h K;refine af fun K2 aW=>?_;refine aN rfl (fun fD=>?_) (fun fD=>?_)
  ·simp  at fD;have Pp:=aR ts k t0 fD;have hw:=sw _ Pp;apply ai;simp(disch:=omega) ;apply aW;clear aW;refine af fun K3 bz=>?_;apply ah;refine aH ⟨[(1,.ptr b1 0),(3,.bJ bo nd nd),(4,.aO bm),(51,.sl ts.length (bO ts) .none),(52,.int .i64 (ts.length:Nat)),(53,.int .i64 (k:Nat))],J2,U⟩ (ag [] [] (by simp) (by simp) (by show H.length≤_;omega) (by show T.length≤_;omega) k2.ok (by simp;omega)) ?_;refine GC H T ts k b1 bo bm nd (N+160400*k) ids _ J2 U D2 k2 k4 tz lr kL fD hw.2.1 (fun p hp=>⟨ub _ Pp p hp,hw.2.2 p hp⟩) (by omega) (by omega) yk hm _ fun e J' D' a1 a2 a3 a4 a5=>?_;have FE:=a1.pJ.le;have FD:=a1.pU.le;refine bz _ (aH ⟨[(1,.ptr b1 0),(3,.bJ bo nd nd),(4,.aO bm),(51,.sl ts.length (bO ts) .none),(52,.int .i64 (ts.length:Nat)),(53,.int .i64 (k:Nat))],J',U⟩ (ag [] [] (by simp) (by simp) (by show H.length≤_;omega) (by show T.length≤_;omega) a1.ok a5) ?_);clear bz;refine au fun K hK=>?_;simp(disch:=omega) ;apply hK;clear hK K;refine⟨(k+1,J',D'),⟨by show k+1≤_;omega,a1.more (by omega),by show J.length≤J'.length;omega,a3,?_⟩,by show ts.length-(k+1)<ts.length-k;omega,?_⟩
   ·show D'.map Dz.dc=(ts.take (k+1)).foldl _ _;rw[mG _ _ _ t0 k fD,a4,k5]
   ·refine ag [] [] ?_ ?_ ?_ ?_ a1.ok ?_
    all_goals simp
    all_goals omega
  ·simp  at fD;have pI:k=ts.length:=by omega
   subst pI;apply aC;simp(disch:=omega) ;rw[take_length] at k5;apply aQ;clear aQ;refine go _ J2 D2 (k2.more (by omega)) k4 k5 ?_;simp;omega
attribute [-simp] getD_eq_getElem?_getD in
theorem HM (H:List aA)(T:ar)(aw:List Cl)(x:List Nm)(vi vk b1 bo bm nd vP:Nat)(N:Nat)(f:Int)(xv:AV)(ids:List Int)(R:List (Nat×aA))(J:List aA)(U:ar)(D:List Dz)
  (hS:DS H T R bo N J U D) (jM:D.map (·.id)=ids) (tz:nd=ids.length) (lr:ids.Nodup) (kL:∀i∈ids,1≤i∧i≤1000000000) (hk:vk<x.length) (wG:x.length≤1000) (ub:(x.getD vk n0).2∈ids) (hN:N+1≤1099511627776) (oI:b1<J.length) (yk:H.length≤bo)
  (hm:(bm,.map (fR ids))∈R) (OG:(vP,.cells [.int .i64 f,xv])∈R) (Q:Exit→St→Prop)
  (go:∀(e:Env)(J':List aA)(U':ar)(D':List Dz),(bC J' U'→DS H T R bo (N+1) J' U' D')→J.length≤J'.length→D'.map (·.id)=ids→D'.map Dz.dc=wO f (D.map Dz.dc) (x.getD vk n0)→
   bt J'.length U'.length e [(1,.ptr b1 0),(3,.bJ bo nd nd),(4,.aO bm),(138,.sl aw.length (cR aw) .none),(139,.int .i64 (aw.length:Nat)),(140,.int .i64 (vi:Nat)),(17,.ptr vP 0),(145,.sl x.length (aU x) .none),(146,.int .i64 (x.length:Nat)),(147,.int .i64 (vk:Nat))]→Q .normal ⟨e,J',U'⟩) :
  AW ⟨Tryz.prog,192,190,H.length,T.length,[100100,100131]⟩ (du [1,1,1,1,1,1,0,1,0,0,1,1,0,0,1,1,0,0,1,1,0,0] (Tryz.f40.body.getD .skip)) Q ⟨[(1,.ptr b1 0),(3,.bJ bo nd nd),(4,.aO bm),(138,.sl aw.length (cR aw) .none),(139,.int .i64 (aw.length:Nat)),(140,.int .i64 (vi:Nat)),(17,.ptr vP 0),(145,.sl x.length (aU x) .none),(146,.int .i64 (x.length:Nat)),(147,.int .i64 (vk:Nat))],J,U⟩:=by
 conv=>arg 2;whnf
 have lm:=hS.hJ.lt (mem_append_left _ hm);have l17:=hS.hJ.lt (mem_append_left _ OG);have lo:=hS.hJ.lt (i:=bo) (b:=.cells (eD D)) (by simp);have lH:=hS.pJ.le;have lT:=hS.pU.le;have bA:=eA x vk hk;generalize x.getD vk n0=y at *;obtain⟨yn,yd⟩:=y;simp only at bA ub go;refine ae fun K hK=>?_;simp(disch:=omega)[bA,bG];apply hK;clear hK K;have pH:bC (J++[.cells [.int .i64 yn,.int .i64 yd]]) U:=hS.ok.snoc (by simp);have ja:=hS.new _ pH;have F3:(J++[aA.cells [.int .i64 yn,.int .i64 yd]]).length=J.length+1:=by simp
 obtain⟨YY,h19⟩:∃i,i=J.length:=⟨_,rfl⟩
 rw[←h19] at ja;simp only[←h19];generalize J++[aA.cells [.int .i64 yn,.int .i64 yd]]=J1 at *;obtain⟨k,gB,Px⟩:=bS 0 ub;have EB:D.length=ids.length:=by rw[←jM,List.length_map]
 obtain⟨D1,d,D2,hD,S1⟩:=Ax (D:=D) (k:=k) (by omega);have MR:d.id=yd:=by
  rw[←Px,←jM,hD,getD_eq_getElem?_getD,List.getElem?_map,getElem?_append_right (by omega),S1,sub_self];rfl
 subst hD;have g19:=ja.hJ.get (i:=YY) (b:=.cells [.int .i64 yn,.int .i64 yd]) (by simp);have g17:=ja.hJ.get (i:=vP) (b:=.cells [.int .i64 f,xv]) (by simp[OG]);have g2:=ja.hJ.get (i:=bm) (b:=.map (fR ids)) (by simp[hm]);have IK:=ja.hJ.get (i:=bo) (b:=.cells (eD (D1++d::D2))) (by simp);have l19:=(List.getElem?_eq_some_iff.1 g19).1;have ab7:=(List.getElem?_eq_some_iff.1 g17).1;have l2:=(List.getElem?_eq_some_iff.1 g2).1;have lo':=(List.getElem?_eq_some_iff.1 IK).1;have ZW:=aV g19;have PJ:=aV g17;have e2:=aV g2;have eo:=aV IK;have dH:=AT lr gB;rw[Px] at dH;have Mu:=Qo kL;have OD:=Gd yd (by have:=kL yd ub;omega);have jK:jI yd=.one (.int .i64 yd):=rfl;rw[jK] at OD;have Ru:k<nd:=by omega
 refine ae fun K hK=>?_;simp(disch:=omega)[yT,ZW,e2,dH,Mu,OD];apply hK;clear hK K;subst S1;obtain⟨r1,r2,r3⟩:=C7 (D1:=D1) (D2:=D2) d;have Cp:(eD (D1++d::D2)).length=(D1.length+1+D2.length)*3:=by rw[jR];simp;omega
 have pn:=fun v=>(Fm (D1:=D1) (D2:=D2) d v).2;obtain⟨hz1,Co,hz3,Ze⟩:=ja.hD d (by simp);obtain⟨id,zs,i,cap,rest,ns,tk⟩:=d;simp only at r1 r2 r3 pn MR hz1 Co hz3 Ze;have hT:(D1++⟨id,zs,i,cap,rest,ns,tk⟩::D2).flatMap Dz.tx=D1.flatMap Dz.tx++(Dz.tx ⟨id,zs,i,cap,rest,ns,tk⟩++D2.flatMap Dz.tx):=by simp
 have rC:=ja.hU;rw[hT] at rC;have fin:∀(e:Env)(U2:ar)(Ov:Nat),Has U2 (D1.flatMap Dz.tx++((Ov,((ns.length+1)*2,2))::D2.flatMap Dz.tx))→T.length≤Ov→eT T U2→U.length≤U2.length→
   bt J1.length U2.length e [(1,.ptr b1 0),(3,.bJ bo nd nd),(4,.aO bm),(138,.sl aw.length (cR aw) .none),(139,.int .i64 (aw.length:Nat)),(140,.int .i64 (vi:Nat)),(17,.ptr vP 0),(145,.sl x.length (aU x) .none),(146,.int .i64 (x.length:Nat)),(147,.int .i64 (vk:Nat))]→Q .normal ⟨e,J1.set bo (.cells (eD D1++([.int .i64 id,gv zs.length i cap,.sl (ns.length+1) (aU (ns++[(f,yn)])) (.own Ov)]++eD D2))),U2⟩:=by
  intro e U2 Ov Xe eN hP PB he;have oH:eD (D1++⟨id,zs,i,cap,rest,ns++[(f,yn)],Ov⟩::D2)=eD D1++([.int .i64 id,gv zs.length i cap,.sl (ns.length+1) (aU (ns++[(f,yn)])) (.own Ov)]++eD D2):=by simp[eD,ov]
  rw[←oH];refine go _ _ _ (D1++⟨id,zs,i,cap,rest,ns++[(f,yn)],Ov⟩::D2) (fun ho=>⟨?_,?_,?_,ja.pJ.set yk _,hP,ho⟩) (by simp;omega) ?_ ?_ (by simpa using he)
  ·have:=Has.set (A:=(YY,.cells [.int .i64 yn,.int .i64 yd])::R) (B:=(D1++⟨id,zs,i,cap,rest,ns,tk⟩::D2).flatMap Dz.bx) ja.hJ (.cells (eD (D1++⟨id,zs,i,cap,rest,ns++[(f,yn)],Ov⟩::D2)));have h2:=this.sub ((List.sublist_cons_self (YY,aA.cells [.int .i64 yn,.int .i64 yd]) R).append_right _);simpa[Dz.bx] using h2
  ·rw[flatMap_append,flatMap_cons];simpa[Dz.tx] using Xe
  ·intro y hy;rcases List.mem_append.1 hy with hy|hy
   ·exact(ja.hD y (by simp[hy])).more (le_succ _)
   rcases List.mem_cons.1 hy with rfl|hy
   ·exact⟨hz1.more (le_succ _),fun z hz=>(Co z hz).more (le_succ _),⟨by simp;omega,fun _=>eN⟩⟩
   ·exact(ja.hD y (by simp[hy])).more (le_succ _)
  ·rw[←jM];simp
  ·unfold wO;simp only;rw[←MR];exact Av (d:=⟨id,zs,i,cap,rest,ns,tk⟩) (by rw[jM];exact lr) (by simp[Dz.dc,Qs])
 rcases List.eq_nil_or_concat ns with hn|⟨Mi,x0,hn⟩
 ·subst hn;simp only[ov,if_true] at r3;simp only[Dz.tx,if_true,nil_append] at rC;refine bZ [11,14] [0,0,0,0,0,0,0,0,0,0,0,0,1,1,1] [[0],[]] al (by kernel_rfl) (by kernel_rfl) fun K hK=>?_;simp(disch:=omega)[eo,r3,Cp,PJ,ZW,pn];refine hK _ (fin _ _ U.length ?_ lT (ja.pU.app _) (by simp) (by simp;omega));have:=rC.new (2,2);refine this.perm ?_;rw[append_assoc];exact(List.perm_append_singleton _ _).symm.append_left _
 ·rw[List.concat_eq_append] at hn;subst hn;have dA:¬Mi++[x0]=[]:=by simp
  simp only[ov,if_neg dA] at r3;simp only[Dz.tx,if_neg dA,List.singleton_append] at rC;have gU:=rC.get (i:=tk) (b:=((Mi++[x0]).length*2,2)) (by simp);have lU:=(List.getElem?_eq_some_iff.1 gU).1;have eU:=aV gU;have zA:=bG (Mi++[x0]);have hq:Mi.length+1≤N:=by simpa using hz3
  have pG:=oV (Mi++[x0]) (f,yn);simp only at pG;refine bZ [11,14] [0,0,0,0,0,0,0,0,0,0,0,0,1,1,1] [[0],[]] al (by kernel_rfl) (by kernel_rfl) fun K hK=>?_;simp(disch:=omega)[eo,r3,Cp,PJ,ZW,pn,eU,zA,pG];simp only[length_append,length_singleton] at fin;have PA:Mi++[x0,(f,yn)]=Mi++[x0]++[(f,yn)]:=by simp
  first|rw[PA]|skip
  refine hK _ ?_;refine fin _ (U.set tk ((Mi.length+1+1)*2,2)) tk ?_ (Ze dA) (ja.pU.set (Ze dA) _) (by simp) ?_
  ·have:=Has.set rC ((Mi.length+1+1)*2,2);simpa using this
  ·simp;omega
attribute [-simp] getD_eq_getElem?_getD in
theorem LD (H:List aA)(T:ar)(aw:List Cl)(vi b1 bo bm nd:Nat)(N:Nat)(ids:List Int)(R:List (Nat×aA))(J:List aA)(U:ar)(D:List Dz)
  (hS:DS H T R bo N J U D) (jM:D.map (·.id)=ids) (tz:nd=ids.length) (lr:ids.Nodup) (kL:∀i∈ids,1≤i∧i≤1000000000) (hk:vi<aw.length) (wG:(aw.getD vi c0).x.length≤1000) (ub:∀y∈(aw.getD vi c0).x,y.2∈ids) (hN:N+1000≤1099511627776) (oI:b1<J.length) (yk:H.length≤bo)
  (hm:(bm,.map (fR ids))∈R) (Q:Exit→St→Prop)
  (go:∀(e:Env)(J':List aA)(U':ar)(D':List Dz),DS H T R bo (N+1000) J' U' D'→J.length≤J'.length→D'.map (·.id)=ids→D'.map Dz.dc=zW (D.map Dz.dc) (aw.getD vi c0)→
   bt J'.length U'.length e [(1,.ptr b1 0),(3,.bJ bo nd nd),(4,.aO bm),(138,.sl aw.length (cR aw) .none),(139,.int .i64 (aw.length:Nat)),(140,.int .i64 (vi:Nat))]→Q .normal ⟨e,J',U'⟩) :
  AW ⟨Tryz.prog,192,190,H.length,T.length,[100100,100131]⟩ (du [1,1,1,1,1,1,0,1,0,0,1,1,0,0] (Tryz.f40.body.getD .skip)) Q ⟨[(1,.ptr b1 0),(3,.bJ bo nd nd),(4,.aO bm),(138,.sl aw.length (cR aw) .none),(139,.int .i64 (aw.length:Nat)),(140,.int .i64 (vi:Nat))],J,U⟩:=by
 conv=>arg 2;whnf
 have lm:=hS.hJ.lt (mem_append_left _ hm);have lo:=hS.hJ.lt (i:=bo) (b:=.cells (eD D)) (by simp);have lH:=hS.pJ.le;have lT:=hS.pU.le;have bA:=ot aw vi hk;generalize aw.getD vi c0=t at *;obtain⟨f,x⟩:=t;simp only at bA wG ub go;have aap:x.length≤9223372036854775807:=by omega
 refine ae fun K hK=>?_;simp(disch:=omega)[bA,cE];apply hK;clear hK K;have pH:bC (J++[.cells [.int .i64 f,.sl x.length (aU x) .none]]) U:=hS.ok.snoc (by simp);have ja:=hS.new _ pH;have F3:(J++[aA.cells [.int .i64 f,.sl x.length (aU x) .none]]).length=J.length+1:=by simp
 obtain⟨vP,OG⟩:∃i,i=J.length:=⟨_,rfl⟩
 rw[←OG] at ja;simp only[←OG];generalize J++[aA.cells [.int .i64 f,.sl x.length (aU x) .none]]=J1 at *;have g17:=ja.hJ.get (i:=vP) (b:=.cells [.int .i64 f,.sl x.length (aU x) .none]) (by simp);have l17:=(List.getElem?_eq_some_iff.1 g17).1;have PJ:=aV g17;refine ae fun K hK=>?_;simp(disch:=omega)[PJ];apply hK;clear hK K;apply ah;refine aG (X:=Nat×List aA×ar×List Dz) (fun y=>⟨[(1,.ptr b1 0),(3,.bJ bo nd nd),(4,.aO bm),(138,.sl aw.length (cR aw) .none),(139,.int .i64 (aw.length:Nat)),(140,.int .i64 (vi:Nat)),(17,.ptr vP 0),(145,.sl x.length (aU x) .none),(146,.int .i64 (x.length:Nat)),(147,.int .i64 (y.1:Nat))],y.2.1,y.2.2.1⟩)
  (fun y=>y.1≤x.length∧DS H T ((vP,.cells [.int .i64 f,.sl x.length (aU x) .none])::R) bo (N+y.1) y.2.1 y.2.2.1 y.2.2.2∧J1.length≤y.2.1.length∧y.2.2.2.map (·.id)=ids∧y.2.2.2.map Dz.dc=(x.take y.1).foldl (wO f) (D.map Dz.dc)) (fun y=>x.length-y.1) (0,J1,U,D) ?_ ?_ ?_
 ·exact⟨zero_le _,ja,le_refl _,jM,by simp⟩
 ·refine ag [] [] ?_ ?_ ?_ ?_ ja.ok ?_
  all_goals simp
  all_goals omega
 ·rintro⟨k,J2,U2,D2⟩ ⟨k1,k2,k3,k4,k5⟩;simp only at k1 k2 k3 k4 k5;have Iv:=k2.pJ.le;have LX:=k2.pU.le;apply ae;intro K h;simp(disch:=omega);apply h;clear h K;refine af fun K2 aW=>?_;refine aN rfl (fun fD=>?_) (fun fD=>?_)
  ·simp  at fD;have hp:=ub _ (aR x k n0 fD);apply ai;simp(disch:=omega) ;apply aW;clear aW;refine af fun K3 bz=>?_;apply ah;refine aH ⟨[(1,.ptr b1 0),(3,.bJ bo nd nd),(4,.aO bm),(138,.sl aw.length (cR aw) .none),(139,.int .i64 (aw.length:Nat)),(140,.int .i64 (vi:Nat)),(17,.ptr vP 0),(145,.sl x.length (aU x) .none),(146,.int .i64 (x.length:Nat)),(147,.int .i64 (k:Nat))],J2,U2⟩ (ag [] [] (by simp) (by simp) (by show H.length≤_;omega) (by show T.length≤_;omega) k2.ok (by simp;omega)) ?_;refine HM H T aw x vi k b1 bo bm nd vP (N+k) f _ ids _ J2 U2 D2 k2 k4 tz lr kL fD wG hp (by omega) (by omega) yk (by simp[hm]) (List.mem_cons_self ..) _ fun e J' U' D' a1 a2 a3 a4 a5=>?_;refine bz _ (cZ fun nG=>?_);replace a1:=a1 nG;have FE:=a1.pJ.le;have FD:=a1.pU.le;refine aH ⟨[(1,.ptr b1 0),(3,.bJ bo nd nd),(4,.aO bm),(138,.sl aw.length (cR aw) .none),(139,.int .i64 (aw.length:Nat)),(140,.int .i64 (vi:Nat)),(17,.ptr vP 0),(145,.sl x.length (aU x) .none),(146,.int .i64 (x.length:Nat)),(147,.int .i64 (k:Nat))],J',U'⟩ (ag [] [] (by simp) (by simp) (by show H.length≤_;omega) (by show T.length≤_;omega) a1.ok a5) ?_;clear bz;refine au fun K hK=>?_;simp(disch:=omega) ;apply hK;clear hK K;refine⟨(k+1,J',U',D'),⟨by show k+1≤_;omega,a1,by show J1.length≤J'.length;omega,a3,?_⟩,by show x.length-(k+1)<x.length-k;omega,?_⟩
   ·show D'.map Dz.dc=(x.take (k+1)).foldl _ _;rw[mG _ _ _ n0 k fD,a4,k5]
   ·refine ag [] [] ?_ ?_ ?_ ?_ a1.ok ?_
    all_goals simp
    all_goals omega
  ·simp  at fD;have pI:k=x.length:=by omega
   subst pI;apply aC;simp(disch:=omega) ;rw[take_length] at k5;refine go _ J2 U2 D2 ((k2.more (by omega)).sub (by simp)) (by omega) k4 k5 ?_;simp;omega
attribute [-simp] getD_eq_getElem?_getD in
theorem Cg (H:List aA)(T:ar)(s:Sg)(b1 bo bm nd:Nat)(N:Nat)(ids:List Int)(R:List (Nat×aA))(J:List aA)(U:ar)(D:List Dz)
  (hS:DS H T R bo N J U D) (jM:D.map (·.id)=ids) (tz:nd=ids.length) (lr:ids.Nodup) (kL:∀i∈ids,1≤i∧i≤1000000000) (hs:mh s) (ub:∀c∈s.aw,∀y∈c.x,y.2∈ids) (hN:N+1000000≤1099511627776) (h1:(b1,.cells (bH s))∈R) (yk:H.length≤bo)
  (hm:(bm,.map (fR ids))∈R) (Q:Exit→St→Prop)
  (go:∀(e:Env)(J':List aA)(U':ar)(D':List Dz),DS H T R bo (N+1000000) J' U' D'→D'.map (·.id)=ids→D'.map Dz.dc=s.aw.foldl zW (D.map Dz.dc)→
   bt J'.length U'.length e [(1,.ptr b1 0),(3,.bJ bo nd nd),(4,.aO bm)]→AW ⟨Tryz.prog,192,190,H.length,T.length,[100100,100131]⟩ (du [1,1,1,1,1,1,1] (Tryz.f40.body.getD .skip)) Q ⟨e,J',U'⟩) :
  AW ⟨Tryz.prog,192,190,H.length,T.length,[100100,100131]⟩ (du [1,1,1,1,1,1] (Tryz.f40.body.getD .skip)) Q ⟨[(1,.ptr b1 0),(3,.bJ bo nd nd),(4,.aO bm)],J,U⟩:=by
 conv=>arg 2;whnf
 have lm:=hS.hJ.lt (mem_append_left _ hm);have lo:=hS.hJ.lt (i:=bo) (b:=.cells (eD D)) (by simp);have g1:=hS.hJ.get (mem_append_left _ h1);have l1:=(List.getElem?_eq_some_iff.1 g1).1;have e1:=aV g1;have lH:=hS.pJ.le;have lT:=hS.pU.le;obtain⟨an,ts,aw⟩:=s;obtain⟨sd,st,sw,sc,sx⟩:=hs;simp only at e1 sd st sw sc sx ub go;have pg:aw.length≤9223372036854775807:=by omega
 refine af fun K1 aQ=>?_;refine ae fun K hK=>?_;simp(disch:=omega)[e1];apply hK;clear hK K;apply ah;refine aG (X:=Nat×List aA×ar×List Dz) (fun x=>⟨[(1,.ptr b1 0),(3,.bJ bo nd nd),(4,.aO bm),(138,.sl aw.length (cR aw) .none),(139,.int .i64 (aw.length:Nat)),(140,.int .i64 (x.1:Nat))],x.2.1,x.2.2.1⟩)
  (fun x=>x.1≤aw.length∧DS H T R bo (N+1000*x.1) x.2.1 x.2.2.1 x.2.2.2∧J.length≤x.2.1.length∧x.2.2.2.map (·.id)=ids∧x.2.2.2.map Dz.dc=(aw.take x.1).foldl zW (D.map Dz.dc)) (fun x=>aw.length-x.1) (0,J,U,D) ?_ ?_ ?_
 ·exact⟨zero_le _,hS,le_refl _,jM,by simp⟩
 ·refine ag [] [] ?_ ?_ ?_ ?_ hS.ok ?_
  all_goals simp
  all_goals omega
 ·rintro⟨k,J2,U2,D2⟩ ⟨k1,k2,k3,k4,k5⟩;simp only at k1 k2 k3 k4 k5;have Iv:=k2.pJ.le;have LX:=k2.pU.le;apply ae;intro K h;simp(disch:=omega);apply h;clear h K;refine af fun K2 aW=>?_;refine aN rfl (fun fD=>?_) (fun fD=>?_)
  ·simp  at fD;have Pp:=aR aw k c0 fD;have hw:=sx _ Pp;apply ai;simp(disch:=omega) ;apply aW;clear aW;refine af fun K3 bz=>?_;apply ah;refine aH ⟨[(1,.ptr b1 0),(3,.bJ bo nd nd),(4,.aO bm),(138,.sl aw.length (cR aw) .none),(139,.int .i64 (aw.length:Nat)),(140,.int .i64 (k:Nat))],J2,U2⟩ (ag [] [] (by simp) (by simp) (by show H.length≤_;omega) (by show T.length≤_;omega) k2.ok (by simp;omega)) ?_;refine LD H T aw k b1 bo bm nd (N+1000*k) ids _ J2 U2 D2 k2 k4 tz lr kL fD hw (fun p hp=>ub _ Pp p hp) (by omega) (by omega) yk hm _ fun e J' U' D' a1 a2 a3 a4 a5=>?_;have FE:=a1.pJ.le;have FD:=a1.pU.le;refine bz _ (aH ⟨[(1,.ptr b1 0),(3,.bJ bo nd nd),(4,.aO bm),(138,.sl aw.length (cR aw) .none),(139,.int .i64 (aw.length:Nat)),(140,.int .i64 (k:Nat))],J',U'⟩ (ag [] [] (by simp) (by simp) (by show H.length≤_;omega) (by show T.length≤_;omega) a1.ok a5) ?_);clear bz;refine au fun K hK=>?_;simp(disch:=omega) ;apply hK;clear hK K;refine⟨(k+1,J',U',D'),⟨by show k+1≤_;omega,a1.more (by omega),by show J.length≤J'.length;omega,a3,?_⟩,by show aw.length-(k+1)<aw.length-k;omega,?_⟩
   ·show D'.map Dz.dc=(aw.take (k+1)).foldl _ _;rw[mG _ _ _ c0 k fD,a4,k5]
   ·refine ag [] [] ?_ ?_ ?_ ?_ a1.ok ?_
    all_goals simp
    all_goals omega
  ·simp  at fD;have pI:k=aw.length:=by omega
   subst pI;apply aC;simp(disch:=omega) ;rw[take_length] at k5;apply aQ;clear aQ;refine go _ J2 U2 D2 (k2.more (by omega)) k4 k5 ?_;simp;omega
def MJ (ts:List Tm)(id:Int):List (Int×List Wd):=ts.flatMap fun t=>(t.l.filter fun p=>p.1==id).map fun p=>(t.f,p.2.map fun a=>(t.w,a))
def pA (zs:List Zn)(es:List (Int×List Wd)):List Zn:=es.foldl (fun zs e=>uq zs e.1 e.2) zs
def El (cs:List Cl)(id:Int):List Nm:=cs.flatMap fun c=>(c.x.filter fun y=>y.2==id).map fun y=>(c.f,y.1)
theorem wU (zs:List Zn)(a b:List (Int×List Wd)):pA zs (a++b)=pA (pA zs a) b:=List.foldl_append ..
theorem O6 (f:Int)(w:Bs):∀(l:List Ps)(L:List Dc),l.foldl (wM f w) L=L.map fun d=>⟨d.id,pA d.zs ((l.filter fun p=>p.1==d.id).map fun p=>(f,p.2.map fun a=>(w,a))),d.ns⟩
 |[],L=>by simp[pA]
 |p::l,L=>by
  rw[foldl_cons,O6 f w l];unfold wM FW;rw[map_map];refine map_congr_left fun d hd=>?_;simp only[Function.comp]
  by_cases h:d.id=p.1
  ·rw[if_pos h,List.filter_cons_of_pos (by simp[h])];rfl
  ·rw[if_neg h,List.filter_cons_of_neg (by simpa using fun e=>h e.symm)]
theorem O5:∀(ts:List Tm)(L:List Dc),ts.foldl stepT L=L.map fun d=>⟨d.id,pA d.zs (MJ ts d.id),d.ns⟩
 |[],L=>by simp[pA,MJ]
 |t::ts,L=>by
  rw[foldl_cons,O5 ts];unfold stepT;rw[O6,map_map];refine map_congr_left fun d hd=>?_;simp only[Function.comp,MJ,flatMap_cons,wU]
theorem foldI (f:Int):∀(l:List Nm)(L:List Dc),l.foldl (wO f) L=L.map fun d=>⟨d.id,d.zs,d.ns++(l.filter fun y=>y.2==d.id).map fun y=>(f,y.1)⟩
 |[],L=>by simp
 |p::l,L=>by
  rw[foldl_cons,foldI f l];unfold wO FW;rw[map_map];refine map_congr_left fun d hd=>?_;simp only[Function.comp]
  by_cases h:d.id=p.2
  ·rw[if_pos h,List.filter_cons_of_pos (by simp[h])];simp[Qs]
  ·rw[if_neg h,List.filter_cons_of_neg (by simpa using fun e=>h e.symm)]
theorem O8:∀(cs:List Cl)(L:List Dc),cs.foldl zW L=L.map fun d=>⟨d.id,d.zs,d.ns++El cs d.id⟩
 |[],L=>by simp[El]
 |c::cs,L=>by
  rw[foldl_cons,O8 cs];unfold zW;rw[foldI,map_map];refine map_congr_left fun d hd=>?_;simp only[Function.comp,El,flatMap_cons,append_assoc]
def bP (g:Int→List Wd):List Zn:=[1,2,3,4].flatMap fun f=>if g f=[] then [] else [⟨f,g f⟩]
theorem wk {g h:Int→List Wd}(e:∀f,1≤f→f≤4→g f=h f):bP g=bP h:=by
 simp only[bP,flatMap_cons,List.flatMap_nil,e 1 (by omega) (by omega),e 2 (by omega) (by omega),e 3 (by omega) (by omega),e 4 (by omega) (by omega)]
theorem Ej {g : Int → List Wd} {f : Int} {ws : List Wd} (h1 : 1 ≤ f) (h4 : f ≤ 4) (hw : ws ≠ []) (hg : ∀ f', f < f' → g f' = []) : uq (bP g) f ws = bP (fun f' => if f' = f then g f' ++ ws else g f') := by
 rcases (by omega : f = 1 ∨ f = 2 ∨ f = 3 ∨ f = 4) with rfl | rfl | rfl | rfl
 ·have a2 := hg 2 (by omega); have a3 := hg 3 (by omega); have a4 := hg 4 (by omega)
  by_cases b1 : g 1 = [] <;> simp [bP, uq, FB, *]
 ·have a3 := hg 3 (by omega); have a4 := hg 4 (by omega)
  by_cases b1 : g 1 = [] <;> by_cases b2 : g 2 = [] <;> simp [bP, uq, FB, *]
 ·have a4 := hg 4 (by omega)
  by_cases b1 : g 1 = [] <;> by_cases b2 : g 2 = [] <;> by_cases b3 : g 3 = [] <;> simp [bP, uq, FB, *]
 ·by_cases b1 : g 1 = [] <;> by_cases b2 : g 2 = [] <;> by_cases b3 : g 3 = [] <;> by_cases b4 : g 4 = [] <;> simp [bP, uq, FB, *]
def nK (es:List (Int×List Wd))(f:Int):List Wd:=(es.filter fun e=>e.1==f).flatMap (·.2)
theorem Ho (es:List (Int×List Wd))(e:Int×List Wd)(f:Int):nK (es++[e]) f=if f=e.1 then nK es f++e.2 else nK es f:=by
 unfold nK;rw[List.filter_append]
 by_cases h:f=e.1
 ·rw[if_pos h,List.filter_cons_of_pos (by simp[h])];simp
 ·rw[if_neg h,List.filter_cons_of_neg (by simpa using fun x=>h x.symm)];simp
theorem BB (es:List (Int×List Wd))(hs:es.Pairwise fun a b=>a.1≤b.1)(h14:∀e∈es,1≤e.1∧e.1≤4∧e.2≠[]):pA [] es=bP (nK es):=by
 have key:∀r:List (Int×List Wd),(r.reverse.Pairwise fun a b=>a.1≤b.1)→(∀e∈r,1≤e.1∧e.1≤4∧e.2≠[])→pA [] r.reverse=bP (nK r.reverse):=by
  intro r
  induction r with
  |nil=>intro _ _;rfl
  |cons e r ih=>
   intro hp hm;rw[List.reverse_cons] at hp ⊢;rw[List.pairwise_append] at hp;obtain⟨p1,_,p3⟩:=hp;obtain⟨q1,q2,q3⟩:=hm e (by simp);rw[wU,ih p1 fun x hx=>hm x (by simp[hx])];show uq _ e.1 e.2=_;rw[Ej q1 q2 q3 fun f' hf=>?_]
   ·refine wk fun f _ _=>?_;exact(Ho _ e f).symm
   ·unfold nK;rw[List.flatMap_eq_nil_iff];intro x hx;rw[List.mem_filter] at hx;have:=p3 x hx.1 e (by simp);simp at hx;omega
 have:=key es.reverse (by rwa [List.reverse_reverse]) fun e he=>h14 e (by simpa using he)
 rwa [List.reverse_reverse] at this
def occs (ts:List Tm)(id f:Int):List Wd:=nK (MJ ts id) f
def fG (s:Sg):List Dc:=s.an.map fun id=>⟨id,bP fun f=>gw (occs s.aK id f),El s.aw id⟩
theorem GM:gw []=[]:=by unfold gw;simp
theorem lK (l:List Wd):gw l=[]↔l=[]:=by
 constructor
 ·intro h;have:=congrArg List.length h;unfold gw at this;rw[List.length_mergeSort] at this;exact List.length_eq_zero_iff.1 this
 ·rintro rfl;exact GM
def PR (z:Zn):Zn:=⟨z.f,gw z.ws⟩
theorem By (g:Int→List Wd):(bP g).map PR=bP fun f=>gw (g f):=by
 unfold bP;rw[List.map_flatMap]
 congr 1
 funext f
 by_cases h:g f=[]
 ·rw[if_pos h,if_pos ((lK _).2 h)];rfl
 ·rw[if_neg h,if_neg (fun e=>h ((lK _).1 e))];rfl
section
variable {s : Sg}
theorem Dj (hv:aP s=true):s.aK.Pairwise fun a b=>a.f≤b.f:=by
 obtain⟨_,⟨ht,_⟩,_⟩:=fi hv;rw[List.pairwise_iff_getElem];have key:∀(n i:Nat)(h1:i<s.aK.length)(h2:i+n<s.aK.length),(s.aK[i]'h1).f≤(s.aK[i+n]'h2).f:=by
  intro n
  induction n with
  |zero=>intro i _ _;exact Int.le_refl _
  |succ n ih=>
   intro i h1 h2;refine Int.le_trans (ih i h1 (by omega)) ?_;have:=(ht (i+n+1) (by omega)).1;unfold kP at this;simp only[Bool.and_eq_true,Bool.or_eq_true,decide_eq_true_eq] at this;have h3:=this.2.resolve_left (by omega);rw[Nat.add_sub_cancel,getD_eq_getElem?_getD,getD_eq_getElem?_getD,List.getElem?_eq_getElem (by omega),List.getElem?_eq_getElem (by omega)] at h3;simp only[Option.getD_some,bM] at h3;have e:i+(n+1)=i+n+1:=by omega
   simp only[e];simp only[Bool.or_eq_true,Bool.and_eq_true,decide_eq_true_eq] at h3;omega
 intro i j h1 h2 jt;have:=key (j-i) i h1 (by omega);have e:i+(j-i)=j:=by omega
 simpa only[e] using this
theorem ED (hv:aP s=true){t:Tm}(ht:t∈s.aK):(1≤t.f∧t.f≤4)∧t.l≠[]∧bX t.l=true∧∀p∈t.l,p.1∈s.an:=by
 obtain⟨_,⟨h,_⟩,_⟩:=fi hv;obtain⟨i,hi,rfl⟩:=bS t0 ht;obtain⟨a,b⟩:=h i hi;unfold kP at a;unfold vK at b;simp only[Bool.and_eq_true,decide_eq_true_eq] at a b;exact⟨a.1.1,b.1.1,b.1.2,b.2⟩
theorem UD (hv:aP s=true){c:Cl}(hc:c∈s.aw):(5≤c.f∧c.f≤7)∧∀y∈c.x,y.2∈s.an:=by
 obtain⟨_,_,h⟩:=fi hv;obtain⟨i,hi,rfl⟩:=bS c0 hc;obtain⟨a,b⟩:=h i hi;unfold nJ at a;simp only[Bool.and_eq_true,decide_eq_true_eq] at a;refine⟨a.1.1,fun y hy=>?_⟩;obtain⟨k,hk,rfl⟩:=bS n0 hy;have:=b k hk;unfold kQ at this;simp only[Bool.and_eq_true,decide_eq_true_eq] at this;exact this.1.1
theorem HW (hv:aP s=true)(id:Int):pA [] (MJ s.aK id)=bP (occs s.aK id):=by
 refine BB _ ?_ fun e he=>?_
 ·unfold MJ;rw[List.pairwise_flatMap];refine⟨fun t ht=>?_,(Dj hv).imp fun {a b} iZ x hx y hy=>?_⟩
  ·rw[List.pairwise_map];exact List.pairwise_of_forall fun _ _=>Int.le_refl _
  ·obtain⟨_,_,rfl⟩:=List.mem_map.1 hx;obtain⟨_,_,rfl⟩:=List.mem_map.1 hy;exact iZ
 ·unfold MJ at he;obtain⟨t,ht,he⟩:=List.mem_flatMap.1 he;obtain⟨p,hp,rfl⟩:=List.mem_map.1 he;obtain⟨a,b,c,d⟩:=ED hv ht;obtain⟨v1,v2,v3⟩:=cU c;have:=(v3 p (List.mem_filter.1 hp).1).1;refine⟨a.1,a.2,?_⟩;intro h;rw[List.map_eq_nil_iff] at h;exact absurd h (by simpa using this)
end
end Go.Proofs.YtneohapkboaplaaGreat
namespace Go.Proofs.YtneohapkboaplaaGreat
open Go Go.Am iF eJ
def jk (z:Wz):Wz:={ z with ws:=gw z.ws }
theorem oQ (l:List Wd):(gw l).length=l.length:=List.length_mergeSort _
theorem Nc {l:List Wz}{k:Nat}(hk:k<l.length)(r:List AV)(d:Wz):((lM l++r).drop (k*2)).take 2=[.int .i64 (l.getD k d).f,gv (l.getD k d).ws.length (l.getD k d).i (l.getD k d).cap]:=by
 have h:=jP l;rw[List.drop_append_of_le_length (by omega),List.take_append_of_le_length (by rw[length_drop];omega)];exact fX yL l k d hk
attribute [-simp] getD_eq_getElem?_getD in
theorem TV (H:List aA)(T:ar)(b1 bo bm nd LV vi vk nz zi zc:Nat)(N:Nat)(R:List (Nat×aA))(J:List aA)(U:ar)(D1 D2:List Dz)(id:Int)(vJ wA:List Wz)(z:Wz)(rest:List AV)(ns:List Nm)(tk:Nat)
  (hS:DS H T R bo N J U (D1++⟨id,vJ++z::wA,zi,zc,rest,ns,tk⟩::D2)) (hN:N≤1099511627776) (hk:vk=vJ.length) (hnz:nz=vJ.length+1+wA.length) (dA:z.ws≠[]) (hT:z.ws.Pairwise fun x y=>x.2≠y.2) (oI:b1<J.length) (My:bm<J.length) (hp:LV<J.length) (Q:Exit→St→Prop)
  (go:∀(e:Env)(J':List aA),(bC J' U→DS H T R bo N J' U (D1++⟨id,vJ++jk z::wA,zi,zc,rest,ns,tk⟩::D2))→J.length≤J'.length→
   bt J'.length U.length e [(1,.ptr b1 0),(3,.bJ bo nd nd),(4,.aO bm),(173,.bV bo 0 nd),(174,.int .i64 (nd:Nat)),(175,.int .i64 (vi:Nat)),(22,.ptr LV 0),(180,.bV zi 0 nz),(181,.int .i64 (nz:Nat)),(182,.int .i64 (vk:Nat))]→Q .normal ⟨e,J',U⟩) :
  AW ⟨Tryz.prog,192,190,H.length,T.length,[100100,100131]⟩ (du [1,1,1,1,1,1,1,0,1,0,0,1,1,0,0,1,1,0,0,1,1,0,0] (Tryz.f40.body.getD .skip)) Q ⟨[(1,.ptr b1 0),(3,.bJ bo nd nd),(4,.aO bm),(173,.bV bo 0 nd),(174,.int .i64 (nd:Nat)),(175,.int .i64 (vi:Nat)),(22,.ptr LV 0),(180,.bV zi 0 nz),(181,.int .i64 (nz:Nat)),(182,.int .i64 (vk:Nat))],J,U⟩:=by
 conv=>arg 2;whnf
 have gz:=hS.hJ.get (i:=zi) (b:=.cells (lM (vJ++z::wA)++rest)) (by simp[Dz.bx,gb]);have lz:=(List.getElem?_eq_some_iff.1 gz).1;have ez:=aV gz;have lo:=hS.hJ.lt (i:=bo) (b:=.cells (eD (D1++⟨id,vJ++z::wA,zi,zc,rest,ns,tk⟩::D2))) (by simp);have lH:=hS.pJ.le;have lT:=hS.pU.le;have bA:=Nc (l:=vJ++z::wA) (k:=vk) (by simp;omega) rest z;have SE:(vJ++z::wA).getD vk z=z:=by rw[hk,getD_eq_getElem?_getD,getElem?_append_right (by omega),sub_self];rfl
 rw[SE] at bA;have vR:(lM (vJ++z::wA)++rest).length=nz*2+rest.length:=by rw[length_append,jP];simp;omega
 have Ru:vk<nz:=by omega
 have hz:=(hS.hD ⟨id,vJ++z::wA,zi,zc,rest,ns,tk⟩ (by simp)).w z (by simp);have ua:z.ws.length≠0:=fun h=>dA (List.length_eq_zero_iff.1 h);simp only[gv,if_neg ua] at bA;refine ae fun K hK=>?_;simp(disch:=omega)[ez,vR,bA];apply hK;clear hK K;have hlz:z.i<J.length:=hS.hJ.lt (b:=.cells (cJ z.ws++z.rest)) (by simp[Dz.bx,Wz.bx,gb,dA]);have pH:bC (J++[.cells [.int .i64 z.f,.bJ z.i z.ws.length z.cap]]) U:=hS.ok.snoc (by intro v hv;simp at hv;rcases hv with rfl|rfl<;>first|exact .int _ _|exact .bJ _ _ _ (by omega));have ja:=hS.new _ pH;have F3:(J++[aA.cells [.int .i64 z.f,.bJ z.i z.ws.length z.cap]]).length=J.length+1:=by simp
 obtain⟨p24,h24⟩:∃i,i=J.length:=⟨_,rfl⟩
 rw[←h24] at ja;simp only[←h24];generalize J++[aA.cells [.int .i64 z.f,.bJ z.i z.ws.length z.cap]]=J1 at *;have g24:=ja.hJ.get (i:=p24) (b:=.cells [.int .i64 z.f,.bJ z.i z.ws.length z.cap]) (by simp);have l24:=(List.getElem?_eq_some_iff.1 g24).1;have e24:=aV g24;have gi:=ja.hJ.get (i:=z.i) (b:=.cells (cJ z.ws++z.rest)) (by simp[Dz.bx,Wz.bx,gb,dA]);have cs:=fun U=>GL z.ws dA hT z.rest z.i z.cap (by have:=hz.1;omega) J1 U gi;have oH:eD (D1++⟨id,vJ++jk z::wA,zi,zc,rest,ns,tk⟩::D2)=eD (D1++⟨id,vJ++z::wA,zi,zc,rest,ns,tk⟩::D2):=by simp[eD]
 have LY:lM (vJ++jk z::wA)=lM (vJ++z::wA):=by simp[lM,jk,oQ]
 have zq:∀y:Wz,y.ws≠[]→Dz.bx ⟨id,vJ++y::wA,zi,zc,rest,ns,tk⟩=(zi,.cells (lM (vJ++y::wA)++rest))::(vJ.flatMap Wz.bx++((y.i,.cells (cJ y.ws++y.rest))::wA.flatMap Wz.bx)):=fun y hy=>by simp[Dz.bx,gb,Wz.bx,hy]
 have zt:=Has.set (A:=(p24,.cells [.int .i64 z.f,.bJ z.i z.ws.length z.cap])::(R++(bo,.cells (eD (D1++⟨id,vJ++z::wA,zi,zc,rest,ns,tk⟩::D2)))::(D1.flatMap Dz.bx++((zi,.cells (lM (vJ++z::wA)++rest))::vJ.flatMap Wz.bx)))) (B:=wA.flatMap Wz.bx++D2.flatMap Dz.bx) (b:=.cells (cJ z.ws++z.rest)) (by
  have:=ja.hJ;rw[flatMap_append,flatMap_cons,zq z dA] at this;simpa using this) (.cells (cJ (gw z.ws)++z.rest))
 refine au fun K hK=>?_;simp(disch:=omega)[e24];refine ak (cs _) ?_;simp(disch:=omega) ;apply hK;clear hK K;refine go _ _ (fun ho=>⟨?_,?_,?_,ja.pJ.set (hz.2 ua).2.2 _,ja.pU,ho⟩) (by simp;omega) (by simp;omega)
 ·rw[flatMap_append,flatMap_cons,zq (jk z) (fun h=>dA ((lK _).1 h)),oH,LY];rw[List.cons_append] at zt;have h5:=zt.sub (List.sublist_cons_self _ _);simpa[jk] using h5
 ·simpa[Dz.tx] using ja.hU
 ·intro x hx;rcases List.mem_append.1 hx with hx|hx
  ·exact ja.hD x (by simp[hx])
  rcases List.mem_cons.1 hx with rfl|hx
  ·have hd:=ja.hD ⟨id,vJ++z::wA,zi,zc,rest,ns,tk⟩ (by simp);refine⟨by simpa using hd.z,fun y hy=>?_,hd.n⟩;rcases List.mem_append.1 hy with hy|hy
   ·exact hd.w y (by simp[hy])
   rcases List.mem_cons.1 hy with rfl|hy
   ·have:=hd.w z (by simp);exact⟨by simpa[jk,oQ] using this.1,fun h=>by
     have:=this.2 (by simpa[jk,oQ] using h);simpa[jk,oQ] using this⟩
   ·exact hd.w y (by simp[hy])
  ·exact ja.hD x (by simp[hx])
def qz (d:Dz):Dz:={ d with zs:=d.zs.map jk }
theorem Kr {l:List Wz}{k:Nat}(hk:k<l.length):∃z∈l,l.drop k=z::l.drop (k+1)∧l.take (k+1)=l.take k++[z]:=
 ⟨l[k],List.getElem_mem _,(List.getElem_cons_drop ..).symm,by rw[List.take_append_getElem]⟩
attribute [-simp] getD_eq_getElem?_getD in
theorem UA (H:List aA)(T:ar)(b1 bo bm nd vi:Nat)(N:Nat)(R:List (Nat×aA))(J:List aA)(U:ar)(D1 D2:List Dz)(d:Dz)
  (hS:DS H T R bo N J U (D1++d::D2)) (hN:N≤1099511627776) (hk:vi=D1.length) (lr:nd=D1.length+1+D2.length) (hW:∀z∈d.zs,z.ws≠[]∧z.ws.Pairwise fun x y=>x.2≠y.2) (oI:b1<J.length) (My:bm<J.length) (Q:Exit→St→Prop)
  (go:∀(e:Env)(J':List aA),DS H T R bo N J' U (D1++qz d::D2)→J.length≤J'.length→
   bt J'.length U.length e [(1,.ptr b1 0),(3,.bJ bo nd nd),(4,.aO bm),(173,.bV bo 0 nd),(174,.int .i64 (nd:Nat)),(175,.int .i64 (vi:Nat))]→Q .normal ⟨e,J',U⟩) :
  AW ⟨Tryz.prog,192,190,H.length,T.length,[100100,100131]⟩ (du [1,1,1,1,1,1,1,0,1,0,0,1,1,0,0] (Tryz.f40.body.getD .skip)) Q ⟨[(1,.ptr b1 0),(3,.bJ bo nd nd),(4,.aO bm),(173,.bV bo 0 nd),(174,.int .i64 (nd:Nat)),(175,.int .i64 (vi:Nat))],J,U⟩:=by
 conv=>arg 2;whnf
 have IK:=hS.hJ.get (i:=bo) (b:=.cells (eD (D1++d::D2))) (by simp);have lo:=(List.getElem?_eq_some_iff.1 IK).1;have eo:=aV IK;have lH:=hS.pJ.le;have lT:=hS.pU.le;have Cp:(eD (D1++d::D2)).length=nd*3:=by rw[jR];simp;omega
 have bA:((eD (D1++d::D2)).drop (vi*3)).take 3=d.row:=by
  have:=fX yY (D1++d::D2) vi d (by simp;omega);rw[show (D1++d::D2).getD vi d=d by rw[hk,getD_eq_getElem?_getD,getElem?_append_right (by omega),sub_self];rfl] at this;exact this
 have hvn:vi<nd:=by omega
 have hd:=hS.hD d (by simp);simp only[Dz.row] at bA;refine ae fun K hK=>?_;simp(disch:=omega)[eo,Cp,bA];apply hK;clear hK K;refine cZ fun pH=>?_;simp only at pH;have ja:=hS.new _ pH;have F3:(J++[aA.cells [AV.int .i64 d.id,gv d.zs.length d.i d.cap,ov d.ns d.tk]]).length=J.length+1:=by simp
 obtain⟨LV,h22⟩:∃i,i=J.length:=⟨_,rfl⟩
 rw[←h22] at ja;simp only[←h22];generalize J++[aA.cells [AV.int .i64 d.id,gv d.zs.length d.i d.cap,ov d.ns d.tk]]=J1 at *;have g22:=ja.hJ.get (i:=LV) (b:=.cells [.int .i64 d.id,gv d.zs.length d.i d.cap,ov d.ns d.tk]) (by simp);have Zb:=(List.getElem?_eq_some_iff.1 g22).1;have S5:=aV g22;obtain⟨id,zs,i,cap,rest,ns,tk⟩:=d;simp only at S5 hW
 by_cases hz:zs=[]
 ·subst hz;simp only[gv,List.length_nil,if_true] at S5;refine ae fun K hK=>?_;simp(disch:=omega)[S5];apply hK;clear hK K;apply ah;refine aG (X:=Unit) (fun _=>⟨[(1,.ptr b1 0),(3,.bJ bo nd nd),(4,.aO bm),(173,.bV bo 0 nd),(174,.int .i64 (nd:Nat)),(175,.int .i64 (vi:Nat)),(180,.sl 0 [] .none),(181,.int .i64 0),(182,.int .i64 0)],J1,U⟩) (fun _=>True) (fun _=>0) () ?_ ?_ ?_
  ·trivial
  ·refine ag [] [] ?_ ?_ ?_ ?_ pH ?_
   all_goals simp
   all_goals omega
  ·rintro⟨⟩ -;apply ae;intro K h;simp(disch:=omega);apply h;clear h K;refine af fun K2 aW=>?_;apply aD rfl;apply aC;simp(disch:=omega) ;refine go _ J1 ((ja.sub (by simp))) (by omega) ?_;simp;omega
 have vR:zs.length≠0:=fun h=>hz (List.length_eq_zero_iff.1 h);simp only[gv,if_neg vR] at S5;have hq:=hd.z.1;simp only at hq;have Rp:i<J1.length:=ja.hJ.lt (b:=.cells (lM zs++rest)) (by simp[Dz.bx,gb,hz]);refine ae fun K hK=>?_;simp(disch:=omega)[S5];apply hK;clear hK K;apply ah;refine aG (X:=Nat×List aA) (fun x=>⟨[(1,.ptr b1 0),(3,.bJ bo nd nd),(4,.aO bm),(173,.bV bo 0 nd),(174,.int .i64 (nd:Nat)),(175,.int .i64 (vi:Nat)),(22,.ptr LV 0),(180,.bV i 0 zs.length),(181,.int .i64 (zs.length:Nat)),(182,.int .i64 (x.1:Nat))],x.2,U⟩)
  (fun x=>x.1≤zs.length∧DS H T ((LV,.cells [.int .i64 id,.bJ i zs.length cap,ov ns tk])::R) bo N x.2 U (D1++⟨id,(zs.take x.1).map jk++zs.drop x.1,i,cap,rest,ns,tk⟩::D2)∧J1.length≤x.2.length) (fun x=>zs.length-x.1) (0,J1) ?_ ?_ ?_
 ·exact⟨zero_le _,by simpa[gv,vR] using ja,le_refl _⟩
 ·refine ag [] [] ?_ ?_ ?_ ?_ pH ?_
  all_goals simp
  all_goals omega
 ·rintro⟨k,J2⟩ ⟨k1,k2,k3⟩;simp only at k1 k2 k3;have Iv:=k2.pJ.le;have LX:=k2.pU.le;apply ae;intro K h;simp(disch:=omega);apply h;clear h K;refine af fun K2 aW=>?_;refine aN rfl (fun fD=>?_) (fun fD=>?_)
  ·simp  at fD;apply ai;simp(disch:=omega) ;apply aW;clear aW;refine af fun K3 bz=>?_;apply ah;refine aH ⟨[(1,.ptr b1 0),(3,.bJ bo nd nd),(4,.aO bm),(173,.bV bo 0 nd),(174,.int .i64 (nd:Nat)),(175,.int .i64 (vi:Nat)),(22,.ptr LV 0),(180,.bV i 0 zs.length),(181,.int .i64 (zs.length:Nat)),(182,.int .i64 (k:Nat))],J2,U⟩ (ag [] [] (by simp) (by simp) (by show H.length≤_;omega) (by show T.length≤_;omega) k2.ok (by simp;omega)) ?_;obtain⟨z,Rh,L7,Z8⟩:=Kr fD;rw[L7] at k2;have hlen:((zs.take k).map jk).length=k:=by simp;omega
   refine TV H T b1 bo bm nd LV vi k zs.length i cap N _ J2 U D1 D2 id _ _ z rest ns tk k2 hN hlen.symm (by rw[hlen,length_drop];omega) (hW z Rh).1 (hW z Rh).2 (by omega) (by omega) (by omega) _ fun e J' a1 a2 a3=>?_;refine bz _ (cZ fun nG=>?_);replace a1:=a1 nG;have FE:=a1.pJ.le;have FD:=a1.pU.le;refine aH ⟨[(1,.ptr b1 0),(3,.bJ bo nd nd),(4,.aO bm),(173,.bV bo 0 nd),(174,.int .i64 (nd:Nat)),(175,.int .i64 (vi:Nat)),(22,.ptr LV 0),(180,.bV i 0 zs.length),(181,.int .i64 (zs.length:Nat)),(182,.int .i64 (k:Nat))],J',U⟩ (ag [] [] (by simp) (by simp) (by show H.length≤_;omega) (by show T.length≤_;omega) a1.ok a3) ?_;clear bz;have eN:(zs.take (k+1)).map jk++zs.drop (k+1)=(zs.take k).map jk++jk z::zs.drop (k+1):=by
    rw[Z8];simp
   refine au fun K hK=>?_;simp(disch:=omega) ;apply hK;clear hK K;refine⟨(k+1,J'),⟨by show k+1≤_;omega,by show DS _ _ _ _ _ _ _ (D1++⟨id,(zs.take (k+1)).map jk++zs.drop (k+1),i,cap,rest,ns,tk⟩::D2);rw[eN];exact a1,by show J1.length≤J'.length;omega⟩,by show zs.length-(k+1)<zs.length-k;omega,?_⟩;refine ag [] [] ?_ ?_ ?_ ?_ a1.ok ?_
   all_goals simp
   all_goals omega
  ·simp  at fD;have pI:k=zs.length:=by omega
   subst pI;apply aC;simp(disch:=omega) ;rw[take_length,List.drop_length,List.append_nil] at k2;refine go _ J2 (k2.sub (by simp)) (by omega) ?_;simp;omega
end Go.Proofs.YtneohapkboaplaaGreat
