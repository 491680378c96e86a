/- segment.Documents (layer 39): documents, while they are gathered; an append to a list that grows in a box. segment.Documents (layer 39): one posting. segment.Documents (layer 39): the postings of the terms. segment.Documents (layer 39): the terms, the columns. The documents of a segment (layer 39), in plain lists. segment.Documents (layer 39): the words are sorted.
  Conditions: as the theorems say. -/
import Derived.Test.YtoejlmpbebjemaaGreatGV
set_option linter.all false
set_option maxRecDepth 100000
set_option maxHeartbeats 16000000
namespace Go.Proofs.YtoejlmpbebjemaaGreat
open Go Go.Am Seg
def gv (n i cap:Nat):AV:=if n=0 then .sl 0 [] .full else .csl i n cap
def gb (n i:Nat)(cs:List AV):List (Nat×Blk):=if n=0 then [] else [(i,.cells cs)]
structure Wz where
 f:Int
 ws:List Wd
 i:Nat
 cap:Nat
 rest:List AV
abbrev Wz.row (z:Wz):List AV:=[.int .i64 z.f,gv z.ws.length z.i z.cap]
def Wz.bx (z:Wz):List (Nat×Blk):=gb z.ws.length z.i (wdAV z.ws++z.rest)
def zrs (l:List Wz):List AV:=l.flatMap Wz.row
theorem zr_rows:CellsK Wz.row 2:=fun _=>rfl
theorem zrs_len (l:List Wz):(zrs l).length=l.length*2:=rows_len zr_rows l
def Wz.zn (z:Wz):Zn:=⟨z.f,z.ws⟩
structure Dz where
 id:Int
 zs:List Wz
 i:Nat
 cap:Nat
 rest:List AV
 ns:List Nm
 tk:Nat
def ov (ns:List Nm)(tk:Nat):AV:=if ns=[] then .sl 0 [] .full else .sl ns.length (nmAV ns) (.own tk)
abbrev Dz.row (d:Dz):List AV:=[.int .i64 d.id,gv d.zs.length d.i d.cap,ov d.ns d.tk]
def Dz.bx (d:Dz):List (Nat×Blk):=gb d.zs.length d.i (zrs d.zs++d.rest)++d.zs.flatMap Wz.bx
def Dz.tx (d:Dz):List (Nat×(Nat×Nat)):=if d.ns=[] then [] else [(d.tk,(d.ns.length*2,2))]
def drs (l:List Dz):List AV:=l.flatMap Dz.row
theorem dr_rows:CellsK Dz.row 3:=fun _=>rfl
theorem drs_len (l:List Dz):(drs l).length=l.length*3:=rows_len dr_rows l
def Dz.dc (d:Dz):Dc:=⟨d.id,d.zs.map Wz.zn,d.ns⟩
def gOk (nb N n i cap z:Nat)(rest:List AV):Prop:=n≤N∧(n≠0→rest.length=(cap-n)*z∧n≤cap∧nb≤i)
structure DzOk (nb tb N:Nat)(d:Dz):Prop where
 z:gOk nb N d.zs.length d.i d.cap 2 d.rest
 w:∀z∈d.zs,gOk nb N z.ws.length z.i z.cap 2 z.rest
 n:d.ns.length≤N∧(d.ns≠[]→tb≤d.tk)
theorem gOk.more {nb N M n i cap z:Nat}{rest:List AV}(h:gOk nb N n i cap z rest)(hm:N≤M):gOk nb M n i cap z rest:=⟨Nat.le_trans h.1 hm,h.2⟩
theorem DzOk.more {nb tb N M:Nat}{d:Dz}(h:DzOk nb tb N d)(hm:N≤M):DzOk nb tb M d:=⟨h.z.more hm,fun z hz=>(h.w z hz).more hm,⟨Nat.le_trans h.n.1 hm,h.n.2⟩⟩
structure DS (H:List Blk)(T:Toks)(R:List (Nat×Blk))(bo N:Nat)(J:List Blk)(U:Toks)(D:List Dz):Prop where
 hJ:Has J (R++(bo,.cells (drs D))::D.flatMap Dz.bx)
 hU:Has U (D.flatMap Dz.tx)
 hD:∀d∈D,DzOk H.length T.length N d
 pJ:Pre H J
 pU:Pre T U
 ok:HOk J U
theorem DS.more {H:List Blk}{T:Toks}{R:List (Nat×Blk)}{bo N M:Nat}{J:List Blk}{U:Toks}{D:List Dz}(h:DS H T R bo N J U D)(hm:N≤M):DS H T R bo M J U D:=⟨h.hJ,h.hU,fun d hd=>(h.hD d hd).more hm,h.pJ,h.pU,h.ok⟩
theorem DS.sub {H:List Blk}{T:Toks}{R R':List (Nat×Blk)}{bo N:Nat}{J:List Blk}{U:Toks}{D:List Dz}(h:DS H T R bo N J U D)(hs:R'.Sublist R):DS H T R' bo N J U D:=⟨h.hJ.sub (hs.append_right _),h.hU,h.hD,h.pJ,h.pU,h.ok⟩
theorem DS.new {H:List Blk}{T:Toks}{R:List (Nat×Blk)}{bo N:Nat}{J:List Blk}{U:Toks}{D:List Dz}(h:DS H T R bo N J U D)(b:Blk)(ho:HOk (J++[b]) U):DS H T ((J.length,b)::R) bo N (J++[b]) U D:=
 ⟨(h.hJ.new b).perm (List.perm_append_singleton _ _).symm,h.hU,h.hD,h.pJ.app _,h.pU,ho⟩
theorem drs_at {D1 D2:List Dz}(d:Dz):(drs (D1++d::D2)).getD (D1.length*3) .top=.int .i64 d.id∧(drs (D1++d::D2)).getD (D1.length*3+1) .top=gv d.zs.length d.i d.cap∧(drs (D1++d::D2)).getD (D1.length*3+2) .top=ov d.ns d.tk:=by
 have h:=drs_len D1;have e:drs (D1++d::D2)=drs D1++(d.row++drs D2):=by simp[drs]
 rw[e];refine⟨?_,?_,?_⟩
 ·rw[List.getD_eq_getElem?_getD,List.getElem?_append_right (by omega),h,Nat.sub_self];rfl
 ·rw[List.getD_eq_getElem?_getD,List.getElem?_append_right (by omega),h,show D1.length*3+1-D1.length*3=1 by omega];rfl
 ·rw[List.getD_eq_getElem?_getD,List.getElem?_append_right (by omega),h,show D1.length*3+2-D1.length*3=2 by omega];rfl
theorem drs_set {D1 D2:List Dz}(d:Dz)(v:AV):(drs (D1++d::D2)).set (D1.length*3+1) v=drs D1++([.int .i64 d.id,v,ov d.ns d.tk]++drs D2)∧(drs (D1++d::D2)).set (D1.length*3+2) v=drs D1++([.int .i64 d.id,gv d.zs.length d.i d.cap,v]++drs D2):=by
 have h:=drs_len D1;have e:drs (D1++d::D2)=drs D1++(d.row++drs D2):=by simp[drs]
 rw[e]
 constructor
 ·rw[List.set_append_right _ _ (by omega),h,show D1.length*3+1-D1.length*3=1 by omega];rfl
 ·rw[List.set_append_right _ _ (by omega),h,show D1.length*3+2-D1.length*3=2 by omega];rfl
theorem zrs_at (l:List Wz)(z:Wz)(r:List AV):(zrs (l++[z])++r).getD (l.length*2) .top=.int .i64 z.f∧(zrs (l++[z])++r).getD (l.length*2+1) .top=gv z.ws.length z.i z.cap:=by
 have h:=zrs_len l;have e:zrs (l++[z])++r=zrs l++(z.row++r):=by simp[zrs]
 rw[e];refine⟨?_,?_⟩
 ·rw[List.getD_eq_getElem?_getD,List.getElem?_append_right (by omega),h,Nat.sub_self];rfl
 ·rw[List.getD_eq_getElem?_getD,List.getElem?_append_right (by omega),h,show l.length*2+1-l.length*2=1 by omega];rfl
theorem zrs_set (l:List Wz)(z:Wz)(r:List AV)(v:AV):(zrs (l++[z])++r).set (l.length*2+1) v=zrs l++([.int .i64 z.f,v]++r):=by
 have h:=zrs_len l;have e:zrs (l++[z])++r=zrs l++(z.row++r):=by simp[zrs]
 rw[e,List.set_append_right _ _ (by omega),h,show l.length*2+1-l.length*2=1 by omega];rfl
theorem grow {C:Cx}{o:Oper}{e:Env}{J:List Blk}{U:Toks}{κ:AV→List Blk→Toks→Prop}{t t2 el:TypeId}{n i cap z:Nat}{rows row rest:List AV}{x:AV}{A B:List (Nat×Blk)}{H:List Blk}
  (h0:n=0→acap0 C.P C.bx o e J=some (1,row,z)) (h1:n≠0→acap0 C.P C.bx o e J=none∧acap o e=some (t,t2,i,n,cap,x))
  (ht:C.P.underlying t=some (.slice el)) (hz:C.P.cellsOf el=z) (hx:n≠0→asrc J z x=some (1,row)) (hb:(n+1)*C.P.bytesOf el≤140737488355328) (hn:n+1≤9223372036854775807) (hi:notInt C.P t2=true) (ha:(azero C.P el).isSome=true)
  (hr:rows.length=n*z) (hJ:Has J (A++(gb n i (rows++rest)++B))) (hg:n≠0→rest.length=(cap-n)*z∧n≤cap∧H.length≤i) (hP:Pre H J)
  (k:∀(i2 cap2:Nat)(rest2:List AV)(J2:List Blk),Has J2 (A++((i2,.cells (rows++(row++rest2)))::B))→Pre H J2→J.length≤J2.length→rest2.length=(cap2-(n+1))*z→n+1≤cap2→H.length≤i2→κ (.csl i2 (n+1) cap2) J2 U):mexec C o e J U κ:=by
 unfold mexec;have hPl:=hP.le;rcases Nat.eq_zero_or_pos n with rfl|hp
 ·rw[h0 rfl];simp only;intro nc hnc;have hr0:rows=[]:=List.length_eq_zero_iff.1 (by omega);subst hr0;refine k J.length nc (List.replicate ((nc-1)*z) .top) _ ?_ (hP.app _) (by simp) (by simp) hnc hPl;have:=hJ.new (.cells (row++List.replicate ((nc-1)*z) .top));simp only[gb,if_pos,List.nil_append] at this;refine this.perm ?_;rw[List.append_assoc];exact(List.perm_append_singleton _ _).symm.append_left _
 ·obtain⟨a1,a2⟩:=h1 (by omega);obtain⟨g1,g2,g3⟩:=hg (by omega);rw[a1,a2];simp only;have hn0:n≠0:=by omega
  simp only[gb,if_neg hn0,List.singleton_append] at hJ;have gi:=hJ.get (i:=i) (b:=.cells (rows++rest)) (by simp);have htk:(rows++rest).take (n*z)=rows:=List.take_left' hr;have hdr:(rows++rest).drop ((n+1)*z)=rest.drop z:=by
   rw[List.drop_append,List.drop_of_length_le (by rw[hr,Nat.add_mul];omega),List.nil_append,hr]
   congr 1;rw[Nat.add_mul];omega
  refine⟨el,_,row,1,ht,gi,by rw[List.length_append,hr,g1,hz,←Nat.add_mul];congr 1;omega,by rw[hz];exact hx hn0,hb,hn,hi,ha,fun hle=>?_,fun nc hlt hnc=>?_⟩
  ·rw[hz,htk,hdr,List.append_assoc];refine k i cap (rest.drop z) _ ?_ (hP.set g3 _) (by simp) ?_ hle g3
   ·exact Has.set hJ _
   ·rw[List.length_drop,g1,←Nat.sub_one_mul];congr 1
  ·rw[hz,htk,List.append_assoc];refine k J.length nc (List.replicate ((nc-(n+1))*z) .top) _ ?_ (hP.app _) (by simp) (by simp) hnc hPl;have h2:Has J (A++B):=hJ.sub (List.Sublist.append_left (List.sublist_cons_self _ _) _);refine(h2.new _).perm ?_;rw[List.append_assoc];exact(List.perm_append_singleton _ _).symm.append_left _
open Sug
def opn (zs:List Zn)(f:Int):List Zn:=match zs.getLast? with
 |some z=>if z.f=f then zs else zs++[⟨f,[]⟩]
 |none=>[⟨f,[]⟩]
theorem opn_snoc (l:List Zn)(z:Zn)(f:Int):opn (l++[z]) f=if z.f=f then l++[z] else (l++[z])++[⟨f,[]⟩]:=by
 simp[opn]
theorem zpush (H : List Blk) (T : Toks) (ts : List Tm) (l : List Ps) (vi vj b1 bo bm nd p8 p10 : Nat) (N : Nat) (f : Int) (w : Bs) (lv : AV) (R : List (Nat × Blk)) (J : List Blk) (U : Toks) (D1 D2 : List Dz) (d : Dz)
    (hS : DS H T R bo N J U (D1 ++ d :: D2)) (hN : N ≤ 1099511627776) (hb1 : b1 < J.length) (hbm : bm < J.length) (hbo : H.length ≤ bo) (hp10 : p10 < J.length) (h8 : (p8, .cells [.int .i64 f, .str w, lv]) ∈ R) (Q : Exit → St → Prop)
    (go : ∀ (e : Env) (J' : List Blk) (d' : Dz) (zs : List Wz) (z : Wz), DS H T R bo (N + 1) J' U (D1 ++ d' :: D2) → J.length ≤ J'.length → d'.id = d.id → d'.ns = d.ns → d'.zs = zs ++ [z] → z.f = f → d'.dc.zs = opn d.dc.zs f →
      envLe J'.length U.length e [(1, .ptr b1 0), (3, .csl bo nd nd), (4, .mref bm), (51, .sl ts.length (tmAV ts) .none), (52, .int .i64 (ts.length : Nat)), (53, .int .i64 (vi : Nat)), (8, .ptr p8 0), (58, .sl l.length (psAV l) .none), (59, .int .i64 (l.length : Nat)), (60, .int .i64 (vj : Nat)), (10, .ptr p10 0), (11, .ptr bo (D1.length * 3)), (13, .ptr d'.i (zs.length * 2))] → AW ⟨Tryz.prog, 192, 190, H.length, T.length, [100100, 100131]⟩ (subC [1, 1, 1, 1, 1, 0, 1, 0, 0, 1, 1, 0, 0, 1, 1, 0, 0, 1, 1, 0, 0, 1, 1, 1, 1] (Tryz.f88.body.getD .skip)) Q ⟨e, J', U⟩) :
    AW ⟨Tryz.prog, 192, 190, H.length, T.length, [100100, 100131]⟩ (subC [1, 1, 1, 1, 1, 0, 1, 0, 0, 1, 1, 0, 0, 1, 1, 0, 0, 1, 1, 0, 0, 1, 1] (Tryz.f88.body.getD .skip)) Q ⟨[(1, .ptr b1 0), (3, .csl bo nd nd), (4, .mref bm), (51, .sl ts.length (tmAV ts) .none), (52, .int .i64 (ts.length : Nat)), (53, .int .i64 (vi : Nat)), (8, .ptr p8 0), (58, .sl l.length (psAV l) .none), (59, .int .i64 (l.length : Nat)), (60, .int .i64 (vj : Nat)), (10, .ptr p10 0), (11, .ptr bo (D1.length * 3))], J, U⟩ := by
  conv => arg 2; whnf
  have g8 := hS.hJ.get (List.mem_append_left _ h8);have go_ := hS.hJ.get (i := bo) (b := .cells (drs (D1 ++ d :: D2))) (by simp);have l8 := (List.getElem?_eq_some_iff.1 g8).1;have lo := (List.getElem?_eq_some_iff.1 go_).1;have e8 := at_of g8;have eo := at_of go_;have lH := hS.pJ.le;have lT := hS.pU.le;obtain ⟨r1, r2, r3⟩ := drs_at (D1 := D1) (D2 := D2) d;have hrl : (drs (D1 ++ d :: D2)).length = (D1.length + 1 + D2.length) * 3 := by rw [drs_len]; simp; omega
  have hset := fun v => (drs_set (D1 := D1) (D2 := D2) d v).1;obtain ⟨id, zs, i, cap, rest, ns, tk⟩ := d;simp only at r1 r2 r3 hset;have hok := hS.hD ⟨id, zs, i, cap, rest, ns, tk⟩ (by simp);obtain ⟨⟨z1, z2⟩, z3, z4⟩ := hok;simp only at z1 z2 z3 z4;refine aw_then fun K1 hK1 => ?_;have fin : ∀ (e : Env) (J2 : List Blk) (zs' : List Wz) (z : Wz) (i2 cap2 : Nat) (rest2 : List AV), (HOk J2 U → DS H T R bo (N + 1) J2 U (D1 ++ ⟨id, zs' ++ [z], i2, cap2, rest2, ns, tk⟩ :: D2)) → J.length ≤ J2.length → z.f = f → (zs' ++ [z]).map Wz.zn = opn (zs.map Wz.zn) f →
      envLe J2.length U.length e [(1, .ptr b1 0), (3, .csl bo nd nd), (4, .mref bm), (51, .sl ts.length (tmAV ts) .none), (52, .int .i64 (ts.length : Nat)), (53, .int .i64 (vi : Nat)), (8, .ptr p8 0), (58, .sl l.length (psAV l) .none), (59, .int .i64 (l.length : Nat)), (60, .int .i64 (vj : Nat)), (10, .ptr p10 0), (11, .ptr bo (D1.length * 3))] → K1 ⟨e, J2, U⟩ := by
    intro e J2 zs' z i2 cap2 rest2 hS2 hl2 hzf hop he;refine hK1 _ ?_; clear hK1;refine aw_hok fun HO2 => ?_;replace hS2 := hS2 HO2;refine aw_weak ⟨[(1, .ptr b1 0), (3, .csl bo nd nd), (4, .mref bm), (51, .sl ts.length (tmAV ts) .none), (52, .int .i64 (ts.length : Nat)), (53, .int .i64 (vi : Nat)), (8, .ptr p8 0), (58, .sl l.length (psAV l) .none), (59, .int .i64 (l.length : Nat)), (60, .int .i64 (vj : Nat)), (10, .ptr p10 0), (11, .ptr bo (D1.length * 3))], J2, U⟩ (weak_to [] [] (by simp) (by simp) (by show H.length ≤ _; omega) (by show T.length ≤ _; omega) hS2.ok he) ?_;have g2 := hS2.hJ.get (i := bo) (b := .cells (drs (D1 ++ ⟨id, zs' ++ [z], i2, cap2, rest2, ns, tk⟩ :: D2))) (by simp);have l2 := (List.getElem?_eq_some_iff.1 g2).1;have e2 := at_of g2;obtain ⟨s1, s2, s3⟩ := drs_at (D1 := D1) (D2 := D2) ⟨id, zs' ++ [z], i2, cap2, rest2, ns, tk⟩;simp only [gv, List.length_append, List.length_singleton, Nat.succ_ne_zero, if_false] at s2;have hrl2 : (drs (D1 ++ ⟨id, zs' ++ [z], i2, cap2, rest2, ns, tk⟩ :: D2)).length = (D1.length + 1 + D2.length) * 3 := by rw [drs_len]; simp; omega
    have gz := hS2.hJ.get (i := i2) (b := .cells (zrs (zs' ++ [z]) ++ rest2)) (by simp [Dz.bx, gb]);have lz := (List.getElem?_eq_some_iff.1 gz).1;have ez := at_of gz;have hzl : (zrs (zs' ++ [z]) ++ rest2).length = (zs'.length + 1) * 2 + rest2.length := by rw [List.length_append, zrs_len, List.length_append, List.length_singleton]
    have hzn : zs'.length + 1 ≤ N + 1 := by
      have := (hS2.hD ⟨id, zs' ++ [z], i2, cap2, rest2, ns, tk⟩ (by simp)).z.1;simpa using this
    refine aw_draw [] [] [] drawMixed (by kernel_rfl) (by kernel_rfl) fun K hK => ?_; simp (maxSteps := 1000000) (disch := omega) [-List.getD_eq_getElem?_getD, e2, s2, hrl2];refine hK _ ?_;refine go _ _ ⟨id, zs' ++ [z], i2, cap2, rest2, ns, tk⟩ zs' z hS2 hl2 rfl rfl rfl hzf hop ?_;simp;omega
  have push : opn (zs.map Wz.zn) f = zs.map Wz.zn ++ [⟨f, []⟩] → ∀ (Q' : Exit → St → Prop), (∀ s, K1 s → Q' .normal s) → ∀ e : Env, envLe J.length U.length e [(1, .ptr b1 0), (3, .csl bo nd nd), (4, .mref bm), (51, .sl ts.length (tmAV ts) .none), (52, .int .i64 (ts.length : Nat)), (53, .int .i64 (vi : Nat)), (8, .ptr p8 0), (58, .sl l.length (psAV l) .none), (59, .int .i64 (l.length : Nat)), (60, .int .i64 (vj : Nat)), (10, .ptr p10 0), (11, .ptr bo (D1.length * 3))] → AW ⟨Tryz.prog, 192, 190, H.length, T.length, [100100, 100131]⟩ (subC [1, 1, 1, 1, 1, 0, 1, 0, 0, 1, 1, 0, 0, 1, 1, 0, 0, 1, 1, 0, 0, 1, 1, 0, 1, 1, 0] (Tryz.f88.body.getD .skip)) Q' ⟨e, J, U⟩ := by
    intro hop Q' hQ e he
    conv => arg 2; whnf
    refine aw_weak ⟨[(1, .ptr b1 0), (3, .csl bo nd nd), (4, .mref bm), (51, .sl ts.length (tmAV ts) .none), (52, .int .i64 (ts.length : Nat)), (53, .int .i64 (vi : Nat)), (8, .ptr p8 0), (58, .sl l.length (psAV l) .none), (59, .int .i64 (l.length : Nat)), (60, .int .i64 (vj : Nat)), (10, .ptr p10 0), (11, .ptr bo (D1.length * 3))], J, U⟩ (weak_to [] [] (by simp) (by simp) (by show H.length ≤ _; omega) (by show T.length ≤ _; omega) hS.ok he) ?_;refine aw_drawM0 9 [9, 12] [0, 0, 0, 0, 0, 0, 0, 0, 0, 0, 1, 1, 1] [[0], []] drawMixed (by kernel_rfl) (by kernel_rfl) (by kernel_rfl) fun K hK => ?_;simp (maxSteps := 1000000) (disch := omega) [-List.getD_eq_getElem?_getD, -mexec, eo, e8, r2, hrl];have hJb : Has J ((R ++ (bo, .cells (drs (D1 ++ ⟨id, zs, i, cap, rest, ns, tk⟩ :: D2))) :: D1.flatMap Dz.bx) ++ (gb zs.length i (zrs zs ++ rest) ++ (zs.flatMap Wz.bx ++ D2.flatMap Dz.bx))) := by simpa [Dz.bx] using hS.hJ
    refine grow (t := 23) (t2 := 23) (el := 117) (z := 2) (row := [.int .i64 f, .sl 0 [] .full]) (x := .sl 1 [.int .i64 f, .sl 0 [] .full] .full) (fun h => by simp [gv, h]) (fun h => by simp [gv, h]) (by kernel_rfl) (by kernel_rfl) (fun _ => by simp) ?_ ?_ (by kernel_rfl) (by kernel_rfl) (zrs_len _) hJb z2 hS.pJ fun i2 cap2 rest2 J2 hJ2 hP2 hl2 hr2 hc2 hi2 => ?_
    · rw [show Tryz.prog.bytesOf 117 = 32 by kernel_rfl]; omega
    · omega
    have g2 := hJ2.get (i := bo) (b := .cells (drs (D1 ++ ⟨id, zs, i, cap, rest, ns, tk⟩ :: D2))) (by simp);have l2 := (List.getElem?_eq_some_iff.1 g2).1;have e2 := at_of g2;simp (maxSteps := 1000000) (disch := omega) [-List.getD_eq_getElem?_getD, e2, hrl, hset];refine hK _ (hQ _ ?_);have hdr : drs (D1 ++ ⟨id, zs ++ [⟨f, [], 0, 0, []⟩], i2, cap2, rest2, ns, tk⟩ :: D2) = drs D1 ++ AV.int .i64 id :: .csl i2 (zs.length + 1) cap2 :: ov ns tk :: drs D2 := by simp [drs, gv]
    rw [← hdr];refine fin _ _ zs ⟨f, [], 0, 0, []⟩ i2 cap2 rest2 (fun ho => ⟨?_, ?_, ?_, hP2.set hbo _, hS.pU, ho⟩) (by simp; omega) rfl (by rw [hop]; simp [Wz.zn]) ?_
    · have hbx : Dz.bx ⟨id, zs ++ [⟨f, [], 0, 0, []⟩], i2, cap2, rest2, ns, tk⟩ = (i2, .cells (zrs zs ++ ([.int .i64 f, .sl 0 [] .full] ++ rest2))) :: zs.flatMap Wz.bx := by simp [Dz.bx, gb, zrs, Wz.bx, gv]
      have := Has.set (A := R) (B := D1.flatMap Dz.bx ++ ((i2, .cells (zrs zs ++ ([.int .i64 f, .sl 0 [] .full] ++ rest2))) :: (zs.flatMap Wz.bx ++ D2.flatMap Dz.bx))) (by simpa using hJ2) (.cells (drs (D1 ++ ⟨id, zs ++ [⟨f, [], 0, 0, []⟩], i2, cap2, rest2, ns, tk⟩ :: D2)));rw [List.flatMap_append, List.flatMap_cons, hbx];simpa using this
    · simpa [Dz.tx] using hS.hU
    · intro x hx;rcases List.mem_append.1 hx with hx | hx
      · exact (hS.hD x (by simp [hx])).more (Nat.le_succ _)
      rcases List.mem_cons.1 hx with rfl | hx
      · refine ⟨⟨by simp; omega, fun _ => by simpa using ⟨hr2, hc2, hi2⟩⟩, fun z hz => ?_, ⟨by show ns.length ≤ _; omega, z4.2⟩⟩;rcases List.mem_append.1 hz with hz | hz
        · exact (z3 z hz).more (Nat.le_succ _)
        · obtain rfl := List.mem_singleton.1 hz;exact ⟨Nat.zero_le _, fun h => absurd rfl h⟩
      · exact (hS.hD x (by simp [hx])).more (Nat.le_succ _)
    · simp; omega
  rcases List.eq_nil_or_concat zs with hz | ⟨zs0, z0, hz⟩
  · subst hz;simp only [gv, List.length_nil, if_true] at r2;refine aw_reg fun K hK => ?_; simp (maxSteps := 1000000) (disch := omega) [-List.getD_eq_getElem?_getD, eo, r2, hrl]; refine hK _ ?_; clear hK K;refine aw_draw [] [] [] drawMixed (by kernel_rfl) (by kernel_rfl) fun K hK => ?_; simp (maxSteps := 1000000) (disch := omega) [-List.getD_eq_getElem?_getD, eo, r2, hrl];refine hK _ ?_; clear hK K;refine aw_if rfl (fun h => ?_) (fun h => absurd h (by simp));refine push (by simp [opn]) _ (fun s h => ?_) _ ?_
    · exact h
    · simp; omega
  · rw [List.concat_eq_append] at hz;subst hz;simp only [gv, List.length_append, List.length_singleton, Nat.succ_ne_zero, if_false] at r2;have gz := hS.hJ.get (i := i) (b := .cells (zrs (zs0 ++ [z0]) ++ rest)) (by simp [Dz.bx, gb]);have lz := (List.getElem?_eq_some_iff.1 gz).1;have ez := at_of gz;have hzl : (zrs (zs0 ++ [z0]) ++ rest).length = (zs0.length + 1) * 2 + rest.length := by rw [List.length_append, zrs_len, List.length_append, List.length_singleton]
    obtain ⟨y1, y2⟩ := zrs_at zs0 z0 rest;have z1q : zs0.length + 1 ≤ N := by simpa using z1
    have bn : (((zs0.length : Int) + 1) == 0) = false := beq_eq_false_iff_ne.2 (by omega);have bn' : ¬ ((zs0.length : Int) + 1) = 0 := by omega
    by_cases hf : z0.f = f
    · have bd : (z0.f != f) = false := by simpa using hf
      refine aw_reg fun K hK => ?_; simp (maxSteps := 1000000) (disch := omega) [-List.getD_eq_getElem?_getD, eo, r2, hrl]; refine hK _ ?_; clear hK K;refine aw_draw [] [] [] drawMixed (by kernel_rfl) (by kernel_rfl) fun K hK => ?_; simp (maxSteps := 1000000) (disch := omega) [-List.getD_eq_getElem?_getD, eo, e8, r2, hrl, bn, bn', ez, hzl, y1, bd];refine hK _ ?_; clear hK K;refine aw_if rfl (fun h => absurd h (by simp)) (fun h => ?_);apply aw_skip; simp (maxSteps := 1000000) (disch := omega) [-List.getD_eq_getElem?_getD];refine fin _ _ zs0 z0 i cap rest (fun ho => hS.more (Nat.le_succ _)) (Nat.le_refl _) hf ?_ ?_
      · rw [List.map_append, List.map_singleton, opn_snoc, if_pos (show z0.zn.f = f from hf)]
      · simp; omega
    · have bd : (z0.f != f) = true := by simpa using hf
      refine aw_reg fun K hK => ?_; simp (maxSteps := 1000000) (disch := omega) [-List.getD_eq_getElem?_getD, eo, r2, hrl]; refine hK _ ?_; clear hK K;refine aw_draw [] [] [] drawMixed (by kernel_rfl) (by kernel_rfl) fun K hK => ?_; simp (maxSteps := 1000000) (disch := omega) [-List.getD_eq_getElem?_getD, eo, e8, r2, hrl, bn, bn', ez, hzl, y1, bd];refine hK _ ?_; clear hK K;refine aw_if rfl (fun h => ?_) (fun h => absurd h (by simp));refine push ?_ _ (fun s h => ?_) _ ?_
      · rw [List.map_append, List.map_singleton, opn_snoc, if_neg (show ¬ z0.zn.f = f from hf)]
      · exact h
      · simp; omega
attribute [-simp] List.getD_eq_getElem?_getD in
theorem wpush (H:List Blk)(T:Toks)(ts:List Tm)(l:List Ps)(vi vj b1 bo bm nd p8 p10:Nat)(N:Nat)(f a:Int)(w:Bs)(lv:AV)(at_:List Int)(vk:Nat)(R:List (Nat×Blk))(J:List Blk)(U:Toks)(D1 D2:List Dz)(d:Dz)(zs:List Wz)(z:Wz)
  (hS:DS H T R bo N J U (D1++d::D2)) (hz:d.zs=zs++[z]) (hN:N≤1099511627776) (hal:at_.length≤1000) (hvk:vk<at_.length) (hb1:b1<J.length) (hbm:bm<J.length) (hp10:p10<J.length) (h8:(p8,.cells [.int .i64 f,.str w,lv])∈R) (Q:Exit→St→Prop)
  (go:∀(e:Env)(J':List Blk)(d':Dz)(z':Wz),(HOk J' U→DS H T R bo (N+1) J' U (D1++d'::D2))→J.length≤J'.length→d'.id=d.id→d'.ns=d.ns→d'.zs=zs++[z']→d'.i=d.i→z'.f=z.f→z'.ws=z.ws++[(w,at_.getD vk 0)]→
   envLe J'.length U.length e [(1,.ptr b1 0),(3,.csl bo nd nd),(4,.mref bm),(51,.sl ts.length (tmAV ts) .none),(52,.int .i64 (ts.length:Nat)),(53,.int .i64 (vi:Nat)),(8,.ptr p8 0),(58,.sl l.length (psAV l) .none),(59,.int .i64 (l.length:Nat)),(60,.int .i64 (vj:Nat)),(10,.ptr p10 0),(11,.ptr bo (D1.length*3)),(13,.ptr d.i (zs.length*2)),(115,.sl at_.length (ints at_) .none),(116,.int .i64 (at_.length:Nat)),(117,.int .i64 (vk:Nat))]→Q .normal ⟨e,J',U⟩) :
  AW ⟨Tryz.prog,192,190,H.length,T.length,[100100,100131]⟩ (subC [1,1,1,1,1,0,1,0,0,1,1,0,0,1,1,0,0,1,1,0,0,1,1,1,1,1,0,0,1,1,0,0] (Tryz.f88.body.getD .skip)) Q ⟨[(1,.ptr b1 0),(3,.csl bo nd nd),(4,.mref bm),(51,.sl ts.length (tmAV ts) .none),(52,.int .i64 (ts.length:Nat)),(53,.int .i64 (vi:Nat)),(8,.ptr p8 0),(58,.sl l.length (psAV l) .none),(59,.int .i64 (l.length:Nat)),(60,.int .i64 (vj:Nat)),(10,.ptr p10 0),(11,.ptr bo (D1.length*3)),(13,.ptr d.i (zs.length*2)),(115,.sl at_.length (ints at_) .none),(116,.int .i64 (at_.length:Nat)),(117,.int .i64 (vk:Nat))],J,U⟩:=by
 conv=>arg 2;whnf
 have hvk2:vk<(ints at_).length:=by simpa using hvk
 have hga:=getD_ints (xs:=at_) (k:=vk) hvk;generalize at_.getD vk 0=p at *;obtain⟨id,zs1,i,cap,rest,ns,tk⟩:=d;simp only at hz;subst hz;have g8:=hS.hJ.get (List.mem_append_left _ h8);have go_:=hS.hJ.get (i:=bo) (b:=.cells (drs (D1++⟨id,zs++[z],i,cap,rest,ns,tk⟩::D2))) (by simp);have gz:=hS.hJ.get (i:=i) (b:=.cells (zrs (zs++[z])++rest)) (by simp[Dz.bx,gb]);have l8:=(List.getElem?_eq_some_iff.1 g8).1;have lo:=(List.getElem?_eq_some_iff.1 go_).1;have lz:=(List.getElem?_eq_some_iff.1 gz).1;have e8:=at_of g8;have ez:=at_of gz;have lH:=hS.pJ.le;have lT:=hS.pU.le;have hzl:(zrs (zs++[z])++rest).length=(zs.length+1)*2+rest.length:=by rw[List.length_append,zrs_len,List.length_append,List.length_singleton]
 obtain⟨y1,y2⟩:=zrs_at zs z rest;have hset:=fun v=>zrs_set zs z rest v;obtain⟨⟨z1,z2⟩,z3,z4⟩:=hS.hD ⟨id,zs++[z],i,cap,rest,ns,tk⟩ (by simp);simp only at z1 z2 z3 z4;obtain⟨q1,q2⟩:=z3 z (by simp);obtain⟨zf,ws,zi,zc,zr⟩:=z;simp only at q1 q2 y1 y2 hset;refine aw_reg fun K hK=>?_;simp(disch:=omega)[hga];apply hK;clear hK K;refine aw_drawM0 10 [10,13] [0,0,0,0,0,0,0,0,0,0,0,1,1,1] [[0],[]] drawMixed (by kernel_rfl) (by kernel_rfl) (by kernel_rfl) fun K hK=>?_;simp(disch:=omega)[-mexec,e8,ez,y2,hzl];have hJb:Has J ((R++(bo,.cells (drs (D1++⟨id,zs++[⟨zf,ws,zi,zc,zr⟩],i,cap,rest,ns,tk⟩::D2)))::(D1.flatMap Dz.bx++((i,.cells (zrs (zs++[⟨zf,ws,zi,zc,zr⟩])++rest))::zs.flatMap Wz.bx)))++(gb ws.length zi (wdAV ws++zr)++D2.flatMap Dz.bx)):=by simpa[Dz.bx,gb,Wz.bx] using hS.hJ
 refine grow (t:=115) (t2:=115) (el:=136) (z:=2) (row:=[.str w,.int .i64 p]) (x:=.sl 1 [.str w,.int .i64 p] .full) (fun h=>by simp[gv,h]) (fun h=>by simp[gv,h]) (by kernel_rfl) (by kernel_rfl) (fun _=>by simp) ?_ ?_ (by kernel_rfl) (by kernel_rfl) (wdAV_len _) hJb q2 hS.pJ fun i2 cap2 rest2 J2 hJ2 hP2 hl2 hr2 hc2 hi2=>?_
 ·rw[show Tryz.prog.bytesOf 136=24 by kernel_rfl];omega
 ·omega
 have g2:=hJ2.get (i:=i) (b:=.cells (zrs (zs++[⟨zf,ws,zi,zc,zr⟩])++rest)) (by simp);have l2:=(List.getElem?_eq_some_iff.1 g2).1;have e2:=at_of g2;simp(disch:=omega)[e2,hzl,hset];refine hK _ ?_;have hz2:zrs zs++AV.int IntKind.i64 zf::AV.csl i2 (ws.length+1) cap2::rest=zrs (zs++[⟨zf,ws++[(w,p)],i2,cap2,rest2⟩])++rest:=by simp[zrs,gv]
 rw[hz2];refine go _ _ ⟨id,zs++[⟨zf,ws++[(w,p)],i2,cap2,rest2⟩],i,cap,rest,ns,tk⟩ ⟨zf,ws++[(w,p)],i2,cap2,rest2⟩ (fun ho=>⟨?_,?_,?_,hP2.set ?_ _,hS.pU,ho⟩) (by simp;omega) rfl rfl rfl rfl rfl rfl ?_
 ·have hbx:Dz.bx ⟨id,zs++[⟨zf,ws++[(w,p)],i2,cap2,rest2⟩],i,cap,rest,ns,tk⟩=(i,.cells (zrs (zs++[⟨zf,ws++[(w,p)],i2,cap2,rest2⟩])++rest))::(zs.flatMap Wz.bx++[(i2,.cells (wdAV ws++([.str w,.int .i64 p]++rest2)))]):=by
   simp[Dz.bx,gb,Wz.bx,←wdAV_snoc]
  have hdr:drs (D1++⟨id,zs++[⟨zf,ws++[(w,p)],i2,cap2,rest2⟩],i,cap,rest,ns,tk⟩::D2)=drs (D1++⟨id,zs++[⟨zf,ws,zi,zc,zr⟩],i,cap,rest,ns,tk⟩::D2):=by simp[drs]
  have:=Has.set (A:=R++(bo,.cells (drs (D1++⟨id,zs++[⟨zf,ws,zi,zc,zr⟩],i,cap,rest,ns,tk⟩::D2)))::D1.flatMap Dz.bx) (B:=zs.flatMap Wz.bx++((i2,.cells (wdAV ws++([.str w,.int .i64 p]++rest2)))::D2.flatMap Dz.bx)) (by simpa using hJ2) (.cells (zrs (zs++[⟨zf,ws++[(w,p)],i2,cap2,rest2⟩])++rest));rw[List.flatMap_append,List.flatMap_cons,hbx,hdr];simpa using this
 ·simpa[Dz.tx] using hS.hU
 ·intro x hx;rcases List.mem_append.1 hx with hx|hx
  ·exact(hS.hD x (by simp[hx])).more (Nat.le_succ _)
  rcases List.mem_cons.1 hx with rfl|hx
  ·refine⟨⟨by simp at z1 ⊢;omega,fun _=>by simpa using z2 (by simp)⟩,fun y hy=>?_,⟨by show ns.length≤_;omega,z4.2⟩⟩;rcases List.mem_append.1 hy with hy|hy
   ·exact(z3 y (by simp[hy])).more (Nat.le_succ _)
   ·obtain rfl:=List.mem_singleton.1 hy;exact⟨by simp;omega,fun h=>by simpa using⟨hr2,hc2,hi2⟩⟩
  ·exact(hS.hD x (by simp[hx])).more (Nat.le_succ _)
 ·exact(z2 (by simp)).2.2
 ·simp;omega
def addZ (zs:List Zn)(f:Int)(ws:List Wd):List Zn:=match (opn zs f).getLast? with
 |some z=>(opn zs f).dropLast++[⟨z.f,z.ws++ws⟩]
 |none=>[]
theorem addZ_of {zs l:List Zn}{f:Int}{z:Zn}(h:opn zs f=l++[z])(ws:List Wd):addZ zs f ws=l++[⟨z.f,z.ws++ws⟩]:=by
 unfold addZ;rw[h];simp
def addW (f:Int)(ws:List Wd)(d:Dc):Dc:={ d with zs:=addZ d.zs f ws }
def addN (x:Nm)(d:Dc):Dc:={ d with ns:=d.ns++[x] }
def updD (L:List Dc)(id:Int)(g:Dc→Dc):List Dc:=L.map fun d=>if d.id=id then g d else d
def stepP (f:Int)(w:Bs)(L:List Dc)(p:Ps):List Dc:=updD L p.1 (addW f (p.2.map fun a=>(w,a)))
def stepT (L:List Dc)(t:Tm):List Dc:=t.l.foldl (stepP t.f t.w) L
def stepI (f:Int)(L:List Dc)(x:Nm):List Dc:=updD L x.2 (addN (f,x.1))
def stepC (L:List Dc)(c:Cl):List Dc:=c.x.foldl (stepI c.f) L
theorem foldl_takeD {α β:Type}(g:β→α→β)(l:List α)(b:β)(d:α)(j:Nat)(h:j<l.length):(l.take (j+1)).foldl g b=g ((l.take j).foldl g b) (l.getD j d):=by
 rw[take_getD l j d h,List.foldl_append];rfl
theorem updD_mid {D1 D2:List Dz}{d d':Dz}{g:Dc→Dc}(hn:((D1++d::D2).map (·.id)).Nodup)(hg:d'.dc=g d.dc):(D1++d'::D2).map Dz.dc=updD ((D1++d::D2).map Dz.dc) d.id g:=by
 rw[List.map_append,List.map_cons,List.nodup_append,List.nodup_cons] at hn;obtain⟨_,⟨n1,_⟩,n2⟩:=hn;have e1:∀x∈D1,(if x.dc.id=d.id then g x.dc else x.dc)=x.dc:=fun x hx=>if_neg fun h=>n2 x.id (List.mem_map.2 ⟨x,hx,rfl⟩) d.id (by simp) h;have e2:∀x∈D2,(if x.dc.id=d.id then g x.dc else x.dc)=x.dc:=fun x hx=>if_neg fun h=>n1 (List.mem_map.2 ⟨x,hx,h⟩);unfold updD;rw[List.map_map,List.map_append,List.map_append,List.map_cons,List.map_cons]
 congr 1
 ·exact List.map_congr_left fun x hx=>(e1 x hx).symm
 ·congr 1
  ·show d'.dc=if d.dc.id=d.id then g d.dc else d.dc
   rw[if_pos (show d.dc.id=d.id from rfl),hg]
  ·exact List.map_congr_left fun x hx=>(e2 x hx).symm
def mapE (ids:List Int):List (MKey×AV):=(List.range ids.length).map fun k=>(keyF (ids.getD k 0),.int .i64 (k:Nat))
theorem mapE_keys (ids:List Int):(mapE ids).map (·.1)=ids.map keyF:=by
 unfold mapE;apply List.ext_getElem
 ·simp
 ·intro i h1 h2;simp at h1;simp[List.getD_eq_getElem?_getD,List.getElem?_eq_getElem h1]
theorem mapE_get {ids:List Int}(hn:ids.Nodup){k:Nat}(hk:k<ids.length):lookV (mapE ids) (.one (.int .i64 (ids.getD k 0))) (.int .i64 0) false=.int .i64 (k:Nat):=by
 have hn':((mapE ids).map (·.1)).Nodup:=by rw[mapE_keys];exact nodup_map (fun a b hab=>keyF_inj.1 hab) hn
 have hj:k<(mapE ids).length:=by simpa[mapE] using hk
 have he:(mapE ids)[k]'hj=(keyF (ids.getD k 0),.int .i64 (k:Nat)):=by simp[mapE]
 unfold lookV;rw[show (MKey.one (.int .i64 (ids.getD k 0)):MKey)=keyF (ids.getD k 0) from rfl,mget_at hn' hj (by rw[he]),he];rfl
theorem fitD {ids:List Int}(h:∀i∈ids,1≤i∧i≤1000000000):keysFit Tryz.prog 3 (mapE ids)=true:=by
 unfold keysFit;rw[List.all_eq_true];intro x hx;have:x.1∈(mapE ids).map (·.1):=List.mem_map.2 ⟨x,hx,rfl⟩;rw[mapE_keys] at this;obtain⟨i,hi,e⟩:=List.mem_map.1 this;rw[←e];have:=h i hi;exact fitF i (by omega)
attribute [-simp] List.getD_eq_getElem?_getD in
theorem pos_loop (H:List Blk)(T:Toks)(ts:List Tm)(l:List Ps)(vi vj b1 bo bm nd p8 p10:Nat)(N:Nat)(f id:Int)(w:Bs)(lv:AV)(at_:List Int)(R:List (Nat×Blk))(J:List Blk)(U:Toks)(D1 D2:List Dz)(d:Dz)(zs:List Wz)(z:Wz)
  (hS:DS H T R bo N J U (D1++d::D2)) (hz:d.zs=zs++[z]) (hN:N+at_.length≤1099511627776) (hal:at_.length≤1000) (hb1:b1<J.length) (hbm:bm<J.length) (h8:(p8,.cells [.int .i64 f,.str w,lv])∈R) (h10:(p10,.cells [.int .i64 id,.sl at_.length (ints at_) .none])∈R) (Q:Exit→St→Prop)
  (go:∀(e:Env)(J':List Blk)(d':Dz)(z':Wz),DS H T R bo (N+at_.length) J' U (D1++d'::D2)→J.length≤J'.length→d'.id=d.id→d'.ns=d.ns→d'.zs=zs++[z']→z'.f=z.f→z'.ws=z.ws++at_.map (fun a=>(w,a))→
   envLe J'.length U.length e [(1,.ptr b1 0),(3,.csl bo nd nd),(4,.mref bm),(51,.sl ts.length (tmAV ts) .none),(52,.int .i64 (ts.length:Nat)),(53,.int .i64 (vi:Nat)),(8,.ptr p8 0),(58,.sl l.length (psAV l) .none),(59,.int .i64 (l.length:Nat)),(60,.int .i64 (vj:Nat))]→Q .normal ⟨e,J',U⟩) :
  AW ⟨Tryz.prog,192,190,H.length,T.length,[100100,100131]⟩ (subC [1,1,1,1,1,0,1,0,0,1,1,0,0,1,1,0,0,1,1,0,0,1,1,1,1] (Tryz.f88.body.getD .skip)) Q ⟨[(1,.ptr b1 0),(3,.csl bo nd nd),(4,.mref bm),(51,.sl ts.length (tmAV ts) .none),(52,.int .i64 (ts.length:Nat)),(53,.int .i64 (vi:Nat)),(8,.ptr p8 0),(58,.sl l.length (psAV l) .none),(59,.int .i64 (l.length:Nat)),(60,.int .i64 (vj:Nat)),(10,.ptr p10 0),(11,.ptr bo (D1.length*3)),(13,.ptr d.i (zs.length*2))],J,U⟩:=by
 conv=>arg 2;whnf
 have g10:=hS.hJ.get (List.mem_append_left _ h10);have l10:=(List.getElem?_eq_some_iff.1 g10).1;have e10:=at_of g10;have lo:=hS.hJ.lt (i:=bo) (b:=.cells (drs (D1++d::D2))) (by simp);have l8:=hS.hJ.lt (List.mem_append_left _ h8);have lH:=hS.pJ.le;have lT:=hS.pU.le;have ldi:d.i<J.length:=hS.hJ.lt (b:=.cells (zrs d.zs++d.rest)) (by simp[Dz.bx,gb,hz]);refine aw_reg fun K hK=>?_;simp(disch:=omega)[e10];apply hK;clear hK K;apply aw_block;refine aw_loop (X:=Nat×List Blk×Dz×Wz) (fun x=>⟨[(1,.ptr b1 0),(3,.csl bo nd nd),(4,.mref bm),(51,.sl ts.length (tmAV ts) .none),(52,.int .i64 (ts.length:Nat)),(53,.int .i64 (vi:Nat)),(8,.ptr p8 0),(58,.sl l.length (psAV l) .none),(59,.int .i64 (l.length:Nat)),(60,.int .i64 (vj:Nat)),(10,.ptr p10 0),(11,.ptr bo (D1.length*3)),(13,.ptr d.i (zs.length*2)),(115,.sl at_.length (ints at_) .none),(116,.int .i64 (at_.length:Nat)),(117,.int .i64 (x.1:Nat))],x.2.1,U⟩)
  (fun x=>x.1≤at_.length∧DS H T R bo (N+x.1) x.2.1 U (D1++x.2.2.1::D2)∧J.length≤x.2.1.length∧(x.2.2.1.id=d.id∧x.2.2.1.ns=d.ns∧x.2.2.1.i=d.i)∧x.2.2.1.zs=zs++[x.2.2.2]∧x.2.2.2.f=z.f∧x.2.2.2.ws=z.ws++(at_.take x.1).map (fun a=>(w,a))) (fun x=>at_.length-x.1) (0,J,d,z) ?_ ?_ ?_
 ·exact⟨Nat.zero_le _,hS,Nat.le_refl _,⟨rfl,rfl,rfl⟩,hz,rfl,by simp⟩
 ·refine weak_to [] [] ?_ ?_ ?_ ?_ hS.ok ?_
  all_goals simp
  all_goals omega
 ·rintro⟨k,J2,d2,z2⟩ ⟨k1,k2,k3,⟨k4,k5,k6⟩,k7,k8,k9⟩;simp only at k1 k2 k3 k4 k5 k6 k7 k8 k9;have lH2:=k2.pJ.le;have lT2:=k2.pU.le;apply aw_reg;intro K h;simp(disch:=omega);apply h;clear h K;refine aw_then fun K2 hK2=>?_;refine aw_if rfl (fun hk5=>?_) (fun hk5=>?_)
  ·simp  at hk5;apply aw_skip;simp(disch:=omega) ;apply hK2;clear hK2;refine aw_then fun K3 hK3=>?_;apply aw_block;rw[←k6];refine aw_weak ⟨[(1,.ptr b1 0),(3,.csl bo nd nd),(4,.mref bm),(51,.sl ts.length (tmAV ts) .none),(52,.int .i64 (ts.length:Nat)),(53,.int .i64 (vi:Nat)),(8,.ptr p8 0),(58,.sl l.length (psAV l) .none),(59,.int .i64 (l.length:Nat)),(60,.int .i64 (vj:Nat)),(10,.ptr p10 0),(11,.ptr bo (D1.length*3)),(13,.ptr d2.i (zs.length*2)),(115,.sl at_.length (ints at_) .none),(116,.int .i64 (at_.length:Nat)),(117,.int .i64 (k:Nat))],J2,U⟩ (weak_to [] [] (by simp) (by simp) (by show H.length≤_;omega) (by show T.length≤_;omega) k2.ok (by simp;omega)) ?_;refine wpush H T ts l vi vj b1 bo bm nd p8 p10 (N+k) f (at_.getD k 0) w lv at_ k R J2 U D1 D2 d2 zs z2 k2 k7 (by omega) hal hk5 (by omega) (by omega) (by omega) h8 _ fun e J' d' z' a1 a2 a3 a4 a5 a6 a7 a8 a9=>?_;refine hK3 _ (aw_hok fun HO3=>?_);replace a1:=a1 HO3;have lH3:=a1.pJ.le;have lT3:=a1.pU.le;refine aw_weak ⟨[(1,.ptr b1 0),(3,.csl bo nd nd),(4,.mref bm),(51,.sl ts.length (tmAV ts) .none),(52,.int .i64 (ts.length:Nat)),(53,.int .i64 (vi:Nat)),(8,.ptr p8 0),(58,.sl l.length (psAV l) .none),(59,.int .i64 (l.length:Nat)),(60,.int .i64 (vj:Nat)),(10,.ptr p10 0),(11,.ptr bo (D1.length*3)),(13,.ptr d2.i (zs.length*2)),(115,.sl at_.length (ints at_) .none),(116,.int .i64 (at_.length:Nat)),(117,.int .i64 (k:Nat))],J',U⟩ (weak_to [] [] (by simp) (by simp) (by show H.length≤_;omega) (by show T.length≤_;omega) a1.ok a9) ?_;clear hK3;refine aw_reg0 fun K hK=>?_;simp(disch:=omega) ;apply hK;clear hK K;refine⟨(k+1,J',d',z'),⟨by show k+1≤_;omega,a1,by show J.length≤J'.length;omega,⟨a3.trans k4,a4.trans k5,a6.trans k6⟩,a5,a7.trans k8,?_⟩,by show at_.length-(k+1)<at_.length-k;omega,?_⟩
   ·show z'.ws=z.ws++(at_.take (k+1)).map _;rw[a8,k9,take_getD at_ k 0 hk5,List.map_append,List.append_assoc];rfl
   ·rw[←k6];refine weak_to [] [] ?_ ?_ ?_ ?_ a1.ok ?_
    all_goals simp
    all_goals omega
  ·simp  at hk5;have hkk:k=at_.length:=by omega
   subst hkk;apply aw_exit;simp(disch:=omega) ;rw[List.take_length] at k9;refine go _ J2 d2 z2 k2 k3 k4 k5 k7 k8 k9 ?_;simp;omega
theorem split_at {D:List Dz}{k:Nat}(hk:k<D.length):∃D1 d D2,D=D1++d::D2∧D1.length=k:=by
 refine⟨D.take k,D[k],D.drop (k+1),?_,by simp;omega⟩;rw[List.getElem_cons_drop,List.take_append_drop]
theorem post_step (H:List Blk)(T:Toks)(ts:List Tm)(l:List Ps)(vi vj b1 bo bm nd p8:Nat)(N:Nat)(f:Int)(w:Bs)(lv:AV)(ids:List Int)(R:List (Nat×Blk))(J:List Blk)(U:Toks)(D:List Dz)
  (hS:DS H T R bo N J U D) (hids:D.map (·.id)=ids) (hnd:ids.Nodup) (hft:∀i∈ids,1≤i∧i≤1000000000) (hndl:nd=ids.length) (hk:vj<l.length) (hll:l.length≤1000) (hpm:(l.getD vj p0).1∈ids) (hpl:(l.getD vj p0).2.length≤1000) (hN:N+1001≤1099511627776) (hb1:b1<J.length) (hbo:H.length≤bo)
  (hm:(bm,.map (mapE ids))∈R) (h8:(p8,.cells [.int .i64 f,.str w,lv])∈R) (Q:Exit→St→Prop)
  (go:∀(e:Env)(J':List Blk)(D':List Dz),DS H T R bo (N+1001) J' U D'→J.length≤J'.length→D'.map (·.id)=ids→D'.map Dz.dc=stepP f w (D.map Dz.dc) (l.getD vj p0)→
   envLe J'.length U.length e [(1,.ptr b1 0),(3,.csl bo nd nd),(4,.mref bm),(51,.sl ts.length (tmAV ts) .none),(52,.int .i64 (ts.length:Nat)),(53,.int .i64 (vi:Nat)),(8,.ptr p8 0),(58,.sl l.length (psAV l) .none),(59,.int .i64 (l.length:Nat)),(60,.int .i64 (vj:Nat))]→Q .normal ⟨e,J',U⟩) :
  AW ⟨Tryz.prog,192,190,H.length,T.length,[100100,100131]⟩ (subC [1,1,1,1,1,0,1,0,0,1,1,0,0,1,1,0,0,1,1,0,0] (Tryz.f88.body.getD .skip)) Q ⟨[(1,.ptr b1 0),(3,.csl bo nd nd),(4,.mref bm),(51,.sl ts.length (tmAV ts) .none),(52,.int .i64 (ts.length:Nat)),(53,.int .i64 (vi:Nat)),(8,.ptr p8 0),(58,.sl l.length (psAV l) .none),(59,.int .i64 (l.length:Nat)),(60,.int .i64 (vj:Nat))],J,U⟩:=by
 conv=>arg 2;whnf
 have gm:=hS.hJ.get (List.mem_append_left _ hm);have lm:=(List.getElem?_eq_some_iff.1 gm).1;have l8:=hS.hJ.lt (List.mem_append_left _ h8);have lo:=hS.hJ.lt (i:=bo) (b:=.cells (drs D)) (by simp);have lH:=hS.pJ.le;have lT:=hS.pU.le;have hcut:=psAV_cut l vj hk;generalize l.getD vj p0=p at *;obtain⟨pd,ps⟩:=p;simp only at hcut hpm hpl go;have hpl':ps.length≤9223372036854775807:=by omega
 refine aw_reg fun K hK=>?_;simp(disch:=omega)[-List.getD_eq_getElem?_getD,hcut,psAV_len];apply hK;clear hK K;have ho1:HOk (J++[.cells [.int .i64 pd,.sl ps.length (ints ps) .none]]) U:=hS.ok.snoc (by simp);have hS2:=hS.new _ ho1;have hll2:(J++[Blk.cells [.int .i64 pd,.sl ps.length (ints ps) .none]]).length=J.length+1:=by simp
 obtain⟨p10,h10⟩:∃i,i=J.length:=⟨_,rfl⟩
 rw[←h10] at hS2;simp only[←h10];generalize J++[Blk.cells [.int .i64 pd,.sl ps.length (ints ps) .none]]=J1 at *;obtain⟨k,hkl,hkp⟩:=mem_getD 0 hpm;have hDl:D.length=ids.length:=by rw[←hids,List.length_map]
 obtain⟨D1,d,D2,hD,hD1⟩:=split_at (D:=D) (k:=k) (by omega);have hdid:d.id=pd:=by
  rw[←hkp,←hids,hD,List.getD_eq_getElem?_getD,List.getElem?_map,List.getElem?_append_right (by omega),hD1,Nat.sub_self];rfl
 subst hD;have g10:=hS2.hJ.get (i:=p10) (b:=.cells [.int .i64 pd,.sl ps.length (ints ps) .none]) (by simp);have g2:=hS2.hJ.get (i:=bm) (b:=.map (mapE ids)) (by simp[hm]);have l10:=(List.getElem?_eq_some_iff.1 g10).1;have l2:=(List.getElem?_eq_some_iff.1 g2).1;have e10:=at_of g10;have e2:=at_of g2;have hlook:=mapE_get hnd hkl;rw[hkp] at hlook;have hfm:=fitD hft;have hfi:=fitF pd (by have:=hft pd hpm;omega);have hkey:keyF pd=.one (.int .i64 pd):=rfl;rw[hkey] at hfi;have hkn:k<nd:=by omega
 refine aw_reg fun K hK=>?_;simp(disch:=omega)[-List.getD_eq_getElem?_getD,mapT216,e10,e2,hlook,hfm,hfi];apply hK;clear hK K;subst hD1;refine aw_weak ⟨[(1,.ptr b1 0),(3,.csl bo nd nd),(4,.mref bm),(51,.sl ts.length (tmAV ts) .none),(52,.int .i64 (ts.length:Nat)),(53,.int .i64 (vi:Nat)),(8,.ptr p8 0),(58,.sl l.length (psAV l) .none),(59,.int .i64 (l.length:Nat)),(60,.int .i64 (vj:Nat)),(10,.ptr p10 0),(11,.ptr bo (D1.length*3))],J1,U⟩ (weak_to [] [] (by simp) (by simp) (by show H.length≤_;omega) (by show T.length≤_;omega) hS2.ok (by simp;omega)) ?_;refine zpush H T ts l vi vj b1 bo bm nd p8 p10 N f w lv _ J1 U D1 D2 d hS2 (by omega) (by omega) (by omega) hbo (by omega) (by simp[h8]) Q fun e J' d' zs z c1 c2 c3 c4 c5 c6 c7 c8=>?_;have lH3:=c1.pJ.le;have lT3:=c1.pU.le;refine aw_weak ⟨[(1,.ptr b1 0),(3,.csl bo nd nd),(4,.mref bm),(51,.sl ts.length (tmAV ts) .none),(52,.int .i64 (ts.length:Nat)),(53,.int .i64 (vi:Nat)),(8,.ptr p8 0),(58,.sl l.length (psAV l) .none),(59,.int .i64 (l.length:Nat)),(60,.int .i64 (vj:Nat)),(10,.ptr p10 0),(11,.ptr bo (D1.length*3)),(13,.ptr d'.i (zs.length*2))],J',U⟩ (weak_to [] [] (by simp) (by simp) (by show H.length≤_;omega) (by show T.length≤_;omega) c1.ok c8) ?_;refine pos_loop H T ts l vi vj b1 bo bm nd p8 p10 (N+1) f pd w lv ps _ J' U D1 D2 d' zs z c1 c5 (by omega) (by omega) (by omega) (by omega) (by simp[h8]) (by simp) Q fun e J2 d2 z2 q1 q2 q3 q4 q5 q6 q7 q8=>?_;refine go e J2 (D1++d2::D2) ((q1.more (by omega)).sub (by simp)) (by omega) ?_ ?_ q8
 ·rw[←hids];simp[q3,c3]
 ·unfold stepP;simp only;rw[←hdid];refine updD_mid (by rw[hids];exact hnd) ?_;have e1:=addZ_of (zs:=d.dc.zs) (l:=zs.map Wz.zn) (z:=z.zn) (f:=f) (by rw[←c7];simp[Dz.dc,c5]) (ps.map fun a=>(w,a));have e2:d2.dc.zs=zs.map Wz.zn++[⟨z.f,z.ws++ps.map fun a=>(w,a)⟩]:=by simp[Dz.dc,q5,Wz.zn,q6,q7]
  have e3:d2.dc=⟨d.id,d2.dc.zs,d.ns⟩:=by show (⟨d2.id,_,d2.ns⟩:Dc)=_;rw[q3,c3,q4,c4];rfl
  rw[e3,e2];show _=(⟨d.id,addZ d.dc.zs f _,d.ns⟩:Dc);rw[e1];rfl
attribute [-simp] List.getD_eq_getElem?_getD in
theorem term_step (H:List Blk)(T:Toks)(ts:List Tm)(vi b1 bo bm nd:Nat)(N:Nat)(ids:List Int)(R:List (Nat×Blk))(J:List Blk)(U:Toks)(D:List Dz)
  (hS:DS H T R bo N J U D) (hids:D.map (·.id)=ids) (hndl:nd=ids.length) (hnd:ids.Nodup) (hft:∀i∈ids,1≤i∧i≤1000000000) (hk:vi<ts.length) (hll:(ts.getD vi t0).l.length≤1000) (hpm:∀p∈(ts.getD vi t0).l,p.1∈ids∧p.2.length≤1000) (hN:N+1001000≤1099511627776) (hb1:b1<J.length) (hbo:H.length≤bo)
  (hm:(bm,.map (mapE ids))∈R) (Q:Exit→St→Prop)
  (go:∀(e:Env)(J':List Blk)(D':List Dz),DS H T R bo (N+1001000) J' U D'→J.length≤J'.length→D'.map (·.id)=ids→D'.map Dz.dc=stepT (D.map Dz.dc) (ts.getD vi t0)→
   envLe J'.length U.length e [(1,.ptr b1 0),(3,.csl bo nd nd),(4,.mref bm),(51,.sl ts.length (tmAV ts) .none),(52,.int .i64 (ts.length:Nat)),(53,.int .i64 (vi:Nat))]→Q .normal ⟨e,J',U⟩) :
  AW ⟨Tryz.prog,192,190,H.length,T.length,[100100,100131]⟩ (subC [1,1,1,1,1,0,1,0,0,1,1,0,0] (Tryz.f88.body.getD .skip)) Q ⟨[(1,.ptr b1 0),(3,.csl bo nd nd),(4,.mref bm),(51,.sl ts.length (tmAV ts) .none),(52,.int .i64 (ts.length:Nat)),(53,.int .i64 (vi:Nat))],J,U⟩:=by
 conv=>arg 2;whnf
 have lm:=hS.hJ.lt (List.mem_append_left _ hm);have lo:=hS.hJ.lt (i:=bo) (b:=.cells (drs D)) (by simp);have lH:=hS.pJ.le;have lT:=hS.pU.le;have hcut:=tmAV_cut ts vi hk;generalize ts.getD vi t0=t at *;obtain⟨f,w,l⟩:=t;simp only at hcut hll hpm go;have hll':l.length≤9223372036854775807:=by omega
 refine aw_reg fun K hK=>?_;simp(disch:=omega)[hcut,tmAV_len];apply hK;clear hK K;have ho1:HOk (J++[.cells [.int .i64 f,.str w,.sl l.length (psAV l) .none]]) U:=hS.ok.snoc (by simp);have hS2:=hS.new _ ho1;have hll2:(J++[Blk.cells [.int .i64 f,.str w,.sl l.length (psAV l) .none]]).length=J.length+1:=by simp
 obtain⟨p8,h8⟩:∃i,i=J.length:=⟨_,rfl⟩
 rw[←h8] at hS2;simp only[←h8];generalize J++[Blk.cells [.int .i64 f,.str w,.sl l.length (psAV l) .none]]=J1 at *;have g8:=hS2.hJ.get (i:=p8) (b:=.cells [.int .i64 f,.str w,.sl l.length (psAV l) .none]) (by simp);have l8:=(List.getElem?_eq_some_iff.1 g8).1;have e8:=at_of g8;refine aw_reg fun K hK=>?_;simp(disch:=omega)[e8];apply hK;clear hK K;apply aw_block;refine aw_loop (X:=Nat×List Blk×List Dz) (fun x=>⟨[(1,.ptr b1 0),(3,.csl bo nd nd),(4,.mref bm),(51,.sl ts.length (tmAV ts) .none),(52,.int .i64 (ts.length:Nat)),(53,.int .i64 (vi:Nat)),(8,.ptr p8 0),(58,.sl l.length (psAV l) .none),(59,.int .i64 (l.length:Nat)),(60,.int .i64 (x.1:Nat))],x.2.1,U⟩)
  (fun x=>x.1≤l.length∧DS H T ((p8,.cells [.int .i64 f,.str w,.sl l.length (psAV l) .none])::R) bo (N+1001*x.1) x.2.1 U x.2.2∧J1.length≤x.2.1.length∧x.2.2.map (·.id)=ids∧x.2.2.map Dz.dc=(l.take x.1).foldl (stepP f w) (D.map Dz.dc)) (fun x=>l.length-x.1) (0,J1,D) ?_ ?_ ?_
 ·exact⟨Nat.zero_le _,hS2,Nat.le_refl _,hids,by simp⟩
 ·refine weak_to [] [] ?_ ?_ ?_ ?_ hS2.ok ?_
  all_goals simp
  all_goals omega
 ·rintro⟨k,J2,D2⟩ ⟨k1,k2,k3,k4,k5⟩;simp only at k1 k2 k3 k4 k5;have lH2:=k2.pJ.le;have lT2:=k2.pU.le;apply aw_reg;intro K h;simp(disch:=omega);apply h;clear h K;refine aw_then fun K2 hK2=>?_;refine aw_if rfl (fun hk5=>?_) (fun hk5=>?_)
  ·simp  at hk5;have hp:=hpm _ (getD_mem l k p0 hk5);apply aw_skip;simp(disch:=omega) ;apply hK2;clear hK2;refine aw_then fun K3 hK3=>?_;apply aw_block;refine aw_weak ⟨[(1,.ptr b1 0),(3,.csl bo nd nd),(4,.mref bm),(51,.sl ts.length (tmAV ts) .none),(52,.int .i64 (ts.length:Nat)),(53,.int .i64 (vi:Nat)),(8,.ptr p8 0),(58,.sl l.length (psAV l) .none),(59,.int .i64 (l.length:Nat)),(60,.int .i64 (k:Nat))],J2,U⟩ (weak_to [] [] (by simp) (by simp) (by show H.length≤_;omega) (by show T.length≤_;omega) k2.ok (by simp;omega)) ?_;refine post_step H T ts l vi k b1 bo bm nd p8 (N+1001*k) f w _ ids _ J2 U D2 k2 k4 hnd hft hndl hk5 (by omega) hp.1 hp.2 (by omega) (by omega) hbo (by simp[hm]) (List.mem_cons_self ..) _ fun e J' D' a1 a2 a3 a4 a5=>?_;have lH3:=a1.pJ.le;have lT3:=a1.pU.le;refine hK3 _ (aw_weak ⟨[(1,.ptr b1 0),(3,.csl bo nd nd),(4,.mref bm),(51,.sl ts.length (tmAV ts) .none),(52,.int .i64 (ts.length:Nat)),(53,.int .i64 (vi:Nat)),(8,.ptr p8 0),(58,.sl l.length (psAV l) .none),(59,.int .i64 (l.length:Nat)),(60,.int .i64 (k:Nat))],J',U⟩ (weak_to [] [] (by simp) (by simp) (by show H.length≤_;omega) (by show T.length≤_;omega) a1.ok a5) ?_);clear hK3;refine aw_reg0 fun K hK=>?_;simp(disch:=omega) ;apply hK;clear hK K;refine⟨(k+1,J',D'),⟨by show k+1≤_;omega,a1.more (by omega),by show J1.length≤J'.length;omega,a3,?_⟩,by show l.length-(k+1)<l.length-k;omega,?_⟩
   ·show D'.map Dz.dc=(l.take (k+1)).foldl _ _;rw[foldl_takeD _ _ _ p0 k hk5,a4,k5]
   ·refine weak_to [] [] ?_ ?_ ?_ ?_ a1.ok ?_
    all_goals simp
    all_goals omega
  ·simp  at hk5;have hkk:k=l.length:=by omega
   subst hkk;apply aw_exit;simp(disch:=omega) ;rw[List.take_length] at k5;refine go _ J2 D2 ((k2.more (by omega)).sub (by simp)) (by omega) k4 k5 ?_;simp;omega
attribute [-simp] List.getD_eq_getElem?_getD in
theorem terms_loop39 (H:List Blk)(T:Toks)(s:Sg)(b1 bo bm nd:Nat)(N:Nat)(ids:List Int)(R:List (Nat×Blk))(J:List Blk)(U:Toks)(D:List Dz)
  (hS:DS H T R bo N J U D) (hids:D.map (·.id)=ids) (hndl:nd=ids.length) (hnd:ids.Nodup) (hft:∀i∈ids,1≤i∧i≤1000000000) (hs:SzS s) (hpm:∀t∈s.tms,∀p∈t.l,p.1∈ids) (hN:N+1001000000≤1099511627776) (h1:(b1,.cells (sgC s))∈R) (hbo:H.length≤bo)
  (hm:(bm,.map (mapE ids))∈R) (Q:Exit→St→Prop)
  (go:∀(e:Env)(J':List Blk)(D':List Dz),DS H T R bo (N+1001000000) J' U D'→D'.map (·.id)=ids→D'.map Dz.dc=s.tms.foldl stepT (D.map Dz.dc)→
   envLe J'.length U.length e [(1,.ptr b1 0),(3,.csl bo nd nd),(4,.mref bm)]→AW ⟨Tryz.prog,192,190,H.length,T.length,[100100,100131]⟩ (subC [1,1,1,1,1,1] (Tryz.f88.body.getD .skip)) Q ⟨e,J',U⟩) :
  AW ⟨Tryz.prog,192,190,H.length,T.length,[100100,100131]⟩ (subC [1,1,1,1,1] (Tryz.f88.body.getD .skip)) Q ⟨[(1,.ptr b1 0),(3,.csl bo nd nd),(4,.mref bm)],J,U⟩:=by
 conv=>arg 2;whnf
 have lm:=hS.hJ.lt (List.mem_append_left _ hm);have lo:=hS.hJ.lt (i:=bo) (b:=.cells (drs D)) (by simp);have g1:=hS.hJ.get (List.mem_append_left _ h1);have l1:=(List.getElem?_eq_some_iff.1 g1).1;have e1:=at_of g1;have lH:=hS.pJ.le;have lT:=hS.pU.le;obtain⟨docs,ts,cols⟩:=s;obtain⟨sd,st,sw,sc,sx⟩:=hs;simp only at e1 sd st sw sc sx hpm go;have htl:ts.length≤9223372036854775807:=by omega
 refine aw_then fun K1 hK1=>?_;refine aw_reg fun K hK=>?_;simp(disch:=omega)[e1];apply hK;clear hK K;apply aw_block;refine aw_loop (X:=Nat×List Blk×List Dz) (fun x=>⟨[(1,.ptr b1 0),(3,.csl bo nd nd),(4,.mref bm),(51,.sl ts.length (tmAV ts) .none),(52,.int .i64 (ts.length:Nat)),(53,.int .i64 (x.1:Nat))],x.2.1,U⟩)
  (fun x=>x.1≤ts.length∧DS H T R bo (N+1001000*x.1) x.2.1 U x.2.2∧J.length≤x.2.1.length∧x.2.2.map (·.id)=ids∧x.2.2.map Dz.dc=(ts.take x.1).foldl stepT (D.map Dz.dc)) (fun x=>ts.length-x.1) (0,J,D) ?_ ?_ ?_
 ·exact⟨Nat.zero_le _,hS,Nat.le_refl _,hids,by simp⟩
 ·refine weak_to [] [] ?_ ?_ ?_ ?_ hS.ok ?_
  all_goals simp
  all_goals omega
 ·rintro⟨k,J2,D2⟩ ⟨k1,k2,k3,k4,k5⟩;simp only at k1 k2 k3 k4 k5;have lH2:=k2.pJ.le;have lT2:=k2.pU.le;apply aw_reg;intro K h;simp(disch:=omega);apply h;clear h K;refine aw_then fun K2 hK2=>?_;refine aw_if rfl (fun hk5=>?_) (fun hk5=>?_)
  ·simp  at hk5;have htm:=getD_mem ts k t0 hk5;have hw:=sw _ htm;apply aw_skip;simp(disch:=omega) ;apply hK2;clear hK2;refine aw_then fun K3 hK3=>?_;apply aw_block;refine aw_weak ⟨[(1,.ptr b1 0),(3,.csl bo nd nd),(4,.mref bm),(51,.sl ts.length (tmAV ts) .none),(52,.int .i64 (ts.length:Nat)),(53,.int .i64 (k:Nat))],J2,U⟩ (weak_to [] [] (by simp) (by simp) (by show H.length≤_;omega) (by show T.length≤_;omega) k2.ok (by simp;omega)) ?_;refine term_step H T ts k b1 bo bm nd (N+1001000*k) ids _ J2 U D2 k2 k4 hndl hnd hft hk5 hw.2.1 (fun p hp=>⟨hpm _ htm p hp,hw.2.2 p hp⟩) (by omega) (by omega) hbo hm _ fun e J' D' a1 a2 a3 a4 a5=>?_;have lH3:=a1.pJ.le;have lT3:=a1.pU.le;refine hK3 _ (aw_weak ⟨[(1,.ptr b1 0),(3,.csl bo nd nd),(4,.mref bm),(51,.sl ts.length (tmAV ts) .none),(52,.int .i64 (ts.length:Nat)),(53,.int .i64 (k:Nat))],J',U⟩ (weak_to [] [] (by simp) (by simp) (by show H.length≤_;omega) (by show T.length≤_;omega) a1.ok a5) ?_);clear hK3;refine aw_reg0 fun K hK=>?_;simp(disch:=omega) ;apply hK;clear hK K;refine⟨(k+1,J',D'),⟨by show k+1≤_;omega,a1.more (by omega),by show J.length≤J'.length;omega,a3,?_⟩,by show ts.length-(k+1)<ts.length-k;omega,?_⟩
   ·show D'.map Dz.dc=(ts.take (k+1)).foldl _ _;rw[foldl_takeD _ _ _ t0 k hk5,a4,k5]
   ·refine weak_to [] [] ?_ ?_ ?_ ?_ a1.ok ?_
    all_goals simp
    all_goals omega
  ·simp  at hk5;have hkk:k=ts.length:=by omega
   subst hkk;apply aw_exit;simp(disch:=omega) ;rw[List.take_length] at k5;apply hK1;clear hK1;refine go _ J2 D2 (k2.more (by omega)) k4 k5 ?_;simp;omega
attribute [-simp] List.getD_eq_getElem?_getD in
theorem item_step (H:List Blk)(T:Toks)(cols:List Cl)(x:List Nm)(vi vk b1 bo bm nd p17:Nat)(N:Nat)(f:Int)(xv:AV)(ids:List Int)(R:List (Nat×Blk))(J:List Blk)(U:Toks)(D:List Dz)
  (hS:DS H T R bo N J U D) (hids:D.map (·.id)=ids) (hndl:nd=ids.length) (hnd:ids.Nodup) (hft:∀i∈ids,1≤i∧i≤1000000000) (hk:vk<x.length) (hll:x.length≤1000) (hpm:(x.getD vk n0).2∈ids) (hN:N+1≤1099511627776) (hb1:b1<J.length) (hbo:H.length≤bo)
  (hm:(bm,.map (mapE ids))∈R) (h17:(p17,.cells [.int .i64 f,xv])∈R) (Q:Exit→St→Prop)
  (go:∀(e:Env)(J':List Blk)(U':Toks)(D':List Dz),(HOk J' U'→DS H T R bo (N+1) J' U' D')→J.length≤J'.length→D'.map (·.id)=ids→D'.map Dz.dc=stepI f (D.map Dz.dc) (x.getD vk n0)→
   envLe J'.length U'.length e [(1,.ptr b1 0),(3,.csl bo nd nd),(4,.mref bm),(138,.sl cols.length (clAV cols) .none),(139,.int .i64 (cols.length:Nat)),(140,.int .i64 (vi:Nat)),(17,.ptr p17 0),(145,.sl x.length (nmAV x) .none),(146,.int .i64 (x.length:Nat)),(147,.int .i64 (vk:Nat))]→Q .normal ⟨e,J',U'⟩) :
  AW ⟨Tryz.prog,192,190,H.length,T.length,[100100,100131]⟩ (subC [1,1,1,1,1,1,0,1,0,0,1,1,0,0,1,1,0,0,1,1,0,0] (Tryz.f88.body.getD .skip)) Q ⟨[(1,.ptr b1 0),(3,.csl bo nd nd),(4,.mref bm),(138,.sl cols.length (clAV cols) .none),(139,.int .i64 (cols.length:Nat)),(140,.int .i64 (vi:Nat)),(17,.ptr p17 0),(145,.sl x.length (nmAV x) .none),(146,.int .i64 (x.length:Nat)),(147,.int .i64 (vk:Nat))],J,U⟩:=by
 conv=>arg 2;whnf
 have lm:=hS.hJ.lt (List.mem_append_left _ hm);have l17:=hS.hJ.lt (List.mem_append_left _ h17);have lo:=hS.hJ.lt (i:=bo) (b:=.cells (drs D)) (by simp);have lH:=hS.pJ.le;have lT:=hS.pU.le;have hcut:=nmAV_cut x vk hk;generalize x.getD vk n0=y at *;obtain⟨yn,yd⟩:=y;simp only at hcut hpm go;refine aw_reg fun K hK=>?_;simp(disch:=omega)[hcut,nmAV_len];apply hK;clear hK K;have ho1:HOk (J++[.cells [.int .i64 yn,.int .i64 yd]]) U:=hS.ok.snoc (by simp);have hS2:=hS.new _ ho1;have hll2:(J++[Blk.cells [.int .i64 yn,.int .i64 yd]]).length=J.length+1:=by simp
 obtain⟨p19,h19⟩:∃i,i=J.length:=⟨_,rfl⟩
 rw[←h19] at hS2;simp only[←h19];generalize J++[Blk.cells [.int .i64 yn,.int .i64 yd]]=J1 at *;obtain⟨k,hkl,hkp⟩:=mem_getD 0 hpm;have hDl:D.length=ids.length:=by rw[←hids,List.length_map]
 obtain⟨D1,d,D2,hD,hD1⟩:=split_at (D:=D) (k:=k) (by omega);have hdid:d.id=yd:=by
  rw[←hkp,←hids,hD,List.getD_eq_getElem?_getD,List.getElem?_map,List.getElem?_append_right (by omega),hD1,Nat.sub_self];rfl
 subst hD;have g19:=hS2.hJ.get (i:=p19) (b:=.cells [.int .i64 yn,.int .i64 yd]) (by simp);have g17:=hS2.hJ.get (i:=p17) (b:=.cells [.int .i64 f,xv]) (by simp[h17]);have g2:=hS2.hJ.get (i:=bm) (b:=.map (mapE ids)) (by simp[hm]);have go_:=hS2.hJ.get (i:=bo) (b:=.cells (drs (D1++d::D2))) (by simp);have l19:=(List.getElem?_eq_some_iff.1 g19).1;have l17':=(List.getElem?_eq_some_iff.1 g17).1;have l2:=(List.getElem?_eq_some_iff.1 g2).1;have lo':=(List.getElem?_eq_some_iff.1 go_).1;have e19:=at_of g19;have e17:=at_of g17;have e2:=at_of g2;have eo:=at_of go_;have hlook:=mapE_get hnd hkl;rw[hkp] at hlook;have hfm:=fitD hft;have hfi:=fitF yd (by have:=hft yd hpm;omega);have hkey:keyF yd=.one (.int .i64 yd):=rfl;rw[hkey] at hfi;have hkn:k<nd:=by omega
 refine aw_reg fun K hK=>?_;simp(disch:=omega)[mapT216,e19,e2,hlook,hfm,hfi];apply hK;clear hK K;subst hD1;obtain⟨r1,r2,r3⟩:=drs_at (D1:=D1) (D2:=D2) d;have hrl:(drs (D1++d::D2)).length=(D1.length+1+D2.length)*3:=by rw[drs_len];simp;omega
 have hset:=fun v=>(drs_set (D1:=D1) (D2:=D2) d v).2;obtain⟨hz1,hz2,hz3,hz4⟩:=hS2.hD d (by simp);obtain⟨id,zs,i,cap,rest,ns,tk⟩:=d;simp only at r1 r2 r3 hset hdid hz1 hz2 hz3 hz4;have hT:(D1++⟨id,zs,i,cap,rest,ns,tk⟩::D2).flatMap Dz.tx=D1.flatMap Dz.tx++(Dz.tx ⟨id,zs,i,cap,rest,ns,tk⟩++D2.flatMap Dz.tx):=by simp
 have hU2:=hS2.hU;rw[hT] at hU2;have fin:∀(e:Env)(U2:Toks)(tk2:Nat),Has U2 (D1.flatMap Dz.tx++((tk2,((ns.length+1)*2,2))::D2.flatMap Dz.tx))→T.length≤tk2→Pre T U2→U.length≤U2.length→
   envLe J1.length U2.length e [(1,.ptr b1 0),(3,.csl bo nd nd),(4,.mref bm),(138,.sl cols.length (clAV cols) .none),(139,.int .i64 (cols.length:Nat)),(140,.int .i64 (vi:Nat)),(17,.ptr p17 0),(145,.sl x.length (nmAV x) .none),(146,.int .i64 (x.length:Nat)),(147,.int .i64 (vk:Nat))]→Q .normal ⟨e,J1.set bo (.cells (drs D1++([.int .i64 id,gv zs.length i cap,.sl (ns.length+1) (nmAV (ns++[(f,yn)])) (.own tk2)]++drs D2))),U2⟩:=by
  intro e U2 tk2 hU' htk hP hUl he;have hdr:drs (D1++⟨id,zs,i,cap,rest,ns++[(f,yn)],tk2⟩::D2)=drs D1++([.int .i64 id,gv zs.length i cap,.sl (ns.length+1) (nmAV (ns++[(f,yn)])) (.own tk2)]++drs D2):=by simp[drs,ov]
  rw[←hdr];refine go _ _ _ (D1++⟨id,zs,i,cap,rest,ns++[(f,yn)],tk2⟩::D2) (fun ho=>⟨?_,?_,?_,hS2.pJ.set hbo _,hP,ho⟩) (by simp;omega) ?_ ?_ (by simpa using he)
  ·have:=Has.set (A:=(p19,.cells [.int .i64 yn,.int .i64 yd])::R) (B:=(D1++⟨id,zs,i,cap,rest,ns,tk⟩::D2).flatMap Dz.bx) hS2.hJ (.cells (drs (D1++⟨id,zs,i,cap,rest,ns++[(f,yn)],tk2⟩::D2)));have h2:=this.sub ((List.sublist_cons_self (p19,Blk.cells [.int .i64 yn,.int .i64 yd]) R).append_right _);simpa[Dz.bx] using h2
  ·rw[List.flatMap_append,List.flatMap_cons];simpa[Dz.tx] using hU'
  ·intro y hy;rcases List.mem_append.1 hy with hy|hy
   ·exact(hS2.hD y (by simp[hy])).more (Nat.le_succ _)
   rcases List.mem_cons.1 hy with rfl|hy
   ·exact⟨hz1.more (Nat.le_succ _),fun z hz=>(hz2 z hz).more (Nat.le_succ _),⟨by simp;omega,fun _=>htk⟩⟩
   ·exact(hS2.hD y (by simp[hy])).more (Nat.le_succ _)
  ·rw[←hids];simp
  ·unfold stepI;simp only;rw[←hdid];exact updD_mid (d:=⟨id,zs,i,cap,rest,ns,tk⟩) (by rw[hids];exact hnd) (by simp[Dz.dc,addN])
 rcases List.eq_nil_or_concat ns with hn|⟨ns0,x0,hn⟩
 ·subst hn;simp only[ov,if_true] at r3;simp only[Dz.tx,if_true,List.nil_append] at hU2;refine aw_draw0 [11,14] [0,0,0,0,0,0,0,0,0,0,0,0,1,1,1] [[0],[]] drawMixed (by kernel_rfl) (by kernel_rfl) fun K hK=>?_;simp(disch:=omega)[eo,r3,hrl,e17,e19,hset];refine hK _ (fin _ _ U.length ?_ lT (hS2.pU.app _) (by simp) (by simp;omega));have:=hU2.new (2,2);refine this.perm ?_;rw[List.append_assoc];exact(List.perm_append_singleton _ _).symm.append_left _
 ·rw[List.concat_eq_append] at hn;subst hn;have hne:¬ns0++[x0]=[]:=by simp
  simp only[ov,if_neg hne] at r3;simp only[Dz.tx,if_neg hne,List.singleton_append] at hU2;have gU:=hU2.get (i:=tk) (b:=((ns0++[x0]).length*2,2)) (by simp);have lU:=(List.getElem?_eq_some_iff.1 gU).1;have eU:=at_of gU;have hnl:=nmAV_len (ns0++[x0]);have hq:ns0.length+1≤N:=by simpa using hz3
  have hsn:=nmAV_snoc (ns0++[x0]) (f,yn);simp only at hsn;refine aw_draw0 [11,14] [0,0,0,0,0,0,0,0,0,0,0,0,1,1,1] [[0],[]] drawMixed (by kernel_rfl) (by kernel_rfl) fun K hK=>?_;simp(disch:=omega)[eo,r3,hrl,e17,e19,hset,eU,hnl,hsn];simp only[List.length_append,List.length_singleton] at fin;have hap:ns0++[x0,(f,yn)]=ns0++[x0]++[(f,yn)]:=by simp
  first|rw[hap]|skip
  refine hK _ ?_;refine fin _ (U.set tk ((ns0.length+1+1)*2,2)) tk ?_ (hz4 hne) (hS2.pU.set (hz4 hne) _) (by simp) ?_
  ·have:=Has.set hU2 ((ns0.length+1+1)*2,2);simpa using this
  ·simp;omega
attribute [-simp] List.getD_eq_getElem?_getD in
theorem col_step (H:List Blk)(T:Toks)(cols:List Cl)(vi b1 bo bm nd:Nat)(N:Nat)(ids:List Int)(R:List (Nat×Blk))(J:List Blk)(U:Toks)(D:List Dz)
  (hS:DS H T R bo N J U D) (hids:D.map (·.id)=ids) (hndl:nd=ids.length) (hnd:ids.Nodup) (hft:∀i∈ids,1≤i∧i≤1000000000) (hk:vi<cols.length) (hll:(cols.getD vi c0).x.length≤1000) (hpm:∀y∈(cols.getD vi c0).x,y.2∈ids) (hN:N+1000≤1099511627776) (hb1:b1<J.length) (hbo:H.length≤bo)
  (hm:(bm,.map (mapE ids))∈R) (Q:Exit→St→Prop)
  (go:∀(e:Env)(J':List Blk)(U':Toks)(D':List Dz),DS H T R bo (N+1000) J' U' D'→J.length≤J'.length→D'.map (·.id)=ids→D'.map Dz.dc=stepC (D.map Dz.dc) (cols.getD vi c0)→
   envLe J'.length U'.length e [(1,.ptr b1 0),(3,.csl bo nd nd),(4,.mref bm),(138,.sl cols.length (clAV cols) .none),(139,.int .i64 (cols.length:Nat)),(140,.int .i64 (vi:Nat))]→Q .normal ⟨e,J',U'⟩) :
  AW ⟨Tryz.prog,192,190,H.length,T.length,[100100,100131]⟩ (subC [1,1,1,1,1,1,0,1,0,0,1,1,0,0] (Tryz.f88.body.getD .skip)) Q ⟨[(1,.ptr b1 0),(3,.csl bo nd nd),(4,.mref bm),(138,.sl cols.length (clAV cols) .none),(139,.int .i64 (cols.length:Nat)),(140,.int .i64 (vi:Nat))],J,U⟩:=by
 conv=>arg 2;whnf
 have lm:=hS.hJ.lt (List.mem_append_left _ hm);have lo:=hS.hJ.lt (i:=bo) (b:=.cells (drs D)) (by simp);have lH:=hS.pJ.le;have lT:=hS.pU.le;have hcut:=clAV_cut cols vi hk;generalize cols.getD vi c0=t at *;obtain⟨f,x⟩:=t;simp only at hcut hll hpm go;have hll':x.length≤9223372036854775807:=by omega
 refine aw_reg fun K hK=>?_;simp(disch:=omega)[hcut,clAV_len];apply hK;clear hK K;have ho1:HOk (J++[.cells [.int .i64 f,.sl x.length (nmAV x) .none]]) U:=hS.ok.snoc (by simp);have hS2:=hS.new _ ho1;have hll2:(J++[Blk.cells [.int .i64 f,.sl x.length (nmAV x) .none]]).length=J.length+1:=by simp
 obtain⟨p17,h17⟩:∃i,i=J.length:=⟨_,rfl⟩
 rw[←h17] at hS2;simp only[←h17];generalize J++[Blk.cells [.int .i64 f,.sl x.length (nmAV x) .none]]=J1 at *;have g17:=hS2.hJ.get (i:=p17) (b:=.cells [.int .i64 f,.sl x.length (nmAV x) .none]) (by simp);have l17:=(List.getElem?_eq_some_iff.1 g17).1;have e17:=at_of g17;refine aw_reg fun K hK=>?_;simp(disch:=omega)[e17];apply hK;clear hK K;apply aw_block;refine aw_loop (X:=Nat×List Blk×Toks×List Dz) (fun y=>⟨[(1,.ptr b1 0),(3,.csl bo nd nd),(4,.mref bm),(138,.sl cols.length (clAV cols) .none),(139,.int .i64 (cols.length:Nat)),(140,.int .i64 (vi:Nat)),(17,.ptr p17 0),(145,.sl x.length (nmAV x) .none),(146,.int .i64 (x.length:Nat)),(147,.int .i64 (y.1:Nat))],y.2.1,y.2.2.1⟩)
  (fun y=>y.1≤x.length∧DS H T ((p17,.cells [.int .i64 f,.sl x.length (nmAV x) .none])::R) bo (N+y.1) y.2.1 y.2.2.1 y.2.2.2∧J1.length≤y.2.1.length∧y.2.2.2.map (·.id)=ids∧y.2.2.2.map Dz.dc=(x.take y.1).foldl (stepI f) (D.map Dz.dc)) (fun y=>x.length-y.1) (0,J1,U,D) ?_ ?_ ?_
 ·exact⟨Nat.zero_le _,hS2,Nat.le_refl _,hids,by simp⟩
 ·refine weak_to [] [] ?_ ?_ ?_ ?_ hS2.ok ?_
  all_goals simp
  all_goals omega
 ·rintro⟨k,J2,U2,D2⟩ ⟨k1,k2,k3,k4,k5⟩;simp only at k1 k2 k3 k4 k5;have lH2:=k2.pJ.le;have lT2:=k2.pU.le;apply aw_reg;intro K h;simp(disch:=omega);apply h;clear h K;refine aw_then fun K2 hK2=>?_;refine aw_if rfl (fun hk5=>?_) (fun hk5=>?_)
  ·simp  at hk5;have hp:=hpm _ (getD_mem x k n0 hk5);apply aw_skip;simp(disch:=omega) ;apply hK2;clear hK2;refine aw_then fun K3 hK3=>?_;apply aw_block;refine aw_weak ⟨[(1,.ptr b1 0),(3,.csl bo nd nd),(4,.mref bm),(138,.sl cols.length (clAV cols) .none),(139,.int .i64 (cols.length:Nat)),(140,.int .i64 (vi:Nat)),(17,.ptr p17 0),(145,.sl x.length (nmAV x) .none),(146,.int .i64 (x.length:Nat)),(147,.int .i64 (k:Nat))],J2,U2⟩ (weak_to [] [] (by simp) (by simp) (by show H.length≤_;omega) (by show T.length≤_;omega) k2.ok (by simp;omega)) ?_;refine item_step H T cols x vi k b1 bo bm nd p17 (N+k) f _ ids _ J2 U2 D2 k2 k4 hndl hnd hft hk5 hll hp (by omega) (by omega) hbo (by simp[hm]) (List.mem_cons_self ..) _ fun e J' U' D' a1 a2 a3 a4 a5=>?_;refine hK3 _ (aw_hok fun HO3=>?_);replace a1:=a1 HO3;have lH3:=a1.pJ.le;have lT3:=a1.pU.le;refine aw_weak ⟨[(1,.ptr b1 0),(3,.csl bo nd nd),(4,.mref bm),(138,.sl cols.length (clAV cols) .none),(139,.int .i64 (cols.length:Nat)),(140,.int .i64 (vi:Nat)),(17,.ptr p17 0),(145,.sl x.length (nmAV x) .none),(146,.int .i64 (x.length:Nat)),(147,.int .i64 (k:Nat))],J',U'⟩ (weak_to [] [] (by simp) (by simp) (by show H.length≤_;omega) (by show T.length≤_;omega) a1.ok a5) ?_;clear hK3;refine aw_reg0 fun K hK=>?_;simp(disch:=omega) ;apply hK;clear hK K;refine⟨(k+1,J',U',D'),⟨by show k+1≤_;omega,a1,by show J1.length≤J'.length;omega,a3,?_⟩,by show x.length-(k+1)<x.length-k;omega,?_⟩
   ·show D'.map Dz.dc=(x.take (k+1)).foldl _ _;rw[foldl_takeD _ _ _ n0 k hk5,a4,k5]
   ·refine weak_to [] [] ?_ ?_ ?_ ?_ a1.ok ?_
    all_goals simp
    all_goals omega
  ·simp  at hk5;have hkk:k=x.length:=by omega
   subst hkk;apply aw_exit;simp(disch:=omega) ;rw[List.take_length] at k5;refine go _ J2 U2 D2 ((k2.more (by omega)).sub (by simp)) (by omega) k4 k5 ?_;simp;omega
attribute [-simp] List.getD_eq_getElem?_getD in
theorem cols_loop39 (H:List Blk)(T:Toks)(s:Sg)(b1 bo bm nd:Nat)(N:Nat)(ids:List Int)(R:List (Nat×Blk))(J:List Blk)(U:Toks)(D:List Dz)
  (hS:DS H T R bo N J U D) (hids:D.map (·.id)=ids) (hndl:nd=ids.length) (hnd:ids.Nodup) (hft:∀i∈ids,1≤i∧i≤1000000000) (hs:SzS s) (hpm:∀c∈s.cols,∀y∈c.x,y.2∈ids) (hN:N+1000000≤1099511627776) (h1:(b1,.cells (sgC s))∈R) (hbo:H.length≤bo)
  (hm:(bm,.map (mapE ids))∈R) (Q:Exit→St→Prop)
  (go:∀(e:Env)(J':List Blk)(U':Toks)(D':List Dz),DS H T R bo (N+1000000) J' U' D'→D'.map (·.id)=ids→D'.map Dz.dc=s.cols.foldl stepC (D.map Dz.dc)→
   envLe J'.length U'.length e [(1,.ptr b1 0),(3,.csl bo nd nd),(4,.mref bm)]→AW ⟨Tryz.prog,192,190,H.length,T.length,[100100,100131]⟩ (subC [1,1,1,1,1,1,1] (Tryz.f88.body.getD .skip)) Q ⟨e,J',U'⟩) :
  AW ⟨Tryz.prog,192,190,H.length,T.length,[100100,100131]⟩ (subC [1,1,1,1,1,1] (Tryz.f88.body.getD .skip)) Q ⟨[(1,.ptr b1 0),(3,.csl bo nd nd),(4,.mref bm)],J,U⟩:=by
 conv=>arg 2;whnf
 have lm:=hS.hJ.lt (List.mem_append_left _ hm);have lo:=hS.hJ.lt (i:=bo) (b:=.cells (drs D)) (by simp);have g1:=hS.hJ.get (List.mem_append_left _ h1);have l1:=(List.getElem?_eq_some_iff.1 g1).1;have e1:=at_of g1;have lH:=hS.pJ.le;have lT:=hS.pU.le;obtain⟨docs,ts,cols⟩:=s;obtain⟨sd,st,sw,sc,sx⟩:=hs;simp only at e1 sd st sw sc sx hpm go;have htl:cols.length≤9223372036854775807:=by omega
 refine aw_then fun K1 hK1=>?_;refine aw_reg fun K hK=>?_;simp(disch:=omega)[e1];apply hK;clear hK K;apply aw_block;refine aw_loop (X:=Nat×List Blk×Toks×List Dz) (fun x=>⟨[(1,.ptr b1 0),(3,.csl bo nd nd),(4,.mref bm),(138,.sl cols.length (clAV cols) .none),(139,.int .i64 (cols.length:Nat)),(140,.int .i64 (x.1:Nat))],x.2.1,x.2.2.1⟩)
  (fun x=>x.1≤cols.length∧DS H T R bo (N+1000*x.1) x.2.1 x.2.2.1 x.2.2.2∧J.length≤x.2.1.length∧x.2.2.2.map (·.id)=ids∧x.2.2.2.map Dz.dc=(cols.take x.1).foldl stepC (D.map Dz.dc)) (fun x=>cols.length-x.1) (0,J,U,D) ?_ ?_ ?_
 ·exact⟨Nat.zero_le _,hS,Nat.le_refl _,hids,by simp⟩
 ·refine weak_to [] [] ?_ ?_ ?_ ?_ hS.ok ?_
  all_goals simp
  all_goals omega
 ·rintro⟨k,J2,U2,D2⟩ ⟨k1,k2,k3,k4,k5⟩;simp only at k1 k2 k3 k4 k5;have lH2:=k2.pJ.le;have lT2:=k2.pU.le;apply aw_reg;intro K h;simp(disch:=omega);apply h;clear h K;refine aw_then fun K2 hK2=>?_;refine aw_if rfl (fun hk5=>?_) (fun hk5=>?_)
  ·simp  at hk5;have htm:=getD_mem cols k c0 hk5;have hw:=sx _ htm;apply aw_skip;simp(disch:=omega) ;apply hK2;clear hK2;refine aw_then fun K3 hK3=>?_;apply aw_block;refine aw_weak ⟨[(1,.ptr b1 0),(3,.csl bo nd nd),(4,.mref bm),(138,.sl cols.length (clAV cols) .none),(139,.int .i64 (cols.length:Nat)),(140,.int .i64 (k:Nat))],J2,U2⟩ (weak_to [] [] (by simp) (by simp) (by show H.length≤_;omega) (by show T.length≤_;omega) k2.ok (by simp;omega)) ?_;refine col_step H T cols k b1 bo bm nd (N+1000*k) ids _ J2 U2 D2 k2 k4 hndl hnd hft hk5 hw (fun p hp=>hpm _ htm p hp) (by omega) (by omega) hbo hm _ fun e J' U' D' a1 a2 a3 a4 a5=>?_;have lH3:=a1.pJ.le;have lT3:=a1.pU.le;refine hK3 _ (aw_weak ⟨[(1,.ptr b1 0),(3,.csl bo nd nd),(4,.mref bm),(138,.sl cols.length (clAV cols) .none),(139,.int .i64 (cols.length:Nat)),(140,.int .i64 (k:Nat))],J',U'⟩ (weak_to [] [] (by simp) (by simp) (by show H.length≤_;omega) (by show T.length≤_;omega) a1.ok a5) ?_);clear hK3;refine aw_reg0 fun K hK=>?_;simp(disch:=omega) ;apply hK;clear hK K;refine⟨(k+1,J',U',D'),⟨by show k+1≤_;omega,a1.more (by omega),by show J.length≤J'.length;omega,a3,?_⟩,by show cols.length-(k+1)<cols.length-k;omega,?_⟩
   ·show D'.map Dz.dc=(cols.take (k+1)).foldl _ _;rw[foldl_takeD _ _ _ c0 k hk5,a4,k5]
   ·refine weak_to [] [] ?_ ?_ ?_ ?_ a1.ok ?_
    all_goals simp
    all_goals omega
  ·simp  at hk5;have hkk:k=cols.length:=by omega
   subst hkk;apply aw_exit;simp(disch:=omega) ;rw[List.take_length] at k5;apply hK1;clear hK1;refine go _ J2 U2 D2 (k2.more (by omega)) k4 k5 ?_;simp;omega
def evs (ts:List Tm)(id:Int):List (Int×List Wd):=ts.flatMap fun t=>(t.l.filter fun p=>p.1==id).map fun p=>(t.f,p.2.map fun a=>(t.w,a))
def zfold (zs:List Zn)(es:List (Int×List Wd)):List Zn:=es.foldl (fun zs e=>addZ zs e.1 e.2) zs
def nms (cs:List Cl)(id:Int):List Nm:=cs.flatMap fun c=>(c.x.filter fun y=>y.2==id).map fun y=>(c.f,y.1)
theorem zfold_app (zs:List Zn)(a b:List (Int×List Wd)):zfold zs (a++b)=zfold (zfold zs a) b:=List.foldl_append ..
theorem foldP (f:Int)(w:Bs):∀(l:List Ps)(L:List Dc),l.foldl (stepP f w) L=L.map fun d=>⟨d.id,zfold d.zs ((l.filter fun p=>p.1==d.id).map fun p=>(f,p.2.map fun a=>(w,a))),d.ns⟩
 |[],L=>by simp[zfold]
 |p::l,L=>by
  rw[List.foldl_cons,foldP f w l];unfold stepP updD;rw[List.map_map];refine List.map_congr_left fun d hd=>?_;simp only[Function.comp]
  by_cases h:d.id=p.1
  ·rw[if_pos h,List.filter_cons_of_pos (by simp[h])];rfl
  ·rw[if_neg h,List.filter_cons_of_neg (by simpa using fun e=>h e.symm)]
theorem foldT:∀(ts:List Tm)(L:List Dc),ts.foldl stepT L=L.map fun d=>⟨d.id,zfold d.zs (evs ts d.id),d.ns⟩
 |[],L=>by simp[zfold,evs]
 |t::ts,L=>by
  rw[List.foldl_cons,foldT ts];unfold stepT;rw[foldP,List.map_map];refine List.map_congr_left fun d hd=>?_;simp only[Function.comp,evs,List.flatMap_cons,zfold_app]
theorem foldI (f:Int):∀(l:List Nm)(L:List Dc),l.foldl (stepI f) L=L.map fun d=>⟨d.id,d.zs,d.ns++(l.filter fun y=>y.2==d.id).map fun y=>(f,y.1)⟩
 |[],L=>by simp
 |p::l,L=>by
  rw[List.foldl_cons,foldI f l];unfold stepI updD;rw[List.map_map];refine List.map_congr_left fun d hd=>?_;simp only[Function.comp]
  by_cases h:d.id=p.2
  ·rw[if_pos h,List.filter_cons_of_pos (by simp[h])];simp[addN]
  ·rw[if_neg h,List.filter_cons_of_neg (by simpa using fun e=>h e.symm)]
theorem foldC:∀(cs:List Cl)(L:List Dc),cs.foldl stepC L=L.map fun d=>⟨d.id,d.zs,d.ns++nms cs d.id⟩
 |[],L=>by simp[nms]
 |c::cs,L=>by
  rw[List.foldl_cons,foldC cs];unfold stepC;rw[foldI,List.map_map];refine List.map_congr_left fun d hd=>?_;simp only[Function.comp,nms,List.flatMap_cons,List.append_assoc]
def zonesOf (g:Int→List Wd):List Zn:=[1,2,3,4].flatMap fun f=>if g f=[] then [] else [⟨f,g f⟩]
theorem zonesOf_congr {g h:Int→List Wd}(e:∀f,1≤f→f≤4→g f=h f):zonesOf g=zonesOf h:=by
 simp only[zonesOf,List.flatMap_cons,List.flatMap_nil,e 1 (by omega) (by omega),e 2 (by omega) (by omega),e 3 (by omega) (by omega),e 4 (by omega) (by omega)]
theorem addZ_zones {g : Int → List Wd} {f : Int} {ws : List Wd} (h1 : 1 ≤ f) (h4 : f ≤ 4) (hw : ws ≠ []) (hg : ∀ f', f < f' → g f' = []) : addZ (zonesOf g) f ws = zonesOf (fun f' => if f' = f then g f' ++ ws else g f') := by
 rcases (by omega : f = 1 ∨ f = 2 ∨ f = 3 ∨ f = 4) with rfl | rfl | rfl | rfl
 ·have a2 := hg 2 (by omega); have a3 := hg 3 (by omega); have a4 := hg 4 (by omega)
  by_cases b1 : g 1 = [] <;> simp [zonesOf, addZ, opn, *]
 ·have a3 := hg 3 (by omega); have a4 := hg 4 (by omega)
  by_cases b1 : g 1 = [] <;> by_cases b2 : g 2 = [] <;> simp [zonesOf, addZ, opn, *]
 ·have a4 := hg 4 (by omega)
  by_cases b1 : g 1 = [] <;> by_cases b2 : g 2 = [] <;> by_cases b3 : g 3 = [] <;> simp [zonesOf, addZ, opn, *]
 ·by_cases b1 : g 1 = [] <;> by_cases b2 : g 2 = [] <;> by_cases b3 : g 3 = [] <;> by_cases b4 : g 4 = [] <;> simp [zonesOf, addZ, opn, *]
def occE (es:List (Int×List Wd))(f:Int):List Wd:=(es.filter fun e=>e.1==f).flatMap (·.2)
theorem occE_snoc (es:List (Int×List Wd))(e:Int×List Wd)(f:Int):occE (es++[e]) f=if f=e.1 then occE es f++e.2 else occE es f:=by
 unfold occE;rw[List.filter_append]
 by_cases h:f=e.1
 ·rw[if_pos h,List.filter_cons_of_pos (by simp[h])];simp
 ·rw[if_neg h,List.filter_cons_of_neg (by simpa using fun x=>h x.symm)];simp
theorem zfold_zones (es:List (Int×List Wd))(hs:es.Pairwise fun a b=>a.1≤b.1)(h14:∀e∈es,1≤e.1∧e.1≤4∧e.2≠[]):zfold [] es=zonesOf (occE es):=by
 have key:∀r:List (Int×List Wd),(r.reverse.Pairwise fun a b=>a.1≤b.1)→(∀e∈r,1≤e.1∧e.1≤4∧e.2≠[])→zfold [] r.reverse=zonesOf (occE r.reverse):=by
  intro r
  induction r with
  |nil=>intro _ _;rfl
  |cons e r ih=>
   intro hp hm;rw[List.reverse_cons] at hp ⊢;rw[List.pairwise_append] at hp;obtain⟨p1,_,p3⟩:=hp;obtain⟨q1,q2,q3⟩:=hm e (by simp);rw[zfold_app,ih p1 fun x hx=>hm x (by simp[hx])];show addZ _ e.1 e.2=_;rw[addZ_zones q1 q2 q3 fun f' hf=>?_]
   ·refine zonesOf_congr fun f _ _=>?_;exact(occE_snoc _ e f).symm
   ·unfold occE;rw[List.flatMap_eq_nil_iff];intro x hx;rw[List.mem_filter] at hx;have:=p3 x hx.1 e (by simp);simp at hx;omega
 have:=key es.reverse (by rwa [List.reverse_reverse]) fun e he=>h14 e (by simpa using he)
 rwa [List.reverse_reverse] at this
def occs (ts:List Tm)(id f:Int):List Wd:=occE (evs ts id) f
def docsF (s:Sg):List Dc:=s.docs.map fun id=>⟨id,zonesOf fun f=>sortW (occs s.tms id f),nms s.cols id⟩
theorem sortW_nil:sortW []=[]:=by unfold sortW;simp
theorem sortW_nil_iff (l:List Wd):sortW l=[]↔l=[]:=by
 constructor
 ·intro h;have:=congrArg List.length h;unfold sortW at this;rw[List.length_mergeSort] at this;exact List.length_eq_zero_iff.1 this
 ·rintro rfl;exact sortW_nil
def srtZ (z:Zn):Zn:=⟨z.f,sortW z.ws⟩
theorem zonesOf_srt (g:Int→List Wd):(zonesOf g).map srtZ=zonesOf fun f=>sortW (g f):=by
 unfold zonesOf;rw[List.map_flatMap]
 congr 1
 funext f
 by_cases h:g f=[]
 ·rw[if_pos h,if_pos ((sortW_nil_iff _).2 h)];rfl
 ·rw[if_neg h,if_neg (fun e=>h ((sortW_nil_iff _).1 e))];rfl
section
variable {s : Sg}
theorem tms_fields (hv:validS s=true):s.tms.Pairwise fun a b=>a.f≤b.f:=by
 obtain⟨_,⟨ht,_⟩,_⟩:=validS_parts hv;rw[List.pairwise_iff_getElem];have key:∀(n i:Nat)(h1:i<s.tms.length)(h2:i+n<s.tms.length),(s.tms[i]'h1).f≤(s.tms[i+n]'h2).f:=by
  intro n
  induction n with
  |zero=>intro i _ _;exact Int.le_refl _
  |succ n ih=>
   intro i h1 h2;refine Int.le_trans (ih i h1 (by omega)) ?_;have:=(ht (i+n+1) (by omega)).1;unfold okTm at this;simp only[Bool.and_eq_true,Bool.or_eq_true,decide_eq_true_eq] at this;have h3:=this.2.resolve_left (by omega);rw[Nat.add_sub_cancel,List.getD_eq_getElem?_getD,List.getD_eq_getElem?_getD,List.getElem?_eq_getElem (by omega),List.getElem?_eq_getElem (by omega)] at h3;simp only[Option.getD_some,kylt] at h3;have e:i+(n+1)=i+n+1:=by omega
   simp only[e];simp only[Bool.or_eq_true,Bool.and_eq_true,decide_eq_true_eq] at h3;omega
 intro i j h1 h2 hij;have:=key (j-i) i h1 (by omega);have e:i+(j-i)=j:=by omega
 simpa only[e] using this
theorem tm_ok (hv:validS s=true){t:Tm}(ht:t∈s.tms):(1≤t.f∧t.f≤4)∧t.l≠[]∧validL t.l=true∧∀p∈t.l,p.1∈s.docs:=by
 obtain⟨_,⟨h,_⟩,_⟩:=validS_parts hv;obtain⟨i,hi,rfl⟩:=mem_getD t0 ht;obtain⟨a,b⟩:=h i hi;unfold okTm at a;unfold okL at b;simp only[Bool.and_eq_true,decide_eq_true_eq] at a b;exact⟨a.1.1,b.1.1,b.1.2,b.2⟩
theorem cl_ok (hv:validS s=true){c:Cl}(hc:c∈s.cols):(5≤c.f∧c.f≤7)∧∀y∈c.x,y.2∈s.docs:=by
 obtain⟨_,_,h⟩:=validS_parts hv;obtain⟨i,hi,rfl⟩:=mem_getD c0 hc;obtain⟨a,b⟩:=h i hi;unfold okCm at a;simp only[Bool.and_eq_true,decide_eq_true_eq] at a;refine⟨a.1.1,fun y hy=>?_⟩;obtain⟨k,hk,rfl⟩:=mem_getD n0 hy;have:=b k hk;unfold okIt at this;simp only[Bool.and_eq_true,decide_eq_true_eq] at this;exact this.1.1
theorem evs_zones (hv:validS s=true)(id:Int):zfold [] (evs s.tms id)=zonesOf (occs s.tms id):=by
 refine zfold_zones _ ?_ fun e he=>?_
 ·unfold evs;rw[List.pairwise_flatMap];refine⟨fun t ht=>?_,(tms_fields hv).imp fun {a b} hab x hx y hy=>?_⟩
  ·rw[List.pairwise_map];exact List.pairwise_of_forall fun _ _=>Int.le_refl _
  ·obtain⟨_,_,rfl⟩:=List.mem_map.1 hx;obtain⟨_,_,rfl⟩:=List.mem_map.1 hy;exact hab
 ·unfold evs at he;obtain⟨t,ht,he⟩:=List.mem_flatMap.1 he;obtain⟨p,hp,rfl⟩:=List.mem_map.1 he;obtain⟨a,b,c,d⟩:=tm_ok hv ht;obtain⟨v1,v2,v3⟩:=validL_iff c;have:=(v3 p (List.mem_filter.1 hp).1).1;refine⟨a.1,a.2,?_⟩;intro h;rw[List.map_eq_nil_iff] at h;exact absurd h (by simpa using this)
end
def srtWz (z:Wz):Wz:={ z with ws:=sortW z.ws }
theorem sortW_len (l:List Wd):(sortW l).length=l.length:=List.length_mergeSort _
theorem zrs_cut {l:List Wz}{k:Nat}(hk:k<l.length)(r:List AV)(d:Wz):((zrs l++r).drop (k*2)).take 2=[.int .i64 (l.getD k d).f,gv (l.getD k d).ws.length (l.getD k d).i (l.getD k d).cap]:=by
 have h:=zrs_len l;rw[List.drop_append_of_le_length (by omega),List.take_append_of_le_length (by rw[List.length_drop];omega)];exact rows_cut zr_rows l k d hk
attribute [-simp] List.getD_eq_getElem?_getD in
theorem zsort (H:List Blk)(T:Toks)(b1 bo bm nd p22 vi vk nz zi zc:Nat)(N:Nat)(R:List (Nat×Blk))(J:List Blk)(U:Toks)(D1 D2:List Dz)(id:Int)(zs1 zs2:List Wz)(z:Wz)(rest:List AV)(ns:List Nm)(tk:Nat)
  (hS:DS H T R bo N J U (D1++⟨id,zs1++z::zs2,zi,zc,rest,ns,tk⟩::D2)) (hN:N≤1099511627776) (hk:vk=zs1.length) (hnz:nz=zs1.length+1+zs2.length) (hne:z.ws≠[]) (hT:z.ws.Pairwise fun x y=>x.2≠y.2) (hb1:b1<J.length) (hbm:bm<J.length) (hp:p22<J.length) (Q:Exit→St→Prop)
  (go:∀(e:Env)(J':List Blk),(HOk J' U→DS H T R bo N J' U (D1++⟨id,zs1++srtWz z::zs2,zi,zc,rest,ns,tk⟩::D2))→J.length≤J'.length→
   envLe J'.length U.length e [(1,.ptr b1 0),(3,.csl bo nd nd),(4,.mref bm),(173,.msl bo 0 nd),(174,.int .i64 (nd:Nat)),(175,.int .i64 (vi:Nat)),(22,.ptr p22 0),(180,.msl zi 0 nz),(181,.int .i64 (nz:Nat)),(182,.int .i64 (vk:Nat))]→Q .normal ⟨e,J',U⟩) :
  AW ⟨Tryz.prog,192,190,H.length,T.length,[100100,100131]⟩ (subC [1,1,1,1,1,1,1,0,1,0,0,1,1,0,0,1,1,0,0,1,1,0,0] (Tryz.f88.body.getD .skip)) Q ⟨[(1,.ptr b1 0),(3,.csl bo nd nd),(4,.mref bm),(173,.msl bo 0 nd),(174,.int .i64 (nd:Nat)),(175,.int .i64 (vi:Nat)),(22,.ptr p22 0),(180,.msl zi 0 nz),(181,.int .i64 (nz:Nat)),(182,.int .i64 (vk:Nat))],J,U⟩:=by
 conv=>arg 2;whnf
 have gz:=hS.hJ.get (i:=zi) (b:=.cells (zrs (zs1++z::zs2)++rest)) (by simp[Dz.bx,gb]);have lz:=(List.getElem?_eq_some_iff.1 gz).1;have ez:=at_of gz;have lo:=hS.hJ.lt (i:=bo) (b:=.cells (drs (D1++⟨id,zs1++z::zs2,zi,zc,rest,ns,tk⟩::D2))) (by simp);have lH:=hS.pJ.le;have lT:=hS.pU.le;have hcut:=zrs_cut (l:=zs1++z::zs2) (k:=vk) (by simp;omega) rest z;have hgz:(zs1++z::zs2).getD vk z=z:=by rw[hk,List.getD_eq_getElem?_getD,List.getElem?_append_right (by omega),Nat.sub_self];rfl
 rw[hgz] at hcut;have hzl:(zrs (zs1++z::zs2)++rest).length=nz*2+rest.length:=by rw[List.length_append,zrs_len];simp;omega
 have hkn:vk<nz:=by omega
 have hz:=(hS.hD ⟨id,zs1++z::zs2,zi,zc,rest,ns,tk⟩ (by simp)).w z (by simp);have hwl:z.ws.length≠0:=fun h=>hne (List.length_eq_zero_iff.1 h);simp only[gv,if_neg hwl] at hcut;refine aw_reg fun K hK=>?_;simp(disch:=omega)[ez,hzl,hcut];apply hK;clear hK K;have hlz:z.i<J.length:=hS.hJ.lt (b:=.cells (wdAV z.ws++z.rest)) (by simp[Dz.bx,Wz.bx,gb,hne]);have ho1:HOk (J++[.cells [.int .i64 z.f,.csl z.i z.ws.length z.cap]]) U:=hS.ok.snoc (by intro v hv;simp at hv;rcases hv with rfl|rfl<;>first|exact .int _ _|exact .csl _ _ _ (by omega));have hS2:=hS.new _ ho1;have hll2:(J++[Blk.cells [.int .i64 z.f,.csl z.i z.ws.length z.cap]]).length=J.length+1:=by simp
 obtain⟨p24,h24⟩:∃i,i=J.length:=⟨_,rfl⟩
 rw[←h24] at hS2;simp only[←h24];generalize J++[Blk.cells [.int .i64 z.f,.csl z.i z.ws.length z.cap]]=J1 at *;have g24:=hS2.hJ.get (i:=p24) (b:=.cells [.int .i64 z.f,.csl z.i z.ws.length z.cap]) (by simp);have l24:=(List.getElem?_eq_some_iff.1 g24).1;have e24:=at_of g24;have gi:=hS2.hJ.get (i:=z.i) (b:=.cells (wdAV z.ws++z.rest)) (by simp[Dz.bx,Wz.bx,gb,hne]);have cs:=fun U=>sortWd_ok z.ws hne hT z.rest z.i z.cap (by have:=hz.1;omega) J1 U gi;have hdr:drs (D1++⟨id,zs1++srtWz z::zs2,zi,zc,rest,ns,tk⟩::D2)=drs (D1++⟨id,zs1++z::zs2,zi,zc,rest,ns,tk⟩::D2):=by simp[drs]
 have hzr:zrs (zs1++srtWz z::zs2)=zrs (zs1++z::zs2):=by simp[zrs,srtWz,sortW_len]
 have hbx:∀y:Wz,y.ws≠[]→Dz.bx ⟨id,zs1++y::zs2,zi,zc,rest,ns,tk⟩=(zi,.cells (zrs (zs1++y::zs2)++rest))::(zs1.flatMap Wz.bx++((y.i,.cells (wdAV y.ws++y.rest))::zs2.flatMap Wz.bx)):=fun y hy=>by simp[Dz.bx,gb,Wz.bx,hy]
 have hJ3:=Has.set (A:=(p24,.cells [.int .i64 z.f,.csl z.i z.ws.length z.cap])::(R++(bo,.cells (drs (D1++⟨id,zs1++z::zs2,zi,zc,rest,ns,tk⟩::D2)))::(D1.flatMap Dz.bx++((zi,.cells (zrs (zs1++z::zs2)++rest))::zs1.flatMap Wz.bx)))) (B:=zs2.flatMap Wz.bx++D2.flatMap Dz.bx) (b:=.cells (wdAV z.ws++z.rest)) (by
  have:=hS2.hJ;rw[List.flatMap_append,List.flatMap_cons,hbx z hne] at this;simpa using this) (.cells (wdAV (sortW z.ws)++z.rest))
 refine aw_reg0 fun K hK=>?_;simp(disch:=omega)[e24];refine acall_is (cs _) ?_;simp(disch:=omega) ;apply hK;clear hK K;refine go _ _ (fun ho=>⟨?_,?_,?_,hS2.pJ.set (hz.2 hwl).2.2 _,hS2.pU,ho⟩) (by simp;omega) (by simp;omega)
 ·rw[List.flatMap_append,List.flatMap_cons,hbx (srtWz z) (fun h=>hne ((sortW_nil_iff _).1 h)),hdr,hzr];rw[List.cons_append] at hJ3;have h5:=hJ3.sub (List.sublist_cons_self _ _);simpa[srtWz] using h5
 ·simpa[Dz.tx] using hS2.hU
 ·intro x hx;rcases List.mem_append.1 hx with hx|hx
  ·exact hS2.hD x (by simp[hx])
  rcases List.mem_cons.1 hx with rfl|hx
  ·have hd:=hS2.hD ⟨id,zs1++z::zs2,zi,zc,rest,ns,tk⟩ (by simp);refine⟨by simpa using hd.z,fun y hy=>?_,hd.n⟩;rcases List.mem_append.1 hy with hy|hy
   ·exact hd.w y (by simp[hy])
   rcases List.mem_cons.1 hy with rfl|hy
   ·have:=hd.w z (by simp);exact⟨by simpa[srtWz,sortW_len] using this.1,fun h=>by
     have:=this.2 (by simpa[srtWz,sortW_len] using h);simpa[srtWz,sortW_len] using this⟩
   ·exact hd.w y (by simp[hy])
  ·exact hS2.hD x (by simp[hx])
def srtDz (d:Dz):Dz:={ d with zs:=d.zs.map srtWz }
theorem split_zs {l:List Wz}{k:Nat}(hk:k<l.length):∃z∈l,l.drop k=z::l.drop (k+1)∧l.take (k+1)=l.take k++[z]:=
 ⟨l[k],List.getElem_mem _,(List.getElem_cons_drop ..).symm,by rw[List.take_append_getElem]⟩
attribute [-simp] List.getD_eq_getElem?_getD in
theorem dsort (H:List Blk)(T:Toks)(b1 bo bm nd vi:Nat)(N:Nat)(R:List (Nat×Blk))(J:List Blk)(U:Toks)(D1 D2:List Dz)(d:Dz)
  (hS:DS H T R bo N J U (D1++d::D2)) (hN:N≤1099511627776) (hk:vi=D1.length) (hnd:nd=D1.length+1+D2.length) (hW:∀z∈d.zs,z.ws≠[]∧z.ws.Pairwise fun x y=>x.2≠y.2) (hb1:b1<J.length) (hbm:bm<J.length) (Q:Exit→St→Prop)
  (go:∀(e:Env)(J':List Blk),DS H T R bo N J' U (D1++srtDz d::D2)→J.length≤J'.length→
   envLe J'.length U.length e [(1,.ptr b1 0),(3,.csl bo nd nd),(4,.mref bm),(173,.msl bo 0 nd),(174,.int .i64 (nd:Nat)),(175,.int .i64 (vi:Nat))]→Q .normal ⟨e,J',U⟩) :
  AW ⟨Tryz.prog,192,190,H.length,T.length,[100100,100131]⟩ (subC [1,1,1,1,1,1,1,0,1,0,0,1,1,0,0] (Tryz.f88.body.getD .skip)) Q ⟨[(1,.ptr b1 0),(3,.csl bo nd nd),(4,.mref bm),(173,.msl bo 0 nd),(174,.int .i64 (nd:Nat)),(175,.int .i64 (vi:Nat))],J,U⟩:=by
 conv=>arg 2;whnf
 have go_:=hS.hJ.get (i:=bo) (b:=.cells (drs (D1++d::D2))) (by simp);have lo:=(List.getElem?_eq_some_iff.1 go_).1;have eo:=at_of go_;have lH:=hS.pJ.le;have lT:=hS.pU.le;have hrl:(drs (D1++d::D2)).length=nd*3:=by rw[drs_len];simp;omega
 have hcut:((drs (D1++d::D2)).drop (vi*3)).take 3=d.row:=by
  have:=rows_cut dr_rows (D1++d::D2) vi d (by simp;omega);rw[show (D1++d::D2).getD vi d=d by rw[hk,List.getD_eq_getElem?_getD,List.getElem?_append_right (by omega),Nat.sub_self];rfl] at this;exact this
 have hvn:vi<nd:=by omega
 have hd:=hS.hD d (by simp);simp only[Dz.row] at hcut;refine aw_reg fun K hK=>?_;simp(disch:=omega)[eo,hrl,hcut];apply hK;clear hK K;refine aw_hok fun ho1=>?_;simp only at ho1;have hS2:=hS.new _ ho1;have hll2:(J++[Blk.cells [AV.int .i64 d.id,gv d.zs.length d.i d.cap,ov d.ns d.tk]]).length=J.length+1:=by simp
 obtain⟨p22,h22⟩:∃i,i=J.length:=⟨_,rfl⟩
 rw[←h22] at hS2;simp only[←h22];generalize J++[Blk.cells [AV.int .i64 d.id,gv d.zs.length d.i d.cap,ov d.ns d.tk]]=J1 at *;have g22:=hS2.hJ.get (i:=p22) (b:=.cells [.int .i64 d.id,gv d.zs.length d.i d.cap,ov d.ns d.tk]) (by simp);have l22:=(List.getElem?_eq_some_iff.1 g22).1;have e22:=at_of g22;obtain⟨id,zs,i,cap,rest,ns,tk⟩:=d;simp only at e22 hW
 by_cases hz:zs=[]
 ·subst hz;simp only[gv,List.length_nil,if_true] at e22;refine aw_reg fun K hK=>?_;simp(disch:=omega)[e22];apply hK;clear hK K;apply aw_block;refine aw_loop (X:=Unit) (fun _=>⟨[(1,.ptr b1 0),(3,.csl bo nd nd),(4,.mref bm),(173,.msl bo 0 nd),(174,.int .i64 (nd:Nat)),(175,.int .i64 (vi:Nat)),(180,.sl 0 [] .none),(181,.int .i64 0),(182,.int .i64 0)],J1,U⟩) (fun _=>True) (fun _=>0) () ?_ ?_ ?_
  ·trivial
  ·refine weak_to [] [] ?_ ?_ ?_ ?_ ho1 ?_
   all_goals simp
   all_goals omega
  ·rintro⟨⟩ -;apply aw_reg;intro K h;simp(disch:=omega);apply h;clear h K;refine aw_then fun K2 hK2=>?_;apply aw_iff rfl;apply aw_exit;simp(disch:=omega) ;refine go _ J1 ((hS2.sub (by simp))) (by omega) ?_;simp;omega
 have hzl:zs.length≠0:=fun h=>hz (List.length_eq_zero_iff.1 h);simp only[gv,if_neg hzl] at e22;have hq:=hd.z.1;simp only at hq;have hli:i<J1.length:=hS2.hJ.lt (b:=.cells (zrs zs++rest)) (by simp[Dz.bx,gb,hz]);refine aw_reg fun K hK=>?_;simp(disch:=omega)[e22];apply hK;clear hK K;apply aw_block;refine aw_loop (X:=Nat×List Blk) (fun x=>⟨[(1,.ptr b1 0),(3,.csl bo nd nd),(4,.mref bm),(173,.msl bo 0 nd),(174,.int .i64 (nd:Nat)),(175,.int .i64 (vi:Nat)),(22,.ptr p22 0),(180,.msl i 0 zs.length),(181,.int .i64 (zs.length:Nat)),(182,.int .i64 (x.1:Nat))],x.2,U⟩)
  (fun x=>x.1≤zs.length∧DS H T ((p22,.cells [.int .i64 id,.csl i zs.length cap,ov ns tk])::R) bo N x.2 U (D1++⟨id,(zs.take x.1).map srtWz++zs.drop x.1,i,cap,rest,ns,tk⟩::D2)∧J1.length≤x.2.length) (fun x=>zs.length-x.1) (0,J1) ?_ ?_ ?_
 ·exact⟨Nat.zero_le _,by simpa[gv,hzl] using hS2,Nat.le_refl _⟩
 ·refine weak_to [] [] ?_ ?_ ?_ ?_ ho1 ?_
  all_goals simp
  all_goals omega
 ·rintro⟨k,J2⟩ ⟨k1,k2,k3⟩;simp only at k1 k2 k3;have lH2:=k2.pJ.le;have lT2:=k2.pU.le;apply aw_reg;intro K h;simp(disch:=omega);apply h;clear h K;refine aw_then fun K2 hK2=>?_;refine aw_if rfl (fun hk5=>?_) (fun hk5=>?_)
  ·simp  at hk5;apply aw_skip;simp(disch:=omega) ;apply hK2;clear hK2;refine aw_then fun K3 hK3=>?_;apply aw_block;refine aw_weak ⟨[(1,.ptr b1 0),(3,.csl bo nd nd),(4,.mref bm),(173,.msl bo 0 nd),(174,.int .i64 (nd:Nat)),(175,.int .i64 (vi:Nat)),(22,.ptr p22 0),(180,.msl i 0 zs.length),(181,.int .i64 (zs.length:Nat)),(182,.int .i64 (k:Nat))],J2,U⟩ (weak_to [] [] (by simp) (by simp) (by show H.length≤_;omega) (by show T.length≤_;omega) k2.ok (by simp;omega)) ?_;obtain⟨z,hzm,hdk,htk0⟩:=split_zs hk5;rw[hdk] at k2;have hlen:((zs.take k).map srtWz).length=k:=by simp;omega
   refine zsort H T b1 bo bm nd p22 vi k zs.length i cap N _ J2 U D1 D2 id _ _ z rest ns tk k2 hN hlen.symm (by rw[hlen,List.length_drop];omega) (hW z hzm).1 (hW z hzm).2 (by omega) (by omega) (by omega) _ fun e J' a1 a2 a3=>?_;refine hK3 _ (aw_hok fun HO3=>?_);replace a1:=a1 HO3;have lH3:=a1.pJ.le;have lT3:=a1.pU.le;refine aw_weak ⟨[(1,.ptr b1 0),(3,.csl bo nd nd),(4,.mref bm),(173,.msl bo 0 nd),(174,.int .i64 (nd:Nat)),(175,.int .i64 (vi:Nat)),(22,.ptr p22 0),(180,.msl i 0 zs.length),(181,.int .i64 (zs.length:Nat)),(182,.int .i64 (k:Nat))],J',U⟩ (weak_to [] [] (by simp) (by simp) (by show H.length≤_;omega) (by show T.length≤_;omega) a1.ok a3) ?_;clear hK3;have htk:(zs.take (k+1)).map srtWz++zs.drop (k+1)=(zs.take k).map srtWz++srtWz z::zs.drop (k+1):=by
    rw[htk0];simp
   refine aw_reg0 fun K hK=>?_;simp(disch:=omega) ;apply hK;clear hK K;refine⟨(k+1,J'),⟨by show k+1≤_;omega,by show DS _ _ _ _ _ _ _ (D1++⟨id,(zs.take (k+1)).map srtWz++zs.drop (k+1),i,cap,rest,ns,tk⟩::D2);rw[htk];exact a1,by show J1.length≤J'.length;omega⟩,by show zs.length-(k+1)<zs.length-k;omega,?_⟩;refine weak_to [] [] ?_ ?_ ?_ ?_ a1.ok ?_
   all_goals simp
   all_goals omega
  ·simp  at hk5;have hkk:k=zs.length:=by omega
   subst hkk;apply aw_exit;simp(disch:=omega) ;rw[List.take_length,List.drop_length,List.append_nil] at k2;refine go _ J2 (k2.sub (by simp)) (by omega) ?_;simp;omega
end Go.Proofs.YtoejlmpbebjemaaGreat
