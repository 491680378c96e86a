/- segment.Documents (layer 39): documents, while they are gathered; an append to a list that grows in a box.
  Conditions: none. -/
import Derived.Test.YtneohapkboaplaaGreatGV
set_option linter.all false
set_option maxRecDepth 100000
namespace Go.Proofs.YtneohapkboaplaaGreat
open Go Go.Am Seg
def gv (n i cap:Nat):AV:=if n=0 then .sl 0 [] .full else .csl i n cap
def gb (n i:Nat)(cs:List AV):List (Nat×Blk):=if n=0 then [] else [(i,.cells cs)]
structure Wz where
 f:Int
 ws:List Wd
 i:Nat
 cap:Nat
 rest:List AV
abbrev Wz.row (z:Wz):List AV:=[.int .i64 z.f,gv z.ws.length z.i z.cap]
def Wz.bx (z:Wz):List (Nat×Blk):=gb z.ws.length z.i (wdAV z.ws++z.rest)
def zrs (l:List Wz):List AV:=l.flatMap Wz.row
theorem zr_rows:CellsK Wz.row 2:=fun _=>rfl
theorem zrs_len (l:List Wz):(zrs l).length=l.length*2:=rows_len zr_rows l
def Wz.zn (z:Wz):Zn:=⟨z.f,z.ws⟩
structure Dz where
 id:Int
 zs:List Wz
 i:Nat
 cap:Nat
 rest:List AV
 ns:List Nm
 tk:Nat
def ov (ns:List Nm)(tk:Nat):AV:=if ns=[] then .sl 0 [] .full else .sl ns.length (nmAV ns) (.own tk)
abbrev Dz.row (d:Dz):List AV:=[.int .i64 d.id,gv d.zs.length d.i d.cap,ov d.ns d.tk]
def Dz.bx (d:Dz):List (Nat×Blk):=gb d.zs.length d.i (zrs d.zs++d.rest)++d.zs.flatMap Wz.bx
def Dz.tx (d:Dz):List (Nat×(Nat×Nat)):=if d.ns=[] then [] else [(d.tk,(d.ns.length*2,2))]
def drs (l:List Dz):List AV:=l.flatMap Dz.row
theorem dr_rows:CellsK Dz.row 3:=fun _=>rfl
theorem drs_len (l:List Dz):(drs l).length=l.length*3:=rows_len dr_rows l
def Dz.dc (d:Dz):Dc:=⟨d.id,d.zs.map Wz.zn,d.ns⟩
def gOk (nb N n i cap z:Nat)(rest:List AV):Prop:=n≤N∧(n≠0→rest.length=(cap-n)*z∧n≤cap∧nb≤i)
structure DzOk (nb tb N:Nat)(d:Dz):Prop where
 z:gOk nb N d.zs.length d.i d.cap 2 d.rest
 w:∀z∈d.zs,gOk nb N z.ws.length z.i z.cap 2 z.rest
 n:d.ns.length≤N∧(d.ns≠[]→tb≤d.tk)
theorem gOk.more {nb N M n i cap z:Nat}{rest:List AV}(h:gOk nb N n i cap z rest)(hm:N≤M):gOk nb M n i cap z rest:=⟨Nat.le_trans h.1 hm,h.2⟩
theorem DzOk.more {nb tb N M:Nat}{d:Dz}(h:DzOk nb tb N d)(hm:N≤M):DzOk nb tb M d:=⟨h.z.more hm,fun z hz=>(h.w z hz).more hm,⟨Nat.le_trans h.n.1 hm,h.n.2⟩⟩
structure DS (H:List Blk)(T:Toks)(R:List (Nat×Blk))(bo N:Nat)(J:List Blk)(U:Toks)(D:List Dz):Prop where
 hJ:Has J (R++(bo,.cells (drs D))::D.flatMap Dz.bx)
 hU:Has U (D.flatMap Dz.tx)
 hD:∀d∈D,DzOk H.length T.length N d
 pJ:Pre H J
 pU:Pre T U
 ok:HOk J U
theorem DS.more {H:List Blk}{T:Toks}{R:List (Nat×Blk)}{bo N M:Nat}{J:List Blk}{U:Toks}{D:List Dz}(h:DS H T R bo N J U D)(hm:N≤M):DS H T R bo M J U D:=⟨h.hJ,h.hU,fun d hd=>(h.hD d hd).more hm,h.pJ,h.pU,h.ok⟩
theorem DS.sub {H:List Blk}{T:Toks}{R R':List (Nat×Blk)}{bo N:Nat}{J:List Blk}{U:Toks}{D:List Dz}(h:DS H T R bo N J U D)(hs:R'.Sublist R):DS H T R' bo N J U D:=⟨h.hJ.sub (hs.append_right _),h.hU,h.hD,h.pJ,h.pU,h.ok⟩
theorem DS.new {H:List Blk}{T:Toks}{R:List (Nat×Blk)}{bo N:Nat}{J:List Blk}{U:Toks}{D:List Dz}(h:DS H T R bo N J U D)(b:Blk)(ho:HOk (J++[b]) U):DS H T ((J.length,b)::R) bo N (J++[b]) U D:=
 ⟨(h.hJ.new b).perm (List.perm_append_singleton _ _).symm,h.hU,h.hD,h.pJ.app _,h.pU,ho⟩
theorem drs_at {D1 D2:List Dz}(d:Dz):(drs (D1++d::D2)).getD (D1.length*3) .top=.int .i64 d.id∧(drs (D1++d::D2)).getD (D1.length*3+1) .top=gv d.zs.length d.i d.cap∧(drs (D1++d::D2)).getD (D1.length*3+2) .top=ov d.ns d.tk:=by
 have h:=drs_len D1
 have e:drs (D1++d::D2)=drs D1++(d.row++drs D2):=by simp[drs]
 rw[e]
 refine⟨?_,?_,?_⟩
 ·rw[List.getD_eq_getElem?_getD,List.getElem?_append_right (by omega),h,Nat.sub_self];rfl
 ·rw[List.getD_eq_getElem?_getD,List.getElem?_append_right (by omega),h,show D1.length*3+1-D1.length*3=1 by omega];rfl
 ·rw[List.getD_eq_getElem?_getD,List.getElem?_append_right (by omega),h,show D1.length*3+2-D1.length*3=2 by omega];rfl
theorem drs_set {D1 D2:List Dz}(d:Dz)(v:AV):(drs (D1++d::D2)).set (D1.length*3+1) v=drs D1++([.int .i64 d.id,v,ov d.ns d.tk]++drs D2)∧(drs (D1++d::D2)).set (D1.length*3+2) v=drs D1++([.int .i64 d.id,gv d.zs.length d.i d.cap,v]++drs D2):=by
 have h:=drs_len D1
 have e:drs (D1++d::D2)=drs D1++(d.row++drs D2):=by simp[drs]
 rw[e]
 constructor
 ·rw[List.set_append_right _ _ (by omega),h,show D1.length*3+1-D1.length*3=1 by omega];rfl
 ·rw[List.set_append_right _ _ (by omega),h,show D1.length*3+2-D1.length*3=2 by omega];rfl
theorem zrs_at (l:List Wz)(z:Wz)(r:List AV):(zrs (l++[z])++r).getD (l.length*2) .top=.int .i64 z.f∧(zrs (l++[z])++r).getD (l.length*2+1) .top=gv z.ws.length z.i z.cap:=by
 have h:=zrs_len l
 have e:zrs (l++[z])++r=zrs l++(z.row++r):=by simp[zrs]
 rw[e]
 refine⟨?_,?_⟩
 ·rw[List.getD_eq_getElem?_getD,List.getElem?_append_right (by omega),h,Nat.sub_self];rfl
 ·rw[List.getD_eq_getElem?_getD,List.getElem?_append_right (by omega),h,show l.length*2+1-l.length*2=1 by omega];rfl
theorem zrs_set (l:List Wz)(z:Wz)(r:List AV)(v:AV):(zrs (l++[z])++r).set (l.length*2+1) v=zrs l++([.int .i64 z.f,v]++r):=by
 have h:=zrs_len l
 have e:zrs (l++[z])++r=zrs l++(z.row++r):=by simp[zrs]
 rw[e,List.set_append_right _ _ (by omega),h,show l.length*2+1-l.length*2=1 by omega];rfl
theorem grow {C:Cx}{o:Oper}{e:Env}{J:List Blk}{U:Toks}{κ:AV→List Blk→Toks→Prop}{t t2 el:TypeId}{n i cap z:Nat}{rows row rest:List AV}{x:AV}{A B:List (Nat×Blk)}{H:List Blk}
  (h0:n=0→acap0 C.P C.bx o e J=some (1,row,z)) (h1:n≠0→acap0 C.P C.bx o e J=none∧acap o e=some (t,t2,i,n,cap,x))
  (ht:C.P.underlying t=some (.slice el)) (hz:C.P.cellsOf el=z) (hx:n≠0→asrc J z x=some (1,row)) (hb:(n+1)*C.P.bytesOf el≤140737488355328) (hn:n+1≤9223372036854775807) (hi:notInt C.P t2=true) (ha:(azero C.P el).isSome=true)
  (hr:rows.length=n*z) (hJ:Has J (A++(gb n i (rows++rest)++B))) (hg:n≠0→rest.length=(cap-n)*z∧n≤cap∧H.length≤i) (hP:Pre H J)
  (k:∀(i2 cap2:Nat)(rest2:List AV)(J2:List Blk),Has J2 (A++((i2,.cells (rows++(row++rest2)))::B))→Pre H J2→J.length≤J2.length→rest2.length=(cap2-(n+1))*z→n+1≤cap2→H.length≤i2→κ (.csl i2 (n+1) cap2) J2 U):mexec C o e J U κ:=by
 unfold mexec
 have hPl:=hP.le
 rcases Nat.eq_zero_or_pos n with rfl|hp
 ·rw[h0 rfl]
  simp only
  intro nc hnc
  have hr0:rows=[]:=List.length_eq_zero_iff.1 (by omega)
  subst hr0
  refine k J.length nc (List.replicate ((nc-1)*z) .top) _ ?_ (hP.app _) (by simp) (by simp) hnc hPl
  have:=hJ.new (.cells (row++List.replicate ((nc-1)*z) .top))
  simp only[gb,if_pos,List.nil_append] at this
  refine this.perm ?_
  rw[List.append_assoc]
  exact(List.perm_append_singleton _ _).symm.append_left _
 ·obtain⟨a1,a2⟩:=h1 (by omega)
  obtain⟨g1,g2,g3⟩:=hg (by omega)
  rw[a1,a2]
  simp only
  have hn0:n≠0:=by omega
  simp only[gb,if_neg hn0,List.singleton_append] at hJ
  have gi:=hJ.get (i:=i) (b:=.cells (rows++rest)) (by simp)
  have htk:(rows++rest).take (n*z)=rows:=List.take_left' hr
  have hdr:(rows++rest).drop ((n+1)*z)=rest.drop z:=by
   rw[List.drop_append,List.drop_of_length_le (by rw[hr,Nat.add_mul];omega),List.nil_append,hr]
   congr 1;rw[Nat.add_mul];omega
  refine⟨el,_,row,1,ht,gi,by rw[List.length_append,hr,g1,hz,←Nat.add_mul];congr 1;omega,by rw[hz];exact hx hn0,hb,hn,hi,ha,fun hle=>?_,fun nc hlt hnc=>?_⟩
  ·rw[hz,htk,hdr,List.append_assoc]
   refine k i cap (rest.drop z) _ ?_ (hP.set g3 _) (by simp) ?_ hle g3
   ·exact Has.set hJ _
   ·rw[List.length_drop,g1,←Nat.sub_one_mul];congr 1
  ·rw[hz,htk,List.append_assoc]
   refine k J.length nc (List.replicate ((nc-(n+1))*z) .top) _ ?_ (hP.app _) (by simp) (by simp) hnc hPl
   have h2:Has J (A++B):=hJ.sub (List.Sublist.append_left (List.sublist_cons_self _ _) _)
   refine(h2.new _).perm ?_
   rw[List.append_assoc]
   exact(List.perm_append_singleton _ _).symm.append_left _
end Go.Proofs.YtneohapkboaplaaGreat
