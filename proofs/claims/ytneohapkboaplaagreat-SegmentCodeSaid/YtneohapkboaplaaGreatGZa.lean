/- segment.Documents (layer 39): documents, while they are gathered; an append to a list that grows in a box. segment.Documents (layer 39): one posting. segment.Documents (layer 39): the postings of the terms. segment.Documents (layer 39): the terms, the columns. The documents of a segment (layer 39), in plain lists. segment.Documents (layer 39): the words are sorted.
  Conditions: as the theorems say. -/
import Derived.Test.YtneohapkboaplaaGreatGV
set_option linter.all false
set_option maxRecDepth 100000
namespace Go.Proofs.YtneohapkboaplaaGreat
open Go Go.Am eB
def gv (n i cap:Nat):AV:=if n=0 then .sl 0 [] .full else .dP i n cap
def gb (n i:Nat)(cs:List AV):List (Nat×aG):=if n=0 then [] else [(i,.cells cs)]
structure Wz where
 f:Int
 ws:List Wd
 i:Nat
 cap:Nat
 rest:List AV
abbrev Wz.row (z:Wz):List AV:=[.int .i64 z.f,gv z.ws.length z.i z.cap]
def Wz.bx (z:Wz):List (Nat×aG):=gb z.ws.length z.i (gS z.ws++z.rest)
def zrs (l:List Wz):List AV:=l.flatMap Wz.row
structure Dz where
 id:Int
 zs:List Wz
 i:Nat
 cap:Nat
 rest:List AV
 ns:List Nm
 tk:Nat
def ov (ns:List Nm)(tk:Nat):AV:=if ns=[] then .sl 0 [] .full else .sl ns.length (br ns) (.own tk)
abbrev Dz.row (d:Dz):List AV:=[.int .i64 d.id,gv d.zs.length d.i d.cap,ov d.ns d.tk]
def Dz.bx (d:Dz):List (Nat×aG):=gb d.zs.length d.i (zrs d.zs++d.rest)++d.zs.flatMap Wz.bx
def Dz.tx (d:Dz):List (Nat×(Nat×Nat)):=if d.ns=[] then [] else [(d.tk,(d.ns.length*2,2))]
def drs (l:List Dz):List AV:=l.flatMap Dz.row
def SM (nb N n i cap z:Nat)(rest:List AV):Prop:=n≤N∧(n≠0→rest.length=(cap-n)*z∧n≤cap∧nb≤i)
structure Mv (nb tb N:Nat)(d:Dz):Prop where
 z:SM nb N d.zs.length d.i d.cap 2 d.rest
 w:∀z∈d.zs,SM nb N z.ws.length z.i z.cap 2 z.rest
 n:d.ns.length≤N∧(d.ns≠[]→tb≤d.tk)
theorem SM.more {nb N M n i cap z:Nat}{rest:List AV}(h:SM nb N n i cap z rest)(hm:N≤M):SM nb M n i cap z rest:=⟨Nat.le_trans h.1 hm,h.2⟩
theorem Mv.more {nb tb N M:Nat}{d:Dz}(h:Mv nb tb N d)(hm:N≤M):Mv nb tb M d:=⟨h.z.more hm,fun z hz=>(h.w z hz).more hm,⟨Nat.le_trans h.n.1 hm,h.n.2⟩⟩
structure DS (H:List aG)(T:ay)(R:List (Nat×aG))(bo N:Nat)(J:List aG)(U:ay)(D:List Dz):Prop where
 hJ:Has J (R++(bo,.cells (drs D))::D.flatMap Dz.bx)
 hU:Has U (D.flatMap Dz.tx)
 hD:∀d∈D,Mv H.length T.length N d
 pJ:gP H J
 pU:gP T U
 ok:bM J U
theorem DS.more {H:List aG}{T:ay}{R:List (Nat×aG)}{bo N M:Nat}{J:List aG}{U:ay}{D:List Dz}(h:DS H T R bo N J U D)(hm:N≤M):DS H T R bo M J U D:=⟨h.hJ,h.hU,fun d hd=>(h.hD d hd).more hm,h.pJ,h.pU,h.ok⟩
theorem DS.sub {H:List aG}{T:ay}{R R':List (Nat×aG)}{bo N:Nat}{J:List aG}{U:ay}{D:List Dz}(h:DS H T R bo N J U D)(hs:R'.Sublist R):DS H T R' bo N J U D:=⟨h.hJ.sub (hs.append_right _),h.hU,h.hD,h.pJ,h.pU,h.ok⟩
theorem DS.new {H:List aG}{T:ay}{R:List (Nat×aG)}{bo N:Nat}{J:List aG}{U:ay}{D:List Dz}(h:DS H T R bo N J U D)(b:aG)(ho:bM (J++[b]) U):DS H T ((J.length,b)::R) bo N (J++[b]) U D:=
 ⟨(h.hJ.new b).perm (List.perm_append_singleton _ _).symm,h.hU,h.hD,h.pJ.app _,h.pU,ho⟩
theorem grow {C:Cx}{o:Oper}{e:Env}{J:List aG}{U:ay}{κ:AV→List aG→ay→Prop}{t t2 el:TypeId}{n i cap z:Nat}{rows row rest:List AV}{x:AV}{A B:List (Nat×aG)}{H:List aG}
  (h0:n=0→lB C.P C.bx o e J=some (1,row,z)) (h1:n≠0→lB C.P C.bx o e J=none∧s8 o e=some (t,t2,i,n,cap,x))
  (ht:C.P.underlying t=some (.slice el)) (hz:C.P.cellsOf el=z) (hx:n≠0→kG J z x=some (1,row)) (hb:(n+1)*C.P.bytesOf el≤140737488355328) (hn:n+1≤9223372036854775807) (hi:ji C.P t2=true) (ha:(aX C.P el).isSome=true)
  (hr:rows.length=n*z) (hJ:Has J (A++(gb n i (rows++rest)++B))) (hg:n≠0→rest.length=(cap-n)*z∧n≤cap∧H.length≤i) (hP:gP H J)
  (k:∀(i2 pj:Nat)(ly:List AV)(J2:List aG),Has J2 (A++((i2,.cells (rows++(row++ly)))::B))→gP H J2→J.length≤J2.length→ly.length=(pj-(n+1))*z→n+1≤pj→H.length≤i2→κ (.dP i2 (n+1) pj) J2 U):jX C o e J U κ:=by
 unfold jX;have Ri:=hP.le;rcases Nat.eq_zero_or_pos n with rfl|hp
 ·rw[h0 rfl];simp only;intro nc mK;have DH:rows=[]:=List.length_eq_zero_iff.1 (by omega);subst DH;refine k J.length nc (List.replicate ((nc-1)*z) .top) _ ?_ (hP.app _) (by simp) (by simp) mK Ri;have:=hJ.new (.cells (row++List.replicate ((nc-1)*z) .top));simp only[gb,if_pos,List.nil_append] at this;refine this.perm ?_;rw[List.append_assoc];exact(List.perm_append_singleton _ _).symm.append_left _
 ·obtain⟨a1,a2⟩:=h1 (by omega);obtain⟨g1,g2,g3⟩:=hg (by omega);rw[a1,a2];simp only;have DK:n≠0:=by omega
  simp only[gb,if_neg DK,List.singleton_append] at hJ;have gi:=hJ.get (i:=i) (b:=.cells (rows++rest)) (by simp);have kS:(rows++rest).take (n*z)=rows:=List.take_left' hr;have vv:(rows++rest).drop ((n+1)*z)=rest.drop z:=by
   rw[List.drop_append,List.drop_of_length_le (by rw[hr,Nat.add_mul];omega),List.nil_append,hr]
   congr 1;rw[Nat.add_mul];omega
  refine⟨el,_,row,1,ht,gi,by rw[List.length_append,hr,g1,hz,←Nat.add_mul];congr 1;omega,by rw[hz];exact hx DK,hb,hn,hi,ha,fun hle=>?_,fun nc bh mK=>?_⟩
  ·rw[hz,kS,vv,List.append_assoc];refine k i cap (rest.drop z) _ ?_ (hP.set g3 _) (by simp) ?_ hle g3
   ·exact Has.set hJ _
   ·rw[List.length_drop,g1,←Nat.sub_one_mul];congr 1
  ·rw[hz,kS,List.append_assoc];refine k J.length nc (List.replicate ((nc-(n+1))*z) .top) _ ?_ (hP.app _) (by simp) (by simp) mK Ri;have h2:Has J (A++B):=hJ.sub (List.Sublist.append_left (List.sublist_cons_self _ _) _);refine(h2.new _).perm ?_;rw[List.append_assoc];exact(List.perm_append_singleton _ _).symm.append_left _
open gH
def evs (ts:List Tm)(id:Int):List (Int×List Wd):=ts.flatMap fun t=>(t.l.filter fun p=>p.1==id).map fun p=>(t.f,p.2.map fun a=>(t.w,a))
def RI (cs:List Cl)(id:Int):List Nm:=cs.flatMap fun c=>(c.x.filter fun y=>y.2==id).map fun y=>(c.f,y.1)
def kP (g:Int→List Wd):List Zn:=[1,2,3,4].flatMap fun f=>if g f=[] then [] else [⟨f,g f⟩]
def vD (es:List (Int×List Wd))(f:Int):List Wd:=(es.filter fun e=>e.1==f).flatMap (·.2)
def occs (ts:List Tm)(id f:Int):List Wd:=vD (evs ts id) f
def IW (s:Sg):List Dc:=s.aw.map fun id=>⟨id,kP fun f=>ui (occs s.aJ id f),RI s.az id⟩
section
variable {s : Sg}
theorem IA (hv:aW s=true){t:Tm}(ht:t∈s.aJ):(1≤t.f∧t.f≤4)∧t.l≠[]∧bc t.l=true∧∀p∈t.l,p.1∈s.aw:=by
 obtain⟨_,⟨h,_⟩,_⟩:=fe hv;obtain⟨i,hi,rfl⟩:=bP t0 ht;obtain⟨a,b⟩:=h i hi;unfold jT at a;unfold qV at b;simp only[Bool.and_eq_true,decide_eq_true_eq] at a b;exact⟨a.1.1,b.1.1,b.1.2,b.2⟩
end
end Go.Proofs.YtneohapkboaplaaGreat
