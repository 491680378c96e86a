/- Segments (layer 39): what a valid one is; places as the keys of a map. segment.Valid (layer 39): the places of a term. segment.Valid (layer 39): the columns. segment.Valid (layer 39).
  Conditions: lengths below 400 or 1000, as each theorem says. -/
import Derived.Test.YtneohapkboaplaaGreatGBC
import Derived.Test.YtneohapkboaplaaGreatPZ
set_option linter.all false
set_option maxRecDepth 100000
set_option maxHeartbeats 16000000
open Nat (le_trans zero_le lt_or_ge)
namespace eJ
open iF
abbrev Pl:=Int×Int×Int
def eh (f:Int)(p:Ps):List Pl:=p.2.map fun a=>(f,p.1,a)
def nI (t:Tm):List Pl:=t.l.flatMap (eh t.f)
def nw (l:List Tm):List Pl:=l.flatMap nI
abbrev Tm.k (t:Tm):Ky:=(t.f,t.w)
end eJ
namespace Go.Proofs.YtneohapkboaplaaGreat
open Go Go.Am iF eJ
abbrev bH (s:Sg):List AV:=[.sl s.an.length (ints s.an) .none,.sl s.aK.length (bO s.aK) .none,.sl s.aw.length (cR s.aw) .none]
def vK (an:List Int)(l:List Ps):Bool:=(decide (l≠[])&&bX l)&&decide (∀p∈l,p.1∈an)
def kP (l:List Tm)(i:Nat):Bool:=(decide (1≤(l.getD i t0).f∧(l.getD i t0).f≤4)&&okW (l.getD i t0).w)&&(decide (i=0)||bM (l.getD (i-1) t0).k (l.getD i t0).k)
def Re (an:List Int)(l:List Tm)(i:Nat):Bool:=kP l i&&vK an (l.getD i t0).l
def kQ (an:List Int)(x:List Nm)(k:Nat):Bool:=(decide ((x.getD k n0).2∈an)&&decide (0≤(x.getD k n0).1∧(x.getD k n0).1≤1000000000000))&&(decide (k=0)||cP (x.getD (k-1) n0) (x.getD k n0))
def EG (an:List Int)(x:List Nm):Bool:=(List.range x.length).all (kQ an x)
def nJ (l:List Cl)(i:Nat):Bool:=(decide (5≤(l.getD i c0).f∧(l.getD i c0).f≤7)&&decide ((l.getD i c0).x≠[]))&&(decide (i=0)||decide ((l.getD (i-1) c0).f<(l.getD i c0).f))
def Pm (an:List Int)(l:List Cl)(i:Nat):Bool:=nJ l i&&EG an (l.getD i c0).x
def I8 (s:Sg):Bool:=(List.range s.aK.length).all (Re s.an s.aK)&&decide (nw s.aK).Nodup
def ML (s:Sg):Bool:=(List.range s.aw.length).all (Pm s.an s.aw)
def aP (s:Sg):Bool:=(ju s.an 1 1000000000&&decide (s.an.length≤2000))&&(I8 s&&ML s)
structure mh (s:Sg):Prop where
 d:s.an.length≤400
 t:s.aK.length≤1000
 w:∀t∈s.aK,t.w.length≤maxLen∧t.l.length≤400∧∀p∈t.l,p.2.length≤400
 c:s.aw.length≤1000
 x:∀c∈s.aw,c.x.length≤1000
theorem ow {s:Sg}(h:ju s.an 1 1000000000=false):aP s=false:=by unfold aP;rw[h];rfl
theorem Ap {s:Sg}{i:Nat}(hi:i<s.aK.length)(h:Re s.an s.aK i=false):aP s=false:=by
 unfold aP I8;rw[jd hi h];simp
theorem wW {s:Sg}{i:Nat}(hi:i<s.aK.length)(h:kP s.aK i=false):aP s=false:=Ap hi (by unfold Re;rw[h];rfl)
theorem Aq {s:Sg}{i:Nat}(hi:i<s.aK.length)(h:vK s.an (s.aK.getD i t0).l=false):aP s=false:=Ap hi (by unfold Re;rw[h];simp)
theorem wX {s:Sg}(h:¬(nw s.aK).Nodup):aP s=false:=by
 unfold aP I8;rw[decide_eq_false h];simp
theorem As {s:Sg}{i:Nat}(hi:i<s.aw.length)(h:Pm s.an s.aw i=false):aP s=false:=by
 unfold aP ML;rw[jd hi h];simp
theorem wY {s:Sg}{i:Nat}(hi:i<s.aw.length)(h:nJ s.aw i=false):aP s=false:=As hi (by unfold Pm;rw[h];rfl)
theorem Ar {s:Sg}{i k:Nat}(hi:i<s.aw.length)(hk:k<(s.aw.getD i c0).x.length)(h:kQ s.an (s.aw.getD i c0).x k=false):aP s=false:=As hi (by unfold Pm EG;rw[jd hk h];simp)
theorem ou {s:Sg}(h1:ju s.an 1 1000000000=true)(h2:s.an.length≤2000)(h3:∀i,i<s.aK.length→kP s.aK i=true∧vK s.an (s.aK.getD i t0).l=true)(h4:(nw s.aK).Nodup)
  (h5:∀i,i<s.aw.length→nJ s.aw i=true∧∀k,k<(s.aw.getD i c0).x.length→kQ s.an (s.aw.getD i c0).x k=true):aP s=true:=by
 unfold aP I8 ML;rw[h1,decide_eq_true h2,decide_eq_true h4,fq (fun i hi=>by unfold Re;rw[(h3 i hi).1,(h3 i hi).2];rfl),fq (fun i hi=>by unfold Pm EG;rw[(h5 i hi).1,fq (h5 i hi).2];rfl)];rfl
theorem fi {s:Sg}(h:aP s=true):(ju s.an 1 1000000000=true∧s.an.length≤2000)∧((∀i,i<s.aK.length→kP s.aK i=true∧vK s.an (s.aK.getD i t0).l=true)∧(nw s.aK).Nodup)∧
  (∀i,i<s.aw.length→nJ s.aw i=true∧∀k,k<(s.aw.getD i c0).x.length→kQ s.an (s.aw.getD i c0).x k=true):=by
 unfold aP I8 ML at h;simp only[Bool.and_eq_true,decide_eq_true_eq] at h;obtain⟨⟨a,b⟩,⟨c,d⟩,e⟩:=h;refine⟨⟨a,b⟩,⟨fun i hi=>?_,d⟩,fun i hi=>?_⟩
 ·have:=lG c hi;unfold Re at this;simpa[Bool.and_eq_true] using this
 ·have:=lG e hi;unfold Pm EG at this;rw[Bool.and_eq_true] at this;exact⟨this.1,fun k hk=>lG this.2 hk⟩
def tr (k:Pl):cN:=.agg [.int .i64 k.1,.int .i64 k.2.1,.int .i64 k.2.2]
def nB (l:List Pl):List (cN×AV):=l.map fun k=>(tr k,.bool true)
theorem AY {a b:Pl}:tr a=tr b↔a=b:=by
 obtain⟨a1,a2,a3⟩:=a;obtain⟨b1,b2,b3⟩:=b;simp[tr]
theorem NG (l:List Pl)(k:Pl):gS (nB l) (tr k) (.bool false) false=.bool (decide (k∈l)):=by
 unfold gS;simp only[Bool.false_eq_true,if_false]
 induction l with
 |nil=>rfl
 |cons x r ih=>
  simp only[nB,List.map_cons,tm,AY] at ih ⊢
  by_cases h:x=k
  ·rw[if_pos h];simp[h]
  ·rw[if_neg h,ih];simp[Ne.symm h]
theorem NF {l:List Pl}{k:Pl}(h:k∉l):jH (nB l) (tr k) (.bool true)=nB (l++[k]):=by
 rw[lZ (fun x hx=>?_)]
 ·simp[nB]
 ·obtain⟨e,he,rfl⟩:=List.mem_map.1 hx;exact fun hh=>h (AY.1 hh▸he)
@[simp] theorem RY (n t:Nat) (l:List Pl):aJ n t ((nB l).map (·.2)):=by
 intro v hv;simp only[nB,List.map_map,List.mem_map,Function.comp] at hv;obtain⟨x,_,rfl⟩:=hv;exact .bool _
def Mb (k:Pl):Prop:=(-9223372036854775808≤k.1∧k.1≤9223372036854775807)∧(-9223372036854775808≤k.2.1∧k.2.1≤9223372036854775807)∧(-9223372036854775808≤k.2.2∧k.2.2≤9223372036854775807)
theorem TK (k:Pl)(h:Mb k):kX Tryz.prog 139 (tr k)=true:=by
 have hu:=Tryz.underlying139;have h3:Tryz.prog.underlying 3=some (.int .i64):=by kernel_rfl
 have c3:Tryz.prog.cellsOf 3=1:=by kernel_rfl
 have Rt:Tryz.prog.keyType 139=true:=by kernel_rfl
 have iQ:Tryz.prog.types.size=287:=by kernel_rfl
 have e1:∀x:Int,-9223372036854775808≤x∧x≤9223372036854775807→Tryz.prog.keyLits 287 3 [.int .i64 x]=some [.int .i64 x]:=fun x hx=>by
  have Sl:(Lit.int .i64 x).wf=true:=by
   simp only[Lit.wf,Bool.and_eq_true,decide_eq_true_eq];exact hx
  show Tryz.prog.keyLits (286+1) 3 _=_;unfold Program.keyLits;rw[h3];simp only[Sl,and_self,if_true]
 obtain⟨f,d,p⟩:=k;obtain⟨h1,h2,h4⟩:=h;simp only at h1 h2 h4;have hl:Tryz.prog.keyLits (287+1) 139 [.int .i64 f,.int .i64 d,.int .i64 p]=some [.int .i64 f,.int .i64 d,.int .i64 p]:=by
  unfold Program.keyLits;rw[hu];simp[Bo,c3,e1 f h1,e1 d h2,e1 p h4]
 unfold kX keyOf;rw[hu];have hf:(cN.val (tr (f,d,p))).formed Tryz.prog 139=true:=by
  simp[tr,cN.val,KC.val,Value.formed,hu,Bo]
 simp only[Rt,hf,Bool.and_self,if_true,iQ];have:(cN.val (tr (f,d,p))).cells.toList=[.int .i64 f,.int .i64 d,.int .i64 p]:=rfl;rw[this,hl];rfl
theorem Uz {l:List Pl}(h:∀k∈l,Mb k):cW Tryz.prog 139 (nB l)=true:=by
 unfold cW;rw[List.all_eq_true];intro x hx;obtain⟨k,hk,rfl⟩:=List.mem_map.1 hx;exact TK k (h k hk)
open dh
theorem Hm (f:Int)(p:Ps)(k:Nat)(h:k<p.2.length):eh f (p.1,p.2.take (k+1))=eh f (p.1,p.2.take k)++[(f,p.1,p.2.getD k 0)]:=by
 unfold eh;simp only;rw[bf p.2 k 0 h];simp
theorem jY {α β:Type}(l:List α)(f:α→List β)(d:α)(k:Nat)(h:k<l.length):(l.take (k+1)).flatMap f=(l.take k).flatMap f++f (l.getD k d):=by
 rw[bf l k d h];simp
attribute [-simp] List.getD_eq_getElem?_getD in
theorem Gv (s:Sg)(t:Tm)(i:Nat)(hl:t.l.length≤400)(hp:∀p∈t.l,p.2.length≤400)(hf:1≤t.f∧t.f≤4)(hv:bX t.l=true)(seen:List Pl)(hs:∀k∈seen,Mb k)(hn:seen.Nodup)
  (H:List aA) (T:ar) (HO:bC (H++[.cells (bH s),.map (nB seen),.cells (js t)]) T) (Q:Exit→St→Prop)
  (bad:¬(seen++nI t).Nodup→∀(e:Env)(rH:List aA)(rT:ar),bF e 2=.bool false→Q .ret ⟨e,H++rH,T++rT⟩)
  (go:(seen++nI t).Nodup→(∀k∈seen++nI t,Mb k)→bC (H++[.cells (bH s),.map (nB (seen++nI t)),.cells (js t)]) T→∀e:Env,bt (H.length+3) T.length e [(1,.ptr H.length 0),(3,.aO (H.length+1)),(29,.sl s.aK.length (bO s.aK) .none),(30,.int .i64 (s.aK.length:Nat)),(31,.int .i64 (i:Nat))]→Q .normal ⟨e,H++[.cells (bH s),.map (nB (seen++nI t)),.cells (js t)],T⟩) :
  AW ⟨Tryz.prog,195,154,H.length,T.length,[]⟩ (du [1,1,1,0,1,0,0,1,1,0,0,1,1,1] (Tryz.f16.body.getD .skip)) Q ⟨[(1,.ptr H.length 0),(3,.aO (H.length+1)),(5,.ptr (H.length+2) 0),(29,.sl s.aK.length (bO s.aK) .none),(30,.int .i64 (s.aK.length:Nat)),(31,.int .i64 (i:Nat))],H++[.cells (bH s),.map (nB seen),.cells (js t)],T⟩:=by
 conv=>arg 2;whnf
 obtain⟨v1,v2,v3⟩:=cU hv;obtain⟨f,w,l⟩:=t;simp only at hl hp hf hv v1 v2 v3;have mO:l.length≤9223372036854775807:=by omega
 apply ae;intro K h;simp(disch:=omega);apply h;clear h K;apply ah;refine aG (X:=Nat) (fun j=>⟨[(1,.ptr H.length 0),(3,.aO (H.length+1)),(5,.ptr (H.length+2) 0),(29,.sl s.aK.length (bO s.aK) .none),(30,.int .i64 (s.aK.length:Nat)),(31,.int .i64 (i:Nat)),(85,.sl l.length (bp l) .none),(86,.int .i64 (l.length:Nat)),(87,.int .i64 (j:Nat))],H++[.cells (bH s),.map (nB (seen++(l.take j).flatMap (eh f))),.cells (js ⟨f,w,l⟩)],T⟩)
  (fun j=>j≤l.length∧(seen++(l.take j).flatMap (eh f)).Nodup∧(∀k∈seen++(l.take j).flatMap (eh f),Mb k)∧bC (H++[.cells (bH s),.map (nB (seen++(l.take j).flatMap (eh f))),.cells (js ⟨f,w,l⟩)]) T) (fun j=>l.length-j) 0 ?_ ?_ ?_
 ·refine⟨zero_le _,?_⟩;simp only[List.take_zero,List.flatMap_nil,List.append_nil];exact⟨hn,hs,HO⟩
 ·have e0:seen++(l.take 0).flatMap (eh f)=seen:=by simp
  refine ag [] [] ?_ ?_ ?_ ?_ (by rw[e0];exact HO) ?_
  all_goals simp
  all_goals (try omega)
 ·rintro j ⟨j1,j2,j3,j4⟩;have hle:∀k∈seen++(l.take j).flatMap (eh f),Mb k:=j3;have oG:=fun h=>jY l (eh f) p0 j h;have fj:seen++nI ⟨f,w,l⟩=(seen++(l.take j).flatMap (eh f))++(l.drop j).flatMap (eh f):=by
   rw[List.append_assoc,←List.flatMap_append,List.take_append_drop];rfl
  generalize hg:seen++(l.take j).flatMap (eh f)=sj at *;apply ae;intro K h;simp(disch:=omega);apply h;clear h K;refine af fun K1 aQ=>?_;refine aN rfl (fun hk=>?_) (fun hk=>?_)
  ·simp  at hk;have bA:=jq l j hk;have ub:=aR l j p0 hk;obtain⟨w1,w2,w3⟩:=v3 _ ub;have w0:=v2 _ ub;have CC:=hp _ ub;have oH:l.drop j=l.getD j p0::l.drop (j+1):=da l j p0 hk;rw[oH,List.flatMap_cons] at fj;replace oG:=oG hk;have Tz:seen++(l.take (j+1)).flatMap (eh f)=sj++eh f (l.getD j p0):=by rw[oG,←List.append_assoc,hg]
   generalize l.getD j p0=p at *;obtain⟨d,ps⟩:=p;simp only at bA w0 w1 w2 w3 CC;have aaj:ps.length≤9223372036854775807:=by omega
   apply ai;simp(disch:=omega) ;apply aQ;clear aQ;refine af fun K2 aW=>?_;apply ah;refine ae fun K hK=>?_;simp(disch:=omega)[bA,aY];apply hK;clear hK K;have dy:bC (H++[.cells (bH s),.map (nB sj),.cells (js ⟨f,w,l⟩),.cells [.int .i64 d,.sl ps.length (ints ps) .none]]) T:=by
    have:=bC.snoc (vs:=[.int .i64 d,.sl ps.length (ints ps) .none]) j4 (by simp);simpa using this
   apply ae;intro K h;simp(disch:=omega);apply h;clear h K;apply ah;refine aG (X:=Nat) (fun k=>⟨[(1,.ptr H.length 0),(3,.aO (H.length+1)),(5,.ptr (H.length+2) 0),(7,.ptr (H.length+3) 0),(29,.sl s.aK.length (bO s.aK) .none),(30,.int .i64 (s.aK.length:Nat)),(31,.int .i64 (i:Nat)),(85,.sl l.length (bp l) .none),(86,.int .i64 (l.length:Nat)),(87,.int .i64 (j:Nat)),(92,.sl ps.length (ints ps) .none),(93,.int .i64 (ps.length:Nat)),(94,.int .i64 (k:Nat))],H++[.cells (bH s),.map (nB (sj++eh f (d,ps.take k))),.cells (js ⟨f,w,l⟩),.cells [.int .i64 d,.sl ps.length (ints ps) .none]],T⟩)
    (fun k=>k≤ps.length∧(sj++eh f (d,ps.take k)).Nodup∧(∀x∈sj++eh f (d,ps.take k),Mb x)∧bC (H++[.cells (bH s),.map (nB (sj++eh f (d,ps.take k))),.cells (js ⟨f,w,l⟩),.cells [.int .i64 d,.sl ps.length (ints ps) .none]]) T) (fun k=>ps.length-k) 0 ?_ ?_ ?_
   ·refine⟨zero_le _,?_⟩;simp only[List.take_zero,eh,List.map_nil,List.append_nil];exact⟨j2,j3,dy⟩
   ·have e0:sj++eh f (d,ps.take 0)=sj:=by simp[eh]
    refine ag [] [] ?_ ?_ ?_ ?_ (by rw[e0];exact dy) ?_
    all_goals simp[eh]
    all_goals (try omega)
   ·rintro k ⟨k1,k2,k3,k4⟩;have eN:=Hm f (d,ps) k;simp only at eN;have Uu:eh f (d,ps)=eh f (d,ps.take k)++eh f (d,ps.drop k):=by
     unfold eh;simp only;rw[←List.map_append,List.take_append_drop]
    have aaD:=da ps k 0;have CL:∀h,sj++eh f (d,ps.take (k+1))=(sj++eh f (d,ps.take k))++[(f,d,ps.getD k 0)]:=fun h=>by rw[eN h,List.append_assoc]
    have Qi:∀h:k<ps.length,eh f (d,ps.drop k)=(f,d,ps.getD k 0)::eh f (d,ps.drop (k+1)):=fun h=>by unfold eh;simp only;rw[aaD h];rfl
    have F8:k=ps.length→sj++eh f (d,ps.take k)=sj++eh f (d,ps):=fun h=>by rw[h,List.take_length]
    rw[Uu,List.append_assoc,←List.append_assoc] at fj;generalize hgk:sj++eh f (d,ps.take k)=sk at *;apply ae;intro K h;simp(disch:=omega);apply h;clear h K;refine af fun K3 bz=>?_;refine aN rfl (fun qm=>?_) (fun qm=>?_)
    ·simp  at qm;have FJ:=aS (xs:=ps) (k:=k) qm;have hpr:=w3 _ (aR ps k 0 qm);replace CL:=CL qm;replace Qi:=Qi qm;generalize ps.getD k 0=x at *;have hR:Mb (f,d,x):=⟨by simp only;omega,by simp only;omega,by simp only;omega⟩
     have vX:kX Tryz.prog 139 (.agg [.int .i64 f,.int .i64 d,.int .i64 x])=true:=TK (f,d,x) hR;have kL:=Uz k3;have dH:=NG sk (f,d,x);unfold tr at dH;simp only at dH;apply ai;simp(disch:=omega) ;apply bz;clear bz;refine af fun K4 eV=>?_;apply ah;refine ae fun K hK=>?_;simp(disch:=omega)[FJ];apply hK;clear hK K;apply ae;intro K h;simp(disch:=omega);apply h;clear h K;refine af fun K5 gC=>?_
     by_cases hm:(f,d,x)∈sk
     ·rw[decide_eq_true hm] at dH;refine ae fun K hK=>?_;simp(disch:=omega)[yU,Af,vX,kL,dH];apply hK;clear hK K;apply aF rfl;apply ae;intro K h;simp(disch:=omega);apply h;clear h K;apply az;simp(disch:=omega) ;rw[←List.append_nil T];refine bad (fun lr=>?_) _ _ _ rfl;rw[fj,Qi] at lr;exact(List.nodup_append.1 lr).2.2 _ hm (f,d,x) (by simp) rfl
     ·rw[decide_eq_false hm] at dH;have ia:=NF hm;unfold tr at ia;simp only at ia;refine ae fun K hK=>?_;simp(disch:=omega)[yU,Af,vX,kL,dH];apply hK;clear hK K;apply aD rfl;apply ai;simp(disch:=omega) ;apply gC;clear gC;refine au fun K hK=>?_;simp(disch:=omega)[yU,vX,kL,ia];apply hK;clear hK K;have hR2:∀y∈sk++[(f,d,x)],Mb y:=fun y hy=>by
       rcases List.mem_append.1 hy with h1|h1
       ·exact k3 y h1
       ·rw[List.mem_singleton.1 h1];exact hR
      have aam:(sk++[(f,d,x)]).Nodup:=List.nodup_append.2 ⟨k2,by simp,fun a ha b hb=>by rw[List.mem_singleton.1 hb];exact fun e=>hm (e▸ha)⟩;have nG:bC (H++[.cells (bH s),.map (nB (sk++[(f,d,x)])),.cells (js ⟨f,w,l⟩),.cells [.int .i64 d,.sl ps.length (ints ps) .none]]) T:=by
       have:=bC.pX (k:=H.length+1) (es:=nB (sk++[(f,d,x)])) k4 (by simp);simpa using this
      apply eV;clear eV;refine au fun K hK=>?_;simp(disch:=omega) ;apply hK;clear hK K;refine⟨k+1,⟨by show k+1≤_;omega,?_,?_,?_⟩,by show ps.length-(k+1)<ps.length-k;omega,?_⟩
      ·rw[CL];exact aam
      ·rw[CL];exact hR2
      ·rw[CL];exact nG
      ·refine ag [.cells [.int .i64 f,.int .i64 d,.int .i64 x]] [] ?_ ?_ ?_ ?_ (by rw[CL];exact nG) ?_
       all_goals simp[CL]
       all_goals (try omega)
    ·simp  at qm;have CE:k=ps.length:=by omega
     have WZ:=F8 CE;apply aC;simp(disch:=omega) ;apply aW;clear aW;refine au fun K hK=>?_;simp(disch:=omega) ;apply hK;clear hK K;rw[WZ,←Tz] at k2 k3;have wL:bC (H++[.cells (bH s),.map (nB (seen++(l.take (j+1)).flatMap (eh f))),.cells (js ⟨f,w,l⟩)]) T:=by
      have:=bC.pX (k:=H.length+1) (es:=nB (seen++(l.take (j+1)).flatMap (eh f))) j4 (by simp);simpa using this
     refine⟨j+1,⟨by show j+1≤_;omega,k2,k3,wL⟩,by show l.length-(j+1)<l.length-j;omega,?_⟩;refine ag [.cells [.int .i64 d,.sl ps.length (ints ps) .none]] [] ?_ ?_ ?_ ?_ wL ?_
     all_goals simp[WZ,Tz]
     all_goals (try omega)
  ·simp  at hk;have ID:j=l.length:=by omega
   have CB:seen++nI ⟨f,w,l⟩=sj:=by rw[fj,ID,List.drop_length];simp
   apply aC;simp(disch:=omega) ;rw[←CB] at j2 j3 j4 ⊢;exact go j2 j3 j4 _ (by simp;try omega)
attribute [-simp] List.getD_eq_getElem?_getD in
theorem Gw (an:List Int)(aK:List Tm)(aw:List Cl)(f:Int)(x:List Nm)(i:Nat)(MW:kU an)(lN:an.length≤1000)(vT:x.length≤1000)(es:List (cN×AV))(H:List aA)(T:ar)
  (dy:bC (H++[.cells (bH ⟨an,aK,aw⟩),.map es,.cells (fL ⟨f,x⟩)]) T) (Q:Exit→St→Prop)
  (bad:∀k,k<x.length→kQ an x k=false→∀(e:Env)(rH:List aA)(rT:ar),bF e 2=.bool false→Q .ret ⟨e,H++rH,T++rT⟩)
  (go:(∀k,k<x.length→kQ an x k=true)→∀e:Env,bt (H.length+3) T.length e [(1,.ptr H.length 0),(113,.sl aw.length (cR aw) .none),(114,.int .i64 (aw.length:Nat)),(115,.int .i64 (i:Nat))]→Q .normal ⟨e,H++[.cells (bH ⟨an,aK,aw⟩),.map es,.cells (fL ⟨f,x⟩)],T⟩) :
  AW ⟨Tryz.prog,195,154,H.length,T.length,[]⟩ (du [1,1,1,1,0,1,0,0,1,1,0,0,1,1] (Tryz.f16.body.getD .skip)) Q ⟨[(1,.ptr H.length 0),(12,.ptr (H.length+2) 0),(113,.sl aw.length (cR aw) .none),(114,.int .i64 (aw.length:Nat)),(115,.int .i64 (i:Nat))],H++[.cells (bH ⟨an,aK,aw⟩),.map es,.cells (fL ⟨f,x⟩)],T⟩:=by
 conv=>arg 2;whnf
 have FX:x.length≤9223372036854775807:=by omega
 apply ae;intro K h;simp(disch:=omega);apply h;clear h K;apply ah;refine aG (X:=Nat) (fun k=>⟨[(1,.ptr H.length 0),(12,.ptr (H.length+2) 0),(113,.sl aw.length (cR aw) .none),(114,.int .i64 (aw.length:Nat)),(115,.int .i64 (i:Nat)),(151,.sl x.length (aU x) .none),(152,.int .i64 (x.length:Nat)),(153,.int .i64 (k:Nat))],H++[.cells (bH ⟨an,aK,aw⟩),.map es,.cells (fL ⟨f,x⟩)],T⟩)
  (fun k=>k≤x.length∧∀j,j<k→kQ an x j=true) (fun k=>x.length-k) 0 ?_ ?_ ?_
 ·exact⟨zero_le _,fun j hj=>absurd hj (Nat.not_lt_zero _)⟩
 ·refine ag [] [] ?_ ?_ ?_ ?_ dy ?_
  all_goals simp
 ·rintro m ⟨m1,m2⟩;apply ae;intro K h;simp(disch:=omega);apply h;clear h K;refine af fun K5 gC=>?_;refine aN rfl (fun dg=>?_) (fun dg=>?_)
  ·simp  at dg;have pL:=eA x m dg;have er:kQ an x m=((decide ((x.getD m n0).2∈an)&&decide (0≤(x.getD m n0).1∧(x.getD m n0).1≤1000000000000))&&(decide (m=0)||cP (x.getD (m-1) n0) (x.getD m n0))):=rfl;have cn:=fun H T=>sQ (x.getD (m-1) n0) (x.getD m n0) H T;have jE:=Fp (x.getD (m-1) n0) (x.getD m n0);generalize uo (x.getD (m-1) n0) (x.getD m n0)=cq at *;have wI:=fun h=>eA x (m-1) h;generalize x.getD (m-1) n0=y at *;generalize Rm:x.getD m n0=z at *;obtain⟨x1,x2⟩:=z;obtain⟨y1,y2⟩:=y;simp only at pL wI er;apply ai;simp(disch:=omega) ;apply gC;clear gC;refine af fun K6 iH=>?_;apply ah;refine ae fun K hK=>?_;simp(disch:=omega)[pL,bG];apply hK;clear hK K;have nG:bC (H++[.cells (bH ⟨an,aK,aw⟩),.map es,.cells (fL ⟨f,x⟩),.cells [.int .i64 x1,.int .i64 x2]]) T:=by
    have:=bC.snoc (vs:=[.int .i64 x1,.int .i64 x2]) dy (by simp);simpa using this
   have cb:=Eb an x2 MW lN (H++[.cells (bH ⟨an,aK,aw⟩),.map es,.cells (fL ⟨f,x⟩),.cells [.int .i64 x1,.int .i64 x2]]) T .none;have c:=cn (H++[.cells (bH ⟨an,aK,aw⟩),.map es,.cells (fL ⟨f,x⟩),.cells [.int .i64 x1,.int .i64 x2]]) T;refine ae fun K hK=>?_;simp(disch:=omega) ;refine⟨_,cb,?_⟩;rintro r H' T' ⟨rfl,rfl,ii,rfl⟩;simp(disch:=omega) ;apply hK;clear hK K;clear cb;refine aI [] [] [] al (by kernel_rfl) (by kernel_rfl) fun K hK=>?_;have gn:∀e b,b=kQ an x m→bt (H.length+4) T'.length e [(1,.ptr H.length 0),(12,.ptr (H.length+2) 0),(113,.sl aw.length (cR aw) .none),(114,.int .i64 (aw.length:Nat)),(115,.int .i64 (i:Nat)),(151,.sl x.length (aU x) .none),(152,.int .i64 (x.length:Nat)),(153,.int .i64 (m:Nat)),(192,.bool (!b))]→K ⟨e,H++[.cells (bH ⟨an,aK,aw⟩),.map es,.cells (fL ⟨f,x⟩),.cells [.int .i64 x1,.int .i64 x2]],T'⟩:=by
    intro e b2 iE vM;refine hK _ (aH ⟨[(1,.ptr H.length 0),(12,.ptr (H.length+2) 0),(113,.sl aw.length (cR aw) .none),(114,.int .i64 (aw.length:Nat)),(115,.int .i64 (i:Nat)),(151,.sl x.length (aU x) .none),(152,.int .i64 (x.length:Nat)),(153,.int .i64 (m:Nat)),(192,.bool (!b2))],H++[.cells (bH ⟨an,aK,aw⟩),.map es,.cells (fL ⟨f,x⟩)],T'⟩ (ag [.cells [.int .i64 x1,.int .i64 x2]] [] (by simp) (by simp) (by simp) (by simp) dy (by simpa using vM)) ?_)
    cases b2 with
    |false=>
     apply aF rfl;apply ae;intro K h;simp(disch:=omega);apply h;clear h K;apply az;rw[←List.append_nil T'];exact bad m dg iE.symm _ _ _ rfl
    |true=>
     apply aD rfl;apply ai;simp(disch:=omega) ;apply iH;clear iH;refine au fun K hK=>?_;simp(disch:=omega) ;apply hK;clear hK K;refine⟨m+1,⟨by show m+1≤_;omega,fun j hj=>?_⟩,by show x.length-(m+1)<x.length-m;omega,?_⟩
     ·rcases lt_or_ge j m with h|h
      ·exact m2 j h
      ·have:j=m:=by omega
       subst this;exact iE.symm
     ·refine ag [] [] ?_ ?_ ?_ ?_ dy ?_
      all_goals simp
   clear hK
   by_cases v0:x2∈an
   rotate_left
   ·simp(disch:=omega)[v0];refine gn _ false (by rw[er,decide_eq_false v0];rfl) (by simp)
   rw[decide_eq_true v0,Bool.true_and] at er
   by_cases v3:x1<0
   ·have w3:decide (x1<0)=true:=decide_eq_true v3;simp(disch:=omega)[v0,w3,v3];refine gn _ false (by rw[er,decide_eq_false (by omega:¬(0≤x1∧x1≤1000000000000))];rfl) (by simp)
   have w3:decide (x1<0)=false:=decide_eq_false v3
   by_cases v4:1000000000000<x1
   ·have w4:decide (1000000000000<x1)=true:=decide_eq_true v4;simp(disch:=omega)[v0,w3,v3,w4,v4];refine gn _ false (by rw[er,decide_eq_false (by omega:¬(0≤x1∧x1≤1000000000000))];rfl) (by simp)
   have w4:decide (1000000000000<x1)=false:=decide_eq_false v4;rw[decide_eq_true (by omega:0≤x1∧x1≤1000000000000),Bool.true_and] at er;rcases Nat.eq_zero_or_pos m with h5|h5
   ·subst h5;simp(disch:=omega)[v0,w3,v3,w4,v4];refine gn _ true (by rw[er];rfl) (by simp)
   ·have e6:((m:Int)-1)=((m-1:Nat):Int):=by omega
    have b5:decide ((0:Int)<(m:Int))=true:=decide_eq_true (by omega);have nL:=wI (by omega);rw[decide_eq_false (by omega:¬m=0),Bool.false_or] at er
    cases aZ:cP (y1,y2) (x1,x2) with
    |false=>
     have b7:decide (0≤cq)=true:=decide_eq_true (jE.2 aZ);have n7:=jE.2 aZ;rw[aZ] at er;simp(disch:=omega)[v0,w3,v3,w4,v4,b5,h5,e6,nL,bG];refine aB (c) rfl ?_;simp(disch:=omega)[b7,n7];refine gn _ false er.symm (by simp)
    |true=>
     have n7:¬0≤cq:=fun e=>by rw[jE.1 e] at aZ;cases aZ
     have b7:decide (0≤cq)=false:=decide_eq_false n7;rw[aZ] at er;simp(disch:=omega)[v0,w3,v3,w4,v4,b5,h5,e6,nL,bG];refine aB (c) rfl ?_;simp(disch:=omega)[b7,n7];refine gn _ true er.symm (by simp)
  ·simp  at dg;apply aC;simp(disch:=omega) ;exact go (fun k h=>m2 k (by omega)) _ (by simp)
attribute [-simp] List.getD_eq_getElem?_getD in
theorem Gx (s:Sg)(hs:mh s)(hd:ju s.an 1 1000000000=true)(Uy:s.an.length≤2000)(ht:(∀i,i<s.aK.length→kP s.aK i=true∧vK s.an (s.aK.getD i t0).l=true)∧(nw s.aK).Nodup)(es:List (cN×AV))
  (H:List aA) (T:ar) (HO:bC (H++[.cells (bH s),.map es]) T) :
  AW ⟨Tryz.prog,195,154,H.length,T.length,[]⟩ (du [1,1,1,1] (Tryz.f16.body.getD .skip)) (nN Tryz.prog Tryz.f16.results.toList fun r H' T'=>(∃rH,H'=H++rH)∧(∃rT,T'=T++rT)∧(r=.bool (aP s)∨cY r=.bool (aP s))) ⟨[(1,.ptr H.length 0),(3,.aO (H.length+1))],H++[.cells (bH s),.map es],T⟩:=by
 conv=>arg 2;whnf
 have MW:=gI hd;have lN:s.an.length≤1000:=le_trans hs.d (by omega);have fK:=hs.c;have hx:=hs.x;have bad:=fun i h=>wY (s:=s) (i:=i) h;have pV:=fun i k h=>Ar (s:=s) (i:=i) (k:=k) h;have qt:=ou hd Uy ht.1 ht.2;obtain⟨an,aK,aw⟩:=s;simp only at MW lN fK hx bad pV qt;generalize hq:aP ⟨an,aK,aw⟩=q at *;have MS:aw.length≤9223372036854775807:=by omega
 refine af fun K1 aQ=>?_;apply ae;intro K h;simp(disch:=omega);apply h;clear h K;apply ah;refine aG (X:=Nat) (fun i=>⟨[(1,.ptr H.length 0),(113,.sl aw.length (cR aw) .none),(114,.int .i64 (aw.length:Nat)),(115,.int .i64 (i:Nat))],H++[.cells (bH ⟨an,aK,aw⟩),.map es],T⟩)
  (fun i=>i≤aw.length∧∀j,j<i→nJ aw j=true∧∀k,k<(aw.getD j c0).x.length→kQ an (aw.getD j c0).x k=true) (fun i=>aw.length-i) 0 ?_ ?_ ?_
 ·exact⟨zero_le _,fun j hj=>absurd hj (Nat.not_lt_zero _)⟩
 ·refine ag [] [] ?_ ?_ ?_ ?_ HO ?_
  all_goals simp
 ·rintro i ⟨g1,g2⟩;apply ae;intro K h;simp(disch:=omega);apply h;clear h K;refine af fun K2 aW=>?_;refine aN rfl (fun hk=>?_) (fun hk=>?_)
  ·simp  at hk;have bA:=ot aw i hk;have vT:=hx _ (aR aw i c0 hk);have gD:nJ aw i=((decide (5≤(aw.getD i c0).f∧(aw.getD i c0).f≤7)&&decide ((aw.getD i c0).x≠[]))&&(decide (i=0)||decide ((aw.getD (i-1) c0).f<(aw.getD i c0).f))):=rfl;have fP:=fun h=>(oN aw (i-1) h).1;generalize (aw.getD (i-1) c0).f=fp at *;replace pV:=fun k=>pV i k hk;have iK:(∀k,k<(aw.getD i c0).x.length→kQ an (aw.getD i c0).x k=true)→nJ aw i=true→∀j,j<i+1→nJ aw j=true∧∀k,k<(aw.getD j c0).x.length→kQ an (aw.getD j c0).x k=true:=fun h1 h2 j hj=>by
    rcases lt_or_ge j i with h|h
    ·exact g2 j h
    ·have:j=i:=by omega
     subst this;exact⟨h2,h1⟩
   generalize aw.getD i c0=c at *;obtain⟨f,x⟩:=c;simp only at bA vT gD pV iK;have FX:x.length≤9223372036854775807:=by omega
   apply ai;simp(disch:=omega) ;apply aW;clear aW;refine af fun K3 bz=>?_;apply ah;refine ae fun K hK=>?_;simp(disch:=omega)[bA,cE];apply hK;clear hK K;have dy:bC (H++[.cells (bH ⟨an,aK,aw⟩),.map es,.cells (fL ⟨f,x⟩)]) T:=by
    have:=bC.snoc (vs:=fL ⟨f,x⟩) HO (by simp);simpa using this
   refine af fun K4 eV=>?_;refine aI [] [] [] al (by kernel_rfl) (by kernel_rfl) fun K hK=>?_;have key:∀e b,b=nJ aw i→bt (H.length+3) T.length e [(1,.ptr H.length 0),(12,.ptr (H.length+2) 0),(113,.sl aw.length (cR aw) .none),(114,.int .i64 (aw.length:Nat)),(115,.int .i64 (i:Nat)),(149,.bool (!b))]→K ⟨e,H++[.cells (bH ⟨an,aK,aw⟩),.map es,.cells (fL ⟨f,x⟩)],T⟩:=by
    intro e b hb he;refine hK _ (aH ⟨[(1,.ptr H.length 0),(12,.ptr (H.length+2) 0),(113,.sl aw.length (cR aw) .none),(114,.int .i64 (aw.length:Nat)),(115,.int .i64 (i:Nat)),(149,.bool (!b))],H++[.cells (bH ⟨an,aK,aw⟩),.map es,.cells (fL ⟨f,x⟩)],T⟩ (ag [] [] (by simp) (by simp) (by simp) (by simp) dy (by simpa using he)) ?_)
    cases b with
    |false=>
     apply aF rfl;apply ae;intro K h;simp(disch:=omega);apply h;clear h K;apply az;simp(disch:=omega) ;rw[bad i hk hb.symm]
    |true=>
    apply aD rfl;apply ai;simp(disch:=omega) ;apply eV;clear eV;refine aH ⟨[(1,.ptr H.length 0),(12,.ptr (H.length+2) 0),(113,.sl aw.length (cR aw) .none),(114,.int .i64 (aw.length:Nat)),(115,.int .i64 (i:Nat))],H++[.cells (bH ⟨an,aK,aw⟩),.map es,.cells (fL ⟨f,x⟩)],T⟩ (ag [] [] (by simp) (by simp) (by simp) (by simp) dy (by simp)) ?_;refine Gw an aK aw f x i MW lN vT es H T dy _ (fun k qm Mz e rH rT he=>?_) fun hg e he=>?_
    ·show nN Tryz.prog Tryz.f16.results.toList (fun r H' T'=>(∃rH,H'=H++rH)∧(∃rT,T'=T++rT)∧(r=.bool q∨cY r=.bool q)) .ret _;simp[he,pV k qm Mz]
    ·refine bz _ (aH ⟨[(1,.ptr H.length 0),(113,.sl aw.length (cR aw) .none),(114,.int .i64 (aw.length:Nat)),(115,.int .i64 (i:Nat))],H++[.cells (bH ⟨an,aK,aw⟩),.map es],T⟩ (ag [.cells (fL ⟨f,x⟩)] [] (by simp) (by simp) (by simp) (by simp) HO (by simpa using he)) ?_);refine au fun K hK=>?_;simp(disch:=omega) ;apply hK;clear hK K;refine⟨i+1,⟨by show i+1≤_;omega,iK hg hb.symm⟩,by show aw.length-(i+1)<aw.length-i;omega,?_⟩;refine ag [] [] ?_ ?_ ?_ ?_ HO ?_
     all_goals simp
   by_cases v1:f<5
   ·have w1:decide (f<5)=true:=decide_eq_true v1;simp(disch:=omega)[w1,v1];refine key _ false (by rw[gD,decide_eq_false (by omega:¬(5≤f∧f≤7))];rfl) (by simp)
   have w1:decide (f<5)=false:=decide_eq_false v1
   by_cases v2:7<f
   ·have w2:decide (7<f)=true:=decide_eq_true v2;simp(disch:=omega)[w1,v1,w2,v2];refine key _ false (by rw[gD,decide_eq_false (by omega:¬(5≤f∧f≤7))];rfl) (by simp)
   have w2:decide (7<f)=false:=decide_eq_false v2;rw[decide_eq_true (by omega:5≤f∧f≤7),Bool.true_and] at gD
   by_cases v3:x.length=0
   ·have e3:x=[]:=List.length_eq_zero_iff.1 v3;subst e3;simp(disch:=omega)[w1,v1,w2,v2];refine key _ false (by rw[gD];rfl) (by simp)
   have w3:((x.length:Int)==0)=false:=beq_eq_false_iff_ne.2 (by omega);have n3:x≠[]:=fun e=>v3 (by rw[e];rfl);rw[decide_eq_true n3,Bool.true_and] at gD;rcases Nat.eq_zero_or_pos i with h5|h5
   ·subst h5;simp(disch:=omega)[w1,v1,w2,v2,w3,n3];refine key _ true (by rw[gD];rfl) (by simp)
   ·have e6:((i:Int)-1)=((i-1:Nat):Int):=by omega
    have b5:decide ((0:Int)<(i:Int))=true:=decide_eq_true (by omega);have qs:=fP (by omega);rw[decide_eq_false (by omega:¬i=0),Bool.false_or] at gD
    by_cases v4:f≤fp
    ·have w4:decide (f≤fp)=true:=decide_eq_true v4;simp(disch:=omega)[w1,v1,w2,v2,w3,n3,b5,h5,e6,qs,cE,w4,v4];refine key _ false (by rw[gD,decide_eq_false (by omega:¬fp<f)]) (by simp)
    ·have w4:decide (f≤fp)=false:=decide_eq_false v4;simp(disch:=omega)[v1,v2,w3,h5,e6,qs,cE,v4];refine key _ true (by rw[gD,decide_eq_true (by omega:fp<f)]) (by simp)
  ·simp  at hk;apply aC;simp(disch:=omega) ;apply aQ;clear aQ;apply ae;intro K h;simp(disch:=omega);apply h;clear h K;apply az;simp(disch:=omega) ;rw[qt (fun j hj=>g2 j (by omega))]
theorem JP {a b:List Int}(ha:ju a 1 1000000000=true)(hb:ju b 1 1000000000=true):(comb (fun _ q=>!q) a b).length=0↔∀x∈a,x∈b:=by
 obtain⟨_,h⟩:=Ib (fun _ q=>!q) (a:=a) (b:=b) ha hb
 constructor
 ·intro h0 x hx;have e:=List.length_eq_zero_iff.1 h0;rw[e] at h
  by_cases hb:x∈b
  ·exact hb
  ·exact absurd ((h x).2 (.inl ⟨hx,hb,rfl⟩)) (by simp)
 ·intro h1;refine List.length_eq_zero_iff.2 (List.eq_nil_iff_forall_not_mem.2 fun x hx=>?_);rcases (h x).1 hx with h2|h2|h2
  ·exact h2.2.1 (h1 x h2.1)
  ·simp at h2
  ·simp at h2
attribute [-simp] List.getD_eq_getElem?_getD in
theorem Gs (a b:List Int)(ha:a.length≤400)(hb:b.length≤400)(H:List aA)(T:ar):aq Tryz.prog 74 [.sl a.length (ints a) .none,.sl b.length (ints b) .none] H T (Is (.bool (decide ((comb (fun _ q=>!q) a b).length=0))) H T):=by
 have c:=Dd a b ha hb H T .none .none;have hl:=LC (fun _ q=>!q) a b;generalize comb (fun _ q=>!q) a b=r at *;have e:((r.length:Int)==0)=decide (r.length=0):=by
  rw[Bool.eq_iff_iff];simp
 refine aj 12 [] Tryz.ntmps74 Tryz.func74 rfl (fun _ _=>Tryz.call74 _ _) (by simp) (fun HO=>?_);apply ae;intro K h;simp(disch:=omega);apply h;clear h K;refine ae fun K hK=>?_;simp(disch:=omega) ;refine ak (c) ?_;simp(disch:=omega)[e];apply hK;clear hK K;apply az;simp(disch:=omega) ;exact⟨by simp[e],rfl,rfl⟩
attribute [-simp] List.getD_eq_getElem?_getD in
theorem iV (s:Sg)(hs:mh s)(H:List aA)(T:ar):aq Tryz.prog 16 [ec s] H T (Is (.bool (aP s)) H T):=by
 refine aq.cH ?_ (by simp);have eX:bC H T→bC (H++[.cells (bH s)]) T:=fun h=>h.snoc (by simp);have c1:=fun H=>jS s.an (le_trans hs.d (by decide)) H T .none;have hd:=hs.d;have pg:=hs.t;have MQ:s.aK.length≤9223372036854775807:=by omega
 have n2:¬(2000:Int)<s.an.length:=by omega
 have b2:decide ((2000:Int)<s.an.length)=false:=decide_eq_false n2;refine aj 154 [] Tryz.ntmps16 Tryz.func16 rfl (fun _ _=>Tryz.call16 _ _) (by simp) (fun HO=>?_);apply ae;intro K h;simp(disch:=omega);apply h;clear h K;refine af fun K1 aQ=>?_;have IL:bC (H++[.cells (bH s)]) T:=HO.snoc (by simp)
 cases zB:ju s.an 1 1000000000 with
 |false=>
  rw[zB] at c1;refine ae fun K hK=>?_;simp(disch:=omega) ;refine ak (c1 _) ?_;simp(disch:=omega) ;apply hK;clear hK K;apply aF rfl;apply ae;intro K h;simp(disch:=omega);apply h;clear h K;apply az;simp(disch:=omega) ;rw[ow zB]
 |true=>
 rw[zB] at c1;refine ae fun K hK=>?_;simp(disch:=omega) ;refine ak (c1 _) ?_;simp(disch:=omega)[b2,n2];apply hK;clear hK K;apply aD rfl;apply ai;simp(disch:=omega) ;apply aQ;clear aQ;apply ae;intro K h;simp(disch:=omega);apply h;clear h K;have HOb:bC (H++[.cells (bH s),.map []]) T:=by
  have:=bC.pX (k:=H.length+1) (es:=[]) (IL.snoc (vs:=[]) (by simp)) (by simp);simpa using this
 refine af fun K1 aQ=>?_;apply ae;intro K h;simp(disch:=omega);apply h;clear h K;apply ah;refine aG (X:=Nat) (fun i=>⟨[(1,.ptr H.length 0),(3,.aO (H.length+1)),(29,.sl s.aK.length (bO s.aK) .none),(30,.int .i64 (s.aK.length:Nat)),(31,.int .i64 (i:Nat))],H++[.cells (bH s),.map (nB (nw (s.aK.take i)))],T⟩)
  (fun i=>i≤s.aK.length∧(∀j,j<i→kP s.aK j=true∧vK s.an (s.aK.getD j t0).l=true)∧(nw (s.aK.take i)).Nodup∧(∀k∈nw (s.aK.take i),Mb k)∧bC (H++[.cells (bH s),.map (nB (nw (s.aK.take i)))]) T) (fun i=>s.aK.length-i) 0 ?_ ?_ ?_
 ·exact⟨zero_le _,fun j hj=>absurd hj (Nat.not_lt_zero _),.nil,by simp[nw],HOb⟩
 ·refine ag [] [] ?_ ?_ ?_ ?_ HOb ?_
  all_goals simp[nw,nB]
 ·rintro i ⟨g1,g2,g3,g4,g5⟩;have kL:=fun h=>jY s.aK nI t0 i h;apply ae;intro K h;simp(disch:=omega);apply h;clear h K;refine af fun K2 aW=>?_;refine aN rfl (fun hk=>?_) (fun hk=>?_)
  ·simp  at hk;have bA:=gH s.aK i hk;obtain⟨q1,q2,q3⟩:=hs.w _ (aR s.aK i t0 hk);apply ai;simp(disch:=omega) ;apply aW;clear aW;refine af fun K3 bz=>?_;apply ah;refine ae fun K hK=>?_;simp(disch:=omega)[bA,bU];apply hK;clear hK K;have MK:bC (H++[.cells (bH s),.map (nB (nw (s.aK.take i))),.cells (js (s.aK.getD i t0))]) T:=by
    have:=bC.snoc (vs:=js (s.aK.getD i t0)) g5 (by simp);simpa using this
   have wj:kP s.aK i=false→aP s=false:=fun h=>wW hk h;have tD:vK s.an (s.aK.getD i t0).l=false→aP s=false:=fun h=>Aq hk h;have gD:kP s.aK i=((decide (1≤(s.aK.getD i t0).f∧(s.aK.getD i t0).f≤4)&&okW (s.aK.getD i t0).w)&&(decide (i=0)||bM (s.aK.getD (i-1) t0).k (s.aK.getD i t0).k)):=rfl;have wI:=fun h=>gH s.aK (i-1) h;have iK:kP s.aK i=true→vK s.an (s.aK.getD i t0).l=true→∀j,j<i+1→kP s.aK j=true∧vK s.an (s.aK.getD j t0).l=true:=fun h1 h2 j hj=>by
    rcases lt_or_ge j i with h|h
    ·exact g2 j h
    ·have:j=i:=by omega
     subst this;exact⟨h1,h2⟩
   have CC:nw (s.aK.take (i+1))=nw (s.aK.take i)++nI (s.aK.getD i t0):=kL hk;have Jd:¬(nw (s.aK.take i)++nI (s.aK.getD i t0)).Nodup→aP s=false:=fun h=>wX fun hn=>h (by
    rw[←CC];refine List.Nodup.sublist ?_ hn;have:nw s.aK=nw (s.aK.take (i+1))++nw (s.aK.drop (i+1)):=by unfold nw;rw[←List.flatMap_append,List.take_append_drop]
    rw[this];exact List.sublist_append_left _ _)
   have nM:vK s.an (s.aK.getD i t0).l=((decide ((s.aK.getD i t0).l≠[])&&bX (s.aK.getD i t0).l)&&decide (∀p∈(s.aK.getD i t0).l,p.1∈s.an)):=rfl;generalize s.aK.getD (i-1) t0=tp at *;generalize abX:nw (s.aK.take i)=seen at *;generalize s.aK.getD i t0=t at *;clear kL;have cw:=fun H=>Al t.w q1 H T;have ck:=fun H=>o6 tp.k t.k (.sl tp.l.length (bp tp.l) .none) (.sl t.l.length (bp t.l) .none) H T;have jE:=N9 tp.k t.k;generalize pT tp.k t.k=cq at *;generalize bM tp.k t.k=bq at *;obtain⟨f,w,l⟩:=t;simp only at q1 q2 q3 bA cw ck gD nM tD iK;refine af fun K4 eV=>?_;refine aI [] [] [] al (by kernel_rfl) (by kernel_rfl) fun K hK=>?_;have key:∀e b,b=kP s.aK i→bt (H.length+3) T.length e [(1,.ptr H.length 0),(3,.aO (H.length+1)),(5,.ptr (H.length+2) 0),(29,.sl s.aK.length (bO s.aK) .none),(30,.int .i64 (s.aK.length:Nat)),(31,.int .i64 (i:Nat)),(64,.bool (!b))]→K ⟨e,H++[.cells (bH s),.map (nB seen),.cells (js ⟨f,w,l⟩)],T⟩:=by
    intro e b hb he;refine hK _ (aH ⟨[(1,.ptr H.length 0),(3,.aO (H.length+1)),(5,.ptr (H.length+2) 0),(29,.sl s.aK.length (bO s.aK) .none),(30,.int .i64 (s.aK.length:Nat)),(31,.int .i64 (i:Nat)),(64,.bool (!b))],H++[.cells (bH s),.map (nB seen),.cells (js ⟨f,w,l⟩)],T⟩ (ag [] [] (by simp) (by simp) (by simp) (by simp) MK (by simpa using he)) ?_)
    cases b with
    |false=>
     apply aF rfl;apply ae;intro K h;simp(disch:=omega);apply h;clear h K;apply az;simp(disch:=omega) ;rw[wj hb.symm]
    |true=>
    apply aD rfl;apply ai;simp(disch:=omega) ;apply eV;clear eV;have hf:1≤f∧f≤4:=by
     rw[←hb] at gD;have:=gD.symm;simp only[Bool.and_eq_true,decide_eq_true_eq] at this;exact this.1.1
    refine af fun K5 gC=>?_;refine aI [] [] [] al (by kernel_rfl) (by kernel_rfl) fun K hK=>?_;have gn:∀e b,b=vK s.an l→bt (H.length+3) T.length e [(1,.ptr H.length 0),(3,.aO (H.length+1)),(5,.ptr (H.length+2) 0),(29,.sl s.aK.length (bO s.aK) .none),(30,.int .i64 (s.aK.length:Nat)),(31,.int .i64 (i:Nat)),(83,.bool (!b))]→K ⟨e,H++[.cells (bH s),.map (nB seen),.cells (js ⟨f,w,l⟩)],T⟩:=by
     intro e b2 iE vM;refine hK _ (aH ⟨[(1,.ptr H.length 0),(3,.aO (H.length+1)),(5,.ptr (H.length+2) 0),(29,.sl s.aK.length (bO s.aK) .none),(30,.int .i64 (s.aK.length:Nat)),(31,.int .i64 (i:Nat)),(83,.bool (!b2))],H++[.cells (bH s),.map (nB seen),.cells (js ⟨f,w,l⟩)],T⟩ (ag [] [] (by simp) (by simp) (by simp) (by simp) MK (by simpa using vM)) ?_)
     cases b2 with
     |false=>
      apply aF rfl;apply ae;intro K h;simp(disch:=omega);apply h;clear h K;apply az;simp(disch:=omega) ;rw[tD iE.symm]
     |true=>
     have Cz:bX l=true:=by
      rw[←iE] at nM;have:=nM.symm;simp only[Bool.and_eq_true,decide_eq_true_eq] at this;exact this.1.2
     apply aD rfl;apply ai;simp(disch:=omega) ;apply gC;clear gC;refine aH ⟨[(1,.ptr H.length 0),(3,.aO (H.length+1)),(5,.ptr (H.length+2) 0),(29,.sl s.aK.length (bO s.aK) .none),(30,.int .i64 (s.aK.length:Nat)),(31,.int .i64 (i:Nat))],H++[.cells (bH s),.map (nB seen),.cells (js ⟨f,w,l⟩)],T⟩ (ag [] [] (by simp) (by simp) (by simp) (by simp) MK (by simp)) ?_;refine Gv s ⟨f,w,l⟩ i q2 q3 hf Cz seen g4 g3 H T MK _ (fun hn e rH rT he=>?_) fun hn hp hO e he=>?_
     ·show nN Tryz.prog Tryz.f16.results.toList (fun r H' T'=>(∃rH,H'=H++rH)∧(∃rT,T'=T++rT)∧(r=.bool (aP s)∨cY r=.bool (aP s))) .ret _;simp[he,Jd hn]
     ·rw[←CC] at hn hp hO ⊢;have Cs:bC (H++[.cells (bH s),.map (nB (nw (s.aK.take (i+1))))]) T:=by
       have:=bC.pX (k:=H.length+1) (es:=nB (nw (s.aK.take (i+1)))) g5 (by simp);simpa using this
      refine bz _ (aH ⟨[(1,.ptr H.length 0),(3,.aO (H.length+1)),(29,.sl s.aK.length (bO s.aK) .none),(30,.int .i64 (s.aK.length:Nat)),(31,.int .i64 (i:Nat))],H++[.cells (bH s),.map (nB (nw (s.aK.take (i+1))))],T⟩ (ag [.cells (js ⟨f,w,l⟩)] [] (by simp) (by simp) (by simp) (by simp) Cs (by simpa using he)) ?_);refine au fun K hK=>?_;simp(disch:=omega) ;apply hK;clear hK K;refine⟨i+1,⟨by show i+1≤_;omega,iK hb.symm iE.symm,hn,hp,Cs⟩,by show s.aK.length-(i+1)<s.aK.length-i;omega,?_⟩;refine ag [] [] ?_ ?_ ?_ ?_ Cs ?_
      all_goals simp
    clear hK
    by_cases v3:l.length=0
    ·have e3:l=[]:=List.length_eq_zero_iff.1 v3;subst e3;simp(disch:=omega) ;refine gn _ false (by rw[nM];rfl) (by simp)
    have w3:((l.length:Int)==0)=false:=beq_eq_false_iff_ne.2 (by omega);have n3:l≠[]:=fun e=>v3 (by rw[e];rfl);rw[decide_eq_true n3,Bool.true_and] at nM;have Ro:400≤maxLen:=by decide
    have cv:=fun H=>qT l (le_trans q2 (by omega)) (fun p hp=>le_trans (q3 p hp) Ro) H T .none;have cd:=fun H=>Lx l (le_trans q2 (by omega)) (fun p hp=>le_trans (q3 p hp) Ro) H T .none
    cases Cz:bX l with
    |false=>
     rw[Cz] at cv nM;simp(disch:=omega)[w3,n3];refine aB (cv _) rfl ?_;simp(disch:=omega) ;refine gn _ false (by rw[nM];rfl) (by simp)
    |true=>
     rw[Cz] at cv nM;have lN:kZ l=an l:=by unfold kZ;rw[if_pos Cz]
     rw[lN] at cd;have cwi:=fun H=>Gs (an l) s.an (by simp[an];exact q2) hd H T;have ye:ju (an l) 1 1000000000=true:=by unfold bX at Cz;rw[Bool.and_eq_true] at Cz;exact Cz.1
     have Mk:decide ((comb (fun _ q=>!q) (an l) s.an).length=0)=decide (∀p∈l,p.1∈s.an):=by
      rw[Bool.eq_iff_iff,decide_eq_true_eq,decide_eq_true_eq,JP ye zB];simp only[an,List.mem_map,forall_exists_index,and_imp,forall_apply_eq_imp_iff₂]
     rw[Mk] at cwi;rw[Bool.true_and] at nM;generalize decide (∀p∈l,p.1∈s.an)=bb at *;simp(disch:=omega)[w3,n3];refine aB (cv _) rfl ?_;simp(disch:=omega) ;refine aB (cd _) rfl ?_;simp(disch:=omega) ;refine aB (cwi _) rfl ?_;simp(disch:=omega) ;refine gn _ bb nM.symm (by simp)
   clear hK
   by_cases v1:f<1
   ·have w1:decide (f<1)=true:=decide_eq_true v1;simp(disch:=omega)[w1,v1];refine key _ false (by rw[gD,decide_eq_false (by omega:¬(1≤f∧f≤4))];rfl) (by simp)
   have w1:decide (f<1)=false:=decide_eq_false v1
   by_cases v2:4<f
   ·have w2:decide (4<f)=true:=decide_eq_true v2;simp(disch:=omega)[w1,v1,w2,v2];refine key _ false (by rw[gD,decide_eq_false (by omega:¬(1≤f∧f≤4))];rfl) (by simp)
   have w2:decide (4<f)=false:=decide_eq_false v2;rw[decide_eq_true (by omega:1≤f∧f≤4),Bool.true_and] at gD
   cases hw:okW w with
   |false=>
    rw[hw] at cw gD;simp(disch:=omega)[w1,v1,w2,v2];refine aB (cw _) rfl ?_;simp(disch:=omega) ;refine key _ false (by rw[gD];rfl) (by simp)
   |true=>
   rw[hw] at cw gD;rcases Nat.eq_zero_or_pos i with h5|h5
   ·subst h5;simp(disch:=omega)[w1,v1,w2,v2];refine aB (cw _) rfl ?_;simp(disch:=omega) ;refine key _ true (by rw[gD];rfl) (by simp)
   ·have e6:((i:Int)-1)=((i-1:Nat):Int):=by omega
    have b5:decide ((0:Int)<(i:Int))=true:=decide_eq_true (by omega);have nL:=wI (by omega);rw[decide_eq_false (by omega:¬i=0),Bool.false_or,Bool.true_and] at gD
    cases bq with
    |false=>
     have n7:=jE.2 rfl;have b7:decide (0≤cq)=true:=decide_eq_true n7;simp(disch:=omega)[w1,v1,w2,v2];refine aB (cw _) rfl ?_;simp(disch:=omega)[b5,h5,e6,nL,bU];refine aB (ck _) rfl ?_;simp(disch:=omega)[b7,n7];refine key _ false (by rw[gD]) (by simp)
    |true=>
     have n7:¬0≤cq:=fun e=>by have:=jE.1 e;cases this
     have b7:decide (0≤cq)=false:=decide_eq_false n7;simp(disch:=omega)[w1,v1,w2,v2];refine aB (cw _) rfl ?_;simp(disch:=omega)[b5,h5,e6,nL,bU];refine aB (ck _) rfl ?_;simp(disch:=omega)[b7,n7];refine key _ true (by rw[gD]) (by simp)
  ·simp  at hk;apply aC;simp(disch:=omega) ;apply aQ;clear aQ;have hi:i=s.aK.length:=by omega
   subst hi;rw[List.take_length] at g3 g4 g5 ⊢;refine aH ⟨[(1,.ptr H.length 0),(3,.aO (H.length+1))],H++[.cells (bH s),.map (nB (nw s.aK))],T⟩ (ag [] [] (by simp) (by simp) (by simp) (by simp) g5 (by simp)) ?_;exact Gx s hs zB (by omega) ⟨g2,g3⟩ (nB (nw s.aK)) H T g5
end Go.Proofs.YtneohapkboaplaaGreat
