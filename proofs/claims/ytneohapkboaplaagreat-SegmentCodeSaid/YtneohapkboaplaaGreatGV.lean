/- Segments (layer 39): what a valid one is; places as the keys of a map. segment.Valid (layer 39): the places of a term. segment.Valid (layer 39): the columns. segment.Valid (layer 39).
  Conditions: lengths below 1000 or 1000, as each theorem says. -/
import Derived.Test.YtneohapkboaplaaGreatGBC
import Derived.Test.YtneohapkboaplaaGreatPZ
set_option linter.all false
set_option maxRecDepth 100000
set_option maxHeartbeats 16000000
open Nat (le_trans zero_le lt_or_ge)
namespace eB
open gH
abbrev Pl:=Int×Int×Int
def eg (f:Int)(p:Ps):List Pl:=p.2.map fun a=>(f,p.1,a)
def np (t:Tm):List Pl:=t.l.flatMap (eg t.f)
def mX (l:List Tm):List Pl:=l.flatMap np
abbrev Tm.k (t:Tm):Ky:=(t.f,t.w)
end eB
namespace Go.Proofs.YtneohapkboaplaaGreat
open Go Go.Am gH eB
abbrev cG (s:Sg):List AV:=[.sl s.aw.length (ints s.aw) .none,.sl s.aJ.length (bX s.aJ) .none,.sl s.az.length (eA s.az) .none]
def qV (aw:List Int)(l:List Ps):Bool:=(decide (l≠[])&&bc l)&&decide (∀p∈l,p.1∈aw)
def jT (l:List Tm)(i:Nat):Bool:=(decide (1≤(l.getD i t0).f∧(l.getD i t0).f≤4)&&okW (l.getD i t0).w)&&(decide (i=0)||bU (l.getD (i-1) t0).k (l.getD i t0).k)
def Li (aw:List Int)(l:List Tm)(i:Nat):Bool:=jT l i&&qV aw (l.getD i t0).l
def jC (aw:List Int)(x:List Nm)(k:Nat):Bool:=(decide ((x.getD k n0).2∈aw)&&decide (0≤(x.getD k n0).1∧(x.getD k n0).1≤1000000000000))&&(decide (k=0)||dJ (x.getD (k-1) n0) (x.getD k n0))
def DU (aw:List Int)(x:List Nm):Bool:=(List.range x.length).all (jC aw x)
def lq (l:List Cl)(i:Nat):Bool:=(decide (5≤(l.getD i c0).f∧(l.getD i c0).f≤7)&&decide ((l.getD i c0).x≠[]))&&(decide (i=0)||decide ((l.getD (i-1) c0).f<(l.getD i c0).f))
def OX (aw:List Int)(l:List Cl)(i:Nat):Bool:=lq l i&&DU aw (l.getD i c0).x
def Ic (s:Sg):Bool:=(List.range s.aJ.length).all (Li s.aw s.aJ)&&decide (mX s.aJ).Nodup
def Ma (s:Sg):Bool:=(List.range s.az.length).all (OX s.aw s.az)
def aW (s:Sg):Bool:=(jd s.aw 1 1000000000&&decide (s.aw.length≤2000))&&(Ic s&&Ma s)
structure re (s:Sg):Prop where
 d:s.aw.length≤1000
 t:s.aJ.length≤1000
 w:∀t∈s.aJ,t.w.length≤maxLen∧t.l.length≤1000∧∀p∈t.l,p.2.length≤1000
 c:s.az.length≤1000
 x:∀c∈s.az,c.x.length≤1000
theorem nS {s:Sg}(h:jd s.aw 1 1000000000=false):aW s=false:=by unfold aW;rw[h];rfl
theorem zo {s:Sg}{i:Nat}(hi:i<s.aJ.length)(h:Li s.aw s.aJ i=false):aW s=false:=by
 unfold aW Ic;rw[iI hi h];simp
theorem v7 {s:Sg}{i:Nat}(hi:i<s.aJ.length)(h:jT s.aJ i=false):aW s=false:=zo hi (by unfold Li;rw[h];rfl)
theorem zp {s:Sg}{i:Nat}(hi:i<s.aJ.length)(h:qV s.aw (s.aJ.getD i t0).l=false):aW s=false:=zo hi (by unfold Li;rw[h];simp)
theorem v8 {s:Sg}(h:¬(mX s.aJ).Nodup):aW s=false:=by
 unfold aW Ic;rw[decide_eq_false h];simp
theorem zt {s:Sg}{i:Nat}(hi:i<s.az.length)(h:OX s.aw s.az i=false):aW s=false:=by
 unfold aW Ma;rw[iI hi h];simp
theorem wa {s:Sg}{i:Nat}(hi:i<s.az.length)(h:lq s.az i=false):aW s=false:=zt hi (by unfold OX;rw[h];rfl)
theorem zq {s:Sg}{i k:Nat}(hi:i<s.az.length)(hk:k<(s.az.getD i c0).x.length)(h:jC s.aw (s.az.getD i c0).x k=false):aW s=false:=zt hi (by unfold OX DU;rw[iI hk h];simp)
theorem nR {s:Sg}(h1:jd s.aw 1 1000000000=true)(h2:s.aw.length≤2000)(h3:∀i,i<s.aJ.length→jT s.aJ i=true∧qV s.aw (s.aJ.getD i t0).l=true)(h4:(mX s.aJ).Nodup)
  (h5:∀i,i<s.az.length→lq s.az i=true∧∀k,k<(s.az.getD i c0).x.length→jC s.aw (s.az.getD i c0).x k=true):aW s=true:=by
 unfold aW Ic Ma;rw[h1,decide_eq_true h2,decide_eq_true h4,fj (fun i hi=>by unfold Li;rw[(h3 i hi).1,(h3 i hi).2];rfl),fj (fun i hi=>by unfold OX DU;rw[(h5 i hi).1,fj (h5 i hi).2];rfl)];rfl
theorem fe {s:Sg}(h:aW s=true):(jd s.aw 1 1000000000=true∧s.aw.length≤2000)∧((∀i,i<s.aJ.length→jT s.aJ i=true∧qV s.aw (s.aJ.getD i t0).l=true)∧(mX s.aJ).Nodup)∧
  (∀i,i<s.az.length→lq s.az i=true∧∀k,k<(s.az.getD i c0).x.length→jC s.aw (s.az.getD i c0).x k=true):=by
 unfold aW Ic Ma at h;simp only[Bool.and_eq_true,decide_eq_true_eq] at h;obtain⟨⟨a,b⟩,⟨c,d⟩,e⟩:=h;refine⟨⟨a,b⟩,⟨fun i hi=>?_,d⟩,fun i hi=>?_⟩
 ·have:=lj c hi;unfold Li at this;simpa[Bool.and_eq_true] using this
 ·have:=lj e hi;unfold OX DU at this;rw[Bool.and_eq_true] at this;exact⟨this.1,fun k hk=>lj this.2 hk⟩
def sS (k:Pl):cY:=.agg [.int .i64 k.1,.int .i64 k.2.1,.int .i64 k.2.2]
def nf (l:List Pl):List (cY×AV):=l.map fun k=>(sS k,.bool true)
theorem zX {a b:Pl}:sS a=sS b↔a=b:=by
 obtain⟨a1,a2,a3⟩:=a;obtain⟨b1,b2,b3⟩:=b;simp[sS]
theorem M3 (l:List Pl)(k:Pl):ir (nf l) (sS k) (.bool false) false=.bool (decide (k∈l)):=by
 unfold ir;simp only[Bool.false_eq_true,if_false]
 induction l with
 |nil=>rfl
 |cons x r ih=>
  simp only[nf,List.map_cons,sQ,zX] at ih ⊢
  by_cases h:x=k
  ·rw[if_pos h];simp[h]
  ·rw[if_neg h,ih];simp[Ne.symm h]
theorem M1 {l:List Pl}{k:Pl}(h:k∉l):jU (nf l) (sS k) (.bool true)=nf (l++[k]):=by
 rw[oz (fun x hx=>?_)]
 ·simp[nf]
 ·obtain⟨e,he,rfl⟩:=List.mem_map.1 hx;exact fun hh=>h (zX.1 hh▸he)
@[simp] theorem Ry (n t:Nat) (l:List Pl):aL n t ((nf l).map (·.2)):=by
 intro v hv;simp only[nf,List.map_map,List.mem_map,Function.comp] at hv;obtain⟨x,_,rfl⟩:=hv;exact .bool _
def LA (k:Pl):Prop:=(-9223372036854775808≤k.1∧k.1≤9223372036854775807)∧(-9223372036854775808≤k.2.1∧k.2.1≤9223372036854775807)∧(-9223372036854775808≤k.2.2∧k.2.2≤9223372036854775807)
theorem To (k:Pl)(h:LA k):kM Tryz.prog 139 (sS k)=true:=by
 have hu:=Tryz.underlying139;have h3:Tryz.prog.underlying 3=some (.int .i64):=by kernel_rfl
 have c3:Tryz.prog.cellsOf 3=1:=by kernel_rfl
 have Q5:Tryz.prog.keyType 139=true:=by kernel_rfl
 have gN:Tryz.prog.types.size=287:=by kernel_rfl
 have e1:∀x:Int,-9223372036854775808≤x∧x≤9223372036854775807→Tryz.prog.keyLits 287 3 [.int .i64 x]=some [.int .i64 x]:=fun x hx=>by
  have RR:(Lit.int .i64 x).wf=true:=by
   simp only[Lit.wf,Bool.and_eq_true,decide_eq_true_eq];exact hx
  show Tryz.prog.keyLits (286+1) 3 _=_;unfold Program.keyLits;rw[h3];simp only[RR,and_self,if_true]
 obtain⟨f,d,p⟩:=k;obtain⟨h1,h2,h4⟩:=h;simp only at h1 h2 h4;have hl:Tryz.prog.keyLits (287+1) 139 [.int .i64 f,.int .i64 d,.int .i64 p]=some [.int .i64 f,.int .i64 d,.int .i64 p]:=by
  unfold Program.keyLits;rw[hu];simp[AB,c3,e1 f h1,e1 d h2,e1 p h4]
 unfold kM keyOf;rw[hu];have hf:(cY.val (sS (f,d,p))).formed Tryz.prog 139=true:=by
  simp[sS,cY.val,KC.val,Value.formed,hu,AB]
 simp only[Q5,hf,Bool.and_self,if_true,gN];have:(cY.val (sS (f,d,p))).cells.toList=[.int .i64 f,.int .i64 d,.int .i64 p]:=rfl;rw[this,hl];rfl
theorem T9 {l:List Pl}(h:∀k∈l,LA k):dw Tryz.prog 139 (nf l)=true:=by
 unfold dw;rw[List.all_eq_true];intro x hx;obtain⟨k,hk,rfl⟩:=List.mem_map.1 hx;exact To k (h k hk)
open dc
theorem GB (f:Int)(p:Ps)(k:Nat)(h:k<p.2.length):eg f (p.1,p.2.take (k+1))=eg f (p.1,p.2.take k)++[(f,p.1,p.2.getD k 0)]:=by
 unfold eg;simp only;rw[dx p.2 k 0 h];simp
theorem oD {α β:Type}(l:List α)(f:α→List β)(d:α)(k:Nat)(h:k<l.length):(l.take (k+1)).flatMap f=(l.take k).flatMap f++f (l.getD k d):=by
 rw[dx l k d h];simp
attribute [-simp] List.getD_eq_getElem?_getD in
theorem FR (s:Sg)(t:Tm)(i:Nat)(hl:t.l.length≤1000)(hp:∀p∈t.l,p.2.length≤1000)(hf:1≤t.f∧t.f≤4)(hv:bc t.l=true)(seen:List Pl)(hs:∀k∈seen,LA k)(hn:seen.Nodup)
  (H:List aG) (T:ay) (HO:bM (H++[.cells (cG s),.map (nf seen),.cells (jb t)]) T) (Q:Exit→St→Prop)
  (bad:¬(seen++np t).Nodup→∀(e:Env)(rH:List aG)(rT:ay),bZ e 2=.bool false→Q .ret ⟨e,H++rH,T++rT⟩)
  (go:(seen++np t).Nodup→(∀k∈seen++np t,LA k)→bM (H++[.cells (cG s),.map (nf (seen++np t)),.cells (jb t)]) T→∀e:Env,b9 (H.length+3) T.length e [(1,.ptr H.length 0),(3,.aV (H.length+1)),(29,.sl s.aJ.length (bX s.aJ) .none),(30,.int .i64 (s.aJ.length:Nat)),(31,.int .i64 (i:Nat))]→Q .normal ⟨e,H++[.cells (cG s),.map (nf (seen++np t)),.cells (jb t)],T⟩) :
  AW ⟨Tryz.prog,195,154,H.length,T.length,[]⟩ (iN [1,1,1,0,1,0,0,1,1,0,0,1,1,1] (Tryz.f16.body.getD .skip)) Q ⟨[(1,.ptr H.length 0),(3,.aV (H.length+1)),(5,.ptr (H.length+2) 0),(29,.sl s.aJ.length (bX s.aJ) .none),(30,.int .i64 (s.aJ.length:Nat)),(31,.int .i64 (i:Nat))],H++[.cells (cG s),.map (nf seen),.cells (jb t)],T⟩:=by
 conv=>arg 2;whnf
 obtain⟨v1,v2,v3⟩:=bS hv;obtain⟨f,w,l⟩:=t;simp only at hl hp hf hv v1 v2 v3;have oM:l.length≤9223372036854775807:=by omega
 apply ae;intro K h;simp(disch:=omega);apply h;clear h K;apply ai;refine aK (X:=Nat) (fun j=>⟨[(1,.ptr H.length 0),(3,.aV (H.length+1)),(5,.ptr (H.length+2) 0),(29,.sl s.aJ.length (bX s.aJ) .none),(30,.int .i64 (s.aJ.length:Nat)),(31,.int .i64 (i:Nat)),(85,.sl l.length (bp l) .none),(86,.int .i64 (l.length:Nat)),(87,.int .i64 (j:Nat))],H++[.cells (cG s),.map (nf (seen++(l.take j).flatMap (eg f))),.cells (jb ⟨f,w,l⟩)],T⟩)
  (fun j=>j≤l.length∧(seen++(l.take j).flatMap (eg f)).Nodup∧(∀k∈seen++(l.take j).flatMap (eg f),LA k)∧bM (H++[.cells (cG s),.map (nf (seen++(l.take j).flatMap (eg f))),.cells (jb ⟨f,w,l⟩)]) T) (fun j=>l.length-j) 0 ?_ ?_ ?_
 ·refine⟨zero_le _,?_⟩;simp only[List.take_zero,List.flatMap_nil,List.append_nil];exact⟨hn,hs,HO⟩
 ·have e0:seen++(l.take 0).flatMap (eg f)=seen:=by simp
  refine ag [] [] ?_ ?_ ?_ ?_ (by rw[e0];exact HO) ?_
  all_goals simp
  all_goals (try omega)
 ·rintro j ⟨j1,j2,j3,j4⟩;have hle:∀k∈seen++(l.take j).flatMap (eg f),LA k:=j3;have pK:=fun h=>oD l (eg f) p0 j h;have fy:seen++np ⟨f,w,l⟩=(seen++(l.take j).flatMap (eg f))++(l.drop j).flatMap (eg f):=by
   rw[List.append_assoc,←List.flatMap_append,List.take_append_drop];rfl
  generalize hg:seen++(l.take j).flatMap (eg f)=sj at *;apply ae;intro K h;simp(disch:=omega);apply h;clear h K;refine af fun K1 aO=>?_;refine aP rfl (fun hk=>?_) (fun hk=>?_)
  ·simp  at hk;have bY:=iU l j hk;have ZJ:=aR l j p0 hk;obtain⟨w1,w2,w3⟩:=v3 _ ZJ;have w0:=v2 _ ZJ;have O6:=hp _ ZJ;have vv:l.drop j=l.getD j p0::l.drop (j+1):=ij l j p0 hk;rw[vv,List.flatMap_cons] at fy;replace pK:=pK hk;have Tg:seen++(l.take (j+1)).flatMap (eg f)=sj++eg f (l.getD j p0):=by rw[pK,←List.append_assoc,hg]
   generalize l.getD j p0=p at *;obtain⟨d,ps⟩:=p;simp only at bY w0 w1 w2 w3 O6;have ack:ps.length≤9223372036854775807:=by omega
   apply ak;simp(disch:=omega) ;apply aO;clear aO;refine af fun K2 aY=>?_;apply ai;refine ae fun K hK=>?_;simp(disch:=omega)[bY,aS];apply hK;clear hK K;have fD:bM (H++[.cells (cG s),.map (nf sj),.cells (jb ⟨f,w,l⟩),.cells [.int .i64 d,.sl ps.length (ints ps) .none]]) T:=by
    have:=bM.snoc (vs:=[.int .i64 d,.sl ps.length (ints ps) .none]) j4 (by simp);simpa using this
   apply ae;intro K h;simp(disch:=omega);apply h;clear h K;apply ai;refine aK (X:=Nat) (fun k=>⟨[(1,.ptr H.length 0),(3,.aV (H.length+1)),(5,.ptr (H.length+2) 0),(7,.ptr (H.length+3) 0),(29,.sl s.aJ.length (bX s.aJ) .none),(30,.int .i64 (s.aJ.length:Nat)),(31,.int .i64 (i:Nat)),(85,.sl l.length (bp l) .none),(86,.int .i64 (l.length:Nat)),(87,.int .i64 (j:Nat)),(92,.sl ps.length (ints ps) .none),(93,.int .i64 (ps.length:Nat)),(94,.int .i64 (k:Nat))],H++[.cells (cG s),.map (nf (sj++eg f (d,ps.take k))),.cells (jb ⟨f,w,l⟩),.cells [.int .i64 d,.sl ps.length (ints ps) .none]],T⟩)
    (fun k=>k≤ps.length∧(sj++eg f (d,ps.take k)).Nodup∧(∀x∈sj++eg f (d,ps.take k),LA x)∧bM (H++[.cells (cG s),.map (nf (sj++eg f (d,ps.take k))),.cells (jb ⟨f,w,l⟩),.cells [.int .i64 d,.sl ps.length (ints ps) .none]]) T) (fun k=>ps.length-k) 0 ?_ ?_ ?_
   ·refine⟨zero_le _,?_⟩;simp only[List.take_zero,eg,List.map_nil,List.append_nil];exact⟨j2,j3,fD⟩
   ·have e0:sj++eg f (d,ps.take 0)=sj:=by simp[eg]
    refine ag [] [] ?_ ?_ ?_ ?_ (by rw[e0];exact fD) ?_
    all_goals simp[eg]
    all_goals (try omega)
   ·rintro k ⟨k1,k2,k3,k4⟩;have kS:=GB f (d,ps) k;simp only at kS;have T5:eg f (d,ps)=eg f (d,ps.take k)++eg f (d,ps.drop k):=by
     unfold eg;simp only;rw[←List.map_append,List.take_append_drop]
    have aaO:=ij ps k 0;have B8:∀h,sj++eg f (d,ps.take (k+1))=(sj++eg f (d,ps.take k))++[(f,d,ps.getD k 0)]:=fun h=>by rw[kS h,List.append_assoc]
    have PZ:∀h:k<ps.length,eg f (d,ps.drop k)=(f,d,ps.getD k 0)::eg f (d,ps.drop (k+1)):=fun h=>by unfold eg;simp only;rw[aaO h];rfl
    have mc:k=ps.length→sj++eg f (d,ps.take k)=sj++eg f (d,ps):=fun h=>by rw[h,List.take_length]
    rw[T5,List.append_assoc,←List.append_assoc] at fy;generalize W8:sj++eg f (d,ps.take k)=sk at *;apply ae;intro K h;simp(disch:=omega);apply h;clear h K;refine af fun K3 bA=>?_;refine aP rfl (fun ko=>?_) (fun ko=>?_)
    ·simp  at ko;have E6:=aT (xs:=ps) (k:=k) ko;have hpr:=w3 _ (aR ps k 0 ko);replace B8:=B8 ko;replace PZ:=PZ ko;generalize ps.getD k 0=x at *;have hR:LA (f,d,x):=⟨by simp only;omega,by simp only;omega,by simp only;omega⟩
     have vz:kM Tryz.prog 139 (.agg [.int .i64 f,.int .i64 d,.int .i64 x])=true:=To (f,d,x) hR;have vy:=T9 k3;have fw:=M3 sk (f,d,x);unfold sS at fw;simp only at fw;apply ak;simp(disch:=omega) ;apply bA;clear bA;refine af fun K4 ec=>?_;apply ai;refine ae fun K hK=>?_;simp(disch:=omega)[E6];apply hK;clear hK K;apply ae;intro K h;simp(disch:=omega);apply h;clear h K;refine af fun K5 gO=>?_
     by_cases hm:(f,d,x)∈sk
     ·rw[decide_eq_true hm] at fw;refine ae fun K hK=>?_;simp(disch:=omega)[x5,zc,vz,vy,fw];apply hK;clear hK K;apply aH rfl;apply ae;intro K h;simp(disch:=omega);apply h;clear h K;apply an;simp(disch:=omega) ;rw[←List.append_nil T];refine bad (fun BK=>?_) _ _ _ rfl;rw[fy,PZ] at BK;exact(List.nodup_append.1 BK).2.2 _ hm (f,d,x) (by simp) rfl
     ·rw[decide_eq_false hm] at fw;have jf:=M1 hm;unfold sS at jf;simp only at jf;refine ae fun K hK=>?_;simp(disch:=omega)[x5,zc,vz,vy,fw];apply hK;clear hK K;apply aC rfl;apply ak;simp(disch:=omega) ;apply gO;clear gO;refine ar fun K hK=>?_;simp(disch:=omega)[x5,vz,vy,jf];apply hK;clear hK K;have hR2:∀y∈sk++[(f,d,x)],LA y:=fun y hy=>by
       rcases List.mem_append.1 hy with h1|h1
       ·exact k3 y h1
       ·rw[List.mem_singleton.1 h1];exact hR
      have aaz:(sk++[(f,d,x)]).Nodup:=List.nodup_append.2 ⟨k2,by simp,fun a ha b hb=>by rw[List.mem_singleton.1 hb];exact fun e=>hm (e▸ha)⟩;have SY:bM (H++[.cells (cG s),.map (nf (sk++[(f,d,x)])),.cells (jb ⟨f,w,l⟩),.cells [.int .i64 d,.sl ps.length (ints ps) .none]]) T:=by
       have:=bM.po (k:=H.length+1) (es:=nf (sk++[(f,d,x)])) k4 (by simp);simpa using this
      apply ec;clear ec;refine ar fun K hK=>?_;simp(disch:=omega) ;apply hK;clear hK K;refine⟨k+1,⟨by show k+1≤_;omega,?_,?_,?_⟩,by show ps.length-(k+1)<ps.length-k;omega,?_⟩
      ·rw[B8];exact aaz
      ·rw[B8];exact hR2
      ·rw[B8];exact SY
      ·refine ag [.cells [.int .i64 f,.int .i64 d,.int .i64 x]] [] ?_ ?_ ?_ ?_ (by rw[B8];exact SY) ?_
       all_goals simp[B8]
       all_goals (try omega)
    ·simp  at ko;have Pc:k=ps.length:=by omega
     have W0:=mc Pc;apply aD;simp(disch:=omega) ;apply aY;clear aY;refine ar fun K hK=>?_;simp(disch:=omega) ;apply hK;clear hK K;rw[W0,←Tg] at k2 k3;have SX:bM (H++[.cells (cG s),.map (nf (seen++(l.take (j+1)).flatMap (eg f))),.cells (jb ⟨f,w,l⟩)]) T:=by
      have:=bM.po (k:=H.length+1) (es:=nf (seen++(l.take (j+1)).flatMap (eg f))) j4 (by simp);simpa using this
     refine⟨j+1,⟨by show j+1≤_;omega,k2,k3,SX⟩,by show l.length-(j+1)<l.length-j;omega,?_⟩;refine ag [.cells [.int .i64 d,.sl ps.length (ints ps) .none]] [] ?_ ?_ ?_ ?_ SX ?_
     all_goals simp[W0,Tg]
     all_goals (try omega)
  ·simp  at hk;have DM:j=l.length:=by omega
   have LN:seen++np ⟨f,w,l⟩=sj:=by rw[fy,DM,List.drop_length];simp
   apply aD;simp(disch:=omega) ;rw[←LN] at j2 j3 j4 ⊢;exact go j2 j3 j4 _ (by simp;try omega)
attribute [-simp] List.getD_eq_getElem?_getD in
theorem FT (aw:List Int)(aJ:List Tm)(az:List Cl)(f:Int)(x:List Nm)(i:Nat)(Mj:jR aw)(n9:aw.length≤1000)(yu:x.length≤1000)(es:List (cY×AV))(H:List aG)(T:ay)
  (fD:bM (H++[.cells (cG ⟨aw,aJ,az⟩),.map es,.cells (e7 ⟨f,x⟩)]) T) (Q:Exit→St→Prop)
  (bad:∀k,k<x.length→jC aw x k=false→∀(e:Env)(rH:List aG)(rT:ay),bZ e 2=.bool false→Q .ret ⟨e,H++rH,T++rT⟩)
  (go:(∀k,k<x.length→jC aw x k=true)→∀e:Env,b9 (H.length+3) T.length e [(1,.ptr H.length 0),(113,.sl az.length (eA az) .none),(114,.int .i64 (az.length:Nat)),(115,.int .i64 (i:Nat))]→Q .normal ⟨e,H++[.cells (cG ⟨aw,aJ,az⟩),.map es,.cells (e7 ⟨f,x⟩)],T⟩) :
  AW ⟨Tryz.prog,195,154,H.length,T.length,[]⟩ (iN [1,1,1,1,0,1,0,0,1,1,0,0,1,1] (Tryz.f16.body.getD .skip)) Q ⟨[(1,.ptr H.length 0),(12,.ptr (H.length+2) 0),(113,.sl az.length (eA az) .none),(114,.int .i64 (az.length:Nat)),(115,.int .i64 (i:Nat))],H++[.cells (cG ⟨aw,aJ,az⟩),.map es,.cells (e7 ⟨f,x⟩)],T⟩:=by
 conv=>arg 2;whnf
 have Fs:x.length≤9223372036854775807:=by omega
 apply ae;intro K h;simp(disch:=omega);apply h;clear h K;apply ai;refine aK (X:=Nat) (fun k=>⟨[(1,.ptr H.length 0),(12,.ptr (H.length+2) 0),(113,.sl az.length (eA az) .none),(114,.int .i64 (az.length:Nat)),(115,.int .i64 (i:Nat)),(151,.sl x.length (br x) .none),(152,.int .i64 (x.length:Nat)),(153,.int .i64 (k:Nat))],H++[.cells (cG ⟨aw,aJ,az⟩),.map es,.cells (e7 ⟨f,x⟩)],T⟩)
  (fun k=>k≤x.length∧∀j,j<k→jC aw x j=true) (fun k=>x.length-k) 0 ?_ ?_ ?_
 ·exact⟨zero_le _,fun j hj=>absurd hj (Nat.not_lt_zero _)⟩
 ·refine ag [] [] ?_ ?_ ?_ ?_ fD ?_
  all_goals simp
 ·rintro m ⟨m1,m2⟩;apply ae;intro K h;simp(disch:=omega);apply h;clear h K;refine af fun K5 gO=>?_;refine aP rfl (fun da=>?_) (fun da=>?_)
  ·simp  at da;have sN:=fh x m da;have kF:jC aw x m=((decide ((x.getD m n0).2∈aw)&&decide (0≤(x.getD m n0).1∧(x.getD m n0).1≤1000000000000))&&(decide (m=0)||dJ (x.getD (m-1) n0) (x.getD m n0))):=rfl;have cn:=fun H T=>sH (x.getD (m-1) n0) (x.getD m n0) H T;have ku:=EH (x.getD (m-1) n0) (x.getD m n0);generalize ud (x.getD (m-1) n0) (x.getD m n0)=cq at *;have DP:=fun h=>fh x (m-1) h;generalize x.getD (m-1) n0=y at *;generalize DJ:x.getD m n0=z at *;obtain⟨x1,x2⟩:=z;obtain⟨y1,y2⟩:=y;simp only at sN DP kF;apply ak;simp(disch:=omega) ;apply gO;clear gO;refine af fun K6 lp=>?_;apply ai;refine ae fun K hK=>?_;simp(disch:=omega)[sN,cj];apply hK;clear hK K;have SY:bM (H++[.cells (cG ⟨aw,aJ,az⟩),.map es,.cells (e7 ⟨f,x⟩),.cells [.int .i64 x1,.int .i64 x2]]) T:=by
    have:=bM.snoc (vs:=[.int .i64 x1,.int .i64 x2]) fD (by simp);simpa using this
   have cb:=Du aw x2 Mj (by omega) (H++[.cells (cG ⟨aw,aJ,az⟩),.map es,.cells (e7 ⟨f,x⟩),.cells [.int .i64 x1,.int .i64 x2]]) T .none;have c:=cn (H++[.cells (cG ⟨aw,aJ,az⟩),.map es,.cells (e7 ⟨f,x⟩),.cells [.int .i64 x1,.int .i64 x2]]) T;refine ae fun K hK=>?_;simp(disch:=omega) ;refine⟨_,cb,?_⟩;rintro r H' T' ⟨rfl,rfl,ii,rfl⟩;simp(disch:=omega) ;apply hK;clear hK K;clear cb;refine aM [] [] [] au (by kernel_rfl) (by kernel_rfl) fun K hK=>?_;have lu:∀e b,b=jC aw x m→b9 (H.length+4) T'.length e [(1,.ptr H.length 0),(12,.ptr (H.length+2) 0),(113,.sl az.length (eA az) .none),(114,.int .i64 (az.length:Nat)),(115,.int .i64 (i:Nat)),(151,.sl x.length (br x) .none),(152,.int .i64 (x.length:Nat)),(153,.int .i64 (m:Nat)),(192,.bool (!b))]→K ⟨e,H++[.cells (cG ⟨aw,aJ,az⟩),.map es,.cells (e7 ⟨f,x⟩),.cells [.int .i64 x1,.int .i64 x2]],T'⟩:=by
    intro e b2 fW BL;refine hK _ (aQ ⟨[(1,.ptr H.length 0),(12,.ptr (H.length+2) 0),(113,.sl az.length (eA az) .none),(114,.int .i64 (az.length:Nat)),(115,.int .i64 (i:Nat)),(151,.sl x.length (br x) .none),(152,.int .i64 (x.length:Nat)),(153,.int .i64 (m:Nat)),(192,.bool (!b2))],H++[.cells (cG ⟨aw,aJ,az⟩),.map es,.cells (e7 ⟨f,x⟩)],T'⟩ (ag [.cells [.int .i64 x1,.int .i64 x2]] [] (by simp) (by simp) (by simp) (by simp) fD (by simpa using BL)) ?_)
    cases b2 with
    |false=>
     apply aH rfl;apply ae;intro K h;simp(disch:=omega);apply h;clear h K;apply an;rw[←List.append_nil T'];exact bad m da fW.symm _ _ _ rfl
    |true=>
     apply aC rfl;apply ak;simp(disch:=omega) ;apply lp;clear lp;refine ar fun K hK=>?_;simp(disch:=omega) ;apply hK;clear hK K;refine⟨m+1,⟨by show m+1≤_;omega,fun j hj=>?_⟩,by show x.length-(m+1)<x.length-m;omega,?_⟩
     ·rcases lt_or_ge j m with h|h
      ·exact m2 j h
      ·have:j=m:=by omega
       subst this;exact fW.symm
     ·refine ag [] [] ?_ ?_ ?_ ?_ fD ?_
      all_goals simp
   clear hK
   by_cases v0:x2∈aw
   rotate_left
   ·simp(disch:=omega)[v0];refine lu _ false (by rw[kF,decide_eq_false v0];rfl) (by simp)
   rw[decide_eq_true v0,Bool.true_and] at kF
   by_cases v3:x1<0
   ·have w3:decide (x1<0)=true:=decide_eq_true v3;simp(disch:=omega)[v0,w3,v3];refine lu _ false (by rw[kF,decide_eq_false (by omega:¬(0≤x1∧x1≤1000000000000))];rfl) (by simp)
   have w3:decide (x1<0)=false:=decide_eq_false v3
   by_cases v4:1000000000000<x1
   ·have w4:decide (1000000000000<x1)=true:=decide_eq_true v4;simp(disch:=omega)[v0,w3,v3,w4,v4];refine lu _ false (by rw[kF,decide_eq_false (by omega:¬(0≤x1∧x1≤1000000000000))];rfl) (by simp)
   have w4:decide (1000000000000<x1)=false:=decide_eq_false v4;rw[decide_eq_true (by omega:0≤x1∧x1≤1000000000000),Bool.true_and] at kF;rcases Nat.eq_zero_or_pos m with h5|h5
   ·subst h5;simp(disch:=omega)[v0,w3,v3,w4,v4];refine lu _ true (by rw[kF];rfl) (by simp)
   ·have e6:((m:Int)-1)=((m-1:Nat):Int):=by omega
    have b5:decide ((0:Int)<(m:Int))=true:=decide_eq_true (by omega);have sV:=DP (by omega);rw[decide_eq_false (by omega:¬m=0),Bool.false_or] at kF
    cases bh:dJ (y1,y2) (x1,x2) with
    |false=>
     have b7:decide (0≤cq)=true:=decide_eq_true (ku.2 bh);have n7:=ku.2 bh;rw[bh] at kF;simp(disch:=omega)[v0,w3,v3,w4,v4,b5,h5,e6,sV,cj];refine aB (c) rfl ?_;simp(disch:=omega)[b7,n7];refine lu _ false kF.symm (by simp)
    |true=>
     have n7:¬0≤cq:=fun e=>by rw[ku.1 e] at bh;cases bh
     have b7:decide (0≤cq)=false:=decide_eq_false n7;rw[bh] at kF;simp(disch:=omega)[v0,w3,v3,w4,v4,b5,h5,e6,sV,cj];refine aB (c) rfl ?_;simp(disch:=omega)[b7,n7];refine lu _ true kF.symm (by simp)
  ·simp  at da;apply aD;simp(disch:=omega) ;exact go (fun k h=>m2 k (by omega)) _ (by simp)
attribute [-simp] List.getD_eq_getElem?_getD in
theorem FU (s:Sg)(hs:re s)(hd:jd s.aw 1 1000000000=true)(T7:s.aw.length≤2000)(ht:(∀i,i<s.aJ.length→jT s.aJ i=true∧qV s.aw (s.aJ.getD i t0).l=true)∧(mX s.aJ).Nodup)(es:List (cY×AV))
  (H:List aG) (T:ay) (HO:bM (H++[.cells (cG s),.map es]) T) :
  AW ⟨Tryz.prog,195,154,H.length,T.length,[]⟩ (iN [1,1,1,1] (Tryz.f16.body.getD .skip)) (rn Tryz.prog Tryz.f16.results.toList fun r H' T'=>(∃rH,H'=H++rH)∧(∃rT,T'=T++rT)∧(r=.bool (aW s)∨cC r=.bool (aW s))) ⟨[(1,.ptr H.length 0),(3,.aV (H.length+1))],H++[.cells (cG s),.map es],T⟩:=by
 conv=>arg 2;whnf
 have Mj:=ke hd;have n9:s.aw.length≤1000:=le_trans hs.d (by omega);have fS:=hs.c;have hx:=hs.x;have bad:=fun i h=>wa (s:=s) (i:=i) h;have ug:=fun i k h=>zq (s:=s) (i:=i) (k:=k) h;have ub:=nR hd T7 ht.1 ht.2;obtain⟨aw,aJ,az⟩:=s;simp only at Mj n9 fS hx bad ug ub;generalize hq:aW ⟨aw,aJ,az⟩=q at *;have Mh:az.length≤9223372036854775807:=by omega
 refine af fun K1 aO=>?_;apply ae;intro K h;simp(disch:=omega);apply h;clear h K;apply ai;refine aK (X:=Nat) (fun i=>⟨[(1,.ptr H.length 0),(113,.sl az.length (eA az) .none),(114,.int .i64 (az.length:Nat)),(115,.int .i64 (i:Nat))],H++[.cells (cG ⟨aw,aJ,az⟩),.map es],T⟩)
  (fun i=>i≤az.length∧∀j,j<i→lq az j=true∧∀k,k<(az.getD j c0).x.length→jC aw (az.getD j c0).x k=true) (fun i=>az.length-i) 0 ?_ ?_ ?_
 ·exact⟨zero_le _,fun j hj=>absurd hj (Nat.not_lt_zero _)⟩
 ·refine ag [] [] ?_ ?_ ?_ ?_ HO ?_
  all_goals simp
 ·rintro i ⟨g1,g2⟩;apply ae;intro K h;simp(disch:=omega);apply h;clear h K;refine af fun K2 aY=>?_;refine aP rfl (fun hk=>?_) (fun hk=>?_)
  ·simp  at hk;have bY:=lK az i hk;have yu:=hx _ (aR az i c0 hk);have fX:lq az i=((decide (5≤(az.getD i c0).f∧(az.getD i c0).f≤7)&&decide ((az.getD i c0).x≠[]))&&(decide (i=0)||decide ((az.getD (i-1) c0).f<(az.getD i c0).f))):=rfl;have gR:=fun h=>(qo az (i-1) h).1;generalize (az.getD (i-1) c0).f=fp at *;replace ug:=fun k=>ug i k hk;have kZ:(∀k,k<(az.getD i c0).x.length→jC aw (az.getD i c0).x k=true)→lq az i=true→∀j,j<i+1→lq az j=true∧∀k,k<(az.getD j c0).x.length→jC aw (az.getD j c0).x k=true:=fun h1 h2 j hj=>by
    rcases lt_or_ge j i with h|h
    ·exact g2 j h
    ·have:j=i:=by omega
     subst this;exact⟨h2,h1⟩
   generalize az.getD i c0=c at *;obtain⟨f,x⟩:=c;simp only at bY yu fX ug kZ;have Fs:x.length≤9223372036854775807:=by omega
   apply ak;simp(disch:=omega) ;apply aY;clear aY;refine af fun K3 bA=>?_;apply ai;refine ae fun K hK=>?_;simp(disch:=omega)[bY,de];apply hK;clear hK K;have fD:bM (H++[.cells (cG ⟨aw,aJ,az⟩),.map es,.cells (e7 ⟨f,x⟩)]) T:=by
    have:=bM.snoc (vs:=e7 ⟨f,x⟩) HO (by simp);simpa using this
   refine af fun K4 ec=>?_;refine aM [] [] [] au (by kernel_rfl) (by kernel_rfl) fun K hK=>?_;have key:∀e b,b=lq az i→b9 (H.length+3) T.length e [(1,.ptr H.length 0),(12,.ptr (H.length+2) 0),(113,.sl az.length (eA az) .none),(114,.int .i64 (az.length:Nat)),(115,.int .i64 (i:Nat)),(149,.bool (!b))]→K ⟨e,H++[.cells (cG ⟨aw,aJ,az⟩),.map es,.cells (e7 ⟨f,x⟩)],T⟩:=by
    intro e b hb he;refine hK _ (aQ ⟨[(1,.ptr H.length 0),(12,.ptr (H.length+2) 0),(113,.sl az.length (eA az) .none),(114,.int .i64 (az.length:Nat)),(115,.int .i64 (i:Nat)),(149,.bool (!b))],H++[.cells (cG ⟨aw,aJ,az⟩),.map es,.cells (e7 ⟨f,x⟩)],T⟩ (ag [] [] (by simp) (by simp) (by simp) (by simp) fD (by simpa using he)) ?_)
    cases b with
    |false=>
     apply aH rfl;apply ae;intro K h;simp(disch:=omega);apply h;clear h K;apply an;simp(disch:=omega) ;rw[bad i hk hb.symm]
    |true=>
    apply aC rfl;apply ak;simp(disch:=omega) ;apply ec;clear ec;refine aQ ⟨[(1,.ptr H.length 0),(12,.ptr (H.length+2) 0),(113,.sl az.length (eA az) .none),(114,.int .i64 (az.length:Nat)),(115,.int .i64 (i:Nat))],H++[.cells (cG ⟨aw,aJ,az⟩),.map es,.cells (e7 ⟨f,x⟩)],T⟩ (ag [] [] (by simp) (by simp) (by simp) (by simp) fD (by simp)) ?_;refine FT aw aJ az f x i Mj n9 yu es H T fD _ (fun k ko Fe e rH rT he=>?_) fun hg e he=>?_
    ·show rn Tryz.prog Tryz.f16.results.toList (fun r H' T'=>(∃rH,H'=H++rH)∧(∃rT,T'=T++rT)∧(r=.bool q∨cC r=.bool q)) .ret _;simp[he,ug k ko Fe]
    ·refine bA _ (aQ ⟨[(1,.ptr H.length 0),(113,.sl az.length (eA az) .none),(114,.int .i64 (az.length:Nat)),(115,.int .i64 (i:Nat))],H++[.cells (cG ⟨aw,aJ,az⟩),.map es],T⟩ (ag [.cells (e7 ⟨f,x⟩)] [] (by simp) (by simp) (by simp) (by simp) HO (by simpa using he)) ?_);refine ar fun K hK=>?_;simp(disch:=omega) ;apply hK;clear hK K;refine⟨i+1,⟨by show i+1≤_;omega,kZ hg hb.symm⟩,by show az.length-(i+1)<az.length-i;omega,?_⟩;refine ag [] [] ?_ ?_ ?_ ?_ HO ?_
     all_goals simp
   by_cases v1:f<5
   ·have w1:decide (f<5)=true:=decide_eq_true v1;simp(disch:=omega)[w1,v1];refine key _ false (by rw[fX,decide_eq_false (by omega:¬(5≤f∧f≤7))];rfl) (by simp)
   have w1:decide (f<5)=false:=decide_eq_false v1
   by_cases v2:7<f
   ·have w2:decide (7<f)=true:=decide_eq_true v2;simp(disch:=omega)[w1,v1,w2,v2];refine key _ false (by rw[fX,decide_eq_false (by omega:¬(5≤f∧f≤7))];rfl) (by simp)
   have w2:decide (7<f)=false:=decide_eq_false v2;rw[decide_eq_true (by omega:5≤f∧f≤7),Bool.true_and] at fX
   by_cases v3:x.length=0
   ·have e3:x=[]:=List.length_eq_zero_iff.1 v3;subst e3;simp(disch:=omega)[w1,v1,w2,v2];refine key _ false (by rw[fX];rfl) (by simp)
   have w3:((x.length:Int)==0)=false:=beq_eq_false_iff_ne.2 (by omega);have n3:x≠[]:=fun e=>v3 (by rw[e];rfl);rw[decide_eq_true n3,Bool.true_and] at fX;rcases Nat.eq_zero_or_pos i with h5|h5
   ·subst h5;simp(disch:=omega)[w1,v1,w2,v2,w3,n3];refine key _ true (by rw[fX];rfl) (by simp)
   ·have e6:((i:Int)-1)=((i-1:Nat):Int):=by omega
    have b5:decide ((0:Int)<(i:Int))=true:=decide_eq_true (by omega);have yN:=gR (by omega);rw[decide_eq_false (by omega:¬i=0),Bool.false_or] at fX
    by_cases v4:f≤fp
    ·have w4:decide (f≤fp)=true:=decide_eq_true v4;simp(disch:=omega)[w1,v1,w2,v2,w3,n3,b5,h5,e6,yN,de,w4,v4];refine key _ false (by rw[fX,decide_eq_false (by omega:¬fp<f)]) (by simp)
    ·have w4:decide (f≤fp)=false:=decide_eq_false v4;simp(disch:=omega)[v1,v2,w3,h5,e6,yN,de,v4];refine key _ true (by rw[fX,decide_eq_true (by omega:fp<f)]) (by simp)
  ·simp  at hk;apply aD;simp(disch:=omega) ;apply aO;clear aO;apply ae;intro K h;simp(disch:=omega);apply h;clear h K;apply an;simp(disch:=omega) ;rw[ub (fun j hj=>g2 j (by omega))]
theorem I2 {a b:List Int}(ha:jd a 1 1000000000=true)(hb:jd b 1 1000000000=true):(comb (fun _ q=>!q) a b).length=0↔∀x∈a,x∈b:=by
 obtain⟨_,h⟩:=Hk (fun _ q=>!q) (a:=a) (b:=b) ha hb
 constructor
 ·intro h0 x hx;have e:=List.length_eq_zero_iff.1 h0;rw[e] at h
  by_cases hb:x∈b
  ·exact hb
  ·exact absurd ((h x).2 (.inl ⟨hx,hb,rfl⟩)) (by simp)
 ·intro h1;refine List.length_eq_zero_iff.2 (List.eq_nil_iff_forall_not_mem.2 fun x hx=>?_);rcases (h x).1 hx with h2|h2|h2
  ·exact h2.2.1 (h1 x h2.1)
  ·simp at h2
  ·simp at h2
attribute [-simp] List.getD_eq_getElem?_getD in
theorem FQ (a b:List Int)(ha:a.length≤1000)(hb:b.length≤1000)(H:List aG)(T:ay):al Tryz.prog 74 [.sl a.length (ints a) .none,.sl b.length (ints b) .none] H T (Is (.bool (decide ((comb (fun _ q=>!q) a b).length=0))) H T):=by
 have c:=CD a b ha hb H T .none .none;have hl:=KU (fun _ q=>!q) a b;generalize comb (fun _ q=>!q) a b=r at *;have e:((r.length:Int)==0)=decide (r.length=0):=by
  rw[Bool.eq_iff_iff];simp
 refine aj 12 [] Tryz.ntmps74 Tryz.func74 rfl (fun _ _=>Tryz.call74 _ _) (by simp) (fun HO=>?_);apply ae;intro K h;simp(disch:=omega);apply h;clear h K;refine ae fun K hK=>?_;simp(disch:=omega) ;refine ah (c) ?_;simp(disch:=omega)[e];apply hK;clear hK K;apply an;simp(disch:=omega) ;exact⟨by simp[e],rfl,rfl⟩
attribute [-simp] List.getD_eq_getElem?_getD in
theorem jL (s:Sg)(hs:re s)(H:List aG)(T:ay):al Tryz.prog 16 [il s] H T (Is (.bool (aW s)) H T):=by
 refine al.dS ?_ (by simp);have kx:bM H T→bM (H++[.cells (cG s)]) T:=fun h=>h.snoc (by simp);have c1:=fun H=>jI s.aw (le_trans hs.d (by decide)) H T .none;have hd:=hs.d;have lV:=hs.t;have Mf:s.aJ.length≤9223372036854775807:=by omega
 have n2:¬(2000:Int)<s.aw.length:=by omega
 have b2:decide ((2000:Int)<s.aw.length)=false:=decide_eq_false n2;refine aj 154 [] Tryz.ntmps16 Tryz.func16 rfl (fun _ _=>Tryz.call16 _ _) (by simp) (fun HO=>?_);apply ae;intro K h;simp(disch:=omega);apply h;clear h K;refine af fun K1 aO=>?_;have Of:bM (H++[.cells (cG s)]) T:=HO.snoc (by simp)
 cases tS:jd s.aw 1 1000000000 with
 |false=>
  rw[tS] at c1;refine ae fun K hK=>?_;simp(disch:=omega) ;refine ah (c1 _) ?_;simp(disch:=omega) ;apply hK;clear hK K;apply aH rfl;apply ae;intro K h;simp(disch:=omega);apply h;clear h K;apply an;simp(disch:=omega) ;rw[nS tS]
 |true=>
 rw[tS] at c1;refine ae fun K hK=>?_;simp(disch:=omega) ;refine ah (c1 _) ?_;simp(disch:=omega)[b2,n2];apply hK;clear hK K;apply aC rfl;apply ak;simp(disch:=omega) ;apply aO;clear aO;apply ae;intro K h;simp(disch:=omega);apply h;clear h K;have HOb:bM (H++[.cells (cG s),.map []]) T:=by
  have:=bM.po (k:=H.length+1) (es:=[]) (Of.snoc (vs:=[]) (by simp)) (by simp);simpa using this
 refine af fun K1 aO=>?_;apply ae;intro K h;simp(disch:=omega);apply h;clear h K;apply ai;refine aK (X:=Nat) (fun i=>⟨[(1,.ptr H.length 0),(3,.aV (H.length+1)),(29,.sl s.aJ.length (bX s.aJ) .none),(30,.int .i64 (s.aJ.length:Nat)),(31,.int .i64 (i:Nat))],H++[.cells (cG s),.map (nf (mX (s.aJ.take i)))],T⟩)
  (fun i=>i≤s.aJ.length∧(∀j,j<i→jT s.aJ j=true∧qV s.aw (s.aJ.getD j t0).l=true)∧(mX (s.aJ.take i)).Nodup∧(∀k∈mX (s.aJ.take i),LA k)∧bM (H++[.cells (cG s),.map (nf (mX (s.aJ.take i)))]) T) (fun i=>s.aJ.length-i) 0 ?_ ?_ ?_
 ·exact⟨zero_le _,fun j hj=>absurd hj (Nat.not_lt_zero _),.nil,by simp[mX],HOb⟩
 ·refine ag [] [] ?_ ?_ ?_ ?_ HOb ?_
  all_goals simp[mX,nf]
 ·rintro i ⟨g1,g2,g3,g4,g5⟩;have vy:=fun h=>oD s.aJ np t0 i h;apply ae;intro K h;simp(disch:=omega);apply h;clear h K;refine af fun K2 aY=>?_;refine aP rfl (fun hk=>?_) (fun hk=>?_)
  ·simp  at hk;have bY:=gk s.aJ i hk;obtain⟨q1,q2,q3⟩:=hs.w _ (aR s.aJ i t0 hk);apply ak;simp(disch:=omega) ;apply aY;clear aY;refine af fun K3 bA=>?_;apply ai;refine ae fun K hK=>?_;simp(disch:=omega)[bY,bH];apply hK;clear hK K;have L9:bM (H++[.cells (cG s),.map (nf (mX (s.aJ.take i))),.cells (jb (s.aJ.getD i t0))]) T:=by
    have:=bM.snoc (vs:=jb (s.aJ.getD i t0)) g5 (by simp);simpa using this
   have vJ:jT s.aJ i=false→aW s=false:=fun h=>v7 hk h;have sZ:qV s.aw (s.aJ.getD i t0).l=false→aW s=false:=fun h=>zp hk h;have fX:jT s.aJ i=((decide (1≤(s.aJ.getD i t0).f∧(s.aJ.getD i t0).f≤4)&&okW (s.aJ.getD i t0).w)&&(decide (i=0)||bU (s.aJ.getD (i-1) t0).k (s.aJ.getD i t0).k)):=rfl;have DP:=fun h=>gk s.aJ (i-1) h;have kZ:jT s.aJ i=true→qV s.aw (s.aJ.getD i t0).l=true→∀j,j<i+1→jT s.aJ j=true∧qV s.aw (s.aJ.getD j t0).l=true:=fun h1 h2 j hj=>by
    rcases lt_or_ge j i with h|h
    ·exact g2 j h
    ·have:j=i:=by omega
     subst this;exact⟨h1,h2⟩
   have O6:mX (s.aJ.take (i+1))=mX (s.aJ.take i)++np (s.aJ.getD i t0):=vy hk;have aay:¬(mX (s.aJ.take i)++np (s.aJ.getD i t0)).Nodup→aW s=false:=fun h=>v8 fun hn=>h (by
    rw[←O6];refine List.Nodup.sublist ?_ hn;have:mX s.aJ=mX (s.aJ.take (i+1))++mX (s.aJ.drop (i+1)):=by unfold mX;rw[←List.flatMap_append,List.take_append_drop]
    rw[this];exact List.sublist_append_left _ _)
   have nw:qV s.aw (s.aJ.getD i t0).l=((decide ((s.aJ.getD i t0).l≠[])&&bc (s.aJ.getD i t0).l)&&decide (∀p∈(s.aJ.getD i t0).l,p.1∈s.aw)):=rfl;generalize s.aJ.getD (i-1) t0=tp at *;generalize ab6:mX (s.aJ.take i)=seen at *;generalize s.aJ.getD i t0=t at *;clear vy;have cw:=fun H=>zi t.w q1 H T;have ck:=fun H=>oG tp.k t.k (.sl tp.l.length (bp tp.l) .none) (.sl t.l.length (bp t.l) .none) H T;have ku:=Nw tp.k t.k;generalize ph tp.k t.k=cq at *;generalize bU tp.k t.k=bq at *;obtain⟨f,w,l⟩:=t;simp only at q1 q2 q3 bY cw ck fX nw sZ kZ;refine af fun K4 ec=>?_;refine aM [] [] [] au (by kernel_rfl) (by kernel_rfl) fun K hK=>?_;have key:∀e b,b=jT s.aJ i→b9 (H.length+3) T.length e [(1,.ptr H.length 0),(3,.aV (H.length+1)),(5,.ptr (H.length+2) 0),(29,.sl s.aJ.length (bX s.aJ) .none),(30,.int .i64 (s.aJ.length:Nat)),(31,.int .i64 (i:Nat)),(64,.bool (!b))]→K ⟨e,H++[.cells (cG s),.map (nf seen),.cells (jb ⟨f,w,l⟩)],T⟩:=by
    intro e b hb he;refine hK _ (aQ ⟨[(1,.ptr H.length 0),(3,.aV (H.length+1)),(5,.ptr (H.length+2) 0),(29,.sl s.aJ.length (bX s.aJ) .none),(30,.int .i64 (s.aJ.length:Nat)),(31,.int .i64 (i:Nat)),(64,.bool (!b))],H++[.cells (cG s),.map (nf seen),.cells (jb ⟨f,w,l⟩)],T⟩ (ag [] [] (by simp) (by simp) (by simp) (by simp) L9 (by simpa using he)) ?_)
    cases b with
    |false=>
     apply aH rfl;apply ae;intro K h;simp(disch:=omega);apply h;clear h K;apply an;simp(disch:=omega) ;rw[vJ hb.symm]
    |true=>
    apply aC rfl;apply ak;simp(disch:=omega) ;apply ec;clear ec;have hf:1≤f∧f≤4:=by
     rw[←hb] at fX;have:=fX.symm;simp only[Bool.and_eq_true,decide_eq_true_eq] at this;exact this.1.1
    refine af fun K5 gO=>?_;refine aM [] [] [] au (by kernel_rfl) (by kernel_rfl) fun K hK=>?_;have lu:∀e b,b=qV s.aw l→b9 (H.length+3) T.length e [(1,.ptr H.length 0),(3,.aV (H.length+1)),(5,.ptr (H.length+2) 0),(29,.sl s.aJ.length (bX s.aJ) .none),(30,.int .i64 (s.aJ.length:Nat)),(31,.int .i64 (i:Nat)),(83,.bool (!b))]→K ⟨e,H++[.cells (cG s),.map (nf seen),.cells (jb ⟨f,w,l⟩)],T⟩:=by
     intro e b2 fW BL;refine hK _ (aQ ⟨[(1,.ptr H.length 0),(3,.aV (H.length+1)),(5,.ptr (H.length+2) 0),(29,.sl s.aJ.length (bX s.aJ) .none),(30,.int .i64 (s.aJ.length:Nat)),(31,.int .i64 (i:Nat)),(83,.bool (!b2))],H++[.cells (cG s),.map (nf seen),.cells (jb ⟨f,w,l⟩)],T⟩ (ag [] [] (by simp) (by simp) (by simp) (by simp) L9 (by simpa using BL)) ?_)
     cases b2 with
     |false=>
      apply aH rfl;apply ae;intro K h;simp(disch:=omega);apply h;clear h K;apply an;simp(disch:=omega) ;rw[sZ fW.symm]
     |true=>
     have yv:bc l=true:=by
      rw[←fW] at nw;have:=nw.symm;simp only[Bool.and_eq_true,decide_eq_true_eq] at this;exact this.1.2
     apply aC rfl;apply ak;simp(disch:=omega) ;apply gO;clear gO;refine aQ ⟨[(1,.ptr H.length 0),(3,.aV (H.length+1)),(5,.ptr (H.length+2) 0),(29,.sl s.aJ.length (bX s.aJ) .none),(30,.int .i64 (s.aJ.length:Nat)),(31,.int .i64 (i:Nat))],H++[.cells (cG s),.map (nf seen),.cells (jb ⟨f,w,l⟩)],T⟩ (ag [] [] (by simp) (by simp) (by simp) (by simp) L9 (by simp)) ?_;refine FR s ⟨f,w,l⟩ i q2 q3 hf yv seen g4 g3 H T L9 _ (fun hn e rH rT he=>?_) fun hn hp hO e he=>?_
     ·show rn Tryz.prog Tryz.f16.results.toList (fun r H' T'=>(∃rH,H'=H++rH)∧(∃rT,T'=T++rT)∧(r=.bool (aW s)∨cC r=.bool (aW s))) .ret _;simp[he,aay hn]
     ·rw[←O6] at hn hp hO ⊢;have BM:bM (H++[.cells (cG s),.map (nf (mX (s.aJ.take (i+1))))]) T:=by
       have:=bM.po (k:=H.length+1) (es:=nf (mX (s.aJ.take (i+1)))) g5 (by simp);simpa using this
      refine bA _ (aQ ⟨[(1,.ptr H.length 0),(3,.aV (H.length+1)),(29,.sl s.aJ.length (bX s.aJ) .none),(30,.int .i64 (s.aJ.length:Nat)),(31,.int .i64 (i:Nat))],H++[.cells (cG s),.map (nf (mX (s.aJ.take (i+1))))],T⟩ (ag [.cells (jb ⟨f,w,l⟩)] [] (by simp) (by simp) (by simp) (by simp) BM (by simpa using he)) ?_);refine ar fun K hK=>?_;simp(disch:=omega) ;apply hK;clear hK K;refine⟨i+1,⟨by show i+1≤_;omega,kZ hb.symm fW.symm,hn,hp,BM⟩,by show s.aJ.length-(i+1)<s.aJ.length-i;omega,?_⟩;refine ag [] [] ?_ ?_ ?_ ?_ BM ?_
      all_goals simp
    clear hK
    by_cases v3:l.length=0
    ·have e3:l=[]:=List.length_eq_zero_iff.1 v3;subst e3;simp(disch:=omega) ;refine lu _ false (by rw[nw];rfl) (by simp)
    have w3:((l.length:Int)==0)=false:=beq_eq_false_iff_ne.2 (by omega);have n3:l≠[]:=fun e=>v3 (by rw[e];rfl);rw[decide_eq_true n3,Bool.true_and] at nw;have Q3:1000≤maxLen:=by decide
    have cv:=fun H=>lD l (le_trans q2 (by omega)) (fun p hp=>le_trans (q3 p hp) Q3) H T .none;have cd:=fun H=>KO l (le_trans q2 (by omega)) (fun p hp=>le_trans (q3 p hp) Q3) H T .none
    cases yv:bc l with
    |false=>
     rw[yv] at cv nw;simp(disch:=omega)[w3,n3];refine aB (cv _) rfl ?_;simp(disch:=omega) ;refine lu _ false (by rw[nw];rfl) (by simp)
    |true=>
     rw[yv] at cv nw;have n9:kN l=aw l:=by unfold kN;rw[if_pos yv]
     rw[n9] at cd;have cwi:=fun H=>FQ (aw l) s.aw (by simp[aw];exact q2) hd H T;have BC:jd (aw l) 1 1000000000=true:=by unfold bc at yv;rw[Bool.and_eq_true] at yv;exact yv.1
     have ZB:decide ((comb (fun _ q=>!q) (aw l) s.aw).length=0)=decide (∀p∈l,p.1∈s.aw):=by
      rw[Bool.eq_iff_iff,decide_eq_true_eq,decide_eq_true_eq,I2 BC tS];simp only[aw,List.mem_map,forall_exists_index,and_imp,forall_apply_eq_imp_iff₂]
     rw[ZB] at cwi;rw[Bool.true_and] at nw;generalize decide (∀p∈l,p.1∈s.aw)=bb at *;simp(disch:=omega)[w3,n3];refine aB (cv _) rfl ?_;simp(disch:=omega) ;refine aB (cd _) rfl ?_;simp(disch:=omega) ;refine aB (cwi _) rfl ?_;simp(disch:=omega) ;refine lu _ bb nw.symm (by simp)
   clear hK
   by_cases v1:f<1
   ·have w1:decide (f<1)=true:=decide_eq_true v1;simp(disch:=omega)[w1,v1];refine key _ false (by rw[fX,decide_eq_false (by omega:¬(1≤f∧f≤4))];rfl) (by simp)
   have w1:decide (f<1)=false:=decide_eq_false v1
   by_cases v2:4<f
   ·have w2:decide (4<f)=true:=decide_eq_true v2;simp(disch:=omega)[w1,v1,w2,v2];refine key _ false (by rw[fX,decide_eq_false (by omega:¬(1≤f∧f≤4))];rfl) (by simp)
   have w2:decide (4<f)=false:=decide_eq_false v2;rw[decide_eq_true (by omega:1≤f∧f≤4),Bool.true_and] at fX
   cases hw:okW w with
   |false=>
    rw[hw] at cw fX;simp(disch:=omega)[w1,v1,w2,v2];refine aB (cw _) rfl ?_;simp(disch:=omega) ;refine key _ false (by rw[fX];rfl) (by simp)
   |true=>
   rw[hw] at cw fX;rcases Nat.eq_zero_or_pos i with h5|h5
   ·subst h5;simp(disch:=omega)[w1,v1,w2,v2];refine aB (cw _) rfl ?_;simp(disch:=omega) ;refine key _ true (by rw[fX];rfl) (by simp)
   ·have e6:((i:Int)-1)=((i-1:Nat):Int):=by omega
    have b5:decide ((0:Int)<(i:Int))=true:=decide_eq_true (by omega);have sV:=DP (by omega);rw[decide_eq_false (by omega:¬i=0),Bool.false_or,Bool.true_and] at fX
    cases bq with
    |false=>
     have n7:=ku.2 rfl;have b7:decide (0≤cq)=true:=decide_eq_true n7;simp(disch:=omega)[w1,v1,w2,v2];refine aB (cw _) rfl ?_;simp(disch:=omega)[b5,h5,e6,sV,bH];refine aB (ck _) rfl ?_;simp(disch:=omega)[b7,n7];refine key _ false (by rw[fX]) (by simp)
    |true=>
     have n7:¬0≤cq:=fun e=>by have:=ku.1 e;cases this
     have b7:decide (0≤cq)=false:=decide_eq_false n7;simp(disch:=omega)[w1,v1,w2,v2];refine aB (cw _) rfl ?_;simp(disch:=omega)[b5,h5,e6,sV,bH];refine aB (ck _) rfl ?_;simp(disch:=omega)[b7,n7];refine key _ true (by rw[fX]) (by simp)
  ·simp  at hk;apply aD;simp(disch:=omega) ;apply aO;clear aO;have hi:i=s.aJ.length:=by omega
   subst hi;rw[List.take_length] at g3 g4 g5 ⊢;refine aQ ⟨[(1,.ptr H.length 0),(3,.aV (H.length+1))],H++[.cells (cG s),.map (nf (mX s.aJ))],T⟩ (ag [] [] (by simp) (by simp) (by simp) (by simp) g5 (by simp)) ?_;exact FU s hs tS (by omega) ⟨g2,g3⟩ (nf (mX s.aJ)) H T g5
end Go.Proofs.YtneohapkboaplaaGreat
