/- Searching among terms (layer 39). segment.Find (layer 39): what it answers; strings.HasPrefix. segment.Words (layer 39).
  Conditions: lengths below 1000 or 1000, as each theorem says. -/
import Derived.Test.YtoejlmpbebjemaaGreatGV
import Derived.Test.YtoejlmpbebjemaaGreatPZ
set_option linter.all false
set_option maxRecDepth 100000
set_option maxHeartbeats 8000000
open List (getD_eq_getElem?_getD map_take)
namespace Go.Am
open Go
def aq.aaF {P:Program}{f:FuncId}{args:List AV}{H:List aA}{T:au}{R:AV->Prop}(hb:∀r,R r->Below H.length T.length r)
  (h:aq P f args H T (λr H' T'=>(∃rH,H'=H++rH)/\(∃rT,T'=T++rT)/\R r)):aq P f args H T (λr H' T'=>H'=H/\T'=T/\R r):=by
 refine⟨h.1,λL w ca hc jY hr=>(h.2 L w ca hc jY hr).mono ?_⟩;rintro e w' ⟨r',H',T',L',cv,⟨⟨rH,e1⟩,⟨rT,e2⟩,e3⟩,rfl,cY,dO,dI⟩;subst e1;subst e2;refine⟨_,H,T,L',cv,⟨rfl,rfl,e3⟩,rfl,cz.front P cY hc.je,?_,dI.front (ahv _) (ahv _)⟩;have:=dO.drop (hb _ e3);simpa using this
end Go.Am
namespace Go.Proofs.YtoejlmpbebjemaaGreat
open Go.Proofs.Tryz(prog)
open Go Go.Am ie eN cN
def Dv (l:List Tm):Prop:=∀i j,i<j->j<l.length->bS (l.getD i t0).k (l.getD j t0).k=true
theorem PW {l:List Tm}(h:∀i,0<i->i<l.length->bS (l.getD (i-1) t0).k (l.getD i t0).k=true):Dv l:=by
 intro i j jV hj
 induction j with
 |zero=>omega
 |succ j ih=>
  have h1:=h (j+1) zO hj;rw[show j+1-1=j by omega] at h1;rcases ahD i j with h2|h2
  ·exact iy (ih h2 zO) h1
  ·have:i=j:=zO;subst this;exact h1
def Vn (l:List Tm)(k:Ky)(r:AV):Prop:=∃(i:Nat) (b:Bool),r=.dn [.int .i64 (i:Nat),.bool b]/\i<=l.length/\
 (b=true->i<l.length/\(l.getD i t0).k=k)/\(b=false->Dv l->∀j,j<l.length->(l.getD j t0).k≠k)/\(Dv l->(∀j,j<i->bS (l.getD j t0).k k=true)/\∀j,i<=j->j<l.length->bS (l.getD j t0).k k=false)
def aaN (l:List Tm)(k:Ky)(H:List aA)(T:au):AV->List aA->au->Prop:=λr H' T'=>H'=H/\T'=T/\Vn l k r
def wM {a b:Ky}(h:bS a b=true):a≠b:=λe=>by rw[e,jB] at h;cases h
attribute [-simp] getD_eq_getElem?_getD in
theorem vR (l:List Tm)(k:Ky)(u:AV)(hl:l.length<=1000)(H:List aA)(T:au)(tg:Tag)(hu:Below H.length T.length u) :
  aq prog 149 [.sl l.length (dB l) tg,.agg [.int .i64 k.1,.str k.2,u],.fn 111 [] []] H T (aaN l k H T):=by
 refine aq.bR ?_;have hR:∀r,Vn l k r->Below H.length T.length r:=by
  rintro r ⟨i,b,rfl,_⟩;simp
 refine aq.aaF hR ?_;refine ah 12 [] Tryz.ntmps149 Tryz.func149 rfl (λ_ _=>Tryz.call149 _ _) zS (λHO=>?_);refine af ?_;have eu:bM (H++[.cells [.int .i64 k.1,.str k.2,u]]) T:=HO.snoc (by simp;exact hu.more zO zO);refine af ?_;refine af ?_;refine ae λK1 aN=>?_;apply ag;refine aG (X:=Nat×Nat) (λx=>⟨[(0,.sl l.length (dB l) .none),(2,.fn 111 [] []),(4,.ptr H.length 0),(8,.int .i64 (l.length:Nat)),(9,.int .i64 (x.1:Nat)),(10,.int .i64 (x.2:Nat))],H++[.cells [.int .i64 k.1,.str k.2,u]],T⟩)
  (λx=>x.1<=x.2/\x.2<=l.length/\(Dv l->(∀j,j<x.1->bS (l.getD j t0).k k=true)/\(∀j,x.2<=j->j<l.length->bS (l.getD j t0).k k=false))) (λx=>x.2-x.1) (0,l.length) ?_ ?_ ?_
 ·exact⟨ahE _,ahv _,λ_=>⟨λj hj=>absurd hj (ahT _),λj h1 h2=>absurd h2 (Nat.not_lt.2 h1)⟩⟩
 ·exact wk eu
 ·rintro⟨lo,hi⟩ ⟨h1,h2,h3⟩;simp only at h1 h2 h3;refine ae λK2 ba=>?_;refine af ?_;refine aV rfl (λhk=>?_) (λhk=>?_)
  ·simp  at hk;have hm:(lo+hi) / 2<l.length:=zO;have bB:=kN l ((lo+hi) / 2) hm;apply aj;refine zQ ?_;apply ba;clear ba;apply ag;refine af ?_;rw[show ((lo:Int)+hi) / 2=(((lo+hi) / 2:Nat):Int) by omega];have oG:lo<=(lo+hi) / 2:=zO;have bp:(lo+hi) / 2<hi:=zO;generalize (lo+hi) / 2=m at *;have c:=ri (l.getD m t0).k k (.sl (l.getD m t0).l.length (bD (l.getD m t0).l) .none) u (H++[.cells [.int .i64 k.1,.str k.2,u]]) T
   by_cases hc:bS (l.getD m t0).k k=true
   ·have BG:=(tT (l.getD m t0).k k).2 hc;generalize r9 (l.getD m t0).k k=q at *;have bq:decide (q<0)=true:=ahx BG;refine bC [] [] [] ?_;simp(disch:=omega)[bB,cT];refine az (c) rfl ?_;simp(disch:=omega)[bq,BG];apply aC rfl;refine aJ ?_;refine⟨(m+1,hi),⟨by show m+1<=hi;omega,h2,λhv=>⟨λj hj=>?_,(h3 hv).2⟩⟩,by show hi-(m+1)<hi-lo;omega,?_⟩
    ·rcases ahD j m with h5|h5
     ·exact iy (hv _ _ h5 hm) hc
     ·have:j=m:=zO;subst this;exact hc
    ·exact wk eu
   ·have BG:¬r9 (l.getD m t0).k k<0:=λh=>hc ((tT _ _).1 h);generalize r9 (l.getD m t0).k k=q at *;have bq:decide (q<0)=false:=ahy BG;refine bC [] [] [] ?_;simp(disch:=omega)[bB,cT];refine az (c) rfl ?_;simp(disch:=omega)[bq,BG];apply aB rfl;refine aJ ?_;refine⟨(lo,m),⟨oG,by show m<=l.length;omega,λhv=>⟨(h3 hv).1,λj hj y5=>?_⟩⟩,by show m-lo<hi-lo;omega,?_⟩
    ·rcases ahD m j with h5|h5
     ·cases hs:bS (l.getD j t0).k k with
      |false=>rfl
      |true=>exact absurd (iy (hv _ _ h5 y5) hs) hc
     ·have:j=m:=zO;subst this;simpa using hc
    ·exact wk eu
  ·simp  at hk;have e:hi=lo:=zO;subst e;apply aD;refine zQ ?_;apply aN;clear aN
   by_cases hn:hi<l.length
   ·have bB:=kN l hi hn;have c:=ri (l.getD hi t0).k k (.sl (l.getD hi t0).l.length (bD (l.getD hi t0).l) .none) u (H++[.cells [.int .i64 k.1,.str k.2,u]]) T
    by_cases he:(l.getD hi t0).k=k
    ·rw[(Bc _ _).2 he] at c;refine bC [] [] [] ?_;simp(disch:=omega)[bB,cT,hn];refine az (c) rfl ?_;refine zQ ?_;refine aI ?_;exact⟨hi,true,rfl,zO,λ_=>⟨hn,he⟩,λh=>(by cases h),h3⟩
    ·have hz:¬r9 (l.getD hi t0).k k=0:=λh=>he ((Bc _ _).1 h);generalize r9 (l.getD hi t0).k k=q at *;have bq:(q==0)=false:=by simpa using hz
     refine bC [] [] [] ?_;simp(disch:=omega)[bB,cT,hn];refine az (c) rfl ?_;simp(disch:=omega)[bq,hz];refine aI ?_;refine⟨hi,false,rfl,zO,λh=>(by cases h),λ_ hv j hj Rg=>?_,h3⟩;rcases ai7 j hi with h5|h5|h5
     ·exact wM ((h3 hv).1 j h5) Rg
     ·subst h5;exact he Rg
     ·have h6:=(h3 hv).2 hi (ahv _) hn;have h7:=hv _ _ h5 hj;rw[Rg,h6] at h7
      cases h7
   ·have bn:decide ((hi:Int)<l.length)=false:=by simp;omega
    refine bC [] [] [] ?_;simp(disch:=omega)[bn,hn];refine aI ?_;refine⟨hi,false,rfl,zO,λh=>(by cases h),λ_ hv j hj Rg=>?_,h3⟩;exact wM ((h3 hv).1 j zO) Rg
def xk (l:List Tm)(k:Ky):List Ps:=((l.find? λt=>decide (t.k=k)).map (·.l)).getD []
def fU (s:Sg)(k:Ky):List Ps:=if aT s=true then xk s.aW k else []
def yz {l:List Tm}{k:Ky}(h:∀j,j<l.length->(l.getD j t0).k≠k):xk l k=[]:=by
 unfold xk;rw[aiJ.2]
 ·rfl
 ·intro t ht;obtain⟨j,hj,rfl⟩:=bP t0 ht;simpa using h j hj
def PU {l:List Tm}(h:Dv l){i j:Nat}(hi:i<l.length)(hj:j<l.length)(he:(l.getD i t0).k=(l.getD j t0).k):i=j:=by
 rcases ai7 i j with h1|h1|h1
 ·exact absurd he (wM (h i j h1 hj))
 ·exact h1
 ·exact absurd he.symm (wM (h j i h1 hi))
theorem Em {l:List Tm}{k:Ky}{i:Nat}(h:Dv l)(hi:i<l.length)(hk:(l.getD i t0).k=k):xk l k=(l.getD i t0).l:=by
 unfold xk
 cases hf:l.find? λt=>decide (t.k=k) with
 |none=>exact absurd hk (by simpa using aiJ.1 hf _ (aQ l i t0 hi))
 |some t=>
  have h1:=ajL hf;obtain⟨j,hj,rfl⟩:=bP t0 (aiG hf);have h2:(l.getD j t0).k=k:=by simpa using h1
  have:i=j:=PU h hi hj (hk.trans h2.symm);subst this;rfl
def su {s:Sg}(h:aT s=true):Dv s.aW:=by
 obtain⟨_,⟨h1,_⟩,_⟩:=fJ h;refine PW λi h0 hi=>?_;have:=(h1 i hi).1;unfold np at this;simp only[ahG,aiq,ahH] at this;rcases this.2 with h2|h2
 ·omega
 ·exact h2
def FC {s:Sg}(h:aT s=true){i:Nat}(hi:i<s.aW.length):cC (s.aW.getD i t0).l=true:=by
 obtain⟨_,⟨h1,_⟩,_⟩:=fJ h;have:=(h1 i hi).2;unfold yR at this;simp only[ahG] at this;exact this.1.2
def LM (d:Int):posOf [] d=[]:=rfl
def KV {l:List Ps}(h:cC l=true):jm l []=l:=by
 have h0:VL ([]:PL):=by unfold VL;rfl
 refine Zb (Zc h h0) h λd z=>?_;rw[OC h h0,LM];simp
attribute [-simp] getD_eq_getElem?_getD in
theorem Qn (s:Sg)(hs:rz s)(f:Int)(w:Bs)(H:List aA)(T:au):aq prog 82 [jh s,.int .i64 f,.str w] H T (Is (.sl (fU s (f,w)).length (bD (fU s (f,w))) .none) H T):=by
 refine aq.bK ?_ zS;have hu:=hs.w;have cv:=λH=>kj s hs H T;have cb:=vR s.aW (f,w) (.sl 0 [] .full) hs.t (H++[.cells (cH s)]) T .none zS;have zd:=λh=>su (s:=s) h;have Gt:=λh i=>FC (s:=s) h (i:=i);refine ah 12 [] Tryz.ntmps82 Tryz.func82 rfl (λ_ _=>Tryz.call82 _ _) zS (λHO=>?_);refine af ?_;apply ar;refine zQ ?_;refine⟨_,cb,?_⟩;rintro r H' T' ⟨rfl,rfl,i,b,rfl,hi,h1,h2,h3⟩;refine zQ ?_;refine ae λK1 aN=>?_
 cases b with
 |false=>
  have hf:fU s (f,w)=[]:=by
   unfold fU
   split
   ·rename_i hv;exact yz (h2 rfl (zd hv))
   ·rfl
  refine af ?_;apply aC rfl;refine af ?_;refine aI ?_;simp[hf];rfl
 |true=>
  obtain⟨eM,VN⟩:=h1 rfl
  cases hv:aT s with
  |false=>
   rw[hv] at cv;have hf:fU s (f,w)=[]:=by unfold fU;rw[hv];rfl
   apply ar;refine zQ ?_;refine ai (cv _) ?_;refine zQ ?_;apply aC rfl;refine af ?_;refine aI ?_;simp[hf];rfl
  |true=>
   rw[hv] at cv;have hl:=Gt hv i eM;have hf:fU s (f,w)=(s.aW.getD i t0).l:=by unfold fU;rw[ahF hv,Em (zd hv) eM VN]
   have gA:=(wH s.aW i eM).2.2;obtain⟨_,q2,q3⟩:=hu _ (aQ s.aW i t0 eM);have cu:=λH=>D9 (s.aW.getD i t0).l [] q2 zS q3 zS H T' .none .full;rw[KV hl] at cu;apply ar;refine zQ ?_;refine ai (cv _) ?_;refine zQ ?_;apply aB rfl;apply aj;refine zQ ?_;apply aN;clear aN;apply ar;simp(disch:=omega)[gA,cT,eM];refine ai (cu _) ?_;refine zQ ?_;refine aI ?_;exact⟨by rw[hf],by rw[hf]⟩
def ka (p w:Bs):Bool:=decide (p.length<=w.length)&&(w.take p.length==p)
attribute [-simp] getD_eq_getElem?_getD in
def TY (w p:Bs)(hw:w.length<=maxLen)(hp:p.length<=maxLen)(H:List aA)(T:au):aq prog 157 [.str w,.str p] H T (Is (.bool (ka p w)) H T):=by
 have jU:maxLen<=9223372036854775807:=zD;have c:aq prog 187 [.str w,.str p] H T (Is (.bool (ka p w)) H T):=by
  generalize hq:ka p w=q;unfold ka at hq;refine ah 5 [] Tryz.ntmps187 Tryz.func187 rfl (λ_ _=>Tryz.call187 _ _) zS (λHO=>?_);refine af ?_
  by_cases h:p.length<=w.length
  ·have b:decide ((p.length:Int)<=w.length)=true:=ahx zO;rw[ahx h,aio] at hq;apply ar;simp(disch:=omega)[b,h];refine aI ?_;rw[<-hq];exact⟨rfl,rfl,rfl⟩
  ·have b:decide ((p.length:Int)<=w.length)=false:=ahy zO;rw[ahy h,ajQ] at hq;apply ar;simp(disch:=omega)[b,h];refine aI ?_;rw[<-hq];exact⟨rfl,rfl,rfl⟩
 generalize ka p w=q at *;refine ah 5 [] Tryz.ntmps157 Tryz.func157 rfl (λ_ _=>Tryz.call157 _ _) zS (λHO=>?_);refine af ?_;apply ar;refine zQ ?_;refine ai (c) ?_;refine zQ ?_;refine aI ?_;exact⟨rfl,rfl,rfl⟩
attribute [-simp] getD_eq_getElem?_getD in
def MW (w p:Bs)(hw:w.length<=maxLen)(hp:p.length<=maxLen)(H:List aA)(T:au):aq prog 99 [.str w,.str p] H T (Is (.bool (ka p w)) H T):=by
 have jU:maxLen<=9223372036854775807:=zD;generalize hq:ka p w=q;unfold ka at hq;refine ah 5 [] Tryz.ntmps99 Tryz.func99 rfl (λ_ _=>Tryz.call99 _ _) zS (λHO=>?_);refine af ?_
 by_cases h:p.length<=w.length
 ·have b:decide ((p.length:Int)<=w.length)=true:=ahx zO;rw[ahx h,aio] at hq;apply ar;simp(disch:=omega)[b,h];refine aI ?_;rw[<-hq];exact⟨rfl,rfl,rfl⟩
 ·have b:decide ((p.length:Int)<=w.length)=false:=ahy zO;rw[ahy h,ajQ] at hq;apply ar;simp(disch:=omega)[b,h];refine aI ?_;rw[<-hq];exact⟨rfl,rfl,rfl⟩
end Go.Proofs.YtoejlmpbebjemaaGreat
namespace ie
theorem ER (w:w9):Go.Proofs.YtoejlmpbebjemaaGreat.ka [] w=true:=by simp[Go.Proofs.YtoejlmpbebjemaaGreat.ka]
def A2 (x y:UInt8)(p w:w9):Go.Proofs.YtoejlmpbebjemaaGreat.ka (x::p) (y::w)=(x==y&&Go.Proofs.YtoejlmpbebjemaaGreat.ka p w):=by
 unfold Go.Proofs.YtoejlmpbebjemaaGreat.ka;rw[aj2];simp only[ahY,List.take_succ_cons,ahG,ahH,ajl,List.cons.injEq,Nat.add_le_add_iff_right]
 constructor
 ·rintro⟨h1,h2,h3⟩;exact⟨h2.symm,h1,h3⟩
 ·rintro⟨h1,h2,h3⟩;exact⟨h2,h1.symm,h3⟩
def xM (x y:UInt8)(p w:w9):slt (x::p) (y::w)=(decide (x<y)||(x==y&&slt p w)):=rfl
def B2 (p:w9):slt p []=false:=by cases p<;>rfl
def Eg (x:UInt8)(p:w9):slt [] (x::p)=true:=rfl
theorem EP:∀(p w:w9),slt w p=true->Go.Proofs.YtoejlmpbebjemaaGreat.ka p w=false
 |[],w,h=>by rw[B2] at h;cases h
 |x::p,[],h=>by simp[Go.Proofs.YtoejlmpbebjemaaGreat.ka]
 |x::p,y::w,h=>by
  rw[xM] at h;rw[A2];simp only[aiq,ahH,ahG,ajl] at h;rcases h with h|⟨_,h⟩
  ·have:(x==y)=false:=by
    rw[ah8];rintro rfl;exact absurd h (UInt8.lt_irrefl _)
   rw[this];rfl
  ·rw[EP p w h,Bool.and_false]
theorem uc:∀(p w v:w9),slt w p=false->slt w v=true->Go.Proofs.YtoejlmpbebjemaaGreat.ka p v=true->Go.Proofs.YtoejlmpbebjemaaGreat.ka p w=true
 |[],w,v,_,_,_=>ER w
 |x::p,[],v,h,_,_=>by rw[Eg] at h;cases h
 |x::p,y::w,[],_,_,h=>by simp[Go.Proofs.YtoejlmpbebjemaaGreat.ka] at h
 |x::p,y::w,z::v,h1,h2,h3=>by
  rw[xM] at h1 h2;rw[A2] at h3 ⊢;simp only[ajV,aiP,ajP,ah8,aiq,ahH,ahG,ajl] at h1 h2 h3 ⊢;obtain⟨rfl,h3⟩:=h3;rcases h2 with h2|⟨rfl,h2⟩
  ·exact absurd h2 h1.1
  ·refine⟨rfl,uc p w v ?_ h2 h3⟩;rcases h1.2 with h|h
   ·exact absurd rfl h
   ·simpa using h
end ie
namespace Go.Proofs.YtoejlmpbebjemaaGreat
open Go Go.Am ie eN cN
def gQ (f:Int)(p:Bs)(t:Tm):Bool:=decide (t.f=f)&&ka p t.w
def ir (l:List Tm)(f:Int)(p:Bs):List Bs:=(l.filter (gQ f p)).map (·.w)
def fk (s:Sg)(f:Int)(p:Bs):List Bs:=if aT s=true then ir s.aW f p else []
def FT {f:Int}{p:Bs}{t:Tm}(h:bS t.k (f,p)=true):gQ f p t=false:=by
 unfold gQ;unfold bS at h;simp only[aiq,ahH,ahG] at h;rcases h with h|⟨h1,h2⟩
 ·rw[ahy zO];rfl
 ·rw[EP _ _ h2,Bool.and_false]
def zx {f:Int}{p:Bs}{t u:Tm}(h1:bS t.k (f,p)=false)(h2:bS t.k u.k=true)(h3:gQ f p u=true):gQ f p t=true:=by
 unfold gQ at h3 ⊢;unfold bS at h1 h2;simp only[aiq,ahH,ahG,ajV,aiP,ajP] at h1 h2 h3 ⊢;obtain⟨e,h3⟩:=h3;rcases h2 with h2|⟨h2,h4⟩
 ·omega
 ·refine⟨zO,uc p t.w u.w ?_ h4 h3⟩;rcases h1.2 with h|h
  ·omega
  ·simpa using h
def FY {l:List Tm}{M:Tm->Bool}{i j:Nat}(jV:i+j<=l.length)(h1:∀m,m<i->M (l.getD m t0)=false)(h2:∀m,m<j->M (l.getD (i+m) t0)=true)(h3:∀m,i+j<=m->m<l.length->M (l.getD m t0)=false) :
  l.filter M=(l.drop i).take j:=by
 have e:l=l.take i++((l.drop i).take j++l.drop (i+j)):=by
  rw[<-List.drop_drop,ah1,ah1]
 conv=>lhs;rw[e]
 rw[aij,aij];have a1:(l.take i).filter M=[]:=by
  rw[ai9];intro x hx;obtain⟨k,hk,rfl⟩:=bP t0 hx;rw[ahW] at hk;have:(l.take i).getD k t0=l.getD k t0:=by simp[ahs,aim,show k<i by omega]
  rw[this,h1 k zO];simp
 have a2:(l.drop (i+j)).filter M=[]:=by
  rw[ai9];intro x hx;obtain⟨k,hk,rfl⟩:=bP t0 hx;rw[aii] at hk;have:(l.drop (i+j)).getD k t0=l.getD (i+j+k) t0:=by simp[ahs,aja]
  rw[this,h3 _ zO zO];simp
 have a3:((l.drop i).take j).filter M=(l.drop i).take j:=by
  rw[ai4];intro x hx;obtain⟨k,hk,rfl⟩:=bP t0 hx;rw[ahW,aii] at hk;have:((l.drop i).take j).getD k t0=l.getD (i+k) t0:=by simp[ahs,aim,aja,show k<j by omega]
  rw[this,h2 _ zO]
 rw[a1,a2,a3];simp
theorem Hk {l:List Tm}{f:Int}{p:Bs}{i j:Nat}(ho:Dv l)(jV:i+j<=l.length)(h1:∀m,m<i->bS (l.getD m t0).k (f,p)=true)(h2:∀m,i<=m->m<l.length->bS (l.getD m t0).k (f,p)=false)
  (h3:∀m,m<j->gQ f p (l.getD (i+m) t0)=true) (h4:i+j<l.length->gQ f p (l.getD (i+j) t0)=false):ir l f p=((l.drop i).take j).map (·.w):=by
 unfold ir;rw[FY jV (λm hm=>FT (h1 m hm)) h3];intro m Ra Q9;rcases ahD (i+j) m with h|h
 ·cases hc:gQ f p (l.getD m t0) with
  |false=>rfl
  |true=>
   have:=zx (h2 (i+j) zO zO) (ho (i+j) m h Q9) hc;rw[h4 zO] at this
   cases this
 ·have:m=i+j:=zO;subst this;exact h4 Q9
theorem KH (s : Sg) (hs : rz s) (f : Int) (p : Bs) (hp : p.length <= maxLen) (H : List aA) (T : au) : aq Tryz.prog 94 [jh s, .int .i64 f, .str p] H T (Is (.sl (fk s f p).length (strs (fk s f p)) .none) H T) := by
  refine aq.bK ?_ (by simp);have cv := λH => kj s hs H T;have cb := vR s.aW (f, p) (.sl 0 [] .full) hs.t (H ++ [.cells (cH s)]) T .none (by simp);have zd := λh => su (s := s) h;have hw := hs.w;have sM := hs.t;refine ah 31 [] Tryz.ntmps94 Tryz.func94 rfl (λ_ _ => Tryz.call94 _ _) (by simp) (λHO => ?_);refine aK λK hK => ?_; simp (maxSteps := 1000000) (disch := omega) [-getD_eq_getElem?_getD]; refine hK _ ?_; clear hK K;refine aK λK hK => ?_; simp (maxSteps := 1000000) (disch := omega) [-getD_eq_getElem?_getD]; refine hK _ ?_; clear hK K;refine ae λK1 aN => ?_;have eu : bM (H ++ [.cells (cH s)]) T := HO.snoc (by simp)
  cases hv : aT s with
  | false =>
    rw [hv] at cv
    have hf : fk s f p = [] := by unfold fk; rw [hv]; rfl
    refine aK λK hK => ?_; simp (maxSteps := 1000000) (disch := omega) [-getD_eq_getElem?_getD]
    refine ai (cv _) ?_; simp (maxSteps := 1000000) (disch := omega) [-getD_eq_getElem?_getD]
    refine hK _ ?_; clear hK K
    refine aV rfl (λh => ?_) (λh => absurd h (by simp))
    refine aK λK hK => ?_; simp (maxSteps := 1000000) (disch := omega) [-getD_eq_getElem?_getD]; refine hK _ ?_; clear hK K
    apply bu; simp (maxSteps := 1000000) (disch := omega) [-getD_eq_getElem?_getD]
    simp [hf]
  | true =>
  rw [hv] at cv;have hf : fk s f p = ir s.aW f p := by unfold fk; rw [ahF hv]
  have ho := zd hv;refine aK λK hK => ?_; simp (maxSteps := 1000000) (disch := omega) [-getD_eq_getElem?_getD];refine ai (cv _) ?_; simp (maxSteps := 1000000) (disch := omega) [-getD_eq_getElem?_getD];refine hK _ ?_; clear hK K;refine aV rfl (λh => absurd h (by simp)) (λh => ?_);apply aj; simp (maxSteps := 1000000) (disch := omega) [-getD_eq_getElem?_getD];refine aN _ ?_; clear aN;refine aK λK hK => ?_; simp (maxSteps := 1000000) (disch := omega) [-getD_eq_getElem?_getD];refine ⟨_, cb, ?_⟩;rintro r H' T' ⟨rfl, rfl, i, b, rfl, hi, h1, h2, h3⟩;simp (maxSteps := 1000000) (disch := omega) [-getD_eq_getElem?_getD];refine hK _ ?_; clear hK K;refine ae λK1 aN => ?_;obtain ⟨h4, h5⟩ := h3 ho;have qE := KW s.aW i;have zY : (s.aW.drop i).length = s.aW.length - i := aii;have gV : List.take ((s.aW.length - i) * 3) (dB (s.aW.drop i)) = dB (s.aW.drop i) := ajh (by rw [cT, zY]; omega);have hDg : ∀ m, (s.aW.drop i).getD m t0 = s.aW.getD (i + m) t0 := λm => by simp [ahs, aja]
  refine aK λK hK => ?_; simp (maxSteps := 1000000) (disch := omega) [-getD_eq_getElem?_getD, qE, cT, hi, gV]; refine hK _ ?_; clear hK K;rw [<- zY];have UU : ∀ j, j <= (s.aW.drop i).length -> (∀ m, m < j -> gQ f p (s.aW.getD (i + m) t0) = true) -> (j < (s.aW.drop i).length -> gQ f p (s.aW.getD (i + j) t0) = false) -> fk s f p = ((s.aW.drop i).take j).map (·.w) := λj j1 j2 j3 => by
    rw [hf];exact Hk ho (by omega) h4 h5 j2 (λh => j3 (by omega))
  have hwd : ∀ m, m < (s.aW.drop i).length -> (s.aW.getD (i + m) t0).w.length <= maxLen := λm hm => (hw _ (aQ _ _ _ (by omega))).1;have ahq : (s.aW.drop i).length <= 1000 := by omega
  clear hf cv cb zd hw sM h1 h2 h3 h4 h5 qE gV;generalize hD : s.aW.drop i = D at *;generalize fk s f p = res at *;apply ag;refine ki 7 0 1 [] (by omega) (by simp) ?_;refine aG (X := Nat) (λj => ⟨[(1, .int .i64 f), (2, .str p), (7, .sl j (strs ((D.map (·.w)).take j)) (.own T'.length)), (28, .sl D.length (dB D) .none), (29, .int .i64 (D.length : Nat)), (30, .int .i64 (j : Nat))], H ++ [.cells (cH s)], T' ++ [(j, 1)]⟩)
    (λj => j <= D.length /\ ∀ m, m < j -> gQ f p (s.aW.getD (i + m) t0) = true) (λj => D.length - j) 0 ?_ ?_ ?_
  · exact ⟨ahE _, λj hj => absurd hj (ahT _)⟩
  · refine ak [] [] ?_ ?_ ?_ ?_ (eu.fS (by simp)) ?_
    all_goals simp
  · rintro j ⟨g1, g2⟩;have Zq : ∀ m, m < j + 1 -> m < j \/ m = j := λm hm => by omega
    refine aK λK hK => ?_; simp (maxSteps := 1000000) (disch := omega) [-getD_eq_getElem?_getD]; refine hK _ ?_; clear hK K;refine ae λK2 ba => ?_;refine aV rfl (λhk => ?_) (λhk => ?_)
    · simp [-getD_eq_getElem?_getD] at hk;have bB := kN D j hk;have sM : (strs ((D.map (·.w)).take j)).length = j := by simp; omega
      have gV : strs ((D.map (·.w)).take j) ++ [.str (D.getD j t0).w] = strs ((D.map (·.w)).take (j + 1)) := by rw [Aw, <- map_take, <- map_take, aX D j t0 hk]; simp
      have qC := hwd j hk;rw [<- hDg j] at qC;have hm : gQ f p (s.aW.getD (i + j) t0) = (decide ((D.getD j t0).f = f) && ka p (D.getD j t0).w) := by rw [<- hDg j]; rfl
      generalize D.getD j t0 = t at *;obtain ⟨tf, tw, tl⟩ := t;simp only at bB gV qC hm;have BE : ∀ r, res = r -> r = (D.take j).map (·.w) -> j = res.length /\ strs ((D.map (·.w)).take j) = strs res := λr e1 e2 => by rw [e1, e2, map_take]; exact ⟨by simp; omega, rfl⟩
      have ZE : aL (H.length + 2) (T'.length + 1) (strs ((D.map (·.w)).take j)) := by simp
      generalize strs ((D.map (·.w)).take j) = out at *;apply aj; simp (maxSteps := 1000000) (disch := omega) [-getD_eq_getElem?_getD];refine ba _ ?_; clear ba;refine ae λK3 bH => ?_;apply ag;refine aK λK hK => ?_; simp (maxSteps := 1000000) (disch := omega) [-getD_eq_getElem?_getD, bB, cT]; refine hK _ ?_; clear hK K;have eG : bM (H ++ [.cells (cH s), .cells (mg ⟨tf, tw, tl⟩)]) (T' ++ [(j, 1)]) := by
        have := (bM.snoc (vs := mg ⟨tf, tw, tl⟩) eu (by simp)).fS (T' := T' ++ [(j, 1)]) (by simp);simpa using this
      refine ae λK4 iQ => ?_;have c := TY tw p qC hp (H ++ [.cells (cH s), .cells (mg ⟨tf, tw, tl⟩)]) (T' ++ [(j, 1)]);have stop : ∀ e, gQ f p (s.aW.getD (i + j) t0) = false -> bA (H.length + 2) (T'.length + 1) e [(7, .sl j out (.own T'.length))] -> K1 ⟨e, H ++ [.cells (cH s), .cells (mg ⟨tf, tw, tl⟩)], T' ++ [(j, 1)]⟩ := by
        intro e hmf he;have hr := UU j g1 g2 (λ_ => hmf);refine aN _ (aF ⟨[(7, .sl j out (.own T'.length))], H ++ [.cells (cH s), .cells (mg ⟨tf, tw, tl⟩)], T' ++ [(j, 1)]⟩ (ak [] [] (by simp) (by simp) (by simp) (by simp) eG (by simpa using he)) ?_);refine aK λK hK => ?_; simp (maxSteps := 1000000) (disch := omega) [-getD_eq_getElem?_getD]; refine hK _ ?_; clear hK K;apply bu; simp (maxSteps := 1000000) (disch := omega) [-getD_eq_getElem?_getD];exact BE _ rfl hr
      by_cases hf : tf = f
      · subst hf;rw [ahx rfl, aio] at hm
        cases XD : ka p tw with
        | false =>
          rw [XD] at c hm
          refine aK λK hK => ?_; simp (maxSteps := 1000000) (disch := omega) [-getD_eq_getElem?_getD]
          refine ai (c) ?_; simp (maxSteps := 1000000) (disch := omega) [-getD_eq_getElem?_getD]
          refine hK _ ?_; clear hK K
          refine aV rfl (λh => ?_) (λh => absurd h (by simp))
          apply aD; simp (maxSteps := 1000000) (disch := omega) [-getD_eq_getElem?_getD]
          refine stop _ hm ?_
          simp [ZE]
        | true =>
          rw [XD] at c hm
          refine aK λK hK => ?_; simp (maxSteps := 1000000) (disch := omega) [-getD_eq_getElem?_getD]
          refine ai (c) ?_; simp (maxSteps := 1000000) (disch := omega) [-getD_eq_getElem?_getD]
          refine hK _ ?_; clear hK K
          refine aV rfl (λh => absurd h (by simp)) (λh => ?_)
          apply aj; simp (maxSteps := 1000000) (disch := omega) [-getD_eq_getElem?_getD]
          refine iQ _ ?_; clear iQ
          refine br λK hK => ?_; simp (maxSteps := 1000000) (disch := omega) [-getD_eq_getElem?_getD, sM, gV]
          refine hK _ ?_; clear hK K
          refine bH _ ?_; clear bH
          refine br λK hK => ?_; simp (maxSteps := 1000000) (disch := omega) [-getD_eq_getElem?_getD]
          refine hK _ ?_; clear hK K
          refine ⟨j + 1, ⟨by show j + 1 <= _; omega, λm Q9 => ?_⟩, by show D.length - (j + 1) < D.length - j; omega, ?_⟩
          · rcases Zq m Q9 with h | rfl
            · exact g2 m h
            · exact hm
          · refine ak [.cells (mg ⟨tf, tw, tl⟩)] [] ?_ ?_ ?_ ?_ (eu.fS (by simp)) ?_
            all_goals simp
      · have b1 : (tf != f) = true := by simp [hf]
        rw [ahy hf, ajQ] at hm;refine aK λK hK => ?_; simp (maxSteps := 1000000) (disch := omega) [-getD_eq_getElem?_getD, b1, hf];refine hK _ ?_; clear hK K;refine aV rfl (λh => ?_) (λh => absurd h (by simp));apply aD; simp (maxSteps := 1000000) (disch := omega) [-getD_eq_getElem?_getD];refine stop _ hm ?_;simp [ZE]
    · simp [-getD_eq_getElem?_getD] at hk;have hj : j = D.length := by omega
      have hr := UU j g1 g2 (λh => by omega);apply aD; simp (maxSteps := 1000000) (disch := omega) [-getD_eq_getElem?_getD];refine aN _ ?_; clear aN;refine aK λK hK => ?_; simp (maxSteps := 1000000) (disch := omega) [-getD_eq_getElem?_getD]; refine hK _ ?_; clear hK K;apply bu; simp (maxSteps := 1000000) (disch := omega) [-getD_eq_getElem?_getD];rw [hr, map_take];exact ⟨by simp; omega, rfl⟩
end Go.Proofs.YtoejlmpbebjemaaGreat
