/- Searching among terms (layer 39). segment.Find (layer 39): what it answers; strings.HasPrefix. segment.Words (layer 39).
  Conditions: lengths below 1000 or 1000, as each theorem says. -/
import Derived.Test.YtoejlmpbebjemaaGreatGV
import Derived.Test.YtoejlmpbebjemaaGreatPZ
set_option linter.all false
set_option maxRecDepth 100000
set_option maxHeartbeats 8000000
open List (getD_eq_getElem?_getD map_take)
namespace Go.Am
open Go
def ar.aaw {P:Program}{f:FuncId}{args:List AV}{H:List az}{T:au}{R:AV->Prop}(hb:∀r,R r->Below H.length T.length r)
  (h:ar P f args H T (λr H' T'=>(∃rH,H'=H++rH)/\(∃rT,T'=T++rT)/\R r)):ar P f args H T (λr H' T'=>H'=H/\T'=T/\R r):=by
 refine⟨h.1,λL w ca hc jR hr=>(h.2 L w ca hc jR hr).mono ?_⟩;rintro e w' ⟨r',H',T',L',cv,⟨⟨rH,e1⟩,⟨rT,e2⟩,e3⟩,rfl,cO,dI,dD⟩;subst e1;subst e2;refine⟨_,H,T,L',cv,⟨rfl,rfl,e3⟩,rfl,bW.front P cO hc.jK,?_,dD.front (ahj _) (ahj _)⟩;have:=dI.drop (hb _ e3);simpa using this
end Go.Am
namespace Go.Proofs.YtoejlmpbebjemaaGreat
open Go Go.Am im eT cL
def Dk (l:List Tm):Prop:=∀i j,i<j->j<l.length->bP (l.getD i t0).k (l.getD j t0).k=true
theorem Qa {l:List Tm}(h:∀i,0<i->i<l.length->bP (l.getD (i-1) t0).k (l.getD i t0).k=true):Dk l:=by
 intro i j hij hj
 induction j with
 |zero=>omega
 |succ j ih=>
  have h1:=h (j+1) (by omega) hj;rw[show j+1-1=j by omega] at h1;rcases ahr i j with h2|h2
  ·exact ic (ih h2 (by omega)) h1
  ·have:i=j:=by omega
   subst this;exact h1
def Vy (l:List Tm)(k:Ky)(r:AV):Prop:=∃(i:Nat) (b:Bool),r=.df [.int .i64 (i:Nat),.bool b]/\i<=l.length/\
 (b=true->i<l.length/\(l.getD i t0).k=k)/\(b=false->Dk l->∀j,j<l.length->(l.getD j t0).k≠k)/\(Dk l->(∀j,j<i->bP (l.getD j t0).k k=true)/\∀j,i<=j->j<l.length->bP (l.getD j t0).k k=false)
def aaH (l:List Tm)(k:Ky)(H:List az)(T:au):AV->List az->au->Prop:=λr H' T'=>H'=H/\T'=T/\Vy l k r
def wA {a b:Ky}(h:bP a b=true):a≠b:=λe=>by rw[e,jo] at h;cases h
attribute [-simp] getD_eq_getElem?_getD in
theorem vF (l:List Tm)(k:Ky)(u:AV)(hl:l.length<=1000)(H:List az)(T:au)(tg:Tag)(hu:Below H.length T.length u) :
  ar Tryz.prog 149 [.sl l.length (dx l) tg,.agg [.int .i64 k.1,.str k.2,u],.fn 111 [] []] H T (aaH l k H T):=by
 refine ar.cg ?_;have hR:∀r,Vy l k r->Below H.length T.length r:=by
  rintro r ⟨i,b,rfl,_⟩;simp
 refine ar.aaw hR ?_;refine ah 12 [] Tryz.ntmps149 Tryz.func149 rfl (λ_ _=>Tryz.call149 _ _) (by simp) (λHO=>?_);apply ae;intro K Z;simp(disch:=omega);apply Z;have ff:bJ (H++[.cells [.int .i64 k.1,.str k.2,u]]) T:=HO.snoc (by simp;exact hu.more (by omega) (by omega));apply ae;intro K Z;simp(disch:=omega);apply Z;apply ae;intro K Z;simp(disch:=omega);apply Z;refine af λK1 aO=>?_;apply aj;refine aI (X:=Nat×Nat) (λx=>⟨[(0,.sl l.length (dx l) .none),(2,.fn 111 [] []),(4,.ptr H.length 0),(8,.int .i64 (l.length:Nat)),(9,.int .i64 (x.1:Nat)),(10,.int .i64 (x.2:Nat))],H++[.cells [.int .i64 k.1,.str k.2,u]],T⟩)
  (λx=>x.1<=x.2/\x.2<=l.length/\(Dk l->(∀j,j<x.1->bP (l.getD j t0).k k=true)/\(∀j,x.2<=j->j<l.length->bP (l.getD j t0).k k=false))) (λx=>x.2-x.1) (0,l.length) ?_ ?_ ?_
 ·exact⟨ahu _,ahj _,λ_=>⟨λj hj=>absurd hj (ahO _),λj h1 h2=>absurd h2 (Nat.not_lt.2 h1)⟩⟩
 ·refine ag [] [] ?_ ?_ ?_ ?_ ff ?_
  all_goals simp
 ·rintro⟨lo,hi⟩ ⟨h1,h2,h3⟩;simp only at h1 h2 h3;refine af λK2 bc=>?_;apply ae;intro K Z;simp(disch:=omega);apply Z;refine aT rfl (λhk=>?_) (λhk=>?_)
  ·simp  at hk;have hm:(lo+hi) / 2<l.length:=by omega
   have hcut:=nJ l ((lo+hi) / 2) hm;apply aq;simp(disch:=omega) ;apply bc;clear bc;apply aj;apply ae;intro K Z;simp(disch:=omega);apply Z;rw[show ((lo:Int)+hi) / 2=(((lo+hi) / 2:Nat):Int) by omega];have hge:lo<=(lo+hi) / 2:=by omega
   have hlt:(lo+hi) / 2<hi:=by omega
   generalize (lo+hi) / 2=m at *;have c:=qF (l.getD m t0).k k (.sl (l.getD m t0).l.length (bA (l.getD m t0).l) .none) u (H++[.cells [.int .i64 k.1,.str k.2,u]]) T
   by_cases hc:bP (l.getD m t0).k k=true
   ·have Bm:=(tK (l.getD m t0).k k).2 hc;generalize rI (l.getD m t0).k k=q at *;have bq:decide (q<0)=true:=ahm Bm;refine aJ [] [] [] aw (by kernel_rfl) (by kernel_rfl) λK hK=>?_;simp(disch:=omega)[hcut,gC];refine aC (c) rfl ?_;simp(disch:=omega)[bq,Bm];apply hK;apply aG rfl;refine aB λK hK=>?_;simp(disch:=omega) ;apply hK;refine⟨(m+1,hi),⟨by show m+1<=hi;omega,h2,λhv=>⟨λj hj=>?_,(h3 hv).2⟩⟩,by show hi-(m+1)<hi-lo;omega,?_⟩
    ·rcases ahr j m with h5|h5
     ·exact ic (hv _ _ h5 hm) hc
     ·have:j=m:=by omega
      subst this;exact hc
    ·refine ag [] [] ?_ ?_ ?_ ?_ ff ?_
     all_goals simp
   ·have Bm:¬rI (l.getD m t0).k k<0:=λh=>hc ((tK _ _).1 h);generalize rI (l.getD m t0).k k=q at *;have bq:decide (q<0)=false:=ahn Bm;refine aJ [] [] [] aw (by kernel_rfl) (by kernel_rfl) λK hK=>?_;simp(disch:=omega)[hcut,gC];refine aC (c) rfl ?_;simp(disch:=omega)[bq,Bm];apply hK;apply aD rfl;refine aB λK hK=>?_;simp(disch:=omega) ;apply hK;refine⟨(lo,m),⟨hge,by show m<=l.length;omega,λhv=>⟨(h3 hv).1,λj hj hj2=>?_⟩⟩,by show m-lo<hi-lo;omega,?_⟩
    ·rcases ahr m j with h5|h5
     ·cases hs:bP (l.getD j t0).k k with
      |false=>rfl
      |true=>exact absurd (ic (hv _ _ h5 hj2) hs) hc
     ·have:j=m:=by omega
      subst this;simpa using hc
    ·refine ag [] [] ?_ ?_ ?_ ?_ ff ?_
     all_goals simp
  ·simp  at hk;have e:hi=lo:=by omega
   subst e;apply aF;simp(disch:=omega) ;apply aO;clear aO
   by_cases hn:hi<l.length
   ·have hcut:=nJ l hi hn;have c:=qF (l.getD hi t0).k k (.sl (l.getD hi t0).l.length (bA (l.getD hi t0).l) .none) u (H++[.cells [.int .i64 k.1,.str k.2,u]]) T
    by_cases he:(l.getD hi t0).k=k
    ·rw[(AR _ _).2 he] at c;refine aJ [] [] [] aw (by kernel_rfl) (by kernel_rfl) λK hK=>?_;simp(disch:=omega)[hcut,gC,hn];refine aC (c) rfl ?_;simp(disch:=omega) ;apply hK;apply ay;simp(disch:=omega) ;exact⟨hi,true,rfl,by omega,λ_=>⟨hn,he⟩,λh=>(by cases h),h3⟩
    ·have hz:¬rI (l.getD hi t0).k k=0:=λh=>he ((AR _ _).1 h);generalize rI (l.getD hi t0).k k=q at *;have bq:(q==0)=false:=by simpa using hz
     refine aJ [] [] [] aw (by kernel_rfl) (by kernel_rfl) λK hK=>?_;simp(disch:=omega)[hcut,gC,hn];refine aC (c) rfl ?_;simp(disch:=omega)[bq,hz];apply hK;apply ay;simp(disch:=omega) ;refine⟨hi,false,rfl,by omega,λh=>(by cases h),λ_ hv j hj Rq=>?_,h3⟩;rcases aiM j hi with h5|h5|h5
     ·exact wA ((h3 hv).1 j h5) Rq
     ·subst h5;exact he Rq
     ·have h6:=(h3 hv).2 hi (ahj _) hn;have h7:=hv _ _ h5 hj;rw[Rq,h6] at h7
      cases h7
   ·have bn:decide ((hi:Int)<l.length)=false:=by simp;omega
    refine aJ [] [] [] aw (by kernel_rfl) (by kernel_rfl) λK hK=>?_;simp(disch:=omega)[bn,hn];apply hK;apply ay;simp(disch:=omega) ;refine⟨hi,false,rfl,by omega,λh=>(by cases h),λ_ hv j hj Rq=>?_,h3⟩;exact wA ((h3 hv).1 j (by omega)) Rq
def zJ (l:List Tm)(k:Ky):List Ps:=((l.find? λt=>decide (t.k=k)).map (·.l)).getD []
def iO (s:Sg)(k:Ky):List Ps:=if aX s=true then zJ s.bK k else []
def HZ {l:List Tm}{k:Ky}(h:∀j,j<l.length->(l.getD j t0).k≠k):zJ l k=[]:=by
 unfold zJ;rw[aiy.2]
 ·rfl
 ·intro t ht;obtain⟨j,hj,rfl⟩:=bH t0 ht;simpa using h j hj
def P8 {l:List Tm}(h:Dk l){i j:Nat}(hi:i<l.length)(hj:j<l.length)(he:(l.getD i t0).k=(l.getD j t0).k):i=j:=by
 rcases aiM i j with h1|h1|h1
 ·exact absurd he (wA (h i j h1 hj))
 ·exact h1
 ·exact absurd he.symm (wA (h j i h1 hi))
theorem P2 {l:List Tm}{k:Ky}{i:Nat}(h:Dk l)(hi:i<l.length)(hk:(l.getD i t0).k=k):zJ l k=(l.getD i t0).l:=by
 unfold zJ
 cases hf:l.find? λt=>decide (t.k=k) with
 |none=>exact absurd hk (by simpa using aiy.1 hf _ (aS l i t0 hi))
 |some t=>
  have h1:=ajA hf;obtain⟨j,hj,rfl⟩:=bH t0 (aiu hf);have h2:(l.getD j t0).k=k:=by simpa using h1
  have:i=j:=P8 h hi hj (hk.trans h2.symm);subst this;rfl
def ye {s:Sg}(h:aX s=true):Dk s.bK:=by
 obtain⟨_,⟨h1,_⟩,_⟩:=iC h;refine Qa λi h0 hi=>?_;have:=(h1 i hi).1;unfold rB at this;simp only[aht,aic,ahv] at this;rcases this.2 with h2|h2
 ·omega
 ·exact h2
def Fp {s:Sg}(h:aX s=true){i:Nat}(hi:i<s.bK.length):dT (s.bK.getD i t0).l=true:=by
 obtain⟨_,⟨h1,_⟩,_⟩:=iC h;have:=(h1 i hi).2;unfold IV at this;simp only[aht] at this;exact this.1.2
def LV (d:Int):posOf [] d=[]:=rfl
def La {l:List Ps}(h:dT l=true):ja l []=l:=by
 have h0:VL ([]:PL):=by unfold VL;rfl
 refine Y7 (Y8 h h0) h λd z=>?_;rw[OK h h0,LV];simp
attribute [-simp] getD_eq_getElem?_getD in
theorem QB (s:Sg)(hs:ve s)(f:Int)(w:Bs)(H:List az)(T:au):ar Tryz.prog 82 [jS s,.int .i64 f,.str w] H T (Is (.sl (iO s (f,w)).length (bA (iO s (f,w))) .none) H T):=by
 refine ar.bV ?_ (by simp);have hu:=hs.w;have cv:=λH=>jW s hs H T;have cb:=vF s.bK (f,w) (.sl 0 [] .full) hs.t (H++[.cells (dC s)]) T .none (by simp);have yU:=λh=>ye (s:=s) h;have Rj:=λh i=>Fp (s:=s) h (i:=i);refine ah 12 [] Tryz.ntmps82 Tryz.func82 rfl (λ_ _=>Tryz.call82 _ _) (by simp) (λHO=>?_);apply ae;intro K Z;simp(disch:=omega);apply Z;refine ae λK hK=>?_;simp(disch:=omega) ;refine⟨_,cb,?_⟩;rintro r H' T' ⟨rfl,rfl,i,b,rfl,hi,h1,h2,h3⟩;simp(disch:=omega) ;apply hK;refine af λK1 aO=>?_
 cases b with
 |false=>
  have hf:iO s (f,w)=[]:=by
   unfold iO
   split
   ·rename_i hv;exact HZ (h2 rfl (yU hv))
   ·rfl
  apply ae;intro K Z;simp(disch:=omega);apply Z;apply aG rfl;apply ae;intro K Z;simp(disch:=omega);apply Z;apply ay;simp(disch:=omega) ;simp[hf];rfl
 |true=>
  obtain⟨eN,hik⟩:=h1 rfl
  cases hv:aX s with
  |false=>
   rw[hv] at cv;have hf:iO s (f,w)=[]:=by unfold iO;rw[hv];rfl
   refine ae λK hK=>?_;simp(disch:=omega) ;refine ak (cv _) ?_;simp(disch:=omega) ;apply hK;apply aG rfl;apply ae;intro K Z;simp(disch:=omega);apply Z;apply ay;simp(disch:=omega) ;simp[hf];rfl
  |true=>
   rw[hv] at cv;have hl:=Rj hv i eN;have hf:iO s (f,w)=(s.bK.getD i t0).l:=by unfold iO;rw[ahs hv,P2 (yU hv) eN hik]
   have jv:=(Td s.bK i eN).2.2;obtain⟨_,q2,q3⟩:=hu _ (aS s.bK i t0 eN);have cu:=λH=>DP (s.bK.getD i t0).l [] q2 (by simp) q3 (by simp) H T' .none .full;rw[La hl] at cu;refine ae λK hK=>?_;simp(disch:=omega) ;refine ak (cv _) ?_;simp(disch:=omega) ;apply hK;apply aD rfl;apply aq;simp(disch:=omega) ;apply aO;clear aO;refine ae λK hK=>?_;simp(disch:=omega)[jv,gC,eN];refine ak (cu _) ?_;simp(disch:=omega) ;apply hK;apply ay;simp(disch:=omega) ;exact⟨by rw[hf],by rw[hf]⟩
def mK (p w:Bs):Bool:=decide (p.length<=w.length)&&(w.take p.length==p)
attribute [-simp] getD_eq_getElem?_getD in
def Uc (w p:Bs)(hw:w.length<=maxLen)(hp:p.length<=maxLen)(H:List az)(T:au):ar Tryz.prog 157 [.str w,.str p] H T (Is (.bool (mK p w)) H T):=by
 have kH:maxLen<=9223372036854775807:=by decide
 have c:ar Tryz.prog 187 [.str w,.str p] H T (Is (.bool (mK p w)) H T):=by
  generalize hq:mK p w=q;unfold mK at hq;refine ah 5 [] Tryz.ntmps187 Tryz.func187 rfl (λ_ _=>Tryz.call187 _ _) (by simp) (λHO=>?_);apply ae;intro K Z;simp(disch:=omega);apply Z
  by_cases h:p.length<=w.length
  ·have b:decide ((p.length:Int)<=w.length)=true:=ahm (by omega);rw[ahm h,ais] at hq;refine ae λK hK=>?_;simp(disch:=omega)[b,h];apply hK;apply ay;simp(disch:=omega) ;rw[<-hq];exact⟨rfl,rfl,rfl⟩
  ·have b:decide ((p.length:Int)<=w.length)=false:=ahn (by omega);rw[ahn h,Bool.false_and] at hq;refine ae λK hK=>?_;simp(disch:=omega)[b,h];apply hK;apply ay;simp(disch:=omega) ;rw[<-hq];exact⟨rfl,rfl,rfl⟩
 generalize mK p w=q at *;refine ah 5 [] Tryz.ntmps157 Tryz.func157 rfl (λ_ _=>Tryz.call157 _ _) (by simp) (λHO=>?_);apply ae;intro K Z;simp(disch:=omega);apply Z;refine ae λK hK=>?_;simp(disch:=omega) ;refine ak (c) ?_;simp(disch:=omega) ;apply hK;apply ay;simp(disch:=omega) ;exact⟨rfl,rfl,rfl⟩
end Go.Proofs.YtoejlmpbebjemaaGreat
namespace im
def ED (w:wO):Go.Proofs.YtoejlmpbebjemaaGreat.mK [] w=true:=by simp[Go.Proofs.YtoejlmpbebjemaaGreat.mK]
def AB (x y:UInt8)(p w:wO):Go.Proofs.YtoejlmpbebjemaaGreat.mK (x::p) (y::w)=(x==y&&Go.Proofs.YtoejlmpbebjemaaGreat.mK p w):=by
 unfold Go.Proofs.YtoejlmpbebjemaaGreat.mK;rw[ajT];simp only[ahS,List.take_succ_cons,aht,ahv,ajb,List.cons.injEq,Nat.add_le_add_iff_right]
 constructor
 ·rintro⟨h1,h2,h3⟩;exact⟨h2.symm,h1,h3⟩
 ·rintro⟨h1,h2,h3⟩;exact⟨h2,h1.symm,h3⟩
def xC (x y:UInt8)(p w:wO):slt (x::p) (y::w)=(decide (x<y)||(x==y&&slt p w)):=rfl
def BJ (p:wO):slt p []=false:=by cases p<;>rfl
def DY (x:UInt8)(p:wO):slt [] (x::p)=true:=rfl
theorem EC:∀(p w:wO),slt w p=true->Go.Proofs.YtoejlmpbebjemaaGreat.mK p w=false
 |[],w,h=>by rw[BJ] at h;cases h
 |x::p,[],h=>by simp[Go.Proofs.YtoejlmpbebjemaaGreat.mK]
 |x::p,y::w,h=>by
  rw[xC] at h;rw[AB];simp only[aic,ahv,aht,ajb] at h;rcases h with h|⟨_,h⟩
  ·have:(x==y)=false:=by
    rw[ah5];rintro rfl;exact absurd h (UInt8.lt_irrefl _)
   rw[this];rfl
  ·rw[EC p w h,Bool.and_false]
theorem tQ:∀(p w v:wO),slt w p=false->slt w v=true->Go.Proofs.YtoejlmpbebjemaaGreat.mK p v=true->Go.Proofs.YtoejlmpbebjemaaGreat.mK p w=true
 |[],w,v,_,_,_=>ED w
 |x::p,[],v,h,_,_=>by rw[DY] at h;cases h
 |x::p,y::w,[],_,_,h=>by simp[Go.Proofs.YtoejlmpbebjemaaGreat.mK] at h
 |x::p,y::w,z::v,h1,h2,h3=>by
  rw[xC] at h1 h2;rw[AB] at h3 ⊢;simp only[ajI,aiD,ajD,ah5,aic,ahv,aht,ajb] at h1 h2 h3 ⊢;obtain⟨rfl,h3⟩:=h3;rcases h2 with h2|⟨rfl,h2⟩
  ·exact absurd h2 h1.1
  ·refine⟨rfl,tQ p w v ?_ h2 h3⟩;rcases h1.2 with h|h
   ·exact absurd rfl h
   ·simpa using h
end im
namespace Go.Proofs.YtoejlmpbebjemaaGreat
open Go Go.Am im eT cL
def jB (f:Int)(p:Bs)(t:Tm):Bool:=decide (t.f=f)&&mK p t.w
def uj (l:List Tm)(f:Int)(p:Bs):List Bs:=(l.filter (jB f p)).map (·.w)
def gZ (s:Sg)(f:Int)(p:Bs):List Bs:=if aX s=true then uj s.bK f p else []
def FI {f:Int}{p:Bs}{t:Tm}(h:bP t.k (f,p)=true):jB f p t=false:=by
 unfold jB;unfold bP at h;simp only[aic,ahv,aht] at h;rcases h with h|⟨h1,h2⟩
 ·rw[ahn (by omega)];rfl
 ·rw[EC _ _ h2,Bool.and_false]
def za {f:Int}{p:Bs}{t u:Tm}(h1:bP t.k (f,p)=false)(h2:bP t.k u.k=true)(h3:jB f p u=true):jB f p t=true:=by
 unfold jB at h3 ⊢;unfold bP at h1 h2;simp only[aic,ahv,aht,ajI,aiD,ajD] at h1 h2 h3 ⊢;obtain⟨e,h3⟩:=h3;rcases h2 with h2|⟨h2,h4⟩
 ·omega
 ·refine⟨by omega,tQ p t.w u.w ?_ h4 h3⟩;rcases h1.2 with h|h
  ·omega
  ·simpa using h
def FO {l:List Tm}{M:Tm->Bool}{i j:Nat}(hij:i+j<=l.length)(h1:∀m,m<i->M (l.getD m t0)=false)(h2:∀m,m<j->M (l.getD (i+m) t0)=true)(h3:∀m,i+j<=m->m<l.length->M (l.getD m t0)=false) :
  l.filter M=(l.drop i).take j:=by
 have e:l=l.take i++((l.drop i).take j++l.drop (i+j)):=by
  rw[<-List.drop_drop,ahM,ahM]
 conv=>lhs;rw[e]
 rw[ah8,ah8];have a1:(l.take i).filter M=[]:=by
  rw[aiW];intro x hx;obtain⟨k,hk,rfl⟩:=bH t0 hx;rw[ahJ] at hk;have:(l.take i).getD k t0=l.getD k t0:=by simp[ahg,ah9,show k<i by omega]
  rw[this,h1 k (by omega)];simp
 have a2:(l.drop (i+j)).filter M=[]:=by
  rw[aiW];intro x hx;obtain⟨k,hk,rfl⟩:=bH t0 hx;rw[ah4] at hk;have:(l.drop (i+j)).getD k t0=l.getD (i+j+k) t0:=by simp[ahg,aiX]
  rw[this,h3 _ (by omega) (by omega)];simp
 have a3:((l.drop i).take j).filter M=(l.drop i).take j:=by
  rw[aiT];intro x hx;obtain⟨k,hk,rfl⟩:=bH t0 hx;rw[ahJ,ah4] at hk;have:((l.drop i).take j).getD k t0=l.getD (i+k) t0:=by simp[ahg,ah9,aiX,show k<j by omega]
  rw[this,h2 _ (by omega)]
 rw[a1,a2,a3];simp
theorem He {l:List Tm}{f:Int}{p:Bs}{i j:Nat}(ho:Dk l)(hij:i+j<=l.length)(h1:∀m,m<i->bP (l.getD m t0).k (f,p)=true)(h2:∀m,i<=m->m<l.length->bP (l.getD m t0).k (f,p)=false)
  (h3:∀m,m<j->jB f p (l.getD (i+m) t0)=true) (h4:i+j<l.length->jB f p (l.getD (i+j) t0)=false):uj l f p=((l.drop i).take j).map (·.w):=by
 unfold uj;rw[FO hij (λm hm=>FI (h1 m hm)) h3];intro m Ro Rn;rcases ahr (i+j) m with h|h
 ·cases hc:jB f p (l.getD m t0) with
  |false=>rfl
  |true=>
   have:=za (h2 (i+j) (by omega) (by omega)) (ho (i+j) m h Rn) hc;rw[h4 (by omega)] at this
   cases this
 ·have:m=i+j:=by omega
  subst this;exact h4 Rn
theorem KO (s : Sg) (hs : ve s) (f : Int) (p : Bs) (hp : p.length <= maxLen) (H : List az) (T : au) : ar Tryz.prog 94 [jS s, .int .i64 f, .str p] H T (Is (.sl (gZ s f p).length (strs (gZ s f p)) .none) H T) := by
  refine ar.bV ?_ (by simp);have cv := λH => jW s hs H T;have cb := vF s.bK (f, p) (.sl 0 [] .full) hs.t (H ++ [.cells (dC s)]) T .none (by simp);have yU := λh => ye (s := s) h;have hw := hs.w;have vL := hs.t;refine ah 31 [] Tryz.ntmps94 Tryz.func94 rfl (λ_ _ => Tryz.call94 _ _) (by simp) (λHO => ?_);refine ae λK hK => ?_; simp (maxSteps := 1000000) (disch := omega) [-getD_eq_getElem?_getD]; refine hK _ ?_; clear hK K;refine ae λK hK => ?_; simp (maxSteps := 1000000) (disch := omega) [-getD_eq_getElem?_getD]; refine hK _ ?_; clear hK K;refine af λK1 aO => ?_;have ff : bJ (H ++ [.cells (dC s)]) T := HO.snoc (by simp)
  cases hv : aX s with
  | false =>
    rw [hv] at cv
    have hf : gZ s f p = [] := by unfold gZ; rw [hv]; rfl
    refine ae λK hK => ?_; simp (maxSteps := 1000000) (disch := omega) [-getD_eq_getElem?_getD]
    refine ak (cv _) ?_; simp (maxSteps := 1000000) (disch := omega) [-getD_eq_getElem?_getD]
    refine hK _ ?_; clear hK K
    refine aT rfl (λh => ?_) (λh => absurd h (by simp))
    refine ae λK hK => ?_; simp (maxSteps := 1000000) (disch := omega) [-getD_eq_getElem?_getD]; refine hK _ ?_; clear hK K
    apply ay; simp (maxSteps := 1000000) (disch := omega) [-getD_eq_getElem?_getD]
    simp [hf]
  | true =>
  rw [hv] at cv;have hf : gZ s f p = uj s.bK f p := by unfold gZ; rw [ahs hv]
  have ho := yU hv;refine ae λK hK => ?_; simp (maxSteps := 1000000) (disch := omega) [-getD_eq_getElem?_getD];refine ak (cv _) ?_; simp (maxSteps := 1000000) (disch := omega) [-getD_eq_getElem?_getD];refine hK _ ?_; clear hK K;refine aT rfl (λh => absurd h (by simp)) (λh => ?_);apply aq; simp (maxSteps := 1000000) (disch := omega) [-getD_eq_getElem?_getD];refine aO _ ?_; clear aO;refine ae λK hK => ?_; simp (maxSteps := 1000000) (disch := omega) [-getD_eq_getElem?_getD];refine ⟨_, cb, ?_⟩;rintro r H' T' ⟨rfl, rfl, i, b, rfl, hi, h1, h2, h3⟩;simp (maxSteps := 1000000) (disch := omega) [-getD_eq_getElem?_getD];refine hK _ ?_; clear hK K;refine af λK1 aO => ?_;obtain ⟨h4, h5⟩ := h3 ho;have hdr := Lc s.bK i;have zz : (s.bK.drop i).length = s.bK.length - i := ah4;have iH : List.take ((s.bK.length - i) * 3) (dx (s.bK.drop i)) = dx (s.bK.drop i) := aiV (by rw [gC, zz]; omega);have hDg : ∀ m, (s.bK.drop i).getD m t0 = s.bK.getD (i + m) t0 := λm => by simp [ahg, aiX]
  refine ae λK hK => ?_; simp (maxSteps := 1000000) (disch := omega) [-getD_eq_getElem?_getD, hdr, gC, hi, iH]; refine hK _ ?_; clear hK K;rw [<- zz];have Vd : ∀ j, j <= (s.bK.drop i).length -> (∀ m, m < j -> jB f p (s.bK.getD (i + m) t0) = true) -> (j < (s.bK.drop i).length -> jB f p (s.bK.getD (i + j) t0) = false) -> gZ s f p = ((s.bK.drop i).take j).map (·.w) := λj j1 j2 j3 => by
    rw [hf];exact He ho (by omega) h4 h5 j2 (λh => j3 (by omega))
  have hwd : ∀ m, m < (s.bK.drop i).length -> (s.bK.getD (i + m) t0).w.length <= maxLen := λm hm => (hw _ (aS _ _ _ (by omega))).1;have ahe : (s.bK.drop i).length <= 1000 := by omega
  clear hf cv cb yU hw vL h1 h2 h3 h4 h5 hdr iH;generalize hD : s.bK.drop i = D at *;generalize gZ s f p = res at *;apply aj;refine m9 7 0 1 [] (by omega) (by simp) ?_;refine aI (X := Nat) (λj => ⟨[(1, .int .i64 f), (2, .str p), (7, .sl j (strs ((D.map (·.w)).take j)) (.own T'.length)), (28, .sl D.length (dx D) .none), (29, .int .i64 (D.length : Nat)), (30, .int .i64 (j : Nat))], H ++ [.cells (dC s)], T' ++ [(j, 1)]⟩)
    (λj => j <= D.length /\ ∀ m, m < j -> jB f p (s.bK.getD (i + m) t0) = true) (λj => D.length - j) 0 ?_ ?_ ?_
  · exact ⟨ahu _, λj hj => absurd hj (ahO _)⟩
  · refine ag [] [] ?_ ?_ ?_ ?_ (ff.kC (by simp)) ?_
    all_goals simp
  · rintro j ⟨g1, g2⟩;have Zk : ∀ m, m < j + 1 -> m < j \/ m = j := λm hm => by omega
    refine ae λK hK => ?_; simp (maxSteps := 1000000) (disch := omega) [-getD_eq_getElem?_getD]; refine hK _ ?_; clear hK K;refine af λK2 bc => ?_;refine aT rfl (λhk => ?_) (λhk => ?_)
    · simp [-getD_eq_getElem?_getD] at hk;have hcut := nJ D j hk;have vL : (strs ((D.map (·.w)).take j)).length = j := by simp; omega
      have iH : strs ((D.map (·.w)).take j) ++ [.str (D.getD j t0).w] = strs ((D.map (·.w)).take (j + 1)) := by rw [Lh, <- map_take, <- map_take, aU D j t0 hk]; simp
      have sr := hwd j hk;rw [<- hDg j] at sr;have hm : jB f p (s.bK.getD (i + j) t0) = (decide ((D.getD j t0).f = f) && mK p (D.getD j t0).w) := by rw [<- hDg j]; rfl
      generalize D.getD j t0 = t at *;obtain ⟨tf, tw, tl⟩ := t;simp only at hcut iH sr hm;have Bl : ∀ r, res = r -> r = (D.take j).map (·.w) -> j = res.length /\ strs ((D.map (·.w)).take j) = strs res := λr e1 e2 => by rw [e1, e2, map_take]; exact ⟨by simp; omega, rfl⟩
      have ZA : aK (H.length + 2) (T'.length + 1) (strs ((D.map (·.w)).take j)) := by simp
      generalize strs ((D.map (·.w)).take j) = out at *;apply aq; simp (maxSteps := 1000000) (disch := omega) [-getD_eq_getElem?_getD];refine bc _ ?_; clear bc;refine af λK3 bD => ?_;apply aj;refine ae λK hK => ?_; simp (maxSteps := 1000000) (disch := omega) [-getD_eq_getElem?_getD, hcut, gC]; refine hK _ ?_; clear hK K;have fx : bJ (H ++ [.cells (dC s), .cells (ph ⟨tf, tw, tl⟩)]) (T' ++ [(j, 1)]) := by
        have := (bJ.snoc (vs := ph ⟨tf, tw, tl⟩) ff (by simp)).kC (T' := T' ++ [(j, 1)]) (by simp);simpa using this
      refine af λK4 lN => ?_;have c := Uc tw p sr hp (H ++ [.cells (dC s), .cells (ph ⟨tf, tw, tl⟩)]) (T' ++ [(j, 1)]);have stop : ∀ e, jB f p (s.bK.getD (i + j) t0) = false -> bu (H.length + 2) (T'.length + 1) e [(7, .sl j out (.own T'.length))] -> K1 ⟨e, H ++ [.cells (dC s), .cells (ph ⟨tf, tw, tl⟩)], T' ++ [(j, 1)]⟩ := by
        intro e hmf he;have hr := Vd j g1 g2 (λ_ => hmf);refine aO _ (aH ⟨[(7, .sl j out (.own T'.length))], H ++ [.cells (dC s), .cells (ph ⟨tf, tw, tl⟩)], T' ++ [(j, 1)]⟩ (ag [] [] (by simp) (by simp) (by simp) (by simp) fx (by simpa using he)) ?_);refine ae λK hK => ?_; simp (maxSteps := 1000000) (disch := omega) [-getD_eq_getElem?_getD]; refine hK _ ?_; clear hK K;apply ay; simp (maxSteps := 1000000) (disch := omega) [-getD_eq_getElem?_getD];exact Bl _ rfl hr
      by_cases hf : tf = f
      · subst hf;rw [ahm rfl, ais] at hm
        cases hpp : mK p tw with
        | false =>
          rw [hpp] at c hm
          refine ae λK hK => ?_; simp (maxSteps := 1000000) (disch := omega) [-getD_eq_getElem?_getD]
          refine ak (c) ?_; simp (maxSteps := 1000000) (disch := omega) [-getD_eq_getElem?_getD]
          refine hK _ ?_; clear hK K
          refine aT rfl (λh => ?_) (λh => absurd h (by simp))
          apply aF; simp (maxSteps := 1000000) (disch := omega) [-getD_eq_getElem?_getD]
          refine stop _ hm ?_
          simp [ZA]
        | true =>
          rw [hpp] at c hm
          refine ae λK hK => ?_; simp (maxSteps := 1000000) (disch := omega) [-getD_eq_getElem?_getD]
          refine ak (c) ?_; simp (maxSteps := 1000000) (disch := omega) [-getD_eq_getElem?_getD]
          refine hK _ ?_; clear hK K
          refine aT rfl (λh => absurd h (by simp)) (λh => ?_)
          apply aq; simp (maxSteps := 1000000) (disch := omega) [-getD_eq_getElem?_getD]
          refine lN _ ?_; clear lN
          refine aB λK hK => ?_; simp (maxSteps := 1000000) (disch := omega) [-getD_eq_getElem?_getD, vL, iH]
          refine hK _ ?_; clear hK K
          refine bD _ ?_; clear bD
          refine aB λK hK => ?_; simp (maxSteps := 1000000) (disch := omega) [-getD_eq_getElem?_getD]
          refine hK _ ?_; clear hK K
          refine ⟨j + 1, ⟨by show j + 1 <= _; omega, λm Rn => ?_⟩, by show D.length - (j + 1) < D.length - j; omega, ?_⟩
          · rcases Zk m Rn with h | rfl
            · exact g2 m h
            · exact hm
          · refine ag [.cells (ph ⟨tf, tw, tl⟩)] [] ?_ ?_ ?_ ?_ (ff.kC (by simp)) ?_
            all_goals simp
      · have b1 : (tf != f) = true := by simp [hf]
        rw [ahn hf, Bool.false_and] at hm;refine ae λK hK => ?_; simp (maxSteps := 1000000) (disch := omega) [-getD_eq_getElem?_getD, b1, hf];refine hK _ ?_; clear hK K;refine aT rfl (λh => ?_) (λh => absurd h (by simp));apply aF; simp (maxSteps := 1000000) (disch := omega) [-getD_eq_getElem?_getD];refine stop _ hm ?_;simp [ZA]
    · simp [-getD_eq_getElem?_getD] at hk;have hj : j = D.length := by omega
      have hr := Vd j g1 g2 (λh => by omega);apply aF; simp (maxSteps := 1000000) (disch := omega) [-getD_eq_getElem?_getD];refine aO _ ?_; clear aO;refine ae λK hK => ?_; simp (maxSteps := 1000000) (disch := omega) [-getD_eq_getElem?_getD]; refine hK _ ?_; clear hK K;apply ay; simp (maxSteps := 1000000) (disch := omega) [-getD_eq_getElem?_getD];rw [hr, map_take];exact ⟨by simp; omega, rfl⟩
end Go.Proofs.YtoejlmpbebjemaaGreat
