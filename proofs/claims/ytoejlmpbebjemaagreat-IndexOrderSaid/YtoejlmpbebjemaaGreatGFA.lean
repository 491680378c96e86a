/- Searching among terms (layer 39). segment.Find (layer 39): what it answers; strings.HasPrefix. segment.Words (layer 39).
  Conditions: lengths below 1000 or 1000, as each theorem says. -/
import Derived.Test.YtoejlmpbebjemaaGreatGV
import Derived.Test.YtoejlmpbebjemaaGreatPZ
set_option linter.all false
set_option maxRecDepth 100000
set_option maxHeartbeats 8000000
open List (getD_eq_getElem?_getD map_take)
namespace Go.Am
open Go
def ar.ZL {P:Program}{f:FuncId}{args:List AV}{H:List aA}{T:au}{R:AV->Prop}(hb:∀r,R r->Below H.length T.length r)
  (h:ar P f args H T (λr H' T'=>(∃rH,H'=H++rH)/\(∃rT,T'=T++rT)/\R r)):ar P f args H T (λr H' T'=>H'=H/\T'=T/\R r):=by
 refine⟨h.1,λL w ca hc jJ hr=>(h.2 L w ca hc jJ hr).mono ?_⟩;rintro e w' ⟨r',H',T',L',cv,⟨⟨rH,e1⟩,⟨rT,e2⟩,e3⟩,rfl,cR,dG,dB⟩;subst e1;subst e2;refine⟨_,H,T,L',cv,⟨rfl,rfl,e3⟩,rfl,cg.front P cR hc.jC,?_,dB.front (agE _) (agE _)⟩;have:=dG.drop (hb _ e3);simpa using this
end Go.Am
namespace Go.Proofs.YtoejlmpbebjemaaGreat
open Go Go.Am ia eN cO
def CR (l:List Tm):Prop:=∀i j,i<j->j<l.length->bT (l.getD i t0).k (l.getD j t0).k=true
theorem Pe {l:List Tm}(h:∀i,0<i->i<l.length->bT (l.getD (i-1) t0).k (l.getD i t0).k=true):CR l:=by
 intro i j jz hj
 induction j with
 |zero=>omega
 |succ j ih=>
  have h1:=h (j+1) (by omega) hj;rw[show j+1-1=j by omega] at h1;rcases agM i j with h2|h2
  ·exact gW (ih h2 (by omega)) h1
  ·have:i=j:=by omega
   subst this;exact h1
def UA (l:List Tm)(k:Ky)(r:AV):Prop:=∃(i:Nat) (b:Bool),r=.df [.int .i64 (i:Nat),.bool b]/\i<=l.length/\
 (b=true->i<l.length/\(l.getD i t0).k=k)/\(b=false->CR l->∀j,j<l.length->(l.getD j t0).k≠k)/\(CR l->(∀j,j<i->bT (l.getD j t0).k k=true)/\∀j,i<=j->j<l.length->bT (l.getD j t0).k k=false)
def ZW (l:List Tm)(k:Ky)(H:List aA)(T:au):AV->List aA->au->Prop:=λr H' T'=>H'=H/\T'=T/\UA l k r
def we {a b:Ky}(h:bT a b=true):a≠b:=λe=>by rw[e,jg] at h;cases h
attribute [-simp] getD_eq_getElem?_getD in
theorem vv (l:List Tm)(k:Ky)(u:AV)(hl:l.length<=1000)(H:List aA)(T:au)(tg:Tag)(hu:Below H.length T.length u) :
  ar Tryz.prog 149 [.sl l.length (du l) tg,.agg [.int .i64 k.1,.str k.2,u],.fn 111 [] []] H T (ZW l k H T):=by
 refine ar.cF ?_;have hR:∀r,UA l k r->Below H.length T.length r:=by
  rintro r ⟨i,b,rfl,_⟩;simp
 refine ar.ZL hR ?_;refine ah 12 [] Tryz.ntmps149 Tryz.func149 rfl (λ_ _=>Tryz.call149 _ _) (by simp) (λHO=>?_);apply ae;intro K Z;simp(disch:=omega);apply Z;have eV:bN (H++[.cells [.int .i64 k.1,.str k.2,u]]) T:=HO.snoc (by simp;exact hu.more (by omega) (by omega));apply ae;intro K Z;simp(disch:=omega);apply Z;apply ae;intro K Z;simp(disch:=omega);apply Z;refine af λK1 aP=>?_;apply aj;refine aJ (X:=Nat×Nat) (λx=>⟨[(0,.sl l.length (du l) .none),(2,.fn 111 [] []),(4,.ptr H.length 0),(8,.int .i64 (l.length:Nat)),(9,.int .i64 (x.1:Nat)),(10,.int .i64 (x.2:Nat))],H++[.cells [.int .i64 k.1,.str k.2,u]],T⟩)
  (λx=>x.1<=x.2/\x.2<=l.length/\(CR l->(∀j,j<x.1->bT (l.getD j t0).k k=true)/\(∀j,x.2<=j->j<l.length->bT (l.getD j t0).k k=false))) (λx=>x.2-x.1) (0,l.length) ?_ ?_ ?_
 ·exact⟨agP _,agE _,λ_=>⟨λj hj=>absurd hj (ag9 _),λj h1 h2=>absurd h2 (Nat.not_lt.2 h1)⟩⟩
 ·refine ag [] [] ?_ ?_ ?_ ?_ eV ?_
  all_goals simp
 ·rintro⟨lo,hi⟩ ⟨h1,h2,h3⟩;simp only at h1 h2 h3;refine af λK2 bp=>?_;apply ae;intro K Z;simp(disch:=omega);apply Z;refine aU rfl (λhk=>?_) (λhk=>?_)
  ·simp  at hk;have hm:(lo+hi) / 2<l.length:=by omega
   have bu:=nG l ((lo+hi) / 2) hm;apply aq;simp(disch:=omega) ;apply bp;clear bp;apply aj;apply ae;intro K Z;simp(disch:=omega);apply Z;rw[show ((lo:Int)+hi) / 2=(((lo+hi) / 2:Nat):Int) by omega];have od:lo<=(lo+hi) / 2:=by omega
   have aZ:(lo+hi) / 2<hi:=by omega
   generalize (lo+hi) / 2=m at *;have c:=qB (l.getD m t0).k k (.sl (l.getD m t0).l.length (bD (l.getD m t0).l) .none) u (H++[.cells [.int .i64 k.1,.str k.2,u]]) T
   by_cases hc:bT (l.getD m t0).k k=true
   ·have A6:=(tt (l.getD m t0).k k).2 hc;generalize rF (l.getD m t0).k k=q at *;have bq:decide (q<0)=true:=agH A6;refine aK [] [] [] aw (by kernel_rfl) (by kernel_rfl) λK hK=>?_;simp(disch:=omega)[bu,gk];refine aD (c) rfl ?_;simp(disch:=omega)[bq,A6];apply hK;apply aH rfl;refine aC λK hK=>?_;simp(disch:=omega) ;apply hK;refine⟨(m+1,hi),⟨by show m+1<=hi;omega,h2,λhv=>⟨λj hj=>?_,(h3 hv).2⟩⟩,by show hi-(m+1)<hi-lo;omega,?_⟩
    ·rcases agM j m with h5|h5
     ·exact gW (hv _ _ h5 hm) hc
     ·have:j=m:=by omega
      subst this;exact hc
    ·refine ag [] [] ?_ ?_ ?_ ?_ eV ?_
     all_goals simp
   ·have A6:¬rF (l.getD m t0).k k<0:=λh=>hc ((tt _ _).1 h);generalize rF (l.getD m t0).k k=q at *;have bq:decide (q<0)=false:=agI A6;refine aK [] [] [] aw (by kernel_rfl) (by kernel_rfl) λK hK=>?_;simp(disch:=omega)[bu,gk];refine aD (c) rfl ?_;simp(disch:=omega)[bq,A6];apply hK;apply aF rfl;refine aC λK hK=>?_;simp(disch:=omega) ;apply hK;refine⟨(lo,m),⟨od,by show m<=l.length;omega,λhv=>⟨(h3 hv).1,λj hj yy=>?_⟩⟩,by show m-lo<hi-lo;omega,?_⟩
    ·rcases agM m j with h5|h5
     ·cases hs:bT (l.getD j t0).k k with
      |false=>rfl
      |true=>exact absurd (gW (hv _ _ h5 yy) hs) hc
     ·have:j=m:=by omega
      subst this;simpa using hc
    ·refine ag [] [] ?_ ?_ ?_ ?_ eV ?_
     all_goals simp
  ·simp  at hk;have e:hi=lo:=by omega
   subst e;apply aG;simp(disch:=omega) ;apply aP;clear aP
   by_cases hn:hi<l.length
   ·have bu:=nG l hi hn;have c:=qB (l.getD hi t0).k k (.sl (l.getD hi t0).l.length (bD (l.getD hi t0).l) .none) u (H++[.cells [.int .i64 k.1,.str k.2,u]]) T
    by_cases he:(l.getD hi t0).k=k
    ·rw[(AA _ _).2 he] at c;refine aK [] [] [] aw (by kernel_rfl) (by kernel_rfl) λK hK=>?_;simp(disch:=omega)[bu,gk,hn];refine aD (c) rfl ?_;simp(disch:=omega) ;apply hK;apply az;simp(disch:=omega) ;exact⟨hi,true,rfl,by omega,λ_=>⟨hn,he⟩,λh=>(by cases h),h3⟩
    ·have hz:¬rF (l.getD hi t0).k k=0:=λh=>he ((AA _ _).1 h);generalize rF (l.getD hi t0).k k=q at *;have bq:(q==0)=false:=by simpa using hz
     refine aK [] [] [] aw (by kernel_rfl) (by kernel_rfl) λK hK=>?_;simp(disch:=omega)[bu,gk,hn];refine aD (c) rfl ?_;simp(disch:=omega)[bq,hz];apply hK;apply az;simp(disch:=omega) ;refine⟨hi,false,rfl,by omega,λh=>(by cases h),λ_ hv j hj Qx=>?_,h3⟩;rcases ah6 j hi with h5|h5|h5
     ·exact we ((h3 hv).1 j h5) Qx
     ·subst h5;exact he Qx
     ·have h6:=(h3 hv).2 hi (agE _) hn;have h7:=hv _ _ h5 hj;rw[Qx,h6] at h7
      cases h7
   ·have bn:decide ((hi:Int)<l.length)=false:=by simp;omega
    refine aK [] [] [] aw (by kernel_rfl) (by kernel_rfl) λK hK=>?_;simp(disch:=omega)[bn,hn];apply hK;apply az;simp(disch:=omega) ;refine⟨hi,false,rfl,by omega,λh=>(by cases h),λ_ hv j hj Qx=>?_,h3⟩;exact we ((h3 hv).1 j (by omega)) Qx
def zz (l:List Tm)(k:Ky):List Ps:=((l.find? λt=>decide (t.k=k)).map (·.l)).getD []
def iH (s:Sg)(k:Ky):List Ps:=if aY s=true then zz s.bO k else []
def He {l:List Tm}{k:Ky}(h:∀j,j<l.length->(l.getD j t0).k≠k):zz l k=[]:=by
 unfold zz;rw[ahT.2]
 ·rfl
 ·intro t ht;obtain⟨j,hj,rfl⟩:=bK t0 ht;simpa using h j hj
def Pc {l:List Tm}(h:CR l){i j:Nat}(hi:i<l.length)(hj:j<l.length)(he:(l.getD i t0).k=(l.getD j t0).k):i=j:=by
 rcases ah6 i j with h1|h1|h1
 ·exact absurd he (we (h i j h1 hj))
 ·exact h1
 ·exact absurd he.symm (we (h j i h1 hi))
theorem O6 {l:List Tm}{k:Ky}{i:Nat}(h:CR l)(hi:i<l.length)(hk:(l.getD i t0).k=k):zz l k=(l.getD i t0).l:=by
 unfold zz
 cases hf:l.find? λt=>decide (t.k=k) with
 |none=>exact absurd hk (by simpa using ahT.1 hf _ (aT l i t0 hi))
 |some t=>
  have h1:=aiV hf;obtain⟨j,hj,rfl⟩:=bK t0 (ahP hf);have h2:(l.getD j t0).k=k:=by simpa using h1
  have:i=j:=Pc h hi hj (hk.trans h2.symm);subst this;rfl
def xT {s:Sg}(h:aY s=true):CR s.bO:=by
 obtain⟨_,⟨h1,_⟩,_⟩:=ir h;refine Pe λi h0 hi=>?_;have:=(h1 i hi).1;unfold rz at this;simp only[agO,ahx,agQ] at this;rcases this.2 with h2|h2
 ·omega
 ·exact h2
def ET {s:Sg}(h:aY s=true){i:Nat}(hi:i<s.bO.length):dS (s.bO.getD i t0).l=true:=by
 obtain⟨_,⟨h1,_⟩,_⟩:=ir h;have:=(h1 i hi).2;unfold H4 at this;simp only[agO] at this;exact this.1.2
def K8 (d:Int):posOf [] d=[]:=rfl
def Kg {l:List Ps}(h:dS l=true):iU l []=l:=by
 have h0:VL ([]:PL):=by unfold VL;rfl
 refine Yo (Yp h h0) h λd z=>?_;rw[NQ h h0,K8];simp
attribute [-simp] getD_eq_getElem?_getD in
theorem PI (s:Sg)(hs:uX s)(f:Int)(w:Bs)(H:List aA)(T:au):ar Tryz.prog 82 [jM s,.int .i64 f,.str w] H T (Is (.sl (iH s (f,w)).length (bD (iH s (f,w))) .none) H T):=by
 refine ar.bZ ?_ (by simp);have hu:=hs.w;have cv:=λH=>jQ s hs H T;have cb:=vv s.bO (f,w) (.sl 0 [] .full) hs.t (H++[.cells (dA s)]) T .none (by simp);have yJ:=λh=>xT (s:=s) h;have Qq:=λh i=>ET (s:=s) h (i:=i);refine ah 12 [] Tryz.ntmps82 Tryz.func82 rfl (λ_ _=>Tryz.call82 _ _) (by simp) (λHO=>?_);apply ae;intro K Z;simp(disch:=omega);apply Z;refine ae λK hK=>?_;simp(disch:=omega) ;refine⟨_,cb,?_⟩;rintro r H' T' ⟨rfl,rfl,i,b,rfl,hi,h1,h2,h3⟩;simp(disch:=omega) ;apply hK;refine af λK1 aP=>?_
 cases b with
 |false=>
  have hf:iH s (f,w)=[]:=by
   unfold iH
   split
   ·rename_i hv;exact He (h2 rfl (yJ hv))
   ·rfl
  apply ae;intro K Z;simp(disch:=omega);apply Z;apply aH rfl;apply ae;intro K Z;simp(disch:=omega);apply Z;apply az;simp(disch:=omega) ;simp[hf];rfl
 |true=>
  obtain⟨eH,UX⟩:=h1 rfl
  cases hv:aY s with
  |false=>
   rw[hv] at cv;have hf:iH s (f,w)=[]:=by unfold iH;rw[hv];rfl
   refine ae λK hK=>?_;simp(disch:=omega) ;refine ak (cv _) ?_;simp(disch:=omega) ;apply hK;apply aH rfl;apply ae;intro K Z;simp(disch:=omega);apply Z;apply az;simp(disch:=omega) ;simp[hf];rfl
  |true=>
   rw[hv] at cv;have hl:=Qq hv i eH;have hf:iH s (f,w)=(s.bO.getD i t0).l:=by unfold iH;rw[agN hv,O6 (yJ hv) eH UX]
   have jl:=(R7 s.bO i eH).2.2;obtain⟨_,q2,q3⟩:=hu _ (aT s.bO i t0 eH);have cu:=λH=>Dm (s.bO.getD i t0).l [] q2 (by simp) q3 (by simp) H T' .none .full;rw[Kg hl] at cu;refine ae λK hK=>?_;simp(disch:=omega) ;refine ak (cv _) ?_;simp(disch:=omega) ;apply hK;apply aF rfl;apply aq;simp(disch:=omega) ;apply aP;clear aP;refine ae λK hK=>?_;simp(disch:=omega)[jl,gk,eH];refine ak (cu _) ?_;simp(disch:=omega) ;apply hK;apply az;simp(disch:=omega) ;exact⟨by rw[hf],by rw[hf]⟩
def mC (p w:Bs):Bool:=decide (p.length<=w.length)&&(w.take p.length==p)
attribute [-simp] getD_eq_getElem?_getD in
def S5 (w p:Bs)(hw:w.length<=maxLen)(hp:p.length<=maxLen)(H:List aA)(T:au):ar Tryz.prog 157 [.str w,.str p] H T (Is (.bool (mC p w)) H T):=by
 have kC:maxLen<=9223372036854775807:=by decide
 have c:ar Tryz.prog 187 [.str w,.str p] H T (Is (.bool (mC p w)) H T):=by
  generalize hq:mC p w=q;unfold mC at hq;refine ah 5 [] Tryz.ntmps187 Tryz.func187 rfl (λ_ _=>Tryz.call187 _ _) (by simp) (λHO=>?_);apply ae;intro K Z;simp(disch:=omega);apply Z
  by_cases h:p.length<=w.length
  ·have b:decide ((p.length:Int)<=w.length)=true:=agH (by omega);rw[agH h,ahM] at hq;refine ae λK hK=>?_;simp(disch:=omega)[b,h];apply hK;apply az;simp(disch:=omega) ;rw[<-hq];exact⟨rfl,rfl,rfl⟩
  ·have b:decide ((p.length:Int)<=w.length)=false:=agI (by omega);rw[agI h,Bool.false_and] at hq;refine ae λK hK=>?_;simp(disch:=omega)[b,h];apply hK;apply az;simp(disch:=omega) ;rw[<-hq];exact⟨rfl,rfl,rfl⟩
 generalize mC p w=q at *;refine ah 5 [] Tryz.ntmps157 Tryz.func157 rfl (λ_ _=>Tryz.call157 _ _) (by simp) (λHO=>?_);apply ae;intro K Z;simp(disch:=omega);apply Z;refine ae λK hK=>?_;simp(disch:=omega) ;refine ak (c) ?_;simp(disch:=omega) ;apply hK;apply az;simp(disch:=omega) ;exact⟨rfl,rfl,rfl⟩
end Go.Proofs.YtoejlmpbebjemaaGreat
namespace ia
theorem D8 (w:wD):Go.Proofs.YtoejlmpbebjemaaGreat.mC [] w=true:=by simp[Go.Proofs.YtoejlmpbebjemaaGreat.mC]
def Aq (x y:UInt8)(p w:wD):Go.Proofs.YtoejlmpbebjemaaGreat.mC (x::p) (y::w)=(x==y&&Go.Proofs.YtoejlmpbebjemaaGreat.mC p w):=by
 unfold Go.Proofs.YtoejlmpbebjemaaGreat.mC;rw[ajc];simp only[ahd,List.take_succ_cons,agO,agQ,aiu,List.cons.injEq,Nat.add_le_add_iff_right]
 constructor
 ·rintro⟨h1,h2,h3⟩;exact⟨h2.symm,h1,h3⟩
 ·rintro⟨h1,h2,h3⟩;exact⟨h2,h1.symm,h3⟩
def xi (x y:UInt8)(p w:wD):slt (x::p) (y::w)=(decide (x<y)||(x==y&&slt p w)):=rfl
def Bo (p:wD):slt p []=false:=by cases p<;>rfl
def Du (x:UInt8)(p:wD):slt [] (x::p)=true:=rfl
theorem D7:∀(p w:wD),slt w p=true->Go.Proofs.YtoejlmpbebjemaaGreat.mC p w=false
 |[],w,h=>by rw[Bo] at h;cases h
 |x::p,[],h=>by simp[Go.Proofs.YtoejlmpbebjemaaGreat.mC]
 |x::p,y::w,h=>by
  rw[xi] at h;rw[Aq];simp only[ahx,agQ,agO,aiu] at h;rcases h with h|⟨_,h⟩
  ·have:(x==y)=false:=by
    rw[ahq];rintro rfl;exact absurd h (UInt8.lt_irrefl _)
   rw[this];rfl
  ·rw[D7 p w h,Bool.and_false]
theorem tD:∀(p w v:wD),slt w p=false->slt w v=true->Go.Proofs.YtoejlmpbebjemaaGreat.mC p v=true->Go.Proofs.YtoejlmpbebjemaaGreat.mC p w=true
 |[],w,v,_,_,_=>D8 w
 |x::p,[],v,h,_,_=>by rw[Du] at h;cases h
 |x::p,y::w,[],_,_,h=>by simp[Go.Proofs.YtoejlmpbebjemaaGreat.mC] at h
 |x::p,y::w,z::v,h1,h2,h3=>by
  rw[xi] at h1 h2;rw[Aq] at h3 ⊢;simp only[ai5,ahX,ai1,ahq,ahx,agQ,agO,aiu] at h1 h2 h3 ⊢;obtain⟨rfl,h3⟩:=h3;rcases h2 with h2|⟨rfl,h2⟩
  ·exact absurd h2 h1.1
  ·refine⟨rfl,tD p w v ?_ h2 h3⟩;rcases h1.2 with h|h
   ·exact absurd rfl h
   ·simpa using h
end ia
namespace Go.Proofs.YtoejlmpbebjemaaGreat
open Go Go.Am ia eN cO
def jr (f:Int)(p:Bs)(t:Tm):Bool:=decide (t.f=f)&&mC p t.w
def tY (l:List Tm)(f:Int)(p:Bs):List Bs:=(l.filter (jr f p)).map (·.w)
def gS (s:Sg)(f:Int)(p:Bs):List Bs:=if aY s=true then tY s.bO f p else []
def Fc {f:Int}{p:Bs}{t:Tm}(h:bT t.k (f,p)=true):jr f p t=false:=by
 unfold jr;unfold bT at h;simp only[ahx,agQ,agO] at h;rcases h with h|⟨h1,h2⟩
 ·rw[agI (by omega)];rfl
 ·rw[D7 _ _ h2,Bool.and_false]
def yU {f:Int}{p:Bs}{t u:Tm}(h1:bT t.k (f,p)=false)(h2:bT t.k u.k=true)(h3:jr f p u=true):jr f p t=true:=by
 unfold jr at h3 ⊢;unfold bT at h1 h2;simp only[ahx,agQ,agO,ai5,ahX,ai1] at h1 h2 h3 ⊢;obtain⟨e,h3⟩:=h3;rcases h2 with h2|⟨h2,h4⟩
 ·omega
 ·refine⟨by omega,tD p t.w u.w ?_ h4 h3⟩;rcases h1.2 with h|h
  ·omega
  ·simpa using h
def Fj {l:List Tm}{M:Tm->Bool}{i j:Nat}(jz:i+j<=l.length)(h1:∀m,m<i->M (l.getD m t0)=false)(h2:∀m,m<j->M (l.getD (i+m) t0)=true)(h3:∀m,i+j<=m->m<l.length->M (l.getD m t0)=false) :
  l.filter M=(l.drop i).take j:=by
 have e:l=l.take i++((l.drop i).take j++l.drop (i+j)):=by
  rw[<-List.drop_drop,ag7,ag7]
 conv=>lhs;rw[e]
 rw[aht,aht];have a1:(l.take i).filter M=[]:=by
  rw[aif];intro x hx;obtain⟨k,hk,rfl⟩:=bK t0 hx;rw[ag5] at hk;have:(l.take i).getD k t0=l.getD k t0:=by simp[agB,ahu,show k<i by omega]
  rw[this,h1 k (by omega)];simp
 have a2:(l.drop (i+j)).filter M=[]:=by
  rw[aif];intro x hx;obtain⟨k,hk,rfl⟩:=bK t0 hx;rw[ahp] at hk;have:(l.drop (i+j)).getD k t0=l.getD (i+j+k) t0:=by simp[agB,aii]
  rw[this,h3 _ (by omega) (by omega)];simp
 have a3:((l.drop i).take j).filter M=(l.drop i).take j:=by
  rw[aid];intro x hx;obtain⟨k,hk,rfl⟩:=bK t0 hx;rw[ag5,ahp] at hk;have:((l.drop i).take j).getD k t0=l.getD (i+k) t0:=by simp[agB,ahu,aii,show k<j by omega]
  rw[this,h2 _ (by omega)]
 rw[a1,a2,a3];simp
theorem GD {l:List Tm}{f:Int}{p:Bs}{i j:Nat}(ho:CR l)(jz:i+j<=l.length)(h1:∀m,m<i->bT (l.getD m t0).k (f,p)=true)(h2:∀m,i<=m->m<l.length->bT (l.getD m t0).k (f,p)=false)
  (h3:∀m,m<j->jr f p (l.getD (i+m) t0)=true) (h4:i+j<l.length->jr f p (l.getD (i+j) t0)=false):tY l f p=((l.drop i).take j).map (·.w):=by
 unfold tY;rw[Fj jz (λm hm=>Fc (h1 m hm)) h3];intro m Qu Qt;rcases agM (i+j) m with h|h
 ·cases hc:jr f p (l.getD m t0) with
  |false=>rfl
  |true=>
   have:=yU (h2 (i+j) (by omega) (by omega)) (ho (i+j) m h Qt) hc;rw[h4 (by omega)] at this
   cases this
 ·have:m=i+j:=by omega
  subst this;exact h4 Qt
theorem JU (s : Sg) (hs : uX s) (f : Int) (p : Bs) (hp : p.length <= maxLen) (H : List aA) (T : au) : ar Tryz.prog 94 [jM s, .int .i64 f, .str p] H T (Is (.sl (gS s f p).length (strs (gS s f p)) .none) H T) := by
  refine ar.bZ ?_ (by simp);have cv := λH => jQ s hs H T;have cb := vv s.bO (f, p) (.sl 0 [] .full) hs.t (H ++ [.cells (dA s)]) T .none (by simp);have yJ := λh => xT (s := s) h;have hw := hs.w;have vC := hs.t;refine ah 31 [] Tryz.ntmps94 Tryz.func94 rfl (λ_ _ => Tryz.call94 _ _) (by simp) (λHO => ?_);refine ae λK hK => ?_; simp (maxSteps := 1000000) (disch := omega) [-getD_eq_getElem?_getD]; refine hK _ ?_; clear hK K;refine ae λK hK => ?_; simp (maxSteps := 1000000) (disch := omega) [-getD_eq_getElem?_getD]; refine hK _ ?_; clear hK K;refine af λK1 aP => ?_;have eV : bN (H ++ [.cells (dA s)]) T := HO.snoc (by simp)
  cases hv : aY s with
  | false =>
    rw [hv] at cv
    have hf : gS s f p = [] := by unfold gS; rw [hv]; rfl
    refine ae λK hK => ?_; simp (maxSteps := 1000000) (disch := omega) [-getD_eq_getElem?_getD]
    refine ak (cv _) ?_; simp (maxSteps := 1000000) (disch := omega) [-getD_eq_getElem?_getD]
    refine hK _ ?_; clear hK K
    refine aU rfl (λh => ?_) (λh => absurd h (by simp))
    refine ae λK hK => ?_; simp (maxSteps := 1000000) (disch := omega) [-getD_eq_getElem?_getD]; refine hK _ ?_; clear hK K
    apply az; simp (maxSteps := 1000000) (disch := omega) [-getD_eq_getElem?_getD]
    simp [hf]
  | true =>
  rw [hv] at cv;have hf : gS s f p = tY s.bO f p := by unfold gS; rw [agN hv]
  have ho := yJ hv;refine ae λK hK => ?_; simp (maxSteps := 1000000) (disch := omega) [-getD_eq_getElem?_getD];refine ak (cv _) ?_; simp (maxSteps := 1000000) (disch := omega) [-getD_eq_getElem?_getD];refine hK _ ?_; clear hK K;refine aU rfl (λh => absurd h (by simp)) (λh => ?_);apply aq; simp (maxSteps := 1000000) (disch := omega) [-getD_eq_getElem?_getD];refine aP _ ?_; clear aP;refine ae λK hK => ?_; simp (maxSteps := 1000000) (disch := omega) [-getD_eq_getElem?_getD];refine ⟨_, cb, ?_⟩;rintro r H' T' ⟨rfl, rfl, i, b, rfl, hi, h1, h2, h3⟩;simp (maxSteps := 1000000) (disch := omega) [-getD_eq_getElem?_getD];refine hK _ ?_; clear hK K;refine af λK1 aP => ?_;obtain ⟨h4, h5⟩ := h3 ho;have qc := Ki s.bO i;have zl : (s.bO.drop i).length = s.bO.length - i := ahp;have iz : List.take ((s.bO.length - i) * 3) (du (s.bO.drop i)) = du (s.bO.drop i) := aih (by rw [gk, zl]; omega);have hDg : ∀ m, (s.bO.drop i).getD m t0 = s.bO.getD (i + m) t0 := λm => by simp [agB, aii]
  refine ae λK hK => ?_; simp (maxSteps := 1000000) (disch := omega) [-getD_eq_getElem?_getD, qc, gk, hi, iz]; refine hK _ ?_; clear hK K;rw [<- zl];have Uf : ∀ j, j <= (s.bO.drop i).length -> (∀ m, m < j -> jr f p (s.bO.getD (i + m) t0) = true) -> (j < (s.bO.drop i).length -> jr f p (s.bO.getD (i + j) t0) = false) -> gS s f p = ((s.bO.drop i).take j).map (·.w) := λj j1 j2 j3 => by
    rw [hf];exact GD ho (by omega) h4 h5 j2 (λh => j3 (by omega))
  have hwd : ∀ m, m < (s.bO.drop i).length -> (s.bO.getD (i + m) t0).w.length <= maxLen := λm hm => (hw _ (aT _ _ _ (by omega))).1;have agz : (s.bO.drop i).length <= 1000 := by omega
  clear hf cv cb yJ hw vC h1 h2 h3 h4 h5 qc iz;generalize hD : s.bO.drop i = D at *;generalize gS s f p = res at *;apply aj;refine mX 7 0 1 [] (by omega) (by simp) ?_;refine aJ (X := Nat) (λj => ⟨[(1, .int .i64 f), (2, .str p), (7, .sl j (strs ((D.map (·.w)).take j)) (.own T'.length)), (28, .sl D.length (du D) .none), (29, .int .i64 (D.length : Nat)), (30, .int .i64 (j : Nat))], H ++ [.cells (dA s)], T' ++ [(j, 1)]⟩)
    (λj => j <= D.length /\ ∀ m, m < j -> jr f p (s.bO.getD (i + m) t0) = true) (λj => D.length - j) 0 ?_ ?_ ?_
  · exact ⟨agP _, λj hj => absurd hj (ag9 _)⟩
  · refine ag [] [] ?_ ?_ ?_ ?_ (eV.ko (by simp)) ?_
    all_goals simp
  · rintro j ⟨g1, g2⟩;have YB : ∀ m, m < j + 1 -> m < j \/ m = j := λm hm => by omega
    refine ae λK hK => ?_; simp (maxSteps := 1000000) (disch := omega) [-getD_eq_getElem?_getD]; refine hK _ ?_; clear hK K;refine af λK2 bp => ?_;refine aU rfl (λhk => ?_) (λhk => ?_)
    · simp [-getD_eq_getElem?_getD] at hk;have bu := nG D j hk;have vC : (strs ((D.map (·.w)).take j)).length = j := by simp; omega
      have iz : strs ((D.map (·.w)).take j) ++ [.str (D.getD j t0).w] = strs ((D.map (·.w)).take (j + 1)) := by rw [Kn, <- map_take, <- map_take, aV D j t0 hk]; simp
      have sa := hwd j hk;rw [<- hDg j] at sa;have hm : jr f p (s.bO.getD (i + j) t0) = (decide ((D.getD j t0).f = f) && mC p (D.getD j t0).w) := by rw [<- hDg j]; rfl
      generalize D.getD j t0 = t at *;obtain ⟨tf, tw, tl⟩ := t;simp only at bu iz sa hm;have A5 : ∀ r, res = r -> r = (D.take j).map (·.w) -> j = res.length /\ strs ((D.map (·.w)).take j) = strs res := λr e1 e2 => by rw [e1, e2, map_take]; exact ⟨by simp; omega, rfl⟩
      have YQ : aM (H.length + 2) (T'.length + 1) (strs ((D.map (·.w)).take j)) := by simp
      generalize strs ((D.map (·.w)).take j) = out at *;apply aq; simp (maxSteps := 1000000) (disch := omega) [-getD_eq_getElem?_getD];refine bp _ ?_; clear bp;refine af λK3 bG => ?_;apply aj;refine ae λK hK => ?_; simp (maxSteps := 1000000) (disch := omega) [-getD_eq_getElem?_getD, bu, gk]; refine hK _ ?_; clear hK K;have fj : bN (H ++ [.cells (dA s), .cells (o8 ⟨tf, tw, tl⟩)]) (T' ++ [(j, 1)]) := by
        have := (bN.snoc (vs := o8 ⟨tf, tw, tl⟩) eV (by simp)).ko (T' := T' ++ [(j, 1)]) (by simp);simpa using this
      refine af λK4 lG => ?_;have c := S5 tw p sa hp (H ++ [.cells (dA s), .cells (o8 ⟨tf, tw, tl⟩)]) (T' ++ [(j, 1)]);have stop : ∀ e, jr f p (s.bO.getD (i + j) t0) = false -> bC (H.length + 2) (T'.length + 1) e [(7, .sl j out (.own T'.length))] -> K1 ⟨e, H ++ [.cells (dA s), .cells (o8 ⟨tf, tw, tl⟩)], T' ++ [(j, 1)]⟩ := by
        intro e hmf he;have hr := Uf j g1 g2 (λ_ => hmf);refine aP _ (aI ⟨[(7, .sl j out (.own T'.length))], H ++ [.cells (dA s), .cells (o8 ⟨tf, tw, tl⟩)], T' ++ [(j, 1)]⟩ (ag [] [] (by simp) (by simp) (by simp) (by simp) fj (by simpa using he)) ?_);refine ae λK hK => ?_; simp (maxSteps := 1000000) (disch := omega) [-getD_eq_getElem?_getD]; refine hK _ ?_; clear hK K;apply az; simp (maxSteps := 1000000) (disch := omega) [-getD_eq_getElem?_getD];exact A5 _ rfl hr
      by_cases hf : tf = f
      · subst hf;rw [agH rfl, ahM] at hm
        cases hpp : mC p tw with
        | false =>
          rw [hpp] at c hm
          refine ae λK hK => ?_; simp (maxSteps := 1000000) (disch := omega) [-getD_eq_getElem?_getD]
          refine ak (c) ?_; simp (maxSteps := 1000000) (disch := omega) [-getD_eq_getElem?_getD]
          refine hK _ ?_; clear hK K
          refine aU rfl (λh => ?_) (λh => absurd h (by simp))
          apply aG; simp (maxSteps := 1000000) (disch := omega) [-getD_eq_getElem?_getD]
          refine stop _ hm ?_
          simp [YQ]
        | true =>
          rw [hpp] at c hm
          refine ae λK hK => ?_; simp (maxSteps := 1000000) (disch := omega) [-getD_eq_getElem?_getD]
          refine ak (c) ?_; simp (maxSteps := 1000000) (disch := omega) [-getD_eq_getElem?_getD]
          refine hK _ ?_; clear hK K
          refine aU rfl (λh => absurd h (by simp)) (λh => ?_)
          apply aq; simp (maxSteps := 1000000) (disch := omega) [-getD_eq_getElem?_getD]
          refine lG _ ?_; clear lG
          refine aC λK hK => ?_; simp (maxSteps := 1000000) (disch := omega) [-getD_eq_getElem?_getD, vC, iz]
          refine hK _ ?_; clear hK K
          refine bG _ ?_; clear bG
          refine aC λK hK => ?_; simp (maxSteps := 1000000) (disch := omega) [-getD_eq_getElem?_getD]
          refine hK _ ?_; clear hK K
          refine ⟨j + 1, ⟨by show j + 1 <= _; omega, λm Qt => ?_⟩, by show D.length - (j + 1) < D.length - j; omega, ?_⟩
          · rcases YB m Qt with h | rfl
            · exact g2 m h
            · exact hm
          · refine ag [.cells (o8 ⟨tf, tw, tl⟩)] [] ?_ ?_ ?_ ?_ (eV.ko (by simp)) ?_
            all_goals simp
      · have b1 : (tf != f) = true := by simp [hf]
        rw [agI hf, Bool.false_and] at hm;refine ae λK hK => ?_; simp (maxSteps := 1000000) (disch := omega) [-getD_eq_getElem?_getD, b1, hf];refine hK _ ?_; clear hK K;refine aU rfl (λh => ?_) (λh => absurd h (by simp));apply aG; simp (maxSteps := 1000000) (disch := omega) [-getD_eq_getElem?_getD];refine stop _ hm ?_;simp [YQ]
    · simp [-getD_eq_getElem?_getD] at hk;have hj : j = D.length := by omega
      have hr := Uf j g1 g2 (λh => by omega);apply aG; simp (maxSteps := 1000000) (disch := omega) [-getD_eq_getElem?_getD];refine aP _ ?_; clear aP;refine ae λK hK => ?_; simp (maxSteps := 1000000) (disch := omega) [-getD_eq_getElem?_getD]; refine hK _ ?_; clear hK K;apply az; simp (maxSteps := 1000000) (disch := omega) [-getD_eq_getElem?_getD];rw [hr, map_take];exact ⟨by simp; omega, rfl⟩
end Go.Proofs.YtoejlmpbebjemaaGreat
