/- One operation over abstract values, and that it is what the model does. Regions, calls and whole functions over abstract states. The rules as they are used in a walk, encodings of lists, and the rewriting rules of the walk. Regions that draw their order, over abstract states: the walk goes in the order of the text; what other orders may do is asked beside it. Regions that draw their order: every order comes to what the text's order comes to. Steps that only the abstract states take: what is new is forgotten, a finished row becomes immutable, an empty end gets a token.
  Conditions: as the theorems say. -/
import Derived.Test.YtoejlmpbebjemaaGreatAmA
import Derived.Laws.StructEq
set_option linter.all false

open List (getD_eq_getElem?_getD map_toArray)
namespace Go.Am
open Go
section
variable {P : Program} {L : Lay} {H : List az} {T : au} {w : World}
def bW.TH (h:bW L H T w)(s:List UInt8) :
  ∃L',bW L' (H++[.iter s 0]) T (w.alloc (.stringIter ⟨s.toArray⟩ 0))/\Ev H.length T.length L H.length T w L' (H++[az.iter s 0]).length T (w.alloc (.stringIter ⟨s.toArray⟩ 0))/\L'.bO H.length=w.heap.size:=by
 have h1:=h.alloc (.stringIter ⟨s.toArray⟩ 0) 0;have e1:=Ev.alloc h (.stringIter ⟨s.toArray⟩ 0) 0;have I3:¬Wr (L.bS w.heap.size 0) H.length T w.heap.size:=h.xh (ahj _);refine⟨(L.bS w.heap.size 0).dB H.length w.heap.size,h1.rQ w.heap.size I3 (.iter s 0) (λhle=>by simp at hle;omega) ?_,Ev.rQ (b:=w.heap.size) (az.iter s 0) e1 (ahj _),by simp[Lay.dB]⟩;show (w.alloc _).heap[((L.bS w.heap.size 0).dB H.length w.heap.size).bO H.length]?=_;rw[show ((L.bS w.heap.size 0).dB H.length w.heap.size).bO H.length=w.heap.size by simp[Lay.dB]];exact fP w _
def SC (P:Program)(t:TypeId)(x:AV):Option AV:=
 match P.underlying t,x with
 |some .string,.str s=>some (.int .i64 s.length)
 |some (.slice _),.sl n _ _=>some (.int .i64 n)
 |some (.slice _),.cK _ _ n=>some (.int .i64 n)
 |some (.slice _),.bG _ n _=>some (.int .i64 n)
 |some (.array n _),_=>some (.int .i64 n)
 |_,_=>none
def Tj {t ty:TypeId}{x r:AV}{c:Value}{N:Nat}(h:SC P t x=some r)(hx:aY L N T w x c):∃cv,(Builtin.len_ #[t] ty #[c]).run P w=.ok cv w/\aY L N T w r cv:=by
 unfold SC at h
 split at h
 ·rename_i s hu
  cases h
  rw[hx.iT];exact⟨.int .i64 s.length,by rw[run_len_string w t ty _ hu];rfl,.int _ _⟩
 ·rename_i e n cs tg hu
  cases h
  obtain⟨a,cap,rfl,_⟩:=hx.fM;exact⟨.int .i64 n,by simp[Builtin.len_,run_underlying hu,goInt],.int _ _⟩
 ·rename_i e i o n hu
  cases h
  obtain⟨cap,rfl,_⟩:=hx.j6;exact⟨.int .i64 n,by simp[Builtin.len_,run_underlying hu,goInt],.int _ _⟩
 ·rename_i e i n cap hu
  cases h
  obtain⟨rfl,_⟩:=hx.iv;exact⟨.int .i64 n,by simp[Builtin.len_,run_underlying hu,goInt],.int _ _⟩
 ·rename_i n e hu
  cases h
  exact⟨.int .i64 n,by simp[Builtin.len_,run_underlying hu,goInt],.int _ _⟩
 ·cases h
def KH (mx:Bool):AV->List AV->Option AV
 |acc,[]=>some acc
 |.int k x,.int _ y::r=>KH mx (.int k (if mx then (if y>x then y else x) else (if y<x then y else x))) r
 |_,_=>none
def Y2 (mx:Bool):List AV->Option AV
 |[]=>none
 |x::r=>KH mx x r
theorem PR {N:Nat}(mx:Bool):∀(l:List AV)(cs:List Value)(acc r:AV)(ca:Value),KH mx acc l=some r->aY L N T w acc ca->cs.length=l.length->(∀(j:Nat)(h:j<l.length)(h':j<cs.length),aY L N T w (l[j]'h) (cs[j]'h'))->
  ∃cv,(cs.foldlM (if mx then Builtin.max2 else Builtin.min2) ca).run P w=.ok cv w/\aY L N T w r cv:=by
 intro l
 induction l with
 |nil=>
  intro cs acc r ca h ha hl _;have:cs=[]:=ahT hl;subst this;simp only[KH,Option.some.injEq] at h;subst h;exact⟨ca,rfl,ha⟩
 |cons v l ih=>
  intro cs acc r ca h ha hl hr
  match cs,hl,hr with
  |c::cs,hl,hr=>
   have h0:=hr 0 (by simp) (by simp);simp only[aii] at h0
   cases acc<;>cases v<;>simp only[KH,reduceCtorEq] at h
   rw[ha.dU,h0.dU];obtain⟨cv,g1,g2⟩:=ih cs _ r _ h (.int _ _) (by simpa using hl) (λj hj hj'=>by have:=hr (j+1) (by simpa using hj) (by simpa using hj');simpa using this);refine⟨cv,?_,g2⟩;rw[List.foldlM_cons,<-g1]
   cases mx<;>rfl
theorem Jt {N:Nat}{ty:TypeId}{ts:Array TypeId}(mx:Bool)(l:List AV)(cs:List Value)(r:AV)(h:Y2 mx l=some r)(hl:cs.length=l.length)(hr:∀(j:Nat)(h:j<l.length)(h':j<cs.length),aY L N T w (l[j]'h) (cs[j]'h')) :
  ∃cv,((if mx then Builtin.max_ else Builtin.min_) ts ty cs.toArray).run P w=.ok cv w/\aY L N T w r cv:=by
 match l,cs,hl,hr,h with
 |v::l,c::cs,hl,hr,h=>
  have h0:=hr 0 (by simp) (by simp);simp only[aii] at h0;obtain⟨cv,g1,g2⟩:=PR (P:=P) mx l cs v r c h h0 (by simpa using hl) (λj hj hj'=>by have:=hr (j+1) (by simpa using hj) (by simpa using hj');simpa using this);refine⟨cv,?_,g2⟩;rw[<-g1]
  cases mx<;>rfl
 |[],[],_,_,h=>simp[Y2] at h
def pI (P:Program):List Field->List AV->List AV->Option Bool
 |[],_,_=>some true
 |f::fs,xs,ys=>
  if f.name = "_" then none else
  match P.underlying f.type,xs[f.offset]?,ys[f.offset]? with
  |some (.int _),some (.int k a),some (.int k' b)=>if k=k' then (pI P fs xs ys).map ((a==b)&&·) else none
  |some .string,some (.str a),some (.str b)=>(pI P fs xs ys).map ((a==b)&&·)
  |some .bool,some (.bool a),some (.bool b)=>(pI P fs xs ys).map ((a==b)&&·)
  |_,_,_=>none
def pV (P:Program)(t:TypeId)(x y:AV):Option Bool:=
 match x,y with
 |.agg xs,.agg ys=>if P.stoodInHeld t=false/\P.eqGuardType P.depth t=false then
   match P.underlying t with
   |some (.struct fs)=>pI P fs.toList xs ys
   |_=>none
  else none
 |_,_=>none
def Ji (P:Program)(op:BinOp)(t:TypeId)(x y:AV):Option AV:=
 match op with
 |.eql=>(pV P t x y).map .bool
 |.neq=>(pV P t x y).map λb=>.bool (!b)
 |_=>none
def cF.at {N:Nat}{xs:List AV}{c:List Value}{i:Nat}{v:AV}(h:cF L N T w xs c)(hi:xs[i]?=some v):∃x,c[i]?=some x/\aY L N T w v x:=by
 obtain⟨hlt,rfl⟩:=ahh.1 hi;have kE:i<c.length:=by rw[h.1];exact hlt
 exact⟨c[i],ahi kE,h.2.2 i hlt kE⟩
theorem HT {N:Nat}(d:Nat){xs ys:List AV}{cx cy:Array Value}(hx:cF L N T w xs cx.toList)(hy:cF L N T w ys cy.toList):∀(fs:List Field)(b:Bool),pI P fs xs ys=some b->(Op.eqFields (d+1) cx cy fs).run P w=.ok b w:=by
 intro fs
 induction fs with
 |nil=>intro b h;cases h;rfl
 |cons f fs ih=>
  intro b h;unfold pI at h
  split at h
  ·cases h
  ·rename_i hn;have fin:∀(v u:Value)(r:Bool),jV P f.type=some false->cx.toList[f.offset]?=some v->cy.toList[f.offset]?=some u->(Op.equalIn (d+1) f.type v u).run P w=.ok r w->
     (pI P fs xs ys).map (r&&·)=some b->(Op.eqFields (d+1) cx cy (f::fs)).run P w=.ok b w:=by
    intro v u r ha hv hu he hm;obtain⟨b',hb',rfl⟩:=ai6.1 hm;have hv':cx[f.offset]?=some v:=by simpa using hv
    have hu':cy[f.offset]?=some u:=by simpa using hu
    have p1:(part f.type cx f.offset).run P w=.ok v w:=by
     simp only[part,Sem.run_bind,lG ha,Result.andThen_ok,aik,ai5,hv'];rfl
    have p2:(part f.type cy f.offset).run P w=.ok u w:=by
     simp only[part,Sem.run_bind,lG ha,Result.andThen_ok,aik,ai5,hu'];rfl
    simp only[Op.eqFields,ahs hn,Sem.run_bind,p1,p2,Result.andThen_ok,he]
    cases r
    ·simp
    ·simpa using ih b' hb'
   split at h
   ·rename_i hu h1 h2
    split at h
    ·rename_i hk;subst hk;obtain⟨v,v1,v2⟩:=hx.at h1;obtain⟨u,u1,u2⟩:=hy.at h2;rw[v2.dU] at v1;rw[u2.dU] at u1;exact fin _ _ _ (by simp[jV,hu]) v1 u1 (run_equalIn_int w d _ _ _ _ _ hu) h
    ·cases h
   ·rename_i hu h1 h2;obtain⟨v,v1,v2⟩:=hx.at h1;obtain⟨u,u1,u2⟩:=hy.at h2;rw[v2.iT] at v1;rw[u2.iT] at u1;refine fin _ _ _ (by simp[jV,hu]) v1 u1 ?_ h;rw[run_equalIn_string w d _ _ _ hu,toList_mk,toList_mk]
   ·rename_i hu h1 h2;obtain⟨v,v1,v2⟩:=hx.at h1;obtain⟨u,u1,u2⟩:=hy.at h2;rw[v2.jG] at v1;rw[u2.jG] at u1;exact fin _ _ _ (by simp[jV,hu]) v1 u1 (run_equalIn_bool' w d _ _ _ hu) h
   ·cases h
theorem LL {N:Nat}{op:BinOp}{t:TypeId}{x y r:AV}{cx cy:Value}(h:Ji P op t x y=some r)(hx:aY L N T w x cx)(hy:aY L N T w y cy)(ox oy:Operand) :
  ∃cv,(eqGuard op t ox oy cx cy >>= λ_=>binOp op t cx cy).run P w=.ok cv w/\∀(L:Lay)(N:Nat)(T:au)(w':World),aY L N T w' r cv:=by
 have key:∀b,pV P t x y=some b->∃xs ys,cx=.agg xs/\cy=.agg ys/\P.eqGuardType P.depth t=false/\(Op.equalIn 10000 t (.agg xs) (.agg ys)).run P w=.ok b w:=by
  intro b hb;unfold pV at hb
  split at hb
  ·rename_i xs ys
   split at hb
   ·rename_i hg
    split at hb
    ·rename_i fs hu
     cases hx with
     |agg _ cxa a1 a2 a3=>
      cases hy with
      |agg _ cya b1 b2 b3=>
       refine⟨cxa,cya,rfl,rfl,hg.2,?_⟩;have hf:P.fieldsOf t=fs:=by simp[Program.fieldsOf,hu]
       rw[run_equalIn_struct w 9999 t cxa cya (by rw[hf];exact hu) hg.1,hf];exact HT 9998 (cF.Bt (.agg _ _ a1 a2 a3)) (cF.Bt (.agg _ _ b1 b2 b3)) _ _ hb
    ·cases hb
   ·cases hb
  ·cases hb
 unfold Ji at h
 split at h
 ·obtain⟨b,hb,rfl⟩:=ai6.1 h;obtain⟨xs,ys,rfl,rfl,hg,hr⟩:=key b hb;refine⟨.bool b,?_,λ_ _ _ _=>.bool _⟩;simp only[Sem.run_bind,run_eqGuard_agg w _ _ _ _ _ _ hg,Result.andThen_ok,run_eql_struct,hr]
 ·obtain⟨b,hb,rfl⟩:=ai6.1 h;obtain⟨xs,ys,rfl,rfl,hg,hr⟩:=key b hb;refine⟨.bool (!b),?_,λ_ _ _ _=>.bool _⟩;simp only[Sem.run_bind,run_eqGuard_agg w _ _ _ _ _ _ hg,Result.andThen_ok,run_neq_struct,hr]
 ·cases h
def BK:Operand->Operand->Bool
 |.tmp a,.tmp b=>a==b
 |.const (.int k a),.const (.int k' b)=>k==k'&&a==b
 |_,_=>false
abbrev Res:=Option (AV×List az×au)
def xx (P:Program)(H:List az)(t:TypeId)(x:AV):Option (List az):=
 match P.underlying t,x with
 |some (.slice e),.cK i o n=>if n=0 then some H else match H[i]?,aZ P e with
  |some (.cells vs),some zs=>if 0<zs.length/\o+n*zs.length<=vs.length then some (H.set i (.cells (setMany vs o (gA zs (n*zs.length))))) else none
  |_,_=>none
 |_,_=>none
def LI {t ty:TypeId}{x:AV}{c:Value}{H':List az}(hc:bW L H T w)(h:xx P H t x=some H')(hx:aY L H.length T w x c) :
  ∃cv w' L',(Builtin.clear_ #[t] ty #[c]).run P w=.ok cv w'/\bW L' H' T w'/\aY L' H'.length T w' .top cv/\Ev H.length T.length L H.length T w L' H'.length T w':=by
 unfold xx at h
 split at h
 ·rename_i e i o n hu;obtain⟨cap,rfl,hcap,hlt⟩:=hx.j6
  split at h
  ·rename_i hn
   cases h
   subst hn;exact⟨.tuple #[],w,L,by simp[Builtin.clear_,run_underlying hu],hc,.top _,Ev.refl (ahj _) (ahj _)⟩
  ·rename_i hn
   split at h
   ·rename_i vs zs hi hz
    split at h
    ·rename_i hle
     cases h
     obtain⟨inf,z,h1,h2,h3,h4⟩:=eH (L:=L) (T:=T) (w:=w) (N:=H.length) hz;have hsz:z.cells.size=zs.length:=by have:=h3.1;simpa using this
     have hr:=qJ (n:=n*zs.length) h3 (.inl hle.1);have hzc:(Builtin.zeroCells z.cells n).toList=(madeCells z.cells (n*zs.length)).toList:=by rw[<-hsz];rfl
     rw[<-hzc] at hr;have hlen:(gA zs (n*zs.length)).length=n*zs.length:=by simp[gA]
     obtain⟨w',hst,cO,dD⟩:=nm (P:=P) i o (gA zs (n*zs.length)) (Builtin.zeroCells z.cells n).toList 0 H w vs hc hr hi (by rw[hlen];omega);obtain⟨m,rfl⟩:∃m,n=m+1:=⟨n-1,by omega⟩
     refine⟨.tuple #[],w',L,?_,cO,.top _,dD⟩;simp[Builtin.clear_,run_underlying hu,kg h1 h2,hst]
    ·cases h
   ·cases h
 ·cases h
def tN (P:Program)(b:Builtin)(ts:Array TypeId)(args:List AV)(H:List az)(T:au):Res:=
 match b,ts.toList,args with
 |.len,[t],[x]=>(SC P t x).map (·,H,T)
 |.append,[t,t2],[s,x]=>match s with
  |.cK i o n=>(Jj P H t t2 (.cK i o n) x).map (·,H,T)
  |s=>(te P H T t t2 s x).map fun(v,T')=>(v,H,T')
 |.max,_,l=>(Y2 true l).map (·,H,T)
 |.min,_,l=>(Y2 false l).map (·,H,T)
 |.clear,[t],[x]=>(xx P H t x).map λH'=>(.top,H',T)
 |_,_,_=>none
def Jg (P:Program)(op:BinOp)(t:TypeId)(y:Operand)(ax:AV):Option AV:=
 match y with
 |.const .nilIface=>match P.underlying t,ax,op with
  |some (.interface _),.mY,.eql=>some (.bool true)
  |some (.interface _),.mY,.neq=>some (.bool false)
  |some (.interface _),.A8,.eql=>some (.bool false)
  |some (.interface _),.A8,.neq=>some (.bool true)
  |_,_,_=>none
 |_=>none
def LK {op:BinOp}{t:TypeId}{x y:Operand}{ax r:AV}{a:Act}{N:Nat}(h:Jg P op t y ax=some r)(hx:aY L N T w ax (a.eval x)) :
  ∃cv,(eqGuard op t x y (a.eval x) (a.eval y) >>= λ_=>binOp op t (a.eval x) (a.eval y)).run P w=.ok cv w/\∀(L:Lay)(N:Nat)(T:au)(w':World),aY L N T w' r cv:=by
 have g1:∀op,(eqGuard op t x (.const .nilIface) .nilIface .nilIface).run P w=.ok () w:=λop=>by
  unfold eqGuard
  cases op<;>simp
 have g2:∀op t' v,(eqGuard op t x (.const .nilIface) (.iface t' v) .nilIface).run P w=.ok () w:=λop t' v=>by
  unfold eqGuard
  cases op<;>simp
 unfold Jg at h
 split at h
 ·have e2:a.eval (.const .nilIface)=.nilIface:=rfl;rw[e2]
  split at h
  ·rename_i ms hu
   cases h
   rw[hx.Ek,Sem.run_bind,g1,Result.andThen_ok];exact⟨_,lu t _ _ true .eql (.inl rfl) rfl rfl (λd=>by simp only[Op.equalIn,Sem.run_bind,run_underlying hu,Result.andThen_ok];rfl),λ_ _ _ _=>.bool _⟩
  ·rename_i ms hu
   cases h
   rw[hx.Ek,Sem.run_bind,g1,Result.andThen_ok];exact⟨_,lu t _ _ true .neq (.inr rfl) rfl rfl (λd=>by simp only[Op.equalIn,Sem.run_bind,run_underlying hu,Result.andThen_ok];rfl),λ_ _ _ _=>.bool _⟩
  ·rename_i ms hu
   cases h
   obtain⟨t',v,e⟩:=hx.JM;rw[e,Sem.run_bind,g2,Result.andThen_ok];exact⟨_,lu t _ _ false .eql (.inl rfl) rfl rfl (λd=>by simp only[Op.equalIn,Sem.run_bind,run_underlying hu,Result.andThen_ok];rfl),λ_ _ _ _=>.bool _⟩
  ·rename_i ms hu
   cases h
   obtain⟨t',v,e⟩:=hx.JM;rw[e,Sem.run_bind,g2,Result.andThen_ok];exact⟨_,lu t _ _ false .neq (.inr rfl) rfl rfl (λd=>by simp only[Op.equalIn,Sem.run_bind,run_underlying hu,Result.andThen_ok];rfl),λ_ _ _ _=>.bool _⟩
  ·cases h
 ·cases h
def Nw (P:Program)(o:Oper)(e:Env)(H:List az)(T:au):Res:=
 match o.op with
 |.move x=>some (bN e x,H,T)
 |.assign x=>some (bN e x,H,T)
 |.pick c a b=>match bN e c with
  |.bool t=>some (if t then bN e a else bN e b,H,T)
  |_=>none
 |.alloc t=>(aZ P t).map λzs=>(.ptr H.length 0,H++[.cells zs],T)
 |.box _ x=>(V0 (bN e x)).map λxs=>(.ptr H.length 0,H++[.cells xs],T)
 |.build t ps=>(BA P t (ps.toList.map fun(x:Nat×Operand)=>(x.1,bN e x.2))).map (·,H,T)
 |.buildSlice t n ps=>(mT P t n (ps.toList.map fun(x:Nat×Operand)=>(x.1,bN e x.2))).map (·,H,T)
 |.load t a=>match Oe H (bN e a) with
  |some (vs,o)=>(rj P t vs o).map (·,H,T)
  |none=>none
 |.store t a x=>match bN e a,V0 (bN e x) with
  |.ptr i o,some xs=>match H[i]? with
   |some (.cells vs)=>if xs.length=P.cellsOf t/\o+xs.length<=vs.length/\(P.underlying t).isSome=true then some (.top,H.set i (.cells (setMany vs o xs)),T) else none
   |_=>none
  |_,_=>none
 |.nilCheck x=>match bN e x with
  |.ptr i o=>some (.ptr i o,H,T)
  |.eh cs o=>some (.eh cs o,H,T)
  |.fn f a b=>some (.fn f a b,H,T)
  |_=>none
 |.binOp op t x y _=>match Jg P op t y (bN e x) with
  |some r=>some (r,H,T)
  |none=>if uu P t (bN e x)=true then (SF op (bN e x) (bN e y)).map (·,H,T) else (Ji P op t (bN e x) (bN e y)).map (·,H,T)
 |.unOp u _ x=>(aun u (bN e x)).map (·,H,T)
 |.convert s d x=>match P.underlying s,P.underlying d,bN e x with
  |some .string,some (.slice el),.str b=>match P.underlying el with
   |some (.int .u8)=>some (.sl b.length (sF b) .none,H,T)
   |_=>none
  |_,_,_=>(Jh P H s d (bN e x)).map (·,H,T)
 |.makeFunc (.func f) first bY=>some (.fn f (first.toList.map (bN e)) (bY.toList.map (bN e)),H,T)
 |.makeSlice t l c=>match P.underlying t,bN e l,bN e c with
  |some (.slice el),.int _ a,.int _ b=>match aZ P el with
   |some zs=>
    if 0<zs.length/\0<=b/\b.toNat*P.bytesOf el<=281474976710656/\b.toNat<=9223372036854775807/\0<P.cellsOf el then
     if BK l c=true then some (.bG H.length b.toNat b.toNat,H++[.cells (gA zs (b.toNat*P.cellsOf el))],T)
     else if a=0 then some (.sl 0 [] (.own T.length),H,T++[(0,P.cellsOf el)]) else none
    else none
   |none=>none
  |_,_,_=>none
 |.slice t x lo hi mx=>(Bw P t (bN e x) (lo.map (bN e)) (hi.map (bN e)) (mx.map (bN e))).map (·,H,T)
 |.fieldAddr t x f=>(oP P t (bN e x) f).map (·,H,T)
 |.field t x f=>(Bz P t (bN e x) f).map (·,H,T)
 |.indexAddr t x i=>(oO P t (bN e x) (bN e i)).map (·,H,T)
 |.index t x i=>(Bx P t (bN e x) (bN e i)).map (·,H,T)
 |.extract x i=>match bN e x with
  |.df vs=>if i<vs.length then some (vs.getD i .top,H,T) else none
  |_=>none
 |.range t x=>match bN e x with
  |.str s=>match P.underlying t with
   |some .string=>some (.ptr H.length 0,H++[.iter s 0],T)
   |_=>none
  |.aP m=>match vT P t,H[m]? with
   |some _,some (.map es)=>some (.ptr H.length 0,H++[.mF m es.length []],T)
   |_,_=>none
  |_=>none
 |.makeMap _ none=>some (.aP H.length,H++[.map []],T)
 |.lookup t x i ok=>match bN e x,vT P t,I8 (bN e i) with
  |.aP m,some (kt,el),some k=>match H[m]?,pM P el with
   |some (.map es),some z=>if mN P kt k=true/\dq P kt es=true then some (jg es k z ok,H,T) else none
   |_,_=>none
  |_,_,_=>none
 |.mapUpdate t m k x=>match bN e m,vT P t,I8 (bN e k) with
  |.aP i,some (kt,_),some kk=>match H[i]? with
   |some (.map es)=>if mN P kt kk=true/\dq P kt es=true then some (.top,H.set i (.map (kT es kk (bN e x))),T) else none
   |_=>none
  |_,_,_=>none
 |.entry x=>match bN e x with
  |.ptr i 0=>match H[i]? with
   |some (.mF m n seen)=>match H[m]?,seen.getLast? with
    |some (.map es),some j=>if n=es.length then (es[j]?).map λkv=>(.df [kv.1.av,kv.2],H,T) else none
    |_,_=>none
   |_=>none
  |_=>none
 |.next x true=>match bN e x with
  |.ptr i 0=>match H[i]? with
   |some (.iter s pos)=>if pos<s.length then some (.df [.bool true,.int .i64 pos,.int .i32 (Utf8.decode ⟨s.toArray⟩ pos).1],H.set i (.iter s (pos+(Utf8.decode ⟨s.toArray⟩ pos).2)),T)
    else some (.df [.bool false],H,T)
   |_=>none
  |_=>none
 |.call { callee:=.builtin b,args,argTypes }=>tN P b argTypes (args.toList.map (bN e)) H T
 |_=>none
def Good.of {x:Sem Value}{y:Sem Next}{r:AV}{H':List az}{T':au}(hy:y=(do pure (Next.value (<-x))))(h:∃cv w' L',x.run P w=.ok cv w'/\bW L' H' T' w'/\aY L' H'.length T' w' r cv/\Ev H.length T.length L H.length T w L' H'.length T' w') :
  Good P y H T L w r H' T':=by
 obtain⟨cv,w',L',h1,h2,h3,h4⟩:=h;exact⟨.value cv,cv,w',L',by rw[hy];simp only[Sem.run_bind,h1,Result.andThen_ok];rfl,.inl rfl,h2,h3,h4⟩
def Good.same {x:Sem Value}{y:Sem Next}{r:AV}(hy:y=(do pure (Next.value (<-x))))(hc:bW L H T w)(h:∃cv,x.run P w=.ok cv w/\aY L H.length T w r cv):Good P y H T L w r H T:=by
 obtain⟨cv,h1,h2⟩:=h;exact Good.of hy ⟨cv,w,L,h1,hc,h2,Ev.refl (ahj _) (ahj _)⟩
def uG {a:Act}{e:Env}(he:fD L H.length T w e a)(ps:Array (Nat×Operand)) :
  (ps.map fun(x:Nat×Operand)=>match x with|(i,x)=>(i,a.eval x)).size=(ps.toList.map fun(x:Nat×Operand)=>(x.1,bN e x.2)).length/\
  ∀(j:Nat) (h:j<(ps.toList.map fun(x:Nat×Operand)=>(x.1,bN e x.2)).length) (h':j<(ps.map fun(x:Nat×Operand)=>match x with|(i,x)=>(i,a.eval x)).toList.length),
   ((ps.toList.map fun(x:Nat×Operand)=>(x.1,bN e x.2))[j]'h).1=((ps.map fun(x:Nat×Operand)=>match x with|(i,x)=>(i,a.eval x)).toList[j]'h').1/\
   aY L H.length T w ((ps.toList.map fun(x:Nat×Operand)=>(x.1,bN e x.2))[j]'h).2 ((ps.map fun(x:Nat×Operand)=>match x with|(i,x)=>(i,a.eval x)).toList[j]'h').2:=by
 refine⟨by simp,λj h h'=>?_⟩;simp only[aia,Array.toList_map];exact⟨by first|rfl|trivial,he.bN _⟩
theorem Cn {b:Builtin}{ts:List TypeId}{ty:TypeId}{A:List AV}{B:List Value}{cst:Array Bool}{r:AV}{H':List az}{T':au}(hc:bW L H T w)(h:tN P b ts.toArray A H T=some (r,H',T'))
  (hl:B.length=A.length) (hr:∀(j:Nat)(h:j<A.length)(h':j<B.length),aY L H.length T w (A[j]'h) (B[j]'h')):Good P (builtin b ts.toArray ty cst B.toArray) H T L w r H' T':=by
 have one:∀{x:Option AV} {y:AV×List az×au},x.map (λv=>(v,H,T))=some y->∃v,x=some v/\y=(v,H,T):=by
  intro x y hx
  cases x with
  |none=>cases hx
  |some v=>exact⟨v,rfl,by cases hx;rfl⟩
 unfold tN at h
 split at h
 ·rename_i t x CR;have rE:ts=[t]:=CR;subst rE;obtain⟨v,hv,e1⟩:=one h
  cases e1
  match B,hl,hr with
  |[c],_,hr=>
   have h0:=hr 0 (by simp) (by simp);simp only[aii] at h0;exact Good.same (x:=Builtin.len_ #[t] ty #[c]) rfl hc (Tj hv h0)
 ·rename_i t t2 s x CR;have rE:ts=[t,t2]:=CR;subst rE
  split at h
  ·rename_i i o n;obtain⟨v,hv,e1⟩:=one h
   cases e1
   match B,hl,hr with
   |[c,d],_,hr=>
    have h0:=hr 0 (by simp) (by simp);have h1:=hr 1 (by simp) (by simp);simp only[aii,ajj] at h0 h1;exact Good.same (x:=Builtin.append_ #[t,t2] ty #[c,d]) rfl hc (PO hc hv h0 h1)
  ·cases ha:te P H T t t2 s x with
   |none=>rw[ha] at h;cases h
   |some y=>
    obtain⟨v,Tn⟩:=y;rw[ha] at h
    cases h
    match B,hl,hr with
    |[c,d],_,hr=>
     have h0:=hr 0 (by simp) (by simp);have h1:=hr 1 (by simp) (by simp);simp only[aii,ajj] at h0 h1;exact Good.of (x:=Builtin.append_ #[t,t2] ty #[c,d]) rfl (HV hc ha h0 h1)
 ·obtain⟨v,hv,e1⟩:=one h
  cases e1
  exact Good.same (x:=Builtin.max_ ts.toArray ty B.toArray) rfl hc (Jt (P:=P) (ty:=ty) (ts:=ts.toArray) true _ B r hv hl hr)
 ·obtain⟨v,hv,e1⟩:=one h
  cases e1
  exact Good.same (x:=Builtin.min_ ts.toArray ty B.toArray) rfl hc (Jt (P:=P) (ty:=ty) (ts:=ts.toArray) false _ B r hv hl hr)
 ·rename_i t x CR;have rE:ts=[t]:=CR;subst rE
  cases ha:xx P H t x with
  |none=>rw[ha] at h;cases h
  |some Hn=>
   rw[ha] at h
   cases h
   match B,hl,hr with
   |[c],_,hr=>
    have h0:=hr 0 (by simp) (by simp);simp only[aii] at h0;exact Good.of (x:=Builtin.clear_ #[t] ty #[c]) rfl (LI hc ha h0)
 ·cases h
theorem A1 {o:Oper}{e:Env}{a:Act}{r:AV}{H':List az}{T':au}(hc:bW L H T w)(he:fD L H.length T w e a)(h:Nw P o e H T=some (r,H',T')):Good P (execOp a.eval o) H T L w r H' T':=by
 obtain⟨dst,op,type,pos,after,guard⟩:=o;have one:∀{x:Option AV} {y:AV×List az×au},x.map (λv=>(v,H,T))=some y->∃v,x=some v/\y=(v,H,T):=by
  intro x y hx
  cases x with
  |none=>cases hx
  |some v=>exact⟨v,rfl,by cases hx;rfl⟩
 cases op<;>simp only[Nw,reduceCtorEq] at h
 case move x=>cases h;exact Good.now hc rfl (he.bN x)
 case assign x=>cases h;exact Good.now hc rfl (he.bN x)
 case pick c x y=>
  split at h
  ·rename_i t ht
   cases h
   have hb:=he.bN c;rw[ht] at hb;refine Good.same (x:=do pure (if<-asBool (a.eval c) then a.eval x else a.eval y)) (by simp[execOp]) hc ⟨if t then a.eval x else a.eval y,by rw[hb.jG];rfl,?_⟩
   cases t
   ·exact he.bN y
   ·exact he.bN x
  ·cases h
 case alloc t=>
  cases hz:aZ P t with
  |none=>rw[hz] at h;cases h
  |some zs=>
   rw[hz] at h
   cases h
   obtain⟨i,z,hi,u6,hr,_⟩:=eH (L:=L) (N:=H.length) (T:=T) (w:=w) hz;obtain⟨L',h1,h2,h3⟩:=hc.rN z.cells t hr;refine Good.of (x:=Instr.alloc t true (.tuple #[])) rfl ⟨.pointer (some ⟨w.heap.size,0,none⟩),_,L',?_,h1,?_,h2⟩
   ·simp only[Instr.alloc,Sem.run_bind,kg hi u6,Result.andThen_ok];rfl
   ·rw[<-h3];exact .ptr _ _ (by simp)
 case box t x=>
  cases hz:V0 (bN e x) with
  |none=>rw[hz] at h;cases h
  |some xs=>
   rw[hz] at h
   cases h
   have hr:=Cd hz (he.bN x);obtain⟨L',h1,h2,h3⟩:=hc.rN (a.eval x).cells t hr;refine Good.of (x:=Instr.box t (a.eval x)) rfl ⟨.pointer (some ⟨w.heap.size,0,none⟩),_,L',?_,h1,?_,h2⟩
   ·rfl
   ·rw[<-h3];exact .ptr _ _ (by simp)
 case build t ps=>
  obtain⟨v,hv,e1⟩:=one h
  cases e1
  obtain⟨g1,g2⟩:=uG he ps;exact Good.same rfl hc (run_build hv g1 g2)
 case buildSlice t n ps=>
  obtain⟨v,hv,e1⟩:=one h
  cases e1
  obtain⟨g1,g2⟩:=uG he ps;exact Good.of rfl (yB hc hv g1 g2)
 case load t x=>
  split at h
  ·rename_i vs o ua;obtain⟨v,hv,e1⟩:=one h
   cases e1
   obtain⟨b,base,cv,e2,hr,mb⟩:=yx hc (he.bN x) ua;obtain⟨c,h1,h2⟩:=vx (P:=P) hr mb hv;refine Good.same (x:=Instr.loadAt t (a.eval x)) rfl hc ⟨c,?_,h2⟩;rw[e2];exact h1
  ·cases h
 case store t x y=>
  split at h
  ·rename_i i o xs hx hy
   split at h
   ·rename_i vs hi
    split at h
    ·rename_i hb
     cases h
     obtain⟨hl,hle,hu⟩:=hb;obtain⟨d,hd⟩:=ahV.1 hu;have hp:=he.bN x;rw[hx] at hp;obtain⟨e2,hlt⟩:=hp.oF;have hr:=Cd hy (he.bN y);obtain⟨w',h1,h2,h3⟩:=nm (P:=P) (L:=L) (T:=T) i o xs (a.eval y).cells.toList 0 H w vs hc hr hi (by simpa using hle);have hsz:(a.eval y).cells.size=P.cellsOf t:=by have:=hr.1;simp at this;omega
     refine⟨.skip,undef,w',L,?_,.inr ⟨rfl,rfl⟩,h2,.top _,h3⟩;have:(Instr.storeAt t (a.eval x) (a.eval y)).run P w=.ok () w':=by
      rw[e2];simp only[Instr.storeAt,Instr.sureAddr,pure_bind,storeVar,Sem.run_bind,cM hd,Result.andThen_ok,hsz,ne_eq,not_true_eq_false,ai5];exact h1
     simp only[execOp,Sem.run_bind,this,Result.andThen_ok];rfl
    ·cases h
   ·cases h
  ·cases h
 case nilCheck x=>
  have hp:=he.bN x
  split at h
  ·rename_i i o hx
   cases h
   rw[hx] at hp;obtain⟨e2,hlt⟩:=hp.oF;refine Good.now hc ?_ (e2▸hp);simp only[execOp,e2];rfl
  ·rename_i cs o hx
   cases h
   rw[hx] at hp;generalize YC:a.eval x=cx at hp
   cases hp with
   |eh _ _ b base f hm hcc h1 hr=>
    refine Good.now hc ?_ (.eh cs o b base f hm hcc h1 hr);simp only[execOp,YC];rfl
  ·rename_i f fa ca hx
   cases h
   rw[hx] at hp;generalize YC:a.eval x=cx at hp
   cases hp with
   |fn _ _ _ fv cv h1 h2 yJ oS=>
    refine Good.now hc ?_ (.fn f fa ca fv cv h1 h2 yJ oS);simp only[execOp,YC];rfl
  ·cases h
 case binOp op t x y yt=>
  split at h
  ·rename_i v hv
   cases h
   obtain⟨cv,h1,h2⟩:=LK hv (he.bN x);exact Good.same (x:=(do eqGuard op t x y (a.eval x) (a.eval y);binOp op t (a.eval x) (a.eval y))) rfl hc ⟨cv,h1,h2 _ _ _ _⟩
  split at h
  ·rename_i ht;obtain⟨v,hv,e1⟩:=one h
   cases e1
   obtain⟨cv,h1,h2⟩:=PU t hv ht (he.bN x) (he.bN y) x y;exact Good.same (x:=(do eqGuard op t x y (a.eval x) (a.eval y);binOp op t (a.eval x) (a.eval y))) rfl hc ⟨cv,h1,h2 _ _ _ _⟩
  ·obtain⟨v,hv,e1⟩:=one h
   cases e1
   obtain⟨cv,h1,h2⟩:=LL hv (he.bN x) (he.bN y) x y;exact Good.same (x:=(do eqGuard op t x y (a.eval x) (a.eval y);binOp op t (a.eval x) (a.eval y))) rfl hc ⟨cv,h1,h2 _ _ _ _⟩
 case unOp u t x=>
  obtain⟨v,hv,e1⟩:=one h
  cases e1
  obtain⟨cv,h1,h2⟩:=Tl (P:=P) hv (he.bN x);exact Good.same rfl hc ⟨cv,h1,h2 _ _ _ _⟩
 case convert s d x=>
  split at h
  ·rename_i el b h1 h2 h3
   split at h
   ·rename_i h4
    cases h
    have hb:=he.bN x;rw[h3] at hb;exact Good.of rfl (LJ hc h1 h2 h4 hb)
   ·cases h
  ·obtain⟨v,hv,e1⟩:=one h
   cases e1
   exact Good.same rfl hc (PM hc hv (he.bN x))
 case makeFunc fn first bY=>
  cases fn<;>simp only[reduceCtorEq] at h
  rename_i f
  cases h
  refine Good.now hc rfl (.fn f _ _ _ _ (by simp) (by simp) (λj hj hj'=>?_) (λj hj hj'=>?_))
  ·simp only[aia,Array.getElem_map,aif];exact he.bN _
  ·simp only[aia,Array.getElem_map,aif];exact he.bN _
 case makeSlice t l c=>
  split at h
  ·rename_i el k1 x k2 y hu hl hcap
   split at h
   ·rename_i zs hz
    split at h
    ·rename_i hb;obtain⟨b1,b2,b3,b4,b5⟩:=hb;have rl:=he.bN l;have rc:=he.bN c;rw[hl] at rl;rw[hcap] at rc
     split at h
     ·rename_i hs
      cases h
      have Gl:a.eval l=a.eval c:=by
       unfold BK at hs
       split at hs
       ·simp at hs;rw[hs]
       ·simp at hs;rw[hs.1,hs.2]
       ·cases hs
      have ey:=rc.dU;have:=Fy (t:=t) hc hu hz b1 k2 k2 y.toNat b3 b4;rw[Int.toNat_of_nonneg b2] at this;refine Good.of (x:=Instr.makeSlice t (a.eval l) (a.eval c)) rfl ?_;rw[Gl,ey];exact this
     ·split at h
      ·rename_i hx0
       cases h
       subst hx0;have ey:=rc.dU;have ex:=rl.dU;have:=Fx (t:=t) hc hu hz b5 k1 k2 y.toNat b3 b4;rw[Int.toNat_of_nonneg b2] at this;refine Good.of (x:=Instr.makeSlice t (a.eval l) (a.eval c)) rfl ?_;rw[ex,ey];exact this
      ·cases h
    ·cases h
   ·cases h
  ·cases h
 case slice t x lo hi mx=>
  obtain⟨v,hv,e1⟩:=one h
  cases e1
  have GF:∀(q:Option Operand) v cv,q.map (bN e)=some v->q.map a.eval=some cv->aY L H.length T w v cv:=by
   intro q v cv h1 h2
   cases q with
   |none=>cases h1
   |some q=>cases h1;cases h2;exact he.bN q
  exact Good.same rfl hc (LD hv (he.bN x) (GF lo) (GF hi) (GF mx) (by simp) (by simp) (by simp))
 case fieldAddr t x f=>
  obtain⟨v,hv,e1⟩:=one h
  cases e1
  exact Good.same rfl hc (FA hv (he.bN x))
 case field t x f=>
  obtain⟨v,hv,e1⟩:=one h
  cases e1
  exact Good.same rfl hc (LH hv (he.bN x))
 case indexAddr t x i=>
  obtain⟨v,hv,e1⟩:=one h
  cases e1
  exact Good.same rfl hc (Fz hv (he.bN x) (he.bN i))
 case index t x i=>
  obtain⟨v,hv,e1⟩:=one h
  cases e1
  exact Good.same rfl hc (LG hv (he.bN x) (he.bN i))
 case extract x i=>
  split at h
  ·rename_i vs hx
   split at h
   ·rename_i hlt
    cases h
    have hp:=he.bN x;rw[hx] at hp;generalize YC:a.eval x=cx at hp
    cases hp with
    |df _ cv h1 hr=>
     have kE:i<cv.size:=by omega
     refine Good.same (x:=Instr.extract (a.eval x) i) rfl hc ⟨cv[i],?_,?_⟩
     ·rw[YC];simp only[Instr.extract,ai7 kE];rfl
     ·rw[ahg,ahi hlt];exact hr i hlt kE
   ·cases h
  ·cases h
 case range t x=>
  split at h
  ·rename_i s hx
   split at h
   ·rename_i hu
    cases h
    have hp:=he.bN x;rw[hx] at hp;obtain⟨L',h1,h2,h3⟩:=hc.TH s;refine Good.of (x:=Instr.range t (a.eval x)) rfl ⟨.pointer (some ⟨w.heap.size,0,none⟩),_,L',?_,h1,?_,h2⟩
    ·rw[hp.iT];simp only[Instr.range,Sem.run_bind,run_underlying hu,Result.andThen_ok];rfl
    ·rw[<-h3];exact .ptr _ _ (by simp)
   ·cases h
  ·rename_i m hx
   split at h
   ·rename_i y es hT hm
    cases h
    obtain⟨kt,el⟩:=y;have hp:=he.bN x;rw[hx] at hp;obtain⟨cv,w',L',h1,h2,h3,h4⟩:=HF hc hT hm;refine Good.of (x:=Instr.range t (a.eval x)) rfl ⟨cv,w',L',?_,h2,h3,h4⟩;rw[hp.xK.1];exact h1
   ·cases h
  ·cases h
 case makeMap t r=>
  cases r<;>simp only[reduceCtorEq] at h
  cases h
  obtain⟨cv,w',L',h1,h2,h3,h4⟩:=run_makeMap hc t;exact Good.of (x:=Instr.makeMap t none) rfl ⟨cv,w',L',h1,h2,h3,h4⟩
 case lookup t x i ok=>
  split at h
  ·rename_i m kt el k hx hT hk
   split at h
   ·rename_i es z hm hz
    split at h
    ·rename_i hf
     cases h
     have hp:=he.bN x;rw[hx] at hp;obtain⟨cv,h1,h2⟩:=HQ hc ok hT hm hz hf.1 hf.2;refine Good.same (x:=Instr.lookup t (a.eval x) (a.eval i) ok) rfl hc ⟨cv,?_,h2⟩;rw[hp.xK.1,Av hk (he.bN i)];exact h1
    ·cases h
   ·cases h
  ·cases h
 case mapUpdate t m k x=>
  split at h
  ·rename_i i kt el kk hx hT hk
   split at h
   ·rename_i es hm
    split at h
    ·rename_i hf
     cases h
     have hp:=he.bN m;rw[hx] at hp;obtain⟨w',h1,h2,h3⟩:=y6 hc hT hm (he.bN x) hf.1 hf.2;refine⟨.skip,undef,w',L,?_,.inr ⟨rfl,rfl⟩,h2,.top _,h3⟩;have:(Instr.mapUpdate t (a.eval m) (a.eval k) (a.eval x)).run P w=.ok () w':=by
      rw[hp.xK.1,Av hk (he.bN k)];exact h1
     simp only[execOp,Sem.run_bind,this,Result.andThen_ok];rfl
    ·cases h
   ·cases h
  ·cases h
 case entry x=>
  split at h
  ·rename_i i hx;have hp:=he.bN x;rw[hx] at hp;obtain⟨e2,hlt⟩:=hp.oF
   split at h
   ·rename_i m n seen hi
    split at h
    ·rename_i es j hm hl
     split at h
     ·rename_i hn;subst hn;obtain⟨kv,hkv,e1⟩:=ai6.1 h
      cases e1
      obtain⟨hj,rfl⟩:=ahh.1 hkv;obtain⟨s0,rfl⟩:=List.getLast?_eq_some_iff.1 hl;obtain⟨cv,h1,h2⟩:=HM hc hi hm hj;refine Good.same (x:=Instr.entry (a.eval x)) rfl hc ⟨cv,?_,h2⟩;rw[e2];exact h1
     ·cases h
    ·cases h
   ·cases h
  ·cases h
 case next x s=>
  cases s<;>simp only[reduceCtorEq] at h
  split at h
  ·rename_i i hx;have hp:=he.bN x;rw[hx] at hp;obtain⟨e2,hlt⟩:=hp.oF
   split at h
   ·rename_i s pos hi;have hb:w.heap[L.bO i]?=some (.stringIter ⟨s.toArray⟩ pos):=hc.box i _ hi;have hsz:(⟨s.toArray⟩:ByteArray).size=s.length:=by simp[ByteArray.size]
    split at h
    ·rename_i eV
     cases h
     obtain⟨h1,h2⟩:=hc.setIter (pos':=pos+(Utf8.decode ⟨s.toArray⟩ pos).2) hi;refine Good.of (x:=Instr.next (a.eval x) true type) rfl ⟨.tuple #[.bool true,goInt pos,.int .i32 (Utf8.decode ⟨s.toArray⟩ pos).1],_,L,?_,h1,?_,h2⟩
     ·rw[e2];simp[Instr.next,getObj,setObj,Sem.run,hb,hsz,eV]
     ·refine .df _ _ rfl (λj hj hj'=>?_)
      match j,hj with
      |0,_=>exact .bool _
      |1,_=>exact .int _ _
      |2,_=>exact .int _ _
    ·rename_i eV
     cases h
     refine Good.same (x:=Instr.next (a.eval x) true type) rfl hc ⟨.tuple #[.bool false],?_,?_⟩
     ·rw[e2];simp[Instr.next,getObj,Sem.run,hb,hsz,eV]
     ·refine .df _ _ rfl (λj hj hj'=>?_)
      match j,hj with
      |0,_=>exact .bool _
   ·cases h
  ·cases h
 case call c=>
  obtain⟨callee,args,CL⟩:=c
  cases callee<;>simp only[reduceCtorEq] at h
  rename_i b;obtain⟨ts⟩:=CL;obtain⟨args⟩:=args;have:=Cn (ty:=type) (cst:=args.toArray.map fun|.const _=>true|_=>false) (B:=args.map a.eval) hc h (by simp) (λj hj hj'=>by
   simp only[aia];exact he.bN _)
  have e1:execOp a.eval ⟨dst,.call ⟨.builtin b,args.toArray,ts.toArray⟩,type,pos,after,guard⟩=builtin b ts.toArray type (args.toArray.map fun|.const _=>true|_=>false) (args.map a.eval).toArray:=by
   simp[execOp,resolve,invoke];rfl
  rw[<-e1] at this;exact this
end
def Q8 (L:Lay)(H:List az)(T:au)(w:World)(Q:AV->List az->au->Prop)(e:Ending)(w':World):Prop:=
 ∃r H' T' L' cv,Q r H' T'/\e=.returned cv/\bW L' H' T' w'/\aY L' H'.length T' w' r cv/\Ev H.length T.length L H.length T w L' H'.length T' w'
def ar (P:Program)(f:FuncId)(args:List AV)(H:List az)(T:au)(Q:AV->List az->au->Prop):Prop:=
 (∀as w,(callFunc f as).run P w=.ok (.enter f as) w)/\
 ∀L w (ca:Array Value),bW L H T w->ca.size=args.length->(∀(j:Nat)(h:j<args.length)(h':j<ca.size),aY L H.length T w (args[j]'h) (ca[j]'h'))->
  Calls P f ca w (Q8 L H T w Q)
theorem ar.mono {P f args H T Q Q'}(h:ar P f args H T Q)(hq:∀r H' T',Q r H' T'->Q' r H' T'):ar P f args H T Q':=
 ⟨h.1,λL w ca hc hl hr=>(h.2 L w ca hc hl hr).mono λ_ _ ⟨r,H',T',L',cv,q,k⟩=>⟨r,H',T',L',cv,hq _ _ _ q,k⟩⟩
def Is (r:AV)(H:List az)(T:au):AV->List az->au->Prop:=λr' H' T'=>r'=r/\H'=H/\T'=T
def prune (nv:Nat):Env->Env
 |[]=>[]
 |(s,v)::r=>if s<nv then (s,v)::prune nv r else prune nv r
theorem mC (nv:Nat)(e:Env)(t:Nat):bE (prune nv e) t=bE e t\/bE (prune nv e) t=.top:=by
 by_cases ht:t<nv
 ·left
  induction e with
  |nil=>rfl
  |cons x r ih=>
   obtain⟨s,v⟩:=x
   by_cases hs:s<nv
   ·simp[prune,bE,hs,ih]
   ·have:s≠t:=by omega
    simp[prune,bE,hs,ih,this]
 ·right
  induction e with
  |nil=>rfl
  |cons x r ih=>
   obtain⟨s,v⟩:=x
   by_cases hs:s<nv
   ·have:s≠t:=by omega
    simp[prune,bE,hs,ih,this]
   ·simp[prune,hs,ih]
def gR (o:Oper)(e:Env):Option (FuncId×List AV):=
 match o.op with
 |.call { callee:=.value f,args,argTypes:=_ }=>match bN e f with
  |.fn g first bY=>some (g,first++args.toList.map (bN e)++bY)
  |_=>none
 |_=>none
def mI (C:Cx)(dst:Option Tmp)(v:AV)(e:Env)(H:List az)(T:au)(K:St->Prop):Prop:=
 match dst with
 |some d=>d<C.nt/\K ⟨lW e d v,H,T⟩
 |none=>K ⟨e,H,T⟩
def wJ (C:Cx)(K:St->Prop)(dst:Option Tmp)(g:FuncId)(as:List AV)(s:St):Prop:=
 ∃Q,ar C.P g as s.H s.T Q/\∀v H' T',Q v H' T'->mI C dst v s.e H' T' K
def Dj (L:Lay)(N:Nat)(T:au)(w:World)(vs:List AV)(c:List Value):Prop:=
 c.length=vs.length/\∀(j:Nat)(h:j<vs.length)(h':j<c.length),aY L N T w (vs[j]'h) (c[j]'h')
def Dj.append {L:Lay}{N:Nat}{T:au}{w:World}{a b:List AV}{c d:List Value}(h:Dj L N T w a c)(k:Dj L N T w b d):Dj L N T w (a++b) (c++d):=by
 refine⟨by simp[h.1,k.1],λj hj hj'=>?_⟩;rw[ajm,ajm]
 by_cases hlt:j<a.length
 ·rw[aj3 hlt,aj3 (by rw[h.1];exact hlt)];exact h.2 _ _ _
 ·rw[aj4 hlt,aj4 (by rw[h.1];exact hlt)];have:=k.2 (j-a.length) (by simp at hj;omega) (by simp at hj';rw[h.1] at hj';omega);simpa[h.1] using this
def pe (all:Array Oper)(j:Nat)(e:Env):Option (Option Bool):=
 match (all[j]?).bind (·.dst) with
 |some d=>match bE e d with
  |.bool b=>some (some b)
  |.df []=>some none
  |_=>none
 |none=>none
def KG (P:Program)(o:Oper)(e:Env):Option (Nat×Bool):=
 match o.op with
 |.binOp op t x (.const (.slice none _ _)) _=>match P.underlying t,bN e x,op with
  |some (.slice _),.sl n _ _,.eql=>some (n,true)
  |some (.slice _),.sl n _ _,.neq=>some (n,false)
  |some (.slice _),.cK _ _ n,.eql=>some (n,true)
  |some (.slice _),.cK _ _ n,.neq=>some (n,false)
  |_,_,_=>none
 |_=>none
def PQ {P:Program}{o:Oper}{e:Env}{a:Act}{n:Nat}{q:Bool}{L:Lay}{N:Nat}{T:au}{w:World}(h:KG P o e=some (n,q))(he:fD L N T w e a) :
  ∃b:Bool,(0<n->b=!q)/\(execOp a.eval o).run P w=.ok (.value (.bool b)) w:=by
 unfold KG at h
 split at h
 ·rename_i op t x l c y ho;have hx:=he.bN x;have core:∀(op:BinOp)(n cap:Nat)(ad:Option Addr)(el:TypeId),P.underlying t=some (.slice el)->a.eval x=.slice ad n cap->(0<n->ad.isNone=false)->(op=.eql\/op=.neq)->o.op=.binOp op t x (.const (.slice none l c)) y->∃b:Bool,(0<n->b=!(op==.eql))/\(execOp a.eval o).run P w=.ok (.value (.bool b)) w:=by
   intro op n cap ad el hu hv VR lL ho;have hg:(eqGuard op t x (.const (.slice none l c)) (a.eval x) (a.eval (.const (.slice none l c)))).run P w=.ok () w:=oW op t _ _ _ _ (by rw[hv];exact⟨λ_ e=>(by cases e),λe=>(by cases e)⟩);have heq:∀d:Nat,(Op.equalIn (d+1) t (.slice ad n cap) (.slice none l c)).run P w=.ok ad.isNone w:=by
    intro d
    cases ad<;>simp only[Op.equalIn,Sem.run_bind,run_underlying hu,Result.andThen_ok]<;>rfl
   have cY:=lu (P:=P) (w:=w) t (.slice ad n cap) (.slice none l c) ad.isNone op lL rfl rfl heq;refine⟨if op=.eql then ad.isNone else !ad.isNone,λhn=>?_,?_⟩
   ·have:=VR hn;rcases lL with rfl|rfl<;>simp[this]
   ·rw[hv] at hg;have yM:a.eval (.const (.slice none l c))=.slice none l c:=rfl;rw[yM] at hg;simp only[execOp,ho,Sem.run_bind,hv,yM,hg,Result.andThen_ok,cY];rfl
  have fin:∀(op:BinOp)(n:Nat)(cs:List AV)(tg:Tag)(el:TypeId),P.underlying t=some (.slice el)->bN e x=.sl n cs tg->(op=.eql\/op=.neq)->o.op=.binOp op t x (.const (.slice none l c)) y->∃b:Bool,(0<n->b=!(op==.eql))/\(execOp a.eval o).run P w=.ok (.value (.bool b)) w:=by
   intro op n cs tg el hu hs lL ho;rw[hs] at hx;obtain⟨ad,cap,hv,_,_,yN⟩:=hx.fM;refine core op n cap ad el hu hv (λhn=>?_) lL ho;rcases yN with⟨_,h0⟩|⟨b,base,cv,e1,_⟩
   ·omega
   ·rw[e1];rfl
  have yX:∀(op:BinOp)(i p n:Nat)(el:TypeId),P.underlying t=some (.slice el)->bN e x=.cK i p n->(op=.eql\/op=.neq)->o.op=.binOp op t x (.const (.slice none l c)) y->∃b:Bool,(0<n->b=!(op==.eql))/\(execOp a.eval o).run P w=.ok (.value (.bool b)) w:=by
   intro op i p n el hu hs lL ho;rw[hs] at hx;obtain⟨cap,hv,_,_⟩:=hx.j6;exact core op n cap _ el hu hv (λ_=>rfl) lL ho
  split at h
  ·rename_i el n' cs tg hu hs
   cases h
   obtain⟨b,h1,h2⟩:=fin .eql _ _ _ _ hu hs (.inl rfl) ho;exact⟨b,λhn=>h1 hn,h2⟩
  ·rename_i el n' cs tg hu hs
   cases h
   obtain⟨b,h1,h2⟩:=fin .neq _ _ _ _ hu hs (.inr rfl) ho;exact⟨b,λhn=>h1 hn,h2⟩
  ·rename_i el i' p' n' hu hs
   cases h
   obtain⟨b,h1,h2⟩:=yX .eql _ _ _ _ hu hs (.inl rfl) ho;exact⟨b,λhn=>h1 hn,h2⟩
  ·rename_i el i' p' n' hu hs
   cases h
   obtain⟨b,h1,h2⟩:=yX .neq _ _ _ _ hu hs (.inr rfl) ho;exact⟨b,λhn=>h1 hn,h2⟩
  ·cases h
 ·cases h
def KI (P:Program)(bx:List Nat)(o:Oper)(e:Env)(H:List az):Option (Nat×List AV):=
 match o.op,o.dst with
 |.call { callee:=.builtin .append,args,argTypes },some d=>
  if bx.contains d=true then
   match argTypes.toList,args.toList.map (bN e) with
   |[t,t2],[s,x]=>oJ P H t t2 s x
   |_,_=>none
  else none
 |.buildSlice t n ps,some d=>if bx.contains d=true then (oh P t n (ps.toList.map fun(x:Nat×Operand)=>(x.1,bN e x.2))).map λys=>(n,ys) else none
 |_,_=>none
theorem PT {P:Program}{bx:List Nat}{o:Oper}{e:Env}{a:Act}{L:Lay}{H:List az}{T:au}{w:World}{m:Nat}{ys:List AV}(h:KI P bx o e H=some (m,ys))(hc:bW L H T w)(he:fD L H.length T w e a) :
  ∃k cv w' L',(execOp a.eval o).run P w=.ok (.value cv) w'/\bW L' (H++[.cells (ys++List.replicate k .top)]) T w'/\aY L' (H++[az.cells (ys++List.replicate k .top)]).length T w' (.cK H.length 0 m) cv/\
   Ev H.length T.length L H.length T w L' (H++[az.cells (ys++List.replicate k .top)]).length T w':=by
 obtain⟨dst,op,type,pos,after,guard⟩:=o;unfold KI at h
 split at h
 ·rename_i args CL d' lL hd;simp only at lL;subst lL
  split at h
  ·split at h
   ·rename_i t t2 s x CR fm;have rE:CL=#[t,t2]:=by rw[<-Array.toList_inj];exact CR
    subst rE
    match vb:args.toList,fm with
    |[p,q],fm=>
     simp only[ahX,ajg,List.cons.injEq,aj1] at fm;obtain⟨e1,e2⟩:=fm;have h0:=he.bN p;have h1:=he.bN q;rw[e1] at h0;rw[e2] at h1;obtain⟨k,cv,w',L',cY,g1,g2,g3⟩:=HX (ty:=type) hc h h0 h1;refine⟨k,cv,w',L',?_,g1,g2,g3⟩;have oA:args=#[p,q]:=by rw[<-Array.toList_inj];exact vb
     subst oA;simp only[execOp,resolve,Sem.run_bind,Sem.run_pure,Result.andThen_ok,invoke,builtin,map_toArray,ahX,ajg,cY]
   ·cases h
  ·cases h
 ·rename_i t n ps d' lL hd;simp only at lL;subst lL
  split at h
  ·cases hb:oh P t n (ps.toList.map fun(x:Nat×Operand)=>(x.1,bN e x.2)) with
   |none=>rw[hb] at h;cases h
   |some ys0=>
    rw[hb] at h
    cases h
    obtain⟨g1,g2⟩:=uG he ps;obtain⟨cv,w',L',cY,k1,k2,k3⟩:=Cm hc hb g1 g2;refine⟨0,cv,w',L',?_,by simpa using k1,by simpa using k2,by simpa using k3⟩;show Sem.run P (do pure (Next.value (<-Instr.buildSlice t _ (ps.map fun(x:Nat×Operand)=>(x.1,a.eval x.2))))) w=_;simp only[Sem.run_bind,cY,Result.andThen_ok,Sem.run_pure]
  ·cases h
 ·cases h
def sG (o:Oper)(e:Env):Option (TypeId×TypeId×Nat×Nat×Nat×AV):=
 match o.op with
 |.call { callee:=.builtin .append,args,argTypes }=>
  match argTypes.toList,args.toList.map (bN e) with
  |[t,t2],[.bG i n cap,x]=>some (t,t2,i,n,cap,x)
  |_,_=>none
 |_=>none
def WI (C:Cx)(K:St->Prop)(dst:Option Tmp)(t t2:TypeId)(i n cap:Nat)(x:AV)(e:Env)(H:List az)(T:au):Prop:=
 ∃(el:TypeId) (vs xs:List AV) (m:Nat),C.P.underlying t=some (.slice el)/\H[i]?=some (.cells vs)/\vs.length=cap*C.P.cellsOf el/\gT H (C.P.cellsOf el) x=some (m,xs)/\(n+m)*C.P.bytesOf el<=140737488355328/\n+m<=9223372036854775807/\
  jT C.P t2=true/\(aZ C.P el).isSome=true/\
  (n+m<=cap->mI C dst (.bG i (n+m) cap) e (H.set i (.cells (vs.take (n*C.P.cellsOf el)++xs++vs.drop ((n+m)*C.P.cellsOf el)))) T K)/\
  ∀nc,cap<n+m->n+m<=nc->mI C dst (.bG H.length (n+m) nc) e (H++[.cells (vs.take (n*C.P.cellsOf el)++xs++List.replicate ((nc-(n+m))*C.P.cellsOf el) .top)]) T K
def kO (P:Program)(bx:List Nat)(o:Oper)(e:Env)(H:List az):Option (Nat×List AV×Nat):=
 match o.op,o.dst with
 |.call { callee:=.builtin .append,args,argTypes },some d=>
  if bx.contains (d+100000)=true then
   match argTypes.toList,args.toList.map (bN e) with
   |[t,t2],[s,x]=>match P.underlying t,oJ P H t t2 s x with
    |some (.slice el),some (m,ys)=>some (m,ys,P.cellsOf el)
    |_,_=>none
   |_,_=>none
  else none
 |_,_=>none
theorem Ae {P:Program}{bx:List Nat}{o:Oper}{e:Env}{a:Act}{L:Lay}{H:List az}{T:au}{w:World}{m z:Nat}{ys:List AV}(h:kO P bx o e H=some (m,ys,z))(hc:bW L H T w)(he:fD L H.length T w e a) :
  ∃nc,m<=nc/\∃cv w' L',(execOp a.eval o).run P w=.ok (.value cv) w'/\bW L' (H++[.cells (ys++List.replicate ((nc-m)*z) .top)]) T w'/\aY L' (H++[az.cells (ys++List.replicate ((nc-m)*z) .top)]).length T w' (.bG H.length m nc) cv/\
   Ev H.length T.length L H.length T w L' (H++[az.cells (ys++List.replicate ((nc-m)*z) .top)]).length T w':=by
 obtain⟨dst,op,type,pos,after,guard⟩:=o;unfold kO at h
 split at h
 ·rename_i args CL d' lL hd;simp only at lL;subst lL
  split at h
  ·split at h
   ·rename_i t t2 s x CR fm;have rE:CL=#[t,t2]:=by rw[<-Array.toList_inj];exact CR
    subst rE
    split at h
    ·rename_i el m' ys' hu hb
     cases h
     match vb:args.toList,fm with
     |[p,q],fm=>
      simp only[ahX,ajg,List.cons.injEq,aj1] at fm;obtain⟨e1,e2⟩:=fm;have h0:=he.bN p;have h1:=he.bN q;rw[e1] at h0;rw[e2] at h1;obtain⟨nc,lC,cv,w',L',cY,g1,g2,g3⟩:=FC (ty:=type) hc hb hu h0 h1;refine⟨nc,lC,cv,w',L',?_,g1,g2,g3⟩;have oA:args=#[p,q]:=by rw[<-Array.toList_inj];exact vb
      subst oA;simp only[execOp,resolve,Sem.run_bind,Sem.run_pure,Result.andThen_ok,invoke,builtin,map_toArray,ahX,ajg,cY]
    ·cases h
   ·cases h
  ·cases h
 ·cases h
def xr (o:Oper)(e:Env)(H:List az):Option (Nat×Nat×Nat×List Nat×List (cQ×AV)):=
 match o.op with
 |.next x false=>match bN e x with
  |.ptr i 0=>match H[i]? with
   |some (.mF m n seen)=>match H[m]? with
    |some (.map es)=>some (i,m,n,seen,es)
    |_=>none
   |_=>none
  |_=>none
 |_=>none
def Jk (C:Cx)(K:St->Prop)(dst:Option Tmp)(i m n:Nat)(seen:List Nat)(es:List (cQ×AV))(e:Env)(H:List az)(T:au):Prop:=
 n=es.length/\((∀j,j<n->j∈seen)->mI C dst (.df [.bool false]) e H T K)/\
  ∀(j:Nat)(k:cQ)(v:AV),es[j]?=some (k,v)->j∉seen->mI C dst (.df [.bool true,k.av,v]) e (H.set i (.mF m n (seen++[j]))) T K
def mO (P:Program)(o:Oper)(e:Env)(H:List az):Bool:=
 match o.op with
 |.call { callee:=.builtin .append,args,argTypes }=>
  match argTypes.toList,args.toList.map (bN e) with
  |[t,t2],[.sl 0 [] .full,x]=>match P.underlying t with
   |some (.slice el)=>match gT H (P.cellsOf el) x with
    |some (m,_)=>decide (m=0)&&(jT P t2&&(aZ P el).isSome)
    |none=>false
   |_=>false
  |_,_=>false
 |_=>false
theorem Ad {P:Program}{o:Oper}{e:Env}{a:Act}{L:Lay}{H:List az}{T:au}{w:World}(h:mO P o e H=true)(hc:bW L H T w)(he:fD L H.length T w e a) :
  ∃cv,(execOp a.eval o).run P w=.ok (.value cv) w/\aY L H.length T w (.sl 0 [] .full) cv:=by
 unfold mO at h
 split at h
 ·rename_i args CL lL
  split at h
  ·rename_i t t2 x CR fm
   split at h
   ·rename_i el hu
    split at h
    ·rename_i m ys m5;rw[aht,aht,ahv] at h;obtain⟨RP,tX,qM⟩:=h;subst RP;have rE:CL=#[t,t2]:=by rw[<-Array.toList_inj];exact CR
     subst rE;have jH:args.toList.length=2:=by have:=congrArg List.length fm;simpa using this
     match vb:args.toList,jH,fm with
     |[p,q],_,fm=>
      simp only[ahX,ajg,List.cons.injEq,aj1] at fm;obtain⟨e1,e2⟩:=fm;have hs:=he.bN p;have hx:=he.bN q;rw[e1] at hs;rw[e2] at hx;have oA:args=#[p,q]:=by rw[<-Array.toList_inj];exact vb
      subst oA;obtain⟨zs,qM⟩:=ahV.1 qM;obtain⟨i',z,hi,u6,Rg,C9⟩:=eH (L:=L) (N:=H.length) (T:=T) (w:=w) qM;have vN:P.cellsOf el=i'.size:=by simp[Program.cellsOf,hi]
      obtain⟨new,Gj,oT,hlen,hZ⟩:=eO (P:=P) hc hx m5;have yP:bW L H T w.drew:=hc.drew rfl;have kd:cX L H.length T w L H.length T w.drew:=(Ev.drew (H:=H) (T:=T) (L:=L) (w:=w) (w':=w.drew) rfl rfl rfl rfl (aid _)).keeps;obtain⟨lQ,_,oz,_,jC⟩:=eO (P:=P) yP (hx.keep kd) m5;have jO:gT H (P.cellsOf el) (.sl 0 [] .full)=some (0,[]):=by simp[gT]
      obtain⟨old,_,sO,_,oU⟩:=eO (P:=P) yP (hs.keep kd) jO;obtain⟨ad,cap,hsv,hcap,ht,_⟩:=hs.fM;rw[hsv] at oU;have h2:=fX (P:=P) (w:=w) (ty:=o.type) hu tX hi u6 (a:=ad) (n:=0) (cap:=cap) (m:=0) hlen (vN▸hZ) (vN▸jC) (vN▸oU) (by simp) (by simp);have hn0:new=[]:=ahT (by rw[oT.1];simpa using Gj);have h3:=h2.1 (by omega);rw[hn0] at h3;refine⟨.slice ad 0 cap,?_,.zj _ _ _ ht⟩;have h4:(Builtin.append_ #[t,t2] o.type #[a.eval p,a.eval q]).run P w=.ok (.slice ad 0 cap) w:=by
       rw[hsv,h3]
       cases ad<;>rfl
      simp only[execOp,lL,resolve,Sem.run_bind,Sem.run_pure,Result.andThen_ok,invoke,builtin,map_toArray,ahX,ajg,h4]
    ·cases h
   ·cases h
  ·cases h
 ·cases h
def Og (P:Program)(bx:List Nat)(o:Oper)(e:Env)(H:List az)(T:au):Option (AV×List az×au):=
 if (match o.dst with|some d=>bx.contains (d+100000)&&mO P o e H|none=>false)=true then some (.sl 0 [] .full,H,T) else Nw P o e H T
def ir (C:Cx)(all:Array Oper)(K:St->Prop):List Oper->St->Prop
 |[],s=>K s
 |o::r,s=>
  let exec:Prop:=match gR o s.e with
   |some (g,as)=>wJ C (ir C all K r) o.dst g as s
   |none=>match KG C.P o s.e with
    |some (n,q)=>∀b:Bool,(0<n->b=!q)->mI C o.dst (.bool b) s.e s.H s.T (ir C all K r)
    |none=>match KI C.P C.bx o s.e s.H with
     |some (m,ys)=>∀k:Nat,mI C o.dst (.cK s.H.length 0 m) s.e (s.H++[.cells (ys++List.replicate k .top)]) s.T (ir C all K r)
     |none=>match kO C.P C.bx o s.e s.H with
      |some (m,ys,z)=>∀nc:Nat,m<=nc->mI C o.dst (.bG s.H.length m nc) s.e (s.H++[.cells (ys++List.replicate ((nc-m)*z) .top)]) s.T (ir C all K r)
      |none=>match sG o s.e with
       |some (t,t2,i,n,cap,x)=>WI C (ir C all K r) o.dst t t2 i n cap x s.e s.H s.T
       |none=>match xr o s.e s.H with
        |some (i,m,n,seen,es)=>Jk C (ir C all K r) o.dst i m n seen es s.e s.H s.T
        |none=>match Og C.P C.bx o s.e s.H s.T with
         |some (v,H',T')=>mI C o.dst v s.e H' T' (ir C all K r)
         |none=>False
  match o.guard with
  |none=>exec
  |some (j,want)=>match pe all j s.e with
   |some b=>if b=some want then exec else mI C o.dst (.df []) s.e s.H s.T (ir C all K r)
   |none=>False
theorem tO {L:Lay}{N:Nat}{T:au}{w:World}{e:Env}{a:Act}{all:Array Oper}{j:Nat}{b:Option Bool}(he:fD L N T w e a)(h:pe all j e=some b):yielded all a.tmps j=b:=by
 unfold pe at h
 split at h
 ·rename_i d hd
  split at h
  ·rename_i b' hb
   cases h
   have hr:=he d;rw[hb] at hr;have:=hr.jG;unfold yielded;rw[hd];have Z4:a.tmps[d]?=some (.bool b'):=by
    simp only[ajP] at this
    cases hx:a.tmps[d]? with
    |none=>rw[hx] at this;simp[undef] at this
    |some v=>rw[hx] at this;simp at this;rw[this]
   simp[Z4]
  ·rename_i hb
   cases h
   have hr:=he d;rw[hb] at hr;unfold yielded;rw[hd];generalize hx:a.tmps.getD d undef=x at hr
   cases hr with
   |df _ cv h1 _=>
    cases hy:a.tmps[d]? with
    |none=>simp[hy]
    |some y=>
     have:y=.tuple cv:=by simpa[ajP,hy] using hx
     subst this;simp[hy]
  ·cases h
 ·cases h
theorem eQ.put {C:Cx}{s:St}{L L':Lay}{w w':World}{a:Act}{H':List az}{T':au}{v:AV}{cv:Value}{K:St->Prop}{dst:Option Tmp}(hc:eQ C s L w a)(hn:bW L' H' T' w')(hr:aY L' H'.length T' w' v cv)
  (ev:Ev s.H.length s.T.length L s.H.length s.T w L' H'.length T' w') (hp:mI C dst v s.e H' T' K):∃s',K s'/\s'.H=H'/\s'.T=T'/\eQ C s' L' w' (a.put dst cv):=by
 have uc:=hc.env.keep ev.keeps;have gG:=aho hc.nb ev.n;have fY:=aho hc.tb ev.t
 cases dst with
 |none=>exact⟨⟨s.e,H',T'⟩,hp,rfl,rfl,⟨gG,fY,hn,hc.size,hc.defers,uc⟩⟩
 |some d=>
  obtain⟨hd,hk⟩:=hp;refine⟨⟨Am.lW s.e d v,H',T'⟩,hk,rfl,rfl,⟨gG,fY,hn,by simp[Act.put,hc.size],hc.defers,uc.put (by rw[hc.size];exact hd) hr⟩⟩
theorem yz {C:Cx}{all:Array Oper}{K:St->Prop}:∀(l:List Oper)(s:St),ir C all K l s->∀L w a (L0:Lay) (s0:St) (w0:World),eQ C s L w a->Ev C.nb C.tb L0 s0.H.length s0.T w0 L s.H.length s.T w->
  wpList C.P all (cL C (dH K λ_ _=>False) L0 s0 w0) l a w:=by
 intro l
 induction l with
 |nil=>intro s h L w a L0 s0 w0 hc ev;exact⟨s,L,h,hc,ev⟩
 |cons o r ih=>
  intro s h L w a L0 s0 w0 hc ev;have Ve:(match gR o s.e with
   |some (g,as)=>wJ C (ir C all K r) o.dst g as s
   |none=>match KG C.P o s.e with
    |some (n,q)=>∀b:Bool,(0<n->b=!q)->mI C o.dst (.bool b) s.e s.H s.T (ir C all K r)
    |none=>match KI C.P C.bx o s.e s.H with
     |some (m,ys)=>∀k:Nat,mI C o.dst (.cK s.H.length 0 m) s.e (s.H++[.cells (ys++List.replicate k .top)]) s.T (ir C all K r)
     |none=>match kO C.P C.bx o s.e s.H with
      |some (m,ys,z)=>∀nc:Nat,m<=nc->mI C o.dst (.bG s.H.length m nc) s.e (s.H++[.cells (ys++List.replicate ((nc-m)*z) .top)]) s.T (ir C all K r)
      |none=>match sG o s.e with
       |some (t,t2,i,n,cap,x)=>WI C (ir C all K r) o.dst t t2 i n cap x s.e s.H s.T
       |none=>match xr o s.e s.H with
        |some (i,m,n,seen,es)=>Jk C (ir C all K r) o.dst i m n seen es s.e s.H s.T
        |none=>match Og C.P C.bx o s.e s.H s.T with
         |some (v,H',T')=>mI C o.dst v s.e H' T' (ir C all K r)
         |none=>False)->o.wp C.P a w (wpList C.P all (cL C (dH K λ_ _=>False) L0 s0 w0) r) (cL C (dH K λ_ _=>False) L0 s0 w0):=by
   intro hx
   split at hx
   ·rename_i g as jx;obtain⟨Q,⟨hcall,hq⟩,hk⟩:=hx;unfold gR at jx
    split at jx
    ·rename_i f args CL lL
     split at jx
     ·rename_i g' first bY hf
      cases jx
      have Rs:=hc.env.bN f;rw[hf] at Rs;generalize hfv:a.eval f=fv at Rs
      cases Rs with
      |fn _ _ _ fa ca h1 h2 yJ oS=>
       have cY:(execOp a.eval o).run C.P w=.ok (.enter g (fa++args.map a.eval++ca)) w:=by
        simp only[execOp,lL,resolve,hfv,Deferred.ofValue,Sem.run_bind,Sem.run_pure,Result.andThen_ok,invoke,hcall]
       unfold Oper.wp;rw[cY,Oper.upon_enter];have hall:Dj L s.H.length s.T w (first++args.toList.map (bN s.e)++bY) (fa++args.map a.eval++ca).toList:=by
        simp only[Array.toList_append,Array.toList_map];refine(Dj.append ⟨by simpa using h1,λj hj hj'=>by simpa using yJ j hj (by simpa using hj')⟩ ⟨by simp,λj hj hj'=>?_⟩).append ⟨by simpa using h2,λj hj hj'=>by simpa using oS j hj (by simpa using hj')⟩;simp only[aia];exact hc.env.bN _
       refine(hq L w _ hc.mV (by simpa using hall.1) (λj hj hj'=>by
        have h3:=hall.2 j hj (by rw[Array.length_toList];exact hj')
        rwa [aif] at h3)).mono ?_
       ·rintro e w' ⟨rr,H',T',L',cv,hQ,rfl,cO,dI,dD⟩;obtain⟨s',nB,e1,e2,jt⟩:=hc.put cO dI dD (hk _ _ _ hQ);exact ih s' nB L' w' _ L0 s0 w0 jt (ev.trans (by rw[e1,e2];exact dD.mono hc.nb hc.tb))
     ·cases jx
    ·cases jx
   ·split at hx
    ·rename_i n q tX;obtain⟨b,hb,cY⟩:=PQ tX hc.env;obtain⟨s',nB,e1,e2,jt⟩:=hc.put (v:=.bool b) (cv:=.bool b) hc.mV (.bool b) (Ev.refl (ahj _) (ahj _)) (hx b hb);unfold Oper.wp;rw[cY];exact ih s' nB L w _ L0 s0 w0 jt (by rw[e1,e2];exact ev)
    split at hx
    ·rename_i m ys Bb;obtain⟨k,cv,w',L',cY,cO,dI,dD⟩:=PT Bb hc.mV hc.env;obtain⟨s',nB,e1,e2,jt⟩:=hc.put cO dI dD (hx k);unfold Oper.wp;rw[cY];exact ih s' nB L' w' _ L0 s0 w0 jt (ev.trans (by rw[e1,e2];exact dD.mono hc.nb hc.tb))
    split at hx
    ·rename_i m ys z Bb;obtain⟨nc,lC,cv,w',L',cY,cO,dI,dD⟩:=Ae Bb hc.mV hc.env;obtain⟨s',nB,e1,e2,jt⟩:=hc.put cO dI dD (hx nc lC);unfold Oper.wp;rw[cY];exact ih s' nB L' w' _ L0 s0 w0 jt (ev.trans (by rw[e1,e2];exact dD.mono hc.nb hc.tb))
    split at hx
    ·rename_i t t2 i n cap x Ki;obtain⟨el,vs,xs,m,hu,hH,Nl,m5,qO,ub,tX,qM,hk1,gq⟩:=hx;unfold sG at Ki
     split at Ki
     ·rename_i args CL lL
      split at Ki
      ·rename_i t' t2' i' n' cap' x' CR fm
       cases Ki
       have rE:CL=#[t,t2]:=by rw[<-Array.toList_inj];exact CR
       subst rE;have jH:args.toList.length=2:=by have:=congrArg List.length fm;simpa using this
       match vb:args.toList,jH,fm with
       |[p,q],_,fm=>
        simp only[ahX,ajg,List.cons.injEq,aj1] at fm;obtain⟨e1,e2⟩:=fm;have h0:=hc.env.bN p;have h1:=hc.env.bN q;rw[e1] at h0;rw[e2] at h1;have oA:args=#[p,q]:=by rw[<-Array.toList_inj];exact vb
        subst oA;have hex:∀cv w',(Builtin.append_ #[t,t2] o.type #[a.eval p,a.eval q]).run C.P w=.ok cv w'->(execOp a.eval o).run C.P w=.ok (.value cv) w':=λcv w' hr=>by
         simp only[execOp,lL,resolve,Sem.run_bind,Sem.run_pure,Result.andThen_ok,invoke,builtin,map_toArray,ahX,ajg,hr]
        rcases D4 (ty:=o.type) hc.mV h0 h1 hu hH Nl m5 qO ub tX qM with⟨hle,cv,w',L',cY,cO,dI,dD⟩|⟨hlt,nc,lC,cv,w',L',cY,cO,dI,dD⟩
        ·obtain⟨s',nB,e1,e2,jt⟩:=hc.put cO dI dD (hk1 hle);unfold Oper.wp;rw[hex _ _ cY];exact ih s' nB L' w' _ L0 s0 w0 jt (ev.trans (by rw[e1,e2];exact dD.mono hc.nb hc.tb))
        ·obtain⟨s',nB,e1,e2,jt⟩:=hc.put cO dI dD (gq nc hlt lC);unfold Oper.wp;rw[hex _ _ cY];exact ih s' nB L' w' _ L0 s0 w0 jt (ev.trans (by rw[e1,e2];exact dD.mono hc.nb hc.tb))
      ·cases Ki
     ·cases Ki
    split at hx
    ·rename_i i m n seen es lM;obtain⟨rfl,hk1,gq⟩:=hx;unfold xr at lM
     split at lM
     ·rename_i x lL
      split at lM
      ·rename_i i' hxx
       split at lM
       ·rename_i m' n' agG hi
        split at lM
        ·rename_i es' hm
         cases lM
         have hp:=hc.env.bN x;rw[hxx] at hp;obtain⟨e2,hlt⟩:=hp.oF;have hex:∀cv w',(Instr.next (.pointer (some ⟨L.bO i,0,none⟩)) false o.type).run C.P w=.ok cv w'->(execOp a.eval o).run C.P w=.ok (.value cv) w':=λcv w' hr=>by
          simp only[execOp,lL,Sem.run_bind,e2,hr,Result.andThen_ok];rfl
         rcases LF hc.mV o.type hi hm with⟨hall,cY⟩|⟨j,hj,cv,w',XF,cY,cO,dI,dD⟩
         ·obtain⟨s',nB,e1,e2,jt⟩:=hc.put (v:=.df [.bool false]) (cv:=.tuple #[.bool false]) hc.mV (.df _ _ rfl (λj hj hj'=>by match j,hj with|0,_=>exact .bool _)) (Ev.refl (ahj _) (ahj _)) (hk1 hall);unfold Oper.wp;rw[hex _ _ cY];exact ih s' nB L w _ L0 s0 w0 jt (by rw[e1,e2];exact ev)
         ·obtain⟨s',nB,e1,e2,jt⟩:=hc.put cO dI dD (gq j _ _ (ahi hj) XF);unfold Oper.wp;rw[hex _ _ cY];exact ih s' nB L w' _ L0 s0 w0 jt (ev.trans (by rw[e1,e2];exact dD.mono hc.nb hc.tb))
        ·cases lM
       ·cases lM
      ·cases lM
     ·cases lM
    split at hx
    ·rename_i v H' T' lL;unfold Og at lL
     by_cases hz:(match o.dst with|some d=>C.bx.contains (d+100000)&&mO C.P o s.e s.H|none=>false)=true
     ·rw[ahs hz] at lL
      injection lL with h1
      injection h1 with h1 h2
      injection h2 with h2 h3
      subst h1;subst h2;subst h3;have hz:mO C.P o s.e s.H=true:=by
       split at hz
       ·exact(aht _ _▸hz).2
       ·cases hz
      obtain⟨cv,cY,dI⟩:=Ad hz hc.mV hc.env;obtain⟨s',nB,e1,e2,jt⟩:=hc.put hc.mV dI (Ev.refl (ahj _) (ahj _)) hx;unfold Oper.wp;rw[cY];exact ih s' nB L w _ L0 s0 w0 jt (by rw[e1,e2];exact ev)
     rw[ahq hz] at lL;obtain⟨n,cv,w',L',cY,hn,cO,dI,dD⟩:=A1 hc.mV hc.env lL;obtain⟨s',nB,e1,e2,jt⟩:=hc.put cO dI dD hx;unfold Oper.wp;rw[cY];have fin:=ih s' nB L' w' _ L0 s0 w0 jt (ev.trans (by rw[e1,e2];exact dD.mono hc.nb hc.tb));rcases hn with rfl|⟨rfl,rfl⟩
     ·exact fin
     ·exact fin
    ·exact hx.elim
  unfold wpList;unfold ir at h
  dsimp only at h
  split at h
  ·rename_i hg;rw[ahs (by simp[Region.wanted,hg])];exact .inl (Ve h)
  ·rename_i j want hg
   split at h
   ·rename_i b hb;have hy:=tO hc.env hb
    split at h
    ·rename_i yQ;rw[ahs (by simp[Region.wanted,hg,hy,yQ])];exact .inl (Ve h)
    ·rename_i yQ;rw[ahq (by simp[Region.wanted,hg,hy,yQ])];obtain⟨s',nB,e1,e2,jt⟩:=hc.put (v:=.df []) (cv:=undef) hc.mV (.df [] #[] rfl (λj hj=>by simp at hj)) (Ev.refl (ahj _) (ahj _)) h;exact ih s' nB L w _ L0 s0 w0 jt (by rw[e1,e2];exact ev)
   ·exact h.elim
theorem AZ {C:Cx}{id:Nat}{ops:List Oper}{K:St->Prop}{Q:Exit->St->Prop}{s:St}(h:ir C ops.toArray K ops ⟨prune C.nv s.e,s.H,s.T⟩):AW C (.region id ops.toArray false) (dH K Q) s:=by
 intro L w a hc;have jt:eQ C ⟨prune C.nv s.e,s.H,s.T⟩ L w a:=⟨hc.nb,hc.tb,hc.mV,hc.size,hc.defers,λt=>by
  rcases mC C.nv s.e t with e|e<;>rw[e]
  ·exact hc.env t
  ·exact .top _⟩
 refine wp_region_lit ?_;have:=yz ops _ h L w a L s w jt (Ev.refl hc.nb hc.tb);have key:∀(l:List Oper)(a:Act)(w':World),wpList C.P ops.toArray (cL C (dH K λ_ _=>False) L s w) l a w'->wpList C.P ops.toArray (cL C (dH K Q) L s w) l a w':=by
  intro l;have Dw:∀e a w',cL C (dH K λ_ _=>False) L s w e a w'->cL C (dH K Q) L s w e a w':=by
   rintro e a w' ⟨s',L',q,r⟩;refine⟨s',L',?_,r⟩
   cases e<;>first|exact q|exact q.elim
  induction l with
  |nil=>intro a w' h;exact Dw _ _ _ h
  |cons o r ih=>
   intro a w' h;unfold wpList at h ⊢
   split
   ·rename_i hw;rw[ahs hw] at h;rcases h with h|⟨h1,h2⟩
    ·refine .inl ?_;unfold Oper.wp at h ⊢;generalize (execOp a.eval o).run C.P w'=rr at h ⊢
     cases rr with
     |ok n w''=>
      cases n<;>simp only[Oper.upon] at h ⊢<;>first
       |exact ih _ _ h
       |exact h
       |(refine h.mono ?_
         intro e w3 he
         cases e with
         |returned v=>exact ih _ _ he
         |panicked ch=>exact Dw _ _ _ he
         |outgrown=>obtain⟨a0,w0,h0⟩:=he;exact⟨a0,w0,Dw _ _ _ h0⟩)
       |exact h.mono λv w3 he=>ih _ _ he
     |halt hh w''=>cases hh<;>simp only[Oper.upon] at h ⊢<;>first|exact Dw _ _ _ h|exact h
    ·obtain⟨a0,w0,h0⟩:=h2;exact .inr ⟨h1,a0,w0,Dw _ _ _ h0⟩
   ·rename_i hw;rw[ahq hw] at h;exact ih _ _ h
 exact key _ _ _ this
def Us {C:Cx}{c:Operand}{x y:Code}{Q:Exit->St->Prop}{s:St}{t:Bool}(hc:bN s.e c=.bool t)(h:if t=true then AW C x Q s else AW C y Q s):AW C (.cond c x y) Q s:=by
 intro L w a hs;have hr:=hs.env.bN c;rw[hc] at hr;refine wp_cond hr.jG ?_
 cases t
 ·exact h L w a hs
 ·exact h L w a hs
def Jf (P:Program)(s:St):ResultVar->Option AV
 |.tmp t=>some (bE s.e t)
 |.cell t ty=>match Oe s.H (bE s.e t) with
  |some (vs,o)=>rj P ty vs o
  |none=>none
def zO (P:Program)(s:St):List ResultVar->Option (List AV)
 |[]=>some []
 |x::r=>match Jf P s x,zO P s r with
  |some v,some vs=>some (v::vs)
  |_,_=>none
def SB (P:Program)(rs:List ResultVar)(s:St):Option AV:=
 match zO P s rs with
 |some [v]=>some v
 |some vs=>some (.df vs)
 |none=>none
def sJ (P:Program)(rs:List ResultVar)(Q:AV->List az->au->Prop):Exit->St->Prop
 |.ret,s|.normal,s=>match SB P rs s with
  |some v=>Q v s.H s.T
  |none=>False
 |_,_=>False
def Br (tmps:Array Value):ResultVar->Sem Value
 |.tmp t=>pure (tmps.getD t undef)
 |.cell t ty=>do loadVar ty (<-asAddr (tmps.getD t undef))
def HY (fn:Func)(tmps:Array Value):results fn tmps=(do let vs<-fn.results.mapM (Br tmps);pure (if h:vs.size=1 then vs[0] else .tuple vs)):=rfl
theorem yy {C:Cx}{s:St}{L:Lay}{w:World}{a:Act}{fn:Func}{v:AV}(hc:eQ C s L w a)(h:SB C.P fn.results.toList s=some v):∃cv,(results fn a.tmps).run C.P w=.ok cv w/\aY L s.H.length s.T w v cv:=by
 have one:∀x v,Jf C.P s x=some v->∃cv,(Br a.tmps x).run C.P w=.ok cv w/\aY L s.H.length s.T w v cv:=by
  intro x v hx
  cases x with
  |tmp t=>cases hx;exact⟨_,rfl,hc.env t⟩
  |cell t ty=>
   simp only[Jf] at hx
   split at hx
   ·rename_i vs o ua;obtain⟨b,base,cv,e2,hr,mb⟩:=yx hc.mV (hc.env t) ua;obtain⟨c,h1,h2⟩:=vx (P:=C.P) hr mb hx;refine⟨c,?_,h2⟩;simp only[Br,e2,asAddr,Sem.run_bind,Sem.run_pure,Result.andThen_ok];exact h1
   ·cases hx
 have many:∀l vs,zO C.P s l=some vs->∃cs:List Value,(l.mapM (Br a.tmps)).run C.P w=.ok cs w/\cs.length=vs.length/\∀(j:Nat)(h:j<vs.length)(h':j<cs.length),aY L s.H.length s.T w (vs[j]'h) (cs[j]'h'):=by
  intro l
  induction l with
  |nil=>intro vs hv;cases hv;exact⟨[],rfl,rfl,λj hj=>by simp at hj⟩
  |cons x r ih=>
   intro vs hv;simp only[zO] at hv
   split at hv
   ·rename_i v' vs' e1 e2
    cases hv
    obtain⟨cv,h1,h2⟩:=one x v' e1;obtain⟨cs,h3,h4,h5⟩:=ih vs' e2;refine⟨cv::cs,?_,by simp[h4],λj hj hj'=>?_⟩
    ·simp only[List.mapM_cons,Sem.run_bind,h1,Result.andThen_ok,h3,Sem.run_pure]
    ·cases j with
     |zero=>exact h2
     |succ j=>exact h5 j (by simpa using hj) (by simpa using hj')
   ·cases hv
 unfold SB at h
 cases hl:zO C.P s fn.results.toList with
 |none=>rw[hl] at h;cases h
 |some vs=>
  rw[hl] at h;obtain⟨cs,h1,h2,h3⟩:=many _ _ hl;have cY:(results fn a.tmps).run C.P w=.ok (if h:cs.toArray.size=1 then cs.toArray[0] else .tuple cs.toArray) w:=by
   rw[HY,Array.mapM_eq_mapM_toList];simp only[Sem.run_bind,Sem.run_map,h1,Result.andThen_ok];rfl
  refine⟨_,cY,?_⟩
  match vs,cs,h2,h3,h with
  |[v'],[c],_,h3,h=>cases h;exact h3 0 (by simp) (by simp)
  |[],[],_,h3,h=>cases h;exact .df _ _ rfl (λj hj=>by simp at hj)
  |v1::v2::vr,c1::c2::cr,h2,h3,h=>
   cases h
   rw[aj4 (by simp)];exact .df _ _ (by simpa using h2) (λj hj hj'=>by simpa using h3 j hj (by simpa using hj'))
def xd:Nat->List AV->Env
 |_,[]=>[]
 |k,v::r=>(k,v)::xd (k+1) r
theorem Ip:∀(l:List AV)(k t:Nat),bE (xd k l) t=if h:k<=t/\t-k<l.length then l[t-k]'h.2 else .top:=by
 intro l
 induction l with
 |nil=>intro k t;simp[xd,bE]
 |cons v r ih=>
  intro k t;simp only[xd,bE]
  by_cases XJ:k=t
  ·subst XJ;simp
  ·rw[ahq XJ,ih]
   by_cases h:k+1<=t/\t-(k+1)<r.length
   ·rw[aj3 h,aj3 (by simp;omega)];have:t-k=(t-(k+1))+1:=by omega
    simp[this]
   ·rw[aj4 h,aj4 (by simp;omega)]
def bJ (H:List az)(T:au):Prop:=∀(i:Nat)(b:az),H[i]?=some b->∀v∈b.Be,Below H.length T.length v
theorem aY.toBelow {L:Lay}{N:Nat}{T:au}{w:World}{v:AV}{c:Value}(h:aY L N T w v c):Below N T.length v:=by
 have mem:∀{P:AV->Prop} {cs:List AV},(∀(j:Nat)(h:j<cs.length),P (cs[j]'h))->∀c∈cs,P c:=by
  intro P cs hp c hc;obtain⟨j,hj,e⟩:=ahB.1 hc;rw[<-e];exact hp j hj
 have tag:∀{tg:Tag} {n u:Nat} {a:Option Addr} {cap:Nat},lY L T tg n u a cap->∀x,tg=.own x->x<T.length:=by
  intro tg n u a cap ht x e;subst e;obtain⟨u0,z,h0,_⟩:=ht;exact(ahh.1 h0).1
 induction h with
 |top v=>exact .top
 |bool b=>exact .bool b
 |int k x=>exact .int k x
 |str s=>exact .str s
 |gn=>exact .gn
 |ptr i o h=>exact .ptr i o h
 |eh cs o b base f hm hc h1 hr ih=>exact .eh cs o (mem ih)
 |zj tg a cap ht=>exact .sl 0 [] tg (λ_ h=>by simp at h) (tag ht)
 |Ra m cs tg b base cap f hcap hm hc h1 hr ht ih=>exact .sl m cs tg (mem ih) (tag ht)
 |cK i o m cap h hcap=>exact .cK i o m h
 |bG i m cap h hcap=>exact .bG i m cap h
 |aP i h=>exact .aP i h
 |fn f first bY fv cv h1 h2 yJ oS ih1 ih2=>exact .fn f first bY (mem λj hj=>ih1 j hj (by omega)) (mem λj hj=>ih2 j hj (by omega))
 |jr=>exact .jr
 |mY=>exact .mY
 |A8 t v=>exact .A8
 |agg cs cv h1 h2 hr ih=>exact .agg cs (mem λj hj=>ih j hj (by omega))
 |df cs cv h1 hr ih=>exact .df cs (mem λj hj=>ih j hj (by omega))
theorem bW.jK {L:Lay}{H:List az}{T:au}{w:World}(h:bW L H T w):bJ H T:=by
 intro i b hi v hv;have hb:=h.box i _ hi
 cases b with
 |cells vs=>
  obtain⟨c,t,fr,_,_,h3,_,h4,_⟩:=hb;obtain⟨j,hj,e⟩:=ahB.1 (show v∈vs from hv);rw[<-e];exact(h4 j hj (by omega)).toBelow
 |iter s pos=>simp at hv
 |map es=>
  obtain⟨dS,_,h2,h3,_⟩:=hb;obtain⟨x,hx,e⟩:=ahl.1 hv;obtain⟨j,hj,e2⟩:=ahB.1 hx;rw[<-e,<-e2];exact(h3 j hj (by omega)).2.2.toBelow
 |mF m n seen=>simp at hv
 |KB g p=>simp at hv
def ah {P:Program}{f:FuncId}{fn:Func}{c:Code}{args:List AV}{H:List az}{T:au}{Q:AV->List az->au->Prop}(nv:Nat)(bx:List Nat){nt:Nat}(UJ:fn.ntmps=nt)(hf:P.funcs[f]?=some fn)(hb:fn.body=some c)
  (hcall:∀as w,(callFunc f as).run P w=.ok (.enter f as) w) (hn:args.length<=nt) (h:bJ H T->AW ⟨P,nt,nv,H.length,T.length,bx⟩ c (sJ P fn.results.toList Q) ⟨xd 0 args,H,T⟩):ar P f args H T Q:=by
 subst UJ;refine⟨hcall,λL w ca hc hl hr=>calls_of_wp hf hb ?_⟩;have hst:eQ ⟨P,fn.ntmps,nv,H.length,T.length,bx⟩ ⟨xd 0 args,H,T⟩ L w { tmps:=ca++Array.replicate (fn.ntmps-ca.size) undef,defers:=[] }:=by
  refine⟨ahj _,ahj _,hc,by simp;omega,rfl,λt=>?_⟩;rw[Ip]
  by_cases ht:0<=t/\t-0<args.length
  ·rw[aj3 ht];have h2:t<ca.size:=by omega
   have e:(ca++Array.replicate (fn.ntmps-ca.size) undef).getD t undef=ca[t]:=by
    rw[ajP,Array.getElem?_append_left h2,ai7 h2];rfl
   rw[e];exact hr t (by omega) h2
  ·rw[aj4 ht];exact .top _
 refine wp_mono (h hc.jK L w _ hst) ?_;rintro e a' w' ⟨s',L',q,yN,dD⟩
 cases e<;>simp only[sJ] at q
 case normal=>
  split at q
  ·rename_i v hv;obtain⟨cv,h1,h2⟩:=yy (C:=⟨P,fn.ntmps,nv,H.length,T.length,bx⟩) yN hv;exact⟨yN.defers,cv,h1,v,s'.H,s'.T,L',cv,q,rfl,yN.mV,h2,dD⟩
  ·exact q.elim
 case ret=>
  split at q
  ·rename_i v hv;obtain⟨cv,h1,h2⟩:=yy (C:=⟨P,fn.ntmps,nv,H.length,T.length,bx⟩) yN hv;exact⟨yN.defers,cv,h1,v,s'.H,s'.T,L',cv,q,rfl,yN.mV,h2,dD⟩
  ·exact q.elim
def ae {C:Cx}{id:Nat}{ops:List Oper}{y:Code}{Q:Exit->St->Prop}{s:St}
  (h:∀K:St->Prop,(∀s,AW C y Q s->K s)->ir C ops.toArray K ops ⟨prune C.nv s.e,s.H,s.T⟩):AW C (.seq (.region id ops.toArray false) y) Q s:=
 xq λK hK=>AZ (h K hK)
def aB {C:Cx}{id:Nat}{ops:List Oper}{Q:Exit->St->Prop}{s:St}
  (h:∀K:St->Prop,(∀s,Q .normal s->K s)->ir C ops.toArray K ops ⟨prune C.nv s.e,s.H,s.T⟩):AW C (.region id ops.toArray false) Q s:=
 (AZ (Q:=Q) (h (λs=>Q .normal s) λ_ h=>h)).mono λe s q=>by cases e<;>exact q
def aT {C:Cx}{c:Operand}{x y:Code}{Q:Exit->St->Prop}{s:St}{t:Bool}(hc:bN s.e c=.bool t)(h1:t=true->AW C x Q s)(h2:t=false->AW C y Q s):AW C (.cond c x y) Q s:=
 Us hc (by cases t<;>simp<;>first|exact h1 rfl|exact h2 rfl)
def aG {C:Cx}{c:Operand}{x y:Code}{Q:Exit->St->Prop}{s:St}(hc:bN s.e c=.bool true)(h:AW C x Q s):AW C (.cond c x y) Q s:=aT hc (λ_=>h) (λh=>absurd h (by simp))
def aD {C:Cx}{c:Operand}{x y:Code}{Q:Exit->St->Prop}{s:St}(hc:bN s.e c=.bool false)(h:AW C y Q s):AW C (.cond c x y) Q s:=aT hc (λh=>absurd h (by simp)) (λ_=>h)
def af {C:Cx}{x y:Code}{Q:Exit->St->Prop}{s:St}(h:∀K:St->Prop,(∀s,AW C y Q s->K s)->AW C x (dH K Q) s):AW C (.seq x y) Q s:=xq h
def ak {C:Cx}{K:St->Prop}{dst:Option Tmp}{g:FuncId}{as:List AV}{s:St}{r:AV}{H':List az}{T':au}(h:ar C.P g as s.H s.T (Is r H' T'))(k:mI C dst r s.e H' T' K):wJ C K dst g as s:=
 ⟨_,h,λ_ _ _ ⟨e1,e2,e3⟩=>by subst e1;subst e2;subst e3;exact k⟩
@[simp] theorem wrap64 {x:Int} (h1:-9223372036854775808<=x) (h2:x<=9223372036854775807):IntKind.i64.wrap x=x:=by
 rw[IntKind.wrap_i64];omega
@[simp] theorem adx {x:Int} (h1:0<=x) (h2:x<=18446744073709551615):IntKind.u64.wrap x=x:=by
 show x % 18446744073709551616=x;exact Int.emod_eq_of_lt h1 (by omega)
def ints (xs:List Int):List AV:=xs.map (.int .i64)
def strs (xs:List (List UInt8)):List AV:=xs.map .str
section
variable {n t : Nat}
@[simp] theorem VE (xs:List Int):(ints xs).length=xs.length:=by simp[ints]
@[simp] theorem VB (xs:List (List UInt8)):(strs xs).length=xs.length:=by simp[strs]
@[simp] theorem aaY:ints []=[]:=rfl
@[simp] theorem aaJ:strs []=[]:=rfl
@[simp] theorem aa4:sF []=[]:=rfl
def FM (a b:List Int):ints a++ints b=ints (a++b):=by simp[ints]
def vw (a b:List (List UInt8)):strs a++strs b=strs (a++b):=by simp[strs]
def eG (a:List Int)(x:Int):ints a++[.int .i64 x]=ints (a++[x]):=by simp[ints]
def Lh (a:List (List UInt8))(x:List UInt8):strs a++[.str x]=strs (a++[x]):=by simp[strs]
def bI {xs:List Int}{k:Nat}(h:k<xs.length):(ints xs).getD k .top=.int .i64 (xs.getD k 0):=by
 simp[ints,h]
def AF {xs:List (List UInt8)}{k:Nat}(h:k<xs.length):(strs xs).getD k .top=.str (xs.getD k []):=by
 simp[strs,h]
def aK (n t:Nat)(cs:List AV):Prop:=∀c∈cs,Below n t c
@[simp] theorem X1:Below n t .top:=.top
@[simp] theorem Xy (b:Bool):Below n t (.bool b):=.bool b
@[simp] theorem X7 (k:IntKind) (x:Int):Below n t (.int k x):=.int k x
@[simp] theorem X2 (s:List UInt8):Below n t (.str s):=.str s
@[simp] theorem X3 {i o:Nat}:Below n t (.ptr i o)↔i<n:=⟨λh=>by cases h;assumption,λh=>.ptr i o h⟩
@[simp] theorem X6 {i o m:Nat}:Below n t (.cK i o m)↔i<n:=⟨λh=>by cases h;assumption,λh=>.cK i o m h⟩
@[simp] theorem Xw {i:Nat}:Below n t (.aP i)↔i<n:=⟨λh=>by cases h;assumption,λh=>.aP i h⟩
@[simp] theorem AY {i m cap:Nat}:Below n t (.bG i m cap)↔i<n:=⟨λh=>by cases h;assumption,λh=>.bG i m cap h⟩
@[simp] theorem X8 {cs:List AV}:Below n t (.agg cs)↔aK n t cs:=⟨λh=>by cases h;assumption,λh=>.agg cs h⟩
@[simp] theorem X0 {cs:List AV}:Below n t (.df cs)↔aK n t cs:=⟨λh=>by cases h;assumption,λh=>.df cs h⟩
@[simp] theorem RB {m:Nat} {cs:List AV}:Below n t (.sl m cs .none)↔aK n t cs:=⟨λh=>by cases h;assumption,λh=>.sl m cs .none h (λx e=>by cases e)⟩
@[simp] theorem RD {m:Nat} {cs:List AV}:Below n t (.sl m cs .full)↔aK n t cs:=⟨λh=>by cases h;assumption,λh=>.sl m cs .full h (λx e=>by cases e)⟩
@[simp] theorem Uy {m k:Nat} {cs:List AV}:Below n t (.sl m cs (.own k))↔aK n t cs/\k<t:=
 ⟨λh=>by cases h with|sl _ _ _ h1 h2=>exact⟨h1,h2 k rfl⟩,λh=>.sl m cs (.own k) h.1 (λx e=>by cases e;exact h.2)⟩
@[simp] theorem acK {f:FuncId} {a b:List AV}:Below n t (.fn f a b)↔aK n t a/\aK n t b:=⟨λh=>by cases h;exact⟨‹_›,‹_›⟩,λh=>.fn f a b h.1 h.2⟩
@[simp] theorem Xx {xs:List Int}:aK n t (ints xs):=by
 intro c hc;simp only[ints,ahl] at hc;obtain⟨x,_,rfl⟩:=hc;exact .int _ _
@[simp] theorem II {xs:List (List UInt8)}:aK n t (strs xs):=by
 intro c hc;simp only[strs,ahl] at hc;obtain⟨x,_,rfl⟩:=hc;exact .str _
end
@[simp] theorem UA {n t:Nat}:aK n t []:=λ_ h=>by simp at h
@[simp] theorem RE {n t:Nat} {c:AV} {cs:List AV}:aK n t (c::cs)↔Below n t c/\aK n t cs:=by simp[aK]
@[simp] theorem Ny {n t:Nat} {a b:List AV}:aK n t (a++b)↔aK n t a/\aK n t b:=by
 simp only[aK,ahw];exact⟨λh=>⟨λc hc=>h c (.inl hc),λc hc=>h c (.inr hc)⟩,λh c hc=>hc.elim (h.1 c) (h.2 c)⟩
@[simp] theorem Uz {n t k:Nat} {c:AV} (h:Below n t c):aK n t (List.replicate k c):=λx hx=>by rw[List.eq_of_mem_replicate hx];exact h
theorem aK.set {n t k:Nat}{c:AV}{cs:List AV}(h:aK n t cs)(hc:Below n t c):aK n t (cs.set k c):=λx hx=>by
 rcases List.mem_or_eq_of_mem_set hx with h1|h1
 ·exact h x h1
 ·rw[h1];exact hc
def bu (n t:Nat)(e:Env):Env->Prop
 |[]=>True
 |(s,v)::r=>(v=bE e s\/v=cG (bE e s))/\Below n t v/\bu n t e r
theorem MH {n t:Nat}{e:Env}:∀{e':Env},bu n t e e'->∀s,bE e' s=.top\/((bE e' s=bE e s\/bE e' s=cG (bE e s))/\Below n t (bE e' s)):=by
 intro e'
 induction e' with
 |nil=>intro _ s;exact .inl rfl
 |cons x r ih=>
  obtain⟨s0,v⟩:=x;intro h s
  by_cases hs:s0=s
  ·subst hs;simp only[bE,ai1];exact .inr ⟨h.1,h.2.1⟩
  ·simp only[bE,ahq hs];exact ih h.2.2 s
@[simp] theorem aeD {e:Env} {t:Tmp}:bN e (.tmp t)=bE e t:=rfl
@[simp] theorem Ya {e:Env} {v:Value}:bN e (.const v)=RJ v:=rfl
@[simp] theorem acO {e:Env} {f:FuncId}:bN e (.func f)=.fn f [] []:=rfl
def gvB:AV->Option (Option Bool)
 |.bool b=>some (some b)
 |.df []=>some none
 |_=>none
def gvO (e:Env):Option Tmp->Option (Option Bool)
 |some d=>gvB (bE e d)
 |none=>none
@[simp] theorem adF {all:Array Oper} {j:Nat} {e:Env}:pe all j e=gvO e ((all[j]?).bind (·.dst)):=by
 unfold pe gvO
 cases (all[j]?).bind (·.dst) with
 |none=>rfl
 |some d=>
  simp only;generalize bE e d=x
  cases x<;>first|rfl|(rename_i cs;cases cs<;>rfl)
@[simp] theorem aaZ {e:Env} {d:Tmp}:gvO e (some d)=gvB (bE e d):=rfl
@[simp] theorem aa0 {e:Env}:gvO e none=none:=rfl
@[simp] theorem aa2 {b:Bool}:gvB (.bool b)=some (some b):=rfl
@[simp] theorem aa1:gvB (.df [])=some none:=rfl
section
variable {C : Cx} {all : Array Oper} {K : St -> Prop} {o : Oper} {r : List Oper} {e : Env} {H : List az} {T : au}
@[simp] theorem acN:ir C all K [] ⟨e,H,T⟩=K ⟨e,H,T⟩:=rfl
@[simp] theorem X9:ir C all K (o::r) ⟨e,H,T⟩=(
  let exec:Prop:=match gR o e with
   |some (g,as)=>wJ C (ir C all K r) o.dst g as ⟨e,H,T⟩
   |none=>match KG C.P o e with
    |some (n,q)=>∀b:Bool,(0<n->b=!q)->mI C o.dst (.bool b) e H T (ir C all K r)
    |none=>match KI C.P C.bx o e H with
     |some (m,ys)=>∀k:Nat,mI C o.dst (.cK H.length 0 m) e (H++[.cells (ys++List.replicate k .top)]) T (ir C all K r)
     |none=>match kO C.P C.bx o e H with
      |some (m,ys,z)=>∀nc:Nat,m<=nc->mI C o.dst (.bG H.length m nc) e (H++[.cells (ys++List.replicate ((nc-m)*z) .top)]) T (ir C all K r)
      |none=>match sG o e with
       |some (t,t2,i,n,cap,x)=>WI C (ir C all K r) o.dst t t2 i n cap x e H T
       |none=>match xr o e H with
        |some (i,m,n,seen,es)=>Jk C (ir C all K r) o.dst i m n seen es e H T
        |none=>match Og C.P C.bx o e H T with
         |some (v,H',T')=>mI C o.dst v e H' T' (ir C all K r)
         |none=>False
  match o.guard with
  |none=>exec
  |some (j,want)=>match pe all j e with
   |some b=>if b=some want then exec else mI C o.dst (.df []) e H T (ir C all K r)
   |none=>False):=rfl
end
attribute [simp] Jg xx KG gR xr Nw prune xd mI RJ yR lW bE Jh SF SE SA aun uu rj jV Oe V0 Bv cG oP vo oO Bx Bz fU Bw gT We
 Og BA pE rK Vv setMany mT oh te jT BK SC Y2 KH tN KI sG kO oJ Jj Ji pV pI SB zO Jf sJ dH Hd Cw Nb bu
section
variable {P : Program}
def ru {o:Oper}{e e':Env}(h:∀x∈o.op.operands,bN e x=bN e' x):gR o e=gR o e':=by
 unfold gR
 cases ho:o.op<;>try rfl
 rename_i c;rw[ho] at h;obtain⟨callee,args,CL⟩:=c
 cases callee<;>try rfl
 rename_i f;have h1:=h f (by simp[Op.operands,Call.operands]);have h2:args.toList.map (bN e)=args.toList.map (bN e'):=ahW λx hx=>h x (by simp only[Op.operands,Call.operands];exact aje.2 (.inr (aiN.1 hx)));simp only[h1,h2]
theorem A4 {o:Oper}{e e':Env}(H:List az)(T:au)(h:∀x∈o.op.operands,bN e x=bN e' x):Nw P o e H T=Nw P o e' H T:=by
 have tV:∀(ps:Array (Nat×Operand)),(∀x∈(ps.toList.map (·.2)).toArray,bN e x=bN e' x)->ps.toList.map (fun(x:Nat×Operand)=>(x.1,bN e x.2))=ps.toList.map (fun(x:Nat×Operand)=>(x.1,bN e' x.2)):=by
  intro ps hp;refine ahW λx hx=>?_;rw[hp x.2 (by simp;exact⟨x.1,aiN.1 hx⟩)]
 have GF:∀(q:Option Operand),(∀x∈q.toArray,bN e x=bN e' x)->q.map (bN e)=q.map (bN e'):=by
  intro q hq
  cases q with
  |none=>rfl
  |some x=>simp only[ai4];rw[hq x (by simp)]
 unfold Nw
 cases ho:o.op<;>rw[ho] at h<;>(try simp only[Op.operands] at h)<;>try rfl
 case next x s=>
  have h0:=h x (by simp)
  cases s
  ·rfl
  ·simp only[h0]
 case makeMap t r=>cases r<;>rfl
 case build t ps=>simp only[tV ps h]
 case buildSlice t n ps=>simp only[tV ps h]
 case makeFunc fn first bY=>
  cases fn<;>try rfl
  have h1:first.toList.map (bN e)=first.toList.map (bN e'):=ahW λx hx=>h x (aje.2 (.inl (aiN.1 hx)));have h2:bY.toList.map (bN e)=bY.toList.map (bN e'):=ahW λx hx=>h x (aje.2 (.inr (aiN.1 hx)));simp only[h1,h2]
 case slice t x lo hi mx=>
  have h1:=GF lo (λy hy=>h y (by simp only[aje];exact .inl (.inl (.inr hy))));have h2:=GF hi (λy hy=>h y (by simp only[aje];exact .inl (.inr hy)));have h3:=GF mx (λy hy=>h y (by simp only[aje];exact .inr hy));have h0:=h x (by simp);simp only[h0,h1,h2,h3]
 case call c=>
  obtain⟨callee,args,CL⟩:=c
  cases callee<;>try rfl
  have h2:args.toList.map (bN e)=args.toList.map (bN e'):=ahW λx hx=>h x (by simp only[Call.operands];exact aje.2 (.inr (aiN.1 hx)));simp only[h2]
 all_goals (simp only[List.mem_toArray,ahL,List.not_mem_nil,aj2,forall_eq_or_imp,forall_eq] at h)
 all_goals first
  |simp only[h]
  |(obtain⟨h1,h2⟩:=h;simp only[h1,h2])
  |(obtain⟨h1,h2,h3⟩:=h;simp only[h1,h2,h3])
def dN (P:Program)(o:Oper)(e:Env)(H:List az)(T:au)(v:AV)(H':List az)(T':au):Prop:=
 match gR o e with
 |some (g,as)=>ar P g as H T (Is v H' T')
 |none=>Nw P o e H T=some (v,H',T')
def vG {o:Oper}{e e':Env}{H H':List az}{T T':au}{v:AV}(h:∀x∈o.op.operands,bN e x=bN e' x)(k:dN P o e H T v H' T'):dN P o e' H T v H' T':=by
 unfold dN at k ⊢;rw[<-ru h,<-A4 H T h];exact k
theorem tM {o:Oper}{e:Env}{H H':List az}{T T':au}{v:AV}(k:dN P o e H T v H' T'){L:Lay}{w:World}{a:Act}(hc:bW L H T w)(he:fD L H.length T w e a){K:Act->World->Prop}{Q:Exit->Act->World->Prop}
  (hk:∀cv w' L',bW L' H' T' w'->aY L' H'.length T' w' v cv->Ev H.length T.length L H.length T w L' H'.length T' w'->K (a.put o.dst cv) w'):o.wp P a w K Q:=by
 unfold dN at k
 split at k
 ·rename_i g as jx;obtain⟨hcall,hq⟩:=k;unfold gR at jx
  split at jx
  ·rename_i f args CL lL
   split at jx
   ·rename_i g' first bY hf
    cases jx
    have Rs:=he.bN f;rw[hf] at Rs;generalize hfv:a.eval f=fv at Rs
    cases Rs with
    |fn _ _ _ fa ca h1 h2 yJ oS=>
     have cY:(execOp a.eval o).run P w=.ok (.enter g (fa++args.map a.eval++ca)) w:=by
      simp only[execOp,lL,resolve,hfv,Deferred.ofValue,Sem.run_bind,Sem.run_pure,Result.andThen_ok,invoke,hcall]
     unfold Oper.wp;rw[cY,Oper.upon_enter];have hall:Dj L H.length T w (first++args.toList.map (bN e)++bY) (fa++args.map a.eval++ca).toList:=by
      simp only[Array.toList_append,Array.toList_map];refine(Dj.append ⟨by simpa using h1,λj hj hj'=>by simpa using yJ j hj (by simpa using hj')⟩ ⟨by simp,λj hj hj'=>?_⟩).append ⟨by simpa using h2,λj hj hj'=>by simpa using oS j hj (by simpa using hj')⟩;simp only[aia];exact he.bN _
     refine(hq L w _ hc (by simpa using hall.1) (λj hj hj'=>by
      have h3:=hall.2 j hj (by rw[Array.length_toList];exact hj')
      rwa [aif] at h3)).mono ?_
     rintro en w' ⟨rr,H2,T2,L',cv,⟨e1,e2,e3⟩,rfl,cO,dI,dD⟩;subst e1;subst e2;subst e3;exact hk cv w' L' cO dI dD
   ·cases jx
  ·cases jx
 ·obtain⟨n,cv,w',L',cY,hn,cO,dI,dD⟩:=A1 hc he k;unfold Oper.wp;rw[cY];have fin:=hk cv w' L' cO dI dD;rcases hn with rfl|⟨rfl,rfl⟩
  ·exact fin
  ·exact fin
end
structure bT where
 o:Oper
 e:Env
 run:Bool
 v:AV
 k:Nat
 bF:Bool
abbrev mW:=List az×au×Nat
def fF:List Oper->List Nat->List Nat
 |[],acc=>acc
 |o::r,acc=>fF r (acc++[o.after.foldl (λs e=>if Region.binds .any e then s ||| 2 ^ e.on ||| acc.getD e.on 0 else s) 0])
def nw (A:List Nat)(j i:Nat):Bool:=(A.getD i 0).testBit j
def OC (A:List Nat)(bF:List Nat)(i:Nat):Nat:=(bF.filter λe=>nw A e i).length
def jb (ops : List Oper) (bF : List Nat) (lo : List Nat) (na : List (List Nat)) : Bool :=
  let A := fF ops []
  let n := ops.length
  ((List.range n).all λi => (List.range n).all λj => i == j || (match (ops.getD i default).dst, (ops.getD j default).dst with | some d, some d' => d != d' | _, _ => true)) &&
  ((List.range n).all λi => ((ops.getD i default).looksAt ops.toArray).all λt => (List.range n).all λj => i == j || (ops.getD j default).dst != some t || (j < i && nw A j i) || (i < j && nw A i j)) &&
  ((List.range n).all λi => ((ops.getD i default).looksAt ops.toArray).all λt => (ops.getD i default).dst != some t) &&
  ((List.range bF.length).all λk => k == 0 || nw A (bF.getD (k - 1) 0) (bF.getD k 0)) && (bF.all λe => e < n) && (List.range bF.length).all (λk => k == 0 || bF.getD (k - 1) 0 < bF.getD k 0) &&
  ((List.range n).all λi => lo.getD i 0 <= OC A bF i) &&
  ((List.range bF.length).all λk => (List.range (bF.getD k 0)).all λj => bF.contains j || (na.getD k []).contains j || nw A j (bF.getD k 0)) &&
  ((List.range n).all λi => (ops.getD i default).after.all λe => !Region.binds .any e || e.on < i) && Region.noSelect ops.toArray
def Sr (P:Program)(o:Oper)(e:Env)(v:AV):List mW->Prop
 |[]=>True
 |(H,T,_)::r=>dN P o e H T v H T/\Sr P o e v r
def Sh (P:Program)(aQ:List bT)(H:List az)(T:au):List Nat->Prop
 |[]=>True
 |j::r=>(match aQ[j]? with
  |some x=>x.run=true->x.bF=false->dN P x.o x.e H T x.v H T
  |none=>True)/\Sh P aQ H T r
def wP (nt:Nat)(dst:Option Tmp)(v:AV)(e:Env)(k:Env->Prop):Prop:=
 match dst with
 |some d=>d<nt/\k (lW e d v)
 |none=>k e
structure wh where
 C:Cx
 all:Array Oper
 bF:List Nat
 lo:List Nat
 na:List (List Nat)
 K:St->Prop
def Bc (D:wh)(next:List bT->List mW->Env->Prop)(o:Oper)(aQ:List bT)(sts:List mW)(e:Env)(run:Bool)(v:AV)(H':List az)(T':au):Prop:=
 if D.bF.contains aQ.length then
  Sh D.C.P aQ H' T' (D.na.getD (sts.length-1) [])/\wP D.C.nt o.dst v e (next (aQ++[⟨o,e,run,v,sts.length-1,true⟩]) (sts++[(H',T',aQ.length)]))
 else
  (run=true->Sr D.C.P o e v ((sts.drop (D.lo.getD aQ.length 0)).dropLast))/\wP D.C.nt o.dst v e (next (aQ++[⟨o,e,run,v,sts.length-1,false⟩]) sts)
def OD (D:wh)(next:List bT->List mW->Env->Prop)(o:Oper)(aQ:List bT)(sts:List mW)(e:Env)(g:FuncId)(as:List AV)(H:List az)(T:au):Prop:=
 ∃v H' T',ar D.C.P g as H T (Is v H' T')/\(D.bF.contains aQ.length=false->H'=H/\T'=T)/\Bc D next o aQ sts e true v H' T'
def kM (D:wh)(next:List bT->List mW->Env->Prop)(o:Oper)(aQ:List bT)(sts:List mW)(e:Env)(H:List az)(T:au):Prop:=
 match gR o e with
 |some (g,as)=>OD D next o aQ sts e g as H T
 |none=>match Nw D.C.P o e H T with
  |some (v,H',T')=>(D.bF.contains aQ.length=false->H'=H/\T'=T)/\Bc D next o aQ sts e true v H' T'
  |none=>False
def gQ (D:wh):List Oper->List bT->List mW->Env->Prop
 |[],_,sts,e=>match sts.getLast? with
  |some (H,T,_)=>D.K ⟨e,H,T⟩
  |none=>False
 |o::r,aQ,sts,e=>match sts.getLast? with
  |some (H,T,_)=>match o.guard with
   |none=>kM D (gQ D r) o aQ sts e H T
   |some (j,want)=>match pe D.all j e with
    |some b=>if b=some want then kM D (gQ D r) o aQ sts e H T else Bc D (gQ D r) o aQ sts e false (.df []) H T
    |none=>False
  |none=>False
structure BB (nx:Nat)(D:wh)(ops:List Oper)(sts:List mW)(aQ:List bT)(i:Nat)(x:bT):Prop where
 o:ops[i]?=some x.o
 k:x.k<sts.length
 bF:x.bF=D.bF.contains i
 gate:match x.o.guard with
  |none=>x.run=true
  |some (j,want)=>∃b,pe D.all j x.e=some b/\x.run=(b==some want)
 dst:∀d,x.o.dst=some d->d<D.C.nt
 skip:x.run=false->x.v=.df []
 still:x.run=true->x.bF=false->∀k H T e,sts[k]?=some (H,T,e)->D.lo.getD i 0<=k->(k<=x.k\/(D.na.getD (k-1) []).contains i=true)->dN D.C.P x.o x.e H T x.v H T
 effect:x.bF=true->∃H T e H' T',sts[x.k]?=some (H,T,e)/\sts[x.k+1]?=some (H',T',i)/\(x.run=true->i≠nx->dN D.C.P x.o x.e H T x.v H' T')/\(x.run=false->H'=H/\T'=T)
def Jb (dst:Option Tmp)(e:Env)(v:AV):Env:=
 match dst with
 |some d=>lW e d v
 |none=>e
def xw (e:Env)(x:bT):Env:=Jb x.o.dst e x.v
def aV:Env->List bT->Env
 |e,[]=>e
 |e,x::r=>aV (xw e x) r
theorem iS (l:List bT):∀(e:Env)(x:bT),aV e (l++[x])=xw (aV e l) x:=by
 induction l with
 |nil=>intro e x;rfl
 |cons y r ih=>intro e x;exact ih _ x
def vD (e:Env)(x:bT)(t:Nat):bE (xw e x) t=if x.o.dst=some t then x.v else bE e t:=by
 unfold xw Jb
 split
 ·rename_i d hd
  by_cases h:d=t
  ·subst h;simp[hd,cI]
  ·rw[bB _ _ _ _ h,ahq (by rw[hd];intro e;exact h (by injection e))]
 ·rename_i hd;simp[hd]
theorem cE:∀(l:List bT)(e:Env)(t:Nat),(∀x∈l,x.o.dst≠some t)->bE (aV e l) t=bE e t:=by
 intro l
 induction l with
 |nil=>intro e t _;rfl
 |cons x r ih=>
  intro e t h;rw[aV,ih _ _ (λy hy=>h y (by simp[hy])),vD,ahq (h x (by simp))]
theorem fe:∀(l:List bT)(e:Env)(t j:Nat)(x:bT),l[j]?=some x->x.o.dst=some t->(∀i y,l[i]?=some y->y.o.dst=some t->i=j)->bE (aV e l) t=x.v:=by
 intro l
 induction l with
 |nil=>intro e t j x h;simp at h
 |cons y r ih=>
  intro e t j x h hd hu;rw[aV]
  cases j with
  |zero=>
   simp at h;subst h;rw[cE r _ t (λz hz IZ=>by
    obtain⟨i,hi,e1⟩:=ahB.1 hz;have:=hu (i+1) z (by simp[<-e1,hi]) IZ;omega),vD,ahs hd]
  |succ j=>
   exact ih _ t j x (by simpa using h) hd (λi z hi hz=>by have:=hu (i+1) z (by simpa using hi) hz;omega)
structure afD (D:wh)(aQ:List bT)(sts:List mW):Prop where
 len:sts.length=1+(D.bF.filter (·<aQ.length)).length
 k:∀(i:Nat)(x:bT),aQ[i]?=some x->x.k=(D.bF.filter (·<i)).length
def v8 {bF:List Nat}{i:Nat}(h:bF.contains i=false):(bF.filter (·<i+1)).length=(bF.filter (·<i)).length:=by
 congr 1
 apply ajV;intro x hx;have:x≠i:=by rintro rfl;simp at h;exact h hx
 simp;omega
def jP (bF:List Nat):Bool:=(List.range bF.length).all λk=>(bF.filter (·<bF.getD k 0)).length==k&&(bF.filter (·<bF.getD k 0+1)).length==k+1
def oM {bF:List Nat}(h:jP bF=true){i:Nat}(hi:bF.contains i=true):bF[(bF.filter (·<i)).length]?=some i/\(bF.filter (·<i+1)).length=(bF.filter (·<i)).length+1:=by
 simp only[aiZ] at hi;obtain⟨k,hk,e⟩:=ahB.1 hi;have:=ahQ.1 h k (ahI.2 hk);simp only[aht,ajb,ahg,ahi hk,aiU,e] at this;rw[this.1];exact⟨by rw[ahi hk,e],this.2⟩
theorem Ma {P:Program}{aQ:List bT}{H:List az}{T:au}:∀{l:List Nat},Sh P aQ H T l->∀j,l.contains j=true->∀x,aQ[j]?=some x->x.run=true->x.bF=false->dN P x.o x.e H T x.v H T:=by
 intro l
 induction l with
 |nil=>intro _ j hj;simp at hj
 |cons y r ih=>
  intro h j hj x hx h1 h2;obtain⟨g1,g2⟩:=h
  by_cases hy:j=y
  ·subst hy;rw[hx] at g1;exact g1 h1 h2
  ·exact ih g2 j (by simp only[List.contains_cons] at hj;simpa[hy] using hj) x hx h1 h2
theorem ME {P:Program}{o:Oper}{e:Env}{v:AV}:∀{l:List mW},Sr P o e v l->∀(j:Nat)(st:mW),l[j]?=some st->dN P o e st.1 st.2.1 v st.1 st.2.1:=by
 intro l
 induction l with
 |nil=>intro _ j st h;simp at h
 |cons y r ih=>
  obtain⟨H,T,i⟩:=y;intro h j st hj
  cases j with
  |zero=>simp at hj;subst hj;exact h.1
  |succ j=>exact ih h.2 j st (by simpa using hj)
structure iw (nx:Nat)(D:wh)(ops:List Oper)(e0:Env)(aQ:List bT)(sts:List mW)(e:Env):Prop where
 st:afD D aQ sts
 Kb:∀(i:Nat)(x:bT),aQ[i]?=some x->BB nx D ops sts aQ i x
 KE:∀(i:Nat)(x:bT),aQ[i]?=some x->x.e=aV e0 (aQ.take i)
 cur:e=aV e0 aQ
theorem qt {nt:Nat}{dst:Option Tmp}{v:AV}{e:Env}{k:Env->Prop}(h:wP nt dst v e k):(∀d,dst=some d->d<nt)/\k (Jb dst e v):=by
 cases dst with
 |none=>exact⟨λd e=>(by cases e),h⟩
 |some d=>exact⟨λd' e=>(by cases e;exact h.1),h.2⟩
def qC {nx:Nat}{D:wh}{ops:List Oper}{e0:Env}{aQ:List bT}{sts:List mW}{e:Env}{next:List bT->List mW->Env->Prop}{o:Oper}{run:Bool}{v:AV}{H H':List az}{T T':au}{i0:Nat}(kI:jP D.bF=true)(lM:D.bF.contains nx=true\/ops.length<=nx)
  (hw:iw nx D ops e0 aQ sts e) (nE:ops[aQ.length]?=some o) (dy:sts.getLast?=some (H,T,i0))
  (hgate:match o.guard with|none=>run=true|some (j,want)=>∃b,pe D.all j e=some b/\run=(b==some want)) (On:run=false->v=.df []/\H'=H/\T'=T) (cY:run=true->aQ.length≠nx->dN D.C.P o e H T v H' T')
  (W8:D.bF.contains aQ.length=false->H'=H/\T'=T) (h:Bc D next o aQ sts e run v H' T') :
  ∃bQ eC e',iw nx D ops e0 bQ eC e'/\bQ.length=aQ.length+1/\next bQ eC e'/\eC[0]?=sts[0]?/\eC≠[]/\(∃x,bQ=aQ++[x]/\(D.bF.contains aQ.length=true->x=⟨o,e,run,v,sts.length-1,true⟩))/\(∃q,eC=sts++q)/\(D.bF.contains aQ.length=true->eC=sts++[(H',T',aQ.length)]):=by
 have hne:sts≠[]:=by intro e;rw[e] at dy;cases dy
 have eV:0<sts.length:=ait.2 hne;have jv:sts[sts.length-1]?=some (H,T,i0):=by rw[<-dy,ajY]
 have hlen:=hw.st.len;unfold Bc at h
 split at h
 ·rename_i wS;obtain⟨hna,iY⟩:=h;obtain⟨lS,xa⟩:=qt iY;obtain⟨ek,es⟩:=oM kI wS;refine⟨_,_,_,⟨⟨?_,λi x hx=>?_⟩,λi x hx=>?_,λi x hx=>?_,?_⟩,by simp,xa,by rw[ahp eV],by simp,⟨_,rfl,λ_=>rfl⟩,⟨_,rfl⟩,λ_=>rfl⟩
  ·simp only[ahk,aib,hlen];rw[es];omega
  ·rcases ahr i aQ.length with hi|hi
   ·rw[ahp hi] at hx;exact hw.st.k i x hx
   ·have iV:i=aQ.length:=by have:=(ahh.1 hx).1;simp at this;omega
    subst iV;simp at hx;subst hx;simp;omega
  ·rcases ahr i aQ.length with hi|hi
   ·rw[ahp hi] at hx;have hr:=hw.Kb i x hx;refine⟨hr.o,by simp;have:=hr.k;omega,hr.bF,hr.gate,hr.dst,hr.skip,λh1 h2 k H2 T2 e2 hk hlo tW=>?_,λh1=>?_⟩
    ·rcases ahr k sts.length with gV|gV
     ·rw[ahp gV] at hk;exact hr.still h1 h2 k H2 T2 e2 hk hlo tW
     ·have nB:k=sts.length:=by have:=(ahh.1 hk).1;simp at this;omega
      subst nB;simp at hk;obtain⟨rfl,rfl,rfl⟩:=hk;rcases tW with tW|tW
      ·have:=hr.k;omega
      ·exact Ma hna i tW x hx h1 h2
    ·obtain⟨Ha,Ta,ea,Hb,Tb,g1,g2,g3,g4⟩:=hr.effect h1;have l1:=(ahh.1 g1).1;have l2:=(ahh.1 g2).1;exact⟨Ha,Ta,ea,Hb,Tb,by rw[ahp l1];exact g1,by rw[ahp l2];exact g2,g3,g4⟩
   ·have iV:i=aQ.length:=by have:=(ahh.1 hx).1;simp at this;omega
    subst iV;simp at hx;subst hx;refine⟨nE,(by rw[ahk,aib];exact(by omega:sts.length-1<sts.length+1)),wS.symm,hgate,lS,λhr=>(On hr).1,λ_ h2=>(by cases h2),λ_=>⟨H,T,i0,H',T',by show (sts++[_])[sts.length-1]?=_;rw[ahp (by omega)];exact jv,?_,cY,λhr=>(On hr).2⟩⟩;show (sts++[_])[sts.length-1+1]?=_;rw[show sts.length-1+1=sts.length by omega];simp
  ·rcases ahr i aQ.length with hi|hi
   ·rw[ahp hi] at hx;rw[air (by omega)];exact hw.KE i x hx
   ·have iV:i=aQ.length:=by have:=(ahh.1 hx).1;simp at this;omega
    subst iV;simp at hx;subst hx;rw[air (ahj _),ahE];exact hw.cur
  ·rw[iS,<-hw.cur];rfl
 ·rename_i wS;simp only[Bool.not_eq_true] at wS;obtain⟨hex,iY⟩:=h;obtain⟨lS,xa⟩:=qt iY;obtain⟨rfl,rfl⟩:=W8 wS;refine⟨_,_,_,⟨⟨?_,λi x hx=>?_⟩,λi x hx=>?_,λi x hx=>?_,?_⟩,by simp,xa,rfl,hne,⟨_,rfl,λh=>absurd h (by rw[wS];decide)⟩,⟨[],by simp⟩,λh=>absurd h (by rw[wS];decide)⟩
  ·simp only[ahk,aib,hlen];rw[v8 wS]
  ·rcases ahr i aQ.length with hi|hi
   ·rw[ahp hi] at hx;exact hw.st.k i x hx
   ·have iV:i=aQ.length:=by have:=(ahh.1 hx).1;simp at this;omega
    subst iV;simp at hx;subst hx;simp;omega
  ·rcases ahr i aQ.length with hi|hi
   ·rw[ahp hi] at hx;have hr:=hw.Kb i x hx;exact⟨hr.o,hr.k,hr.bF,hr.gate,hr.dst,hr.skip,hr.still,hr.effect⟩
   ·have iV:i=aQ.length:=by have:=(ahh.1 hx).1;simp at this;omega
    subst iV;simp at hx;subst hx;refine⟨nE,(by exact(by omega:sts.length-1<sts.length)),wS.symm,hgate,lS,λhr=>(On hr).1,λh1 _ k H2 T2 e2 hk hlo tW=>?_,λh=>(by cases h)⟩;simp only at hk hlo tW h1 ⊢;have gV:=(ahh.1 hk).1;rcases ahr k (sts.length-1) with hlt|hge
    ·have gq:((sts.drop (D.lo.getD aQ.length 0)).dropLast)[k-D.lo.getD aQ.length 0]?=some (H2,T2,e2):=by
      rw[List.getElem?_dropLast,ahs (by rw[ah4];omega),aiX,show D.lo.getD aQ.length 0+(k-D.lo.getD aQ.length 0)=k by omega];exact hk
     exact ME (hex h1) _ _ gq
    ·have nB:k=sts.length-1:=by omega
     subst nB;rw[jv] at hk
     cases hk
     exact cY h1 (λe=>by
      rcases lM with lM|lM
      ·rw[e,lM] at wS;cases wS
      ·have:=(ahh.1 nE).1;omega)
  ·rcases ahr i aQ.length with hi|hi
   ·rw[ahp hi] at hx;rw[air (by omega)];exact hw.KE i x hx
   ·have iV:i=aQ.length:=by have:=(ahh.1 hx).1;simp at this;omega
    subst iV;simp at hx;subst hx;rw[air (ahj _),ahE];exact hw.cur
  ·rw[iS,<-hw.cur];rfl
theorem vH {nx:Nat}{D:wh}{ops:List Oper}{e0:Env}(kI:jP D.bF=true)(lM:D.bF.contains nx=true\/ops.length<=nx):∀(l:List Oper)(aQ:List bT)(sts:List mW)(e:Env),iw nx D ops e0 aQ sts e->ops.drop aQ.length=l->aQ.length<=ops.length->gQ D l aQ sts e->
  ∃bQ eC H T i,iw nx D ops e0 bQ eC (aV e0 bQ)/\bQ.length=ops.length/\eC.getLast?=some (H,T,i)/\D.K ⟨aV e0 bQ,H,T⟩/\eC[0]?=sts[0]?/\(∃q,bQ=aQ++q)/\∃q,eC=sts++q:=by
 intro l
 induction l with
 |nil=>
  intro aQ sts e hw hl hle h;unfold gQ at h
  split at h
  ·rename_i H T i dy;have hlen:aQ.length=ops.length:=by
    have:=congrArg List.length hl;simp at this;omega
   have hc:=hw.cur;subst hc;exact⟨aQ,sts,H,T,i,hw,hlen,dy,h,rfl,⟨[],by simp⟩,⟨[],by simp⟩⟩
  ·exact h.elim
 |cons o r ih=>
  intro aQ sts e hw hl hle h;have hlt:aQ.length<ops.length:=by
   have:=congrArg List.length hl;simp at this;omega
  have nE:ops[aQ.length]?=some o:=by
   have:=congrArg (λl=>l[0]?) hl;simpa using this
  have ri:ops.drop (aQ.length+1)=r:=by
   have:=congrArg (λl=>l.drop 1) hl;simpa[ajG,Nat.add_comm] using this
  have fin:∀{H T i0 run v H' T'},sts.getLast?=some (H,T,i0)->(match o.guard with|none=>run=true|some (j,want)=>∃b,pe D.all j e=some b/\run=(b==some want))->(run=false->v=.df []/\H'=H/\T'=T)->(run=true->aQ.length≠nx->dN D.C.P o e H T v H' T')->
    (D.bF.contains aQ.length=false->H'=H/\T'=T)->Bc D (gQ D r) o aQ sts e run v H' T'->∃bQ eC H T i,iw nx D ops e0 bQ eC (aV e0 bQ)/\bQ.length=ops.length/\eC.getLast?=some (H,T,i)/\D.K ⟨aV e0 bQ,H,T⟩/\eC[0]?=sts[0]?/\(∃q,bQ=aQ++q)/\∃q,eC=sts++q:=by
   intro H T i0 run v H' T' dy hg h1 h2 h3 h4;obtain⟨bQ,eC,e',g1,g2,g3,g4,_,⟨x9,g9,_⟩,⟨q8,g8⟩,_⟩:=qC kI lM hw nE dy hg h1 h2 h3 h4;obtain⟨r2,s2,H2,T2,i2,k1,k2,k3,k4,k5,⟨q6,k6⟩,⟨q7,k7⟩⟩:=ih bQ eC e' g1 (by rw[g2];exact ri) (by omega) g3;exact⟨r2,s2,H2,T2,i2,k1,k2,k3,k4,k5.trans g4,⟨_,by rw[k6,g9,ahA]⟩,⟨_,by rw[k7,g8,ahA]⟩⟩
  have exec:∀{H T i0},sts.getLast?=some (H,T,i0)->(match o.guard with|none=>true=true|some (j,want)=>∃b,pe D.all j e=some b/\true=(b==some want))->kM D (gQ D r) o aQ sts e H T->
    ∃bQ eC H T i,iw nx D ops e0 bQ eC (aV e0 bQ)/\bQ.length=ops.length/\eC.getLast?=some (H,T,i)/\D.K ⟨aV e0 bQ,H,T⟩/\eC[0]?=sts[0]?/\(∃q,bQ=aQ++q)/\∃q,eC=sts++q:=by
   intro H T i0 dy hg hx;unfold kM at hx
   split at hx
   ·rename_i g as jx;obtain⟨v,H',T',hc,hs,hd⟩:=hx;refine fin (run:=true) dy hg (λe=>by cases e) (λ_ _=>?_) hs hd;unfold dN;rw[jx];exact hc
   ·rename_i jx
    split at hx
    ·rename_i v H' T' lL;refine fin (run:=true) dy hg (λe=>by cases e) (λ_ _=>?_) hx.1 hx.2;unfold dN;rw[jx];exact lL
    ·exact hx.elim
  unfold gQ at h
  split at h
  ·rename_i H T i0 dy
   split at h
   ·rename_i hg;exact exec dy (by rw[hg]) h
   ·rename_i j want hg
    split at h
    ·rename_i b hb
     split at h
     ·rename_i yQ;exact exec dy (by rw[hg];exact⟨b,hb,by simp[yQ]⟩) h
     ·rename_i yQ;exact fin (run:=false) dy (by rw[hg];exact⟨b,hb,by simp[yQ]⟩) (λ_=>⟨rfl,rfl,rfl⟩) (λe=>by cases e) (λ_=>⟨rfl,rfl⟩) h
    ·exact h.elim
  ·exact h.elim
theorem Fc:∀(l:List Oper)(acc:List Nat)(i:Nat),i<acc.length->(fF l acc)[i]?=acc[i]?:=by
 intro l
 induction l with
 |nil=>intro acc i _;rfl
 |cons o r ih=>
  intro acc i hi;rw[fF,ih _ _ (by simp;omega),ahp hi]
def xu (o:Oper)(acc:List Nat):Nat:=o.after.foldl (λs e=>if Region.binds .any e then s ||| 2 ^ e.on ||| acc.getD e.on 0 else s) 0
theorem Uv:∀(l:List Oper)(acc:List Nat)(i:Nat)(o:Oper),l[i]?=some o->∃Di,(fF l acc)[acc.length+i]?=some (xu o Di)/\Di.length=acc.length+i/\∀j,j<Di.length->Di[j]?=(fF l acc)[j]?:=by
 intro l
 induction l with
 |nil=>intro acc i o h;simp at h
 |cons p r ih=>
  intro acc i o h
  cases i with
  |zero=>
   simp at h;subst h;refine⟨acc,?_,by simp,λj hj=>(Fc _ _ j hj).symm⟩;rw[fF,Fc _ _ _ (by simp)];simp[xu]
  |succ i=>
   obtain⟨Di,h1,h2,h3⟩:=ih (acc++[xu p acc]) i o (by simpa using h);refine⟨Di,?_,by simp at h2;omega,h3⟩;rw[fF];simp at h1;rw[show acc.length+(i+1)=acc.length+1+i by omega];exact h1
theorem IP (o:Oper)(acc:List Nat)(j:Nat)(h:(xu o acc).testBit j=true):∃e∈o.after,Region.binds .any e=true/\(e.on=j\/(acc.getD e.on 0).testBit j=true):=by
 unfold xu at h;rw[<-Array.foldl_toList] at h;have key:∀(l:List Edge)(s:Nat),(l.foldl (λs e=>if Region.binds .any e then s ||| 2 ^ e.on ||| acc.getD e.on 0 else s) s).testBit j=true->s.testBit j=true\/∃e∈l,Region.binds .any e=true/\(e.on=j\/(acc.getD e.on 0).testBit j=true):=by
  intro l
  induction l with
  |nil=>intro s h;exact .inl h
  |cons e r ih=>
   intro s h;rcases ih _ h with h1|⟨e',h1,h2⟩
   ·dsimp only at h1
    split at h1
    ·rename_i hb;simp only[Nat.testBit_or,aic] at h1;rcases h1 with (h1|h1)|h1
     ·exact .inl h1
     ·rw[Nat.testBit_two_pow] at h1;exact .inr ⟨e,by simp,hb,.inl (by simpa using h1)⟩
     ·exact .inr ⟨e,by simp,hb,.inr h1⟩
    ·exact .inl h1
   ·exact .inr ⟨e',by simp[h1],h2⟩
 rcases key _ _ h with h1|⟨e,h1,h2⟩
 ·simp at h1
 ·exact⟨e,by simpa using h1,h2⟩
def je {ops:List Oper}{listed:Array Bool}(hcl:∀i j,listed.getD i false=true->nw (fF ops []) j i=true->listed.getD j false=true)
  {i:Nat} {o:Oper} (ho:ops[i]?=some o) (hr:∀e∈o.after,Region.binds .any e=true->listed.getD e.on false=true) (Dy:∀e∈o.after,Region.binds .any e=true->e.on<i) {j:Nat} (hj:nw (fF ops []) j i=true):listed.getD j false=true:=by
 obtain⟨Di,h1,h2,h3⟩:=Uv ops [] i o ho;simp at h1 h2;unfold nw at hj;rw[ahg,h1] at hj;obtain⟨e,he,hb,h4⟩:=IP o Di j hj;have hl:=hr e he hb;rcases h4 with h4|h4
 ·rw[<-h4];exact hl
 ·refine hcl e.on j hl ?_;unfold nw;have hlt:=Dy e he hb;rw[ahg,<-h3 e.on (by omega),<-getD_eq_getElem?_getD];exact h4
def ku {ops:List Oper}{bF lo:List Nat}{na:List (List Nat)}(h:jb ops bF lo na=true) :
  (∀(i j:Nat)(x y:Oper)(d:Tmp),ops[i]?=some x->ops[j]?=some y->x.dst=some d->y.dst=some d->i=j)/\
  (∀(i j:Nat)(x y:Oper)(t:Tmp),ops[i]?=some x->ops[j]?=some y->t∈x.looksAt ops.toArray->y.dst=some t->i≠j/\((j<i/\nw (fF ops []) j i=true)\/(i<j/\nw (fF ops []) i j=true)))/\
  (∀k e,bF[k]?=some e->e<ops.length/\(0<k->∃e',bF[k-1]?=some e'/\nw (fF ops []) e' e=true))/\
  (∀i,i<ops.length->lo.getD i 0<=OC (fF ops []) bF i)/\
  (∀k e,bF[k]?=some e->∀j,j<e->bF.contains j=true\/(na.getD k []).contains j=true\/nw (fF ops []) j e=true)/\
  (∀(i:Nat)(x:Oper),ops[i]?=some x->∀e∈x.after,Region.binds .any e=true->e.on<i)/\Region.noSelect ops.toArray=true:=by
 unfold jb at h;simp only[aht] at h;obtain⟨⟨⟨⟨⟨⟨⟨⟨⟨h1,h2⟩,h3⟩,h4⟩,h5⟩,h6⟩,h7⟩,h8⟩,h9⟩,NL⟩:=h;have at_:∀{i:Nat} {x:Oper},ops[i]?=some x->i<ops.length/\ops.getD i default=x:=λ{i x} hi=>by
  obtain⟨a,b⟩:=ahh.1 hi;exact⟨a,by rw[ahg,hi];rfl⟩
 have XU:∀{k e:Nat},bF[k]?=some e->k<bF.length/\bF.getD k 0=e:=λ{k e} hi=>by
  obtain⟨a,b⟩:=ahh.1 hi;exact⟨a,by rw[ahg,hi];rfl⟩
 refine⟨λi j x y d hi hj hx hy=>?_,λi j x y t hi hj ht hy=>?_,λk e hk=>⟨?_,λeV=>?_⟩,λi hi=>?_,λk e hk j hj=>?_,λi x hi e he hb=>?_,NL⟩
 ·obtain⟨a1,a2⟩:=at_ hi;obtain⟨b1,b2⟩:=at_ hj;have:=ahQ.1 (ahQ.1 h1 i (ahI.2 a1)) j (ahI.2 b1);rw[a2,b2,hx,hy] at this;simpa using this
 ·obtain⟨a1,a2⟩:=at_ hi;obtain⟨b1,b2⟩:=at_ hj;have hne:i≠j:=by
   rintro rfl;have e1:x=y:=by rw[hi] at hj;injection hj
   subst e1;have:=ahQ.1 (ahQ.1 h3 i (ahI.2 a1)) t (by rw[a2];exact ht);rw[a2,hy] at this;simp at this
  have:=ahQ.1 (ahQ.1 (ahQ.1 h2 i (ahI.2 a1)) t (by rw[a2];exact ht)) j (ahI.2 b1);rw[b2,hy] at this;refine⟨hne,?_⟩;simpa[hne] using this
 ·obtain⟨a1,a2⟩:=XU hk;have:=ahQ.1 h5 e (aiC hk);simpa using this
 ·obtain⟨a1,a2⟩:=XU hk;have:=ahQ.1 h4 k (ahI.2 a1);have hk0:(k==0)=false:=by simp;omega
  rw[hk0,a2] at this;have hk1:k-1<bF.length:=by omega
  refine⟨bF[k-1],ahi hk1,?_⟩;have e2:bF.getD (k-1) 0=bF[k-1]:=by rw[ahg,ahi hk1];rfl
  rw[e2] at this;simpa using this
 ·have:=ahQ.1 h7 i (ahI.2 hi);simpa using this
 ·obtain⟨a1,a2⟩:=XU hk;have:=ahQ.1 (ahQ.1 h8 k (ahI.2 a1)) j (ahI.2 (by rw[a2];exact hj));rw[a2] at this;simp only[aic] at this;rcases this with (h|h)|h
  ·exact .inl h
  ·exact .inr (.inl h)
  ·exact .inr (.inr h)
 ·obtain⟨a1,a2⟩:=at_ hi;have:=Array.all_eq_true_iff_forall_mem.1 (ahQ.1 h9 i (ahI.2 a1)) e (by rw[a2];exact he);rw[hb] at this;simpa using this
def ow (e:Env):List Tmp->Env
 |[]=>[]
 |t::r=>(t,bE e t)::ow e r
theorem ik (e:Env):∀(l:List Tmp)(t:Tmp),bE (ow e l) t=if t∈l then bE e t else .top:=by
 intro l
 induction l with
 |nil=>intro t;rfl
 |cons s r ih=>
  intro t;simp only[ow,bE]
  by_cases h:s=t
  ·subst h;simp
  ·rw[ahq h,ih];have:t≠s:=λe=>h e.symm;simp[this]
def VS (aQ:List bT)(listed:Array Bool)(e0:Env)(t:Nat)(v:AV):Prop:=
 (∃j x,aQ[j]?=some x/\x.o.dst=some t/\listed.getD j false=true/\v=x.v)\/
 ((∀j x,aQ[j]?=some x->x.o.dst=some t->listed.getD j false=false)/\v=bE e0 t)
structure Inv (D:wh)(s:St)(aQ:List bT)(sts:List mW)(L0:Lay)(w0:World)(listed:Array Bool)(a:Act)(w:World):Prop where
 size:listed.size=aQ.length
 closed:∀i j,listed.getD i false=true->nw (fF (aQ.map (·.o)) []) j i=true->listed.getD j false=true
 st:∃k H T e L,(∀(m i:Nat),D.bF[m]?=some i->(listed.getD i false=true↔m<k))/\k<=D.bF.length/\sts[k]?=some (H,T,e)/\bW L H T w/\D.C.nb<=H.length/\D.C.tb<=T.length/\
  (∀t,∃v,VS aQ listed s.e t v/\aY L H.length T w v (a.tmps.getD t undef))/\Ev D.C.nb D.C.tb L0 s.H.length s.T w0 L H.length T w
 tmps:a.tmps.size=D.C.nt
 defers:a.defers=[]
def cN {listed:Array Bool}{j:Nat}(h:j<listed.size):listed.getD j true=listed.getD j false:=by
 simp[h]
theorem Fb {P:Program}{ops:List Oper}{Q:Exit->Act->World->Prop}(d6:∀(i:Nat)(x:Oper),ops[i]?=some x->∀e∈x.after,Region.binds .any e=true->e.on<i)(I:Array Bool->Act->World->Prop)
  (hsz:∀listed a w,I listed a w->listed.size=ops.length) (yW:∀listed a w,I listed a w->(∀i,i<ops.length->listed.getD i false=true)->Q .normal a w)
  (aeL:∀(fuel:Nat)(listed:Array Bool)(a:Act)(w:World),I listed a w->∀i,i∈Region.ready .any ops.toArray listed->
   ((∀j,j<ops.length->(listed.setIfInBounds i true).getD j false=true)\/(List.range ops.length).countP (λj=>!(listed.setIfInBounds i true).getD j false)<=fuel)->
   (∀a' w',I (listed.setIfInBounds i true) a' w'->wpAny P .any ops.toArray Q fuel (listed.setIfInBounds i true) a' w')->
   wpOp P ops.toArray Q i (wpAny P .any ops.toArray Q fuel (listed.setIfInBounds i true)) a w) :
  ∀(fuel:Nat)(listed:Array Bool)(a:Act)(w:World),I listed a w->(∀i,i<ops.length->listed.getD i false=true)\/(List.range ops.length).countP (λi=>!listed.getD i false)<=fuel->
   wpAny P .any ops.toArray Q fuel listed a w:=by
 have Hy:∀(listed:Array Bool),listed.size=ops.length->Region.ready .any ops.toArray listed=[]->∀i,i<ops.length->listed.getD i false=true:=by
  intro listed hsz hr i
  induction i using Nat.strongRecOn with
  |_ i ih=>
   intro eN
   cases XH:listed.getD i false with
   |true=>rfl
   |false=>
    exfalso;have fS:i∈Region.ready .any ops.toArray listed:=by
     refine mem_ready.2 ⟨by rw[cN (by omega)];exact XH,ops[i],by rw[ahD,ahi eN],λe he hb=>?_⟩;have hlt:=d6 i _ (ahi eN) e he hb;exact ih e.on hlt (by omega)
    rw[hr] at fS;simp at fS
 intro fuel
 induction fuel with
 |zero=>
  intro listed a w hI Bn;have hall:∀i,i<ops.length->listed.getD i false=true:=by
   rcases Bn with h1|h1
   ·exact h1
   ·intro i hi;have h2:(List.range ops.length).countP (λi=>!listed.getD i false)=0:=by omega
    have:=List.countP_eq_zero.1 h2 i (ahI.2 hi);simpa using this
  refine⟨?_,yW listed a w hI hall⟩;rw[aiJ];intro i hi;obtain⟨h1,o,ho,_⟩:=mem_ready.1 hi;rw[ahD] at ho;have eN:=(ahh.1 ho).1;rw[cN (by rw[(hsz _ _ _ hI)];omega),hall i eN] at h1
  cases h1
 |succ fuel ih=>
  intro listed a w hI Bn;refine⟨λhr=>yW listed a w hI (Hy listed (hsz _ _ _ hI) hr),λi hi=>?_⟩;have Vk:i∈Region.ready .any ops.toArray listed->(∀j,j<ops.length->(listed.setIfInBounds i true).getD j false=true)\/(List.range ops.length).countP (λj=>!(listed.setIfInBounds i true).getD j false)<=fuel:=λhi=>?_
  ·exact aeL fuel listed a w hI i hi (Vk hi) λa' w' hI'=>ih _ a' w' hI' (Vk hi)
  obtain⟨h1,o,ho,_⟩:=mem_ready.1 hi;rw[ahD] at ho;have eN:=(ahh.1 ho).1;have px:i<listed.size:=by rw[(hsz _ _ _ hI)];omega
  rw[cN px] at h1;rcases Bn with h2|h2
  ·rw[h2 i eN] at h1;cases h1
  ·right
   have:(List.range ops.length).countP (λj=>!(listed.setIfInBounds i true).getD j false)+1<=(List.range ops.length).countP (λj=>!listed.getD j false):=by
    have agb:(List.range ops.length).countP (λj=>!listed.getD j false)=(List.range ops.length).countP (λj=>!(listed.setIfInBounds i true).getD j false)+(List.range ops.length).countP (λj=>decide (j=i)):=by
     generalize List.range ops.length=l
     induction l with
     |nil=>rfl
     |cons y r ihl=>
      simp only[List.countP_cons,ihl]
      by_cases hy:y=i
      ·subst hy;simp[h1,px];omega
      ·rw[getD_set_ne false (λe=>hy e.symm)];simp[hy];omega
    have eV:0<(List.range ops.length).countP (λj=>decide (j=i)):=List.countP_pos_iff.2 ⟨i,ahI.2 eN,by simp⟩;omega
   omega
theorem oc {C:Cx}{ops:List Oper}{Q:Exit->St->Prop}{s':St}{K:St->Prop}{bF lo:List Nat}{na:List (List Nat)}(kI:jb ops bF lo na=true)(qg:jP bF=true){nx:Nat}{L0:Lay}{w0:World}{D:wh}
  (kQ:D.C=C) (oY:D.bF=bF) (zz:D.lo=lo) (hDn:D.na=na) (R5:D.all=ops.toArray) {aQ:List bT} {sts:List mW} (hlen:aQ.length=ops.length) (hro:∀(i:Nat)(x:bT),aQ[i]?=some x->ops[i]?=some x.o)
  (Rk:Nat->Prop) (lM:∀i,Rk i->i≠nx) (hRk:∀(i:Nat)(x:bT),aQ[i]?=some x->Rk i->BB nx D ops sts aQ i x) (Ja:∀(i:Nat)(x:bT),aQ[i]?=some x->Rk i->x.e=aV s'.e (aQ.take i))
  (Rp:∀(i:Nat)(x:bT),aQ[i]?=some x->Rk i->x.k=(D.bF.filter (·<i)).length) (J:Array Bool->Prop) (hJ:∀listed i,Rk i->J listed->J (listed.setIfInBounds i true))
  (yW:∀(listed:Array Bool)(a:Act)(w:World),Inv D s' aQ sts L0 w0 listed a w->J listed->(∀i,i<ops.length->listed.getD i false=true)->cL C (dH K Q) L0 s' w0 .normal a w)
  (Xc:∀(fuel:Nat)(listed:Array Bool)(a:Act)(w:World),Inv D s' aQ sts L0 w0 listed a w->J listed->∀i,i∈Region.ready .any ops.toArray listed->¬Rk i->
   ((∀j,j<ops.length->(listed.setIfInBounds i true).getD j false=true)\/(List.range ops.length).countP (λj=>!(listed.setIfInBounds i true).getD j false)<=fuel)->
   wpOp C.P ops.toArray (cL C (dH K Q) L0 s' w0) i (wpAny C.P .any ops.toArray (cL C (dH K Q) L0 s' w0) fuel (listed.setIfInBounds i true)) a w) :
  ∀(fuel:Nat)(listed:Array Bool)(a:Act)(w:World),Inv D s' aQ sts L0 w0 listed a w->J listed->(∀i,i<ops.length->listed.getD i false=true)\/(List.range ops.length).countP (λi=>!listed.getD i false)<=fuel->
   wpAny C.P .any ops.toArray (cL C (dH K Q) L0 s' w0) fuel listed a w:=by
 obtain⟨d1,d2,d3,d4,d5,d6,d7⟩:=ku kI;have Sj:aQ.map (·.o)=ops:=by
  apply aja;intro i;rw[aip]
  by_cases hi:i<aQ.length
  ·rw[ahi hi,ai4,hro i _ (ahi hi)]
  ·rw[aiI (by omega),aiI (by omega)];rfl
 have aeR:∀i,i<ops.length->∃x:bT,aQ[i]?=some x:=λi hi=>⟨_,ahi (by omega)⟩
 have stp:∀(listed:Array Bool)(a:Act)(w:World)(i:Nat)(KK:Act->World->Prop),Inv D s' aQ sts L0 w0 listed a w->Rk i->i∈Region.ready .any ops.toArray listed->
   (∀a' w',Inv D s' aQ sts L0 w0 (listed.setIfInBounds i true) a' w'->KK a' w')->wpOp C.P ops.toArray (cL C (dH K Q) L0 s' w0) i KK a w:=by
  intro listed a w i KK hI RM hi WB;obtain⟨RO,o,ho,rO⟩:=mem_ready.1 hi;rw[ahD] at ho;have eN:i<ops.length:=(ahh.1 ho).1;have px:i<listed.size:=by rw[hI.size];omega
  have yV:listed.getD i false=false:=by rw[<-cN px];exact RO
  obtain⟨x,hx⟩:=aeR i eN;have NH:x.o=o:=by have:=hro i x hx;rw[ho] at this;injection this with this;exact this.symm
  have hR:=hRk i x hx RM;have hcl:∀i j,listed.getD i false=true->nw (fF ops []) j i=true->listed.getD j false=true:=by
   have:=hI.closed;rw[Sj] at this;exact this
  have kK:∀j,nw (fF ops []) j i=true->listed.getD j false=true:=λj hj=>je hcl ho rO (d6 i o ho) hj;obtain⟨k,H,T,e,L,hk,gV,qS,cO,gG,fY,gK,dD⟩:=hI.st;rw[oY] at hk gV;rw[kQ] at gG fY dD;have eE:∀t∈o.looksAt ops.toArray,∀v,VS aQ listed s'.e t v->v=bE x.e t:=by
   intro t ht v hv;rw[Ja i x hx RM];have Ri:∀(j:Nat)(z:bT),aQ[j]?=some z->z.o.dst=some t->i≠j/\((j<i/\nw (fF ops []) j i=true)\/(i<j/\nw (fF ops []) i j=true)):=λj z hz hd=>d2 i j o z.o t ho (hro j z hz) ht hd;rcases hv with⟨j,z,hz,hd,hl,rfl⟩|⟨hno,rfl⟩
   ·obtain⟨hne,h1|h1⟩:=Ri j z hz hd
    ·rw[fe (aQ.take i) s'.e t j z (by rw[ah9,ahs h1.1];exact hz) hd (λi' y' hy' YB=>by
      rw[ah9] at hy'
      split at hy'
      ·exact d1 i' j y'.o z.o t (hro i' y' hy') (hro j z hz) YB hd
      ·cases hy')]
    ·have:=hcl j i hl h1.2;rw[yV] at this;cases this
   ·rw[cE (aQ.take i) s'.e t (λz hz hd=>by
     obtain⟨j,hj,e1⟩:=ahB.1 hz;simp at hj;have hz':aQ[j]?=some z:=by rw[ahi (by omega),<-e1];simp
     have hf:=hno j z hz' hd;obtain⟨hne,h1|h1⟩:=Ri j z hz' hd
     ·have:=kK j h1.2;rw[hf] at this;cases this
     ·omega)]
  have uc:fD L H.length T w (ow x.e (o.looksAt ops.toArray)) a:=by
   intro t;rw[ik]
   split
   ·rename_i ht;obtain⟨v,hv,hr⟩:=gK t;rw[<-eE t ht v hv];exact hr
   ·exact .top _
  have GJ:∀z∈o.op.operands,bN x.e z=bN (ow x.e (o.looksAt ops.toArray)) z:=by
   intro z hz
   cases z with
   |tmp t=>
    have:t∈o.looksAt ops.toArray:=by
     unfold Oper.looksAt;exact ahw.2 (.inl (List.mem_filterMap.2 ⟨_,aiN.2 hz,rfl⟩))
    simp only[bN,ik,ahs this]
   |_=>rfl
  have behind:∀(H':List az)(T':au)(cv:Value)(w':World)(L':Lay),bW L' H' T' w'->aY L' H'.length T' w' x.v cv->Ev H.length T.length L H.length T w L' H'.length T' w'->
    ((bF.contains i=false/\H'=H/\T'=T)\/(bF.contains i=true/\bF[k]?=some i/\∃e',sts[k+1]?=some (H',T',e')))->KK (a.put o.dst cv) w':=by
   intro H' T' cv w' L' vm ma oq tW;refine WB _ _ ⟨by simp[hI.size],λi' j' jR kL=>?_,?_,?_,by cases o.dst<;>exact hI.defers⟩
   ·rw[Sj] at kL
    by_cases hii:i=i'
    ·subst hii;have:=kK j' kL
     by_cases hij:i=j'
     ·subst hij;rw[yV] at this;cases this
     ·rw[getD_set_ne false hij];exact this
    ·rw[getD_set_ne false hii] at jR;have:=hcl i' j' jR kL;exact getD_set_true this
   ·have kX:∀t,∃v,VS aQ (listed.setIfInBounds i true) s'.e t v/\aY L' H'.length T' w' v ((a.put o.dst cv).tmps.getD t undef):=by
     intro t
     by_cases hd:o.dst=some t
     ·refine⟨x.v,.inl ⟨i,x,hx,by rw[NH];exact hd,by simp[px],rfl⟩,?_⟩;have hlt:t<a.tmps.size:=by rw[hI.tmps];exact hR.dst t (by rw[NH];exact hd)
      rw[hd,jE a t t cv hlt,ahs rfl];exact ma
     ·obtain⟨v,hv,hr⟩:=gK t;refine⟨v,?_,?_⟩
      ·rcases hv with⟨j,z,hz,A9,hl,rfl⟩|⟨hno,rfl⟩
       ·exact .inl ⟨j,z,hz,A9,getD_set_true hl,rfl⟩
       ·refine .inr ⟨λj z hz A9=>?_,rfl⟩;have hij:i≠j:=by
         rintro rfl;rw[hx] at hz
         cases hz
         rw[NH] at A9;exact hd A9
        rw[getD_set_ne false hij];exact hno j z hz A9
      ·have e1:(a.put o.dst cv).tmps.getD t undef=a.tmps.getD t undef:=by
        cases lS:o.dst with
        |none=>rfl
        |some d=>
         have hlt:d<a.tmps.size:=by rw[hI.tmps];exact hR.dst d (by rw[NH];exact lS)
         rw[jE a d t cv hlt,ahq (λe=>hd (by rw[lS,e]))]
       rw[e1];exact hr.keep oq.keeps
    have Zu:=dD.trans (oq.mono gG fY);rcases tW with⟨hne,rfl,rfl⟩|⟨heq,zx,e',Wk⟩
    ·refine⟨k,H',T',e,L',λm i' yG=>?_,by rw[oY];exact gV,qS,vm,by rw[kQ];exact gG,by rw[kQ];exact fY,kX,by rw[kQ];exact Zu⟩;rw[oY] at yG;have hii:i≠i':=by
      rintro rfl;have:=aiC yG;rw[<-List.contains_iff_mem] at this;rw[hne] at this;cases this
     rw[getD_set_ne false hii];exact hk m i' yG
    ·refine⟨k+1,H',T',e',L',λm i' yG=>?_,by rw[oY];have:=(ahh.1 zx).1;omega,Wk,vm,by rw[kQ];exact aho gG oq.n,by rw[kQ];exact aho fY oq.t,kX,by rw[kQ];exact Zu⟩;rw[oY] at yG
     by_cases hii:i=i'
     ·subst hii;have e1:=(oM qg heq).1;have XG:∀m',bF[m']?=some i->m'=(bF.filter (·<i)).length:=by
       intro m' Zl;have kH:=(ahh.1 Zl).1;have:=ahQ.1 qg m' (ahI.2 kH);simp only[aht,ajb,ahg,Zl,aiU] at this;exact this.1.symm
      have h1:=XG m yG;have h2:=XG k zx;simp[px];omega
     ·rw[getD_set_ne false hii,hk m i' yG]
      constructor
      ·intro h;omega
      ·intro h;rcases ahr m k with h1|h1
       ·exact h1
       ·have:m=k:=by omega
        subst this;rw[zx] at yG
        injection yG with yG
        exact absurd yG hii
   ·simp[Act.put];cases o.dst<;>simp[hI.tmps]
  have O0:bF.contains i=true->bF[k]?=some i/\x.k=k:=by
   intro heq;obtain⟨e1,_⟩:=oM qg heq;have CP:=Rp i x hx RM;rw[oY] at CP;have hge:k<=(bF.filter (·<i)).length:=by
    rcases ahr (bF.filter (·<i)).length k with h1|h1
    ·have:=(hk _ i e1).2 h1;rw[yV] at this;cases this
    ·exact h1
   have hle:(bF.filter (·<i)).length<=k:=by
    rcases ahR (bF.filter (·<i)).length with h0|h0
    ·omega
    ·obtain⟨e',h1,h2⟩:=(d3 _ i e1).2 h0;have:=(hk _ e' h1).1 (kK e' h2);omega
   have:(bF.filter (·<i)).length=k:=by omega
   exact⟨by rw[<-this];exact e1,by omega⟩
  have hgv:∀j b,pe D.all j x.e=some b->o.guard=some (j,true)\/o.guard=some (j,false)->yielded ops.toArray a.tmps j=b:=by
   intro j b hb hg;rw[R5] at hb;refine tO uc ?_;unfold pe at hb ⊢
   split at hb
   ·rename_i d hd;have:d∈o.looksAt ops.toArray:=by
     unfold Oper.looksAt;refine ahw.2 (.inr ?_);rcases hg with hg|hg<;>rw[hg]<;>simp only[hd]<;>simp
    rw[ik,ahs this];exact hb
   ·cases hb
  unfold wpOp;rw[ahD,ho]
  dsimp only
  have hgate:=hR.gate;rw[NH] at hgate
  by_cases cY:x.run=true
  ·
   have sP:Region.wanted o (yielded ops.toArray a.tmps)=true:=by
    unfold Region.wanted
    cases hg:o.guard with
    |none=>rfl
    |some jw=>
     obtain⟨j,want⟩:=jw;rw[hg] at hgate;obtain⟨b,hb,kP⟩:=hgate;have:=hgv j b hb (by cases want<;>simp[hg]);rw[cY] at kP;simp only[this];have yQ:b=some want:=by simpa using kP.symm
     simp[yQ]
   rw[ahs sP];refine .inl ?_;have hxx:∃H' T',dN C.P o x.e H T x.v H' T'/\((bF.contains i=false/\H'=H/\T'=T)\/(bF.contains i=true/\bF[k]?=some i/\∃e',sts[k+1]?=some (H',T',e'))):=by
    cases heq:bF.contains i with
    |false=>
     have Yn:x.bF=false:=by rw[hR.bF,oY];exact heq
     have hst:=hR.still cY Yn k H T e qS ?_ ?_
     ·rw[kQ,NH] at hst;exact⟨H,T,hst,.inl ⟨rfl,rfl,rfl⟩⟩
     ·rw[zz];refine aho (d4 i eN) ?_;unfold OC;have hsub:∀e'∈bF.filter (λe=>nw (fF ops []) e i),∃m,m<k/\bF[m]?=some e':=by
       intro e' CG;obtain⟨h1,h2⟩:=ahF.1 CG;obtain⟨m,Ro,Rn⟩:=ahB.1 h1;have hm3:bF[m]?=some e':=by rw[ahi Ro,Rn]
       exact⟨m,(hk m e' hm3).1 (kK e' h2),hm3⟩
      have hle:(bF.filter (λe=>nw (fF ops []) e i)).length<=(bF.take k).length:=by
       have e1:bF.filter (λe=>nw (fF ops []) e i)=(bF.take k).filter (λe=>nw (fF ops []) e i)++(bF.drop k).filter (λe=>nw (fF ops []) e i):=by
        rw[<-List.filter_append,ahM]
       have e2:(bF.drop k).filter (λe=>nw (fF ops []) e i)=[]:=by
        rw[aiW];intro e' CG kL;obtain⟨m,Ro,Rn⟩:=ahB.1 CG;simp at Ro;have hm3:bF[k+m]?=some e':=by
         rw[ahi (by omega),<-Rn];simp
        have:=(hk (k+m) e' hm3).1 (kK e' kL);omega
       rw[e1,e2,ahH];exact ahU _ _
      refine aho hle ?_;simp;omega
     ·rcases ahr x.k k with hlt|hge
      ·right
       rw[hDn];have hkk:k-1<bF.length:=by omega
       have CG:=ahi hkk;have CT:=(hk (k-1) _ CG).2 (by omega);have UO:i<bF[k-1]:=by
        rcases ahr i bF[k-1] with h1|h1
        ·exact h1
        ·exfalso;have hne:bF[k-1]≠i:=by
          intro e1;have:=aiC CG;rw[e1,<-List.contains_iff_mem] at this;rw[heq] at this;cases this
         have CP:=Rp i x hx RM;rw[oY] at CP;have h2:=ahQ.1 qg (k-1) (ahI.2 hkk);simp only[aht,ajb,ahg,CG,aiU] at h2;have h3:(bF.filter (·<bF[k-1]+1)).length<=(bF.filter (·<i)).length:=by
          rw[<-List.countP_eq_length_filter,<-List.countP_eq_length_filter];exact List.countP_mono_left (λz _ hz=>by simp at hz ⊢;omega)
         omega
       rcases d5 (k-1) _ CG i UO with h1|h1|h1
       ·rw[heq] at h1;cases h1
       ·exact h1
       ·have:=hcl _ i CT h1;rw[yV] at this;cases this
      ·exact .inl hge
    |true=>
     have Yn:x.bF=true:=by rw[hR.bF,oY];exact heq
     obtain⟨zx,CP⟩:=O0 heq;obtain⟨Ha,Ta,ea,Hb,Tb,g1,g2,g3,_⟩:=hR.effect Yn;rw[CP,qS] at g1;obtain⟨rfl,rfl⟩:H=Ha/\T=Ta:=by injection g1 with h1;injection h1 with h1 h2;injection h2 with h2 h3;exact⟨h1,h2⟩
     rw[CP] at g2;have:=g3 cY (lM i RM);rw[kQ,NH] at this;exact⟨Hb,Tb,this,.inr ⟨rfl,zx,i,g2⟩⟩
   obtain⟨H',T',hex,tW⟩:=hxx;exact tM (vG GJ hex) cO uc λcv w' L' g1 g2 g3=>behind H' T' cv w' L' g1 g2 g3 tW
  ·
   have Dv:x.run=false:=by simpa using cY
   have sP:Region.wanted o (yielded ops.toArray a.tmps)=false:=by
    unfold Region.wanted
    cases hg:o.guard with
    |none=>rw[hg] at hgate;rw[hgate] at Dv;cases Dv
    |some jw=>
     obtain⟨j,want⟩:=jw;rw[hg] at hgate;obtain⟨b,hb,kP⟩:=hgate;have:=hgv j b hb (by cases want<;>simp[hg]);rw[Dv] at kP;simp only[this];have yQ:b≠some want:=by simpa using kP.symm
     simp[yQ]
   rw[ahq (by simp[sP])];have hv:x.v=.df []:=hR.skip Dv
   cases heq:bF.contains i with
   |false=>exact behind H T undef w L cO (by rw[hv];exact .df [] #[] rfl (λj hj=>by simp at hj)) (Ev.refl (ahj _) (ahj _)) (.inl ⟨heq,rfl,rfl⟩)
   |true=>
    have Yn:x.bF=true:=by rw[hR.bF,oY];exact heq
    obtain⟨zx,CP⟩:=O0 heq;obtain⟨Ha,Ta,ea,Hb,Tb,g1,g2,_,g4⟩:=hR.effect Yn;rw[CP,qS] at g1;obtain⟨rfl,rfl⟩:H=Ha/\T=Ta:=by injection g1 with h1;injection h1 with h1 h2;injection h2 with h2 h3;exact⟨h1,h2⟩
    obtain⟨rfl,rfl⟩:=g4 Dv;rw[CP] at g2;exact behind _ _ undef w L cO (by rw[hv];exact .df [] #[] rfl (λj hj=>by simp at hj)) (Ev.refl (ahj _) (ahj _)) (.inr ⟨heq,zx,i,g2⟩)
 intro fuel listed a w hI Rv Bn;refine Fb d6 (λl a w=>Inv D s' aQ sts L0 w0 l a w/\J l) (λl a w h=>by rw[h.1.size,hlen]) (λl a w h=>yW l a w h.1 h.2) (λfuel l a w h i hi hc hk=>?_) fuel listed a w ⟨hI,Rv⟩ Bn
 by_cases RM:Rk i
 ·exact stp l a w i _ h.1 RM hi λa' w' hI'=>hk a' w' ⟨hI',hJ _ _ RM h.2⟩
 ·exact Xc fuel l a w h.1 h.2 i hi RM hc
def uU {C:Cx}{ops:List Oper}{Q:Exit->St->Prop}{s:St}(K:St->Prop)(bF lo:List Nat)(na:List (List Nat))(kI:jb ops bF lo na=true)(qg:jP bF=true)
  (h:gQ ⟨C,ops.toArray,bF,lo,na,K⟩ ops [] [(s.H,s.T,0)] (prune C.nv s.e)):∀L0 w0 a0,eQ C s L0 w0 a0->
   wpAny C.P .any ops.toArray (cL C (dH K Q) L0 s w0) ops.toArray.size (Array.replicate ops.toArray.size false) a0 { w0 with drawn:=w0.drawn+1 }:=by
 intro L0 w0 a0 mG;have hc:eQ C ⟨prune C.nv s.e,s.H,s.T⟩ L0 w0 a0:=⟨mG.nb,mG.tb,mG.mV,mG.size,mG.defers,λt=>by
  rcases mC C.nv s.e t with e|e<;>rw[e]
  ·exact mG.env t
  ·exact .top _⟩
 generalize hs':(⟨prune C.nv s.e,s.H,s.T⟩:St)=s' at hc;have hs1:prune C.nv s.e=s'.e:=by rw[<-hs']
 have hs2:s.H=s'.H:=by rw[<-hs']
 have Gn:s.T=s'.T:=by rw[<-hs']
 rw[hs1,hs2,Gn] at h;rw[show cL C (dH K Q) L0 s w0=cL C (dH K Q) L0 s' w0 by unfold cL;rw[hs2,Gn]];clear hs' hs1 hs2 Gn mG;generalize hD:(⟨C,ops.toArray,bF,lo,na,K⟩:wh)=D at h;have kQ:D.C=C:=by rw[<-hD]
 have oY:D.bF=bF:=by rw[<-hD]
 have zz:D.lo=lo:=by rw[<-hD]
 have hDn:D.na=na:=by rw[<-hD]
 have R5:D.all=ops.toArray:=by rw[<-hD]
 have hDK:D.K=K:=by rw[<-hD]
 obtain⟨aQ,sts,HL,TL,iL,hw,hlen,dy,hKK,Wj,_,_⟩:=vH (nx:=ops.length) (D:=D) (ops:=ops) (e0:=s'.e) (by rw[oY];exact qg) (.inr (ahj _)) ops [] [(s'.H,s'.T,0)] s'.e
  ⟨⟨by simp,λi x hx=>by simp at hx⟩,λi x hx=>by simp at hx,λi x hx=>by simp at hx,rfl⟩ (by simp) (by simp) h
 obtain⟨d1,d2,d3,d4,d5,d6,d7⟩:=ku kI;have hro:∀(i:Nat)(x:bT),aQ[i]?=some x->ops[i]?=some x.o:=λi x hx=>(hw.Kb i x hx).o;have NV:sts.length=1+bF.length:=by
  have h1:=hw.st.len;rw[oY] at h1;rw[h1]
  congr 2
  apply aiT.2;intro e he;obtain⟨k,hk,e1⟩:=ahB.1 he;have:=(d3 k e (by rw[ahi hk,e1])).1;simp;omega
 have done:∀(listed:Array Bool)(a:Act)(w:World),Inv D s' aQ sts L0 w0 listed a w->(∀i,i<ops.length->listed.getD i false=true)->cL C (dH K Q) L0 s' w0 .normal a w:=by
  intro listed a w hI hall;obtain⟨k,H,T,e,L,hk,gV,qS,cO,gG,fY,gK,dD⟩:=hI.st;have hkk:k=bF.length:=by
   rw[oY] at hk gV;rcases ahr k bF.length with hlt|hge
   ·have:=(hk k _ (ahi hlt)).1 (hall _ (d3 k _ (ahi hlt)).1);omega
   ·omega
  have Da:sts[k]?=some (HL,TL,iL):=by rw[<-dy,ajY,NV,hkk];congr 1;omega
  rw[qS] at Da;obtain⟨rfl,rfl,rfl⟩:H=HL/\T=TL/\e=iL:=by injection Da with h1;injection h1 with h1 h2;injection h2 with h2 h3;exact⟨h1,h2,h3⟩
  rw[hDK] at hKK;rw[kQ] at dD gG fY;refine⟨_,L,hKK,⟨gG,fY,cO,by rw[hI.tmps,kQ],hI.defers,λt=>?_⟩,dD⟩;obtain⟨v,hv,hr⟩:=gK t;show aY L H.length T w (bE (aV s'.e aQ) t) _;rcases hv with⟨j,x,hx,hd,hl,rfl⟩|⟨hno,rfl⟩
  ·rw[fe aQ s'.e t j x hx hd (λi y hy zo=>d1 i j y.o x.o t (hro i y hy) (hro j x hx) zo hd)];exact hr
  ·rw[cE aQ s'.e t (λx hx hd=>by
    obtain⟨j,hj,e1⟩:=ahB.1 hx;have h1:=hno j x (by rw[ahi hj,e1]) hd;have h2:=hall j (by omega);rw[h1] at h2;cases h2)]
   exact hr
 refine oc (nx:=ops.length) kI qg kQ oY zz hDn R5 hlen hro (λi=>i<ops.length) (λi hi=>by omega) (λi x hx _=>hw.Kb i x hx) (λi x hx _=>hw.KE i x hx) (λi x hx _=>hw.st.k i x hx) (λ_=>True) (λ_ _ _ _=>trivial)
  (λlisted a w hI _ hall=>done listed a w hI hall) (λfuel listed a w hI _ i hi hn=>?_) ops.length _ a0 _ ⟨by simp[hlen],λi j hl _=>?_,⟨0,s'.H,s'.T,0,L0,λm i UL=>?_,ahu _,by rw[Wj];rfl,hc.mV.drew rfl,by rw[kQ];exact hc.nb,by rw[kQ];exact hc.tb,λt=>?_,?_⟩,by rw[kQ];exact hc.size,hc.defers⟩ trivial (.inr ?_)
 ·obtain⟨_,o,ho,_⟩:=mem_ready.1 hi;rw[ahD] at ho;exact absurd (ahh.1 ho).1 hn
 ·exfalso
  by_cases hi:i<ops.length<;>simp[hi] at hl
 ·constructor
  ·intro hl;exfalso
   by_cases hi:i<ops.length<;>simp[hi] at hl
  ·intro h;omega
 ·refine⟨bE s'.e t,.inr ⟨λj x hx hd=>?_,rfl⟩,?_⟩
  ·by_cases hj:j<ops.length<;>simp[hj]
  ·have kd:cX L0 s'.H.length s'.T w0 L0 s'.H.length s'.T { w0 with drawn:=w0.drawn+1 }:=(Ev.drew (H:=s'.H) (T:=s'.T) (L:=L0) (w:=w0) (w':={ w0 with drawn:=w0.drawn+1 }) rfl rfl rfl rfl (aid _)).keeps;exact(hc.env t).keep kd
 ·rw[kQ];exact(Ev.drew (H:=s'.H) (T:=s'.T) (L:=L0) (w:=w0) (w':={ w0 with drawn:=w0.drawn+1 }) rfl rfl rfl rfl (aid _)).mono hc.nb hc.tb
 ·refine aho (List.countP_le_length) ?_;simp
def E7 {C:Cx}{id:Nat}{ops:List Oper}{Q:Exit->St->Prop}{s:St}(K:St->Prop)(bF lo:List Nat)(na:List (List Nat))(hm:C.P.follows .mixedOrders=true)(kI:jb ops bF lo na=true)(qg:jP bF=true)
  (h:gQ ⟨C,ops.toArray,bF,lo,na,K⟩ ops [] [(s.H,s.T,0)] (prune C.nv s.e)):AW C (.region id ops.toArray true) (dH K Q) s:=
 λL0 w0 a0 mG=>wp_region_any hm (uU K bF lo na kI qg h L0 w0 a0 mG)
def aJ {C:Cx}{id:Nat}{ops:List Oper}{Q:Exit->St->Prop}{s:St}{y:Code}(bF lo:List Nat)(na:List (List Nat))(hm:C.P.follows .mixedOrders=true)(kI:jb ops bF lo na=true)(qg:jP bF=true)
  (h:∀K:St->Prop,(∀s,AW C y Q s->K s)->gQ ⟨C,ops.toArray,bF,lo,na,K⟩ ops [] [(s.H,s.T,0)] (prune C.nv s.e)):AW C (.seq (.region id ops.toArray true) y) Q s:=
 xq λK hK=>E7 K bF lo na hm kI qg (h K hK)
def cT {C:Cx}{id:Nat}{ops:List Oper}{Q:Exit->St->Prop}{s:St}(bF lo:List Nat)(na:List (List Nat))(hm:C.P.follows .mixedOrders=true)(kI:jb ops bF lo na=true)(qg:jP bF=true)
  (h:∀K:St->Prop,(∀s,Q .normal s->K s)->gQ ⟨C,ops.toArray,bF,lo,na,K⟩ ops [] [(s.H,s.T,0)] (prune C.nv s.e)):AW C (.region id ops.toArray true) Q s:=
 (E7 (Q:=Q) (λs=>Q .normal s) bF lo na hm kI qg (h _ λ_ h=>h)).mono λe s q=>by cases e<;>exact q
section
variable {P : Program} {f : FuncId} {args : List AV} {H rH : List az} {T rT : au} {L : Lay} {w : World}
def bW.front (P:Program)(h:bW L (H++rH) (T++rT) w)(ho:bJ H T):bW L H T w:=by
 let C:Cx:=⟨P,0,0,H.length,T.length,[]⟩
 let a:Act:={ tmps:=#[],defers:=[] }
 have hc:eQ C ⟨[],H++rH,T++rT⟩ L w a:=⟨by simp[C],by simp[C],h,rfl,rfl,λt=>.top _⟩
 have hw:ui C ⟨[],H++rH,T++rT⟩ ⟨[],H,T⟩:=⟨ahj _,ahj _,⟨rH,rfl⟩,⟨rT,rfl⟩,ho,λt=>.inl rfl⟩
 exact(hw.mV hc).mV
def Ev.front {L0:Lay}{w0:World}{H0:List az}{T0:au}{nb tb:Nat}(h:Ev nb tb L0 H0.length T0 w0 L (H++rH).length (T++rT) w)(hn:nb<=H.length)(ht:tb<=T.length):Ev nb tb L0 H0.length T0 w0 L H.length T w:=by
 refine⟨hn,h.bO,λt u z hlt hT=>?_,ht,h.m,h.tS,h.size,h.frame,λb hb=>h.wr b ?_,h.os,h.tape,h.output,h.drawn,h.dr⟩
 ·obtain⟨u',h1,h2,h3⟩:=h.tok t u z hlt hT;exact⟨u',by rwa [ahp (by omega)] at h1,h2,h3⟩
 ·rcases hb with⟨i,hi,e⟩|⟨t,u,z,h1,h2,e⟩
  ·exact .inl ⟨i,by simp;omega,e⟩
  ·exact .inr ⟨t,u,z,by rw[ahp (ahh.1 h1).1];exact h1,h2,e⟩
theorem ar.drop {r:AV}(h:ar P f args H T (Is r (H++rH) (T++rT)))(hb:Below H.length T.length (cG r)):ar P f args H T (Is (cG r) H T):=by
 refine⟨h.1,λL w ca hc hl hr=>(h.2 L w ca hc hl hr).mono ?_⟩;rintro e w' ⟨r',H',T',L',cv,⟨e1,e2,e3⟩,rfl,cO,dI,dD⟩;subst e1;subst e2;subst e3;refine⟨_,H,T,L',cv,⟨rfl,rfl,rfl⟩,rfl,bW.front P cO hc.jK,?_,dD.front (ahj _) (ahj _)⟩;have:=(dI.cG).drop hb;simpa using this
def ar.cut {r0:AV}(H1:List az)(T1:au)(hl:H.length<=H1.length)(ht:T.length<=T1.length)(ho:bJ H T->bJ H1 T1)(hb:Below H1.length T1.length r0)
  (h:ar P f args H T (λr H' T'=>(∃rH,H'=H1++rH)/\(∃rT,T'=T1++rT)/\(r=r0\/cG r=r0))):ar P f args H T (Is r0 H1 T1):=by
 refine⟨h.1,λL w ca hc jR hr=>(h.2 L w ca hc jR hr).mono ?_⟩;rintro e w' ⟨r',H',T',L',cv,⟨⟨rH,e1⟩,⟨rT,e2⟩,e3⟩,rfl,cO,dI,dD⟩;subst e1;subst e2;refine⟨_,H1,T1,L',cv,⟨rfl,rfl,rfl⟩,rfl,bW.front P cO (ho hc.jK),?_,dD.front hl ht⟩;have ma:aY L' (H1++rH).length (T1++rT) w' r0 cv:=by
  rcases e3 with e3|e3
  ·rw[<-e3];exact dI
  ·rw[<-e3];exact dI.cG
 have:=ma.drop hb;simpa using this
def ar.bV {r0:AV}(h:ar P f args H T (λr H' T'=>(∃rH,H'=H++rH)/\(∃rT,T'=T++rT)/\(r=r0\/cG r=r0)))(hb:Below H.length T.length r0):ar P f args H T (Is r0 H T):=
 ar.cut H T (ahj _) (ahj _) id hb h
def bW.EU (h:bW L H T w){b k:Nat}(hb:b<w.heap.size)(hw:¬Wr L H.length T b)(hk:L.m b<=k):bW (L.bS b k) H T w:=by
 have hm:∀x,L.m x<=(L.bS b k).m x:=by
  intro x;show L.m x<=if x=b then k else L.m x
  split
  ·rename_i e;rw[e];exact hk
  ·exact ahj _
 have kp:cX L H.length T w (L.bS b k) H.length T w:=⟨ahj _,λ_ _=>rfl,λt u z h=>⟨u,h,ahj _,λ_=>rfl⟩,hm,λ_ _ _=>rfl,rfl⟩
 refine⟨λi x hx=>?_,h.inj,λt u z ht=>?_,h.po,h.kD,λx hx=>?_,h.gl.keep hm (λ_ _ _=>rfl)⟩
 ·have hi:=(ahh.1 hx).1;refine(h.box i x hx).stay kp hi rfl λh5=>?_;show (if L.bO i=b then k else L.m (L.bO i))=0;rw[ahq (λe=>hw (.inl ⟨i,hi,e⟩))];exact h5
 ·obtain⟨h1,h2⟩:=h.tok t u z ht;refine⟨h1,λhs=>?_⟩;obtain⟨c,e,fr,g1,g2,g3,g4⟩:=h2 hs;refine⟨c,e,fr,g1,g2,g3,?_⟩;show (if (L.ew t).b=b then k else L.m (L.ew t).b)<=_;rw[ahq (λe=>hw (.inr ⟨t,u,z,ht,hs,e⟩))];exact g4
 ·show (if x=b then k else L.m x)=0;rw[ahq (by omega)];exact h.mz x hx
def ar.freeze {n:Nat}{vs:List AV}(h:ar P f args H T (Is (.cK H.length 0 n) (H++[.cells vs]) T))(hb:aK H.length T.length vs):ar P f args H T (Is (.sl n vs .none) H T):=by
 refine⟨h.1,λL w ca hc hl hr=>(h.2 L w ca hc hl hr).mono ?_⟩;rintro e w' ⟨r',H',T',L',cv,⟨e1,e2,e3⟩,rfl,cO,dI,dD⟩;have e3':=e3.symm;subst e1;subst e2;subst e3';obtain⟨cap,rfl,hcap,hlt⟩:=dI.j6;have rG:=cO.box H.length (.cells vs) (by simp);have Sl:=rG.lt;obtain⟨c,t,fr,g1,g2,g3,wg,g4,g5⟩:=rG;have hc1:bW L' H T w':=bW.front (rT:=[]) P (by simpa using cO) hc.jK;have I3:¬Wr L' H.length T (L'.bO H.length):=by
  rintro (⟨i,hi,e⟩|⟨t,u,z,ht,hs,e⟩)
  ·have:=cO.inj i H.length (by simp;omega) (by simp) e;omega
  ·exact cO.kD t u z H.length ht hs (by simp) e
 have hc2:=hc1.EU (k:=vs.length) Sl I3 (by omega);have e1:Ev H.length T.length L H.length T w L' H.length T w':=by
  have:=dD;have h2:=Ev.front (H:=H) (rH:=[.cells vs]) (T:=T) (rT:=[]) (L:=L') (w:=w') (L0:=L) (w0:=w) (H0:=H) (T0:=T) (nb:=H.length) (tb:=T.length) (by simpa using dD) (ahj _) (ahj _);exact h2
 have kp:cX L' H.length T w' (L'.bS (L'.bO H.length) vs.length) H.length T w':=by
  refine⟨ahj _,λ_ _=>rfl,λt u z h=>⟨u,h,ahj _,λ_=>rfl⟩,λx=>?_,λ_ _ _=>rfl,rfl⟩;show L'.m x<=if x=L'.bO H.length then vs.length else L'.m x
  split
  ·rename_i e;rw[e,g5];exact ahu _
  ·exact ahj _
 refine⟨_,H,T,L'.bS (L'.bO H.length) vs.length,_,⟨rfl,rfl,rfl⟩,rfl,hc2,?_,?_⟩
 ·have VM:cF L' H.length T w' vs c.toList:=by
   refine⟨by simpa using g3,λj hj=>?_,λj hj hj'=>?_⟩
   ·have:=wg j (by simpa using hj);rw[aif];exact this
   ·have:=(g4 j hj (by simpa using hj')).drop (hb _ (ahP hj));rw[ahE] at this;rw[aif];exact this
  refine aY.mM hcap ?_ (VM.keep kp) (λj hj=>?_) trivial
  ·show 0+vs.length<=if L'.bO H.length=L'.bO H.length then vs.length else _
   rw[ahs rfl];omega
  ·rw[gE g1];simp
 ·exact⟨e1.n,e1.bO,e1.tok,e1.t,λb=>aho (e1.m b) (kp.m b),e1.tS,e1.size,e1.frame,e1.wr,e1.os,e1.tape,e1.output,e1.drawn,e1.dr⟩
theorem bW.own (h:bW L H T w)(u:Nat){z:Nat}(hz:0<z):bW (L.bp T.length ⟨0,0,0⟩) H (T++[(u,z)]) w:=
 h.oD ⟨0,0,0⟩ u z (λh=>by simp at h) ⟨hz,λh=>by simp[Lay.bp] at h⟩
theorem Ev.own (u z:Nat):Ev H.length T.length L H.length T w (L.bp T.length ⟨0,0,0⟩) H.length (T++[(u,z)]) w:=
 (Ev.refl (ahj _) (ahj _)).oD (λh=>by simp at h)
theorem aY.own {n:Nat}{cs:List AV}{c:Value}{z:Nat}(h:aY L H.length T w (.sl n cs .full) c):aY (L.bp T.length ⟨0,0,0⟩) H.length (T++[(cs.length,z)]) w (.sl n cs (.own T.length)) c:=by
 have hk:=(h.cG).keep (Ev.own (H:=H) (T:=T) (L:=L) (w:=w) cs.length z).keeps;obtain⟨a,cap,rfl,hcap,ht,_⟩:=h.fM;have tok:∀a',lY (L.bp T.length ⟨0,0,0⟩) (T++[(cs.length,z)]) (.own T.length) n cs.length a' cap:=λa'=>⟨cs.length,z,by simp,ahj _,λ_=>.inl ht⟩
 simp only[Am.cG] at hk;obtain⟨a',cap',e1,jt,_,NC⟩:=hk.fM
 cases e1
 rcases NC with⟨e2,e3⟩|⟨b,base,cv,e2,g1,g2,g3⟩
 ·subst e2;subst e3;exact .zj _ _ _ (tok _)
 ·subst e2;exact aY.mM jt g1 g2 g3 (tok _)
theorem ar.cg {a:AV}{as:List AV}{Q:AV->List az->au->Prop}(h:ar P f (cG a::as) H T Q):ar P f (a::as) H T Q:=by
 refine⟨h.1,λL w ca hc hl hr=>h.2 L w ca hc hl (λj hj hj'=>?_)⟩
 cases j with
 |zero=>exact(hr 0 (by simp) hj').cG
 |succ j=>exact hr (j+1) hj hj'
theorem ar.uk {a b:AV}{as:List AV}{Q:AV->List az->au->Prop}(h:ar P f (a::cG b::as) H T Q):ar P f (a::b::as) H T Q:=by
 refine⟨h.1,λL w ca hc hl hr=>h.2 L w ca hc hl (λj hj hj'=>?_)⟩
 match j,hj with
 |0,_=>exact hr 0 (by simp) hj'
 |1,_=>exact(hr 1 (by simp) hj').cG
 |j+2,hj=>exact hr (j+2) hj hj'
def m9 {C:Cx}{c:Code}{Q:Exit->St->Prop}{s:St}(t:Nat)(n z:Nat)(cs:List AV)(hz:0<z)(ht:bE s.e t=.sl n cs .full)(h:AW C c Q ⟨lW s.e t (.sl n cs (.own s.T.length)),s.H,s.T++[(cs.length,z)]⟩):AW C c Q s:=by
 intro L w a hc;have ev:=Ev.own (H:=s.H) (T:=s.T) (L:=L) (w:=w) cs.length z;refine wp_mono (h (L.bp s.T.length ⟨0,0,0⟩) w a ⟨hc.nb,by simp;have:=hc.tb;omega,hc.mV.own _ hz,hc.size,hc.defers,λt'=>?_⟩) λ_ _ _ k=>cL.step (s1:=⟨lW s.e t (.sl n cs (.own s.T.length)),s.H,s.T++[(cs.length,z)]⟩) (ev.mono hc.nb hc.tb) k
 by_cases h1:t=t'
 ·subst h1;rw[cI];have:=hc.env t;rw[ht] at this;exact this.own
 ·rw[bB _ _ _ _ h1];exact(hc.env t').keep ev.keeps
def ar.is {r r':AV}{H' H'':List az}{T' T'':au}(h:ar P f args H T (Is r H' T'))(h1:r=r')(h2:H'=H'')(h3:T'=T''):ar P f args H T (Is r' H'' T''):=by subst h1;subst h2;subst h3;exact h
end
theorem Below.more {n n' t t':Nat}{v:AV}(h:Below n t v)(hn:n<=n')(ht:t<=t'):Below n' t' v:=by
 induction h with
 |top=>exact .top
 |bool b=>exact .bool b
 |int k x=>exact .int k x
 |str s=>exact .str s
 |gn=>exact .gn
 |ptr i o h=>exact .ptr i o (aio h hn)
 |eh cs o h ih=>exact .eh cs o ih
 |sl m cs tg h hx ih=>exact .sl m cs tg ih (λx e=>aio (hx x e) ht)
 |cK i o m h=>exact .cK i o m (aio h hn)
 |bG i m cap h=>exact .bG i m cap (aio h hn)
 |aP i h=>exact .aP i (aio h hn)
 |fn f a b h1 h2 ih1 ih2=>exact .fn f a b ih1 ih2
 |jr=>exact .jr
 |mY=>exact .mY
 |A8=>exact .A8
 |agg cs h ih=>exact .agg cs ih
 |df cs h ih=>exact .df cs ih
def bJ.U4 {H:List az}{T:au}{b:az}(h:bJ H T)(hv:aK (H.length+1) T.length b.Be):bJ (H++[b]) T:=by
 intro i us hi v hm;rw[ahk,aib];rcases ahr i H.length with hlt|hge
 ·rw[ahp hlt] at hi;exact(h i us hi v hm).more (by omega) (ahj _)
 ·have:i=H.length:=by have:=(ahh.1 hi).1;simp at this;omega
  subst this;simp at hi;subst hi;exact hv v hm
def bJ.snoc {H:List az}{T:au}{vs:List AV}(h:bJ H T)(hv:aK (H.length+1) T.length vs):bJ (H++[.cells vs]) T:=h.U4 hv
def bJ.Tg {H:List az}{T:au}{m n:Nat}{seen:List Nat}(h:bJ H T):bJ (H++[.mF m n seen]) T:=h.U4 (λv hm=>by simp at hm)
def bJ.kC {H:List az}{T T':au}(h:bJ H T)(ht:T.length<=T'.length):bJ H T':=λi us hi v hm=>(h i us hi v hm).more (ahj _) ht
def bJ.V5 {H:List az}{T:au}{b:az}{k:Nat}(h:bJ H T)(hv:aK H.length T.length b.Be):bJ (H.set k b) T:=by
 intro i us hi v hm;rw[aiE]
 by_cases hk:k=i
 ·subst hk;have hl:=(ahh.1 hi).1;rw[aiE] at hl;rw[ahK hl] at hi
  injection hi with hi
  subst hi;exact hv v hm
 ·rw[ah7 hk] at hi;exact h i us hi v hm
theorem bJ.set {H:List az}{T:au}{vs:List AV}{k:Nat}(h:bJ H T)(hv:aK H.length T.length vs):bJ (H.set k (.cells vs)) T:=h.V5 hv
def bJ.rM {H:List az}{T:au}{es:List (cQ×AV)}{k:Nat}(h:bJ H T)(hv:aK H.length T.length (es.map (·.2))):bJ (H.set k (.map es)) T:=h.V5 hv
def bJ.WV {H:List az}{T:au}{m n:Nat}{seen:List Nat}{k:Nat}(h:bJ H T):bJ (H.set k (.mF m n seen)) T:=h.V5 (λv hm=>by simp at hm)
def ag {C:Cx}{e e':Env}{H H':List az}{T T':au}(rH:List az)(rT:au)(hH:H=H'++rH)(hT:T=T'++rT)(hn:C.nb<=H'.length)(ht:C.tb<=T'.length)(ho:bJ H' T')(he:bu H'.length T'.length e e') :
  ui C ⟨e,H,T⟩ ⟨e',H',T'⟩:=⟨hn,ht,⟨rH,hH⟩,⟨rT,hT⟩,ho,MH he⟩
section
variable {α : Type} (H l : List α) (k : Nat) (x : α)
@[simp] theorem OU:(H++l)[H.length+k]?=l[k]?:=by rw[ahC (by omega)];congr 1;omega
@[simp] theorem JB:(H++l)[H.length]?=l[0]?:=OU H l 0
end
def aC {D:wh}{next:List bT->List mW->Env->Prop}{o:Oper}{aQ:List bT}{sts:List mW}{e:Env}{g:FuncId}{as:List AV}{H:List az}{T:au}{v:AV}
  (h:ar D.C.P g as H T (Is v H T)) (hn:D.bF.contains aQ.length=false) (k:Bc D next o aQ sts e true v H T):OD D next o aQ sts e g as H T:=⟨v,H,T,h,λ_=>⟨rfl,rfl⟩,k⟩
def oa {D:wh}{next:List bT->List mW->Env->Prop}{o:Oper}{aQ:List bT}{sts:List mW}{e:Env}{g:FuncId}{as:List AV}{H H':List az}{T T':au}{v:AV}
  (h:ar D.C.P g as H T (Is v H' T')) (hn:D.bF.contains aQ.length=true) (k:Bc D next o aQ sts e true v H' T'):OD D next o aQ sts e g as H T:=⟨v,H',T',h,λhc=>absurd (hn.symm.trans hc) (by decide),k⟩
@[simp] theorem Yb {D:wh} {aQ:List bT} {sts:List mW} {e:Env}:gQ D [] aQ sts e=(match sts.getLast? with
  |some (H,T,_)=>D.K ⟨e,H,T⟩
  |none=>False):=rfl
@[simp] theorem Xz {D:wh} {o:Oper} {r:List Oper} {aQ:List bT} {sts:List mW} {e:Env}:gQ D (o::r) aQ sts e=(match sts.getLast? with
  |some (H,T,_)=>match o.guard with
   |none=>kM D (gQ D r) o aQ sts e H T
   |some (j,want)=>match pe D.all j e with
    |some b=>if b=some want then kM D (gQ D r) o aQ sts e H T else Bc D (gQ D r) o aQ sts e false (.df []) H T
    |none=>False
  |none=>False):=rfl
attribute [simp] kM Bc wP Sr Sh dN
@[simp] theorem RA {a b:Int} (h1:0<=a) (h2:0<=b):(a+b).toNat=a.toNat+b.toNat:=by omega
attribute [simp] List.getD_cons_zero List.getD_cons_succ List.getD_nil
attribute [simp] if_pos if_neg List.getElem?_cons_zero List.getElem?_cons_succ List.getElem?_nil
@[simp] theorem aa3 {a b:Int} (h:0<=b):a.fdiv b=a / b:=Int.fdiv_eq_ediv_of_nonneg a h
@[simp] theorem acC:IntKind.u64.bits=64:=rfl
@[simp] theorem aeC:IntKind.u8.bits=8:=rfl
@[simp] theorem acD:IntKind.i64.bits=64:=rfl
@[simp] theorem Xs:IntKind.u64.signed=false:=rfl
@[simp] theorem Xt:IntKind.i64.signed=true:=rfl
@[simp] theorem adE:IntKind.u64.max=18446744073709551615:=rfl
end Go.Am
