/- One operation over abstract values, and that it is what the model does. Regions, calls and whole functions over abstract states. The rules as they are used in a walk, encodings of lists, and the rewriting rules of the walk. Regions that draw their order, over abstract states: the walk goes in the order of the text; what other orders may do is asked beside it. Regions that draw their order: every order comes to what the text's order comes to. Steps that only the abstract states take: what is new is forgotten, a finished row becomes immutable, an empty end gets a token.
  Conditions: as the theorems say. -/
import Derived.Test.YtoejlmpbebjemaaGreatAmA
import Derived.Laws.StructEq
import Derived.KernelRfl
set_option linter.all false

open List (getD_eq_getElem?_getD map_toArray)
namespace Go.Am
open Go
section
variable {P : Program} {L : Lay} {H : List aA} {T : au} {w : World}
def cz.Tw (h:cz L H T w)(s:List UInt8) :
  ∃L',cz L' (H++[.iter s 0]) T (w.alloc (.stringIter ⟨s.toArray⟩ 0))/\Ev H.length T.length L H.length T w L' (H++[aA.iter s 0]).length T (w.alloc (.stringIter ⟨s.toArray⟩ 0))/\L'.bW H.length=w.heap.size:=by
 have h1:=h.alloc (.stringIter ⟨s.toArray⟩ 0) 0;have e1:=Ev.alloc h (.stringIter ⟨s.toArray⟩ 0) 0;have II:¬Wr (L.bZ w.heap.size 0) H.length T w.heap.size:=h.xx (ahv _);refine⟨(L.bZ w.heap.size 0).dG H.length w.heap.size,h1.sq w.heap.size II (.iter s 0) (λhle=>by simp at hle;omega) ?_,Ev.sq (b:=w.heap.size) (aA.iter s 0) e1 (ahv _),by simp[Lay.dG]⟩;show (w.alloc _).heap[((L.bZ w.heap.size 0).dG H.length w.heap.size).bW H.length]?=_;rw[show ((L.bZ w.heap.size 0).dG H.length w.heap.size).bW H.length=w.heap.size by simp[Lay.dG]];exact fQ w _
def SA (P:Program)(t:TypeId)(x:AV):Option AV:=
 match P.underlying t,x with
 |some .string,.str s=>some (.int .i64 s.length)
 |some (.slice _),.sl n _ _=>some (.int .i64 n)
 |some (.slice _),.cV _ _ n=>some (.int .i64 n)
 |some (.slice _),.bQ _ n _=>some (.int .i64 n)
 |some (.array n _),_=>some (.int .i64 n)
 |_,_=>none
def S4 {t ty:TypeId}{x r:AV}{c:Value}{N:Nat}(h:SA P t x=some r)(hx:bt L N T w x c):∃cv,(Builtin.len_ #[t] ty #[c]).run P w=.ok cv w/\bt L N T w r cv:=by
 unfold SA at h
 split at h
 ·rename_i s hu
  cases h
  rw[hx.jb];exact⟨.int .i64 s.length,by rw[run_len_string w t ty _ hu];rfl,.int _ _⟩
 ·rename_i e n cs tg hu
  cases h
  obtain⟨a,cap,rfl,_⟩:=hx.fN;exact⟨.int .i64 n,by simp[Builtin.len_,run_underlying hu,goInt],.int _ _⟩
 ·rename_i e i o n hu
  cases h
  obtain⟨cap,rfl,_⟩:=hx.kD;exact⟨.int .i64 n,by simp[Builtin.len_,run_underlying hu,goInt],.int _ _⟩
 ·rename_i e i n cap hu
  cases h
  obtain⟨rfl,_⟩:=hx.iI;exact⟨.int .i64 n,by simp[Builtin.len_,run_underlying hu,goInt],.int _ _⟩
 ·rename_i n e hu
  cases h
  exact⟨.int .i64 n,by simp[Builtin.len_,run_underlying hu,goInt],.int _ _⟩
 ·cases h
def Kz (mx:Bool):AV->List AV->Option AV
 |acc,[]=>some acc
 |.int k x,.int _ y::r=>Kz mx (.int k (if mx then (if y>x then y else x) else (if y<x then y else x))) r
 |_,_=>none
def Y6 (mx:Bool):List AV->Option AV
 |[]=>none
 |x::r=>Kz mx x r
theorem PD {N:Nat}(mx:Bool):∀(l:List AV)(cs:List Value)(acc r:AV)(ca:Value),Kz mx acc l=some r->bt L N T w acc ca->cs.length=l.length->(∀(j:Nat)(h:j<l.length)(h':j<cs.length),bt L N T w (l[j]'h) (cs[j]'h'))->
  ∃cv,(cs.foldlM (if mx then Builtin.max2 else Builtin.min2) ca).run P w=.ok cv w/\bt L N T w r cv:=by
 intro l
 induction l with
 |nil=>
  intro cs acc r ca h ha hl _;have:cs=[]:=ah5 hl;subst this;simp only[Kz,Option.some.injEq] at h;subst h;exact⟨ca,rfl,ha⟩
 |cons v l ih=>
  intro cs acc r ca h ha hl hr
  match cs,hl,hr with
  |c::cs,hl,hr=>
   have h0:=hr 0 zS zS;simp only[aix] at h0
   cases acc<;>cases v<;>simp only[Kz,reduceCtorEq] at h
   rw[ha.eh,h0.eh];obtain⟨cv,g1,g2⟩:=ih cs _ r _ h (.int _ _) (zU hl) (λj hj bU=>by have:=hr (j+1) (zU hj) (by simpa using bU);simpa using this);refine⟨cv,?_,g2⟩;rw[List.foldlM_cons,<-g1]
   cases mx<;>rfl
theorem Jf {N:Nat}{ty:TypeId}{ts:Array TypeId}(mx:Bool)(l:List AV)(cs:List Value)(r:AV)(h:Y6 mx l=some r)(hl:cs.length=l.length)(hr:∀(j:Nat)(h:j<l.length)(h':j<cs.length),bt L N T w (l[j]'h) (cs[j]'h')) :
  ∃cv,((if mx then Builtin.max_ else Builtin.min_) ts ty cs.toArray).run P w=.ok cv w/\bt L N T w r cv:=by
 match l,cs,hl,hr,h with
 |v::l,c::cs,hl,hr,h=>
  have h0:=hr 0 zS zS;simp only[aix] at h0;obtain⟨cv,g1,g2⟩:=PD (P:=P) mx l cs v r c h h0 (zU hl) (λj hj bU=>by have:=hr (j+1) (zU hj) (by simpa using bU);simpa using this);refine⟨cv,?_,g2⟩;rw[<-g1]
  cases mx<;>rfl
 |[],[],_,_,h=>simp[Y6] at h
def p9 (P:Program):List Field->List AV->List AV->Option Bool
 |[],_,_=>some true
 |f::fs,xs,ys=>
  if f.name = "_" then none else
  match P.underlying f.type,xs[f.offset]?,ys[f.offset]? with
  |some (.int _),some (.int k a),some (.int k' b)=>if k=k' then (p9 P fs xs ys).map ((a==b)&&·) else none
  |some .string,some (.str a),some (.str b)=>(p9 P fs xs ys).map ((a==b)&&·)
  |some .bool,some (.bool a),some (.bool b)=>(p9 P fs xs ys).map ((a==b)&&·)
  |_,_,_=>none
def qk (P:Program)(t:TypeId)(x y:AV):Option Bool:=
 match x,y with
 |.agg xs,.agg ys=>if P.stoodInHeld t=false/\P.eqGuardType P.depth t=false then
   match P.underlying t with
   |some (.struct fs)=>p9 P fs.toList xs ys
   |_=>none
  else none
 |_,_=>none
def I3 (P:Program)(op:BinOp)(t:TypeId)(x y:AV):Option AV:=
 match op with
 |.eql=>(qk P t x y).map .bool
 |.neq=>(qk P t x y).map λb=>.bool (!b)
 |_=>none
def cS.at {N:Nat}{xs:List AV}{c:List Value}{i:Nat}{v:AV}(h:cS L N T w xs c)(hi:xs[i]?=some v):∃x,c[i]?=some x/\bt L N T w v x:=by
 obtain⟨bp,rfl⟩:=aht.1 hi;have kZ:i<c.length:=by rw[h.1];exact bp
 exact⟨c[i],ahu kZ,h.2.2 i bp kZ⟩
theorem HN {N:Nat}(d:Nat){xs ys:List AV}{cx cy:Array Value}(hx:cS L N T w xs cx.toList)(hy:cS L N T w ys cy.toList):∀(fs:List Field)(b:Bool),p9 P fs xs ys=some b->(Op.eqFields (d+1) cx cy fs).run P w=.ok b w:=by
 intro fs
 induction fs with
 |nil=>intro b h;cases h;rfl
 |cons f fs ih=>
  intro b h;unfold p9 at h
  split at h
  ·cases h
  ·rename_i hn;have fin:∀(v u:Value)(r:Bool),kh P f.type=some false->cx.toList[f.offset]?=some v->cy.toList[f.offset]?=some u->(Op.equalIn (d+1) f.type v u).run P w=.ok r w->
     (p9 P fs xs ys).map (r&&·)=some b->(Op.eqFields (d+1) cx cy (f::fs)).run P w=.ok b w:=by
    intro v u r ha hv hu he hm;obtain⟨b',wZ,rfl⟩:=aji.1 hm;have hv':cx[f.offset]?=some v:=by simpa using hv
    have hu':cy[f.offset]?=some u:=by simpa using hu
    have p1:(part f.type cx f.offset).run P w=.ok v w:=by
     simp only[part,Sem.run_bind,ma ha,Result.andThen_ok,aiu,aje,hv'];rfl
    have p2:(part f.type cy f.offset).run P w=.ok u w:=by
     simp only[part,Sem.run_bind,ma ha,Result.andThen_ok,aiu,aje,hu'];rfl
    simp only[Op.eqFields,ahF hn,Sem.run_bind,p1,p2,Result.andThen_ok,he]
    cases r
    ·simp
    ·simpa using ih b' wZ
   split at h
   ·rename_i hu h1 h2
    split at h
    ·rename_i hk;subst hk;obtain⟨v,v1,v2⟩:=hx.at h1;obtain⟨u,u1,u2⟩:=hy.at h2;rw[v2.eh] at v1;rw[u2.eh] at u1;exact fin _ _ _ (by simp[kh,hu]) v1 u1 (run_equalIn_int w d _ _ _ _ _ hu) h
    ·cases h
   ·rename_i hu h1 h2;obtain⟨v,v1,v2⟩:=hx.at h1;obtain⟨u,u1,u2⟩:=hy.at h2;rw[v2.jb] at v1;rw[u2.jb] at u1;refine fin _ _ _ (by simp[kh,hu]) v1 u1 ?_ h;rw[run_equalIn_string w d _ _ _ hu,toList_mk,toList_mk]
   ·rename_i hu h1 h2;obtain⟨v,v1,v2⟩:=hx.at h1;obtain⟨u,u1,u2⟩:=hy.at h2;rw[v2.jS] at v1;rw[u2.jS] at u1;exact fin _ _ _ (by simp[kh,hu]) v1 u1 (run_equalIn_bool' w d _ _ _ hu) h
   ·cases h
theorem LC {N:Nat}{op:BinOp}{t:TypeId}{x y r:AV}{cx cy:Value}(h:I3 P op t x y=some r)(hx:bt L N T w x cx)(hy:bt L N T w y cy)(ox oy:Operand) :
  ∃cv,(eqGuard op t ox oy cx cy >>= λ_=>binOp op t cx cy).run P w=.ok cv w/\∀(L:Lay)(N:Nat)(T:au)(w':World),bt L N T w' r cv:=by
 have key:∀b,qk P t x y=some b->∃xs ys,cx=.agg xs/\cy=.agg ys/\P.eqGuardType P.depth t=false/\(Op.equalIn 10000 t (.agg xs) (.agg ys)).run P w=.ok b w:=by
  intro b hb;unfold qk at hb
  split at hb
  ·rename_i xs ys
   split at hb
   ·rename_i hg
    split at hb
    ·rename_i fs hu
     cases hx with
     |agg _ cxa a1 a2 a3=>
      cases hy with
      |agg _ cya b1 b2 b3=>
       refine⟨cxa,cya,rfl,rfl,hg.2,?_⟩;have hf:P.fieldsOf t=fs:=by simp[Program.fieldsOf,hu]
       rw[run_equalIn_struct w 9999 t cxa cya (by rw[hf];exact hu) hg.1,hf];exact HN 9998 (cS.BM (.agg _ _ a1 a2 a3)) (cS.BM (.agg _ _ b1 b2 b3)) _ _ hb
    ·cases hb
   ·cases hb
  ·cases hb
 unfold I3 at h
 split at h
 ·obtain⟨b,hb,rfl⟩:=aji.1 h;obtain⟨xs,ys,rfl,rfl,hg,hr⟩:=key b hb;refine⟨.bool b,?_,λ_ _ _ _=>.bool _⟩;simp only[Sem.run_bind,run_eqGuard_agg w _ _ _ _ _ _ hg,Result.andThen_ok,run_eql_struct,hr]
 ·obtain⟨b,hb,rfl⟩:=aji.1 h;obtain⟨xs,ys,rfl,rfl,hg,hr⟩:=key b hb;refine⟨.bool (!b),?_,λ_ _ _ _=>.bool _⟩;simp only[Sem.run_bind,run_eqGuard_agg w _ _ _ _ _ _ hg,Result.andThen_ok,run_neq_struct,hr]
 ·cases h
def B3:Operand->Operand->Bool
 |.tmp a,.tmp b=>a==b
 |.const (.int k a),.const (.int k' b)=>k==k'&&a==b
 |_,_=>false
abbrev Res:=Option (AV×List aA×au)
def xI (P:Program)(H:List aA)(t:TypeId)(x:AV):Option (List aA):=
 match P.underlying t,x with
 |some (.slice e),.cV i o n=>if n=0 then some H else match H[i]?,bz P e with
  |some (.cells vs),some zs=>if 0<zs.length/\o+n*zs.length<=vs.length then some (H.set i (.cells (setMany vs o (iq zs (n*zs.length))))) else none
  |_,_=>none
 |_,_=>none
def Lz {t ty:TypeId}{x:AV}{c:Value}{H':List aA}(hc:cz L H T w)(h:xI P H t x=some H')(hx:bt L H.length T w x c) :
  ∃cv w' L',(Builtin.clear_ #[t] ty #[c]).run P w=.ok cv w'/\cz L' H' T w'/\bt L' H'.length T w' .top cv/\Ev H.length T.length L H.length T w L' H'.length T w':=by
 unfold xI at h
 split at h
 ·rename_i e i o n hu;obtain⟨cap,rfl,cK,bp⟩:=hx.kD
  split at h
  ·rename_i hn
   cases h
   subst hn;exact⟨.tuple #[],w,L,by simp[Builtin.clear_,run_underlying hu],hc,.top _,Ev.refl (ahv _) (ahv _)⟩
  ·rename_i hn
   split at h
   ·rename_i vs zs hi hz
    split at h
    ·rename_i hle
     cases h
     obtain⟨inf,z,h1,h2,h3,h4⟩:=eJ (L:=L) (T:=T) (w:=w) (N:=H.length) hz;have gj:z.cells.size=zs.length:=by have:=h3.1;simpa using this
     have hr:=rn (n:=n*zs.length) h3 (.inl hle.1);have hzc:(Builtin.zeroCells z.cells n).toList=(madeCells z.cells (n*zs.length)).toList:=by rw[<-gj];rfl
     rw[<-hzc] at hr;have hlen:(iq zs (n*zs.length)).length=n*zs.length:=by simp[iq]
     obtain⟨w',fe,cY,dI⟩:=nN (P:=P) i o (iq zs (n*zs.length)) (Builtin.zeroCells z.cells n).toList 0 H w vs hc hr hi (by rw[hlen];omega);obtain⟨m,rfl⟩:∃m,n=m+1:=⟨n-1,zO⟩
     refine⟨.tuple #[],w',L,?_,cY,.top _,dI⟩;simp[Builtin.clear_,run_underlying hu,kP h1 h2,fe]
    ·cases h
   ·cases h
 ·cases h
def tY (P:Program)(b:Builtin)(ts:Array TypeId)(args:List AV)(H:List aA)(T:au):Res:=
 match b,ts.toList,args with
 |.len,[t],[x]=>(SA P t x).map (·,H,T)
 |.append,[t,t2],[s,x]=>match s with
  |.cV i o n=>(I4 P H t t2 (.cV i o n) x).map (·,H,T)
  |s=>(tB P H T t t2 s x).map fun(v,T')=>(v,H,T')
 |.max,_,l=>(Y6 true l).map (·,H,T)
 |.min,_,l=>(Y6 false l).map (·,H,T)
 |.clear,[t],[x]=>(xI P H t x).map λH'=>(.top,H',T)
 |_,_,_=>none
def I1 (P:Program)(op:BinOp)(t:TypeId)(y:Operand)(ax:AV):Option AV:=
 match y with
 |.const .nilIface=>match P.underlying t,ax,op with
  |some (.interface _),.nG,.eql=>some (.bool true)
  |some (.interface _),.nG,.neq=>some (.bool false)
  |some (.interface _),.Bm,.eql=>some (.bool false)
  |some (.interface _),.Bm,.neq=>some (.bool true)
  |_,_,_=>none
 |_=>none
def LB {op:BinOp}{t:TypeId}{x y:Operand}{ax r:AV}{a:Act}{N:Nat}(h:I1 P op t y ax=some r)(hx:bt L N T w ax (a.eval x)) :
  ∃cv,(eqGuard op t x y (a.eval x) (a.eval y) >>= λ_=>binOp op t (a.eval x) (a.eval y)).run P w=.ok cv w/\∀(L:Lay)(N:Nat)(T:au)(w':World),bt L N T w' r cv:=by
 have g1:∀op,(eqGuard op t x (.const .nilIface) .nilIface .nilIface).run P w=.ok () w:=λop=>by
  unfold eqGuard
  cases op<;>simp
 have g2:∀op t' v,(eqGuard op t x (.const .nilIface) (.iface t' v) .nilIface).run P w=.ok () w:=λop t' v=>by
  unfold eqGuard
  cases op<;>simp
 unfold I1 at h
 split at h
 ·have e2:a.eval (.const .nilIface)=.nilIface:=rfl;rw[e2]
  split at h
  ·rename_i ms hu
   cases h
   rw[hx.EB,Sem.run_bind,g1,Result.andThen_ok];exact⟨_,lV t _ _ true .eql (.inl rfl) rfl rfl (λd=>by simp only[Op.equalIn,Sem.run_bind,run_underlying hu,Result.andThen_ok];rfl),λ_ _ _ _=>.bool _⟩
  ·rename_i ms hu
   cases h
   rw[hx.EB,Sem.run_bind,g1,Result.andThen_ok];exact⟨_,lV t _ _ true .neq (.inr rfl) rfl rfl (λd=>by simp only[Op.equalIn,Sem.run_bind,run_underlying hu,Result.andThen_ok];rfl),λ_ _ _ _=>.bool _⟩
  ·rename_i ms hu
   cases h
   obtain⟨t',v,e⟩:=hx.Jx;rw[e,Sem.run_bind,g2,Result.andThen_ok];exact⟨_,lV t _ _ false .eql (.inl rfl) rfl rfl (λd=>by simp only[Op.equalIn,Sem.run_bind,run_underlying hu,Result.andThen_ok];rfl),λ_ _ _ _=>.bool _⟩
  ·rename_i ms hu
   cases h
   obtain⟨t',v,e⟩:=hx.Jx;rw[e,Sem.run_bind,g2,Result.andThen_ok];exact⟨_,lV t _ _ false .neq (.inr rfl) rfl rfl (λd=>by simp only[Op.equalIn,Sem.run_bind,run_underlying hu,Result.andThen_ok];rfl),λ_ _ _ _=>.bool _⟩
  ·cases h
 ·cases h
def Nn (P:Program)(o:Oper)(e:Env)(H:List aA)(T:au):Res:=
 match o.op with
 |.move x=>some (bV e x,H,T)
 |.assign x=>some (bV e x,H,T)
 |.pick c a b=>match bV e c with
  |.bool t=>some (if t then bV e a else bV e b,H,T)
  |_=>none
 |.alloc t=>(bz P t).map λzs=>(.ptr H.length 0,H++[.cells zs],T)
 |.box _ x=>(VX (bV e x)).map λxs=>(.ptr H.length 0,H++[.cells xs],T)
 |.build t ps=>(BU P t (ps.toList.map fun(x:Nat×Operand)=>(x.1,bV e x.2))).map (·,H,T)
 |.buildSlice t n ps=>(nB P t n (ps.toList.map fun(x:Nat×Operand)=>(x.1,bV e x.2))).map (·,H,T)
 |.load t a=>match N6 H (bV e a) with
  |some (vs,o)=>(rO P t vs o).map (·,H,T)
  |none=>none
 |.store t a x=>match bV e a,VX (bV e x) with
  |.ptr i o,some xs=>match H[i]? with
   |some (.cells vs)=>if xs.length=P.cellsOf t/\o+xs.length<=vs.length/\(P.underlying t).isSome=true then some (.top,H.set i (.cells (setMany vs o xs)),T) else none
   |_=>none
  |_,_=>none
 |.nilCheck x=>match bV e x with
  |.ptr i o=>some (.ptr i o,H,T)
  |.eB cs o=>some (.eB cs o,H,T)
  |.fn f a b=>some (.fn f a b,H,T)
  |_=>none
 |.binOp op t x y _=>match I1 P op t y (bV e x) with
  |some r=>some (r,H,T)
  |none=>if uF P t (bV e x)=true then (SC op (bV e x) (bV e y)).map (·,H,T) else (I3 P op t (bV e x) (bV e y)).map (·,H,T)
 |.unOp u _ x=>(aun u (bV e x)).map (·,H,T)
 |.convert s d x=>match P.underlying s,P.underlying d,bV e x with
  |some .string,some (.slice el),.str b=>match P.underlying el with
   |some (.int .u8)=>some (.sl b.length (sU b) .none,H,T)
   |_=>none
  |_,_,_=>(I2 P H s d (bV e x)).map (·,H,T)
 |.makeFunc (.func f) first cF=>some (.fn f (first.toList.map (bV e)) (cF.toList.map (bV e)),H,T)
 |.makeSlice t l c=>match P.underlying t,bV e l,bV e c with
  |some (.slice el),.int _ a,.int _ b=>match bz P el with
   |some zs=>
    if 0<zs.length/\0<=b/\b.toNat*P.bytesOf el<=281474976710656/\b.toNat<=9223372036854775807/\0<P.cellsOf el then
     if B3 l c=true then some (.bQ H.length b.toNat b.toNat,H++[.cells (iq zs (b.toNat*P.cellsOf el))],T)
     else if a=0 then some (.sl 0 [] (.own T.length),H,T++[(0,P.cellsOf el)]) else none
    else none
   |none=>none
  |_,_,_=>none
 |.slice t x lo hi mx=>(BR P t (bV e x) (lo.map (bV e)) (hi.map (bV e)) (mx.map (bV e))).map (·,H,T)
 |.fieldAddr t x f=>(o6 P t (bV e x) f).map (·,H,T)
 |.field t x f=>(BT P t (bV e x) f).map (·,H,T)
 |.indexAddr t x i=>(o5 P t (bV e x) (bV e i)).map (·,H,T)
 |.index t x i=>(BS P t (bV e x) (bV e i)).map (·,H,T)
 |.extract x i=>match bV e x with
  |.dn vs=>if i<vs.length then some (vs.getD i .top,H,T) else none
  |_=>none
 |.range t x=>match bV e x with
  |.str s=>match P.underlying t with
   |some .string=>some (.ptr H.length 0,H++[.iter s 0],T)
   |_=>none
  |.aP m=>match wa P t,H[m]? with
   |some _,some (.map es)=>some (.ptr H.length 0,H++[.mX m es.length []],T)
   |_,_=>none
  |_=>none
 |.makeMap _ none=>some (.aP H.length,H++[.map []],T)
 |.lookup t x i ok=>match bV e x,wa P t,IQ (bV e i) with
  |.aP m,some (kt,el),some k=>match H[m]?,qb P el with
   |some (.map es),some z=>if nu P kt k=true/\dz P kt es=true then some (ju es k z ok,H,T) else none
   |_,_=>none
  |_,_,_=>none
 |.mapUpdate t m k x=>match bV e m,wa P t,IQ (bV e k) with
  |.aP i,some (kt,_),some kk=>match H[i]? with
   |some (.map es)=>if nu P kt kk=true/\dz P kt es=true then some (.top,H.set i (.map (lK es kk (bV e x))),T) else none
   |_=>none
  |_,_,_=>none
 |.entry x=>match bV e x with
  |.ptr i 0=>match H[i]? with
   |some (.mX m n seen)=>match H[m]?,seen.getLast? with
    |some (.map es),some j=>if n=es.length then (es[j]?).map λkv=>(.dn [kv.1.av,kv.2],H,T) else none
    |_,_=>none
   |_=>none
  |_=>none
 |.next x true=>match bV e x with
  |.ptr i 0=>match H[i]? with
   |some (.iter s pos)=>if pos<s.length then some (.dn [.bool true,.int .i64 pos,.int .i32 (Utf8.decode ⟨s.toArray⟩ pos).1],H.set i (.iter s (pos+(Utf8.decode ⟨s.toArray⟩ pos).2)),T)
    else some (.dn [.bool false],H,T)
   |_=>none
  |_=>none
 |.call { callee:=.builtin b,args,argTypes }=>tY P b argTypes (args.toList.map (bV e)) H T
 |_=>none
def Good.of {x:Sem Value}{y:Sem Next}{r:AV}{H':List aA}{T':au}(hy:y=(do pure (Next.value (<-x))))(h:∃cv w' L',x.run P w=.ok cv w'/\cz L' H' T' w'/\bt L' H'.length T' w' r cv/\Ev H.length T.length L H.length T w L' H'.length T' w') :
  Good P y H T L w r H' T':=by
 obtain⟨cv,w',L',h1,h2,h3,h4⟩:=h;exact⟨.value cv,cv,w',L',by rw[hy];simp only[Sem.run_bind,h1,Result.andThen_ok];rfl,.inl rfl,h2,h3,h4⟩
def Good.same {x:Sem Value}{y:Sem Next}{r:AV}(hy:y=(do pure (Next.value (<-x))))(hc:cz L H T w)(h:∃cv,x.run P w=.ok cv w/\bt L H.length T w r cv):Good P y H T L w r H T:=by
 obtain⟨cv,h1,h2⟩:=h;exact Good.of hy ⟨cv,w,L,h1,hc,h2,Ev.refl (ahv _) (ahv _)⟩
def uQ {a:Act}{e:Env}(he:fu L H.length T w e a)(ps:Array (Nat×Operand)) :
  (ps.map fun(x:Nat×Operand)=>match x with|(i,x)=>(i,a.eval x)).size=(ps.toList.map fun(x:Nat×Operand)=>(x.1,bV e x.2)).length/\
  ∀(j:Nat) (h:j<(ps.toList.map fun(x:Nat×Operand)=>(x.1,bV e x.2)).length) (h':j<(ps.map fun(x:Nat×Operand)=>match x with|(i,x)=>(i,a.eval x)).toList.length),
   ((ps.toList.map fun(x:Nat×Operand)=>(x.1,bV e x.2))[j]'h).1=((ps.map fun(x:Nat×Operand)=>match x with|(i,x)=>(i,a.eval x)).toList[j]'h').1/\
   bt L H.length T w ((ps.toList.map fun(x:Nat×Operand)=>(x.1,bV e x.2))[j]'h).2 ((ps.map fun(x:Nat×Operand)=>match x with|(i,x)=>(i,a.eval x)).toList[j]'h').2:=by
 refine⟨zS,λj h h'=>?_⟩;simp only[aip,Array.toList_map];exact⟨by first|rfl|trivial,he.bV _⟩
theorem CC {b:Builtin}{ts:List TypeId}{ty:TypeId}{A:List AV}{B:List Value}{cst:Array Bool}{r:AV}{H':List aA}{T':au}(hc:cz L H T w)(h:tY P b ts.toArray A H T=some (r,H',T'))
  (hl:B.length=A.length) (hr:∀(j:Nat)(h:j<A.length)(h':j<B.length),bt L H.length T w (A[j]'h) (B[j]'h')):Good P (builtin b ts.toArray ty cst B.toArray) H T L w r H' T':=by
 have one:∀{x:Option AV} {y:AV×List aA×au},x.map (λv=>(v,H,T))=some y->∃v,x=some v/\y=(v,H,T):=by
  intro x y hx
  cases x with
  |none=>cases hx
  |some v=>exact⟨v,rfl,by cases hx;rfl⟩
 unfold tY at h
 split at h
 ·rename_i t x C6;have r5:ts=[t]:=C6;subst r5;obtain⟨v,hv,e1⟩:=one h
  cases e1
  match B,hl,hr with
  |[c],_,hr=>
   have h0:=hr 0 zS zS;simp only[aix] at h0;exact Good.same (x:=Builtin.len_ #[t] ty #[c]) rfl hc (S4 hv h0)
 ·rename_i t t2 s x C6;have r5:ts=[t,t2]:=C6;subst r5
  split at h
  ·rename_i i o n;obtain⟨v,hv,e1⟩:=one h
   cases e1
   match B,hl,hr with
   |[c,d],_,hr=>
    have h0:=hr 0 zS zS;have h1:=hr 1 zS zS;simp only[aix,ajx] at h0 h1;exact Good.same (x:=Builtin.append_ #[t,t2] ty #[c,d]) rfl hc (PB hc hv h0 h1)
  ·cases ha:tB P H T t t2 s x with
   |none=>rw[ha] at h;cases h
   |some y=>
    obtain⟨v,Tn⟩:=y;rw[ha] at h
    cases h
    match B,hl,hr with
    |[c,d],_,hr=>
     have h0:=hr 0 zS zS;have h1:=hr 1 zS zS;simp only[aix,ajx] at h0 h1;exact Good.of (x:=Builtin.append_ #[t,t2] ty #[c,d]) rfl (HP hc ha h0 h1)
 ·obtain⟨v,hv,e1⟩:=one h
  cases e1
  exact Good.same (x:=Builtin.max_ ts.toArray ty B.toArray) rfl hc (Jf (P:=P) (ty:=ty) (ts:=ts.toArray) true _ B r hv hl hr)
 ·obtain⟨v,hv,e1⟩:=one h
  cases e1
  exact Good.same (x:=Builtin.min_ ts.toArray ty B.toArray) rfl hc (Jf (P:=P) (ty:=ty) (ts:=ts.toArray) false _ B r hv hl hr)
 ·rename_i t x C6;have r5:ts=[t]:=C6;subst r5
  cases ha:xI P H t x with
  |none=>rw[ha] at h;cases h
  |some Hn=>
   rw[ha] at h
   cases h
   match B,hl,hr with
   |[c],_,hr=>
    have h0:=hr 0 zS zS;simp only[aix] at h0;exact Good.of (x:=Builtin.clear_ #[t] ty #[c]) rfl (Lz hc ha h0)
 ·cases h
theorem Bg {o:Oper}{e:Env}{a:Act}{r:AV}{H':List aA}{T':au}(hc:cz L H T w)(he:fu L H.length T w e a)(h:Nn P o e H T=some (r,H',T')):Good P (execOp a.eval o) H T L w r H' T':=by
 obtain⟨dst,op,type,pos,after,guard⟩:=o;have one:∀{x:Option AV} {y:AV×List aA×au},x.map (λv=>(v,H,T))=some y->∃v,x=some v/\y=(v,H,T):=by
  intro x y hx
  cases x with
  |none=>cases hx
  |some v=>exact⟨v,rfl,by cases hx;rfl⟩
 cases op<;>simp only[Nn,reduceCtorEq] at h
 case move x=>cases h;exact Good.now hc rfl (he.bV x)
 case assign x=>cases h;exact Good.now hc rfl (he.bV x)
 case pick c x y=>
  split at h
  ·rename_i t ht
   cases h
   have hb:=he.bV c;rw[ht] at hb;refine Good.same (x:=do pure (if<-asBool (a.eval c) then a.eval x else a.eval y)) (by simp[execOp]) hc ⟨if t then a.eval x else a.eval y,by rw[hb.jS];rfl,?_⟩
   cases t
   ·exact he.bV y
   ·exact he.bV x
  ·cases h
 case alloc t=>
  cases hz:bz P t with
  |none=>rw[hz] at h;cases h
  |some zs=>
   rw[hz] at h
   cases h
   obtain⟨i,z,hi,vo,hr,_⟩:=eJ (L:=L) (N:=H.length) (T:=T) (w:=w) hz;obtain⟨L',h1,h2,h3⟩:=hc.si z.cells t hr;refine Good.of (x:=Instr.alloc t true (.tuple #[])) rfl ⟨.pointer (some ⟨w.heap.size,0,none⟩),_,L',?_,h1,?_,h2⟩
   ·simp only[Instr.alloc,Sem.run_bind,kP hi vo,Result.andThen_ok];rfl
   ·rw[<-h3];exact .ptr _ _ zS
 case box t x=>
  cases hz:VX (bV e x) with
  |none=>rw[hz] at h;cases h
  |some xs=>
   rw[hz] at h
   cases h
   have hr:=Cr hz (he.bV x);obtain⟨L',h1,h2,h3⟩:=hc.si (a.eval x).cells t hr;refine Good.of (x:=Instr.box t (a.eval x)) rfl ⟨.pointer (some ⟨w.heap.size,0,none⟩),_,L',?_,h1,?_,h2⟩
   ·rfl
   ·rw[<-h3];exact .ptr _ _ zS
 case build t ps=>
  obtain⟨v,hv,e1⟩:=one h
  cases e1
  obtain⟨g1,g2⟩:=uQ he ps;exact Good.same rfl hc (run_build hv g1 g2)
 case buildSlice t n ps=>
  obtain⟨v,hv,e1⟩:=one h
  cases e1
  obtain⟨g1,g2⟩:=uQ he ps;exact Good.of rfl (yN hc hv g1 g2)
 case load t x=>
  split at h
  ·rename_i vs o uv;obtain⟨v,hv,e1⟩:=one h
   cases e1
   obtain⟨b,base,cv,e2,hr,mB⟩:=yI hc (he.bV x) uv;obtain⟨c,h1,h2⟩:=vJ (P:=P) hr mB hv;refine Good.same (x:=Instr.loadAt t (a.eval x)) rfl hc ⟨c,?_,h2⟩;rw[e2];exact h1
  ·cases h
 case store t x y=>
  split at h
  ·rename_i i o xs hx hy
   split at h
   ·rename_i vs hi
    split at h
    ·rename_i hb
     cases h
     obtain⟨hl,hle,hu⟩:=hb;obtain⟨d,hd⟩:=aia.1 hu;have hp:=he.bV x;rw[hx] at hp;obtain⟨e2,bp⟩:=hp.oS;have hr:=Cr hy (he.bV y);obtain⟨w',h1,h2,h3⟩:=nN (P:=P) (L:=L) (T:=T) i o xs (a.eval y).cells.toList 0 H w vs hc hr hi (zU hle);have gj:(a.eval y).cells.size=P.cellsOf t:=by have:=hr.1;simp at this;omega
     refine⟨.skip,undef,w',L,?_,.inr ⟨rfl,rfl⟩,h2,.top _,h3⟩;have:(Instr.storeAt t (a.eval x) (a.eval y)).run P w=.ok () w':=by
      rw[e2];simp only[Instr.storeAt,Instr.sureAddr,pure_bind,storeVar,Sem.run_bind,cW hd,Result.andThen_ok,gj,ne_eq,not_true_eq_false,aje];exact h1
     simp only[execOp,Sem.run_bind,this,Result.andThen_ok];rfl
    ·cases h
   ·cases h
  ·cases h
 case nilCheck x=>
  have hp:=he.bV x
  split at h
  ·rename_i i o hx
   cases h
   rw[hx] at hp;obtain⟨e2,bp⟩:=hp.oS;refine Good.now hc ?_ (e2▸hp);simp only[execOp,e2];rfl
  ·rename_i cs o hx
   cases h
   rw[hx] at hp;generalize YH:a.eval x=cx at hp
   cases hp with
   |eB _ _ b base f hm hcc h1 hr=>
    refine Good.now hc ?_ (.eB cs o b base f hm hcc h1 hr);simp only[execOp,YH];rfl
  ·rename_i f fa ca hx
   cases h
   rw[hx] at hp;generalize YH:a.eval x=cx at hp
   cases hp with
   |fn _ _ _ fv cv h1 h2 y4 o9=>
    refine Good.now hc ?_ (.fn f fa ca fv cv h1 h2 y4 o9);simp only[execOp,YH];rfl
  ·cases h
 case binOp op t x y yt=>
  split at h
  ·rename_i v hv
   cases h
   obtain⟨cv,h1,h2⟩:=LB hv (he.bV x);exact Good.same (x:=(do eqGuard op t x y (a.eval x) (a.eval y);binOp op t (a.eval x) (a.eval y))) rfl hc ⟨cv,h1,h2 _ _ _ _⟩
  split at h
  ·rename_i ht;obtain⟨v,hv,e1⟩:=one h
   cases e1
   obtain⟨cv,h1,h2⟩:=PG t hv ht (he.bV x) (he.bV y) x y;exact Good.same (x:=(do eqGuard op t x y (a.eval x) (a.eval y);binOp op t (a.eval x) (a.eval y))) rfl hc ⟨cv,h1,h2 _ _ _ _⟩
  ·obtain⟨v,hv,e1⟩:=one h
   cases e1
   obtain⟨cv,h1,h2⟩:=LC hv (he.bV x) (he.bV y) x y;exact Good.same (x:=(do eqGuard op t x y (a.eval x) (a.eval y);binOp op t (a.eval x) (a.eval y))) rfl hc ⟨cv,h1,h2 _ _ _ _⟩
 case unOp u t x=>
  obtain⟨v,hv,e1⟩:=one h
  cases e1
  obtain⟨cv,h1,h2⟩:=S5 (P:=P) hv (he.bV x);exact Good.same rfl hc ⟨cv,h1,h2 _ _ _ _⟩
 case convert s d x=>
  split at h
  ·rename_i el b h1 h2 h3
   split at h
   ·rename_i h4
    cases h
    have hb:=he.bV x;rw[h3] at hb;exact Good.of rfl (LA hc h1 h2 h4 hb)
   ·cases h
  ·obtain⟨v,hv,e1⟩:=one h
   cases e1
   exact Good.same rfl hc (Pz hc hv (he.bV x))
 case makeFunc fn first cF=>
  cases fn<;>simp only[reduceCtorEq] at h
  rename_i f
  cases h
  refine Good.now hc rfl (.fn f _ _ _ _ zS zS (λj hj bU=>?_) (λj hj bU=>?_))
  ·simp only[aip,Array.getElem_map,aiv];exact he.bV _
  ·simp only[aip,Array.getElem_map,aiv];exact he.bV _
 case makeSlice t l c=>
  split at h
  ·rename_i el k1 x k2 y hu hl cK
   split at h
   ·rename_i zs hz
    split at h
    ·rename_i hb;obtain⟨b1,b2,b3,b4,b5⟩:=hb;have rl:=he.bV l;have rc:=he.bV c;rw[hl] at rl;rw[cK] at rc
     split at h
     ·rename_i hs
      cases h
      have Gs:a.eval l=a.eval c:=by
       unfold B3 at hs
       split at hs
       ·simp at hs;rw[hs]
       ·simp at hs;rw[hs.1,hs.2]
       ·cases hs
      have ey:=rc.eh;have:=FK (t:=t) hc hu hz b1 k2 k2 y.toNat b3 b4;rw[Int.toNat_of_nonneg b2] at this;refine Good.of (x:=Instr.makeSlice t (a.eval l) (a.eval c)) rfl ?_;rw[Gs,ey];exact this
     ·split at h
      ·rename_i hx0
       cases h
       subst hx0;have ey:=rc.eh;have ex:=rl.eh;have:=FJ (t:=t) hc hu hz b5 k1 k2 y.toNat b3 b4;rw[Int.toNat_of_nonneg b2] at this;refine Good.of (x:=Instr.makeSlice t (a.eval l) (a.eval c)) rfl ?_;rw[ex,ey];exact this
      ·cases h
    ·cases h
   ·cases h
  ·cases h
 case slice t x lo hi mx=>
  obtain⟨v,hv,e1⟩:=one h
  cases e1
  have GO:∀(q:Option Operand) v cv,q.map (bV e)=some v->q.map a.eval=some cv->bt L H.length T w v cv:=by
   intro q v cv h1 h2
   cases q with
   |none=>cases h1
   |some q=>cases h1;cases h2;exact he.bV q
  exact Good.same rfl hc (Lu hv (he.bV x) (GO lo) (GO hi) (GO mx) zS zS zS)
 case fieldAddr t x f=>
  obtain⟨v,hv,e1⟩:=one h
  cases e1
  exact Good.same rfl hc (FM hv (he.bV x))
 case field t x f=>
  obtain⟨v,hv,e1⟩:=one h
  cases e1
  exact Good.same rfl hc (Lx hv (he.bV x))
 case indexAddr t x i=>
  obtain⟨v,hv,e1⟩:=one h
  cases e1
  exact Good.same rfl hc (FL hv (he.bV x) (he.bV i))
 case index t x i=>
  obtain⟨v,hv,e1⟩:=one h
  cases e1
  exact Good.same rfl hc (Lw hv (he.bV x) (he.bV i))
 case extract x i=>
  split at h
  ·rename_i vs hx
   split at h
   ·rename_i bp
    cases h
    have hp:=he.bV x;rw[hx] at hp;generalize YH:a.eval x=cx at hp
    cases hp with
    |dn _ cv h1 hr=>
     have kZ:i<cv.size:=zO;refine Good.same (x:=Instr.extract (a.eval x) i) rfl hc ⟨cv[i],?_,?_⟩
     ·rw[YH];simp only[Instr.extract,ajj kZ];rfl
     ·rw[ahs,ahu bp];exact hr i bp kZ
   ·cases h
  ·cases h
 case range t x=>
  split at h
  ·rename_i s hx
   split at h
   ·rename_i hu
    cases h
    have hp:=he.bV x;rw[hx] at hp;obtain⟨L',h1,h2,h3⟩:=hc.Tw s;refine Good.of (x:=Instr.range t (a.eval x)) rfl ⟨.pointer (some ⟨w.heap.size,0,none⟩),_,L',?_,h1,?_,h2⟩
    ·rw[hp.jb];simp only[Instr.range,Sem.run_bind,run_underlying hu,Result.andThen_ok];rfl
    ·rw[<-h3];exact .ptr _ _ zS
   ·cases h
  ·rename_i m hx
   split at h
   ·rename_i y es hT hm
    cases h
    obtain⟨kt,el⟩:=y;have hp:=he.bV x;rw[hx] at hp;obtain⟨cv,w',L',h1,h2,h3,h4⟩:=HJ hc hT hm;refine Good.of (x:=Instr.range t (a.eval x)) rfl ⟨cv,w',L',?_,h2,h3,h4⟩;rw[hp.xU.1];exact h1
   ·cases h
  ·cases h
 case makeMap t r=>
  cases r<;>simp only[reduceCtorEq] at h
  cases h
  obtain⟨cv,w',L',h1,h2,h3,h4⟩:=run_makeMap hc t;exact Good.of (x:=Instr.makeMap t none) rfl ⟨cv,w',L',h1,h2,h3,h4⟩
 case lookup t x i ok=>
  split at h
  ·rename_i m kt el k hx hT hk
   split at h
   ·rename_i es z hm hz
    split at h
    ·rename_i hf
     cases h
     have hp:=he.bV x;rw[hx] at hp;obtain⟨cv,h1,h2⟩:=HM hc ok hT hm hz hf.1 hf.2;refine Good.same (x:=Instr.lookup t (a.eval x) (a.eval i) ok) rfl hc ⟨cv,?_,h2⟩;rw[hp.xU.1,AU hk (he.bV i)];exact h1
    ·cases h
   ·cases h
  ·cases h
 case mapUpdate t m k x=>
  split at h
  ·rename_i i kt el kk hx hT hk
   split at h
   ·rename_i es hm
    split at h
    ·rename_i hf
     cases h
     have hp:=he.bV m;rw[hx] at hp;obtain⟨w',h1,h2,h3⟩:=zq hc hT hm (he.bV x) hf.1 hf.2;refine⟨.skip,undef,w',L,?_,.inr ⟨rfl,rfl⟩,h2,.top _,h3⟩;have:(Instr.mapUpdate t (a.eval m) (a.eval k) (a.eval x)).run P w=.ok () w':=by
      rw[hp.xU.1,AU hk (he.bV k)];exact h1
     simp only[execOp,Sem.run_bind,this,Result.andThen_ok];rfl
    ·cases h
   ·cases h
  ·cases h
 case entry x=>
  split at h
  ·rename_i i hx;have hp:=he.bV x;rw[hx] at hp;obtain⟨e2,bp⟩:=hp.oS
   split at h
   ·rename_i m n seen hi
    split at h
    ·rename_i es j hm hl
     split at h
     ·rename_i hn;subst hn;obtain⟨kv,hkv,e1⟩:=aji.1 h
      cases e1
      obtain⟨hj,rfl⟩:=aht.1 hkv;obtain⟨s0,rfl⟩:=List.getLast?_eq_some_iff.1 hl;obtain⟨cv,h1,h2⟩:=HK hc hi hm hj;refine Good.same (x:=Instr.entry (a.eval x)) rfl hc ⟨cv,?_,h2⟩;rw[e2];exact h1
     ·cases h
    ·cases h
   ·cases h
  ·cases h
 case next x s=>
  cases s<;>simp only[reduceCtorEq] at h
  split at h
  ·rename_i i hx;have hp:=he.bV x;rw[hx] at hp;obtain⟨e2,bp⟩:=hp.oS
   split at h
   ·rename_i s pos hi;have hb:w.heap[L.bW i]?=some (.stringIter ⟨s.toArray⟩ pos):=hc.box i _ hi;have gj:(⟨s.toArray⟩:ByteArray).size=s.length:=by simp[ByteArray.size]
    split at h
    ·rename_i gu
     cases h
     obtain⟨h1,h2⟩:=hc.setIter (pos':=pos+(Utf8.decode ⟨s.toArray⟩ pos).2) hi;refine Good.of (x:=Instr.next (a.eval x) true type) rfl ⟨.tuple #[.bool true,goInt pos,.int .i32 (Utf8.decode ⟨s.toArray⟩ pos).1],_,L,?_,h1,?_,h2⟩
     ·rw[e2];simp[Instr.next,getObj,setObj,Sem.run,hb,gj,gu]
     ·refine .dn _ _ rfl (λj hj bU=>?_)
      match j,hj with
      |0,_=>exact .bool _
      |1,_=>exact .int _ _
      |2,_=>exact .int _ _
    ·rename_i gu
     cases h
     refine Good.same (x:=Instr.next (a.eval x) true type) rfl hc ⟨.tuple #[.bool false],?_,?_⟩
     ·rw[e2];simp[Instr.next,getObj,Sem.run,hb,gj,gu]
     ·refine .dn _ _ rfl (λj hj bU=>?_)
      match j,hj with
      |0,_=>exact .bool _
   ·cases h
  ·cases h
 case call c=>
  obtain⟨callee,args,C1⟩:=c
  cases callee<;>simp only[reduceCtorEq] at h
  rename_i b;obtain⟨ts⟩:=C1;obtain⟨args⟩:=args;have:=CC (ty:=type) (cst:=args.toArray.map fun|.const _=>true|_=>false) (B:=args.map a.eval) hc h zS (λj hj bU=>by
   simp only[aip];exact he.bV _)
  have e1:execOp a.eval ⟨dst,.call ⟨.builtin b,args.toArray,ts.toArray⟩,type,pos,after,guard⟩=builtin b ts.toArray type (args.toArray.map fun|.const _=>true|_=>false) (args.map a.eval).toArray:=by
   simp[execOp,resolve,invoke];rfl
  rw[<-e1] at this;exact this
end
def QW (L:Lay)(H:List aA)(T:au)(w:World)(Q:AV->List aA->au->Prop)(e:Ending)(w':World):Prop:=
 ∃r H' T' L' cv,Q r H' T'/\e=.returned cv/\cz L' H' T' w'/\bt L' H'.length T' w' r cv/\Ev H.length T.length L H.length T w L' H'.length T' w'
def aq (P:Program)(f:FuncId)(args:List AV)(H:List aA)(T:au)(Q:AV->List aA->au->Prop):Prop:=
 (∀as w,(callFunc f as).run P w=.ok (.enter f as) w)/\
 ∀L w (ca:Array Value),cz L H T w->ca.size=args.length->(∀(j:Nat)(h:j<args.length)(h':j<ca.size),bt L H.length T w (args[j]'h) (ca[j]'h'))->
  Calls P f ca w (QW L H T w Q)
theorem aq.mono {P f args H T Q Q'}(h:aq P f args H T Q)(hq:∀r H' T',Q r H' T'->Q' r H' T'):aq P f args H T Q':=
 ⟨h.1,λL w ca hc hl hr=>(h.2 L w ca hc hl hr).mono λ_ _ ⟨r,H',T',L',cv,q,k⟩=>⟨r,H',T',L',cv,hq _ _ _ q,k⟩⟩
def Is (r:AV)(H:List aA)(T:au):AV->List aA->au->Prop:=λr' H' T'=>r'=r/\H'=H/\T'=T
def prune (nv:Nat):Env->Env
 |[]=>[]
 |(s,v)::r=>if s<nv then (s,v)::prune nv r else prune nv r
theorem mT (nv:Nat)(e:Env)(t:Nat):bO (prune nv e) t=bO e t\/bO (prune nv e) t=.top:=by
 by_cases ht:t<nv
 ·left
  induction e with
  |nil=>rfl
  |cons x r ih=>
   obtain⟨s,v⟩:=x
   by_cases hs:s<nv
   ·simp[prune,bO,hs,ih]
   ·have:s≠t:=zO;simp[prune,bO,hs,ih,this]
 ·right
  induction e with
  |nil=>rfl
  |cons x r ih=>
   obtain⟨s,v⟩:=x
   by_cases hs:s<nv
   ·have:s≠t:=zO;simp[prune,bO,hs,ih,this]
   ·simp[prune,hs,ih]
def hZ (o:Oper)(e:Env):Option (FuncId×List AV):=
 match o.op with
 |.call { callee:=.value f,args,argTypes:=_ }=>match bV e f with
  |.fn g first cF=>some (g,first++args.toList.map (bV e)++cF)
  |_=>none
 |_=>none
def nh (C:Cx)(dst:Option Tmp)(v:AV)(e:Env)(H:List aA)(T:au)(K:St->Prop):Prop:=
 match dst with
 |some d=>d<C.nt/\K ⟨mr e d v,H,T⟩
 |none=>K ⟨e,H,T⟩
def wV (C:Cx)(K:St->Prop)(dst:Option Tmp)(g:FuncId)(as:List AV)(s:St):Prop:=
 ∃Q,aq C.P g as s.H s.T Q/\∀v H' T',Q v H' T'->nh C dst v s.e H' T' K
def Du (L:Lay)(N:Nat)(T:au)(w:World)(vs:List AV)(c:List Value):Prop:=
 c.length=vs.length/\∀(j:Nat)(h:j<vs.length)(h':j<c.length),bt L N T w (vs[j]'h) (c[j]'h')
def Du.append {L:Lay}{N:Nat}{T:au}{w:World}{a b:List AV}{c d:List Value}(h:Du L N T w a c)(k:Du L N T w b d):Du L N T w (a++b) (c++d):=by
 refine⟨by simp[h.1,k.1],λj hj bU=>?_⟩;rw[ajA,ajA]
 by_cases bp:j<a.length
 ·rw[akf bp,akf (by rw[h.1];exact bp)];exact h.2 _ _ _
 ·rw[akg bp,akg (by rw[h.1];exact bp)];have:=k.2 (j-a.length) (by simp at hj;omega) (by simp at bU;rw[h.1] at bU;omega);simpa[h.1] using this
def pA (all:Array Oper)(j:Nat)(e:Env):Option (Option Bool):=
 match (all[j]?).bind (·.dst) with
 |some d=>match bO e d with
  |.bool b=>some (some b)
  |.dn []=>some none
  |_=>none
 |none=>none
def Kx (P:Program)(o:Oper)(e:Env):Option (Nat×Bool):=
 match o.op with
 |.binOp op t x (.const (.slice none _ _)) _=>match P.underlying t,bV e x,op with
  |some (.slice _),.sl n _ _,.eql=>some (n,true)
  |some (.slice _),.sl n _ _,.neq=>some (n,false)
  |some (.slice _),.cV _ _ n,.eql=>some (n,true)
  |some (.slice _),.cV _ _ n,.neq=>some (n,false)
  |_,_,_=>none
 |_=>none
def PC {P:Program}{o:Oper}{e:Env}{a:Act}{n:Nat}{q:Bool}{L:Lay}{N:Nat}{T:au}{w:World}(h:Kx P o e=some (n,q))(he:fu L N T w e a) :
  ∃b:Bool,(0<n->b=!q)/\(execOp a.eval o).run P w=.ok (.value (.bool b)) w:=by
 unfold Kx at h
 split at h
 ·rename_i op t x l c y ho;have hx:=he.bV x;have core:∀(op:BinOp)(n cap:Nat)(ad:Option Addr)(el:TypeId),P.underlying t=some (.slice el)->a.eval x=.slice ad n cap->(0<n->ad.isNone=false)->(op=.eql\/op=.neq)->o.op=.binOp op t x (.const (.slice none l c)) y->∃b:Bool,(0<n->b=!(op==.eql))/\(execOp a.eval o).run P w=.ok (.value (.bool b)) w:=by
   intro op n cap ad el hu hv Uv mh ho;have hg:(eqGuard op t x (.const (.slice none l c)) (a.eval x) (a.eval (.const (.slice none l c)))).run P w=.ok () w:=pj op t _ _ _ _ (by rw[hv];exact⟨λ_ e=>(by cases e),λe=>(by cases e)⟩);have heq:∀d:Nat,(Op.equalIn (d+1) t (.slice ad n cap) (.slice none l c)).run P w=.ok ad.isNone w:=by
    intro d
    cases ad<;>simp only[Op.equalIn,Sem.run_bind,run_underlying hu,Result.andThen_ok]<;>rfl
   have dj:=lV (P:=P) (w:=w) t (.slice ad n cap) (.slice none l c) ad.isNone op mh rfl rfl heq;refine⟨if op=.eql then ad.isNone else !ad.isNone,λhn=>?_,?_⟩
   ·have:=Uv hn;rcases mh with rfl|rfl<;>simp[this]
   ·rw[hv] at hg;have wY:a.eval (.const (.slice none l c))=.slice none l c:=rfl;rw[wY] at hg;simp only[execOp,ho,Sem.run_bind,hv,wY,hg,Result.andThen_ok,dj];rfl
  have fin:∀(op:BinOp)(n:Nat)(cs:List AV)(tg:Tag)(el:TypeId),P.underlying t=some (.slice el)->bV e x=.sl n cs tg->(op=.eql\/op=.neq)->o.op=.binOp op t x (.const (.slice none l c)) y->∃b:Bool,(0<n->b=!(op==.eql))/\(execOp a.eval o).run P w=.ok (.value (.bool b)) w:=by
   intro op n cs tg el hu hs mh ho;rw[hs] at hx;obtain⟨ad,cap,hv,_,_,y7⟩:=hx.fN;refine core op n cap ad el hu hv (λhn=>?_) mh ho;rcases y7 with⟨_,h0⟩|⟨b,base,cv,e1,_⟩
   ·omega
   ·rw[e1];rfl
  have zl:∀(op:BinOp)(i p n:Nat)(el:TypeId),P.underlying t=some (.slice el)->bV e x=.cV i p n->(op=.eql\/op=.neq)->o.op=.binOp op t x (.const (.slice none l c)) y->∃b:Bool,(0<n->b=!(op==.eql))/\(execOp a.eval o).run P w=.ok (.value (.bool b)) w:=by
   intro op i p n el hu hs mh ho;rw[hs] at hx;obtain⟨cap,hv,_,_⟩:=hx.kD;exact core op n cap _ el hu hv (λ_=>rfl) mh ho
  split at h
  ·rename_i el n' cs tg hu hs
   cases h
   obtain⟨b,h1,h2⟩:=fin .eql _ _ _ _ hu hs (.inl rfl) ho;exact⟨b,λhn=>h1 hn,h2⟩
  ·rename_i el n' cs tg hu hs
   cases h
   obtain⟨b,h1,h2⟩:=fin .neq _ _ _ _ hu hs (.inr rfl) ho;exact⟨b,λhn=>h1 hn,h2⟩
  ·rename_i el i' p' n' hu hs
   cases h
   obtain⟨b,h1,h2⟩:=zl .eql _ _ _ _ hu hs (.inl rfl) ho;exact⟨b,λhn=>h1 hn,h2⟩
  ·rename_i el i' p' n' hu hs
   cases h
   obtain⟨b,h1,h2⟩:=zl .neq _ _ _ _ hu hs (.inr rfl) ho;exact⟨b,λhn=>h1 hn,h2⟩
  ·cases h
 ·cases h
def KA (P:Program)(bx:List Nat)(o:Oper)(e:Env)(H:List aA):Option (Nat×List AV):=
 match o.op,o.dst with
 |.call { callee:=.builtin .append,args,argTypes },some d=>
  if bx.contains d=true then
   match argTypes.toList,args.toList.map (bV e) with
   |[t,t2],[s,x]=>oW P H t t2 s x
   |_,_=>none
  else none
 |.buildSlice t n ps,some d=>if bx.contains d=true then (oF P t n (ps.toList.map fun(x:Nat×Operand)=>(x.1,bV e x.2))).map λys=>(n,ys) else none
 |_,_=>none
theorem PF {P:Program}{bx:List Nat}{o:Oper}{e:Env}{a:Act}{L:Lay}{H:List aA}{T:au}{w:World}{m:Nat}{ys:List AV}(h:KA P bx o e H=some (m,ys))(hc:cz L H T w)(he:fu L H.length T w e a) :
  ∃k cv w' L',(execOp a.eval o).run P w=.ok (.value cv) w'/\cz L' (H++[.cells (ys++List.replicate k .top)]) T w'/\bt L' (H++[aA.cells (ys++List.replicate k .top)]).length T w' (.cV H.length 0 m) cv/\
   Ev H.length T.length L H.length T w L' (H++[aA.cells (ys++List.replicate k .top)]).length T w':=by
 obtain⟨dst,op,type,pos,after,guard⟩:=o;unfold KA at h
 split at h
 ·rename_i args C1 d' mh hd;simp only at mh;subst mh
  split at h
  ·split at h
   ·rename_i t t2 s x C6 fi;have r5:C1=#[t,t2]:=by rw[<-Array.toList_inj];exact C6
    subst r5
    match ur:args.toList,fi with
    |[p,q],fi=>
     simp only[aih,aju,List.cons.injEq,ake] at fi;obtain⟨e1,e2⟩:=fi;have h0:=he.bV p;have h1:=he.bV q;rw[e1] at h0;rw[e2] at h1;obtain⟨k,cv,w',L',dj,g1,g2,g3⟩:=HQ (ty:=type) hc h h0 h1;refine⟨k,cv,w',L',?_,g1,g2,g3⟩;have oO:args=#[p,q]:=by rw[<-Array.toList_inj];exact ur
     subst oO;simp only[execOp,resolve,Sem.run_bind,Sem.run_pure,Result.andThen_ok,invoke,builtin,map_toArray,aih,aju,dj]
   ·cases h
  ·cases h
 ·rename_i t n ps d' mh hd;simp only at mh;subst mh
  split at h
  ·cases hb:oF P t n (ps.toList.map fun(x:Nat×Operand)=>(x.1,bV e x.2)) with
   |none=>rw[hb] at h;cases h
   |some ys0=>
    rw[hb] at h
    cases h
    obtain⟨g1,g2⟩:=uQ he ps;obtain⟨cv,w',L',dj,k1,k2,k3⟩:=CB hc hb g1 g2;refine⟨0,cv,w',L',?_,by simpa using k1,by simpa using k2,by simpa using k3⟩;show Sem.run P (do pure (Next.value (<-Instr.buildSlice t _ (ps.map fun(x:Nat×Operand)=>(x.1,a.eval x.2))))) w=_;simp only[Sem.run_bind,dj,Result.andThen_ok,Sem.run_pure]
  ·cases h
 ·cases h
def sV (o:Oper)(e:Env):Option (TypeId×TypeId×Nat×Nat×Nat×AV):=
 match o.op with
 |.call { callee:=.builtin .append,args,argTypes }=>
  match argTypes.toList,args.toList.map (bV e) with
  |[t,t2],[.bQ i n cap,x]=>some (t,t2,i,n,cap,x)
  |_,_=>none
 |_=>none
def WG (C:Cx)(K:St->Prop)(dst:Option Tmp)(t t2:TypeId)(i n cap:Nat)(x:AV)(e:Env)(H:List aA)(T:au):Prop:=
 ∃(el:TypeId) (vs xs:List AV) (m:Nat),C.P.underlying t=some (.slice el)/\H[i]?=some (.cells vs)/\vs.length=cap*C.P.cellsOf el/\ic H (C.P.cellsOf el) x=some (m,xs)/\(n+m)*C.P.bytesOf el<=140737488355328/\n+m<=9223372036854775807/\
  ke C.P t2=true/\(bz C.P el).isSome=true/\
  (n+m<=cap->nh C dst (.bQ i (n+m) cap) e (H.set i (.cells (vs.take (n*C.P.cellsOf el)++xs++vs.drop ((n+m)*C.P.cellsOf el)))) T K)/\
  ∀nc,cap<n+m->n+m<=nc->nh C dst (.bQ H.length (n+m) nc) e (H++[.cells (vs.take (n*C.P.cellsOf el)++xs++List.replicate ((nc-(n+m))*C.P.cellsOf el) .top)]) T K
def lE (P:Program)(bx:List Nat)(o:Oper)(e:Env)(H:List aA):Option (Nat×List AV×Nat):=
 match o.op,o.dst with
 |.call { callee:=.builtin .append,args,argTypes },some d=>
  if bx.contains (d+100000)=true then
   match argTypes.toList,args.toList.map (bV e) with
   |[t,t2],[s,x]=>match P.underlying t,oW P H t t2 s x with
    |some (.slice el),some (m,ys)=>some (m,ys,P.cellsOf el)
    |_,_=>none
   |_,_=>none
  else none
 |_,_=>none
theorem AF {P:Program}{bx:List Nat}{o:Oper}{e:Env}{a:Act}{L:Lay}{H:List aA}{T:au}{w:World}{m z:Nat}{ys:List AV}(h:lE P bx o e H=some (m,ys,z))(hc:cz L H T w)(he:fu L H.length T w e a) :
  ∃nc,m<=nc/\∃cv w' L',(execOp a.eval o).run P w=.ok (.value cv) w'/\cz L' (H++[.cells (ys++List.replicate ((nc-m)*z) .top)]) T w'/\bt L' (H++[aA.cells (ys++List.replicate ((nc-m)*z) .top)]).length T w' (.bQ H.length m nc) cv/\
   Ev H.length T.length L H.length T w L' (H++[aA.cells (ys++List.replicate ((nc-m)*z) .top)]).length T w':=by
 obtain⟨dst,op,type,pos,after,guard⟩:=o;unfold lE at h
 split at h
 ·rename_i args C1 d' mh hd;simp only at mh;subst mh
  split at h
  ·split at h
   ·rename_i t t2 s x C6 fi;have r5:C1=#[t,t2]:=by rw[<-Array.toList_inj];exact C6
    subst r5
    split at h
    ·rename_i el m' ys' hu hb
     cases h
     match ur:args.toList,fi with
     |[p,q],fi=>
      simp only[aih,aju,List.cons.injEq,ake] at fi;obtain⟨e1,e2⟩:=fi;have h0:=he.bV p;have h1:=he.bV q;rw[e1] at h0;rw[e2] at h1;obtain⟨nc,lY,cv,w',L',dj,g1,g2,g3⟩:=FO (ty:=type) hc hb hu h0 h1;refine⟨nc,lY,cv,w',L',?_,g1,g2,g3⟩;have oO:args=#[p,q]:=by rw[<-Array.toList_inj];exact ur
      subst oO;simp only[execOp,resolve,Sem.run_bind,Sem.run_pure,Result.andThen_ok,invoke,builtin,map_toArray,aih,aju,dj]
    ·cases h
   ·cases h
  ·cases h
 ·cases h
def xF (o:Oper)(e:Env)(H:List aA):Option (Nat×Nat×Nat×List Nat×List (cZ×AV)):=
 match o.op with
 |.next x false=>match bV e x with
  |.ptr i 0=>match H[i]? with
   |some (.mX m n seen)=>match H[m]? with
    |some (.map es)=>some (i,m,n,seen,es)
    |_=>none
   |_=>none
  |_=>none
 |_=>none
def I5 (C:Cx)(K:St->Prop)(dst:Option Tmp)(i m n:Nat)(seen:List Nat)(es:List (cZ×AV))(e:Env)(H:List aA)(T:au):Prop:=
 n=es.length/\((∀j,j<n->j∈seen)->nh C dst (.dn [.bool false]) e H T K)/\
  ∀(j:Nat)(k:cZ)(v:AV),es[j]?=some (k,v)->j∉seen->nh C dst (.dn [.bool true,k.av,v]) e (H.set i (.mX m n (seen++[j]))) T K
def nw (P:Program)(o:Oper)(e:Env)(H:List aA):Bool:=
 match o.op with
 |.call { callee:=.builtin .append,args,argTypes }=>
  match argTypes.toList,args.toList.map (bV e) with
  |[t,t2],[.sl 0 [] .full,x]=>match P.underlying t with
   |some (.slice el)=>match ic H (P.cellsOf el) x with
    |some (m,_)=>decide (m=0)&&(ke P t2&&(bz P el).isSome)
    |none=>false
   |_=>false
  |_,_=>false
 |_=>false
theorem AE {P:Program}{o:Oper}{e:Env}{a:Act}{L:Lay}{H:List aA}{T:au}{w:World}(h:nw P o e H=true)(hc:cz L H T w)(he:fu L H.length T w e a) :
  ∃cv,(execOp a.eval o).run P w=.ok (.value cv) w/\bt L H.length T w (.sl 0 [] .full) cv:=by
 unfold nw at h
 split at h
 ·rename_i args C1 mh
  split at h
  ·rename_i t t2 x C6 fi
   split at h
   ·rename_i el hu
    split at h
    ·rename_i m ys nI;rw[ahG,ahG,ahH] at h;obtain⟨RL,uk,rq⟩:=h;subst RL;have r5:C1=#[t,t2]:=by rw[<-Array.toList_inj];exact C6
     subst r5;have jT:args.toList.length=2:=by have:=congrArg List.length fi;simpa using this
     match ur:args.toList,jT,fi with
     |[p,q],_,fi=>
      simp only[aih,aju,List.cons.injEq,ake] at fi;obtain⟨e1,e2⟩:=fi;have hs:=he.bV p;have hx:=he.bV q;rw[e1] at hs;rw[e2] at hx;have oO:args=#[p,q]:=by rw[<-Array.toList_inj];exact ur
      subst oO;obtain⟨zs,rq⟩:=aia.1 rq;obtain⟨i',z,hi,vo,Q5,Dk⟩:=eJ (L:=L) (N:=H.length) (T:=T) (w:=w) rq;have vZ:P.cellsOf el=i'.size:=by simp[Program.cellsOf,hi]
      obtain⟨new,Gr,pf,hlen,iu⟩:=eO (P:=P) hc hx nI;have y8:cz L H T w.drew:=hc.drew rfl;have kd:dh L H.length T w L H.length T w.drew:=(Ev.drew (H:=H) (T:=T) (L:=L) (w:=w) (w':=w.drew) rfl rfl rfl rfl (air _)).keeps;obtain⟨ml,_,oN,_,jO⟩:=eO (P:=P) y8 (hx.keep kd) nI;have j6:ic H (P.cellsOf el) (.sl 0 [] .full)=some (0,[]):=by simp[ic]
      obtain⟨vV,_,te,_,pg⟩:=eO (P:=P) y8 (hs.keep kd) j6;obtain⟨ad,cap,hsv,cK,ht,_⟩:=hs.fN;rw[hsv] at pg;have h2:=fY (P:=P) (w:=w) (ty:=o.type) hu uk hi vo (a:=ad) (n:=0) (cap:=cap) (m:=0) hlen (vZ▸iu) (vZ▸jO) (vZ▸pg) zS zS;have CS:new=[]:=ah5 (by rw[pf.1];simpa using Gr);have h3:=h2.1 zO;rw[CS] at h3;refine⟨.slice ad 0 cap,?_,.zF _ _ _ ht⟩;have h4:(Builtin.append_ #[t,t2] o.type #[a.eval p,a.eval q]).run P w=.ok (.slice ad 0 cap) w:=by
       rw[hsv,h3]
       cases ad<;>rfl
      simp only[execOp,mh,resolve,Sem.run_bind,Sem.run_pure,Result.andThen_ok,invoke,builtin,map_toArray,aih,aju,h4]
    ·cases h
   ·cases h
  ·cases h
 ·cases h
def N7 (P:Program)(bx:List Nat)(o:Oper)(e:Env)(H:List aA)(T:au):Option (AV×List aA×au):=
 if (match o.dst with|some d=>bx.contains (d+100000)&&nw P o e H|none=>false)=true then some (.sl 0 [] .full,H,T) else Nn P o e H T
def gP (C:Cx)(all:Array Oper)(K:St->Prop):List Oper->St->Prop
 |[],s=>K s
 |o::r,s=>
  let exec:Prop:=match hZ o s.e with
   |some (g,as)=>wV C (gP C all K r) o.dst g as s
   |none=>match Kx C.P o s.e with
    |some (n,q)=>∀b:Bool,(0<n->b=!q)->nh C o.dst (.bool b) s.e s.H s.T (gP C all K r)
    |none=>match KA C.P C.bx o s.e s.H with
     |some (m,ys)=>∀k:Nat,nh C o.dst (.cV s.H.length 0 m) s.e (s.H++[.cells (ys++List.replicate k .top)]) s.T (gP C all K r)
     |none=>match lE C.P C.bx o s.e s.H with
      |some (m,ys,z)=>∀nc:Nat,m<=nc->nh C o.dst (.bQ s.H.length m nc) s.e (s.H++[.cells (ys++List.replicate ((nc-m)*z) .top)]) s.T (gP C all K r)
      |none=>match sV o s.e with
       |some (t,t2,i,n,cap,x)=>WG C (gP C all K r) o.dst t t2 i n cap x s.e s.H s.T
       |none=>match xF o s.e s.H with
        |some (i,m,n,seen,es)=>I5 C (gP C all K r) o.dst i m n seen es s.e s.H s.T
        |none=>match N7 C.P C.bx o s.e s.H s.T with
         |some (v,H',T')=>nh C o.dst v s.e H' T' (gP C all K r)
         |none=>False
  match o.guard with
  |none=>exec
  |some (j,want)=>match pA all j s.e with
   |some b=>if b=some want then exec else nh C o.dst (.dn []) s.e s.H s.T (gP C all K r)
   |none=>False
theorem tZ {L:Lay}{N:Nat}{T:au}{w:World}{e:Env}{a:Act}{all:Array Oper}{j:Nat}{b:Option Bool}(he:fu L N T w e a)(h:pA all j e=some b):yielded all a.tmps j=b:=by
 unfold pA at h
 split at h
 ·rename_i d hd
  split at h
  ·rename_i b' hb
   cases h
   have hr:=he d;rw[hb] at hr;have:=hr.jS;unfold yielded;rw[hd];have aad:a.tmps[d]?=some (.bool b'):=by
    simp only[aj1] at this
    cases hx:a.tmps[d]? with
    |none=>rw[hx] at this;simp[undef] at this
    |some v=>rw[hx] at this;simp at this;rw[this]
   simp[aad]
  ·rename_i hb
   cases h
   have hr:=he d;rw[hb] at hr;unfold yielded;rw[hd];generalize hx:a.tmps.getD d undef=x at hr
   cases hr with
   |dn _ cv h1 _=>
    cases hy:a.tmps[d]? with
    |none=>simp[hy]
    |some y=>
     have:y=.tuple cv:=by simpa[aj1,hy] using hx
     subst this;simp[hy]
  ·cases h
 ·cases h
theorem eQ.put {C:Cx}{s:St}{L L':Lay}{w w':World}{a:Act}{H':List aA}{T':au}{v:AV}{cv:Value}{K:St->Prop}{dst:Option Tmp}(hc:eQ C s L w a)(hn:cz L' H' T' w')(hr:bt L' H'.length T' w' v cv)
  (ev:Ev s.H.length s.T.length L s.H.length s.T w L' H'.length T' w') (hp:nh C dst v s.e H' T' K):∃s',K s'/\s'.H=H'/\s'.T=T'/\eQ C s' L' w' (a.put dst cv):=by
 have uy:=hc.env.keep ev.keeps;have gL:=ahA hc.nb ev.n;have fZ:=ahA hc.tb ev.t
 cases dst with
 |none=>exact⟨⟨s.e,H',T'⟩,hp,rfl,rfl,⟨gL,fZ,hn,hc.size,hc.defers,uy⟩⟩
 |some d=>
  obtain⟨hd,hk⟩:=hp;refine⟨⟨Am.mr s.e d v,H',T'⟩,hk,rfl,rfl,⟨gL,fZ,hn,by simp[Act.put,hc.size],hc.defers,uy.put (by rw[hc.size];exact hd) hr⟩⟩
theorem yL {C:Cx}{all:Array Oper}{K:St->Prop}:∀(l:List Oper)(s:St),gP C all K l s->∀L w a (L0:Lay) (s0:St) (w0:World),eQ C s L w a->Ev C.nb C.tb L0 s0.H.length s0.T w0 L s.H.length s.T w->
  wpList C.P all (cN C (dK K λ_ _=>False) L0 s0 w0) l a w:=by
 intro l
 induction l with
 |nil=>intro s h L w a L0 s0 w0 hc ev;exact⟨s,L,h,hc,ev⟩
 |cons o r ih=>
  intro s h L w a L0 s0 w0 hc ev;have UW:(match hZ o s.e with
   |some (g,as)=>wV C (gP C all K r) o.dst g as s
   |none=>match Kx C.P o s.e with
    |some (n,q)=>∀b:Bool,(0<n->b=!q)->nh C o.dst (.bool b) s.e s.H s.T (gP C all K r)
    |none=>match KA C.P C.bx o s.e s.H with
     |some (m,ys)=>∀k:Nat,nh C o.dst (.cV s.H.length 0 m) s.e (s.H++[.cells (ys++List.replicate k .top)]) s.T (gP C all K r)
     |none=>match lE C.P C.bx o s.e s.H with
      |some (m,ys,z)=>∀nc:Nat,m<=nc->nh C o.dst (.bQ s.H.length m nc) s.e (s.H++[.cells (ys++List.replicate ((nc-m)*z) .top)]) s.T (gP C all K r)
      |none=>match sV o s.e with
       |some (t,t2,i,n,cap,x)=>WG C (gP C all K r) o.dst t t2 i n cap x s.e s.H s.T
       |none=>match xF o s.e s.H with
        |some (i,m,n,seen,es)=>I5 C (gP C all K r) o.dst i m n seen es s.e s.H s.T
        |none=>match N7 C.P C.bx o s.e s.H s.T with
         |some (v,H',T')=>nh C o.dst v s.e H' T' (gP C all K r)
         |none=>False)->o.wp C.P a w (wpList C.P all (cN C (dK K λ_ _=>False) L0 s0 w0) r) (cN C (dK K λ_ _=>False) L0 s0 w0):=by
   intro hx
   split at hx
   ·rename_i g as jJ;obtain⟨Q,⟨DM,hq⟩,hk⟩:=hx;unfold hZ at jJ
    split at jJ
    ·rename_i f args C1 mh
     split at jJ
     ·rename_i g' first cF hf
      cases jJ
      have Rj:=hc.env.bV f;rw[hf] at Rj;generalize hfv:a.eval f=fv at Rj
      cases Rj with
      |fn _ _ _ fa ca h1 h2 y4 o9=>
       have dj:(execOp a.eval o).run C.P w=.ok (.enter g (fa++args.map a.eval++ca)) w:=by
        simp only[execOp,mh,resolve,hfv,Deferred.ofValue,Sem.run_bind,Sem.run_pure,Result.andThen_ok,invoke,DM]
       unfold Oper.wp;rw[dj,Oper.upon_enter];have fC:Du L s.H.length s.T w (first++args.toList.map (bV s.e)++cF) (fa++args.map a.eval++ca).toList:=by
        simp only[Array.toList_append,Array.toList_map];refine(Du.append ⟨by simpa using h1,λj hj bU=>by simpa using y4 j hj (by simpa using bU)⟩ ⟨zS,λj hj bU=>?_⟩).append ⟨by simpa using h2,λj hj bU=>by simpa using o9 j hj (by simpa using bU)⟩;simp only[aip];exact hc.env.bV _
       refine(hq L w _ hc.nD (zU fC.1) (λj hj bU=>by
        have h3:=fC.2 j hj (by rw[Array.length_toList];exact bU)
        rwa [aiv] at h3)).mono ?_
       ·rintro e w' ⟨rr,H',T',L',cv,hQ,rfl,cY,dO,dI⟩;obtain⟨s',nV,e1,e2,jH⟩:=hc.put cY dO dI (hk _ _ _ hQ);exact ih s' nV L' w' _ L0 s0 w0 jH (ev.trans (by rw[e1,e2];exact dI.mono hc.nb hc.tb))
     ·cases jJ
    ·cases jJ
   ·split at hx
    ·rename_i n q uk;obtain⟨b,hb,dj⟩:=PC uk hc.env;obtain⟨s',nV,e1,e2,jH⟩:=hc.put (v:=.bool b) (cv:=.bool b) hc.nD (.bool b) (Ev.refl (ahv _) (ahv _)) (hx b hb);unfold Oper.wp;rw[dj];exact ih s' nV L w _ L0 s0 w0 jH (by rw[e1,e2];exact ev)
    split at hx
    ·rename_i m ys Bv;obtain⟨k,cv,w',L',dj,cY,dO,dI⟩:=PF Bv hc.nD hc.env;obtain⟨s',nV,e1,e2,jH⟩:=hc.put cY dO dI (hx k);unfold Oper.wp;rw[dj];exact ih s' nV L' w' _ L0 s0 w0 jH (ev.trans (by rw[e1,e2];exact dI.mono hc.nb hc.tb))
    split at hx
    ·rename_i m ys z Bv;obtain⟨nc,lY,cv,w',L',dj,cY,dO,dI⟩:=AF Bv hc.nD hc.env;obtain⟨s',nV,e1,e2,jH⟩:=hc.put cY dO dI (hx nc lY);unfold Oper.wp;rw[dj];exact ih s' nV L' w' _ L0 s0 w0 jH (ev.trans (by rw[e1,e2];exact dI.mono hc.nb hc.tb))
    split at hx
    ·rename_i t t2 i n cap x J6;obtain⟨el,vs,xs,m,hu,hH,Nd,nI,rv,ux,uk,rq,Gx,eL⟩:=hx;unfold sV at J6
     split at J6
     ·rename_i args C1 mh
      split at J6
      ·rename_i t' t2' i' n' lQ x' C6 fi
       cases J6
       have r5:C1=#[t,t2]:=by rw[<-Array.toList_inj];exact C6
       subst r5;have jT:args.toList.length=2:=by have:=congrArg List.length fi;simpa using this
       match ur:args.toList,jT,fi with
       |[p,q],_,fi=>
        simp only[aih,aju,List.cons.injEq,ake] at fi;obtain⟨e1,e2⟩:=fi;have h0:=hc.env.bV p;have h1:=hc.env.bV q;rw[e1] at h0;rw[e2] at h1;have oO:args=#[p,q]:=by rw[<-Array.toList_inj];exact ur
        subst oO;have hex:∀cv w',(Builtin.append_ #[t,t2] o.type #[a.eval p,a.eval q]).run C.P w=.ok cv w'->(execOp a.eval o).run C.P w=.ok (.value cv) w':=λcv w' hr=>by
         simp only[execOp,mh,resolve,Sem.run_bind,Sem.run_pure,Result.andThen_ok,invoke,builtin,map_toArray,aih,aju,hr]
        rcases Ej (ty:=o.type) hc.nD h0 h1 hu hH Nd nI rv ux uk rq with⟨hle,cv,w',L',dj,cY,dO,dI⟩|⟨bp,nc,lY,cv,w',L',dj,cY,dO,dI⟩
        ·obtain⟨s',nV,e1,e2,jH⟩:=hc.put cY dO dI (Gx hle);unfold Oper.wp;rw[hex _ _ dj];exact ih s' nV L' w' _ L0 s0 w0 jH (ev.trans (by rw[e1,e2];exact dI.mono hc.nb hc.tb))
        ·obtain⟨s',nV,e1,e2,jH⟩:=hc.put cY dO dI (eL nc bp lY);unfold Oper.wp;rw[hex _ _ dj];exact ih s' nV L' w' _ L0 s0 w0 jH (ev.trans (by rw[e1,e2];exact dI.mono hc.nb hc.tb))
      ·cases J6
     ·cases J6
    split at hx
    ·rename_i i m n seen es kX;obtain⟨rfl,Gx,eL⟩:=hx;unfold xF at kX
     split at kX
     ·rename_i x mh
      split at kX
      ·rename_i i' hxx
       split at kX
       ·rename_i m' n' agK hi
        split at kX
        ·rename_i es' hm
         cases kX
         have hp:=hc.env.bV x;rw[hxx] at hp;obtain⟨e2,bp⟩:=hp.oS;have hex:∀cv w',(Instr.next (.pointer (some ⟨L.bW i,0,none⟩)) false o.type).run C.P w=.ok cv w'->(execOp a.eval o).run C.P w=.ok (.value cv) w':=λcv w' hr=>by
          simp only[execOp,mh,Sem.run_bind,e2,hr,Result.andThen_ok];rfl
         rcases Lv hc.nD o.type hi hm with⟨fC,dj⟩|⟨j,hj,cv,w',XG,dj,cY,dO,dI⟩
         ·obtain⟨s',nV,e1,e2,jH⟩:=hc.put (v:=.dn [.bool false]) (cv:=.tuple #[.bool false]) hc.nD (.dn _ _ rfl (λj hj bU=>by match j,hj with|0,_=>exact .bool _)) (Ev.refl (ahv _) (ahv _)) (Gx fC);unfold Oper.wp;rw[hex _ _ dj];exact ih s' nV L w _ L0 s0 w0 jH (by rw[e1,e2];exact ev)
         ·obtain⟨s',nV,e1,e2,jH⟩:=hc.put cY dO dI (eL j _ _ (ahu hj) XG);unfold Oper.wp;rw[hex _ _ dj];exact ih s' nV L w' _ L0 s0 w0 jH (ev.trans (by rw[e1,e2];exact dI.mono hc.nb hc.tb))
        ·cases kX
       ·cases kX
      ·cases kX
     ·cases kX
    split at hx
    ·rename_i v H' T' mh;unfold N7 at mh
     by_cases hz:(match o.dst with|some d=>C.bx.contains (d+100000)&&nw C.P o s.e s.H|none=>false)=true
     ·rw[ahF hz] at mh
      injection mh with h1
      injection h1 with h1 h2
      injection h2 with h2 h3
      subst h1;subst h2;subst h3;have hz:nw C.P o s.e s.H=true:=by
       split at hz
       ·exact(ahG _ _▸hz).2
       ·cases hz
      obtain⟨cv,dj,dO⟩:=AE hz hc.nD hc.env;obtain⟨s',nV,e1,e2,jH⟩:=hc.put hc.nD dO (Ev.refl (ahv _) (ahv _)) hx;unfold Oper.wp;rw[dj];exact ih s' nV L w _ L0 s0 w0 jH (by rw[e1,e2];exact ev)
     rw[ahC hz] at mh;obtain⟨n,cv,w',L',dj,hn,cY,dO,dI⟩:=Bg hc.nD hc.env mh;obtain⟨s',nV,e1,e2,jH⟩:=hc.put cY dO dI hx;unfold Oper.wp;rw[dj];have fin:=ih s' nV L' w' _ L0 s0 w0 jH (ev.trans (by rw[e1,e2];exact dI.mono hc.nb hc.tb));rcases hn with rfl|⟨rfl,rfl⟩
     ·exact fin
     ·exact fin
    ·exact hx.elim
  unfold wpList;unfold gP at h
  dsimp only at h
  split at h
  ·rename_i hg;rw[ahF (by simp[Region.wanted,hg])];exact .inl (UW h)
  ·rename_i j want hg
   split at h
   ·rename_i b hb;have hy:=tZ hc.env hb
    split at h
    ·rename_i C8;rw[ahF (by simp[Region.wanted,hg,hy,C8])];exact .inl (UW h)
    ·rename_i C8;rw[ahC (by simp[Region.wanted,hg,hy,C8])];obtain⟨s',nV,e1,e2,jH⟩:=hc.put (v:=.dn []) (cv:=undef) hc.nD (.dn [] #[] rfl (λj hj=>by simp at hj)) (Ev.refl (ahv _) (ahv _)) h;exact ih s' nV L w _ L0 s0 w0 jH (by rw[e1,e2];exact ev)
   ·exact h.elim
theorem vg {C:Cx}{id:Nat}{ops:List Oper}{K:St->Prop}{Q:Exit->St->Prop}{s:St}(h:gP C ops.toArray K ops ⟨prune C.nv s.e,s.H,s.T⟩):AW C (.region id ops.toArray false) (dK K Q) s:=by
 intro L w a hc;have jH:eQ C ⟨prune C.nv s.e,s.H,s.T⟩ L w a:=⟨hc.nb,hc.tb,hc.nD,hc.size,hc.defers,λt=>by
  rcases mT C.nv s.e t with e|e<;>rw[e]
  ·exact hc.env t
  ·exact .top _⟩
 refine wp_region_lit ?_;have:=yL ops _ h L w a L s w jH (Ev.refl hc.nb hc.tb);have key:∀(l:List Oper)(a:Act)(w':World),wpList C.P ops.toArray (cN C (dK K λ_ _=>False) L s w) l a w'->wpList C.P ops.toArray (cN C (dK K Q) L s w) l a w':=by
  intro l;have DJ:∀e a w',cN C (dK K λ_ _=>False) L s w e a w'->cN C (dK K Q) L s w e a w':=by
   rintro e a w' ⟨s',L',q,r⟩;refine⟨s',L',?_,r⟩
   cases e<;>first|exact q|exact q.elim
  induction l with
  |nil=>intro a w' h;exact DJ _ _ _ h
  |cons o r ih=>
   intro a w' h;unfold wpList at h ⊢
   split
   ·rename_i hw;rw[ahF hw] at h;rcases h with h|⟨h1,h2⟩
    ·refine .inl ?_;unfold Oper.wp at h ⊢;generalize (execOp a.eval o).run C.P w'=rr at h ⊢
     cases rr with
     |ok n w''=>
      cases n<;>simp only[Oper.upon] at h ⊢<;>first
       |exact ih _ _ h
       |exact h
       |(refine h.mono ?_
         intro e w3 he
         cases e with
         |returned v=>exact ih _ _ he
         |panicked ch=>exact DJ _ _ _ he
         |outgrown=>obtain⟨a0,w0,h0⟩:=he;exact⟨a0,w0,DJ _ _ _ h0⟩)
       |exact h.mono λv w3 he=>ih _ _ he
     |halt hh w''=>cases hh<;>simp only[Oper.upon] at h ⊢<;>first|exact DJ _ _ _ h|exact h
    ·obtain⟨a0,w0,h0⟩:=h2;exact .inr ⟨h1,a0,w0,DJ _ _ _ h0⟩
   ·rename_i hw;rw[ahC hw] at h;exact ih _ _ h
 exact key _ _ _ this
def Ug {C:Cx}{c:Operand}{x y:Code}{Q:Exit->St->Prop}{s:St}{t:Bool}(hc:bV s.e c=.bool t)(h:if t=true then AW C x Q s else AW C y Q s):AW C (.cond c x y) Q s:=by
 intro L w a hs;have hr:=hs.env.bV c;rw[hc] at hr;refine wp_cond hr.jS ?_
 cases t
 ·exact h L w a hs
 ·exact h L w a hs
def I0 (P:Program)(s:St):ResultVar->Option AV
 |.tmp t=>some (bO s.e t)
 |.cell t ty=>match N6 s.H (bO s.e t) with
  |some (vs,o)=>rO P ty vs o
  |none=>none
def Ai (P:Program)(s:St):List ResultVar->Option (List AV)
 |[]=>some []
 |x::r=>match I0 P s x,Ai P s r with
  |some v,some vs=>some (v::vs)
  |_,_=>none
def Sz (P:Program)(rs:List ResultVar)(s:St):Option AV:=
 match Ai P s rs with
 |some [v]=>some v
 |some vs=>some (.dn vs)
 |none=>none
def pR (P:Program)(rs:List ResultVar)(Q:AV->List aA->au->Prop):Exit->St->Prop
 |.ret,s|.normal,s=>match Sz P rs s with
  |some v=>Q v s.H s.T
  |none=>False
 |_,_=>False
def BL (tmps:Array Value):ResultVar->Sem Value
 |.tmp t=>pure (tmps.getD t undef)
 |.cell t ty=>do loadVar ty (<-asAddr (tmps.getD t undef))
def HS (fn:Func)(tmps:Array Value):results fn tmps=(do let vs<-fn.results.mapM (BL tmps);pure (if h:vs.size=1 then vs[0] else .tuple vs)):=rfl
theorem yJ {C:Cx}{s:St}{L:Lay}{w:World}{a:Act}{fn:Func}{v:AV}(hc:eQ C s L w a)(h:Sz C.P fn.results.toList s=some v):∃cv,(results fn a.tmps).run C.P w=.ok cv w/\bt L s.H.length s.T w v cv:=by
 have one:∀x v,I0 C.P s x=some v->∃cv,(BL a.tmps x).run C.P w=.ok cv w/\bt L s.H.length s.T w v cv:=by
  intro x v hx
  cases x with
  |tmp t=>cases hx;exact⟨_,rfl,hc.env t⟩
  |cell t ty=>
   simp only[I0] at hx
   split at hx
   ·rename_i vs o uv;obtain⟨b,base,cv,e2,hr,mB⟩:=yI hc.nD (hc.env t) uv;obtain⟨c,h1,h2⟩:=vJ (P:=C.P) hr mB hx;refine⟨c,?_,h2⟩;simp only[BL,e2,asAddr,Sem.run_bind,Sem.run_pure,Result.andThen_ok];exact h1
   ·cases hx
 have many:∀l vs,Ai C.P s l=some vs->∃cs:List Value,(l.mapM (BL a.tmps)).run C.P w=.ok cs w/\cs.length=vs.length/\∀(j:Nat)(h:j<vs.length)(h':j<cs.length),bt L s.H.length s.T w (vs[j]'h) (cs[j]'h'):=by
  intro l
  induction l with
  |nil=>intro vs hv;cases hv;exact⟨[],rfl,rfl,λj hj=>by simp at hj⟩
  |cons x r ih=>
   intro vs hv;simp only[Ai] at hv
   split at hv
   ·rename_i v' vs' e1 e2
    cases hv
    obtain⟨cv,h1,h2⟩:=one x v' e1;obtain⟨cs,h3,h4,h5⟩:=ih vs' e2;refine⟨cv::cs,?_,by simp[h4],λj hj bU=>?_⟩
    ·simp only[List.mapM_cons,Sem.run_bind,h1,Result.andThen_ok,h3,Sem.run_pure]
    ·cases j with
     |zero=>exact h2
     |succ j=>exact h5 j (zU hj) (by simpa using bU)
   ·cases hv
 unfold Sz at h
 cases hl:Ai C.P s fn.results.toList with
 |none=>rw[hl] at h;cases h
 |some vs=>
  rw[hl] at h;obtain⟨cs,h1,h2,h3⟩:=many _ _ hl;have dj:(results fn a.tmps).run C.P w=.ok (if h:cs.toArray.size=1 then cs.toArray[0] else .tuple cs.toArray) w:=by
   rw[HS,Array.mapM_eq_mapM_toList];simp only[Sem.run_bind,Sem.run_map,h1,Result.andThen_ok];rfl
  refine⟨_,dj,?_⟩
  match vs,cs,h2,h3,h with
  |[v'],[c],_,h3,h=>cases h;exact h3 0 zS zS
  |[],[],_,h3,h=>cases h;exact .dn _ _ rfl (λj hj=>by simp at hj)
  |v1::v2::vr,c1::c2::cr,h2,h3,h=>
   cases h
   rw[akg zS];exact .dn _ _ (zU h2) (λj hj bU=>by simpa using h3 j hj (by simpa using bU))
def xr:Nat->List AV->Env
 |_,[]=>[]
 |k,v::r=>(k,v)::xr (k+1) r
theorem Ig:∀(l:List AV)(k t:Nat),bO (xr k l) t=if h:k<=t/\t-k<l.length then l[t-k]'h.2 else .top:=by
 intro l
 induction l with
 |nil=>intro k t;simp[xr,bO]
 |cons v r ih=>
  intro k t;simp only[xr,bO]
  by_cases XL:k=t
  ·subst XL;simp
  ·rw[ahC XL,ih]
   by_cases h:k+1<=t/\t-(k+1)<r.length
   ·rw[akf h,akf (by simp;omega)];have:t-k=(t-(k+1))+1:=zO;simp[this]
   ·rw[akg h,akg (by simp;omega)]
def bM (H:List aA)(T:au):Prop:=∀(i:Nat)(b:aA),H[i]?=some b->∀v∈b.Bx,Below H.length T.length v
theorem bt.toBelow {L:Lay}{N:Nat}{T:au}{w:World}{v:AV}{c:Value}(h:bt L N T w v c):Below N T.length v:=by
 have mem:∀{P:AV->Prop} {cs:List AV},(∀(j:Nat)(h:j<cs.length),P (cs[j]'h))->∀c∈cs,P c:=by
  intro P cs hp c hc;obtain⟨j,hj,e⟩:=ahN.1 hc;rw[<-e];exact hp j hj
 have tag:∀{tg:Tag} {n u:Nat} {a:Option Addr} {cap:Nat},mv L T tg n u a cap->∀x,tg=.own x->x<T.length:=by
  intro tg n u a cap ht x e;subst e;obtain⟨u0,z,h0,_⟩:=ht;exact(aht.1 h0).1
 induction h with
 |top v=>exact .top
 |bool b=>exact .bool b
 |int k x=>exact .int k x
 |str s=>exact .str s
 |gq=>exact .gq
 |ptr i o h=>exact .ptr i o h
 |eB cs o b base f hm hc h1 hr ih=>exact .eB cs o (mem ih)
 |zF tg a cap ht=>exact .sl 0 [] tg (λ_ h=>by simp at h) (tag ht)
 |QY m cs tg b base cap f cK hm hc h1 hr ht ih=>exact .sl m cs tg (mem ih) (tag ht)
 |cV i o m cap h cK=>exact .cV i o m h
 |bQ i m cap h cK=>exact .bQ i m cap h
 |aP i h=>exact .aP i h
 |fn f first cF fv cv h1 h2 y4 o9 Vy Vx=>exact .fn f first cF (mem λj hj=>Vy j hj zO) (mem λj hj=>Vx j hj zO)
 |jD=>exact .jD
 |nG=>exact .nG
 |Bm t v=>exact .Bm
 |agg cs cv h1 h2 hr ih=>exact .agg cs (mem λj hj=>ih j hj zO)
 |dn cs cv h1 hr ih=>exact .dn cs (mem λj hj=>ih j hj zO)
theorem cz.je {L:Lay}{H:List aA}{T:au}{w:World}(h:cz L H T w):bM H T:=by
 intro i b hi v hv;have hb:=h.box i _ hi
 cases b with
 |cells vs=>
  obtain⟨c,t,fr,_,_,h3,_,h4,_⟩:=hb;obtain⟨j,hj,e⟩:=ahN.1 (show v∈vs from hv);rw[<-e];exact(h4 j hj zO).toBelow
 |iter s pos=>simp at hv
 |map es=>
  obtain⟨eg,_,h2,h3,_⟩:=hb;obtain⟨x,hx,e⟩:=ahz.1 hv;obtain⟨j,hj,e2⟩:=ahN.1 hx;rw[<-e,<-e2];exact(h3 j hj zO).2.2.toBelow
 |mX m n seen=>simp at hv
 |Kt g p=>simp at hv
def ah {P:Program}{f:FuncId}{fn:Func}{c:Code}{args:List AV}{H:List aA}{T:au}{Q:AV->List aA->au->Prop}(nv:Nat)(bx:List Nat){nt:Nat}(Uu:fn.ntmps=nt)(hf:P.funcs[f]?=some fn)(hb:fn.body=some c)
  (DM:∀as w,(callFunc f as).run P w=.ok (.enter f as) w) (hn:args.length<=nt) (h:bM H T->AW ⟨P,nt,nv,H.length,T.length,bx⟩ c (pR P fn.results.toList Q) ⟨xr 0 args,H,T⟩):aq P f args H T Q:=by
 subst Uu;refine⟨DM,λL w ca hc hl hr=>calls_of_wp hf hb ?_⟩;have fe:eQ ⟨P,fn.ntmps,nv,H.length,T.length,bx⟩ ⟨xr 0 args,H,T⟩ L w { tmps:=ca++Array.replicate (fn.ntmps-ca.size) undef,defers:=[] }:=by
  refine⟨ahv _,ahv _,hc,by simp;omega,rfl,λt=>?_⟩;rw[Ig]
  by_cases ht:0<=t/\t-0<args.length
  ·rw[akf ht];have h2:t<ca.size:=zO;have e:(ca++Array.replicate (fn.ntmps-ca.size) undef).getD t undef=ca[t]:=by
    rw[aj1,Array.getElem?_append_left h2,ajj h2];rfl
   rw[e];exact hr t zO h2
  ·rw[akg ht];exact .top _
 refine wp_mono (h hc.je L w _ fe) ?_;rintro e a' w' ⟨s',L',q,y7,dI⟩
 cases e<;>simp only[pR] at q
 case normal=>
  split at q
  ·rename_i v hv;obtain⟨cv,h1,h2⟩:=yJ (C:=⟨P,fn.ntmps,nv,H.length,T.length,bx⟩) y7 hv;exact⟨y7.defers,cv,h1,v,s'.H,s'.T,L',cv,q,rfl,y7.nD,h2,dI⟩
  ·exact q.elim
 case ret=>
  split at q
  ·rename_i v hv;obtain⟨cv,h1,h2⟩:=yJ (C:=⟨P,fn.ntmps,nv,H.length,T.length,bx⟩) y7 hv;exact⟨y7.defers,cv,h1,v,s'.H,s'.T,L',cv,q,rfl,y7.nD,h2,dI⟩
  ·exact q.elim
def aK {C:Cx}{id:Nat}{ops:List Oper}{y:Code}{Q:Exit->St->Prop}{s:St}
  (h:∀K:St->Prop,(∀s,AW C y Q s->K s)->gP C ops.toArray K ops ⟨prune C.nv s.e,s.H,s.T⟩):AW C (.seq (.region id ops.toArray false) y) Q s:=
 xE λK hK=>vg (h K hK)
def br {C:Cx}{id:Nat}{ops:List Oper}{Q:Exit->St->Prop}{s:St}
  (h:∀K:St->Prop,(∀s,Q .normal s->K s)->gP C ops.toArray K ops ⟨prune C.nv s.e,s.H,s.T⟩):AW C (.region id ops.toArray false) Q s:=
 (vg (Q:=Q) (h (λs=>Q .normal s) λ_ h=>h)).mono λe s q=>by cases e<;>exact q
def aV {C:Cx}{c:Operand}{x y:Code}{Q:Exit->St->Prop}{s:St}{t:Bool}(hc:bV s.e c=.bool t)(h1:t=true->AW C x Q s)(h2:t=false->AW C y Q s):AW C (.cond c x y) Q s:=
 Ug hc (by cases t<;>simp<;>first|exact h1 rfl|exact h2 rfl)
def aC {C:Cx}{c:Operand}{x y:Code}{Q:Exit->St->Prop}{s:St}(hc:bV s.e c=.bool true)(h:AW C x Q s):AW C (.cond c x y) Q s:=aV hc (λ_=>h) (λh=>absurd h zS)
def aB {C:Cx}{c:Operand}{x y:Code}{Q:Exit->St->Prop}{s:St}(hc:bV s.e c=.bool false)(h:AW C y Q s):AW C (.cond c x y) Q s:=aV hc (λh=>absurd h zS) (λ_=>h)
def ae {C:Cx}{x y:Code}{Q:Exit->St->Prop}{s:St}(h:∀K:St->Prop,(∀s,AW C y Q s->K s)->AW C x (dK K Q) s):AW C (.seq x y) Q s:=xE h
class Pk where
 C:Cx
 y:Code
 Q:Exit->St->Prop
def KK:[p:Pk]->St->Prop
 |⟨C,y,Q⟩,s=>AW C y Q s
section
variable {C : Cx} {id : Nat} {ops : List Oper} {x y : Code} {Q : Exit -> St -> Prop} {s s' : St}
theorem hY (h:AW C x (dK (@KK ⟨C,y,Q⟩) Q) s):AW C (.seq x y) Q s:=λL w a hc=>
 wp_seq (wp_mono (h L w a hc) λe a' w' ⟨s',L',q,c,ev⟩=>by
  cases e with
  |normal=>
   have q':AW C y Q s':=q;exact wp_mono (q' L' w' a' c) λ_ _ _ k=>cN.step ev k
  |_=>exact⟨s',L',q,c,ev⟩)
def ar (h:gP C ops.toArray (@KK ⟨C,y,Q⟩) ops ⟨prune C.nv s.e,s.H,s.T⟩):AW C (.seq (.region id ops.toArray false) y) Q s:=hY (vg h)
def af (k:AW C y Q s')(h:∀K:St->Prop,K s'->gP C ops.toArray K ops ⟨prune C.nv s.e,s.H,s.T⟩:=by intro K h;simp(disch:=omega);exact h):AW C (.seq (.region id ops.toArray false) y) Q s:=ar (h _ k)
def aJ (k:Q .normal s')(h:∀K:St->Prop,K s'->gP C ops.toArray K ops ⟨prune C.nv s.e,s.H,s.T⟩:=by intro K h;simp(disch:=omega);exact h):AW C (.region id ops.toArray false) Q s:=br λK hK=>h K (hK _ k)
end
def aI {C:Cx}{Q:Exit->St->Prop}{s:St}{P:Prop}(h:P)(f:P->Q .ret s:=by intro h;simp(disch:=omega);exact h):AW C .ret Q s:=bu (f h)
def vC {P P':Prop}(h:P')(f:P'->P:=by intro h;(first|refine af ?_|refine aJ ?_|apply hY|apply ag|apply aB rfl|apply aC rfl|apply aj|apply aD|apply bu);exact h):P:=f h
def ag5 {P P':Prop}(h:P')(f:P'->P:=by intro h;(iterate 2 refine vC ?_);exact h):P:=f h
def ag4 {P P':Prop}(h:P')(f:P'->P:=by intro h;(iterate 3 refine vC ?_);exact h):P:=f h
def ag3 {P P':Prop}(h:P')(f:P'->P:=by intro h;(iterate 4 refine vC ?_);exact h):P:=f h
def ag2 {P P':Prop}(h:P')(f:P'->P:=by intro h;(iterate 5 refine vC ?_);exact h):P:=f h
def ag1 {P P':Prop}(h:P')(f:P'->P:=by intro h;(iterate 6 refine vC ?_);exact h):P:=f h
def ag0 {P P':Prop}(h:P')(f:P'->P:=by intro h;(iterate 7 refine vC ?_);exact h):P:=f h
def agZ {P P':Prop}(h:P')(f:P'->P:=by intro h;(iterate 8 refine vC ?_);exact h):P:=f h
def agY {P P':Prop}(h:P')(f:P'->P:=by intro h;(iterate 9 refine vC ?_);exact h):P:=f h
def ai {C:Cx}{K:St->Prop}{dst:Option Tmp}{g:FuncId}{as:List AV}{s:St}{r:AV}{H':List aA}{T':au}(h:aq C.P g as s.H s.T (Is r H' T'))(k:nh C dst r s.e H' T' K):wV C K dst g as s:=
 ⟨_,h,λ_ _ _ ⟨e1,e2,e3⟩=>by subst e1;subst e2;subst e3;exact k⟩
@[simp] theorem wrap64 {x:Int} (h1:-9223372036854775808<=x) (h2:x<=9223372036854775807):IntKind.i64.wrap x=x:=by
 rw[IntKind.wrap_i64];omega
@[simp] theorem adC {x:Int} (h1:0<=x) (h2:x<=18446744073709551615):IntKind.u64.wrap x=x:=by
 show x % 18446744073709551616=x;exact Int.emod_eq_of_lt h1 zO
def ints (xs:List Int):List AV:=xs.map (.int .i64)
def strs (xs:List (List UInt8)):List AV:=xs.map .str
section
variable {n t : Nat}
@[simp] theorem Vr (xs:List Int):(ints xs).length=xs.length:=by simp[ints]
@[simp] theorem Vq (xs:List (List UInt8)):(strs xs).length=xs.length:=by simp[strs]
@[simp] theorem aa4:ints []=[]:=rfl
@[simp] theorem aaP:strs []=[]:=rfl
@[simp] theorem abb:sU []=[]:=rfl
def FW (a b:List Int):ints a++ints b=ints (a++b):=by simp[ints]
def vH (a b:List (List UInt8)):strs a++strs b=strs (a++b):=by simp[strs]
theorem cJ (a:List Int)(x:Int):ints a++[.int .i64 x]=ints (a++[x]):=by simp[ints]
def Aw (a:List (List UInt8))(x:List UInt8):strs a++[.str x]=strs (a++[x]):=by simp[strs]
def aS {xs:List Int}{k:Nat}(h:k<xs.length):(ints xs).getD k .top=.int .i64 (xs.getD k 0):=by
 simp[ints,h]
def A3 {xs:List (List UInt8)}{k:Nat}(h:k<xs.length):(strs xs).getD k .top=.str (xs.getD k []):=by
 simp[strs,h]
def aL (n t:Nat)(cs:List AV):Prop:=∀c∈cs,Below n t c
@[simp] theorem X3:Below n t .top:=.top
@[simp] theorem Xx (b:Bool):Below n t (.bool b):=.bool b
@[simp] theorem X9 (k:IntKind) (x:Int):Below n t (.int k x):=.int k x
@[simp] theorem X4 (s:List UInt8):Below n t (.str s):=.str s
@[simp] theorem X5 {i o:Nat}:Below n t (.ptr i o)↔i<n:=⟨λh=>by cases h;assumption,λh=>.ptr i o h⟩
@[simp] theorem X8 {i o m:Nat}:Below n t (.cV i o m)↔i<n:=⟨λh=>by cases h;assumption,λh=>.cV i o m h⟩
@[simp] theorem Xv {i:Nat}:Below n t (.aP i)↔i<n:=⟨λh=>by cases h;assumption,λh=>.aP i h⟩
@[simp] theorem Bf {i m cap:Nat}:Below n t (.bQ i m cap)↔i<n:=⟨λh=>by cases h;assumption,λh=>.bQ i m cap h⟩
@[simp] theorem Ya {cs:List AV}:Below n t (.agg cs)↔aL n t cs:=⟨λh=>by cases h;assumption,λh=>.agg cs h⟩
@[simp] theorem X2 {cs:List AV}:Below n t (.dn cs)↔aL n t cs:=⟨λh=>by cases h;assumption,λh=>.dn cs h⟩
@[simp] theorem Rt {m:Nat} {cs:List AV}:Below n t (.sl m cs .none)↔aL n t cs:=⟨λh=>by cases h;assumption,λh=>.sl m cs .none h (λx e=>by cases e)⟩
@[simp] theorem Ru {m:Nat} {cs:List AV}:Below n t (.sl m cs .full)↔aL n t cs:=⟨λh=>by cases h;assumption,λh=>.sl m cs .full h (λx e=>by cases e)⟩
@[simp] theorem Ul {m k:Nat} {cs:List AV}:Below n t (.sl m cs (.own k))↔aL n t cs/\k<t:=
 ⟨λh=>by cases h with|sl _ _ _ h1 h2=>exact⟨h1,h2 k rfl⟩,λh=>.sl m cs (.own k) h.1 (λx e=>by cases e;exact h.2)⟩
@[simp] theorem acP {f:FuncId} {a b:List AV}:Below n t (.fn f a b)↔aL n t a/\aL n t b:=⟨λh=>by cases h;exact⟨‹_›,‹_›⟩,λh=>.fn f a b h.1 h.2⟩
@[simp] theorem Xw {xs:List Int}:aL n t (ints xs):=by
 intro c hc;simp only[ints,ahz] at hc;obtain⟨x,_,rfl⟩:=hc;exact .int _ _
@[simp] theorem Iz {xs:List (List UInt8)}:aL n t (strs xs):=by
 intro c hc;simp only[strs,ahz] at hc;obtain⟨x,_,rfl⟩:=hc;exact .str _
end
@[simp] theorem Un {n t:Nat}:aL n t []:=λ_ h=>by simp at h
@[simp] theorem Rv {n t:Nat} {c:AV} {cs:List AV}:aL n t (c::cs)↔Below n t c/\aL n t cs:=by simp[aL]
@[simp] theorem Np {n t:Nat} {a b:List AV}:aL n t (a++b)↔aL n t a/\aL n t b:=by
 simp only[aL,ahI];exact⟨λh=>⟨λc hc=>h c (.inl hc),λc hc=>h c (.inr hc)⟩,λh c hc=>hc.elim (h.1 c) (h.2 c)⟩
@[simp] theorem Um {n t k:Nat} {c:AV} (h:Below n t c):aL n t (List.replicate k c):=λx hx=>by rw[List.eq_of_mem_replicate hx];exact h
theorem aL.set {n t k:Nat}{c:AV}{cs:List AV}(h:aL n t cs)(hc:Below n t c):aL n t (cs.set k c):=λx hx=>by
 rcases List.mem_or_eq_of_mem_set hx with h1|h1
 ·exact h x h1
 ·rw[h1];exact hc
def bA (n t:Nat)(e:Env):Env->Prop
 |[]=>True
 |(s,v)::r=>(v=bO e s\/v=cL (bO e s))/\Below n t v/\bA n t e r
theorem My {n t:Nat}{e:Env}:∀{e':Env},bA n t e e'->∀s,bO e' s=.top\/((bO e' s=bO e s\/bO e' s=cL (bO e s))/\Below n t (bO e' s)):=by
 intro e'
 induction e' with
 |nil=>intro _ s;exact .inl rfl
 |cons x r ih=>
  obtain⟨s0,v⟩:=x;intro h s
  by_cases hs:s0=s
  ·subst hs;simp only[bO,ajc];exact .inr ⟨h.1,h.2.1⟩
  ·simp only[bO,ahC hs];exact ih h.2.2 s
@[simp] theorem aeJ {e:Env} {t:Tmp}:bV e (.tmp t)=bO e t:=rfl
@[simp] theorem Yc {e:Env} {v:Value}:bV e (.const v)=RA v:=rfl
@[simp] theorem acT {e:Env} {f:FuncId}:bV e (.func f)=.fn f [] []:=rfl
def gvB:AV->Option (Option Bool)
 |.bool b=>some (some b)
 |.dn []=>some none
 |_=>none
def gvO (e:Env):Option Tmp->Option (Option Bool)
 |some d=>gvB (bO e d)
 |none=>none
@[simp] theorem adK {all:Array Oper} {j:Nat} {e:Env}:pA all j e=gvO e ((all[j]?).bind (·.dst)):=by
 unfold pA gvO
 cases (all[j]?).bind (·.dst) with
 |none=>rfl
 |some d=>
  simp only;generalize bO e d=x
  cases x<;>first|rfl|(rename_i cs;cases cs<;>rfl)
@[simp] theorem aa5 {e:Env} {d:Tmp}:gvO e (some d)=gvB (bO e d):=rfl
@[simp] theorem aa6 {e:Env}:gvO e none=none:=rfl
@[simp] theorem aa8 {b:Bool}:gvB (.bool b)=some (some b):=rfl
@[simp] theorem aa7:gvB (.dn [])=some none:=rfl
section
variable {C : Cx} {all : Array Oper} {K : St -> Prop} {o : Oper} {r : List Oper} {e : Env} {H : List aA} {T : au}
@[simp] theorem acS:gP C all K [] ⟨e,H,T⟩=K ⟨e,H,T⟩:=rfl
@[simp] theorem Yb:gP C all K (o::r) ⟨e,H,T⟩=(
  let exec:Prop:=match hZ o e with
   |some (g,as)=>wV C (gP C all K r) o.dst g as ⟨e,H,T⟩
   |none=>match Kx C.P o e with
    |some (n,q)=>∀b:Bool,(0<n->b=!q)->nh C o.dst (.bool b) e H T (gP C all K r)
    |none=>match KA C.P C.bx o e H with
     |some (m,ys)=>∀k:Nat,nh C o.dst (.cV H.length 0 m) e (H++[.cells (ys++List.replicate k .top)]) T (gP C all K r)
     |none=>match lE C.P C.bx o e H with
      |some (m,ys,z)=>∀nc:Nat,m<=nc->nh C o.dst (.bQ H.length m nc) e (H++[.cells (ys++List.replicate ((nc-m)*z) .top)]) T (gP C all K r)
      |none=>match sV o e with
       |some (t,t2,i,n,cap,x)=>WG C (gP C all K r) o.dst t t2 i n cap x e H T
       |none=>match xF o e H with
        |some (i,m,n,seen,es)=>I5 C (gP C all K r) o.dst i m n seen es e H T
        |none=>match N7 C.P C.bx o e H T with
         |some (v,H',T')=>nh C o.dst v e H' T' (gP C all K r)
         |none=>False
  match o.guard with
  |none=>exec
  |some (j,want)=>match pA all j e with
   |some b=>if b=some want then exec else nh C o.dst (.dn []) e H T (gP C all K r)
   |none=>False):=rfl
end
attribute [simp] I1 xI Kx hZ xF Nn prune xr nh RA y9 mr bO I2 SC SB Sy aun uF rO kh N6 VX BP cL o6 vD o5 BS BT fV BR ic V9
 N7 BU pX se Vh setMany nB oF tB ke B3 SA Y6 Kz tY KA sV lE oW I4 I3 qk p9 Sz Ai I0 pR dK Hj CL M3 bA
section
variable {P : Program}
def rU {o:Oper}{e e':Env}(h:∀x∈o.op.operands,bV e x=bV e' x):hZ o e=hZ o e':=by
 unfold hZ
 cases ho:o.op<;>try rfl
 rename_i c;rw[ho] at h;obtain⟨callee,args,C1⟩:=c
 cases callee<;>try rfl
 rename_i f;have h1:=h f (by simp[Op.operands,Call.operands]);have h2:args.toList.map (bV e)=args.toList.map (bV e'):=aib λx hx=>h x (by simp only[Op.operands,Call.operands];exact ajr.2 (.inr (aiZ.1 hx)));simp only[h1,h2]
theorem Bh {o:Oper}{e e':Env}(H:List aA)(T:au)(h:∀x∈o.op.operands,bV e x=bV e' x):Nn P o e H T=Nn P o e' H T:=by
 have ue:∀(ps:Array (Nat×Operand)),(∀x∈(ps.toList.map (·.2)).toArray,bV e x=bV e' x)->ps.toList.map (fun(x:Nat×Operand)=>(x.1,bV e x.2))=ps.toList.map (fun(x:Nat×Operand)=>(x.1,bV e' x.2)):=by
  intro ps hp;refine aib λx hx=>?_;rw[hp x.2 (by simp;exact⟨x.1,aiZ.1 hx⟩)]
 have GO:∀(q:Option Operand),(∀x∈q.toArray,bV e x=bV e' x)->q.map (bV e)=q.map (bV e'):=by
  intro q hq
  cases q with
  |none=>rfl
  |some x=>simp only[ajf];rw[hq x zS]
 unfold Nn
 cases ho:o.op<;>rw[ho] at h<;>(try simp only[Op.operands] at h)<;>try rfl
 case next x s=>
  have h0:=h x zS
  cases s
  ·rfl
  ·simp only[h0]
 case makeMap t r=>cases r<;>rfl
 case build t ps=>simp only[ue ps h]
 case buildSlice t n ps=>simp only[ue ps h]
 case makeFunc fn first cF=>
  cases fn<;>try rfl
  have h1:first.toList.map (bV e)=first.toList.map (bV e'):=aib λx hx=>h x (ajr.2 (.inl (aiZ.1 hx)));have h2:cF.toList.map (bV e)=cF.toList.map (bV e'):=aib λx hx=>h x (ajr.2 (.inr (aiZ.1 hx)));simp only[h1,h2]
 case slice t x lo hi mx=>
  have h1:=GO lo (λy hy=>h y (by simp only[ajr];exact .inl (.inl (.inr hy))));have h2:=GO hi (λy hy=>h y (by simp only[ajr];exact .inl (.inr hy)));have h3:=GO mx (λy hy=>h y (by simp only[ajr];exact .inr hy));have h0:=h x zS;simp only[h0,h1,h2,h3]
 case call c=>
  obtain⟨callee,args,C1⟩:=c
  cases callee<;>try rfl
  have h2:args.toList.map (bV e)=args.toList.map (bV e'):=aib λx hx=>h x (by simp only[Call.operands];exact ajr.2 (.inr (aiZ.1 hx)));simp only[h2]
 all_goals (simp only[List.mem_toArray,ah4,List.not_mem_nil,or_false,forall_eq_or_imp,forall_eq] at h)
 all_goals first
  |simp only[h]
  |(obtain⟨h1,h2⟩:=h;simp only[h1,h2])
  |(obtain⟨h1,h2,h3⟩:=h;simp only[h1,h2,h3])
def dT (P:Program)(o:Oper)(e:Env)(H:List aA)(T:au)(v:AV)(H':List aA)(T':au):Prop:=
 match hZ o e with
 |some (g,as)=>aq P g as H T (Is v H' T')
 |none=>Nn P o e H T=some (v,H',T')
def vS {o:Oper}{e e':Env}{H H':List aA}{T T':au}{v:AV}(h:∀x∈o.op.operands,bV e x=bV e' x)(k:dT P o e H T v H' T'):dT P o e' H T v H' T':=by
 unfold dT at k ⊢;rw[<-rU h,<-Bh H T h];exact k
theorem tX {o:Oper}{e:Env}{H H':List aA}{T T':au}{v:AV}(k:dT P o e H T v H' T'){L:Lay}{w:World}{a:Act}(hc:cz L H T w)(he:fu L H.length T w e a){K:Act->World->Prop}{Q:Exit->Act->World->Prop}
  (hk:∀cv w' L',cz L' H' T' w'->bt L' H'.length T' w' v cv->Ev H.length T.length L H.length T w L' H'.length T' w'->K (a.put o.dst cv) w'):o.wp P a w K Q:=by
 unfold dT at k
 split at k
 ·rename_i g as jJ;obtain⟨DM,hq⟩:=k;unfold hZ at jJ
  split at jJ
  ·rename_i f args C1 mh
   split at jJ
   ·rename_i g' first cF hf
    cases jJ
    have Rj:=he.bV f;rw[hf] at Rj;generalize hfv:a.eval f=fv at Rj
    cases Rj with
    |fn _ _ _ fa ca h1 h2 y4 o9=>
     have dj:(execOp a.eval o).run P w=.ok (.enter g (fa++args.map a.eval++ca)) w:=by
      simp only[execOp,mh,resolve,hfv,Deferred.ofValue,Sem.run_bind,Sem.run_pure,Result.andThen_ok,invoke,DM]
     unfold Oper.wp;rw[dj,Oper.upon_enter];have fC:Du L H.length T w (first++args.toList.map (bV e)++cF) (fa++args.map a.eval++ca).toList:=by
      simp only[Array.toList_append,Array.toList_map];refine(Du.append ⟨by simpa using h1,λj hj bU=>by simpa using y4 j hj (by simpa using bU)⟩ ⟨zS,λj hj bU=>?_⟩).append ⟨by simpa using h2,λj hj bU=>by simpa using o9 j hj (by simpa using bU)⟩;simp only[aip];exact he.bV _
     refine(hq L w _ hc (zU fC.1) (λj hj bU=>by
      have h3:=fC.2 j hj (by rw[Array.length_toList];exact bU)
      rwa [aiv] at h3)).mono ?_
     rintro en w' ⟨rr,H2,T2,L',cv,⟨e1,e2,e3⟩,rfl,cY,dO,dI⟩;subst e1;subst e2;subst e3;exact hk cv w' L' cY dO dI
   ·cases jJ
  ·cases jJ
 ·obtain⟨n,cv,w',L',dj,hn,cY,dO,dI⟩:=Bg hc he k;unfold Oper.wp;rw[dj];have fin:=hk cv w' L' cY dO dI;rcases hn with rfl|⟨rfl,rfl⟩
  ·exact fin
  ·exact fin
end
structure cg where
 o:Oper
 e:Env
 run:Bool
 v:AV
 k:Nat
 bL:Bool
abbrev nE:=List aA×au×Nat
def fD:List Oper->List Nat->List Nat
 |[],acc=>acc
 |o::r,acc=>fD r (acc++[o.after.foldl (λs e=>if Region.binds .any e then s ||| 2 ^ e.on ||| acc.getD e.on 0 else s) 0])
def nR (A:List Nat)(j i:Nat):Bool:=(A.getD i 0).testBit j
def Ou (A:List Nat)(bL:List Nat)(i:Nat):Nat:=(bL.filter λe=>nR A e i).length
def iv (ops : List Oper) (bL : List Nat) (lo : List Nat) (na : List (List Nat)) : Bool :=
  let A := fD ops []
  let n := ops.length
  ((List.range n).all λi => (List.range n).all λj => i == j || (match (ops.getD i default).dst, (ops.getD j default).dst with | some d, some d' => d != d' | _, _ => true)) &&
  ((List.range n).all λi => ((ops.getD i default).looksAt ops.toArray).all λt => (List.range n).all λj => i == j || (ops.getD j default).dst != some t || (j < i && nR A j i) || (i < j && nR A i j)) &&
  ((List.range n).all λi => ((ops.getD i default).looksAt ops.toArray).all λt => (ops.getD i default).dst != some t) &&
  ((List.range bL.length).all λk => k == 0 || nR A (bL.getD (k - 1) 0) (bL.getD k 0)) && (bL.all λe => e < n) && (List.range bL.length).all (λk => k == 0 || bL.getD (k - 1) 0 < bL.getD k 0) &&
  ((List.range n).all λi => lo.getD i 0 <= Ou A bL i) &&
  ((List.range bL.length).all λk => (List.range (bL.getD k 0)).all λj => bL.contains j || (na.getD k []).contains j || nR A j (bL.getD k 0)) &&
  ((List.range n).all λi => (ops.getD i default).after.all λe => !Region.binds .any e || e.on < i) && Region.noSelect ops.toArray
def Sp (P:Program)(o:Oper)(e:Env)(v:AV):List nE->Prop
 |[]=>True
 |(H,T,_)::r=>dT P o e H T v H T/\Sp P o e v r
def Se (P:Program)(aR:List cg)(H:List aA)(T:au):List Nat->Prop
 |[]=>True
 |j::r=>(match aR[j]? with
  |some x=>x.run=true->x.bL=false->dT P x.o x.e H T x.v H T
  |none=>True)/\Se P aR H T r
def xa (nt:Nat)(dst:Option Tmp)(v:AV)(e:Env)(k:Env->Prop):Prop:=
 match dst with
 |some d=>d<nt/\k (mr e d v)
 |none=>k e
structure wD where
 C:Cx
 all:Array Oper
 bL:List Nat
 lo:List Nat
 na:List (List Nat)
 K:St->Prop
def Bw (D:wD)(next:List cg->List nE->Env->Prop)(o:Oper)(aR:List cg)(sts:List nE)(e:Env)(run:Bool)(v:AV)(H':List aA)(T':au):Prop:=
 if D.bL.contains aR.length then
  Se D.C.P aR H' T' (D.na.getD (sts.length-1) [])/\xa D.C.nt o.dst v e (next (aR++[⟨o,e,run,v,sts.length-1,true⟩]) (sts++[(H',T',aR.length)]))
 else
  (run=true->Sp D.C.P o e v ((sts.drop (D.lo.getD aR.length 0)).dropLast))/\xa D.C.nt o.dst v e (next (aR++[⟨o,e,run,v,sts.length-1,false⟩]) sts)
def Ov (D:wD)(next:List cg->List nE->Env->Prop)(o:Oper)(aR:List cg)(sts:List nE)(e:Env)(g:FuncId)(as:List AV)(H:List aA)(T:au):Prop:=
 ∃v H' T',aq D.C.P g as H T (Is v H' T')/\(D.bL.contains aR.length=false->H'=H/\T'=T)/\Bw D next o aR sts e true v H' T'
def lD (D:wD)(next:List cg->List nE->Env->Prop)(o:Oper)(aR:List cg)(sts:List nE)(e:Env)(H:List aA)(T:au):Prop:=
 match hZ o e with
 |some (g,as)=>Ov D next o aR sts e g as H T
 |none=>match Nn D.C.P o e H T with
  |some (v,H',T')=>(D.bL.contains aR.length=false->H'=H/\T'=T)/\Bw D next o aR sts e true v H' T'
  |none=>False
def gn (D:wD):List Oper->List cg->List nE->Env->Prop
 |[],_,sts,e=>match sts.getLast? with
  |some (H,T,_)=>D.K ⟨e,H,T⟩
  |none=>False
 |o::r,aR,sts,e=>match sts.getLast? with
  |some (H,T,_)=>match o.guard with
   |none=>lD D (gn D r) o aR sts e H T
   |some (j,want)=>match pA D.all j e with
    |some b=>if b=some want then lD D (gn D r) o aR sts e H T else Bw D (gn D r) o aR sts e false (.dn []) H T
    |none=>False
  |none=>False
structure BV (nx:Nat)(D:wD)(ops:List Oper)(sts:List nE)(aR:List cg)(i:Nat)(x:cg):Prop where
 o:ops[i]?=some x.o
 k:x.k<sts.length
 bL:x.bL=D.bL.contains i
 gate:match x.o.guard with
  |none=>x.run=true
  |some (j,want)=>∃b,pA D.all j x.e=some b/\x.run=(b==some want)
 dst:∀d,x.o.dst=some d->d<D.C.nt
 skip:x.run=false->x.v=.dn []
 still:x.run=true->x.bL=false->∀k H T e,sts[k]?=some (H,T,e)->D.lo.getD i 0<=k->(k<=x.k\/(D.na.getD (k-1) []).contains i=true)->dT D.C.P x.o x.e H T x.v H T
 effect:x.bL=true->∃H T e H' T',sts[x.k]?=some (H,T,e)/\sts[x.k+1]?=some (H',T',i)/\(x.run=true->i≠nx->dT D.C.P x.o x.e H T x.v H' T')/\(x.run=false->H'=H/\T'=T)
def IU (dst:Option Tmp)(e:Env)(v:AV):Env:=
 match dst with
 |some d=>mr e d v
 |none=>e
def xH (e:Env)(x:cg):Env:=IU x.o.dst e x.v
def aY:Env->List cg->Env
 |e,[]=>e
 |e,x::r=>aY (xH e x) r
theorem ja (l:List cg):∀(e:Env)(x:cg),aY e (l++[x])=xH (aY e l) x:=by
 induction l with
 |nil=>intro e x;rfl
 |cons y r ih=>intro e x;exact ih _ x
def vP (e:Env)(x:cg)(t:Nat):bO (xH e x) t=if x.o.dst=some t then x.v else bO e t:=by
 unfold xH IU
 split
 ·rename_i d hd
  by_cases h:d=t
  ·subst h;simp[hd,cU]
  ·rw[bJ _ _ _ _ h,ahC (by rw[hd];intro e;exact h (by injection e))]
 ·rename_i hd;simp[hd]
theorem cR:∀(l:List cg)(e:Env)(t:Nat),(∀x∈l,x.o.dst≠some t)->bO (aY e l) t=bO e t:=by
 intro l
 induction l with
 |nil=>intro e t _;rfl
 |cons x r ih=>
  intro e t h;rw[aY,ih _ _ (λy hy=>h y (by simp[hy])),vP,ahC (h x zS)]
theorem fc:∀(l:List cg)(e:Env)(t j:Nat)(x:cg),l[j]?=some x->x.o.dst=some t->(∀i y,l[i]?=some y->y.o.dst=some t->i=j)->bO (aY e l) t=x.v:=by
 intro l
 induction l with
 |nil=>intro e t j x h;simp at h
 |cons y r ih=>
  intro e t j x h hd hu;rw[aY]
  cases j with
  |zero=>
   simp at h;subst h;rw[cR r _ t (λz hz Gh=>by
    obtain⟨i,hi,e1⟩:=ahN.1 hz;have:=hu (i+1) z (by simp[<-e1,hi]) Gh;omega),vP,ahF hd]
  |succ j=>
   exact ih _ t j x (zU h) hd (λi z hi hz=>by have:=hu (i+1) z (zU hi) hz;omega)
structure afJ (D:wD)(aR:List cg)(sts:List nE):Prop where
 len:sts.length=1+(D.bL.filter (·<aR.length)).length
 k:∀(i:Nat)(x:cg),aR[i]?=some x->x.k=(D.bL.filter (·<i)).length
def wx {bL:List Nat}{i:Nat}(h:bL.contains i=false):(bL.filter (·<i+1)).length=(bL.filter (·<i)).length:=by
 congr 1
 apply aj7;intro x hx;have:x≠i:=by rintro rfl;simp at h;exact h hx
 simp;omega
def jv (bL:List Nat):Bool:=(List.range bL.length).all λk=>(bL.filter (·<bL.getD k 0)).length==k&&(bL.filter (·<bL.getD k 0+1)).length==k+1
def o3 {bL:List Nat}(h:jv bL=true){i:Nat}(hi:bL.contains i=true):bL[(bL.filter (·<i)).length]?=some i/\(bL.filter (·<i+1)).length=(bL.filter (·<i)).length+1:=by
 simp only[ajd] at hi;obtain⟨k,hk,e⟩:=ahN.1 hi;have:=ah3.1 h k (ahV.2 hk);simp only[ahG,ajl,ahs,ahu hk,ai5,e] at this;rw[this.1];exact⟨by rw[ahu hk,e],this.2⟩
theorem LX {P:Program}{aR:List cg}{H:List aA}{T:au}:∀{l:List Nat},Se P aR H T l->∀j,l.contains j=true->∀x,aR[j]?=some x->x.run=true->x.bL=false->dT P x.o x.e H T x.v H T:=by
 intro l
 induction l with
 |nil=>intro _ j hj;simp at hj
 |cons y r ih=>
  intro h j hj x hx h1 h2;obtain⟨g1,g2⟩:=h
  by_cases hy:j=y
  ·subst hy;rw[hx] at g1;exact g1 h1 h2
  ·exact ih g2 j (by simp only[List.contains_cons] at hj;simpa[hy] using hj) x hx h1 h2
theorem Mw {P:Program}{o:Oper}{e:Env}{v:AV}:∀{l:List nE},Sp P o e v l->∀(j:Nat)(st:nE),l[j]?=some st->dT P o e st.1 st.2.1 v st.1 st.2.1:=by
 intro l
 induction l with
 |nil=>intro _ j st h;simp at h
 |cons y r ih=>
  obtain⟨H,T,i⟩:=y;intro h j st hj
  cases j with
  |zero=>simp at hj;subst hj;exact h.1
  |succ j=>exact ih h.2 j st (zU hj)
structure iJ (nx:Nat)(D:wD)(ops:List Oper)(e0:Env)(aR:List cg)(sts:List nE)(e:Env):Prop where
 st:afJ D aR sts
 JP:∀(i:Nat)(x:cg),aR[i]?=some x->BV nx D ops sts aR i x
 Kv:∀(i:Nat)(x:cg),aR[i]?=some x->x.e=aY e0 (aR.take i)
 cur:e=aY e0 aR
theorem qQ {nt:Nat}{dst:Option Tmp}{v:AV}{e:Env}{k:Env->Prop}(h:xa nt dst v e k):(∀d,dst=some d->d<nt)/\k (IU dst e v):=by
 cases dst with
 |none=>exact⟨λd e=>(by cases e),h⟩
 |some d=>exact⟨λd' e=>(by cases e;exact h.1),h.2⟩
def qZ {nx:Nat}{D:wD}{ops:List Oper}{e0:Env}{aR:List cg}{sts:List nE}{e:Env}{next:List cg->List nE->Env->Prop}{o:Oper}{run:Bool}{v:AV}{H H':List aA}{T T':au}{i0:Nat}(kz:jv D.bL=true)(kX:D.bL.contains nx=true\/ops.length<=nx)
  (hw:iJ nx D ops e0 aR sts e) (nX:ops[aR.length]?=some o) (dC:sts.getLast?=some (H,T,i0))
  (hgate:match o.guard with|none=>run=true|some (j,want)=>∃b,pA D.all j e=some b/\run=(b==some want)) (Oe:run=false->v=.dn []/\H'=H/\T'=T) (dj:run=true->aR.length≠nx->dT D.C.P o e H T v H' T')
  (W5:D.bL.contains aR.length=false->H'=H/\T'=T) (h:Bw D next o aR sts e run v H' T') :
  ∃bX eH e',iJ nx D ops e0 bX eH e'/\bX.length=aR.length+1/\next bX eH e'/\eH[0]?=sts[0]?/\eH≠[]/\(∃x,bX=aR++[x]/\(D.bL.contains aR.length=true->x=⟨o,e,run,v,sts.length-1,true⟩))/\(∃q,eH=sts++q)/\(D.bL.contains aR.length=true->eH=sts++[(H',T',aR.length)]):=by
 have dM:sts≠[]:=by intro e;rw[e] at dC;cases dC
 have gu:0<sts.length:=aiV.2 dM;have gA:sts[sts.length-1]?=some (H,T,i0):=by rw[<-dC,aka]
 have hlen:=hw.st.len;unfold Bw at h
 split at h
 ·rename_i xd;obtain⟨hna,jk⟩:=h;obtain⟨mo,xo⟩:=qQ jk;obtain⟨ek,es⟩:=o3 kz xd;refine⟨_,_,_,⟨⟨?_,λi x hx=>?_⟩,λi x hx=>?_,λi x hx=>?_,?_⟩,zS,xo,by rw[ahB gu],zS,⟨_,rfl,λ_=>rfl⟩,⟨_,rfl⟩,λ_=>rfl⟩
  ·simp only[ahw,ain,hlen];rw[es];omega
  ·rcases ahD i aR.length with hi|hi
   ·rw[ahB hi] at hx;exact hw.st.k i x hx
   ·have jf:i=aR.length:=by have:=(aht.1 hx).1;simp at this;omega
    subst jf;simp at hx;subst hx;simp;omega
  ·rcases ahD i aR.length with hi|hi
   ·rw[ahB hi] at hx;have hr:=hw.JP i x hx;refine⟨hr.o,by simp;have:=hr.k;omega,hr.bL,hr.gate,hr.dst,hr.skip,λh1 h2 k H2 T2 e2 hk Rb uj=>?_,λh1=>?_⟩
    ·rcases ahD k sts.length with gy|gy
     ·rw[ahB gy] at hk;exact hr.still h1 h2 k H2 T2 e2 hk Rb uj
     ·have nV:k=sts.length:=by have:=(aht.1 hk).1;simp at this;omega
      subst nV;simp at hk;obtain⟨rfl,rfl,rfl⟩:=hk;rcases uj with uj|uj
      ·have:=hr.k;omega
      ·exact LX hna i uj x hx h1 h2
    ·obtain⟨Ha,Ta,ea,Hb,Tb,g1,g2,g3,g4⟩:=hr.effect h1;have l1:=(aht.1 g1).1;have l2:=(aht.1 g2).1;exact⟨Ha,Ta,ea,Hb,Tb,by rw[ahB l1];exact g1,by rw[ahB l2];exact g2,g3,g4⟩
   ·have jf:i=aR.length:=by have:=(aht.1 hx).1;simp at this;omega
    subst jf;simp at hx;subst hx;refine⟨nX,(by rw[ahw,ain];exact(by omega:sts.length-1<sts.length+1)),xd.symm,hgate,mo,λhr=>(Oe hr).1,λ_ h2=>(by cases h2),λ_=>⟨H,T,i0,H',T',by show (sts++[_])[sts.length-1]?=_;rw[ahB zO];exact gA,?_,dj,λhr=>(Oe hr).2⟩⟩;show (sts++[_])[sts.length-1+1]?=_;rw[show sts.length-1+1=sts.length by omega];simp
  ·rcases ahD i aR.length with hi|hi
   ·rw[ahB hi] at hx;rw[aiF zO];exact hw.Kv i x hx
   ·have jf:i=aR.length:=by have:=(aht.1 hx).1;simp at this;omega
    subst jf;simp at hx;subst hx;rw[aiF (ahv _),ahO];exact hw.cur
  ·rw[ja,<-hw.cur];rfl
 ·rename_i xd;simp only[Bool.not_eq_true] at xd;obtain⟨hex,jk⟩:=h;obtain⟨mo,xo⟩:=qQ jk;obtain⟨rfl,rfl⟩:=W5 xd;refine⟨_,_,_,⟨⟨?_,λi x hx=>?_⟩,λi x hx=>?_,λi x hx=>?_,?_⟩,zS,xo,rfl,dM,⟨_,rfl,λh=>absurd h (by rw[xd];decide)⟩,⟨[],zS⟩,λh=>absurd h (by rw[xd];decide)⟩
  ·simp only[ahw,ain,hlen];rw[wx xd]
  ·rcases ahD i aR.length with hi|hi
   ·rw[ahB hi] at hx;exact hw.st.k i x hx
   ·have jf:i=aR.length:=by have:=(aht.1 hx).1;simp at this;omega
    subst jf;simp at hx;subst hx;simp;omega
  ·rcases ahD i aR.length with hi|hi
   ·rw[ahB hi] at hx;have hr:=hw.JP i x hx;exact⟨hr.o,hr.k,hr.bL,hr.gate,hr.dst,hr.skip,hr.still,hr.effect⟩
   ·have jf:i=aR.length:=by have:=(aht.1 hx).1;simp at this;omega
    subst jf;simp at hx;subst hx;refine⟨nX,(by exact(by omega:sts.length-1<sts.length)),xd.symm,hgate,mo,λhr=>(Oe hr).1,λh1 _ k H2 T2 e2 hk Rb uj=>?_,λh=>(by cases h)⟩;simp only at hk Rb uj h1 ⊢;have gy:=(aht.1 hk).1;rcases ahD k (sts.length-1) with bp|oG
    ·have eL:((sts.drop (D.lo.getD aR.length 0)).dropLast)[k-D.lo.getD aR.length 0]?=some (H2,T2,e2):=by
      rw[List.getElem?_dropLast,ahF (by rw[aii];omega),aja,show D.lo.getD aR.length 0+(k-D.lo.getD aR.length 0)=k by omega];exact hk
     exact Mw (hex h1) _ _ eL
    ·have nV:k=sts.length-1:=zO;subst nV;rw[gA] at hk
     cases hk
     exact dj h1 (λe=>by
      rcases kX with kX|kX
      ·rw[e,kX] at xd;cases xd
      ·have:=(aht.1 nX).1;omega)
  ·rcases ahD i aR.length with hi|hi
   ·rw[ahB hi] at hx;rw[aiF zO];exact hw.Kv i x hx
   ·have jf:i=aR.length:=by have:=(aht.1 hx).1;simp at this;omega
    subst jf;simp at hx;subst hx;rw[aiF (ahv _),ahO];exact hw.cur
  ·rw[ja,<-hw.cur];rfl
theorem vT {nx:Nat}{D:wD}{ops:List Oper}{e0:Env}(kz:jv D.bL=true)(kX:D.bL.contains nx=true\/ops.length<=nx):∀(l:List Oper)(aR:List cg)(sts:List nE)(e:Env),iJ nx D ops e0 aR sts e->ops.drop aR.length=l->aR.length<=ops.length->gn D l aR sts e->
  ∃bX eH H T i,iJ nx D ops e0 bX eH (aY e0 bX)/\bX.length=ops.length/\eH.getLast?=some (H,T,i)/\D.K ⟨aY e0 bX,H,T⟩/\eH[0]?=sts[0]?/\(∃q,bX=aR++q)/\∃q,eH=sts++q:=by
 intro l
 induction l with
 |nil=>
  intro aR sts e hw hl hle h;unfold gn at h
  split at h
  ·rename_i H T i dC;have hlen:aR.length=ops.length:=by
    have:=congrArg List.length hl;simp at this;omega
   have hc:=hw.cur;subst hc;exact⟨aR,sts,H,T,i,hw,hlen,dC,h,rfl,⟨[],zS⟩,⟨[],zS⟩⟩
  ·exact h.elim
 |cons o r ih=>
  intro aR sts e hw hl hle h;have bp:aR.length<ops.length:=by
   have:=congrArg List.length hl;simp at this;omega
  have nX:ops[aR.length]?=some o:=by
   have:=congrArg (λl=>l[0]?) hl;simpa using this
  have rN:ops.drop (aR.length+1)=r:=by
   have:=congrArg (λl=>l.drop 1) hl;simpa[ajR,Nat.add_comm] using this
  have fin:∀{H T i0 run v H' T'},sts.getLast?=some (H,T,i0)->(match o.guard with|none=>run=true|some (j,want)=>∃b,pA D.all j e=some b/\run=(b==some want))->(run=false->v=.dn []/\H'=H/\T'=T)->(run=true->aR.length≠nx->dT D.C.P o e H T v H' T')->
    (D.bL.contains aR.length=false->H'=H/\T'=T)->Bw D (gn D r) o aR sts e run v H' T'->∃bX eH H T i,iJ nx D ops e0 bX eH (aY e0 bX)/\bX.length=ops.length/\eH.getLast?=some (H,T,i)/\D.K ⟨aY e0 bX,H,T⟩/\eH[0]?=sts[0]?/\(∃q,bX=aR++q)/\∃q,eH=sts++q:=by
   intro H T i0 run v H' T' dC hg h1 h2 h3 h4;obtain⟨bX,eH,e',g1,g2,g3,g4,_,⟨x9,g9,_⟩,⟨q8,g8⟩,_⟩:=qZ kz kX hw nX dC hg h1 h2 h3 h4;obtain⟨r2,s2,H2,T2,i2,k1,k2,k3,k4,k5,⟨q6,k6⟩,⟨q7,k7⟩⟩:=ih bX eH e' g1 (by rw[g2];exact rN) zO g3;exact⟨r2,s2,H2,T2,i2,k1,k2,k3,k4,k5.trans g4,⟨_,by rw[k6,g9,ahM]⟩,⟨_,by rw[k7,g8,ahM]⟩⟩
  have exec:∀{H T i0},sts.getLast?=some (H,T,i0)->(match o.guard with|none=>true=true|some (j,want)=>∃b,pA D.all j e=some b/\true=(b==some want))->lD D (gn D r) o aR sts e H T->
    ∃bX eH H T i,iJ nx D ops e0 bX eH (aY e0 bX)/\bX.length=ops.length/\eH.getLast?=some (H,T,i)/\D.K ⟨aY e0 bX,H,T⟩/\eH[0]?=sts[0]?/\(∃q,bX=aR++q)/\∃q,eH=sts++q:=by
   intro H T i0 dC hg hx;unfold lD at hx
   split at hx
   ·rename_i g as jJ;obtain⟨v,H',T',hc,hs,hd⟩:=hx;refine fin (run:=true) dC hg (λe=>by cases e) (λ_ _=>?_) hs hd;unfold dT;rw[jJ];exact hc
   ·rename_i jJ
    split at hx
    ·rename_i v H' T' mh;refine fin (run:=true) dC hg (λe=>by cases e) (λ_ _=>?_) hx.1 hx.2;unfold dT;rw[jJ];exact mh
    ·exact hx.elim
  unfold gn at h
  split at h
  ·rename_i H T i0 dC
   split at h
   ·rename_i hg;exact exec dC (by rw[hg]) h
   ·rename_i j want hg
    split at h
    ·rename_i b hb
     split at h
     ·rename_i C8;exact exec dC (by rw[hg];exact⟨b,hb,by simp[C8]⟩) h
     ·rename_i C8;exact fin (run:=false) dC (by rw[hg];exact⟨b,hb,by simp[C8]⟩) (λ_=>⟨rfl,rfl,rfl⟩) (λe=>by cases e) (λ_=>⟨rfl,rfl⟩) h
    ·exact h.elim
  ·exact h.elim
theorem Fp:∀(l:List Oper)(acc:List Nat)(i:Nat),i<acc.length->(fD l acc)[i]?=acc[i]?:=by
 intro l
 induction l with
 |nil=>intro acc i _;rfl
 |cons o r ih=>
  intro acc i hi;rw[fD,ih _ _ (by simp;omega),ahB hi]
def xG (o:Oper)(acc:List Nat):Nat:=o.after.foldl (λs e=>if Region.binds .any e then s ||| 2 ^ e.on ||| acc.getD e.on 0 else s) 0
theorem Ui:∀(l:List Oper)(acc:List Nat)(i:Nat)(o:Oper),l[i]?=some o->∃Dt,(fD l acc)[acc.length+i]?=some (xG o Dt)/\Dt.length=acc.length+i/\∀j,j<Dt.length->Dt[j]?=(fD l acc)[j]?:=by
 intro l
 induction l with
 |nil=>intro acc i o h;simp at h
 |cons p r ih=>
  intro acc i o h
  cases i with
  |zero=>
   simp at h;subst h;refine⟨acc,?_,zS,λj hj=>(Fp _ _ j hj).symm⟩;rw[fD,Fp _ _ _ zS];simp[xG]
  |succ i=>
   obtain⟨Dt,h1,h2,h3⟩:=ih (acc++[xG p acc]) i o (zU h);refine⟨Dt,?_,by simp at h2;omega,h3⟩;rw[fD];simp at h1;rw[show acc.length+(i+1)=acc.length+1+i by omega];exact h1
theorem ID (o:Oper)(acc:List Nat)(j:Nat)(h:(xG o acc).testBit j=true):∃e∈o.after,Region.binds .any e=true/\(e.on=j\/(acc.getD e.on 0).testBit j=true):=by
 unfold xG at h;rw[<-Array.foldl_toList] at h;have key:∀(l:List Edge)(s:Nat),(l.foldl (λs e=>if Region.binds .any e then s ||| 2 ^ e.on ||| acc.getD e.on 0 else s) s).testBit j=true->s.testBit j=true\/∃e∈l,Region.binds .any e=true/\(e.on=j\/(acc.getD e.on 0).testBit j=true):=by
  intro l
  induction l with
  |nil=>intro s h;exact .inl h
  |cons e r ih=>
   intro s h;rcases ih _ h with h1|⟨e',h1,h2⟩
   ·dsimp only at h1
    split at h1
    ·rename_i hb;simp only[Nat.testBit_or,aiq] at h1;rcases h1 with (h1|h1)|h1
     ·exact .inl h1
     ·rw[Nat.testBit_two_pow] at h1;exact .inr ⟨e,zS,hb,.inl (zU h1)⟩
     ·exact .inr ⟨e,zS,hb,.inr h1⟩
    ·exact .inl h1
   ·exact .inr ⟨e',by simp[h1],h2⟩
 rcases key _ _ h with h1|⟨e,h1,h2⟩
 ·simp at h1
 ·exact⟨e,by simpa using h1,h2⟩
def jq {ops:List Oper}{ay:Array Bool}(gg:∀i j,ay.getD i false=true->nR (fD ops []) j i=true->ay.getD j false=true)
  {i:Nat} {o:Oper} (ho:ops[i]?=some o) (hr:∀e∈o.after,Region.binds .any e=true->ay.getD e.on false=true) (DN:∀e∈o.after,Region.binds .any e=true->e.on<i) {j:Nat} (hj:nR (fD ops []) j i=true):ay.getD j false=true:=by
 obtain⟨Dt,h1,h2,h3⟩:=Ui ops [] i o ho;simp at h1 h2;unfold nR at hj;rw[ahs,h1] at hj;obtain⟨e,he,hb,h4⟩:=ID o Dt j hj;have hl:=hr e he hb;rcases h4 with h4|h4
 ·rw[<-h4];exact hl
 ·refine gg e.on j hl ?_;unfold nR;have bp:=DN e he hb;rw[ahs,<-h3 e.on zO,<-getD_eq_getElem?_getD];exact h4
def kV {ops:List Oper}{bL lo:List Nat}{na:List (List Nat)}(h:iv ops bL lo na=true) :
  (∀(i j:Nat)(x y:Oper)(d:Tmp),ops[i]?=some x->ops[j]?=some y->x.dst=some d->y.dst=some d->i=j)/\
  (∀(i j:Nat)(x y:Oper)(t:Tmp),ops[i]?=some x->ops[j]?=some y->t∈x.looksAt ops.toArray->y.dst=some t->i≠j/\((j<i/\nR (fD ops []) j i=true)\/(i<j/\nR (fD ops []) i j=true)))/\
  (∀k e,bL[k]?=some e->e<ops.length/\(0<k->∃e',bL[k-1]?=some e'/\nR (fD ops []) e' e=true))/\
  (∀i,i<ops.length->lo.getD i 0<=Ou (fD ops []) bL i)/\
  (∀k e,bL[k]?=some e->∀j,j<e->bL.contains j=true\/(na.getD k []).contains j=true\/nR (fD ops []) j e=true)/\
  (∀(i:Nat)(x:Oper),ops[i]?=some x->∀e∈x.after,Region.binds .any e=true->e.on<i)/\Region.noSelect ops.toArray=true:=by
 unfold iv at h;simp only[ahG] at h;obtain⟨⟨⟨⟨⟨⟨⟨⟨⟨h1,h2⟩,h3⟩,h4⟩,h5⟩,h6⟩,h7⟩,h8⟩,h9⟩,ND⟩:=h;have at_:∀{i:Nat} {x:Oper},ops[i]?=some x->i<ops.length/\ops.getD i default=x:=λ{i x} hi=>by
  obtain⟨a,b⟩:=aht.1 hi;exact⟨a,by rw[ahs,hi];rfl⟩
 have XX:∀{k e:Nat},bL[k]?=some e->k<bL.length/\bL.getD k 0=e:=λ{k e} hi=>by
  obtain⟨a,b⟩:=aht.1 hi;exact⟨a,by rw[ahs,hi];rfl⟩
 refine⟨λi j x y d hi hj hx hy=>?_,λi j x y t hi hj ht hy=>?_,λk e hk=>⟨?_,λgu=>?_⟩,λi hi=>?_,λk e hk j hj=>?_,λi x hi e he hb=>?_,ND⟩
 ·obtain⟨a1,a2⟩:=at_ hi;obtain⟨b1,b2⟩:=at_ hj;have:=ah3.1 (ah3.1 h1 i (ahV.2 a1)) j (ahV.2 b1);rw[a2,b2,hx,hy] at this;simpa using this
 ·obtain⟨a1,a2⟩:=at_ hi;obtain⟨b1,b2⟩:=at_ hj;have dM:i≠j:=by
   rintro rfl;have e1:x=y:=by rw[hi] at hj;injection hj
   subst e1;have:=ah3.1 (ah3.1 h3 i (ahV.2 a1)) t (by rw[a2];exact ht);rw[a2,hy] at this;simp at this
  have:=ah3.1 (ah3.1 (ah3.1 h2 i (ahV.2 a1)) t (by rw[a2];exact ht)) j (ahV.2 b1);rw[b2,hy] at this;refine⟨dM,?_⟩;simpa[dM] using this
 ·obtain⟨a1,a2⟩:=XX hk;have:=ah3.1 h5 e (aiN hk);simpa using this
 ·obtain⟨a1,a2⟩:=XX hk;have:=ah3.1 h4 k (ahV.2 a1);have JX:(k==0)=false:=by simp;omega
  rw[JX,a2] at this;have Gx:k-1<bL.length:=zO;refine⟨bL[k-1],ahu Gx,?_⟩;have e2:bL.getD (k-1) 0=bL[k-1]:=by rw[ahs,ahu Gx];rfl
  rw[e2] at this;simpa using this
 ·have:=ah3.1 h7 i (ahV.2 hi);simpa using this
 ·obtain⟨a1,a2⟩:=XX hk;have:=ah3.1 (ah3.1 h8 k (ahV.2 a1)) j (ahV.2 (by rw[a2];exact hj));rw[a2] at this;simp only[aiq] at this;rcases this with (h|h)|h
  ·exact .inl h
  ·exact .inr (.inl h)
  ·exact .inr (.inr h)
 ·obtain⟨a1,a2⟩:=at_ hi;have:=Array.all_eq_true_iff_forall_mem.1 (ah3.1 h9 i (ahV.2 a1)) e (by rw[a2];exact he);rw[hb] at this;simpa using this
def oM (e:Env):List Tmp->Env
 |[]=>[]
 |t::r=>(t,bO e t)::oM e r
theorem iE (e:Env):∀(l:List Tmp)(t:Tmp),bO (oM e l) t=if t∈l then bO e t else .top:=by
 intro l
 induction l with
 |nil=>intro t;rfl
 |cons s r ih=>
  intro t;simp only[oM,bO]
  by_cases h:s=t
  ·subst h;simp
  ·rw[ahC h,ih];have:t≠s:=λe=>h e.symm;simp[this]
def VS (aR:List cg)(ay:Array Bool)(e0:Env)(t:Nat)(v:AV):Prop:=
 (∃j x,aR[j]?=some x/\x.o.dst=some t/\ay.getD j false=true/\v=x.v)\/
 ((∀j x,aR[j]?=some x->x.o.dst=some t->ay.getD j false=false)/\v=bO e0 t)
structure Inv (D:wD)(s:St)(aR:List cg)(sts:List nE)(L0:Lay)(w0:World)(ay:Array Bool)(a:Act)(w:World):Prop where
 size:ay.size=aR.length
 closed:∀i j,ay.getD i false=true->nR (fD (aR.map (·.o)) []) j i=true->ay.getD j false=true
 st:∃k H T e L,(∀(m i:Nat),D.bL[m]?=some i->(ay.getD i false=true↔m<k))/\k<=D.bL.length/\sts[k]?=some (H,T,e)/\cz L H T w/\D.C.nb<=H.length/\D.C.tb<=T.length/\
  (∀t,∃v,VS aR ay s.e t v/\bt L H.length T w v (a.tmps.getD t undef))/\Ev D.C.nb D.C.tb L0 s.H.length s.T w0 L H.length T w
 tmps:a.tmps.size=D.C.nt
 defers:a.defers=[]
def cX {ay:Array Bool}{j:Nat}(h:j<ay.size):ay.getD j true=ay.getD j false:=by
 simp[h]
theorem Fo {P:Program}{ops:List Oper}{Q:Exit->Act->World->Prop}(d6:∀(i:Nat)(x:Oper),ops[i]?=some x->∀e∈x.after,Region.binds .any e=true->e.on<i)(I:Array Bool->Act->World->Prop)
  (gj:∀ay a w,I ay a w->ay.size=ops.length) (zk:∀ay a w,I ay a w->(∀i,i<ops.length->ay.getD i false=true)->Q .normal a w)
  (aeQ:∀(fuel:Nat)(ay:Array Bool)(a:Act)(w:World),I ay a w->∀i,i∈Region.ready .any ops.toArray ay->
   ((∀j,j<ops.length->(ay.setIfInBounds i true).getD j false=true)\/(List.range ops.length).countP (λj=>!(ay.setIfInBounds i true).getD j false)<=fuel)->
   (∀a' w',I (ay.setIfInBounds i true) a' w'->wpAny P .any ops.toArray Q fuel (ay.setIfInBounds i true) a' w')->
   wpOp P ops.toArray Q i (wpAny P .any ops.toArray Q fuel (ay.setIfInBounds i true)) a w) :
  ∀(fuel:Nat)(ay:Array Bool)(a:Act)(w:World),I ay a w->(∀i,i<ops.length->ay.getD i false=true)\/(List.range ops.length).countP (λi=>!ay.getD i false)<=fuel->
   wpAny P .any ops.toArray Q fuel ay a w:=by
 have HF:∀(ay:Array Bool),ay.size=ops.length->Region.ready .any ops.toArray ay=[]->∀i,i<ops.length->ay.getD i false=true:=by
  intro ay gj hr i
  induction i using Nat.strongRecOn with
  |_ i ih=>
   intro eM
   cases XJ:ay.getD i false with
   |true=>rfl
   |false=>
    exfalso;have gO:i∈Region.ready .any ops.toArray ay:=by
     refine mem_ready.2 ⟨by rw[cX zO];exact XJ,ops[i],by rw[ahQ,ahu eM],λe he hb=>?_⟩;have bp:=d6 i _ (ahu eM) e he hb;exact ih e.on bp zO
    rw[hr] at gO;simp at gO
 intro fuel
 induction fuel with
 |zero=>
  intro ay a w hI BH;have fC:∀i,i<ops.length->ay.getD i false=true:=by
   rcases BH with h1|h1
   ·exact h1
   ·intro i hi;have h2:(List.range ops.length).countP (λi=>!ay.getD i false)=0:=zO;have:=List.countP_eq_zero.1 h2 i (ahV.2 hi);simpa using this
  refine⟨?_,zk ay a w hI fC⟩;rw[aiQ];intro i hi;obtain⟨h1,o,ho,_⟩:=mem_ready.1 hi;rw[ahQ] at ho;have eM:=(aht.1 ho).1;rw[cX (by rw[(gj _ _ _ hI)];omega),fC i eM] at h1
  cases h1
 |succ fuel ih=>
  intro ay a w hI BH;refine⟨λhr=>zk ay a w hI (HF ay (gj _ _ _ hI) hr),λi hi=>?_⟩;have U6:i∈Region.ready .any ops.toArray ay->(∀j,j<ops.length->(ay.setIfInBounds i true).getD j false=true)\/(List.range ops.length).countP (λj=>!(ay.setIfInBounds i true).getD j false)<=fuel:=λhi=>?_
  ·exact aeQ fuel ay a w hI i hi (U6 hi) λa' w' VT=>ih _ a' w' VT (U6 hi)
  obtain⟨h1,o,ho,_⟩:=mem_ready.1 hi;rw[ahQ] at ho;have eM:=(aht.1 ho).1;have pN:i<ay.size:=by rw[(gj _ _ _ hI)];omega
  rw[cX pN] at h1;rcases BH with h2|h2
  ·rw[h2 i eM] at h1;cases h1
  ·right
   have:(List.range ops.length).countP (λj=>!(ay.setIfInBounds i true).getD j false)+1<=(List.range ops.length).countP (λj=>!ay.getD j false):=by
    have agf:(List.range ops.length).countP (λj=>!ay.getD j false)=(List.range ops.length).countP (λj=>!(ay.setIfInBounds i true).getD j false)+(List.range ops.length).countP (λj=>decide (j=i)):=by
     generalize List.range ops.length=l
     induction l with
     |nil=>rfl
     |cons y r ihl=>
      simp only[List.countP_cons,ihl]
      by_cases hy:y=i
      ·subst hy;simp[h1,pN];omega
      ·rw[getD_set_ne false (λe=>hy e.symm)];simp[hy];omega
    have gu:0<(List.range ops.length).countP (λj=>decide (j=i)):=List.countP_pos_iff.2 ⟨i,ahV.2 eM,zS⟩;omega
   omega
theorem oB {C:Cx}{ops:List Oper}{Q:Exit->St->Prop}{s':St}{K:St->Prop}{bL lo:List Nat}{na:List (List Nat)}(kz:iv ops bL lo na=true)(pe:jv bL=true){nx:Nat}{L0:Lay}{w0:World}{D:wD}
  (lF:D.C=C) (po:D.bL=bL) (zY:D.lo=lo) (RZ:D.na=na) (R5:D.all=ops.toArray) {aR:List cg} {sts:List nE} (hlen:aR.length=ops.length) (RE:∀(i:Nat)(x:cg),aR[i]?=some x->ops[i]?=some x.o)
  (Rk:Nat->Prop) (kX:∀i,Rk i->i≠nx) (hRk:∀(i:Nat)(x:cg),aR[i]?=some x->Rk i->BV nx D ops sts aR i x) (IT:∀(i:Nat)(x:cg),aR[i]?=some x->Rk i->x.e=aY s'.e (aR.take i))
  (Re:∀(i:Nat)(x:cg),aR[i]?=some x->Rk i->x.k=(D.bL.filter (·<i)).length) (J:Array Bool->Prop) (hJ:∀ay i,Rk i->J ay->J (ay.setIfInBounds i true))
  (zk:∀(ay:Array Bool)(a:Act)(w:World),Inv D s' aR sts L0 w0 ay a w->J ay->(∀i,i<ops.length->ay.getD i false=true)->cN C (dK K Q) L0 s' w0 .normal a w)
  (W9:∀(fuel:Nat)(ay:Array Bool)(a:Act)(w:World),Inv D s' aR sts L0 w0 ay a w->J ay->∀i,i∈Region.ready .any ops.toArray ay->¬Rk i->
   ((∀j,j<ops.length->(ay.setIfInBounds i true).getD j false=true)\/(List.range ops.length).countP (λj=>!(ay.setIfInBounds i true).getD j false)<=fuel)->
   wpOp C.P ops.toArray (cN C (dK K Q) L0 s' w0) i (wpAny C.P .any ops.toArray (cN C (dK K Q) L0 s' w0) fuel (ay.setIfInBounds i true)) a w) :
  ∀(fuel:Nat)(ay:Array Bool)(a:Act)(w:World),Inv D s' aR sts L0 w0 ay a w->J ay->(∀i,i<ops.length->ay.getD i false=true)\/(List.range ops.length).countP (λi=>!ay.getD i false)<=fuel->
   wpAny C.P .any ops.toArray (cN C (dK K Q) L0 s' w0) fuel ay a w:=by
 obtain⟨d1,d2,d3,d4,d5,d6,d7⟩:=kV kz;have Sh:aR.map (·.o)=ops:=by
  apply ajn;intro i;rw[aiD]
  by_cases hi:i<aR.length
  ·rw[ahu hi,ajf,RE i _ (ahu hi)]
  ·rw[aiU zO,aiU zO];rfl
 have aeW:∀i,i<ops.length->∃x:cg,aR[i]?=some x:=λi hi=>⟨_,ahu zO⟩
 have stp:∀(ay:Array Bool)(a:Act)(w:World)(i:Nat)(KK:Act->World->Prop),Inv D s' aR sts L0 w0 ay a w->Rk i->i∈Region.ready .any ops.toArray ay->
   (∀a' w',Inv D s' aR sts L0 w0 (ay.setIfInBounds i true) a' w'->KK a' w')->wpOp C.P ops.toArray (cN C (dK K Q) L0 s' w0) i KK a w:=by
  intro ay a w i KK hI RF hi Wx;obtain⟨RK,o,ho,sn⟩:=mem_ready.1 hi;rw[ahQ] at ho;have eM:i<ops.length:=(aht.1 ho).1;have pN:i<ay.size:=by rw[hI.size];omega
  have zg:ay.getD i false=false:=by rw[<-cX pN];exact RK
  obtain⟨x,hx⟩:=aeW i eM;have Ny:x.o=o:=by have:=RE i x hx;rw[ho] at this;injection this with this;exact this.symm
  have hR:=hRk i x hx RF;have gg:∀i j,ay.getD i false=true->nR (fD ops []) j i=true->ay.getD j false=true:=by
   have:=hI.closed;rw[Sh] at this;exact this
  have lu:∀j,nR (fD ops []) j i=true->ay.getD j false=true:=λj hj=>jq gg ho sn (d6 i o ho) hj;obtain⟨k,H,T,e,L,hk,gy,rB,cY,gL,fZ,gR,dI⟩:=hI.st;rw[po] at hk gy;rw[lF] at gL fZ dI;have eI:∀t∈o.looksAt ops.toArray,∀v,VS aR ay s'.e t v->v=bO x.e t:=by
   intro t ht v hv;rw[IT i x hx RF];have Q7:∀(j:Nat)(z:cg),aR[j]?=some z->z.o.dst=some t->i≠j/\((j<i/\nR (fD ops []) j i=true)\/(i<j/\nR (fD ops []) i j=true)):=λj z hz hd=>d2 i j o z.o t ho (RE j z hz) ht hd;rcases hv with⟨j,z,hz,hd,hl,rfl⟩|⟨nQ,rfl⟩
   ·obtain⟨dM,h1|h1⟩:=Q7 j z hz hd
    ·rw[fc (aR.take i) s'.e t j z (by rw[aim,ahF h1.1];exact hz) hd (λi' y' JV YG=>by
      rw[aim] at JV
      split at JV
      ·exact d1 i' j y'.o z.o t (RE i' y' JV) (RE j z hz) YG hd
      ·cases JV)]
    ·have:=gg j i hl h1.2;rw[zg] at this;cases this
   ·rw[cR (aR.take i) s'.e t (λz hz hd=>by
     obtain⟨j,hj,e1⟩:=ahN.1 hz;simp at hj;have JU:aR[j]?=some z:=by rw[ahu zO,<-e1];simp
     have hf:=nQ j z JU hd;obtain⟨dM,h1|h1⟩:=Q7 j z JU hd
     ·have:=lu j h1.2;rw[hf] at this;cases this
     ·omega)]
  have uy:fu L H.length T w (oM x.e (o.looksAt ops.toArray)) a:=by
   intro t;rw[iE]
   split
   ·rename_i ht;obtain⟨v,hv,hr⟩:=gR t;rw[<-eI t ht v hv];exact hr
   ·exact .top _
  have GU:∀z∈o.op.operands,bV x.e z=bV (oM x.e (o.looksAt ops.toArray)) z:=by
   intro z hz
   cases z with
   |tmp t=>
    have:t∈o.looksAt ops.toArray:=by
     unfold Oper.looksAt;exact ahI.2 (.inl (List.mem_filterMap.2 ⟨_,aiZ.2 hz,rfl⟩))
    simp only[bV,iE,ahF this]
   |_=>rfl
  have behind:∀(H':List aA)(T':au)(cv:Value)(w':World)(L':Lay),cz L' H' T' w'->bt L' H'.length T' w' x.v cv->Ev H.length T.length L H.length T w L' H'.length T' w'->
    ((bL.contains i=false/\H'=H/\T'=T)\/(bL.contains i=true/\bL[k]?=some i/\∃e',sts[k+1]?=some (H',T',e')))->KK (a.put o.dst cv) w':=by
   intro H' T' cv w' L' vB mA oJ uj;refine Wx _ _ ⟨by simp[hI.size],λi' j' jY ly=>?_,?_,?_,by cases o.dst<;>exact hI.defers⟩
   ·rw[Sh] at ly
    by_cases Bt:i=i'
    ·subst Bt;have:=lu j' ly
     by_cases jV:i=j'
     ·subst jV;rw[zg] at this;cases this
     ·rw[getD_set_ne false jV];exact this
    ·rw[getD_set_ne false Bt] at jY;have:=gg i' j' jY ly;exact getD_set_true this
   ·have lN:∀t,∃v,VS aR (ay.setIfInBounds i true) s'.e t v/\bt L' H'.length T' w' v ((a.put o.dst cv).tmps.getD t undef):=by
     intro t
     by_cases hd:o.dst=some t
     ·refine⟨x.v,.inl ⟨i,x,hx,by rw[Ny];exact hd,by simp[pN],rfl⟩,?_⟩;have bp:t<a.tmps.size:=by rw[hI.tmps];exact hR.dst t (by rw[Ny];exact hd)
      rw[hd,jR a t t cv bp,ahF rfl];exact mA
     ·obtain⟨v,hv,hr⟩:=gR t;refine⟨v,?_,?_⟩
      ·rcases hv with⟨j,z,hz,Bn,hl,rfl⟩|⟨nQ,rfl⟩
       ·exact .inl ⟨j,z,hz,Bn,getD_set_true hl,rfl⟩
       ·refine .inr ⟨λj z hz Bn=>?_,rfl⟩;have jV:i≠j:=by
         rintro rfl;rw[hx] at hz
         cases hz
         rw[Ny] at Bn;exact hd Bn
        rw[getD_set_ne false jV];exact nQ j z hz Bn
      ·have e1:(a.put o.dst cv).tmps.getD t undef=a.tmps.getD t undef:=by
        cases mo:o.dst with
        |none=>rfl
        |some d=>
         have bp:d<a.tmps.size:=by rw[hI.tmps];exact hR.dst d (by rw[Ny];exact mo)
         rw[jR a d t cv bp,ahC (λe=>hd (by rw[mo,e]))]
       rw[e1];exact hr.keep oJ.keeps
    have Zz:=dI.trans (oJ.mono gL fZ);rcases uj with⟨dM,rfl,rfl⟩|⟨heq,zV,e',Wi⟩
    ·refine⟨k,H',T',e,L',λm i' yU=>?_,by rw[po];exact gy,rB,vB,by rw[lF];exact gL,by rw[lF];exact fZ,lN,by rw[lF];exact Zz⟩;rw[po] at yU;have Bt:i≠i':=by
      rintro rfl;have:=aiN yU;rw[<-List.contains_iff_mem] at this;rw[dM] at this;cases this
     rw[getD_set_ne false Bt];exact hk m i' yU
    ·refine⟨k+1,H',T',e',L',λm i' yU=>?_,by rw[po];have:=(aht.1 zV).1;omega,Wi,vB,by rw[lF];exact ahA gL oJ.n,by rw[lF];exact ahA fZ oJ.t,lN,by rw[lF];exact Zz⟩;rw[po] at yU
     by_cases Bt:i=i'
     ·subst Bt;have e1:=(o3 pe heq).1;have XH:∀m',bL[m']?=some i->m'=(bL.filter (·<i)).length:=by
       intro m' Zr;have jU:=(aht.1 Zr).1;have:=ah3.1 pe m' (ahV.2 jU);simp only[ahG,ajl,ahs,Zr,ai5] at this;exact this.1.symm
      have h1:=XH m yU;have h2:=XH k zV;simp[pN];omega
     ·rw[getD_set_ne false Bt,hk m i' yU]
      constructor
      ·intro h;omega
      ·intro h;rcases ahD m k with h1|h1
       ·exact h1
       ·have:m=k:=zO;subst this;rw[zV] at yU
        injection yU with yU
        exact absurd yU Bt
   ·simp[Act.put];cases o.dst<;>simp[hI.tmps]
  have OP:bL.contains i=true->bL[k]?=some i/\x.k=k:=by
   intro heq;obtain⟨e1,_⟩:=o3 pe heq;have C5:=Re i x hx RF;rw[po] at C5;have oG:k<=(bL.filter (·<i)).length:=by
    rcases ahD (bL.filter (·<i)).length k with h1|h1
    ·have:=(hk _ i e1).2 h1;rw[zg] at this;cases this
    ·exact h1
   have hle:(bL.filter (·<i)).length<=k:=by
    rcases ah0 (bL.filter (·<i)).length with h0|h0
    ·omega
    ·obtain⟨e',h1,h2⟩:=(d3 _ i e1).2 h0;have:=(hk _ e' h1).1 (lu e' h2);omega
   have:(bL.filter (·<i)).length=k:=zO;exact⟨by rw[<-this];exact e1,zO⟩
  have hgv:∀j b,pA D.all j x.e=some b->o.guard=some (j,true)\/o.guard=some (j,false)->yielded ops.toArray a.tmps j=b:=by
   intro j b hb hg;rw[R5] at hb;refine tZ uy ?_;unfold pA at hb ⊢
   split at hb
   ·rename_i d hd;have:d∈o.looksAt ops.toArray:=by
     unfold Oper.looksAt;refine ahI.2 (.inr ?_);rcases hg with hg|hg<;>rw[hg]<;>simp only[hd]<;>simp
    rw[iE,ahF this];exact hb
   ·cases hb
  unfold wpOp;rw[ahQ,ho]
  dsimp only
  have hgate:=hR.gate;rw[Ny] at hgate
  by_cases dj:x.run=true
  ·
   have th:Region.wanted o (yielded ops.toArray a.tmps)=true:=by
    unfold Region.wanted
    cases hg:o.guard with
    |none=>rfl
    |some jw=>
     obtain⟨j,want⟩:=jw;rw[hg] at hgate;obtain⟨b,hb,j8⟩:=hgate;have:=hgv j b hb (by cases want<;>simp[hg]);rw[dj] at j8;simp only[this];have C8:b=some want:=by simpa using j8.symm
     simp[C8]
   rw[ahF th];refine .inl ?_;have hxx:∃H' T',dT C.P o x.e H T x.v H' T'/\((bL.contains i=false/\H'=H/\T'=T)\/(bL.contains i=true/\bL[k]?=some i/\∃e',sts[k+1]?=some (H',T',e'))):=by
    cases heq:bL.contains i with
    |false=>
     have Yp:x.bL=false:=by rw[hR.bL,po];exact heq
     have fe:=hR.still dj Yp k H T e rB ?_ ?_
     ·rw[lF,Ny] at fe;exact⟨H,T,fe,.inl ⟨rfl,rfl,rfl⟩⟩
     ·rw[zY];refine ahA (d4 i eM) ?_;unfold Ou;have Kj:∀e'∈bL.filter (λe=>nR (fD ops []) e i),∃m,m<k/\bL[m]?=some e':=by
       intro e' CW;obtain⟨h1,h2⟩:=ahU.1 CW;obtain⟨m,Ra,Q9⟩:=ahN.1 h1;have hm3:bL[m]?=some e':=by rw[ahu Ra,Q9]
       exact⟨m,(hk m e' hm3).1 (lu e' h2),hm3⟩
      have hle:(bL.filter (λe=>nR (fD ops []) e i)).length<=(bL.take k).length:=by
       have e1:bL.filter (λe=>nR (fD ops []) e i)=(bL.take k).filter (λe=>nR (fD ops []) e i)++(bL.drop k).filter (λe=>nR (fD ops []) e i):=by
        rw[<-List.filter_append,ah1]
       have e2:(bL.drop k).filter (λe=>nR (fD ops []) e i)=[]:=by
        rw[ai9];intro e' CW ly;obtain⟨m,Ra,Q9⟩:=ahN.1 CW;simp at Ra;have hm3:bL[k+m]?=some e':=by
         rw[ahu zO,<-Q9];simp
        have:=(hk (k+m) e' hm3).1 (lu e' ly);omega
       rw[e1,e2,ahS];exact ahX _ _
      refine ahA hle ?_;simp;omega
     ·rcases ahD x.k k with bp|oG
      ·right
       rw[RZ];have pD:k-1<bL.length:=zO;have CW:=ahu pD;have CT:=(hk (k-1) _ CW).2 zO;have UA:i<bL[k-1]:=by
        rcases ahD i bL[k-1] with h1|h1
        ·exact h1
        ·exfalso;have dM:bL[k-1]≠i:=by
          intro e1;have:=aiN CW;rw[e1,<-List.contains_iff_mem] at this;rw[heq] at this;cases this
         have C5:=Re i x hx RF;rw[po] at C5;have h2:=ah3.1 pe (k-1) (ahV.2 pD);simp only[ahG,ajl,ahs,CW,ai5] at h2;have h3:(bL.filter (·<bL[k-1]+1)).length<=(bL.filter (·<i)).length:=by
          rw[<-List.countP_eq_length_filter,<-List.countP_eq_length_filter];exact List.countP_mono_left (λz _ hz=>by simp at hz ⊢;omega)
         omega
       rcases d5 (k-1) _ CW i UA with h1|h1|h1
       ·rw[heq] at h1;cases h1
       ·exact h1
       ·have:=gg _ i CT h1;rw[zg] at this;cases this
      ·exact .inl oG
    |true=>
     have Yp:x.bL=true:=by rw[hR.bL,po];exact heq
     obtain⟨zV,C5⟩:=OP heq;obtain⟨Ha,Ta,ea,Hb,Tb,g1,g2,g3,_⟩:=hR.effect Yp;rw[C5,rB] at g1;obtain⟨rfl,rfl⟩:H=Ha/\T=Ta:=by injection g1 with h1;injection h1 with h1 h2;injection h2 with h2 h3;exact⟨h1,h2⟩
     rw[C5] at g2;have:=g3 dj (kX i RF);rw[lF,Ny] at this;exact⟨Hb,Tb,this,.inr ⟨rfl,zV,i,g2⟩⟩
   obtain⟨H',T',hex,uj⟩:=hxx;exact tX (vS GU hex) cY uy λcv w' L' g1 g2 g3=>behind H' T' cv w' L' g1 g2 g3 uj
  ·
   have DH:x.run=false:=by simpa using dj
   have th:Region.wanted o (yielded ops.toArray a.tmps)=false:=by
    unfold Region.wanted
    cases hg:o.guard with
    |none=>rw[hg] at hgate;rw[hgate] at DH;cases DH
    |some jw=>
     obtain⟨j,want⟩:=jw;rw[hg] at hgate;obtain⟨b,hb,j8⟩:=hgate;have:=hgv j b hb (by cases want<;>simp[hg]);rw[DH] at j8;simp only[this];have C8:b≠some want:=by simpa using j8.symm
     simp[C8]
   rw[ahC (by simp[th])];have hv:x.v=.dn []:=hR.skip DH
   cases heq:bL.contains i with
   |false=>exact behind H T undef w L cY (by rw[hv];exact .dn [] #[] rfl (λj hj=>by simp at hj)) (Ev.refl (ahv _) (ahv _)) (.inl ⟨heq,rfl,rfl⟩)
   |true=>
    have Yp:x.bL=true:=by rw[hR.bL,po];exact heq
    obtain⟨zV,C5⟩:=OP heq;obtain⟨Ha,Ta,ea,Hb,Tb,g1,g2,_,g4⟩:=hR.effect Yp;rw[C5,rB] at g1;obtain⟨rfl,rfl⟩:H=Ha/\T=Ta:=by injection g1 with h1;injection h1 with h1 h2;injection h2 with h2 h3;exact⟨h1,h2⟩
    obtain⟨rfl,rfl⟩:=g4 DH;rw[C5] at g2;exact behind _ _ undef w L cY (by rw[hv];exact .dn [] #[] rfl (λj hj=>by simp at hj)) (Ev.refl (ahv _) (ahv _)) (.inr ⟨heq,zV,i,g2⟩)
 intro fuel ay a w hI Ro BH;refine Fo d6 (λl a w=>Inv D s' aR sts L0 w0 l a w/\J l) (λl a w h=>by rw[h.1.size,hlen]) (λl a w h=>zk l a w h.1 h.2) (λfuel l a w h i hi hc hk=>?_) fuel ay a w ⟨hI,Ro⟩ BH
 by_cases RF:Rk i
 ·exact stp l a w i _ h.1 RF hi λa' w' VT=>hk a' w' ⟨VT,hJ _ _ RF h.2⟩
 ·exact W9 fuel l a w h.1 h.2 i hi RF hc
def u9 {C:Cx}{ops:List Oper}{Q:Exit->St->Prop}{s:St}(K:St->Prop)(bL lo:List Nat)(na:List (List Nat))(kz:iv ops bL lo na=true)(pe:jv bL=true)
  (h:gn ⟨C,ops.toArray,bL,lo,na,K⟩ ops [] [(s.H,s.T,0)] (prune C.nv s.e)):∀L0 w0 a0,eQ C s L0 w0 a0->
   wpAny C.P .any ops.toArray (cN C (dK K Q) L0 s w0) ops.toArray.size (Array.replicate ops.toArray.size false) a0 { w0 with drawn:=w0.drawn+1 }:=by
 intro L0 w0 a0 mZ;have hc:eQ C ⟨prune C.nv s.e,s.H,s.T⟩ L0 w0 a0:=⟨mZ.nb,mZ.tb,mZ.nD,mZ.size,mZ.defers,λt=>by
  rcases mT C.nv s.e t with e|e<;>rw[e]
  ·exact mZ.env t
  ·exact .top _⟩
 generalize vp:(⟨prune C.nv s.e,s.H,s.T⟩:St)=s' at hc;have CQ:prune C.nv s.e=s'.e:=by rw[<-vp]
 have Bp:s.H=s'.H:=by rw[<-vp]
 have Gv:s.T=s'.T:=by rw[<-vp]
 rw[CQ,Bp,Gv] at h;rw[show cN C (dK K Q) L0 s w0=cN C (dK K Q) L0 s' w0 by unfold cN;rw[Bp,Gv]];clear vp CQ Bp Gv mZ;generalize hD:(⟨C,ops.toArray,bL,lo,na,K⟩:wD)=D at h;have lF:D.C=C:=by rw[<-hD]
 have po:D.bL=bL:=by rw[<-hD]
 have zY:D.lo=lo:=by rw[<-hD]
 have RZ:D.na=na:=by rw[<-hD]
 have R5:D.all=ops.toArray:=by rw[<-hD]
 have hDK:D.K=K:=by rw[<-hD]
 obtain⟨aR,sts,HL,TL,iL,hw,hlen,dC,hKK,Wh,_,_⟩:=vT (nx:=ops.length) (D:=D) (ops:=ops) (e0:=s'.e) (by rw[po];exact pe) (.inr (ahv _)) ops [] [(s'.H,s'.T,0)] s'.e
  ⟨⟨zS,λi x hx=>by simp at hx⟩,λi x hx=>by simp at hx,λi x hx=>by simp at hx,rfl⟩ zS zS h
 obtain⟨d1,d2,d3,d4,d5,d6,d7⟩:=kV kz;have RE:∀(i:Nat)(x:cg),aR[i]?=some x->ops[i]?=some x.o:=λi x hx=>(hw.JP i x hx).o;have NQ:sts.length=1+bL.length:=by
  have h1:=hw.st.len;rw[po] at h1;rw[h1]
  congr 2
  apply ai4.2;intro e he;obtain⟨k,hk,e1⟩:=ahN.1 he;have:=(d3 k e (by rw[ahu hk,e1])).1;simp;omega
 have done:∀(ay:Array Bool)(a:Act)(w:World),Inv D s' aR sts L0 w0 ay a w->(∀i,i<ops.length->ay.getD i false=true)->cN C (dK K Q) L0 s' w0 .normal a w:=by
  intro ay a w hI fC;obtain⟨k,H,T,e,L,hk,gy,rB,cY,gL,fZ,gR,dI⟩:=hI.st;have pD:k=bL.length:=by
   rw[po] at hk gy;rcases ahD k bL.length with bp|oG
   ·have:=(hk k _ (ahu bp)).1 (fC _ (d3 k _ (ahu bp)).1);omega
   ·omega
  have Dl:sts[k]?=some (HL,TL,iL):=by rw[<-dC,aka,NQ,pD];congr 1;omega
  rw[rB] at Dl;obtain⟨rfl,rfl,rfl⟩:H=HL/\T=TL/\e=iL:=by injection Dl with h1;injection h1 with h1 h2;injection h2 with h2 h3;exact⟨h1,h2,h3⟩
  rw[hDK] at hKK;rw[lF] at dI gL fZ;refine⟨_,L,hKK,⟨gL,fZ,cY,by rw[hI.tmps,lF],hI.defers,λt=>?_⟩,dI⟩;obtain⟨v,hv,hr⟩:=gR t;show bt L H.length T w (bO (aY s'.e aR) t) _;rcases hv with⟨j,x,hx,hd,hl,rfl⟩|⟨nQ,rfl⟩
  ·rw[fc aR s'.e t j x hx hd (λi y hy zI=>d1 i j y.o x.o t (RE i y hy) (RE j x hx) zI hd)];exact hr
  ·rw[cR aR s'.e t (λx hx hd=>by
    obtain⟨j,hj,e1⟩:=ahN.1 hx;have h1:=nQ j x (by rw[ahu hj,e1]) hd;have h2:=fC j zO;rw[h1] at h2;cases h2)]
   exact hr
 refine oB (nx:=ops.length) kz pe lF po zY RZ R5 hlen RE (λi=>i<ops.length) (λi hi=>by omega) (λi x hx _=>hw.JP i x hx) (λi x hx _=>hw.Kv i x hx) (λi x hx _=>hw.st.k i x hx) (λ_=>True) (λ_ _ _ _=>trivial)
  (λay a w hI _ fC=>done ay a w hI fC) (λfuel ay a w hI _ i hi hn=>?_) ops.length _ a0 _ ⟨by simp[hlen],λi j hl _=>?_,⟨0,s'.H,s'.T,0,L0,λm i Ux=>?_,ahE _,by rw[Wh];rfl,hc.nD.drew rfl,by rw[lF];exact hc.nb,by rw[lF];exact hc.tb,λt=>?_,?_⟩,by rw[lF];exact hc.size,hc.defers⟩ trivial (.inr ?_)
 ·obtain⟨_,o,ho,_⟩:=mem_ready.1 hi;rw[ahQ] at ho;exact absurd (aht.1 ho).1 hn
 ·exfalso
  by_cases hi:i<ops.length<;>simp[hi] at hl
 ·constructor
  ·intro hl;exfalso
   by_cases hi:i<ops.length<;>simp[hi] at hl
  ·intro h;omega
 ·refine⟨bO s'.e t,.inr ⟨λj x hx hd=>?_,rfl⟩,?_⟩
  ·by_cases hj:j<ops.length<;>simp[hj]
  ·have kd:dh L0 s'.H.length s'.T w0 L0 s'.H.length s'.T { w0 with drawn:=w0.drawn+1 }:=(Ev.drew (H:=s'.H) (T:=s'.T) (L:=L0) (w:=w0) (w':={ w0 with drawn:=w0.drawn+1 }) rfl rfl rfl rfl (air _)).keeps;exact(hc.env t).keep kd
 ·rw[lF];exact(Ev.drew (H:=s'.H) (T:=s'.T) (L:=L0) (w:=w0) (w':={ w0 with drawn:=w0.drawn+1 }) rfl rfl rfl rfl (air _)).mono hc.nb hc.tb
 ·refine ahA (List.countP_le_length) ?_;simp
def yo {C:Cx}{id:Nat}{ops:List Oper}{Q:Exit->St->Prop}{s:St}(K:St->Prop)(bL lo:List Nat)(na:List (List Nat))(hm:C.P.follows .mixedOrders=true)(kz:iv ops bL lo na=true)(pe:jv bL=true)
  (h:gn ⟨C,ops.toArray,bL,lo,na,K⟩ ops [] [(s.H,s.T,0)] (prune C.nv s.e)):AW C (.region id ops.toArray true) (dK K Q) s:=
 λL0 w0 a0 mZ=>wp_region_any hm (u9 K bL lo na kz pe h L0 w0 a0 mZ)
def cQ {C:Cx}{id:Nat}{ops:List Oper}{Q:Exit->St->Prop}{s:St}{y:Code}(bL lo:List Nat)(na:List (List Nat))(hm:C.P.follows .mixedOrders=true)(kz:iv ops bL lo na=true)(pe:jv bL=true)
  (h:∀K:St->Prop,(∀s,AW C y Q s->K s)->gn ⟨C,ops.toArray,bL,lo,na,K⟩ ops [] [(s.H,s.T,0)] (prune C.nv s.e)):AW C (.seq (.region id ops.toArray true) y) Q s:=
 xE λK hK=>yo K bL lo na hm kz pe (h K hK)
def du {C:Cx}{id:Nat}{ops:List Oper}{Q:Exit->St->Prop}{s:St}(bL lo:List Nat)(na:List (List Nat))(hm:C.P.follows .mixedOrders=true)(kz:iv ops bL lo na=true)(pe:jv bL=true)
  (h:∀K:St->Prop,(∀s,Q .normal s->K s)->gn ⟨C,ops.toArray,bL,lo,na,K⟩ ops [] [(s.H,s.T,0)] (prune C.nv s.e)):AW C (.region id ops.toArray true) Q s:=
 (yo (Q:=Q) (λs=>Q .normal s) bL lo na hm kz pe (h _ λ_ h=>h)).mono λe s q=>by cases e<;>exact q
section
variable {C : Cx} {id : Nat} {ops : List Oper} {y : Code} {Q : Exit -> St -> Prop} {s s' : St}
def bC (bL lo:List Nat)(na:List (List Nat))(h:gn ⟨C,ops.toArray,bL,lo,na,@KK ⟨C,y,Q⟩⟩ ops [] [(s.H,s.T,0)] (prune C.nv s.e))(hm:C.P.follows .mixedOrders=true:=by kernel_rfl)(kz:iv ops bL lo na=true:=by kernel_rfl)(pe:jv bL=true:=by kernel_rfl):AW C (.seq (.region id ops.toArray true) y) Q s:=
 hY (yo _ bL lo na hm kz pe h)
def IZ (bL lo:List Nat)(na:List (List Nat))(k:AW C y Q s')(h:∀K:St->Prop,K s'->gn ⟨C,ops.toArray,bL,lo,na,K⟩ ops [] [(s.H,s.T,0)] (prune C.nv s.e):=by intro K h;simp(disch:=omega);exact h)(hm:C.P.follows .mixedOrders=true:=by kernel_rfl)(kz:iv ops bL lo na=true:=by kernel_rfl)(pe:jv bL=true:=by kernel_rfl):AW C (.seq (.region id ops.toArray true) y) Q s:=
 bC bL lo na (h _ k) hm kz pe
end
section
variable {P : Program} {f : FuncId} {args : List AV} {H rH : List aA} {T rT : au} {L : Lay} {w : World}
def cz.front (P:Program)(h:cz L (H++rH) (T++rT) w)(ho:bM H T):cz L H T w:=by
 let C:Cx:=⟨P,0,0,H.length,T.length,[]⟩
 let a:Act:={ tmps:=#[],defers:=[] }
 have hc:eQ C ⟨[],H++rH,T++rT⟩ L w a:=⟨by simp[C],by simp[C],h,rfl,rfl,λt=>.top _⟩
 have hw:sW C ⟨[],H++rH,T++rT⟩ ⟨[],H,T⟩:=⟨ahv _,ahv _,⟨rH,rfl⟩,⟨rT,rfl⟩,ho,λt=>.inl rfl⟩
 exact(hw.nD hc).nD
def Ev.front {L0:Lay}{w0:World}{H0:List aA}{T0:au}{nb tb:Nat}(h:Ev nb tb L0 H0.length T0 w0 L (H++rH).length (T++rT) w)(hn:nb<=H.length)(ht:tb<=T.length):Ev nb tb L0 H0.length T0 w0 L H.length T w:=by
 refine⟨hn,h.bW,λt u z bp hT=>?_,ht,h.m,h.uh,h.size,h.frame,λb hb=>h.wr b ?_,h.os,h.tape,h.output,h.drawn,h.dr⟩
 ·obtain⟨u',h1,h2,h3⟩:=h.tok t u z bp hT;exact⟨u',by rwa [ahB zO] at h1,h2,h3⟩
 ·rcases hb with⟨i,hi,e⟩|⟨t,u,z,h1,h2,e⟩
  ·exact .inl ⟨i,by simp;omega,e⟩
  ·exact .inr ⟨t,u,z,by rw[ahB (aht.1 h1).1];exact h1,h2,e⟩
theorem aq.drop {r:AV}(h:aq P f args H T (Is r (H++rH) (T++rT)))(hb:Below H.length T.length (cL r)):aq P f args H T (Is (cL r) H T):=by
 refine⟨h.1,λL w ca hc hl hr=>(h.2 L w ca hc hl hr).mono ?_⟩;rintro e w' ⟨r',H',T',L',cv,⟨e1,e2,e3⟩,rfl,cY,dO,dI⟩;subst e1;subst e2;subst e3;refine⟨_,H,T,L',cv,⟨rfl,rfl,rfl⟩,rfl,cz.front P cY hc.je,?_,dI.front (ahv _) (ahv _)⟩;have:=(dO.cL).drop hb;simpa using this
def aq.cut {r0:AV}(H1:List aA)(T1:au)(hl:H.length<=H1.length)(ht:T.length<=T1.length)(ho:bM H T->bM H1 T1)(hb:Below H1.length T1.length r0)
  (h:aq P f args H T (λr H' T'=>(∃rH,H'=H1++rH)/\(∃rT,T'=T1++rT)/\(r=r0\/cL r=r0))):aq P f args H T (Is r0 H1 T1):=by
 refine⟨h.1,λL w ca hc jY hr=>(h.2 L w ca hc jY hr).mono ?_⟩;rintro e w' ⟨r',H',T',L',cv,⟨⟨rH,e1⟩,⟨rT,e2⟩,e3⟩,rfl,cY,dO,dI⟩;subst e1;subst e2;refine⟨_,H1,T1,L',cv,⟨rfl,rfl,rfl⟩,rfl,cz.front P cY (ho hc.je),?_,dI.front hl ht⟩;have mA:bt L' (H1++rH).length (T1++rT) w' r0 cv:=by
  rcases e3 with e3|e3
  ·rw[<-e3];exact dO
  ·rw[<-e3];exact dO.cL
 have:=mA.drop hb;simpa using this
def aq.bK {r0:AV}(h:aq P f args H T (λr H' T'=>(∃rH,H'=H++rH)/\(∃rT,T'=T++rT)/\(r=r0\/cL r=r0)))(hb:Below H.length T.length r0):aq P f args H T (Is r0 H T):=
 aq.cut H T (ahv _) (ahv _) id hb h
def cz.Fb (h:cz L H T w){b k:Nat}(hb:b<w.heap.size)(hw:¬Wr L H.length T b)(hk:L.m b<=k):cz (L.bZ b k) H T w:=by
 have hm:∀x,L.m x<=(L.bZ b k).m x:=by
  intro x;show L.m x<=if x=b then k else L.m x
  split
  ·rename_i e;rw[e];exact hk
  ·exact ahv _
 have kp:dh L H.length T w (L.bZ b k) H.length T w:=⟨ahv _,λ_ _=>rfl,λt u z h=>⟨u,h,ahv _,λ_=>rfl⟩,hm,λ_ _ _=>rfl,rfl⟩
 refine⟨λi x hx=>?_,h.inj,λt u z ht=>?_,h.pG,h.kY,λx hx=>?_,h.gl.keep hm (λ_ _ _=>rfl)⟩
 ·have hi:=(aht.1 hx).1;refine(h.box i x hx).stay kp hi rfl λh5=>?_;show (if L.bW i=b then k else L.m (L.bW i))=0;rw[ahC (λe=>hw (.inl ⟨i,hi,e⟩))];exact h5
 ·obtain⟨h1,h2⟩:=h.tok t u z ht;refine⟨h1,λhs=>?_⟩;obtain⟨c,e,fr,g1,g2,g3,g4⟩:=h2 hs;refine⟨c,e,fr,g1,g2,g3,?_⟩;show (if (L.eF t).b=b then k else L.m (L.eF t).b)<=_;rw[ahC (λe=>hw (.inr ⟨t,u,z,ht,hs,e⟩))];exact g4
 ·show (if x=b then k else L.m x)=0;rw[ahC zO];exact h.mz x hx
def aq.freeze {n:Nat}{vs:List AV}(h:aq P f args H T (Is (.cV H.length 0 n) (H++[.cells vs]) T))(hb:aL H.length T.length vs):aq P f args H T (Is (.sl n vs .none) H T):=by
 refine⟨h.1,λL w ca hc hl hr=>(h.2 L w ca hc hl hr).mono ?_⟩;rintro e w' ⟨r',H',T',L',cv,⟨e1,e2,e3⟩,rfl,cY,dO,dI⟩;have e3':=e3.symm;subst e1;subst e2;subst e3';obtain⟨cap,rfl,cK,bp⟩:=dO.kD;have r8:=cY.box H.length (.cells vs) zS;have Sj:=r8.lt;obtain⟨c,t,fr,g1,g2,g3,wC,g4,g5⟩:=r8;have IJ:cz L' H T w':=cz.front (rT:=[]) P (zU cY) hc.je;have II:¬Wr L' H.length T (L'.bW H.length):=by
  rintro (⟨i,hi,e⟩|⟨t,u,z,ht,hs,e⟩)
  ·have:=cY.inj i H.length (by simp;omega) zS e;omega
  ·exact cY.kY t u z H.length ht hs zS e
 have pn:=IJ.Fb (k:=vs.length) Sj II zO;have e1:Ev H.length T.length L H.length T w L' H.length T w':=by
  have:=dI;have h2:=Ev.front (H:=H) (rH:=[.cells vs]) (T:=T) (rT:=[]) (L:=L') (w:=w') (L0:=L) (w0:=w) (H0:=H) (T0:=T) (nb:=H.length) (tb:=T.length) (zU dI) (ahv _) (ahv _);exact h2
 have kp:dh L' H.length T w' (L'.bZ (L'.bW H.length) vs.length) H.length T w':=by
  refine⟨ahv _,λ_ _=>rfl,λt u z h=>⟨u,h,ahv _,λ_=>rfl⟩,λx=>?_,λ_ _ _=>rfl,rfl⟩;show L'.m x<=if x=L'.bW H.length then vs.length else L'.m x
  split
  ·rename_i e;rw[e,g5];exact ahE _
  ·exact ahv _
 refine⟨_,H,T,L'.bZ (L'.bW H.length) vs.length,_,⟨rfl,rfl,rfl⟩,rfl,pn,?_,?_⟩
 ·have VE:cS L' H.length T w' vs c.toList:=by
   refine⟨by simpa using g3,λj hj=>?_,λj hj bU=>?_⟩
   ·have:=wC j (zU hj);rw[aiv];exact this
   ·have:=(g4 j hj (by simpa using bU)).drop (hb _ (ah2 hj));rw[ahO] at this;rw[aiv];exact this
  refine bt.nr cK ?_ (VE.keep kp) (λj hj=>?_) trivial
  ·show 0+vs.length<=if L'.bW H.length=L'.bW H.length then vs.length else _
   rw[ahF rfl];omega
  ·rw[gI g1];simp
 ·exact⟨e1.n,e1.bW,e1.tok,e1.t,λb=>ahA (e1.m b) (kp.m b),e1.uh,e1.size,e1.frame,e1.wr,e1.os,e1.tape,e1.output,e1.drawn,e1.dr⟩
theorem cz.own (h:cz L H T w)(u:Nat){z:Nat}(hz:0<z):cz (L.bE T.length ⟨0,0,0⟩) H (T++[(u,z)]) w:=
 h.oQ ⟨0,0,0⟩ u z (λh=>by simp at h) ⟨hz,λh=>by simp[Lay.bE] at h⟩
theorem Ev.own (u z:Nat):Ev H.length T.length L H.length T w (L.bE T.length ⟨0,0,0⟩) H.length (T++[(u,z)]) w:=
 (Ev.refl (ahv _) (ahv _)).oQ (λh=>by simp at h)
theorem bt.own {n:Nat}{cs:List AV}{c:Value}{z:Nat}(h:bt L H.length T w (.sl n cs .full) c):bt (L.bE T.length ⟨0,0,0⟩) H.length (T++[(cs.length,z)]) w (.sl n cs (.own T.length)) c:=by
 have hk:=(h.cL).keep (Ev.own (H:=H) (T:=T) (L:=L) (w:=w) cs.length z).keeps;obtain⟨a,cap,rfl,cK,ht,_⟩:=h.fN;have tok:∀a',mv (L.bE T.length ⟨0,0,0⟩) (T++[(cs.length,z)]) (.own T.length) n cs.length a' cap:=λa'=>⟨cs.length,z,zS,ahv _,λ_=>.inl ht⟩
 simp only[Am.cL] at hk;obtain⟨a',lQ,e1,jH,_,Nu⟩:=hk.fN
 cases e1
 rcases Nu with⟨e2,e3⟩|⟨b,base,cv,e2,g1,g2,g3⟩
 ·subst e2;subst e3;exact .zF _ _ _ (tok _)
 ·subst e2;exact bt.nr jH g1 g2 g3 (tok _)
theorem aq.bR {a:AV}{as:List AV}{Q:AV->List aA->au->Prop}(h:aq P f (cL a::as) H T Q):aq P f (a::as) H T Q:=by
 refine⟨h.1,λL w ca hc hl hr=>h.2 L w ca hc hl (λj hj bU=>?_)⟩
 cases j with
 |zero=>exact(hr 0 zS bU).cL
 |succ j=>exact hr (j+1) hj bU
theorem aq.mC {a b:AV}{as:List AV}{Q:AV->List aA->au->Prop}(h:aq P f (a::cL b::as) H T Q):aq P f (a::b::as) H T Q:=by
 refine⟨h.1,λL w ca hc hl hr=>h.2 L w ca hc hl (λj hj bU=>?_)⟩
 match j,hj with
 |0,_=>exact hr 0 zS bU
 |1,_=>exact(hr 1 zS bU).cL
 |j+2,hj=>exact hr (j+2) hj bU
def ki {C:Cx}{c:Code}{Q:Exit->St->Prop}{s:St}(t:Nat)(n z:Nat)(cs:List AV)(hz:0<z)(ht:bO s.e t=.sl n cs .full)(h:AW C c Q ⟨mr s.e t (.sl n cs (.own s.T.length)),s.H,s.T++[(cs.length,z)]⟩):AW C c Q s:=by
 intro L w a hc;have ev:=Ev.own (H:=s.H) (T:=s.T) (L:=L) (w:=w) cs.length z;refine wp_mono (h (L.bE s.T.length ⟨0,0,0⟩) w a ⟨hc.nb,by simp;have:=hc.tb;omega,hc.nD.own _ hz,hc.size,hc.defers,λt'=>?_⟩) λ_ _ _ k=>cN.step (s1:=⟨mr s.e t (.sl n cs (.own s.T.length)),s.H,s.T++[(cs.length,z)]⟩) (ev.mono hc.nb hc.tb) k
 by_cases h1:t=t'
 ·subst h1;rw[cU];have:=hc.env t;rw[ht] at this;exact this.own
 ·rw[bJ _ _ _ _ h1];exact(hc.env t').keep ev.keeps
def aq.is {r r':AV}{H' H'':List aA}{T' T'':au}(h:aq P f args H T (Is r H' T'))(h1:r=r')(h2:H'=H'')(h3:T'=T''):aq P f args H T (Is r' H'' T''):=by subst h1;subst h2;subst h3;exact h
end
theorem Below.more {n n' t t':Nat}{v:AV}(h:Below n t v)(hn:n<=n')(ht:t<=t'):Below n' t' v:=by
 induction h with
 |top=>exact .top
 |bool b=>exact .bool b
 |int k x=>exact .int k x
 |str s=>exact .str s
 |gq=>exact .gq
 |ptr i o h=>exact .ptr i o (aiC h hn)
 |eB cs o h ih=>exact .eB cs o ih
 |sl m cs tg h hx ih=>exact .sl m cs tg ih (λx e=>aiC (hx x e) ht)
 |cV i o m h=>exact .cV i o m (aiC h hn)
 |bQ i m cap h=>exact .bQ i m cap (aiC h hn)
 |aP i h=>exact .aP i (aiC h hn)
 |fn f a b h1 h2 Vy Vx=>exact .fn f a b Vy Vx
 |jD=>exact .jD
 |nG=>exact .nG
 |Bm=>exact .Bm
 |agg cs h ih=>exact .agg cs ih
 |dn cs h ih=>exact .dn cs ih
def bM.UL {H:List aA}{T:au}{b:aA}(h:bM H T)(hv:aL (H.length+1) T.length b.Bx):bM (H++[b]) T:=by
 intro i us hi v hm;rw[ahw,ain];rcases ahD i H.length with bp|oG
 ·rw[ahB bp] at hi;exact(h i us hi v hm).more zO (ahv _)
 ·have:i=H.length:=by have:=(aht.1 hi).1;simp at this;omega
  subst this;simp at hi;subst hi;exact hv v hm
def bM.snoc {H:List aA}{T:au}{vs:List AV}(h:bM H T)(hv:aL (H.length+1) T.length vs):bM (H++[.cells vs]) T:=h.UL hv
def bM.S0 {H:List aA}{T:au}{m n:Nat}{seen:List Nat}(h:bM H T):bM (H++[.mX m n seen]) T:=h.UL (λv hm=>by simp at hm)
def bM.fS {H:List aA}{T T':au}(h:bM H T)(ht:T.length<=T'.length):bM H T':=λi us hi v hm=>(h i us hi v hm).more (ahv _) ht
def bM.V2 {H:List aA}{T:au}{b:aA}{k:Nat}(h:bM H T)(hv:aL H.length T.length b.Bx):bM (H.set k b) T:=by
 intro i us hi v hm;rw[aiR]
 by_cases hk:k=i
 ·subst hk;have hl:=(aht.1 hi).1;rw[aiR] at hl;rw[ahZ hl] at hi
  injection hi with hi
  subst hi;exact hv v hm
 ·rw[ail hk] at hi;exact h i us hi v hm
theorem bM.set {H:List aA}{T:au}{vs:List AV}{k:Nat}(h:bM H T)(hv:aL H.length T.length vs):bM (H.set k (.cells vs)) T:=h.V2 hv
def bM.sg {H:List aA}{T:au}{es:List (cZ×AV)}{k:Nat}(h:bM H T)(hv:aL H.length T.length (es.map (·.2))):bM (H.set k (.map es)) T:=h.V2 hv
def bM.WS {H:List aA}{T:au}{m n:Nat}{seen:List Nat}{k:Nat}(h:bM H T):bM (H.set k (.mX m n seen)) T:=h.V2 (λv hm=>by simp at hm)
def ak {C:Cx}{e e':Env}{H H':List aA}{T T':au}(rH:List aA)(rT:au)(hH:H=H'++rH)(hT:T=T'++rT)(hn:C.nb<=H'.length)(ht:C.tb<=T'.length)(ho:bM H' T')(he:bA H'.length T'.length e e') :
  sW C ⟨e,H,T⟩ ⟨e',H',T'⟩:=⟨hn,ht,⟨rH,hH⟩,⟨rT,hT⟩,ho,My he⟩
def wk {C:Cx}{e e':Env}{H H':List aA}{T T':au}(ho:bM H' T')(he:bA H'.length T'.length e e':=by simp)(hn:C.nb<=H'.length:=by simp)(hH:H=H'++[]:=by simp)(hT:T=T'++[]:=by simp)(ht:C.tb<=T'.length:=by simp) :
  sW C ⟨e,H,T⟩ ⟨e',H',T'⟩:=ak [] [] hH hT hn ht ho he
section
variable {α : Type} (H l : List α) (k : Nat) (x : α)
@[simp] theorem OJ:(H++l)[H.length+k]?=l[k]?:=by rw[ahP zO];congr 1;omega
@[simp] theorem Jn:(H++l)[H.length]?=l[0]?:=OJ H l 0
end
def az {D:wD}{next:List cg->List nE->Env->Prop}{o:Oper}{aR:List cg}{sts:List nE}{e:Env}{g:FuncId}{as:List AV}{H:List aA}{T:au}{v:AV}
  (h:aq D.C.P g as H T (Is v H T)) (hn:D.bL.contains aR.length=false) (k:Bw D next o aR sts e true v H T):Ov D next o aR sts e g as H T:=⟨v,H,T,h,λ_=>⟨rfl,rfl⟩,k⟩
def oA {D:wD}{next:List cg->List nE->Env->Prop}{o:Oper}{aR:List cg}{sts:List nE}{e:Env}{g:FuncId}{as:List AV}{H H':List aA}{T T':au}{v:AV}
  (h:aq D.C.P g as H T (Is v H' T')) (hn:D.bL.contains aR.length=true) (k:Bw D next o aR sts e true v H' T'):Ov D next o aR sts e g as H T:=⟨v,H',T',h,λhc=>absurd (hn.symm.trans hc) zD,k⟩
@[simp] theorem Yd {D:wD} {aR:List cg} {sts:List nE} {e:Env}:gn D [] aR sts e=(match sts.getLast? with
  |some (H,T,_)=>D.K ⟨e,H,T⟩
  |none=>False):=rfl
@[simp] theorem Xy {D:wD} {o:Oper} {r:List Oper} {aR:List cg} {sts:List nE} {e:Env}:gn D (o::r) aR sts e=(match sts.getLast? with
  |some (H,T,_)=>match o.guard with
   |none=>lD D (gn D r) o aR sts e H T
   |some (j,want)=>match pA D.all j e with
    |some b=>if b=some want then lD D (gn D r) o aR sts e H T else Bw D (gn D r) o aR sts e false (.dn []) H T
    |none=>False
  |none=>False):=rfl
attribute [simp] lD Bw xa Sp Se dT
@[simp] theorem Rs {a b:Int} (h1:0<=a) (h2:0<=b):(a+b).toNat=a.toNat+b.toNat:=zO
attribute [simp] List.getD_cons_zero List.getD_cons_succ List.getD_nil
attribute [simp] if_pos if_neg List.getElem?_cons_zero List.getElem?_cons_succ List.getElem?_nil
@[simp] theorem aa9 {a b:Int} (h:0<=b):a.fdiv b=a / b:=Int.fdiv_eq_ediv_of_nonneg a h
@[simp] theorem acH:IntKind.u64.bits=64:=rfl
@[simp] theorem aeH:IntKind.u8.bits=8:=rfl
@[simp] theorem acI:IntKind.i64.bits=64:=rfl
@[simp] theorem Xr:IntKind.u64.signed=false:=rfl
@[simp] theorem Xs:IntKind.i64.signed=true:=rfl
@[simp] theorem adJ:IntKind.u64.max=18446744073709551615:=rfl
end Go.Am
