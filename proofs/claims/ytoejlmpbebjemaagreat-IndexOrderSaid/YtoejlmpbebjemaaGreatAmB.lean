/- One operation over abstract values, and that it is what the model does. Regions, calls and whole functions over abstract states. The rules as they are used in a walk, encodings of lists, and the rewriting rules of the walk. Regions that draw their order, over abstract states: the walk goes in the order of the text; what other orders may do is asked beside it. Regions that draw their order: every order comes to what the text's order comes to. Steps that only the abstract states take: what is new is forgotten, a finished row becomes immutable, an empty end gets a token.
  Conditions: as the theorems say. -/
import Derived.Test.YtoejlmpbebjemaaGreatAmA
import Derived.Laws.StructEq
set_option linter.all false

open List (getD_eq_getElem?_getD map_toArray)
namespace Go.Am
open Go
section
variable {P : Program} {L : Lay} {H : List aA} {T : au} {w : World}
def cg.SC (h:cg L H T w)(s:List UInt8) :
  ∃L',cg L' (H++[.iter s 0]) T (w.alloc (.stringIter ⟨s.toArray⟩ 0))/\Ev H.length T.length L H.length T w L' (H++[aA.iter s 0]).length T (w.alloc (.stringIter ⟨s.toArray⟩ 0))/\L'.bS H.length=w.heap.size:=by
 have h1:=h.alloc (.stringIter ⟨s.toArray⟩ 0) 0;have e1:=Ev.alloc h (.stringIter ⟨s.toArray⟩ 0) 0;have H9:¬Wr (L.bW w.heap.size 0) H.length T w.heap.size:=h.wV (agE _);refine⟨(L.bW w.heap.size 0).dz H.length w.heap.size,h1.rO w.heap.size H9 (.iter s 0) (λhle=>by simp at hle;omega) ?_,Ev.rO (b:=w.heap.size) (aA.iter s 0) e1 (agE _),by simp[Lay.dz]⟩;show (w.alloc _).heap[((L.bW w.heap.size 0).dz H.length w.heap.size).bS H.length]?=_;rw[show ((L.bW w.heap.size 0).dz H.length w.heap.size).bS H.length=w.heap.size by simp[Lay.dz]];exact fI w _
def RF (P:Program)(t:TypeId)(x:AV):Option AV:=
 match P.underlying t,x with
 |some .string,.str s=>some (.int .i64 s.length)
 |some (.slice _),.sl n _ _=>some (.int .i64 n)
 |some (.slice _),.cN _ _ n=>some (.int .i64 n)
 |some (.slice _),.bJ _ n _=>some (.int .i64 n)
 |some (.array n _),_=>some (.int .i64 n)
 |_,_=>none
def Sc {t ty:TypeId}{x r:AV}{c:Value}{N:Nat}(h:RF P t x=some r)(hx:ba L N T w x c):∃cv,(Builtin.len_ #[t] ty #[c]).run P w=.ok cv w/\ba L N T w r cv:=by
 unfold RF at h
 split at h
 ·rename_i s hu
  cases h
  rw[hx.iN];exact⟨.int .i64 s.length,by rw[run_len_string w t ty _ hu];rfl,.int _ _⟩
 ·rename_i e n cs tg hu
  cases h
  obtain⟨a,cap,rfl,_⟩:=hx.fF;exact⟨.int .i64 n,by simp[Builtin.len_,run_underlying hu,goInt],.int _ _⟩
 ·rename_i e i o n hu
  cases h
  obtain⟨cap,rfl,_⟩:=hx.jX;exact⟨.int .i64 n,by simp[Builtin.len_,run_underlying hu,goInt],.int _ _⟩
 ·rename_i e i n cap hu
  cases h
  obtain⟨rfl,_⟩:=hx.ij;exact⟨.int .i64 n,by simp[Builtin.len_,run_underlying hu,goInt],.int _ _⟩
 ·rename_i n e hu
  cases h
  exact⟨.int .i64 n,by simp[Builtin.len_,run_underlying hu,goInt],.int _ _⟩
 ·cases h
def JO (mx:Bool):AV->List AV->Option AV
 |acc,[]=>some acc
 |.int k x,.int _ y::r=>JO mx (.int k (if mx then (if y>x then y else x) else (if y<x then y else x))) r
 |_,_=>none
def Yj (mx:Bool):List AV->Option AV
 |[]=>none
 |x::r=>JO mx x r
theorem OW {N:Nat}(mx:Bool):∀(l:List AV)(cs:List Value)(acc r:AV)(ca:Value),JO mx acc l=some r->ba L N T w acc ca->cs.length=l.length->(∀(j:Nat)(h:j<l.length)(h':j<cs.length),ba L N T w (l[j]'h) (cs[j]'h'))->
  ∃cv,(cs.foldlM (if mx then Builtin.max2 else Builtin.min2) ca).run P w=.ok cv w/\ba L N T w r cv:=by
 intro l
 induction l with
 |nil=>
  intro cs acc r ca h ha hl _;have:cs=[]:=ahe hl;subst this;simp only[JO,Option.some.injEq] at h;subst h;exact⟨ca,rfl,ha⟩
 |cons v l ih=>
  intro cs acc r ca h ha hl hr
  match cs,hl,hr with
  |c::cs,hl,hr=>
   have h0:=hr 0 (by simp) (by simp);simp only[ahC] at h0
   cases acc<;>cases v<;>simp only[JO,reduceCtorEq] at h
   rw[ha.dT,h0.dT];obtain⟨cv,g1,g2⟩:=ih cs _ r _ h (.int _ _) (by simpa using hl) (λj hj bQ=>by have:=hr (j+1) (by simpa using hj) (by simpa using bQ);simpa using this);refine⟨cv,?_,g2⟩;rw[List.foldlM_cons,<-g1]
   cases mx<;>rfl
theorem IE {N:Nat}{ty:TypeId}{ts:Array TypeId}(mx:Bool)(l:List AV)(cs:List Value)(r:AV)(h:Yj mx l=some r)(hl:cs.length=l.length)(hr:∀(j:Nat)(h:j<l.length)(h':j<cs.length),ba L N T w (l[j]'h) (cs[j]'h')) :
  ∃cv,((if mx then Builtin.max_ else Builtin.min_) ts ty cs.toArray).run P w=.ok cv w/\ba L N T w r cv:=by
 match l,cs,hl,hr,h with
 |v::l,c::cs,hl,hr,h=>
  have h0:=hr 0 (by simp) (by simp);simp only[ahC] at h0;obtain⟨cv,g1,g2⟩:=OW (P:=P) mx l cs v r c h h0 (by simpa using hl) (λj hj bQ=>by have:=hr (j+1) (by simpa using hj) (by simpa using bQ);simpa using this);refine⟨cv,?_,g2⟩;rw[<-g1]
  cases mx<;>rfl
 |[],[],_,_,h=>simp[Yj] at h
def pD (P:Program):List Field->List AV->List AV->Option Bool
 |[],_,_=>some true
 |f::fs,xs,ys=>
  if f.name = "_" then none else
  match P.underlying f.type,xs[f.offset]?,ys[f.offset]? with
  |some (.int _),some (.int k a),some (.int k' b)=>if k=k' then (pD P fs xs ys).map ((a==b)&&·) else none
  |some .string,some (.str a),some (.str b)=>(pD P fs xs ys).map ((a==b)&&·)
  |some .bool,some (.bool a),some (.bool b)=>(pD P fs xs ys).map ((a==b)&&·)
  |_,_,_=>none
def pO (P:Program)(t:TypeId)(x y:AV):Option Bool:=
 match x,y with
 |.agg xs,.agg ys=>if P.stoodInHeld t=false/\P.eqGuardType P.depth t=false then
   match P.underlying t with
   |some (.struct fs)=>pD P fs.toList xs ys
   |_=>none
  else none
 |_,_=>none
def It (P:Program)(op:BinOp)(t:TypeId)(x y:AV):Option AV:=
 match op with
 |.eql=>(pO P t x y).map .bool
 |.neq=>(pO P t x y).map λb=>.bool (!b)
 |_=>none
def cJ.at {N:Nat}{xs:List AV}{c:List Value}{i:Nat}{v:AV}(h:cJ L N T w xs c)(hi:xs[i]?=some v):∃x,c[i]?=some x/\ba L N T w v x:=by
 obtain⟨aZ,rfl⟩:=agC.1 hi;have kr:i<c.length:=by rw[h.1];exact aZ
 exact⟨c[i],agD kr,h.2.2 i aZ kr⟩
theorem G8 {N:Nat}(d:Nat){xs ys:List AV}{cx cy:Array Value}(hx:cJ L N T w xs cx.toList)(hy:cJ L N T w ys cy.toList):∀(fs:List Field)(b:Bool),pD P fs xs ys=some b->(Op.eqFields (d+1) cx cy fs).run P w=.ok b w:=by
 intro fs
 induction fs with
 |nil=>intro b h;cases h;rfl
 |cons f fs ih=>
  intro b h;unfold pD at h
  split at h
  ·cases h
  ·rename_i hn;have fin:∀(v u:Value)(r:Bool),jP P f.type=some false->cx.toList[f.offset]?=some v->cy.toList[f.offset]?=some u->(Op.equalIn (d+1) f.type v u).run P w=.ok r w->
     (pD P fs xs ys).map (r&&·)=some b->(Op.eqFields (d+1) cx cy (f::fs)).run P w=.ok b w:=by
    intro v u r ha hv hu he hm;obtain⟨b',yF,rfl⟩:=air.1 hm;have hv':cx[f.offset]?=some v:=by simpa using hv
    have hu':cy[f.offset]?=some u:=by simpa using hu
    have p1:(part f.type cx f.offset).run P w=.ok v w:=by
     simp only[part,Sem.run_bind,ly ha,Result.andThen_ok,ahE,aiq,hv'];rfl
    have p2:(part f.type cy f.offset).run P w=.ok u w:=by
     simp only[part,Sem.run_bind,ly ha,Result.andThen_ok,ahE,aiq,hu'];rfl
    simp only[Op.eqFields,agN hn,Sem.run_bind,p1,p2,Result.andThen_ok,he]
    cases r
    ·simp
    ·simpa using ih b' yF
   split at h
   ·rename_i hu h1 h2
    split at h
    ·rename_i hk;subst hk;obtain⟨v,v1,v2⟩:=hx.at h1;obtain⟨u,u1,u2⟩:=hy.at h2;rw[v2.dT] at v1;rw[u2.dT] at u1;exact fin _ _ _ (by simp[jP,hu]) v1 u1 (run_equalIn_int w d _ _ _ _ _ hu) h
    ·cases h
   ·rename_i hu h1 h2;obtain⟨v,v1,v2⟩:=hx.at h1;obtain⟨u,u1,u2⟩:=hy.at h2;rw[v2.iN] at v1;rw[u2.iN] at u1;refine fin _ _ _ (by simp[jP,hu]) v1 u1 ?_ h;rw[run_equalIn_string w d _ _ _ hu,toList_mk,toList_mk]
   ·rename_i hu h1 h2;obtain⟨v,v1,v2⟩:=hx.at h1;obtain⟨u,u1,u2⟩:=hy.at h2;rw[v2.jx] at v1;rw[u2.jx] at u1;exact fin _ _ _ (by simp[jP,hu]) v1 u1 (run_equalIn_bool' w d _ _ _ hu) h
   ·cases h
theorem KT {N:Nat}{op:BinOp}{t:TypeId}{x y r:AV}{cx cy:Value}(h:It P op t x y=some r)(hx:ba L N T w x cx)(hy:ba L N T w y cy)(ox oy:Operand) :
  ∃cv,(eqGuard op t ox oy cx cy >>= λ_=>binOp op t cx cy).run P w=.ok cv w/\∀(L:Lay)(N:Nat)(T:au)(w':World),ba L N T w' r cv:=by
 have key:∀b,pO P t x y=some b->∃xs ys,cx=.agg xs/\cy=.agg ys/\P.eqGuardType P.depth t=false/\(Op.equalIn 10000 t (.agg xs) (.agg ys)).run P w=.ok b w:=by
  intro b hb;unfold pO at hb
  split at hb
  ·rename_i xs ys
   split at hb
   ·rename_i hg
    split at hb
    ·rename_i fs hu
     cases hx with
     |agg _ cxa a1 a2 a3=>
      cases hy with
      |agg _ cya b1 b2 b3=>
       refine⟨cxa,cya,rfl,rfl,hg.2,?_⟩;have hf:P.fieldsOf t=fs:=by simp[Program.fieldsOf,hu]
       rw[run_equalIn_struct w 9999 t cxa cya (by rw[hf];exact hu) hg.1,hf];exact G8 9998 (cJ.Bc (.agg _ _ a1 a2 a3)) (cJ.Bc (.agg _ _ b1 b2 b3)) _ _ hb
    ·cases hb
   ·cases hb
  ·cases hb
 unfold It at h
 split at h
 ·obtain⟨b,hb,rfl⟩:=air.1 h;obtain⟨xs,ys,rfl,rfl,hg,hr⟩:=key b hb;refine⟨.bool b,?_,λ_ _ _ _=>.bool _⟩;simp only[Sem.run_bind,run_eqGuard_agg w _ _ _ _ _ _ hg,Result.andThen_ok,run_eql_struct,hr]
 ·obtain⟨b,hb,rfl⟩:=air.1 h;obtain⟨xs,ys,rfl,rfl,hg,hr⟩:=key b hb;refine⟨.bool (!b),?_,λ_ _ _ _=>.bool _⟩;simp only[Sem.run_bind,run_eqGuard_agg w _ _ _ _ _ _ hg,Result.andThen_ok,run_neq_struct,hr]
 ·cases h
def Bp:Operand->Operand->Bool
 |.tmp a,.tmp b=>a==b
 |.const (.int k a),.const (.int k' b)=>k==k'&&a==b
 |_,_=>false
abbrev Res:=Option (AV×List aA×au)
def xd (P:Program)(H:List aA)(t:TypeId)(x:AV):Option (List aA):=
 match P.underlying t,x with
 |some (.slice e),.cN i o n=>if n=0 then some H else match H[i]?,bc P e with
  |some (.cells vs),some zs=>if 0<zs.length/\o+n*zs.length<=vs.length then some (H.set i (.cells (setMany vs o (gh zs (n*zs.length))))) else none
  |_,_=>none
 |_,_=>none
def KP {t ty:TypeId}{x:AV}{c:Value}{H':List aA}(hc:cg L H T w)(h:xd P H t x=some H')(hx:ba L H.length T w x c) :
  ∃cv w' L',(Builtin.clear_ #[t] ty #[c]).run P w=.ok cv w'/\cg L' H' T w'/\ba L' H'.length T w' .top cv/\Ev H.length T.length L H.length T w L' H'.length T w':=by
 unfold xd at h
 split at h
 ·rename_i e i o n hu;obtain⟨cap,rfl,cE,aZ⟩:=hx.jX
  split at h
  ·rename_i hn
   cases h
   subst hn;exact⟨.tuple #[],w,L,by simp[Builtin.clear_,run_underlying hu],hc,.top _,Ev.refl (agE _) (agE _)⟩
  ·rename_i hn
   split at h
   ·rename_i vs zs hi hz
    split at h
    ·rename_i hle
     cases h
     obtain⟨inf,z,h1,h2,h3,h4⟩:=eF (L:=L) (T:=T) (w:=w) (N:=H.length) hz;have gu:z.cells.size=zs.length:=by have:=h3.1;simpa using this
     have hr:=qF (n:=n*zs.length) h3 (.inl hle.1);have hzc:(Builtin.zeroCells z.cells n).toList=(madeCells z.cells (n*zs.length)).toList:=by rw[<-gu];rfl
     rw[<-hzc] at hr;have hlen:(gh zs (n*zs.length)).length=n*zs.length:=by simp[gh]
     obtain⟨w',gA,cR,dB⟩:=nh (P:=P) i o (gh zs (n*zs.length)) (Builtin.zeroCells z.cells n).toList 0 H w vs hc hr hi (by rw[hlen];omega);obtain⟨m,rfl⟩:∃m,n=m+1:=⟨n-1,by omega⟩
     refine⟨.tuple #[],w',L,?_,cR,.top _,dB⟩;simp[Builtin.clear_,run_underlying hu,j8 h1 h2,gA]
    ·cases h
   ·cases h
 ·cases h
def tA (P:Program)(b:Builtin)(ts:Array TypeId)(args:List AV)(H:List aA)(T:au):Res:=
 match b,ts.toList,args with
 |.len,[t],[x]=>(RF P t x).map (·,H,T)
 |.append,[t,t2],[s,x]=>match s with
  |.cN i o n=>(Iu P H t t2 (.cN i o n) x).map (·,H,T)
  |s=>(sP P H T t t2 s x).map fun(v,T')=>(v,H,T')
 |.max,_,l=>(Yj true l).map (·,H,T)
 |.min,_,l=>(Yj false l).map (·,H,T)
 |.clear,[t],[x]=>(xd P H t x).map λH'=>(.top,H',T)
 |_,_,_=>none
def Iq (P:Program)(op:BinOp)(t:TypeId)(y:Operand)(ax:AV):Option AV:=
 match y with
 |.const .nilIface=>match P.underlying t,ax,op with
  |some (.interface _),.mR,.eql=>some (.bool true)
  |some (.interface _),.mR,.neq=>some (.bool false)
  |some (.interface _),.AM,.eql=>some (.bool false)
  |some (.interface _),.AM,.neq=>some (.bool true)
  |_,_,_=>none
 |_=>none
def KS {op:BinOp}{t:TypeId}{x y:Operand}{ax r:AV}{a:Act}{N:Nat}(h:Iq P op t y ax=some r)(hx:ba L N T w ax (a.eval x)) :
  ∃cv,(eqGuard op t x y (a.eval x) (a.eval y) >>= λ_=>binOp op t (a.eval x) (a.eval y)).run P w=.ok cv w/\∀(L:Lay)(N:Nat)(T:au)(w':World),ba L N T w' r cv:=by
 have g1:∀op,(eqGuard op t x (.const .nilIface) .nilIface .nilIface).run P w=.ok () w:=λop=>by
  unfold eqGuard
  cases op<;>simp
 have g2:∀op t' v,(eqGuard op t x (.const .nilIface) (.iface t' v) .nilIface).run P w=.ok () w:=λop t' v=>by
  unfold eqGuard
  cases op<;>simp
 unfold Iq at h
 split at h
 ·have e2:a.eval (.const .nilIface)=.nilIface:=rfl;rw[e2]
  split at h
  ·rename_i ms hu
   cases h
   rw[hx.DO,Sem.run_bind,g1,Result.andThen_ok];exact⟨_,lg t _ _ true .eql (.inl rfl) rfl rfl (λd=>by simp only[Op.equalIn,Sem.run_bind,run_underlying hu,Result.andThen_ok];rfl),λ_ _ _ _=>.bool _⟩
  ·rename_i ms hu
   cases h
   rw[hx.DO,Sem.run_bind,g1,Result.andThen_ok];exact⟨_,lg t _ _ true .neq (.inr rfl) rfl rfl (λd=>by simp only[Op.equalIn,Sem.run_bind,run_underlying hu,Result.andThen_ok];rfl),λ_ _ _ _=>.bool _⟩
  ·rename_i ms hu
   cases h
   obtain⟨t',v,e⟩:=hx.I0;rw[e,Sem.run_bind,g2,Result.andThen_ok];exact⟨_,lg t _ _ false .eql (.inl rfl) rfl rfl (λd=>by simp only[Op.equalIn,Sem.run_bind,run_underlying hu,Result.andThen_ok];rfl),λ_ _ _ _=>.bool _⟩
  ·rename_i ms hu
   cases h
   obtain⟨t',v,e⟩:=hx.I0;rw[e,Sem.run_bind,g2,Result.andThen_ok];exact⟨_,lg t _ _ false .neq (.inr rfl) rfl rfl (λd=>by simp only[Op.equalIn,Sem.run_bind,run_underlying hu,Result.andThen_ok];rfl),λ_ _ _ _=>.bool _⟩
  ·cases h
 ·cases h
def ME (P:Program)(o:Oper)(e:Env)(H:List aA)(T:au):Res:=
 match o.op with
 |.move x=>some (bR e x,H,T)
 |.assign x=>some (bR e x,H,T)
 |.pick c a b=>match bR e c with
  |.bool t=>some (if t then bR e a else bR e b,H,T)
  |_=>none
 |.alloc t=>(bc P t).map λzs=>(.ptr H.length 0,H++[.cells zs],T)
 |.box _ x=>(Va (bR e x)).map λxs=>(.ptr H.length 0,H++[.cells xs],T)
 |.build t ps=>(Bi P t (ps.toList.map fun(x:Nat×Operand)=>(x.1,bR e x.2))).map (·,H,T)
 |.buildSlice t n ps=>(mK P t n (ps.toList.map fun(x:Nat×Operand)=>(x.1,bR e x.2))).map (·,H,T)
 |.load t a=>match No H (bR e a) with
  |some (vs,o)=>(qZ P t vs o).map (·,H,T)
  |none=>none
 |.store t a x=>match bR e a,Va (bR e x) with
  |.ptr i o,some xs=>match H[i]? with
   |some (.cells vs)=>if xs.length=P.cellsOf t/\o+xs.length<=vs.length/\(P.underlying t).isSome=true then some (.top,H.set i (.cells (setMany vs o xs)),T) else none
   |_=>none
  |_,_=>none
 |.nilCheck x=>match bR e x with
  |.ptr i o=>some (.ptr i o,H,T)
  |.dZ cs o=>some (.dZ cs o,H,T)
  |.fn f a b=>some (.fn f a b,H,T)
  |_=>none
 |.binOp op t x y _=>match Iq P op t y (bR e x) with
  |some r=>some (r,H,T)
  |none=>if ue P t (bR e x)=true then (RH op (bR e x) (bR e y)).map (·,H,T) else (It P op t (bR e x) (bR e y)).map (·,H,T)
 |.unOp u _ x=>(aun u (bR e x)).map (·,H,T)
 |.convert s d x=>match P.underlying s,P.underlying d,bR e x with
  |some .string,some (.slice el),.str b=>match P.underlying el with
   |some (.int .u8)=>some (.sl b.length (sr b) .none,H,T)
   |_=>none
  |_,_,_=>(Ir P H s d (bR e x)).map (·,H,T)
 |.makeFunc (.func f) first cz=>some (.fn f (first.toList.map (bR e)) (cz.toList.map (bR e)),H,T)
 |.makeSlice t l c=>match P.underlying t,bR e l,bR e c with
  |some (.slice el),.int _ a,.int _ b=>match bc P el with
   |some zs=>
    if 0<zs.length/\0<=b/\b.toNat*P.bytesOf el<=281474976710656/\b.toNat<=9223372036854775807/\0<P.cellsOf el then
     if Bp l c=true then some (.bJ H.length b.toNat b.toNat,H++[.cells (gh zs (b.toNat*P.cellsOf el))],T)
     else if a=0 then some (.sl 0 [] (.own T.length),H,T++[(0,P.cellsOf el)]) else none
    else none
   |none=>none
  |_,_,_=>none
 |.slice t x lo hi mx=>(Bf P t (bR e x) (lo.map (bR e)) (hi.map (bR e)) (mx.map (bR e))).map (·,H,T)
 |.fieldAddr t x f=>(oL P t (bR e x) f).map (·,H,T)
 |.field t x f=>(Bh P t (bR e x) f).map (·,H,T)
 |.indexAddr t x i=>(oK P t (bR e x) (bR e i)).map (·,H,T)
 |.index t x i=>(Bg P t (bR e x) (bR e i)).map (·,H,T)
 |.extract x i=>match bR e x with
  |.df vs=>if i<vs.length then some (vs.getD i .top,H,T) else none
  |_=>none
 |.range t x=>match bR e x with
  |.str s=>match P.underlying t with
   |some .string=>some (.ptr H.length 0,H++[.iter s 0],T)
   |_=>none
  |.aQ m=>match vK P t,H[m]? with
   |some _,some (.map es)=>some (.ptr H.length 0,H++[.mv m es.length []],T)
   |_,_=>none
  |_=>none
 |.makeMap _ none=>some (.aQ H.length,H++[.map []],T)
 |.lookup t x i ok=>match bR e x,vK P t,Ih (bR e i) with
  |.aQ m,some (kt,el),some k=>match H[m]?,pF P el with
   |some (.map es),some z=>if mE P kt k=true/\dn P kt es=true then some (iZ es k z ok,H,T) else none
   |_,_=>none
  |_,_,_=>none
 |.mapUpdate t m k x=>match bR e m,vK P t,Ih (bR e k) with
  |.aQ i,some (kt,_),some kk=>match H[i]? with
   |some (.map es)=>if mE P kt kk=true/\dn P kt es=true then some (.top,H.set i (.map (kO es kk (bR e x))),T) else none
   |_=>none
  |_,_,_=>none
 |.entry x=>match bR e x with
  |.ptr i 0=>match H[i]? with
   |some (.mv m n seen)=>match H[m]?,seen.getLast? with
    |some (.map es),some j=>if n=es.length then (es[j]?).map λkv=>(.df [kv.1.av,kv.2],H,T) else none
    |_,_=>none
   |_=>none
  |_=>none
 |.next x true=>match bR e x with
  |.ptr i 0=>match H[i]? with
   |some (.iter s pos)=>if pos<s.length then some (.df [.bool true,.int .i64 pos,.int .i32 (Utf8.decode ⟨s.toArray⟩ pos).1],H.set i (.iter s (pos+(Utf8.decode ⟨s.toArray⟩ pos).2)),T)
    else some (.df [.bool false],H,T)
   |_=>none
  |_=>none
 |.call { callee:=.builtin b,args,argTypes }=>tA P b argTypes (args.toList.map (bR e)) H T
 |_=>none
def Good.of {x:Sem Value}{y:Sem Next}{r:AV}{H':List aA}{T':au}(hy:y=(do pure (Next.value (<-x))))(h:∃cv w' L',x.run P w=.ok cv w'/\cg L' H' T' w'/\ba L' H'.length T' w' r cv/\Ev H.length T.length L H.length T w L' H'.length T' w') :
  Good P y H T L w r H' T':=by
 obtain⟨cv,w',L',h1,h2,h3,h4⟩:=h;exact⟨.value cv,cv,w',L',by rw[hy];simp only[Sem.run_bind,h1,Result.andThen_ok];rfl,.inl rfl,h2,h3,h4⟩
def Good.same {x:Sem Value}{y:Sem Next}{r:AV}(hy:y=(do pure (Next.value (<-x))))(hc:cg L H T w)(h:∃cv,x.run P w=.ok cv w/\ba L H.length T w r cv):Good P y H T L w r H T:=by
 obtain⟨cv,h1,h2⟩:=h;exact Good.of hy ⟨cv,w,L,h1,hc,h2,Ev.refl (agE _) (agE _)⟩
def uv {a:Act}{e:Env}(he:fm L H.length T w e a)(ps:Array (Nat×Operand)) :
  (ps.map fun(x:Nat×Operand)=>match x with|(i,x)=>(i,a.eval x)).size=(ps.toList.map fun(x:Nat×Operand)=>(x.1,bR e x.2)).length/\
  ∀(j:Nat) (h:j<(ps.toList.map fun(x:Nat×Operand)=>(x.1,bR e x.2)).length) (h':j<(ps.map fun(x:Nat×Operand)=>match x with|(i,x)=>(i,a.eval x)).toList.length),
   ((ps.toList.map fun(x:Nat×Operand)=>(x.1,bR e x.2))[j]'h).1=((ps.map fun(x:Nat×Operand)=>match x with|(i,x)=>(i,a.eval x)).toList[j]'h').1/\
   ba L H.length T w ((ps.toList.map fun(x:Nat×Operand)=>(x.1,bR e x.2))[j]'h).2 ((ps.map fun(x:Nat×Operand)=>match x with|(i,x)=>(i,a.eval x)).toList[j]'h').2:=by
 refine⟨by simp,λj h h'=>?_⟩;simp only[ahv,Array.toList_map];exact⟨by first|rfl|trivial,he.bR _⟩
theorem BW {b:Builtin}{ts:List TypeId}{ty:TypeId}{A:List AV}{B:List Value}{cst:Array Bool}{r:AV}{H':List aA}{T':au}(hc:cg L H T w)(h:tA P b ts.toArray A H T=some (r,H',T'))
  (hl:B.length=A.length) (hr:∀(j:Nat)(h:j<A.length)(h':j<B.length),ba L H.length T w (A[j]'h) (B[j]'h')):Good P (builtin b ts.toArray ty cst B.toArray) H T L w r H' T':=by
 have one:∀{x:Option AV} {y:AV×List aA×au},x.map (λv=>(v,H,T))=some y->∃v,x=some v/\y=(v,H,T):=by
  intro x y hx
  cases x with
  |none=>cases hx
  |some v=>exact⟨v,rfl,by cases hx;rfl⟩
 unfold tA at h
 split at h
 ·rename_i t x Ct;have rB:ts=[t]:=Ct;subst rB;obtain⟨v,hv,e1⟩:=one h
  cases e1
  match B,hl,hr with
  |[c],_,hr=>
   have h0:=hr 0 (by simp) (by simp);simp only[ahC] at h0;exact Good.same (x:=Builtin.len_ #[t] ty #[c]) rfl hc (Sc hv h0)
 ·rename_i t t2 s x Ct;have rB:ts=[t,t2]:=Ct;subst rB
  split at h
  ·rename_i i o n;obtain⟨v,hv,e1⟩:=one h
   cases e1
   match B,hl,hr with
   |[c,d],_,hr=>
    have h0:=hr 0 (by simp) (by simp);have h1:=hr 1 (by simp) (by simp);simp only[ahC,aiE] at h0 h1;exact Good.same (x:=Builtin.append_ #[t,t2] ty #[c,d]) rfl hc (OU hc hv h0 h1)
  ·cases ha:sP P H T t t2 s x with
   |none=>rw[ha] at h;cases h
   |some y=>
    obtain⟨v,Tn⟩:=y;rw[ha] at h
    cases h
    match B,hl,hr with
    |[c,d],_,hr=>
     have h0:=hr 0 (by simp) (by simp);have h1:=hr 1 (by simp) (by simp);simp only[ahC,aiE] at h0 h1;exact Good.of (x:=Builtin.append_ #[t,t2] ty #[c,d]) rfl (G9 hc ha h0 h1)
 ·obtain⟨v,hv,e1⟩:=one h
  cases e1
  exact Good.same (x:=Builtin.max_ ts.toArray ty B.toArray) rfl hc (IE (P:=P) (ty:=ty) (ts:=ts.toArray) true _ B r hv hl hr)
 ·obtain⟨v,hv,e1⟩:=one h
  cases e1
  exact Good.same (x:=Builtin.min_ ts.toArray ty B.toArray) rfl hc (IE (P:=P) (ty:=ty) (ts:=ts.toArray) false _ B r hv hl hr)
 ·rename_i t x Ct;have rB:ts=[t]:=Ct;subst rB
  cases ha:xd P H t x with
  |none=>rw[ha] at h;cases h
  |some Hn=>
   rw[ha] at h
   cases h
   match B,hl,hr with
   |[c],_,hr=>
    have h0:=hr 0 (by simp) (by simp);simp only[ahC] at h0;exact Good.of (x:=Builtin.clear_ #[t] ty #[c]) rfl (KP hc ha h0)
 ·cases h
theorem AH {o:Oper}{e:Env}{a:Act}{r:AV}{H':List aA}{T':au}(hc:cg L H T w)(he:fm L H.length T w e a)(h:ME P o e H T=some (r,H',T')):Good P (execOp a.eval o) H T L w r H' T':=by
 obtain⟨dst,op,type,pos,after,guard⟩:=o;have one:∀{x:Option AV} {y:AV×List aA×au},x.map (λv=>(v,H,T))=some y->∃v,x=some v/\y=(v,H,T):=by
  intro x y hx
  cases x with
  |none=>cases hx
  |some v=>exact⟨v,rfl,by cases hx;rfl⟩
 cases op<;>simp only[ME,reduceCtorEq] at h
 case move x=>cases h;exact Good.now hc rfl (he.bR x)
 case assign x=>cases h;exact Good.now hc rfl (he.bR x)
 case pick c x y=>
  split at h
  ·rename_i t ht
   cases h
   have hb:=he.bR c;rw[ht] at hb;refine Good.same (x:=do pure (if<-asBool (a.eval c) then a.eval x else a.eval y)) (by simp[execOp]) hc ⟨if t then a.eval x else a.eval y,by rw[hb.jx];rfl,?_⟩
   cases t
   ·exact he.bR y
   ·exact he.bR x
  ·cases h
 case alloc t=>
  cases hz:bc P t with
  |none=>rw[hz] at h;cases h
  |some zs=>
   rw[hz] at h
   cases h
   obtain⟨i,z,hi,uR,hr,_⟩:=eF (L:=L) (N:=H.length) (T:=T) (w:=w) hz;obtain⟨L',h1,h2,h3⟩:=hc.rL z.cells t hr;refine Good.of (x:=Instr.alloc t true (.tuple #[])) rfl ⟨.pointer (some ⟨w.heap.size,0,none⟩),_,L',?_,h1,?_,h2⟩
   ·simp only[Instr.alloc,Sem.run_bind,j8 hi uR,Result.andThen_ok];rfl
   ·rw[<-h3];exact .ptr _ _ (by simp)
 case box t x=>
  cases hz:Va (bR e x) with
  |none=>rw[hz] at h;cases h
  |some xs=>
   rw[hz] at h
   cases h
   have hr:=BM hz (he.bR x);obtain⟨L',h1,h2,h3⟩:=hc.rL (a.eval x).cells t hr;refine Good.of (x:=Instr.box t (a.eval x)) rfl ⟨.pointer (some ⟨w.heap.size,0,none⟩),_,L',?_,h1,?_,h2⟩
   ·rfl
   ·rw[<-h3];exact .ptr _ _ (by simp)
 case build t ps=>
  obtain⟨v,hv,e1⟩:=one h
  cases e1
  obtain⟨g1,g2⟩:=uv he ps;exact Good.same rfl hc (run_build hv g1 g2)
 case buildSlice t n ps=>
  obtain⟨v,hv,e1⟩:=one h
  cases e1
  obtain⟨g1,g2⟩:=uv he ps;exact Good.of rfl (yi hc hv g1 g2)
 case load t x=>
  split at h
  ·rename_i vs o tO;obtain⟨v,hv,e1⟩:=one h
   cases e1
   obtain⟨b,base,cv,e2,hr,lV⟩:=yc hc (he.bR x) tO;obtain⟨c,h1,h2⟩:=vg (P:=P) hr lV hv;refine Good.same (x:=Instr.loadAt t (a.eval x)) rfl hc ⟨c,?_,h2⟩;rw[e2];exact h1
  ·cases h
 case store t x y=>
  split at h
  ·rename_i i o xs hx hy
   split at h
   ·rename_i vs hi
    split at h
    ·rename_i hb
     cases h
     obtain⟨hl,hle,hu⟩:=hb;obtain⟨d,hd⟩:=ahg.1 hu;have hp:=he.bR x;rw[hx] at hp;obtain⟨e2,aZ⟩:=hp.oB;have hr:=BM hy (he.bR y);obtain⟨w',h1,h2,h3⟩:=nh (P:=P) (L:=L) (T:=T) i o xs (a.eval y).cells.toList 0 H w vs hc hr hi (by simpa using hle);have gu:(a.eval y).cells.size=P.cellsOf t:=by have:=hr.1;simp at this;omega
     refine⟨.skip,undef,w',L,?_,.inr ⟨rfl,rfl⟩,h2,.top _,h3⟩;have:(Instr.storeAt t (a.eval x) (a.eval y)).run P w=.ok () w':=by
      rw[e2];simp only[Instr.storeAt,Instr.sureAddr,pure_bind,storeVar,Sem.run_bind,cP hd,Result.andThen_ok,gu,ne_eq,not_true_eq_false,aiq];exact h1
     simp only[execOp,Sem.run_bind,this,Result.andThen_ok];rfl
    ·cases h
   ·cases h
  ·cases h
 case nilCheck x=>
  have hp:=he.bR x
  split at h
  ·rename_i i o hx
   cases h
   rw[hx] at hp;obtain⟨e2,aZ⟩:=hp.oB;refine Good.now hc ?_ (e2▸hp);simp only[execOp,e2];rfl
  ·rename_i cs o hx
   cases h
   rw[hx] at hp;generalize XU:a.eval x=cx at hp
   cases hp with
   |dZ _ _ b base f hm hcc h1 hr=>
    refine Good.now hc ?_ (.dZ cs o b base f hm hcc h1 hr);simp only[execOp,XU];rfl
  ·rename_i f fa ca hx
   cases h
   rw[hx] at hp;generalize XU:a.eval x=cx at hp
   cases hp with
   |fn _ _ _ fv cv h1 h2 yv oO=>
    refine Good.now hc ?_ (.fn f fa ca fv cv h1 h2 yv oO);simp only[execOp,XU];rfl
  ·cases h
 case binOp op t x y yt=>
  split at h
  ·rename_i v hv
   cases h
   obtain⟨cv,h1,h2⟩:=KS hv (he.bR x);exact Good.same (x:=(do eqGuard op t x y (a.eval x) (a.eval y);binOp op t (a.eval x) (a.eval y))) rfl hc ⟨cv,h1,h2 _ _ _ _⟩
  split at h
  ·rename_i ht;obtain⟨v,hv,e1⟩:=one h
   cases e1
   obtain⟨cv,h1,h2⟩:=OZ t hv ht (he.bR x) (he.bR y) x y;exact Good.same (x:=(do eqGuard op t x y (a.eval x) (a.eval y);binOp op t (a.eval x) (a.eval y))) rfl hc ⟨cv,h1,h2 _ _ _ _⟩
  ·obtain⟨v,hv,e1⟩:=one h
   cases e1
   obtain⟨cv,h1,h2⟩:=KT hv (he.bR x) (he.bR y) x y;exact Good.same (x:=(do eqGuard op t x y (a.eval x) (a.eval y);binOp op t (a.eval x) (a.eval y))) rfl hc ⟨cv,h1,h2 _ _ _ _⟩
 case unOp u t x=>
  obtain⟨v,hv,e1⟩:=one h
  cases e1
  obtain⟨cv,h1,h2⟩:=Se (P:=P) hv (he.bR x);exact Good.same rfl hc ⟨cv,h1,h2 _ _ _ _⟩
 case convert s d x=>
  split at h
  ·rename_i el b h1 h2 h3
   split at h
   ·rename_i h4
    cases h
    have hb:=he.bR x;rw[h3] at hb;exact Good.of rfl (KQ hc h1 h2 h4 hb)
   ·cases h
  ·obtain⟨v,hv,e1⟩:=one h
   cases e1
   exact Good.same rfl hc (OS hc hv (he.bR x))
 case makeFunc fn first cz=>
  cases fn<;>simp only[reduceCtorEq] at h
  rename_i f
  cases h
  refine Good.now hc rfl (.fn f _ _ _ _ (by simp) (by simp) (λj hj bQ=>?_) (λj hj bQ=>?_))
  ·simp only[ahv,Array.getElem_map,ahA];exact he.bR _
  ·simp only[ahv,Array.getElem_map,ahA];exact he.bR _
 case makeSlice t l c=>
  split at h
  ·rename_i el k1 x k2 y hu hl cE
   split at h
   ·rename_i zs hz
    split at h
    ·rename_i hb;obtain⟨b1,b2,b3,b4,b5⟩:=hb;have rl:=he.bR l;have rc:=he.bR c;rw[hl] at rl;rw[cE] at rc
     split at h
     ·rename_i hs
      cases h
      have FP:a.eval l=a.eval c:=by
       unfold Bp at hs
       split at hs
       ·simp at hs;rw[hs]
       ·simp at hs;rw[hs.1,hs.2]
       ·cases hs
      have ey:=rc.dT;have:=E4 (t:=t) hc hu hz b1 k2 k2 y.toNat b3 b4;rw[Int.toNat_of_nonneg b2] at this;refine Good.of (x:=Instr.makeSlice t (a.eval l) (a.eval c)) rfl ?_;rw[FP,ey];exact this
     ·split at h
      ·rename_i hx0
       cases h
       subst hx0;have ey:=rc.dT;have ex:=rl.dT;have:=E0 (t:=t) hc hu hz b5 k1 k2 y.toNat b3 b4;rw[Int.toNat_of_nonneg b2] at this;refine Good.of (x:=Instr.makeSlice t (a.eval l) (a.eval c)) rfl ?_;rw[ex,ey];exact this
      ·cases h
    ·cases h
   ·cases h
  ·cases h
 case slice t x lo hi mx=>
  obtain⟨v,hv,e1⟩:=one h
  cases e1
  have Gd:∀(q:Option Operand) v cv,q.map (bR e)=some v->q.map a.eval=some cv->ba L H.length T w v cv:=by
   intro q v cv h1 h2
   cases q with
   |none=>cases h1
   |some q=>cases h1;cases h2;exact he.bR q
  exact Good.same rfl hc (KL hv (he.bR x) (Gd lo) (Gd hi) (Gd mx) (by simp) (by simp) (by simp))
 case fieldAddr t x f=>
  obtain⟨v,hv,e1⟩:=one h
  cases e1
  exact Good.same rfl hc (E6 hv (he.bR x))
 case field t x f=>
  obtain⟨v,hv,e1⟩:=one h
  cases e1
  exact Good.same rfl hc (KO hv (he.bR x))
 case indexAddr t x i=>
  obtain⟨v,hv,e1⟩:=one h
  cases e1
  exact Good.same rfl hc (E5 hv (he.bR x) (he.bR i))
 case index t x i=>
  obtain⟨v,hv,e1⟩:=one h
  cases e1
  exact Good.same rfl hc (KN hv (he.bR x) (he.bR i))
 case extract x i=>
  split at h
  ·rename_i vs hx
   split at h
   ·rename_i aZ
    cases h
    have hp:=he.bR x;rw[hx] at hp;generalize XU:a.eval x=cx at hp
    cases hp with
    |df _ cv h1 hr=>
     have kr:i<cv.size:=by omega
     refine Good.same (x:=Instr.extract (a.eval x) i) rfl hc ⟨cv[i],?_,?_⟩
     ·rw[XU];simp only[Instr.extract,ais kr];rfl
     ·rw[agB,agD aZ];exact hr i aZ kr
   ·cases h
  ·cases h
 case range t x=>
  split at h
  ·rename_i s hx
   split at h
   ·rename_i hu
    cases h
    have hp:=he.bR x;rw[hx] at hp;obtain⟨L',h1,h2,h3⟩:=hc.SC s;refine Good.of (x:=Instr.range t (a.eval x)) rfl ⟨.pointer (some ⟨w.heap.size,0,none⟩),_,L',?_,h1,?_,h2⟩
    ·rw[hp.iN];simp only[Instr.range,Sem.run_bind,run_underlying hu,Result.andThen_ok];rfl
    ·rw[<-h3];exact .ptr _ _ (by simp)
   ·cases h
  ·rename_i m hx
   split at h
   ·rename_i y es hT hm
    cases h
    obtain⟨kt,el⟩:=y;have hp:=he.bR x;rw[hx] at hp;obtain⟨cv,w',L',h1,h2,h3,h4⟩:=G5 hc hT hm;refine Good.of (x:=Instr.range t (a.eval x)) rfl ⟨cv,w',L',?_,h2,h3,h4⟩;rw[hp.xu.1];exact h1
   ·cases h
  ·cases h
 case makeMap t r=>
  cases r<;>simp only[reduceCtorEq] at h
  cases h
  obtain⟨cv,w',L',h1,h2,h3,h4⟩:=run_makeMap hc t;exact Good.of (x:=Instr.makeMap t none) rfl ⟨cv,w',L',h1,h2,h3,h4⟩
 case lookup t x i ok=>
  split at h
  ·rename_i m kt el k hx hT hk
   split at h
   ·rename_i es z hm hz
    split at h
    ·rename_i hf
     cases h
     have hp:=he.bR x;rw[hx] at hp;obtain⟨cv,h1,h2⟩:=G7 hc ok hT hm hz hf.1 hf.2;refine Good.same (x:=Instr.lookup t (a.eval x) (a.eval i) ok) rfl hc ⟨cv,?_,h2⟩;rw[hp.xu.1,Ai hk (he.bR i)];exact h1
    ·cases h
   ·cases h
  ·cases h
 case mapUpdate t m k x=>
  split at h
  ·rename_i i kt el kk hx hT hk
   split at h
   ·rename_i es hm
    split at h
    ·rename_i hf
     cases h
     have hp:=he.bR m;rw[hx] at hp;obtain⟨w',h1,h2,h3⟩:=yR hc hT hm (he.bR x) hf.1 hf.2;refine⟨.skip,undef,w',L,?_,.inr ⟨rfl,rfl⟩,h2,.top _,h3⟩;have:(Instr.mapUpdate t (a.eval m) (a.eval k) (a.eval x)).run P w=.ok () w':=by
      rw[hp.xu.1,Ai hk (he.bR k)];exact h1
     simp only[execOp,Sem.run_bind,this,Result.andThen_ok];rfl
    ·cases h
   ·cases h
  ·cases h
 case entry x=>
  split at h
  ·rename_i i hx;have hp:=he.bR x;rw[hx] at hp;obtain⟨e2,aZ⟩:=hp.oB
   split at h
   ·rename_i m n seen hi
    split at h
    ·rename_i es j hm hl
     split at h
     ·rename_i hn;subst hn;obtain⟨kv,hkv,e1⟩:=air.1 h
      cases e1
      obtain⟨hj,rfl⟩:=agC.1 hkv;obtain⟨s0,rfl⟩:=List.getLast?_eq_some_iff.1 hl;obtain⟨cv,h1,h2⟩:=G6 hc hi hm hj;refine Good.same (x:=Instr.entry (a.eval x)) rfl hc ⟨cv,?_,h2⟩;rw[e2];exact h1
     ·cases h
    ·cases h
   ·cases h
  ·cases h
 case next x s=>
  cases s<;>simp only[reduceCtorEq] at h
  split at h
  ·rename_i i hx;have hp:=he.bR x;rw[hx] at hp;obtain⟨e2,aZ⟩:=hp.oB
   split at h
   ·rename_i s pos hi;have hb:w.heap[L.bS i]?=some (.stringIter ⟨s.toArray⟩ pos):=hc.box i _ hi;have gu:(⟨s.toArray⟩:ByteArray).size=s.length:=by simp[ByteArray.size]
    split at h
    ·rename_i eO
     cases h
     obtain⟨h1,h2⟩:=hc.setIter (pos':=pos+(Utf8.decode ⟨s.toArray⟩ pos).2) hi;refine Good.of (x:=Instr.next (a.eval x) true type) rfl ⟨.tuple #[.bool true,goInt pos,.int .i32 (Utf8.decode ⟨s.toArray⟩ pos).1],_,L,?_,h1,?_,h2⟩
     ·rw[e2];simp[Instr.next,getObj,setObj,Sem.run,hb,gu,eO]
     ·refine .df _ _ rfl (λj hj bQ=>?_)
      match j,hj with
      |0,_=>exact .bool _
      |1,_=>exact .int _ _
      |2,_=>exact .int _ _
    ·rename_i eO
     cases h
     refine Good.same (x:=Instr.next (a.eval x) true type) rfl hc ⟨.tuple #[.bool false],?_,?_⟩
     ·rw[e2];simp[Instr.next,getObj,Sem.run,hb,gu,eO]
     ·refine .df _ _ rfl (λj hj bQ=>?_)
      match j,hj with
      |0,_=>exact .bool _
   ·cases h
  ·cases h
 case call c=>
  obtain⟨callee,args,Cn⟩:=c
  cases callee<;>simp only[reduceCtorEq] at h
  rename_i b;obtain⟨ts⟩:=Cn;obtain⟨args⟩:=args;have:=BW (ty:=type) (cst:=args.toArray.map fun|.const _=>true|_=>false) (B:=args.map a.eval) hc h (by simp) (λj hj bQ=>by
   simp only[ahv];exact he.bR _)
  have e1:execOp a.eval ⟨dst,.call ⟨.builtin b,args.toArray,ts.toArray⟩,type,pos,after,guard⟩=builtin b ts.toArray type (args.toArray.map fun|.const _=>true|_=>false) (args.map a.eval).toArray:=by
   simp[execOp,resolve,invoke];rfl
  rw[<-e1] at this;exact this
end
def Qg (L:Lay)(H:List aA)(T:au)(w:World)(Q:AV->List aA->au->Prop)(e:Ending)(w':World):Prop:=
 ∃r H' T' L' cv,Q r H' T'/\e=.returned cv/\cg L' H' T' w'/\ba L' H'.length T' w' r cv/\Ev H.length T.length L H.length T w L' H'.length T' w'
def ar (P:Program)(f:FuncId)(args:List AV)(H:List aA)(T:au)(Q:AV->List aA->au->Prop):Prop:=
 (∀as w,(callFunc f as).run P w=.ok (.enter f as) w)/\
 ∀L w (ca:Array Value),cg L H T w->ca.size=args.length->(∀(j:Nat)(h:j<args.length)(h':j<ca.size),ba L H.length T w (args[j]'h) (ca[j]'h'))->
  Calls P f ca w (Qg L H T w Q)
theorem ar.mono {P f args H T Q Q'}(h:ar P f args H T Q)(hq:∀r H' T',Q r H' T'->Q' r H' T'):ar P f args H T Q':=
 ⟨h.1,λL w ca hc hl hr=>(h.2 L w ca hc hl hr).mono λ_ _ ⟨r,H',T',L',cv,q,k⟩=>⟨r,H',T',L',cv,hq _ _ _ q,k⟩⟩
def Is (r:AV)(H:List aA)(T:au):AV->List aA->au->Prop:=λr' H' T'=>r'=r/\H'=H/\T'=T
def prune (nv:Nat):Env->Env
 |[]=>[]
 |(s,v)::r=>if s<nv then (s,v)::prune nv r else prune nv r
theorem mq (nv:Nat)(e:Env)(t:Nat):bH (prune nv e) t=bH e t\/bH (prune nv e) t=.top:=by
 by_cases ht:t<nv
 ·left
  induction e with
  |nil=>rfl
  |cons x r ih=>
   obtain⟨s,v⟩:=x
   by_cases hs:s<nv
   ·simp[prune,bH,hs,ih]
   ·have:s≠t:=by omega
    simp[prune,bH,hs,ih,this]
 ·right
  induction e with
  |nil=>rfl
  |cons x r ih=>
   obtain⟨s,v⟩:=x
   by_cases hs:s<nv
   ·have:s≠t:=by omega
    simp[prune,bH,hs,ih,this]
   ·simp[prune,hs,ih]
def gL (o:Oper)(e:Env):Option (FuncId×List AV):=
 match o.op with
 |.call { callee:=.value f,args,argTypes:=_ }=>match bR e f with
  |.fn g first cz=>some (g,first++args.toList.map (bR e)++cz)
  |_=>none
 |_=>none
def mA (C:Cx)(dst:Option Tmp)(v:AV)(e:Env)(H:List aA)(T:au)(K:St->Prop):Prop:=
 match dst with
 |some d=>d<C.nt/\K ⟨lN e d v,H,T⟩
 |none=>K ⟨e,H,T⟩
def wy (C:Cx)(K:St->Prop)(dst:Option Tmp)(g:FuncId)(as:List AV)(s:St):Prop:=
 ∃Q,ar C.P g as s.H s.T Q/\∀v H' T',Q v H' T'->mA C dst v s.e H' T' K
def CQ (L:Lay)(N:Nat)(T:au)(w:World)(vs:List AV)(c:List Value):Prop:=
 c.length=vs.length/\∀(j:Nat)(h:j<vs.length)(h':j<c.length),ba L N T w (vs[j]'h) (c[j]'h')
def CQ.append {L:Lay}{N:Nat}{T:au}{w:World}{a b:List AV}{c d:List Value}(h:CQ L N T w a c)(k:CQ L N T w b d):CQ L N T w (a++b) (c++d):=by
 refine⟨by simp[h.1,k.1],λj hj bQ=>?_⟩;rw[aiH,aiH]
 by_cases aZ:j<a.length
 ·rw[ajo aZ,ajo (by rw[h.1];exact aZ)];exact h.2 _ _ _
 ·rw[ajp aZ,ajp (by rw[h.1];exact aZ)];have:=k.2 (j-a.length) (by simp at hj;omega) (by simp at bQ;rw[h.1] at bQ;omega);simpa[h.1] using this
def o6 (all:Array Oper)(j:Nat)(e:Env):Option (Option Bool):=
 match (all[j]?).bind (·.dst) with
 |some d=>match bH e d with
  |.bool b=>some (some b)
  |.df []=>some none
  |_=>none
 |none=>none
def JN (P:Program)(o:Oper)(e:Env):Option (Nat×Bool):=
 match o.op with
 |.binOp op t x (.const (.slice none _ _)) _=>match P.underlying t,bR e x,op with
  |some (.slice _),.sl n _ _,.eql=>some (n,true)
  |some (.slice _),.sl n _ _,.neq=>some (n,false)
  |some (.slice _),.cN _ _ n,.eql=>some (n,true)
  |some (.slice _),.cN _ _ n,.neq=>some (n,false)
  |_,_,_=>none
 |_=>none
def OV {P:Program}{o:Oper}{e:Env}{a:Act}{n:Nat}{q:Bool}{L:Lay}{N:Nat}{T:au}{w:World}(h:JN P o e=some (n,q))(he:fm L N T w e a) :
  ∃b:Bool,(0<n->b=!q)/\(execOp a.eval o).run P w=.ok (.value (.bool b)) w:=by
 unfold JN at h
 split at h
 ·rename_i op t x l c y ho;have hx:=he.bR x;have core:∀(op:BinOp)(n cap:Nat)(ad:Option Addr)(el:TypeId),P.underlying t=some (.slice el)->a.eval x=.slice ad n cap->(0<n->ad.isNone=false)->(op=.eql\/op=.neq)->o.op=.binOp op t x (.const (.slice none l c)) y->∃b:Bool,(0<n->b=!(op==.eql))/\(execOp a.eval o).run P w=.ok (.value (.bool b)) w:=by
   intro op n cap ad el hu hv UT lE ho;have hg:(eqGuard op t x (.const (.slice none l c)) (a.eval x) (a.eval (.const (.slice none l c)))).run P w=.ok () w:=oS op t _ _ _ _ (by rw[hv];exact⟨λ_ e=>(by cases e),λe=>(by cases e)⟩);have heq:∀d:Nat,(Op.equalIn (d+1) t (.slice ad n cap) (.slice none l c)).run P w=.ok ad.isNone w:=by
    intro d
    cases ad<;>simp only[Op.equalIn,Sem.run_bind,run_underlying hu,Result.andThen_ok]<;>rfl
   have cY:=lg (P:=P) (w:=w) t (.slice ad n cap) (.slice none l c) ad.isNone op lE rfl rfl heq;refine⟨if op=.eql then ad.isNone else !ad.isNone,λhn=>?_,?_⟩
   ·have:=UT hn;rcases lE with rfl|rfl<;>simp[this]
   ·rw[hv] at hg;have yA:a.eval (.const (.slice none l c))=.slice none l c:=rfl;rw[yA] at hg;simp only[execOp,ho,Sem.run_bind,hv,yA,hg,Result.andThen_ok,cY];rfl
  have fin:∀(op:BinOp)(n:Nat)(cs:List AV)(tg:Tag)(el:TypeId),P.underlying t=some (.slice el)->bR e x=.sl n cs tg->(op=.eql\/op=.neq)->o.op=.binOp op t x (.const (.slice none l c)) y->∃b:Bool,(0<n->b=!(op==.eql))/\(execOp a.eval o).run P w=.ok (.value (.bool b)) w:=by
   intro op n cs tg el hu hs lE ho;rw[hs] at hx;obtain⟨ad,cap,hv,_,_,yB⟩:=hx.fF;refine core op n cap ad el hu hv (λhn=>?_) lE ho;rcases yB with⟨_,h0⟩|⟨b,base,cv,e1,_⟩
   ·omega
   ·rw[e1];rfl
  have yM:∀(op:BinOp)(i p n:Nat)(el:TypeId),P.underlying t=some (.slice el)->bR e x=.cN i p n->(op=.eql\/op=.neq)->o.op=.binOp op t x (.const (.slice none l c)) y->∃b:Bool,(0<n->b=!(op==.eql))/\(execOp a.eval o).run P w=.ok (.value (.bool b)) w:=by
   intro op i p n el hu hs lE ho;rw[hs] at hx;obtain⟨cap,hv,_,_⟩:=hx.jX;exact core op n cap _ el hu hv (λ_=>rfl) lE ho
  split at h
  ·rename_i el n' cs tg hu hs
   cases h
   obtain⟨b,h1,h2⟩:=fin .eql _ _ _ _ hu hs (.inl rfl) ho;exact⟨b,λhn=>h1 hn,h2⟩
  ·rename_i el n' cs tg hu hs
   cases h
   obtain⟨b,h1,h2⟩:=fin .neq _ _ _ _ hu hs (.inr rfl) ho;exact⟨b,λhn=>h1 hn,h2⟩
  ·rename_i el i' p' n' hu hs
   cases h
   obtain⟨b,h1,h2⟩:=yM .eql _ _ _ _ hu hs (.inl rfl) ho;exact⟨b,λhn=>h1 hn,h2⟩
  ·rename_i el i' p' n' hu hs
   cases h
   obtain⟨b,h1,h2⟩:=yM .neq _ _ _ _ hu hs (.inr rfl) ho;exact⟨b,λhn=>h1 hn,h2⟩
  ·cases h
 ·cases h
def JP (P:Program)(bx:List Nat)(o:Oper)(e:Env)(H:List aA):Option (Nat×List AV):=
 match o.op,o.dst with
 |.call { callee:=.builtin .append,args,argTypes },some d=>
  if bx.contains d=true then
   match argTypes.toList,args.toList.map (bR e) with
   |[t,t2],[s,x]=>oF P H t t2 s x
   |_,_=>none
  else none
 |.buildSlice t n ps,some d=>if bx.contains d=true then (oc P t n (ps.toList.map fun(x:Nat×Operand)=>(x.1,bR e x.2))).map λys=>(n,ys) else none
 |_,_=>none
theorem OY {P:Program}{bx:List Nat}{o:Oper}{e:Env}{a:Act}{L:Lay}{H:List aA}{T:au}{w:World}{m:Nat}{ys:List AV}(h:JP P bx o e H=some (m,ys))(hc:cg L H T w)(he:fm L H.length T w e a) :
  ∃k cv w' L',(execOp a.eval o).run P w=.ok (.value cv) w'/\cg L' (H++[.cells (ys++List.replicate k .top)]) T w'/\ba L' (H++[aA.cells (ys++List.replicate k .top)]).length T w' (.cN H.length 0 m) cv/\
   Ev H.length T.length L H.length T w L' (H++[aA.cells (ys++List.replicate k .top)]).length T w':=by
 obtain⟨dst,op,type,pos,after,guard⟩:=o;unfold JP at h
 split at h
 ·rename_i args Cn d' lE hd;simp only at lE;subst lE
  split at h
  ·split at h
   ·rename_i t t2 s x Ct fe;have rB:Cn=#[t,t2]:=by rw[<-Array.toList_inj];exact Ct
    subst rB
    match uW:args.toList,fe with
    |[p,q],fe=>
     simp only[ahi,aiB,List.cons.injEq,ajm] at fe;obtain⟨e1,e2⟩:=fe;have h0:=he.bR p;have h1:=he.bR q;rw[e1] at h0;rw[e2] at h1;obtain⟨k,cv,w',L',cY,g1,g2,g3⟩:=Hc (ty:=type) hc h h0 h1;refine⟨k,cv,w',L',?_,g1,g2,g3⟩;have ot:args=#[p,q]:=by rw[<-Array.toList_inj];exact uW
     subst ot;simp only[execOp,resolve,Sem.run_bind,Sem.run_pure,Result.andThen_ok,invoke,builtin,map_toArray,ahi,aiB,cY]
   ·cases h
  ·cases h
 ·rename_i t n ps d' lE hd;simp only at lE;subst lE
  split at h
  ·cases hb:oc P t n (ps.toList.map fun(x:Nat×Operand)=>(x.1,bR e x.2)) with
   |none=>rw[hb] at h;cases h
   |some ys0=>
    rw[hb] at h
    cases h
    obtain⟨g1,g2⟩:=uv he ps;obtain⟨cv,w',L',cY,k1,k2,k3⟩:=BV hc hb g1 g2;refine⟨0,cv,w',L',?_,by simpa using k1,by simpa using k2,by simpa using k3⟩;show Sem.run P (do pure (Next.value (<-Instr.buildSlice t _ (ps.map fun(x:Nat×Operand)=>(x.1,a.eval x.2))))) w=_;simp only[Sem.run_bind,cY,Result.andThen_ok,Sem.run_pure]
  ·cases h
 ·cases h
def ss (o:Oper)(e:Env):Option (TypeId×TypeId×Nat×Nat×Nat×AV):=
 match o.op with
 |.call { callee:=.builtin .append,args,argTypes }=>
  match argTypes.toList,args.toList.map (bR e) with
  |[t,t2],[.bJ i n cap,x]=>some (t,t2,i,n,cap,x)
  |_,_=>none
 |_=>none
def VQ (C:Cx)(K:St->Prop)(dst:Option Tmp)(t t2:TypeId)(i n cap:Nat)(x:AV)(e:Env)(H:List aA)(T:au):Prop:=
 ∃(el:TypeId) (vs xs:List AV) (m:Nat),C.P.underlying t=some (.slice el)/\H[i]?=some (.cells vs)/\vs.length=cap*C.P.cellsOf el/\gN H (C.P.cellsOf el) x=some (m,xs)/\(n+m)*C.P.bytesOf el<=140737488355328/\n+m<=9223372036854775807/\
  jN C.P t2=true/\(bc C.P el).isSome=true/\
  (n+m<=cap->mA C dst (.bJ i (n+m) cap) e (H.set i (.cells (vs.take (n*C.P.cellsOf el)++xs++vs.drop ((n+m)*C.P.cellsOf el)))) T K)/\
  ∀nc,cap<n+m->n+m<=nc->mA C dst (.bJ H.length (n+m) nc) e (H++[.cells (vs.take (n*C.P.cellsOf el)++xs++List.replicate ((nc-(n+m))*C.P.cellsOf el) .top)]) T K
def kJ (P:Program)(bx:List Nat)(o:Oper)(e:Env)(H:List aA):Option (Nat×List AV×Nat):=
 match o.op,o.dst with
 |.call { callee:=.builtin .append,args,argTypes },some d=>
  if bx.contains (d+100000)=true then
   match argTypes.toList,args.toList.map (bR e) with
   |[t,t2],[s,x]=>match P.underlying t,oF P H t t2 s x with
    |some (.slice el),some (m,ys)=>some (m,ys,P.cellsOf el)
    |_,_=>none
   |_,_=>none
  else none
 |_,_=>none
theorem zY {P:Program}{bx:List Nat}{o:Oper}{e:Env}{a:Act}{L:Lay}{H:List aA}{T:au}{w:World}{m z:Nat}{ys:List AV}(h:kJ P bx o e H=some (m,ys,z))(hc:cg L H T w)(he:fm L H.length T w e a) :
  ∃nc,m<=nc/\∃cv w' L',(execOp a.eval o).run P w=.ok (.value cv) w'/\cg L' (H++[.cells (ys++List.replicate ((nc-m)*z) .top)]) T w'/\ba L' (H++[aA.cells (ys++List.replicate ((nc-m)*z) .top)]).length T w' (.bJ H.length m nc) cv/\
   Ev H.length T.length L H.length T w L' (H++[aA.cells (ys++List.replicate ((nc-m)*z) .top)]).length T w':=by
 obtain⟨dst,op,type,pos,after,guard⟩:=o;unfold kJ at h
 split at h
 ·rename_i args Cn d' lE hd;simp only at lE;subst lE
  split at h
  ·split at h
   ·rename_i t t2 s x Ct fe;have rB:Cn=#[t,t2]:=by rw[<-Array.toList_inj];exact Ct
    subst rB
    split at h
    ·rename_i el m' ys' hu hb
     cases h
     match uW:args.toList,fe with
     |[p,q],fe=>
      simp only[ahi,aiB,List.cons.injEq,ajm] at fe;obtain⟨e1,e2⟩:=fe;have h0:=he.bR p;have h1:=he.bR q;rw[e1] at h0;rw[e2] at h1;obtain⟨nc,ll,cv,w',L',cY,g1,g2,g3⟩:=E8 (ty:=type) hc hb hu h0 h1;refine⟨nc,ll,cv,w',L',?_,g1,g2,g3⟩;have ot:args=#[p,q]:=by rw[<-Array.toList_inj];exact uW
      subst ot;simp only[execOp,resolve,Sem.run_bind,Sem.run_pure,Result.andThen_ok,invoke,builtin,map_toArray,ahi,aiB,cY]
    ·cases h
   ·cases h
  ·cases h
 ·cases h
def w9 (o:Oper)(e:Env)(H:List aA):Option (Nat×Nat×Nat×List Nat×List (cS×AV)):=
 match o.op with
 |.next x false=>match bR e x with
  |.ptr i 0=>match H[i]? with
   |some (.mv m n seen)=>match H[m]? with
    |some (.map es)=>some (i,m,n,seen,es)
    |_=>none
   |_=>none
  |_=>none
 |_=>none
def Iv (C:Cx)(K:St->Prop)(dst:Option Tmp)(i m n:Nat)(seen:List Nat)(es:List (cS×AV))(e:Env)(H:List aA)(T:au):Prop:=
 n=es.length/\((∀j,j<n->j∈seen)->mA C dst (.df [.bool false]) e H T K)/\
  ∀(j:Nat)(k:cS)(v:AV),es[j]?=some (k,v)->j∉seen->mA C dst (.df [.bool true,k.av,v]) e (H.set i (.mv m n (seen++[j]))) T K
def mF (P:Program)(o:Oper)(e:Env)(H:List aA):Bool:=
 match o.op with
 |.call { callee:=.builtin .append,args,argTypes }=>
  match argTypes.toList,args.toList.map (bR e) with
  |[t,t2],[.sl 0 [] .full,x]=>match P.underlying t with
   |some (.slice el)=>match gN H (P.cellsOf el) x with
    |some (m,_)=>decide (m=0)&&(jN P t2&&(bc P el).isSome)
    |none=>false
   |_=>false
  |_,_=>false
 |_=>false
theorem zX {P:Program}{o:Oper}{e:Env}{a:Act}{L:Lay}{H:List aA}{T:au}{w:World}(h:mF P o e H=true)(hc:cg L H T w)(he:fm L H.length T w e a) :
  ∃cv,(execOp a.eval o).run P w=.ok (.value cv) w/\ba L H.length T w (.sl 0 [] .full) cv:=by
 unfold mF at h
 split at h
 ·rename_i args Cn lE
  split at h
  ·rename_i t t2 x Ct fe
   split at h
   ·rename_i el hu
    split at h
    ·rename_i m ys mT;rw[agO,agO,agQ] at h;obtain⟨QV,tK,qI⟩:=h;subst QV;have rB:Cn=#[t,t2]:=by rw[<-Array.toList_inj];exact Ct
     subst rB;have jy:args.toList.length=2:=by have:=congrArg List.length fe;simpa using this
     match uW:args.toList,jy,fe with
     |[p,q],_,fe=>
      simp only[ahi,aiB,List.cons.injEq,ajm] at fe;obtain⟨e1,e2⟩:=fe;have hs:=he.bR p;have hx:=he.bR q;rw[e1] at hs;rw[e2] at hx;have ot:args=#[p,q]:=by rw[<-Array.toList_inj];exact uW
      subst ot;obtain⟨zs,qI⟩:=ahg.1 qI;obtain⟨i',z,hi,uR,Qn,CH⟩:=eF (L:=L) (N:=H.length) (T:=T) (w:=w) qI;have vE:P.cellsOf el=i'.size:=by simp[Program.cellsOf,hi]
      obtain⟨new,FO,oP,hlen,gT⟩:=eI (P:=P) hc hx mT;have yD:cg L H T w.drew:=hc.drew rfl;have kd:cX L H.length T w L H.length T w.drew:=(Ev.drew (H:=H) (T:=T) (L:=L) (w:=w) (w':=w.drew) rfl rfl rfl rfl (ahy _)).keeps;obtain⟨lK,_,oq,_,jt⟩:=eI (P:=P) yD (hx.keep kd) mT;have jG:gN H (P.cellsOf el) (.sl 0 [] .full)=some (0,[]):=by simp[gN]
      obtain⟨vz,_,sD,_,oQ⟩:=eI (P:=P) yD (hs.keep kd) jG;obtain⟨ad,cap,hsv,cE,ht,_⟩:=hs.fF;rw[hsv] at oQ;have h2:=fP (P:=P) (w:=w) (ty:=o.type) hu tK hi uR (a:=ad) (n:=0) (cap:=cap) (m:=0) hlen (vE▸gT) (vE▸jt) (vE▸oQ) (by simp) (by simp);have FE:new=[]:=ahe (by rw[oP.1];simpa using FO);have h3:=h2.1 (by omega);rw[FE] at h3;refine⟨.slice ad 0 cap,?_,.yZ _ _ _ ht⟩;have h4:(Builtin.append_ #[t,t2] o.type #[a.eval p,a.eval q]).run P w=.ok (.slice ad 0 cap) w:=by
       rw[hsv,h3]
       cases ad<;>rfl
      simp only[execOp,lE,resolve,Sem.run_bind,Sem.run_pure,Result.andThen_ok,invoke,builtin,map_toArray,ahi,aiB,h4]
    ·cases h
   ·cases h
  ·cases h
 ·cases h
def Np (P:Program)(bx:List Nat)(o:Oper)(e:Env)(H:List aA)(T:au):Option (AV×List aA×au):=
 if (match o.dst with|some d=>bx.contains (d+100000)&&mF P o e H|none=>false)=true then some (.sl 0 [] .full,H,T) else ME P o e H T
def ie (C:Cx)(all:Array Oper)(K:St->Prop):List Oper->St->Prop
 |[],s=>K s
 |o::r,s=>
  let exec:Prop:=match gL o s.e with
   |some (g,as)=>wy C (ie C all K r) o.dst g as s
   |none=>match JN C.P o s.e with
    |some (n,q)=>∀b:Bool,(0<n->b=!q)->mA C o.dst (.bool b) s.e s.H s.T (ie C all K r)
    |none=>match JP C.P C.bx o s.e s.H with
     |some (m,ys)=>∀k:Nat,mA C o.dst (.cN s.H.length 0 m) s.e (s.H++[.cells (ys++List.replicate k .top)]) s.T (ie C all K r)
     |none=>match kJ C.P C.bx o s.e s.H with
      |some (m,ys,z)=>∀nc:Nat,m<=nc->mA C o.dst (.bJ s.H.length m nc) s.e (s.H++[.cells (ys++List.replicate ((nc-m)*z) .top)]) s.T (ie C all K r)
      |none=>match ss o s.e with
       |some (t,t2,i,n,cap,x)=>VQ C (ie C all K r) o.dst t t2 i n cap x s.e s.H s.T
       |none=>match w9 o s.e s.H with
        |some (i,m,n,seen,es)=>Iv C (ie C all K r) o.dst i m n seen es s.e s.H s.T
        |none=>match Np C.P C.bx o s.e s.H s.T with
         |some (v,H',T')=>mA C o.dst v s.e H' T' (ie C all K r)
         |none=>False
  match o.guard with
  |none=>exec
  |some (j,want)=>match o6 all j s.e with
   |some b=>if b=some want then exec else mA C o.dst (.df []) s.e s.H s.T (ie C all K r)
   |none=>False
theorem tB {L:Lay}{N:Nat}{T:au}{w:World}{e:Env}{a:Act}{all:Array Oper}{j:Nat}{b:Option Bool}(he:fm L N T w e a)(h:o6 all j e=some b):yielded all a.tmps j=b:=by
 unfold o6 at h
 split at h
 ·rename_i d hd
  split at h
  ·rename_i b' hb
   cases h
   have hr:=he d;rw[hb] at hr;have:=hr.jx;unfold yielded;rw[hd];have Zk:a.tmps[d]?=some (.bool b'):=by
    simp only[aja] at this
    cases hx:a.tmps[d]? with
    |none=>rw[hx] at this;simp[undef] at this
    |some v=>rw[hx] at this;simp at this;rw[this]
   simp[Zk]
  ·rename_i hb
   cases h
   have hr:=he d;rw[hb] at hr;unfold yielded;rw[hd];generalize hx:a.tmps.getD d undef=x at hr
   cases hr with
   |df _ cv h1 _=>
    cases hy:a.tmps[d]? with
    |none=>simp[hy]
    |some y=>
     have:y=.tuple cv:=by simpa[aja,hy] using hx
     subst this;simp[hy]
  ·cases h
 ·cases h
theorem eK.put {C:Cx}{s:St}{L L':Lay}{w w':World}{a:Act}{H':List aA}{T':au}{v:AV}{cv:Value}{K:St->Prop}{dst:Option Tmp}(hc:eK C s L w a)(hn:cg L' H' T' w')(hr:ba L' H'.length T' w' v cv)
  (ev:Ev s.H.length s.T.length L s.H.length s.T w L' H'.length T' w') (hp:mA C dst v s.e H' T' K):∃s',K s'/\s'.H=H'/\s'.T=T'/\eK C s' L' w' (a.put dst cv):=by
 have tR:=hc.env.keep ev.keeps;have gw:=agJ hc.nb ev.n;have fQ:=agJ hc.tb ev.t
 cases dst with
 |none=>exact⟨⟨s.e,H',T'⟩,hp,rfl,rfl,⟨gw,fQ,hn,hc.size,hc.defers,tR⟩⟩
 |some d=>
  obtain⟨hd,hk⟩:=hp;refine⟨⟨Am.lN s.e d v,H',T'⟩,hk,rfl,rfl,⟨gw,fQ,hn,by simp[Act.put,hc.size],hc.defers,tR.put (by rw[hc.size];exact hd) hr⟩⟩
theorem yg {C:Cx}{all:Array Oper}{K:St->Prop}:∀(l:List Oper)(s:St),ie C all K l s->∀L w a (L0:Lay) (s0:St) (w0:World),eK C s L w a->Ev C.nb C.tb L0 s0.H.length s0.T w0 L s.H.length s.T w->
  wpList C.P all (cO C (dF K λ_ _=>False) L0 s0 w0) l a w:=by
 intro l
 induction l with
 |nil=>intro s h L w a L0 s0 w0 hc ev;exact⟨s,L,h,hc,ev⟩
 |cons o r ih=>
  intro s h L w a L0 s0 w0 hc ev;have Ug:(match gL o s.e with
   |some (g,as)=>wy C (ie C all K r) o.dst g as s
   |none=>match JN C.P o s.e with
    |some (n,q)=>∀b:Bool,(0<n->b=!q)->mA C o.dst (.bool b) s.e s.H s.T (ie C all K r)
    |none=>match JP C.P C.bx o s.e s.H with
     |some (m,ys)=>∀k:Nat,mA C o.dst (.cN s.H.length 0 m) s.e (s.H++[.cells (ys++List.replicate k .top)]) s.T (ie C all K r)
     |none=>match kJ C.P C.bx o s.e s.H with
      |some (m,ys,z)=>∀nc:Nat,m<=nc->mA C o.dst (.bJ s.H.length m nc) s.e (s.H++[.cells (ys++List.replicate ((nc-m)*z) .top)]) s.T (ie C all K r)
      |none=>match ss o s.e with
       |some (t,t2,i,n,cap,x)=>VQ C (ie C all K r) o.dst t t2 i n cap x s.e s.H s.T
       |none=>match w9 o s.e s.H with
        |some (i,m,n,seen,es)=>Iv C (ie C all K r) o.dst i m n seen es s.e s.H s.T
        |none=>match Np C.P C.bx o s.e s.H s.T with
         |some (v,H',T')=>mA C o.dst v s.e H' T' (ie C all K r)
         |none=>False)->o.wp C.P a w (wpList C.P all (cO C (dF K λ_ _=>False) L0 s0 w0) r) (cO C (dF K λ_ _=>False) L0 s0 w0):=by
   intro hx
   split at hx
   ·rename_i g as jm;obtain⟨Q,⟨C5,hq⟩,hk⟩:=hx;unfold gL at jm
    split at jm
    ·rename_i f args Cn lE
     split at jm
     ·rename_i g' first cz hf
      cases jm
      have Qz:=hc.env.bR f;rw[hf] at Qz;generalize hfv:a.eval f=fv at Qz
      cases Qz with
      |fn _ _ _ fa ca h1 h2 yv oO=>
       have cY:(execOp a.eval o).run C.P w=.ok (.enter g (fa++args.map a.eval++ca)) w:=by
        simp only[execOp,lE,resolve,hfv,Deferred.ofValue,Sem.run_bind,Sem.run_pure,Result.andThen_ok,invoke,C5]
       unfold Oper.wp;rw[cY,Oper.upon_enter];have fh:CQ L s.H.length s.T w (first++args.toList.map (bR s.e)++cz) (fa++args.map a.eval++ca).toList:=by
        simp only[Array.toList_append,Array.toList_map];refine(CQ.append ⟨by simpa using h1,λj hj bQ=>by simpa using yv j hj (by simpa using bQ)⟩ ⟨by simp,λj hj bQ=>?_⟩).append ⟨by simpa using h2,λj hj bQ=>by simpa using oO j hj (by simpa using bQ)⟩;simp only[ahv];exact hc.env.bR _
       refine(hq L w _ hc.mO (by simpa using fh.1) (λj hj bQ=>by
        have h3:=fh.2 j hj (by rw[Array.length_toList];exact bQ)
        rwa [ahA] at h3)).mono ?_
       ·rintro e w' ⟨rr,H',T',L',cv,hQ,rfl,cR,dG,dB⟩;obtain⟨s',nw,e1,e2,jk⟩:=hc.put cR dG dB (hk _ _ _ hQ);exact ih s' nw L' w' _ L0 s0 w0 jk (ev.trans (by rw[e1,e2];exact dB.mono hc.nb hc.tb))
     ·cases jm
    ·cases jm
   ·split at hx
    ·rename_i n q tK;obtain⟨b,hb,cY⟩:=OV tK hc.env;obtain⟨s',nw,e1,e2,jk⟩:=hc.put (v:=.bool b) (cv:=.bool b) hc.mO (.bool b) (Ev.refl (agE _) (agE _)) (hx b hb);unfold Oper.wp;rw[cY];exact ih s' nw L w _ L0 s0 w0 jk (by rw[e1,e2];exact ev)
    split at hx
    ·rename_i m ys AT;obtain⟨k,cv,w',L',cY,cR,dG,dB⟩:=OY AT hc.mO hc.env;obtain⟨s',nw,e1,e2,jk⟩:=hc.put cR dG dB (hx k);unfold Oper.wp;rw[cY];exact ih s' nw L' w' _ L0 s0 w0 jk (ev.trans (by rw[e1,e2];exact dB.mono hc.nb hc.tb))
    split at hx
    ·rename_i m ys z AT;obtain⟨nc,ll,cv,w',L',cY,cR,dG,dB⟩:=zY AT hc.mO hc.env;obtain⟨s',nw,e1,e2,jk⟩:=hc.put cR dG dB (hx nc ll);unfold Oper.wp;rw[cY];exact ih s' nw L' w' _ L0 s0 w0 jk (ev.trans (by rw[e1,e2];exact dB.mono hc.nb hc.tb))
    split at hx
    ·rename_i t t2 i n cap x Js;obtain⟨el,vs,xs,m,hu,hH,Mv,mT,qK,tP,tK,qI,FU,fX⟩:=hx;unfold ss at Js
     split at Js
     ·rename_i args Cn lE
      split at Js
      ·rename_i t' t2' i' n' kV x' Ct fe
       cases Js
       have rB:Cn=#[t,t2]:=by rw[<-Array.toList_inj];exact Ct
       subst rB;have jy:args.toList.length=2:=by have:=congrArg List.length fe;simpa using this
       match uW:args.toList,jy,fe with
       |[p,q],_,fe=>
        simp only[ahi,aiB,List.cons.injEq,ajm] at fe;obtain⟨e1,e2⟩:=fe;have h0:=hc.env.bR p;have h1:=hc.env.bR q;rw[e1] at h0;rw[e2] at h1;have ot:args=#[p,q]:=by rw[<-Array.toList_inj];exact uW
        subst ot;have hex:∀cv w',(Builtin.append_ #[t,t2] o.type #[a.eval p,a.eval q]).run C.P w=.ok cv w'->(execOp a.eval o).run C.P w=.ok (.value cv) w':=λcv w' hr=>by
         simp only[execOp,lE,resolve,Sem.run_bind,Sem.run_pure,Result.andThen_ok,invoke,builtin,map_toArray,ahi,aiB,hr]
        rcases Dx (ty:=o.type) hc.mO h0 h1 hu hH Mv mT qK tP tK qI with⟨hle,cv,w',L',cY,cR,dG,dB⟩|⟨aZ,nc,ll,cv,w',L',cY,cR,dG,dB⟩
        ·obtain⟨s',nw,e1,e2,jk⟩:=hc.put cR dG dB (FU hle);unfold Oper.wp;rw[hex _ _ cY];exact ih s' nw L' w' _ L0 s0 w0 jk (ev.trans (by rw[e1,e2];exact dB.mono hc.nb hc.tb))
        ·obtain⟨s',nw,e1,e2,jk⟩:=hc.put cR dG dB (fX nc aZ ll);unfold Oper.wp;rw[hex _ _ cY];exact ih s' nw L' w' _ L0 s0 w0 jk (ev.trans (by rw[e1,e2];exact dB.mono hc.nb hc.tb))
      ·cases Js
     ·cases Js
    split at hx
    ·rename_i i m n seen es lF;obtain⟨rfl,FU,fX⟩:=hx;unfold w9 at lF
     split at lF
     ·rename_i x lE
      split at lF
      ·rename_i i' hxx
       split at lF
       ·rename_i m' n' afX hi
        split at lF
        ·rename_i es' hm
         cases lF
         have hp:=hc.env.bR x;rw[hxx] at hp;obtain⟨e2,aZ⟩:=hp.oB;have hex:∀cv w',(Instr.next (.pointer (some ⟨L.bS i,0,none⟩)) false o.type).run C.P w=.ok cv w'->(execOp a.eval o).run C.P w=.ok (.value cv) w':=λcv w' hr=>by
          simp only[execOp,lE,Sem.run_bind,e2,hr,Result.andThen_ok];rfl
         rcases KM hc.mO o.type hi hm with⟨fh,cY⟩|⟨j,hj,cv,w',WQ,cY,cR,dG,dB⟩
         ·obtain⟨s',nw,e1,e2,jk⟩:=hc.put (v:=.df [.bool false]) (cv:=.tuple #[.bool false]) hc.mO (.df _ _ rfl (λj hj bQ=>by match j,hj with|0,_=>exact .bool _)) (Ev.refl (agE _) (agE _)) (FU fh);unfold Oper.wp;rw[hex _ _ cY];exact ih s' nw L w _ L0 s0 w0 jk (by rw[e1,e2];exact ev)
         ·obtain⟨s',nw,e1,e2,jk⟩:=hc.put cR dG dB (fX j _ _ (agD hj) WQ);unfold Oper.wp;rw[hex _ _ cY];exact ih s' nw L w' _ L0 s0 w0 jk (ev.trans (by rw[e1,e2];exact dB.mono hc.nb hc.tb))
        ·cases lF
       ·cases lF
      ·cases lF
     ·cases lF
    split at hx
    ·rename_i v H' T' lE;unfold Np at lE
     by_cases hz:(match o.dst with|some d=>C.bx.contains (d+100000)&&mF C.P o s.e s.H|none=>false)=true
     ·rw[agN hz] at lE
      injection lE with h1
      injection h1 with h1 h2
      injection h2 with h2 h3
      subst h1;subst h2;subst h3;have hz:mF C.P o s.e s.H=true:=by
       split at hz
       ·exact(agO _ _▸hz).2
       ·cases hz
      obtain⟨cv,cY,dG⟩:=zX hz hc.mO hc.env;obtain⟨s',nw,e1,e2,jk⟩:=hc.put hc.mO dG (Ev.refl (agE _) (agE _)) hx;unfold Oper.wp;rw[cY];exact ih s' nw L w _ L0 s0 w0 jk (by rw[e1,e2];exact ev)
     rw[agL hz] at lE;obtain⟨n,cv,w',L',cY,hn,cR,dG,dB⟩:=AH hc.mO hc.env lE;obtain⟨s',nw,e1,e2,jk⟩:=hc.put cR dG dB hx;unfold Oper.wp;rw[cY];have fin:=ih s' nw L' w' _ L0 s0 w0 jk (ev.trans (by rw[e1,e2];exact dB.mono hc.nb hc.tb));rcases hn with rfl|⟨rfl,rfl⟩
     ·exact fin
     ·exact fin
    ·exact hx.elim
  unfold wpList;unfold ie at h
  dsimp only at h
  split at h
  ·rename_i hg;rw[agN (by simp[Region.wanted,hg])];exact .inl (Ug h)
  ·rename_i j want hg
   split at h
   ·rename_i b hb;have hy:=tB hc.env hb
    split at h
    ·rename_i yE;rw[agN (by simp[Region.wanted,hg,hy,yE])];exact .inl (Ug h)
    ·rename_i yE;rw[agL (by simp[Region.wanted,hg,hy,yE])];obtain⟨s',nw,e1,e2,jk⟩:=hc.put (v:=.df []) (cv:=undef) hc.mO (.df [] #[] rfl (λj hj=>by simp at hj)) (Ev.refl (agE _) (agE _)) h;exact ih s' nw L w _ L0 s0 w0 jk (by rw[e1,e2];exact ev)
   ·exact h.elim
theorem AF {C:Cx}{id:Nat}{ops:List Oper}{K:St->Prop}{Q:Exit->St->Prop}{s:St}(h:ie C ops.toArray K ops ⟨prune C.nv s.e,s.H,s.T⟩):AW C (.region id ops.toArray false) (dF K Q) s:=by
 intro L w a hc;have jk:eK C ⟨prune C.nv s.e,s.H,s.T⟩ L w a:=⟨hc.nb,hc.tb,hc.mO,hc.size,hc.defers,λt=>by
  rcases mq C.nv s.e t with e|e<;>rw[e]
  ·exact hc.env t
  ·exact .top _⟩
 refine wp_region_lit ?_;have:=yg ops _ h L w a L s w jk (Ev.refl hc.nb hc.tb);have key:∀(l:List Oper)(a:Act)(w':World),wpList C.P ops.toArray (cO C (dF K λ_ _=>False) L s w) l a w'->wpList C.P ops.toArray (cO C (dF K Q) L s w) l a w':=by
  intro l;have C3:∀e a w',cO C (dF K λ_ _=>False) L s w e a w'->cO C (dF K Q) L s w e a w':=by
   rintro e a w' ⟨s',L',q,r⟩;refine⟨s',L',?_,r⟩
   cases e<;>first|exact q|exact q.elim
  induction l with
  |nil=>intro a w' h;exact C3 _ _ _ h
  |cons o r ih=>
   intro a w' h;unfold wpList at h ⊢
   split
   ·rename_i hw;rw[agN hw] at h;rcases h with h|⟨h1,h2⟩
    ·refine .inl ?_;unfold Oper.wp at h ⊢;generalize (execOp a.eval o).run C.P w'=rr at h ⊢
     cases rr with
     |ok n w''=>
      cases n<;>simp only[Oper.upon] at h ⊢<;>first
       |exact ih _ _ h
       |exact h
       |(refine h.mono ?_
         intro e w3 he
         cases e with
         |returned v=>exact ih _ _ he
         |panicked ch=>exact C3 _ _ _ he
         |outgrown=>obtain⟨a0,w0,h0⟩:=he;exact⟨a0,w0,C3 _ _ _ h0⟩)
       |exact h.mono λv w3 he=>ih _ _ he
     |halt hh w''=>cases hh<;>simp only[Oper.upon] at h ⊢<;>first|exact C3 _ _ _ h|exact h
    ·obtain⟨a0,w0,h0⟩:=h2;exact .inr ⟨h1,a0,w0,C3 _ _ _ h0⟩
   ·rename_i hw;rw[agL hw] at h;exact ih _ _ h
 exact key _ _ _ this
def Tq {C:Cx}{c:Operand}{x y:Code}{Q:Exit->St->Prop}{s:St}{t:Bool}(hc:bR s.e c=.bool t)(h:if t=true then AW C x Q s else AW C y Q s):AW C (.cond c x y) Q s:=by
 intro L w a hs;have hr:=hs.env.bR c;rw[hc] at hr;refine wp_cond hr.jx ?_
 cases t
 ·exact h L w a hs
 ·exact h L w a hs
def Ip (P:Program)(s:St):ResultVar->Option AV
 |.tmp t=>some (bH s.e t)
 |.cell t ty=>match No s.H (bH s.e t) with
  |some (vs,o)=>qZ P ty vs o
  |none=>none
def zD (P:Program)(s:St):List ResultVar->Option (List AV)
 |[]=>some []
 |x::r=>match Ip P s x,zD P s r with
  |some v,some vs=>some (v::vs)
  |_,_=>none
def RE (P:Program)(rs:List ResultVar)(s:St):Option AV:=
 match zD P s rs with
 |some [v]=>some v
 |some vs=>some (.df vs)
 |none=>none
def sy (P:Program)(rs:List ResultVar)(Q:AV->List aA->au->Prop):Exit->St->Prop
 |.ret,s|.normal,s=>match RE P rs s with
  |some v=>Q v s.H s.T
  |none=>False
 |_,_=>False
def Bb (tmps:Array Value):ResultVar->Sem Value
 |.tmp t=>pure (tmps.getD t undef)
 |.cell t ty=>do loadVar ty (<-asAddr (tmps.getD t undef))
def Hd (fn:Func)(tmps:Array Value):results fn tmps=(do let vs<-fn.results.mapM (Bb tmps);pure (if h:vs.size=1 then vs[0] else .tuple vs)):=rfl
theorem ye {C:Cx}{s:St}{L:Lay}{w:World}{a:Act}{fn:Func}{v:AV}(hc:eK C s L w a)(h:RE C.P fn.results.toList s=some v):∃cv,(results fn a.tmps).run C.P w=.ok cv w/\ba L s.H.length s.T w v cv:=by
 have one:∀x v,Ip C.P s x=some v->∃cv,(Bb a.tmps x).run C.P w=.ok cv w/\ba L s.H.length s.T w v cv:=by
  intro x v hx
  cases x with
  |tmp t=>cases hx;exact⟨_,rfl,hc.env t⟩
  |cell t ty=>
   simp only[Ip] at hx
   split at hx
   ·rename_i vs o tO;obtain⟨b,base,cv,e2,hr,lV⟩:=yc hc.mO (hc.env t) tO;obtain⟨c,h1,h2⟩:=vg (P:=C.P) hr lV hx;refine⟨c,?_,h2⟩;simp only[Bb,e2,asAddr,Sem.run_bind,Sem.run_pure,Result.andThen_ok];exact h1
   ·cases hx
 have many:∀l vs,zD C.P s l=some vs->∃cs:List Value,(l.mapM (Bb a.tmps)).run C.P w=.ok cs w/\cs.length=vs.length/\∀(j:Nat)(h:j<vs.length)(h':j<cs.length),ba L s.H.length s.T w (vs[j]'h) (cs[j]'h'):=by
  intro l
  induction l with
  |nil=>intro vs hv;cases hv;exact⟨[],rfl,rfl,λj hj=>by simp at hj⟩
  |cons x r ih=>
   intro vs hv;simp only[zD] at hv
   split at hv
   ·rename_i v' vs' e1 e2
    cases hv
    obtain⟨cv,h1,h2⟩:=one x v' e1;obtain⟨cs,h3,h4,h5⟩:=ih vs' e2;refine⟨cv::cs,?_,by simp[h4],λj hj bQ=>?_⟩
    ·simp only[List.mapM_cons,Sem.run_bind,h1,Result.andThen_ok,h3,Sem.run_pure]
    ·cases j with
     |zero=>exact h2
     |succ j=>exact h5 j (by simpa using hj) (by simpa using bQ)
   ·cases hv
 unfold RE at h
 cases hl:zD C.P s fn.results.toList with
 |none=>rw[hl] at h;cases h
 |some vs=>
  rw[hl] at h;obtain⟨cs,h1,h2,h3⟩:=many _ _ hl;have cY:(results fn a.tmps).run C.P w=.ok (if h:cs.toArray.size=1 then cs.toArray[0] else .tuple cs.toArray) w:=by
   rw[Hd,Array.mapM_eq_mapM_toList];simp only[Sem.run_bind,Sem.run_map,h1,Result.andThen_ok];rfl
  refine⟨_,cY,?_⟩
  match vs,cs,h2,h3,h with
  |[v'],[c],_,h3,h=>cases h;exact h3 0 (by simp) (by simp)
  |[],[],_,h3,h=>cases h;exact .df _ _ rfl (λj hj=>by simp at hj)
  |v1::v2::vr,c1::c2::cr,h2,h3,h=>
   cases h
   rw[ajp (by simp)];exact .df _ _ (by simpa using h2) (λj hj bQ=>by simpa using h3 j hj (by simpa using bQ))
def wS:Nat->List AV->Env
 |_,[]=>[]
 |k,v::r=>(k,v)::wS (k+1) r
theorem HA:∀(l:List AV)(k t:Nat),bH (wS k l) t=if h:k<=t/\t-k<l.length then l[t-k]'h.2 else .top:=by
 intro l
 induction l with
 |nil=>intro k t;simp[wS,bH]
 |cons v r ih=>
  intro k t;simp only[wS,bH]
  by_cases WU:k=t
  ·subst WU;simp
  ·rw[agL WU,ih]
   by_cases h:k+1<=t/\t-(k+1)<r.length
   ·rw[ajo h,ajo (by simp;omega)];have:t-k=(t-(k+1))+1:=by omega
    simp[this]
   ·rw[ajp h,ajp (by simp;omega)]
def bN (H:List aA)(T:au):Prop:=∀(i:Nat)(b:aA),H[i]?=some b->∀v∈b.AY,Below H.length T.length v
theorem ba.toBelow {L:Lay}{N:Nat}{T:au}{w:World}{v:AV}{c:Value}(h:ba L N T w v c):Below N T.length v:=by
 have mem:∀{P:AV->Prop} {cs:List AV},(∀(j:Nat)(h:j<cs.length),P (cs[j]'h))->∀c∈cs,P c:=by
  intro P cs hp c hc;obtain⟨j,hj,e⟩:=agW.1 hc;rw[<-e];exact hp j hj
 have tag:∀{tg:Tag} {n u:Nat} {a:Option Addr} {cap:Nat},lP L T tg n u a cap->∀x,tg=.own x->x<T.length:=by
  intro tg n u a cap ht x e;subst e;obtain⟨u0,z,h0,_⟩:=ht;exact(agC.1 h0).1
 induction h with
 |top v=>exact .top
 |bool b=>exact .bool b
 |int k x=>exact .int k x
 |str s=>exact .str s
 |fV=>exact .fV
 |ptr i o h=>exact .ptr i o h
 |dZ cs o b base f hm hc h1 hr ih=>exact .dZ cs o (mem ih)
 |yZ tg a cap ht=>exact .sl 0 [] tg (λ_ h=>by simp at h) (tag ht)
 |Qi m cs tg b base cap f cE hm hc h1 hr ht ih=>exact .sl m cs tg (mem ih) (tag ht)
 |cN i o m cap h cE=>exact .cN i o m h
 |bJ i m cap h cE=>exact .bJ i m cap h
 |aQ i h=>exact .aQ i h
 |fn f first cz fv cv h1 h2 yv oO UL UK=>exact .fn f first cz (mem λj hj=>UL j hj (by omega)) (mem λj hj=>UK j hj (by omega))
 |ji=>exact .ji
 |mR=>exact .mR
 |AM t v=>exact .AM
 |agg cs cv h1 h2 hr ih=>exact .agg cs (mem λj hj=>ih j hj (by omega))
 |df cs cv h1 hr ih=>exact .df cs (mem λj hj=>ih j hj (by omega))
theorem cg.jC {L:Lay}{H:List aA}{T:au}{w:World}(h:cg L H T w):bN H T:=by
 intro i b hi v hv;have hb:=h.box i _ hi
 cases b with
 |cells vs=>
  obtain⟨c,t,fr,_,_,h3,_,h4,_⟩:=hb;obtain⟨j,hj,e⟩:=agW.1 (show v∈vs from hv);rw[<-e];exact(h4 j hj (by omega)).toBelow
 |iter s pos=>simp at hv
 |map es=>
  obtain⟨dR,_,h2,h3,_⟩:=hb;obtain⟨x,hx,e⟩:=agG.1 hv;obtain⟨j,hj,e2⟩:=agW.1 hx;rw[<-e,<-e2];exact(h3 j hj (by omega)).2.2.toBelow
 |mv m n seen=>simp at hv
 |JK g p=>simp at hv
def ah {P:Program}{f:FuncId}{fn:Func}{c:Code}{args:List AV}{H:List aA}{T:au}{Q:AV->List aA->au->Prop}(nv:Nat)(bx:List Nat){nt:Nat}(TI:fn.ntmps=nt)(hf:P.funcs[f]?=some fn)(hb:fn.body=some c)
  (C5:∀as w,(callFunc f as).run P w=.ok (.enter f as) w) (hn:args.length<=nt) (h:bN H T->AW ⟨P,nt,nv,H.length,T.length,bx⟩ c (sy P fn.results.toList Q) ⟨wS 0 args,H,T⟩):ar P f args H T Q:=by
 subst TI;refine⟨C5,λL w ca hc hl hr=>calls_of_wp hf hb ?_⟩;have gA:eK ⟨P,fn.ntmps,nv,H.length,T.length,bx⟩ ⟨wS 0 args,H,T⟩ L w { tmps:=ca++Array.replicate (fn.ntmps-ca.size) undef,defers:=[] }:=by
  refine⟨agE _,agE _,hc,by simp;omega,rfl,λt=>?_⟩;rw[HA]
  by_cases ht:0<=t/\t-0<args.length
  ·rw[ajo ht];have h2:t<ca.size:=by omega
   have e:(ca++Array.replicate (fn.ntmps-ca.size) undef).getD t undef=ca[t]:=by
    rw[aja,Array.getElem?_append_left h2,ais h2];rfl
   rw[e];exact hr t (by omega) h2
  ·rw[ajp ht];exact .top _
 refine wp_mono (h hc.jC L w _ gA) ?_;rintro e a' w' ⟨s',L',q,yB,dB⟩
 cases e<;>simp only[sy] at q
 case normal=>
  split at q
  ·rename_i v hv;obtain⟨cv,h1,h2⟩:=ye (C:=⟨P,fn.ntmps,nv,H.length,T.length,bx⟩) yB hv;exact⟨yB.defers,cv,h1,v,s'.H,s'.T,L',cv,q,rfl,yB.mO,h2,dB⟩
  ·exact q.elim
 case ret=>
  split at q
  ·rename_i v hv;obtain⟨cv,h1,h2⟩:=ye (C:=⟨P,fn.ntmps,nv,H.length,T.length,bx⟩) yB hv;exact⟨yB.defers,cv,h1,v,s'.H,s'.T,L',cv,q,rfl,yB.mO,h2,dB⟩
  ·exact q.elim
def ae {C:Cx}{id:Nat}{ops:List Oper}{y:Code}{Q:Exit->St->Prop}{s:St}
  (h:∀K:St->Prop,(∀s,AW C y Q s->K s)->ie C ops.toArray K ops ⟨prune C.nv s.e,s.H,s.T⟩):AW C (.seq (.region id ops.toArray false) y) Q s:=
 w8 λK hK=>AF (h K hK)
def aC {C:Cx}{id:Nat}{ops:List Oper}{Q:Exit->St->Prop}{s:St}
  (h:∀K:St->Prop,(∀s,Q .normal s->K s)->ie C ops.toArray K ops ⟨prune C.nv s.e,s.H,s.T⟩):AW C (.region id ops.toArray false) Q s:=
 (AF (Q:=Q) (h (λs=>Q .normal s) λ_ h=>h)).mono λe s q=>by cases e<;>exact q
def aU {C:Cx}{c:Operand}{x y:Code}{Q:Exit->St->Prop}{s:St}{t:Bool}(hc:bR s.e c=.bool t)(h1:t=true->AW C x Q s)(h2:t=false->AW C y Q s):AW C (.cond c x y) Q s:=
 Tq hc (by cases t<;>simp<;>first|exact h1 rfl|exact h2 rfl)
def aH {C:Cx}{c:Operand}{x y:Code}{Q:Exit->St->Prop}{s:St}(hc:bR s.e c=.bool true)(h:AW C x Q s):AW C (.cond c x y) Q s:=aU hc (λ_=>h) (λh=>absurd h (by simp))
def aF {C:Cx}{c:Operand}{x y:Code}{Q:Exit->St->Prop}{s:St}(hc:bR s.e c=.bool false)(h:AW C y Q s):AW C (.cond c x y) Q s:=aU hc (λh=>absurd h (by simp)) (λ_=>h)
def af {C:Cx}{x y:Code}{Q:Exit->St->Prop}{s:St}(h:∀K:St->Prop,(∀s,AW C y Q s->K s)->AW C x (dF K Q) s):AW C (.seq x y) Q s:=w8 h
def ak {C:Cx}{K:St->Prop}{dst:Option Tmp}{g:FuncId}{as:List AV}{s:St}{r:AV}{H':List aA}{T':au}(h:ar C.P g as s.H s.T (Is r H' T'))(k:mA C dst r s.e H' T' K):wy C K dst g as s:=
 ⟨_,h,λ_ _ _ ⟨e1,e2,e3⟩=>by subst e1;subst e2;subst e3;exact k⟩
@[simp] theorem wrap64 {x:Int} (h1:-9223372036854775808<=x) (h2:x<=9223372036854775807):IntKind.i64.wrap x=x:=by
 rw[IntKind.wrap_i64];omega
@[simp] theorem acM {x:Int} (h1:0<=x) (h2:x<=18446744073709551615):IntKind.u64.wrap x=x:=by
 show x % 18446744073709551616=x;exact Int.emod_eq_of_lt h1 (by omega)
def ints (xs:List Int):List AV:=xs.map (.int .i64)
def strs (xs:List (List UInt8)):List AV:=xs.map .str
section
variable {n t : Nat}
@[simp] theorem UE (xs:List Int):(ints xs).length=xs.length:=by simp[ints]
@[simp] theorem UD (xs:List (List UInt8)):(strs xs).length=xs.length:=by simp[strs]
@[simp] theorem aaf:ints []=[]:=rfl
@[simp] theorem ZY:strs []=[]:=rfl
@[simp] theorem aal:sr []=[]:=rfl
def Fh (a b:List Int):ints a++ints b=ints (a++b):=by simp[ints]
def vf (a b:List (List UInt8)):strs a++strs b=strs (a++b):=by simp[strs]
theorem eE (a:List Int)(x:Int):ints a++[.int .i64 x]=ints (a++[x]):=by simp[ints]
def Kn (a:List (List UInt8))(x:List UInt8):strs a++[.str x]=strs (a++[x]):=by simp[strs]
def bM {xs:List Int}{k:Nat}(h:k<xs.length):(ints xs).getD k .top=.int .i64 (xs.getD k 0):=by
 simp[ints,h]
def Ar {xs:List (List UInt8)}{k:Nat}(h:k<xs.length):(strs xs).getD k .top=.str (xs.getD k []):=by
 simp[strs,h]
def aM (n t:Nat)(cs:List AV):Prop:=∀c∈cs,Below n t c
@[simp] theorem Xf:Below n t .top:=.top
@[simp] theorem WI (b:Bool):Below n t (.bool b):=.bool b
@[simp] theorem Xl (k:IntKind) (x:Int):Below n t (.int k x):=.int k x
@[simp] theorem Xg (s:List UInt8):Below n t (.str s):=.str s
@[simp] theorem Xh {i o:Nat}:Below n t (.ptr i o)↔i<n:=⟨λh=>by cases h;assumption,λh=>.ptr i o h⟩
@[simp] theorem Xk {i o m:Nat}:Below n t (.cN i o m)↔i<n:=⟨λh=>by cases h;assumption,λh=>.cN i o m h⟩
@[simp] theorem WG {i:Nat}:Below n t (.aQ i)↔i<n:=⟨λh=>by cases h;assumption,λh=>.aQ i h⟩
@[simp] theorem AE {i m cap:Nat}:Below n t (.bJ i m cap)↔i<n:=⟨λh=>by cases h;assumption,λh=>.bJ i m cap h⟩
@[simp] theorem Xm {cs:List AV}:Below n t (.agg cs)↔aM n t cs:=⟨λh=>by cases h;assumption,λh=>.agg cs h⟩
@[simp] theorem Xe {cs:List AV}:Below n t (.df cs)↔aM n t cs:=⟨λh=>by cases h;assumption,λh=>.df cs h⟩
@[simp] theorem QI {m:Nat} {cs:List AV}:Below n t (.sl m cs .none)↔aM n t cs:=⟨λh=>by cases h;assumption,λh=>.sl m cs .none h (λx e=>by cases e)⟩
@[simp] theorem QJ {m:Nat} {cs:List AV}:Below n t (.sl m cs .full)↔aM n t cs:=⟨λh=>by cases h;assumption,λh=>.sl m cs .full h (λx e=>by cases e)⟩
@[simp] theorem Tw {m k:Nat} {cs:List AV}:Below n t (.sl m cs (.own k))↔aM n t cs/\k<t:=
 ⟨λh=>by cases h with|sl _ _ _ h1 h2=>exact⟨h1,h2 k rfl⟩,λh=>.sl m cs (.own k) h.1 (λx e=>by cases e;exact h.2)⟩
@[simp] theorem abY {f:FuncId} {a b:List AV}:Below n t (.fn f a b)↔aM n t a/\aM n t b:=⟨λh=>by cases h;exact⟨‹_›,‹_›⟩,λh=>.fn f a b h.1 h.2⟩
@[simp] theorem WH {xs:List Int}:aM n t (ints xs):=by
 intro c hc;simp only[ints,agG] at hc;obtain⟨x,_,rfl⟩:=hc;exact .int _ _
@[simp] theorem HT {xs:List (List UInt8)}:aM n t (strs xs):=by
 intro c hc;simp only[strs,agG] at hc;obtain⟨x,_,rfl⟩:=hc;exact .str _
end
@[simp] theorem Ty {n t:Nat}:aM n t []:=λ_ h=>by simp at h
@[simp] theorem QK {n t:Nat} {c:AV} {cs:List AV}:aM n t (c::cs)↔Below n t c/\aM n t cs:=by simp[aM]
@[simp] theorem MH {n t:Nat} {a b:List AV}:aM n t (a++b)↔aM n t a/\aM n t b:=by
 simp only[aM,agR];exact⟨λh=>⟨λc hc=>h c (.inl hc),λc hc=>h c (.inr hc)⟩,λh c hc=>hc.elim (h.1 c) (h.2 c)⟩
@[simp] theorem Tx {n t k:Nat} {c:AV} (h:Below n t c):aM n t (List.replicate k c):=λx hx=>by rw[List.eq_of_mem_replicate hx];exact h
theorem aM.set {n t k:Nat}{c:AV}{cs:List AV}(h:aM n t cs)(hc:Below n t c):aM n t (cs.set k c):=λx hx=>by
 rcases List.mem_or_eq_of_mem_set hx with h1|h1
 ·exact h x h1
 ·rw[h1];exact hc
def bC (n t:Nat)(e:Env):Env->Prop
 |[]=>True
 |(s,v)::r=>(v=bH e s\/v=cK (bH e s))/\Below n t v/\bC n t e r
theorem LQ {n t:Nat}{e:Env}:∀{e':Env},bC n t e e'->∀s,bH e' s=.top\/((bH e' s=bH e s\/bH e' s=cK (bH e s))/\Below n t (bH e' s)):=by
 intro e'
 induction e' with
 |nil=>intro _ s;exact .inl rfl
 |cons x r ih=>
  obtain⟨s0,v⟩:=x;intro h s
  by_cases hs:s0=s
  ·subst hs;simp only[bH,ain];exact .inr ⟨h.1,h.2.1⟩
  ·simp only[bH,agL hs];exact ih h.2.2 s
@[simp] theorem adT {e:Env} {t:Tmp}:bR e (.tmp t)=bH e t:=rfl
@[simp] theorem Xo {e:Env} {v:Value}:bR e (.const v)=QO v:=rfl
@[simp] theorem ab2 {e:Env} {f:FuncId}:bR e (.func f)=.fn f [] []:=rfl
def gvB:AV->Option (Option Bool)
 |.bool b=>some (some b)
 |.df []=>some none
 |_=>none
def gvO (e:Env):Option Tmp->Option (Option Bool)
 |some d=>gvB (bH e d)
 |none=>none
@[simp] theorem acU {all:Array Oper} {j:Nat} {e:Env}:o6 all j e=gvO e ((all[j]?).bind (·.dst)):=by
 unfold o6 gvO
 cases (all[j]?).bind (·.dst) with
 |none=>rfl
 |some d=>
  simp only;generalize bH e d=x
  cases x<;>first|rfl|(rename_i cs;cases cs<;>rfl)
@[simp] theorem aag {e:Env} {d:Tmp}:gvO e (some d)=gvB (bH e d):=rfl
@[simp] theorem aah {e:Env}:gvO e none=none:=rfl
@[simp] theorem aaj {b:Bool}:gvB (.bool b)=some (some b):=rfl
@[simp] theorem aai:gvB (.df [])=some none:=rfl
section
variable {C : Cx} {all : Array Oper} {K : St -> Prop} {o : Oper} {r : List Oper} {e : Env} {H : List aA} {T : au}
@[simp] theorem ab1:ie C all K [] ⟨e,H,T⟩=K ⟨e,H,T⟩:=rfl
@[simp] theorem Xn:ie C all K (o::r) ⟨e,H,T⟩=(
  let exec:Prop:=match gL o e with
   |some (g,as)=>wy C (ie C all K r) o.dst g as ⟨e,H,T⟩
   |none=>match JN C.P o e with
    |some (n,q)=>∀b:Bool,(0<n->b=!q)->mA C o.dst (.bool b) e H T (ie C all K r)
    |none=>match JP C.P C.bx o e H with
     |some (m,ys)=>∀k:Nat,mA C o.dst (.cN H.length 0 m) e (H++[.cells (ys++List.replicate k .top)]) T (ie C all K r)
     |none=>match kJ C.P C.bx o e H with
      |some (m,ys,z)=>∀nc:Nat,m<=nc->mA C o.dst (.bJ H.length m nc) e (H++[.cells (ys++List.replicate ((nc-m)*z) .top)]) T (ie C all K r)
      |none=>match ss o e with
       |some (t,t2,i,n,cap,x)=>VQ C (ie C all K r) o.dst t t2 i n cap x e H T
       |none=>match w9 o e H with
        |some (i,m,n,seen,es)=>Iv C (ie C all K r) o.dst i m n seen es e H T
        |none=>match Np C.P C.bx o e H T with
         |some (v,H',T')=>mA C o.dst v e H' T' (ie C all K r)
         |none=>False
  match o.guard with
  |none=>exec
  |some (j,want)=>match o6 all j e with
   |some b=>if b=some want then exec else mA C o.dst (.df []) e H T (ie C all K r)
   |none=>False):=rfl
end
attribute [simp] Iq xd JN gL w9 ME prune wS mA QO yG lN bH Ir RH RG RD aun ue qZ jP No Va Be cK oL u7 oK Bg Bh fM Bf gN Vm
 Np Bi pz rI Ux setMany mK oc sP jN Bp RF Yj JO tA JP ss kJ oF Iu It pO pD RE zD Ip sy dF GC B9 Ml bC
section
variable {P : Program}
def rk {o:Oper}{e e':Env}(h:∀x∈o.op.operands,bR e x=bR e' x):gL o e=gL o e':=by
 unfold gL
 cases ho:o.op<;>try rfl
 rename_i c;rw[ho] at h;obtain⟨callee,args,Cn⟩:=c
 cases callee<;>try rfl
 rename_i f;have h1:=h f (by simp[Op.operands,Call.operands]);have h2:args.toList.map (bR e)=args.toList.map (bR e'):=ahh λx hx=>h x (by simp only[Op.operands,Call.operands];exact aiz.2 (.inr (ah7.1 hx)));simp only[h1,h2]
theorem AI {o:Oper}{e e':Env}(H:List aA)(T:au)(h:∀x∈o.op.operands,bR e x=bR e' x):ME P o e H T=ME P o e' H T:=by
 have tI:∀(ps:Array (Nat×Operand)),(∀x∈(ps.toList.map (·.2)).toArray,bR e x=bR e' x)->ps.toList.map (fun(x:Nat×Operand)=>(x.1,bR e x.2))=ps.toList.map (fun(x:Nat×Operand)=>(x.1,bR e' x.2)):=by
  intro ps hp;refine ahh λx hx=>?_;rw[hp x.2 (by simp;exact⟨x.1,ah7.1 hx⟩)]
 have Gd:∀(q:Option Operand),(∀x∈q.toArray,bR e x=bR e' x)->q.map (bR e)=q.map (bR e'):=by
  intro q hq
  cases q with
  |none=>rfl
  |some x=>simp only[aip];rw[hq x (by simp)]
 unfold ME
 cases ho:o.op<;>rw[ho] at h<;>(try simp only[Op.operands] at h)<;>try rfl
 case next x s=>
  have h0:=h x (by simp)
  cases s
  ·rfl
  ·simp only[h0]
 case makeMap t r=>cases r<;>rfl
 case build t ps=>simp only[tI ps h]
 case buildSlice t n ps=>simp only[tI ps h]
 case makeFunc fn first cz=>
  cases fn<;>try rfl
  have h1:first.toList.map (bR e)=first.toList.map (bR e'):=ahh λx hx=>h x (aiz.2 (.inl (ah7.1 hx)));have h2:cz.toList.map (bR e)=cz.toList.map (bR e'):=ahh λx hx=>h x (aiz.2 (.inr (ah7.1 hx)));simp only[h1,h2]
 case slice t x lo hi mx=>
  have h1:=Gd lo (λy hy=>h y (by simp only[aiz];exact .inl (.inl (.inr hy))));have h2:=Gd hi (λy hy=>h y (by simp only[aiz];exact .inl (.inr hy)));have h3:=Gd mx (λy hy=>h y (by simp only[aiz];exact .inr hy));have h0:=h x (by simp);simp only[h0,h1,h2,h3]
 case call c=>
  obtain⟨callee,args,Cn⟩:=c
  cases callee<;>try rfl
  have h2:args.toList.map (bR e)=args.toList.map (bR e'):=ahh λx hx=>h x (by simp only[Call.operands];exact aiz.2 (.inr (ah7.1 hx)));simp only[h2]
 all_goals (simp only[List.mem_toArray,ag6,List.not_mem_nil,ajn,forall_eq_or_imp,forall_eq] at h)
 all_goals first
  |simp only[h]
  |(obtain⟨h1,h2⟩:=h;simp only[h1,h2])
  |(obtain⟨h1,h2,h3⟩:=h;simp only[h1,h2,h3])
def dL (P:Program)(o:Oper)(e:Env)(H:List aA)(T:au)(v:AV)(H':List aA)(T':au):Prop:=
 match gL o e with
 |some (g,as)=>ar P g as H T (Is v H' T')
 |none=>ME P o e H T=some (v,H',T')
def vw {o:Oper}{e e':Env}{H H':List aA}{T T':au}{v:AV}(h:∀x∈o.op.operands,bR e x=bR e' x)(k:dL P o e H T v H' T'):dL P o e' H T v H' T':=by
 unfold dL at k ⊢;rw[<-rk h,<-AI H T h];exact k
theorem tz {o:Oper}{e:Env}{H H':List aA}{T T':au}{v:AV}(k:dL P o e H T v H' T'){L:Lay}{w:World}{a:Act}(hc:cg L H T w)(he:fm L H.length T w e a){K:Act->World->Prop}{Q:Exit->Act->World->Prop}
  (hk:∀cv w' L',cg L' H' T' w'->ba L' H'.length T' w' v cv->Ev H.length T.length L H.length T w L' H'.length T' w'->K (a.put o.dst cv) w'):o.wp P a w K Q:=by
 unfold dL at k
 split at k
 ·rename_i g as jm;obtain⟨C5,hq⟩:=k;unfold gL at jm
  split at jm
  ·rename_i f args Cn lE
   split at jm
   ·rename_i g' first cz hf
    cases jm
    have Qz:=he.bR f;rw[hf] at Qz;generalize hfv:a.eval f=fv at Qz
    cases Qz with
    |fn _ _ _ fa ca h1 h2 yv oO=>
     have cY:(execOp a.eval o).run P w=.ok (.enter g (fa++args.map a.eval++ca)) w:=by
      simp only[execOp,lE,resolve,hfv,Deferred.ofValue,Sem.run_bind,Sem.run_pure,Result.andThen_ok,invoke,C5]
     unfold Oper.wp;rw[cY,Oper.upon_enter];have fh:CQ L H.length T w (first++args.toList.map (bR e)++cz) (fa++args.map a.eval++ca).toList:=by
      simp only[Array.toList_append,Array.toList_map];refine(CQ.append ⟨by simpa using h1,λj hj bQ=>by simpa using yv j hj (by simpa using bQ)⟩ ⟨by simp,λj hj bQ=>?_⟩).append ⟨by simpa using h2,λj hj bQ=>by simpa using oO j hj (by simpa using bQ)⟩;simp only[ahv];exact he.bR _
     refine(hq L w _ hc (by simpa using fh.1) (λj hj bQ=>by
      have h3:=fh.2 j hj (by rw[Array.length_toList];exact bQ)
      rwa [ahA] at h3)).mono ?_
     rintro en w' ⟨rr,H2,T2,L',cv,⟨e1,e2,e3⟩,rfl,cR,dG,dB⟩;subst e1;subst e2;subst e3;exact hk cv w' L' cR dG dB
   ·cases jm
  ·cases jm
 ·obtain⟨n,cv,w',L',cY,hn,cR,dG,dB⟩:=AH hc he k;unfold Oper.wp;rw[cY];have fin:=hk cv w' L' cR dG dB;rcases hn with rfl|⟨rfl,rfl⟩
  ·exact fin
  ·exact fin
end
structure bX where
 o:Oper
 e:Env
 run:Bool
 v:AV
 k:Nat
 bI:Bool
abbrev mP:=List aA×au×Nat
def fu:List Oper->List Nat->List Nat
 |[],acc=>acc
 |o::r,acc=>fu r (acc++[o.after.foldl (λs e=>if Region.binds .any e then s ||| 2 ^ e.on ||| acc.getD e.on 0 else s) 0])
def nq (A:List Nat)(j i:Nat):Bool:=(A.getD i 0).testBit j
def NJ (A:List Nat)(bI:List Nat)(i:Nat):Nat:=(bI.filter λe=>nq A e i).length
def iV (ops : List Oper) (bI : List Nat) (lo : List Nat) (na : List (List Nat)) : Bool :=
  let A := fu ops []
  let n := ops.length
  ((List.range n).all λi => (List.range n).all λj => i == j || (match (ops.getD i default).dst, (ops.getD j default).dst with | some d, some d' => d != d' | _, _ => true)) &&
  ((List.range n).all λi => ((ops.getD i default).looksAt ops.toArray).all λt => (List.range n).all λj => i == j || (ops.getD j default).dst != some t || (j < i && nq A j i) || (i < j && nq A i j)) &&
  ((List.range n).all λi => ((ops.getD i default).looksAt ops.toArray).all λt => (ops.getD i default).dst != some t) &&
  ((List.range bI.length).all λk => k == 0 || nq A (bI.getD (k - 1) 0) (bI.getD k 0)) && (bI.all λe => e < n) && (List.range bI.length).all (λk => k == 0 || bI.getD (k - 1) 0 < bI.getD k 0) &&
  ((List.range n).all λi => lo.getD i 0 <= NJ A bI i) &&
  ((List.range bI.length).all λk => (List.range (bI.getD k 0)).all λj => bI.contains j || (na.getD k []).contains j || nq A j (bI.getD k 0)) &&
  ((List.range n).all λi => (ops.getD i default).after.all λe => !Region.binds .any e || e.on < i) && Region.noSelect ops.toArray
def Ru (P:Program)(o:Oper)(e:Env)(v:AV):List mP->Prop
 |[]=>True
 |(H,T,_)::r=>dL P o e H T v H T/\Ru P o e v r
def Rm (P:Program)(aR:List bX)(H:List aA)(T:au):List Nat->Prop
 |[]=>True
 |j::r=>(match aR[j]? with
  |some x=>x.run=true->x.bI=false->dL P x.o x.e H T x.v H T
  |none=>True)/\Rm P aR H T r
def wE (nt:Nat)(dst:Option Tmp)(v:AV)(e:Env)(k:Env->Prop):Prop:=
 match dst with
 |some d=>d<nt/\k (lN e d v)
 |none=>k e
structure vX where
 C:Cx
 all:Array Oper
 bI:List Nat
 lo:List Nat
 na:List (List Nat)
 K:St->Prop
def AU (D:vX)(next:List bX->List mP->Env->Prop)(o:Oper)(aR:List bX)(sts:List mP)(e:Env)(run:Bool)(v:AV)(H':List aA)(T':au):Prop:=
 if D.bI.contains aR.length then
  Rm D.C.P aR H' T' (D.na.getD (sts.length-1) [])/\wE D.C.nt o.dst v e (next (aR++[⟨o,e,run,v,sts.length-1,true⟩]) (sts++[(H',T',aR.length)]))
 else
  (run=true->Ru D.C.P o e v ((sts.drop (D.lo.getD aR.length 0)).dropLast))/\wE D.C.nt o.dst v e (next (aR++[⟨o,e,run,v,sts.length-1,false⟩]) sts)
def NK (D:vX)(next:List bX->List mP->Env->Prop)(o:Oper)(aR:List bX)(sts:List mP)(e:Env)(g:FuncId)(as:List AV)(H:List aA)(T:au):Prop:=
 ∃v H' T',ar D.C.P g as H T (Is v H' T')/\(D.bI.contains aR.length=false->H'=H/\T'=T)/\AU D next o aR sts e true v H' T'
def kH (D:vX)(next:List bX->List mP->Env->Prop)(o:Oper)(aR:List bX)(sts:List mP)(e:Env)(H:List aA)(T:au):Prop:=
 match gL o e with
 |some (g,as)=>NK D next o aR sts e g as H T
 |none=>match ME D.C.P o e H T with
  |some (v,H',T')=>(D.bI.contains aR.length=false->H'=H/\T'=T)/\AU D next o aR sts e true v H' T'
  |none=>False
def gK (D:vX):List Oper->List bX->List mP->Env->Prop
 |[],_,sts,e=>match sts.getLast? with
  |some (H,T,_)=>D.K ⟨e,H,T⟩
  |none=>False
 |o::r,aR,sts,e=>match sts.getLast? with
  |some (H,T,_)=>match o.guard with
   |none=>kH D (gK D r) o aR sts e H T
   |some (j,want)=>match o6 D.all j e with
    |some b=>if b=some want then kH D (gK D r) o aR sts e H T else AU D (gK D r) o aR sts e false (.df []) H T
    |none=>False
  |none=>False
structure Bj (nx:Nat)(D:vX)(ops:List Oper)(sts:List mP)(aR:List bX)(i:Nat)(x:bX):Prop where
 o:ops[i]?=some x.o
 k:x.k<sts.length
 bI:x.bI=D.bI.contains i
 gate:match x.o.guard with
  |none=>x.run=true
  |some (j,want)=>∃b,o6 D.all j x.e=some b/\x.run=(b==some want)
 dst:∀d,x.o.dst=some d->d<D.C.nt
 skip:x.run=false->x.v=.df []
 still:x.run=true->x.bI=false->∀k H T e,sts[k]?=some (H,T,e)->D.lo.getD i 0<=k->(k<=x.k\/(D.na.getD (k-1) []).contains i=true)->dL D.C.P x.o x.e H T x.v H T
 effect:x.bI=true->∃H T e H' T',sts[x.k]?=some (H,T,e)/\sts[x.k+1]?=some (H',T',i)/\(x.run=true->i≠nx->dL D.C.P x.o x.e H T x.v H' T')/\(x.run=false->H'=H/\T'=T)
def Ik (dst:Option Tmp)(e:Env)(v:AV):Env:=
 match dst with
 |some d=>lN e d v
 |none=>e
def xb (e:Env)(x:bX):Env:=Ik x.o.dst e x.v
def aW:Env->List bX->Env
 |e,[]=>e
 |e,x::r=>aW (xb e x) r
theorem iM (l:List bX):∀(e:Env)(x:bX),aW e (l++[x])=xb (aW e l) x:=by
 induction l with
 |nil=>intro e x;rfl
 |cons y r ih=>intro e x;exact ih _ x
def vq (e:Env)(x:bX)(t:Nat):bH (xb e x) t=if x.o.dst=some t then x.v else bH e t:=by
 unfold xb Ik
 split
 ·rename_i d hd
  by_cases h:d=t
  ·subst h;simp[hd,cM]
  ·rw[bE _ _ _ _ h,agL (by rw[hd];intro e;exact h (by injection e))]
 ·rename_i hd;simp[hd]
theorem cI:∀(l:List bX)(e:Env)(t:Nat),(∀x∈l,x.o.dst≠some t)->bH (aW e l) t=bH e t:=by
 intro l
 induction l with
 |nil=>intro e t _;rfl
 |cons x r ih=>
  intro e t h;rw[aW,ih _ _ (λy hy=>h y (by simp[hy])),vq,agL (h x (by simp))]
theorem eT:∀(l:List bX)(e:Env)(t j:Nat)(x:bX),l[j]?=some x->x.o.dst=some t->(∀i y,l[i]?=some y->y.o.dst=some t->i=j)->bH (aW e l) t=x.v:=by
 intro l
 induction l with
 |nil=>intro e t j x h;simp at h
 |cons y r ih=>
  intro e t j x h hd hu;rw[aW]
  cases j with
  |zero=>
   simp at h;subst h;rw[cI r _ t (λz hz H7=>by
    obtain⟨i,hi,e1⟩:=agW.1 hz;have:=hu (i+1) z (by simp[<-e1,hi]) H7;omega),vq,agN hd]
  |succ j=>
   exact ih _ t j x (by simpa using h) hd (λi z hi hz=>by have:=hu (i+1) z (by simpa using hi) hz;omega)
structure aeV (D:vX)(aR:List bX)(sts:List mP):Prop where
 len:sts.length=1+(D.bI.filter (·<aR.length)).length
 k:∀(i:Nat)(x:bX),aR[i]?=some x->x.k=(D.bI.filter (·<i)).length
def vS {bI:List Nat}{i:Nat}(h:bI.contains i=false):(bI.filter (·<i+1)).length=(bI.filter (·<i)).length:=by
 congr 1
 apply ajg;intro x hx;have:x≠i:=by rintro rfl;simp at h;exact h hx
 simp;omega
def jH (bI:List Nat):Bool:=(List.range bI.length).all λk=>(bI.filter (·<bI.getD k 0)).length==k&&(bI.filter (·<bI.getD k 0+1)).length==k+1
def oI {bI:List Nat}(h:jH bI=true){i:Nat}(hi:bI.contains i=true):bI[(bI.filter (·<i)).length]?=some i/\(bI.filter (·<i+1)).length=(bI.filter (·<i)).length+1:=by
 simp only[aik] at hi;obtain⟨k,hk,e⟩:=agW.1 hi;have:=aha.1 h k (ag3.2 hk);simp only[agO,aiu,agB,agD hk,aie,e] at this;rw[this.1];exact⟨by rw[agD hk,e],this.2⟩
theorem Lk {P:Program}{aR:List bX}{H:List aA}{T:au}:∀{l:List Nat},Rm P aR H T l->∀j,l.contains j=true->∀x,aR[j]?=some x->x.run=true->x.bI=false->dL P x.o x.e H T x.v H T:=by
 intro l
 induction l with
 |nil=>intro _ j hj;simp at hj
 |cons y r ih=>
  intro h j hj x hx h1 h2;obtain⟨g1,g2⟩:=h
  by_cases hy:j=y
  ·subst hy;rw[hx] at g1;exact g1 h1 h2
  ·exact ih g2 j (by simp only[List.contains_cons] at hj;simpa[hy] using hj) x hx h1 h2
theorem LO {P:Program}{o:Oper}{e:Env}{v:AV}:∀{l:List mP},Ru P o e v l->∀(j:Nat)(st:mP),l[j]?=some st->dL P o e st.1 st.2.1 v st.1 st.2.1:=by
 intro l
 induction l with
 |nil=>intro _ j st h;simp at h
 |cons y r ih=>
  obtain⟨H,T,i⟩:=y;intro h j st hj
  cases j with
  |zero=>simp at hj;subst hj;exact h.1
  |succ j=>exact ih h.2 j st (by simpa using hj)
structure ik (nx:Nat)(D:vX)(ops:List Oper)(e0:Env)(aR:List bX)(sts:List mP)(e:Env):Prop where
 st:aeV D aR sts
 Ji:∀(i:Nat)(x:bX),aR[i]?=some x->Bj nx D ops sts aR i x
 JM:∀(i:Nat)(x:bX),aR[i]?=some x->x.e=aW e0 (aR.take i)
 cur:e=aW e0 aR
theorem qo {nt:Nat}{dst:Option Tmp}{v:AV}{e:Env}{k:Env->Prop}(h:wE nt dst v e k):(∀d,dst=some d->d<nt)/\k (Ik dst e v):=by
 cases dst with
 |none=>exact⟨λd e=>(by cases e),h⟩
 |some d=>exact⟨λd' e=>(by cases e;exact h.1),h.2⟩
def qy {nx:Nat}{D:vX}{ops:List Oper}{e0:Env}{aR:List bX}{sts:List mP}{e:Env}{next:List bX->List mP->Env->Prop}{o:Oper}{run:Bool}{v:AV}{H H':List aA}{T T':au}{i0:Nat}(kD:jH D.bI=true)(lF:D.bI.contains nx=true\/ops.length<=nx)
  (hw:ik nx D ops e0 aR sts e) (nB:ops[aR.length]?=some o) (dw:sts.getLast?=some (H,T,i0))
  (hgate:match o.guard with|none=>run=true|some (j,want)=>∃b,o6 D.all j e=some b/\run=(b==some want)) (Nw:run=false->v=.df []/\H'=H/\T'=T) (cY:run=true->aR.length≠nx->dL D.C.P o e H T v H' T')
  (We:D.bI.contains aR.length=false->H'=H/\T'=T) (h:AU D next o aR sts e run v H' T') :
  ∃bU ew e',ik nx D ops e0 bU ew e'/\bU.length=aR.length+1/\next bU ew e'/\ew[0]?=sts[0]?/\ew≠[]/\(∃x,bU=aR++[x]/\(D.bI.contains aR.length=true->x=⟨o,e,run,v,sts.length-1,true⟩))/\(∃q,ew=sts++q)/\(D.bI.contains aR.length=true->ew=sts++[(H',T',aR.length)]):=by
 have dN:sts≠[]:=by intro e;rw[e] at dw;cases dw
 have eO:0<sts.length:=ahN.2 dN;have jl:sts[sts.length-1]?=some (H,T,i0):=by rw[<-dw,ajj]
 have hlen:=hw.st.len;unfold AU at h
 split at h
 ·rename_i wH;obtain⟨hna,iS⟩:=h;obtain⟨lL,wQ⟩:=qo iS;obtain⟨ek,es⟩:=oI kD wH;refine⟨_,_,_,⟨⟨?_,λi x hx=>?_⟩,λi x hx=>?_,λi x hx=>?_,?_⟩,by simp,wQ,by rw[agK eO],by simp,⟨_,rfl,λ_=>rfl⟩,⟨_,rfl⟩,λ_=>rfl⟩
  ·simp only[agF,ahw,hlen];rw[es];omega
  ·rcases agM i aR.length with hi|hi
   ·rw[agK hi] at hx;exact hw.st.k i x hx
   ·have iP:i=aR.length:=by have:=(agC.1 hx).1;simp at this;omega
    subst iP;simp at hx;subst hx;simp;omega
  ·rcases agM i aR.length with hi|hi
   ·rw[agK hi] at hx;have hr:=hw.Ji i x hx;refine⟨hr.o,by simp;have:=hr.k;omega,hr.bI,hr.gate,hr.dst,hr.skip,λh1 h2 k H2 T2 e2 hk Qv tJ=>?_,λh1=>?_⟩
    ·rcases agM k sts.length with gO|gO
     ·rw[agK gO] at hk;exact hr.still h1 h2 k H2 T2 e2 hk Qv tJ
     ·have nw:k=sts.length:=by have:=(agC.1 hk).1;simp at this;omega
      subst nw;simp at hk;obtain⟨rfl,rfl,rfl⟩:=hk;rcases tJ with tJ|tJ
      ·have:=hr.k;omega
      ·exact Lk hna i tJ x hx h1 h2
    ·obtain⟨Ha,Ta,ea,Hb,Tb,g1,g2,g3,g4⟩:=hr.effect h1;have l1:=(agC.1 g1).1;have l2:=(agC.1 g2).1;exact⟨Ha,Ta,ea,Hb,Tb,by rw[agK l1];exact g1,by rw[agK l2];exact g2,g3,g4⟩
   ·have iP:i=aR.length:=by have:=(agC.1 hx).1;simp at this;omega
    subst iP;simp at hx;subst hx;refine⟨nB,(by rw[agF,ahw];exact(by omega:sts.length-1<sts.length+1)),wH.symm,hgate,lL,λhr=>(Nw hr).1,λ_ h2=>(by cases h2),λ_=>⟨H,T,i0,H',T',by show (sts++[_])[sts.length-1]?=_;rw[agK (by omega)];exact jl,?_,cY,λhr=>(Nw hr).2⟩⟩;show (sts++[_])[sts.length-1+1]?=_;rw[show sts.length-1+1=sts.length by omega];simp
  ·rcases agM i aR.length with hi|hi
   ·rw[agK hi] at hx;rw[ahL (by omega)];exact hw.JM i x hx
   ·have iP:i=aR.length:=by have:=(agC.1 hx).1;simp at this;omega
    subst iP;simp at hx;subst hx;rw[ahL (agE _),agZ];exact hw.cur
  ·rw[iM,<-hw.cur];rfl
 ·rename_i wH;simp only[Bool.not_eq_true] at wH;obtain⟨hex,iS⟩:=h;obtain⟨lL,wQ⟩:=qo iS;obtain⟨rfl,rfl⟩:=We wH;refine⟨_,_,_,⟨⟨?_,λi x hx=>?_⟩,λi x hx=>?_,λi x hx=>?_,?_⟩,by simp,wQ,rfl,dN,⟨_,rfl,λh=>absurd h (by rw[wH];decide)⟩,⟨[],by simp⟩,λh=>absurd h (by rw[wH];decide)⟩
  ·simp only[agF,ahw,hlen];rw[vS wH]
  ·rcases agM i aR.length with hi|hi
   ·rw[agK hi] at hx;exact hw.st.k i x hx
   ·have iP:i=aR.length:=by have:=(agC.1 hx).1;simp at this;omega
    subst iP;simp at hx;subst hx;simp;omega
  ·rcases agM i aR.length with hi|hi
   ·rw[agK hi] at hx;have hr:=hw.Ji i x hx;exact⟨hr.o,hr.k,hr.bI,hr.gate,hr.dst,hr.skip,hr.still,hr.effect⟩
   ·have iP:i=aR.length:=by have:=(agC.1 hx).1;simp at this;omega
    subst iP;simp at hx;subst hx;refine⟨nB,(by exact(by omega:sts.length-1<sts.length)),wH.symm,hgate,lL,λhr=>(Nw hr).1,λh1 _ k H2 T2 e2 hk Qv tJ=>?_,λh=>(by cases h)⟩;simp only at hk Qv tJ h1 ⊢;have gO:=(agC.1 hk).1;rcases agM k (sts.length-1) with aZ|od
    ·have fX:((sts.drop (D.lo.getD aR.length 0)).dropLast)[k-D.lo.getD aR.length 0]?=some (H2,T2,e2):=by
      rw[List.getElem?_dropLast,agN (by rw[ahp];omega),aii,show D.lo.getD aR.length 0+(k-D.lo.getD aR.length 0)=k by omega];exact hk
     exact LO (hex h1) _ _ fX
    ·have nw:k=sts.length-1:=by omega
     subst nw;rw[jl] at hk
     cases hk
     exact cY h1 (λe=>by
      rcases lF with lF|lF
      ·rw[e,lF] at wH;cases wH
      ·have:=(agC.1 nB).1;omega)
  ·rcases agM i aR.length with hi|hi
   ·rw[agK hi] at hx;rw[ahL (by omega)];exact hw.JM i x hx
   ·have iP:i=aR.length:=by have:=(agC.1 hx).1;simp at this;omega
    subst iP;simp at hx;subst hx;rw[ahL (agE _),agZ];exact hw.cur
  ·rw[iM,<-hw.cur];rfl
theorem vx {nx:Nat}{D:vX}{ops:List Oper}{e0:Env}(kD:jH D.bI=true)(lF:D.bI.contains nx=true\/ops.length<=nx):∀(l:List Oper)(aR:List bX)(sts:List mP)(e:Env),ik nx D ops e0 aR sts e->ops.drop aR.length=l->aR.length<=ops.length->gK D l aR sts e->
  ∃bU ew H T i,ik nx D ops e0 bU ew (aW e0 bU)/\bU.length=ops.length/\ew.getLast?=some (H,T,i)/\D.K ⟨aW e0 bU,H,T⟩/\ew[0]?=sts[0]?/\(∃q,bU=aR++q)/\∃q,ew=sts++q:=by
 intro l
 induction l with
 |nil=>
  intro aR sts e hw hl hle h;unfold gK at h
  split at h
  ·rename_i H T i dw;have hlen:aR.length=ops.length:=by
    have:=congrArg List.length hl;simp at this;omega
   have hc:=hw.cur;subst hc;exact⟨aR,sts,H,T,i,hw,hlen,dw,h,rfl,⟨[],by simp⟩,⟨[],by simp⟩⟩
  ·exact h.elim
 |cons o r ih=>
  intro aR sts e hw hl hle h;have aZ:aR.length<ops.length:=by
   have:=congrArg List.length hl;simp at this;omega
  have nB:ops[aR.length]?=some o:=by
   have:=congrArg (λl=>l[0]?) hl;simpa using this
  have qY:ops.drop (aR.length+1)=r:=by
   have:=congrArg (λl=>l.drop 1) hl;simpa[aiY,Nat.add_comm] using this
  have fin:∀{H T i0 run v H' T'},sts.getLast?=some (H,T,i0)->(match o.guard with|none=>run=true|some (j,want)=>∃b,o6 D.all j e=some b/\run=(b==some want))->(run=false->v=.df []/\H'=H/\T'=T)->(run=true->aR.length≠nx->dL D.C.P o e H T v H' T')->
    (D.bI.contains aR.length=false->H'=H/\T'=T)->AU D (gK D r) o aR sts e run v H' T'->∃bU ew H T i,ik nx D ops e0 bU ew (aW e0 bU)/\bU.length=ops.length/\ew.getLast?=some (H,T,i)/\D.K ⟨aW e0 bU,H,T⟩/\ew[0]?=sts[0]?/\(∃q,bU=aR++q)/\∃q,ew=sts++q:=by
   intro H T i0 run v H' T' dw hg h1 h2 h3 h4;obtain⟨bU,ew,e',g1,g2,g3,g4,_,⟨x9,g9,_⟩,⟨q8,g8⟩,_⟩:=qy kD lF hw nB dw hg h1 h2 h3 h4;obtain⟨r2,s2,H2,T2,i2,k1,k2,k3,k4,k5,⟨q6,k6⟩,⟨q7,k7⟩⟩:=ih bU ew e' g1 (by rw[g2];exact qY) (by omega) g3;exact⟨r2,s2,H2,T2,i2,k1,k2,k3,k4,k5.trans g4,⟨_,by rw[k6,g9,agV]⟩,⟨_,by rw[k7,g8,agV]⟩⟩
  have exec:∀{H T i0},sts.getLast?=some (H,T,i0)->(match o.guard with|none=>true=true|some (j,want)=>∃b,o6 D.all j e=some b/\true=(b==some want))->kH D (gK D r) o aR sts e H T->
    ∃bU ew H T i,ik nx D ops e0 bU ew (aW e0 bU)/\bU.length=ops.length/\ew.getLast?=some (H,T,i)/\D.K ⟨aW e0 bU,H,T⟩/\ew[0]?=sts[0]?/\(∃q,bU=aR++q)/\∃q,ew=sts++q:=by
   intro H T i0 dw hg hx;unfold kH at hx
   split at hx
   ·rename_i g as jm;obtain⟨v,H',T',hc,hs,hd⟩:=hx;refine fin (run:=true) dw hg (λe=>by cases e) (λ_ _=>?_) hs hd;unfold dL;rw[jm];exact hc
   ·rename_i jm
    split at hx
    ·rename_i v H' T' lE;refine fin (run:=true) dw hg (λe=>by cases e) (λ_ _=>?_) hx.1 hx.2;unfold dL;rw[jm];exact lE
    ·exact hx.elim
  unfold gK at h
  split at h
  ·rename_i H T i0 dw
   split at h
   ·rename_i hg;exact exec dw (by rw[hg]) h
   ·rename_i j want hg
    split at h
    ·rename_i b hb
     split at h
     ·rename_i yE;exact exec dw (by rw[hg];exact⟨b,hb,by simp[yE]⟩) h
     ·rename_i yE;exact fin (run:=false) dw (by rw[hg];exact⟨b,hb,by simp[yE]⟩) (λ_=>⟨rfl,rfl,rfl⟩) (λe=>by cases e) (λ_=>⟨rfl,rfl⟩) h
    ·exact h.elim
  ·exact h.elim
theorem EH:∀(l:List Oper)(acc:List Nat)(i:Nat),i<acc.length->(fu l acc)[i]?=acc[i]?:=by
 intro l
 induction l with
 |nil=>intro acc i _;rfl
 |cons o r ih=>
  intro acc i hi;rw[fu,ih _ _ (by simp;omega),agK hi]
def xa (o:Oper)(acc:List Nat):Nat:=o.after.foldl (λs e=>if Region.binds .any e then s ||| 2 ^ e.on ||| acc.getD e.on 0 else s) 0
theorem Tt:∀(l:List Oper)(acc:List Nat)(i:Nat)(o:Oper),l[i]?=some o->∃CP,(fu l acc)[acc.length+i]?=some (xa o CP)/\CP.length=acc.length+i/\∀j,j<CP.length->CP[j]?=(fu l acc)[j]?:=by
 intro l
 induction l with
 |nil=>intro acc i o h;simp at h
 |cons p r ih=>
  intro acc i o h
  cases i with
  |zero=>
   simp at h;subst h;refine⟨acc,?_,by simp,λj hj=>(EH _ _ j hj).symm⟩;rw[fu,EH _ _ _ (by simp)];simp[xa]
  |succ i=>
   obtain⟨CP,h1,h2,h3⟩:=ih (acc++[xa p acc]) i o (by simpa using h);refine⟨CP,?_,by simp at h2;omega,h3⟩;rw[fu];simp at h1;rw[show acc.length+(i+1)=acc.length+1+i by omega];exact h1
theorem HY (o:Oper)(acc:List Nat)(j:Nat)(h:(xa o acc).testBit j=true):∃e∈o.after,Region.binds .any e=true/\(e.on=j\/(acc.getD e.on 0).testBit j=true):=by
 unfold xa at h;rw[<-Array.foldl_toList] at h;have key:∀(l:List Edge)(s:Nat),(l.foldl (λs e=>if Region.binds .any e then s ||| 2 ^ e.on ||| acc.getD e.on 0 else s) s).testBit j=true->s.testBit j=true\/∃e∈l,Region.binds .any e=true/\(e.on=j\/(acc.getD e.on 0).testBit j=true):=by
  intro l
  induction l with
  |nil=>intro s h;exact .inl h
  |cons e r ih=>
   intro s h;rcases ih _ h with h1|⟨e',h1,h2⟩
   ·dsimp only at h1
    split at h1
    ·rename_i hb;simp only[Nat.testBit_or,ahx] at h1;rcases h1 with (h1|h1)|h1
     ·exact .inl h1
     ·rw[Nat.testBit_two_pow] at h1;exact .inr ⟨e,by simp,hb,.inl (by simpa using h1)⟩
     ·exact .inr ⟨e,by simp,hb,.inr h1⟩
    ·exact .inl h1
   ·exact .inr ⟨e',by simp[h1],h2⟩
 rcases key _ _ h with h1|⟨e,h1,h2⟩
 ·simp at h1
 ·exact⟨e,by simpa using h1,h2⟩
def iX {ops:List Oper}{ay:Array Bool}(gC:∀i j,ay.getD i false=true->nq (fu ops []) j i=true->ay.getD j false=true)
  {i:Nat} {o:Oper} (ho:ops[i]?=some o) (hr:∀e∈o.after,Region.binds .any e=true->ay.getD e.on false=true) (C6:∀e∈o.after,Region.binds .any e=true->e.on<i) {j:Nat} (hj:nq (fu ops []) j i=true):ay.getD j false=true:=by
 obtain⟨CP,h1,h2,h3⟩:=Tt ops [] i o ho;simp at h1 h2;unfold nq at hj;rw[agB,h1] at hj;obtain⟨e,he,hb,h4⟩:=HY o CP j hj;have hl:=hr e he hb;rcases h4 with h4|h4
 ·rw[<-h4];exact hl
 ·refine gC e.on j hl ?_;unfold nq;have aZ:=C6 e he hb;rw[agB,<-h3 e.on (by omega),<-getD_eq_getElem?_getD];exact h4
def kj {ops:List Oper}{bI lo:List Nat}{na:List (List Nat)}(h:iV ops bI lo na=true) :
  (∀(i j:Nat)(x y:Oper)(d:Tmp),ops[i]?=some x->ops[j]?=some y->x.dst=some d->y.dst=some d->i=j)/\
  (∀(i j:Nat)(x y:Oper)(t:Tmp),ops[i]?=some x->ops[j]?=some y->t∈x.looksAt ops.toArray->y.dst=some t->i≠j/\((j<i/\nq (fu ops []) j i=true)\/(i<j/\nq (fu ops []) i j=true)))/\
  (∀k e,bI[k]?=some e->e<ops.length/\(0<k->∃e',bI[k-1]?=some e'/\nq (fu ops []) e' e=true))/\
  (∀i,i<ops.length->lo.getD i 0<=NJ (fu ops []) bI i)/\
  (∀k e,bI[k]?=some e->∀j,j<e->bI.contains j=true\/(na.getD k []).contains j=true\/nq (fu ops []) j e=true)/\
  (∀(i:Nat)(x:Oper),ops[i]?=some x->∀e∈x.after,Region.binds .any e=true->e.on<i)/\Region.noSelect ops.toArray=true:=by
 unfold iV at h;simp only[agO] at h;obtain⟨⟨⟨⟨⟨⟨⟨⟨⟨h1,h2⟩,h3⟩,h4⟩,h5⟩,h6⟩,h7⟩,h8⟩,h9⟩,MW⟩:=h;have at_:∀{i:Nat} {x:Oper},ops[i]?=some x->i<ops.length/\ops.getD i default=x:=λ{i x} hi=>by
  obtain⟨a,b⟩:=agC.1 hi;exact⟨a,by rw[agB,hi];rfl⟩
 have W8:∀{k e:Nat},bI[k]?=some e->k<bI.length/\bI.getD k 0=e:=λ{k e} hi=>by
  obtain⟨a,b⟩:=agC.1 hi;exact⟨a,by rw[agB,hi];rfl⟩
 refine⟨λi j x y d hi hj hx hy=>?_,λi j x y t hi hj ht hy=>?_,λk e hk=>⟨?_,λeO=>?_⟩,λi hi=>?_,λk e hk j hj=>?_,λi x hi e he hb=>?_,MW⟩
 ·obtain⟨a1,a2⟩:=at_ hi;obtain⟨b1,b2⟩:=at_ hj;have:=aha.1 (aha.1 h1 i (ag3.2 a1)) j (ag3.2 b1);rw[a2,b2,hx,hy] at this;simpa using this
 ·obtain⟨a1,a2⟩:=at_ hi;obtain⟨b1,b2⟩:=at_ hj;have dN:i≠j:=by
   rintro rfl;have e1:x=y:=by rw[hi] at hj;injection hj
   subst e1;have:=aha.1 (aha.1 h3 i (ag3.2 a1)) t (by rw[a2];exact ht);rw[a2,hy] at this;simp at this
  have:=aha.1 (aha.1 (aha.1 h2 i (ag3.2 a1)) t (by rw[a2];exact ht)) j (ag3.2 b1);rw[b2,hy] at this;refine⟨dN,?_⟩;simpa[dN] using this
 ·obtain⟨a1,a2⟩:=W8 hk;have:=aha.1 h5 e (ahW hk);simpa using this
 ·obtain⟨a1,a2⟩:=W8 hk;have:=aha.1 h4 k (ag3.2 a1);have MS:(k==0)=false:=by simp;omega
  rw[MS,a2] at this;have FU:k-1<bI.length:=by omega
  refine⟨bI[k-1],agD FU,?_⟩;have e2:bI.getD (k-1) 0=bI[k-1]:=by rw[agB,agD FU];rfl
  rw[e2] at this;simpa using this
 ·have:=aha.1 h7 i (ag3.2 hi);simpa using this
 ·obtain⟨a1,a2⟩:=W8 hk;have:=aha.1 (aha.1 h8 k (ag3.2 a1)) j (ag3.2 (by rw[a2];exact hj));rw[a2] at this;simp only[ahx] at this;rcases this with (h|h)|h
  ·exact .inl h
  ·exact .inr (.inl h)
  ·exact .inr (.inr h)
 ·obtain⟨a1,a2⟩:=at_ hi;have:=Array.all_eq_true_iff_forall_mem.1 (aha.1 h9 i (ag3.2 a1)) e (by rw[a2];exact he);rw[hb] at this;simpa using this
def oo (e:Env):List Tmp->Env
 |[]=>[]
 |t::r=>(t,bH e t)::oo e r
theorem hZ (e:Env):∀(l:List Tmp)(t:Tmp),bH (oo e l) t=if t∈l then bH e t else .top:=by
 intro l
 induction l with
 |nil=>intro t;rfl
 |cons s r ih=>
  intro t;simp only[oo,bH]
  by_cases h:s=t
  ·subst h;simp
  ·rw[agL h,ih];have:t≠s:=λe=>h e.symm;simp[this]
def VS (aR:List bX)(ay:Array Bool)(e0:Env)(t:Nat)(v:AV):Prop:=
 (∃j x,aR[j]?=some x/\x.o.dst=some t/\ay.getD j false=true/\v=x.v)\/
 ((∀j x,aR[j]?=some x->x.o.dst=some t->ay.getD j false=false)/\v=bH e0 t)
structure Inv (D:vX)(s:St)(aR:List bX)(sts:List mP)(L0:Lay)(w0:World)(ay:Array Bool)(a:Act)(w:World):Prop where
 size:ay.size=aR.length
 closed:∀i j,ay.getD i false=true->nq (fu (aR.map (·.o)) []) j i=true->ay.getD j false=true
 st:∃k H T e L,(∀(m i:Nat),D.bI[m]?=some i->(ay.getD i false=true↔m<k))/\k<=D.bI.length/\sts[k]?=some (H,T,e)/\cg L H T w/\D.C.nb<=H.length/\D.C.tb<=T.length/\
  (∀t,∃v,VS aR ay s.e t v/\ba L H.length T w v (a.tmps.getD t undef))/\Ev D.C.nb D.C.tb L0 s.H.length s.T w0 L H.length T w
 tmps:a.tmps.size=D.C.nt
 defers:a.defers=[]
def cQ {ay:Array Bool}{j:Nat}(h:j<ay.size):ay.getD j true=ay.getD j false:=by
 simp[h]
theorem EG {P:Program}{ops:List Oper}{Q:Exit->Act->World->Prop}(d6:∀(i:Nat)(x:Oper),ops[i]?=some x->∀e∈x.after,Region.binds .any e=true->e.on<i)(I:Array Bool->Act->World->Prop)
  (gu:∀ay a w,I ay a w->ay.size=ops.length) (yL:∀ay a w,I ay a w->(∀i,i<ops.length->ay.getD i false=true)->Q .normal a w)
  (ad1:∀(fuel:Nat)(ay:Array Bool)(a:Act)(w:World),I ay a w->∀i,i∈Region.ready .any ops.toArray ay->
   ((∀j,j<ops.length->(ay.setIfInBounds i true).getD j false=true)\/(List.range ops.length).countP (λj=>!(ay.setIfInBounds i true).getD j false)<=fuel)->
   (∀a' w',I (ay.setIfInBounds i true) a' w'->wpAny P .any ops.toArray Q fuel (ay.setIfInBounds i true) a' w')->
   wpOp P ops.toArray Q i (wpAny P .any ops.toArray Q fuel (ay.setIfInBounds i true)) a w) :
  ∀(fuel:Nat)(ay:Array Bool)(a:Act)(w:World),I ay a w->(∀i,i<ops.length->ay.getD i false=true)\/(List.range ops.length).countP (λi=>!ay.getD i false)<=fuel->
   wpAny P .any ops.toArray Q fuel ay a w:=by
 have GY:∀(ay:Array Bool),ay.size=ops.length->Region.ready .any ops.toArray ay=[]->∀i,i<ops.length->ay.getD i false=true:=by
  intro ay gu hr i
  induction i using Nat.strongRecOn with
  |_ i ih=>
   intro eH
   cases WS:ay.getD i false with
   |true=>rfl
   |false=>
    exfalso;have fK:i∈Region.ready .any ops.toArray ay:=by
     refine mem_ready.2 ⟨by rw[cQ (by omega)];exact WS,ops[i],by rw[agY,agD eH],λe he hb=>?_⟩;have aZ:=d6 i _ (agD eH) e he hb;exact ih e.on aZ (by omega)
    rw[hr] at fK;simp at fK
 intro fuel
 induction fuel with
 |zero=>
  intro ay a w hI A7;have fh:∀i,i<ops.length->ay.getD i false=true:=by
   rcases A7 with h1|h1
   ·exact h1
   ·intro i hi;have h2:(List.range ops.length).countP (λi=>!ay.getD i false)=0:=by omega
    have:=List.countP_eq_zero.1 h2 i (ag3.2 hi);simpa using this
  refine⟨?_,yL ay a w hI fh⟩;rw[ah3];intro i hi;obtain⟨h1,o,ho,_⟩:=mem_ready.1 hi;rw[agY] at ho;have eH:=(agC.1 ho).1;rw[cQ (by rw[(gu _ _ _ hI)];omega),fh i eH] at h1
  cases h1
 |succ fuel ih=>
  intro ay a w hI A7;refine⟨λhr=>yL ay a w hI (GY ay (gu _ _ _ hI) hr),λi hi=>?_⟩;have Um:i∈Region.ready .any ops.toArray ay->(∀j,j<ops.length->(ay.setIfInBounds i true).getD j false=true)\/(List.range ops.length).countP (λj=>!(ay.setIfInBounds i true).getD j false)<=fuel:=λhi=>?_
  ·exact ad1 fuel ay a w hI i hi (Um hi) λa' w' U6=>ih _ a' w' U6 (Um hi)
  obtain⟨h1,o,ho,_⟩:=mem_ready.1 hi;rw[agY] at ho;have eH:=(agC.1 ho).1;have pn:i<ay.size:=by rw[(gu _ _ _ hI)];omega
  rw[cQ pn] at h1;rcases A7 with h2|h2
  ·rw[h2 i eH] at h1;cases h1
  ·right
   have:(List.range ops.length).countP (λj=>!(ay.setIfInBounds i true).getD j false)+1<=(List.range ops.length).countP (λj=>!ay.getD j false):=by
    have aft:(List.range ops.length).countP (λj=>!ay.getD j false)=(List.range ops.length).countP (λj=>!(ay.setIfInBounds i true).getD j false)+(List.range ops.length).countP (λj=>decide (j=i)):=by
     generalize List.range ops.length=l
     induction l with
     |nil=>rfl
     |cons y r ihl=>
      simp only[List.countP_cons,ihl]
      by_cases hy:y=i
      ·subst hy;simp[h1,pn];omega
      ·rw[getD_set_ne false (λe=>hy e.symm)];simp[hy];omega
    have eO:0<(List.range ops.length).countP (λj=>decide (j=i)):=List.countP_pos_iff.2 ⟨i,ag3.2 eH,by simp⟩;omega
   omega
theorem nY {C:Cx}{ops:List Oper}{Q:Exit->St->Prop}{s':St}{K:St->Prop}{bI lo:List Nat}{na:List (List Nat)}(kD:iV ops bI lo na=true)(qb:jH bI=true){nx:Nat}{L0:Lay}{w0:World}{D:vX}
  (kL:D.C=C) (oV:D.bI=bI) (zl:D.lo=lo) (Q7:D.na=na) (Q8:D.all=ops.toArray) {aR:List bX} {sts:List mP} (hlen:aR.length=ops.length) (QR:∀(i:Nat)(x:bX),aR[i]?=some x->ops[i]?=some x.o)
  (Rk:Nat->Prop) (lF:∀i,Rk i->i≠nx) (hRk:∀(i:Nat)(x:bX),aR[i]?=some x->Rk i->Bj nx D ops sts aR i x) (Ij:∀(i:Nat)(x:bX),aR[i]?=some x->Rk i->x.e=aW s'.e (aR.take i))
  (Qw:∀(i:Nat)(x:bX),aR[i]?=some x->Rk i->x.k=(D.bI.filter (·<i)).length) (J:Array Bool->Prop) (hJ:∀ay i,Rk i->J ay->J (ay.setIfInBounds i true))
  (yL:∀(ay:Array Bool)(a:Act)(w:World),Inv D s' aR sts L0 w0 ay a w->J ay->(∀i,i<ops.length->ay.getD i false=true)->cO C (dF K Q) L0 s' w0 .normal a w)
  (Wj:∀(fuel:Nat)(ay:Array Bool)(a:Act)(w:World),Inv D s' aR sts L0 w0 ay a w->J ay->∀i,i∈Region.ready .any ops.toArray ay->¬Rk i->
   ((∀j,j<ops.length->(ay.setIfInBounds i true).getD j false=true)\/(List.range ops.length).countP (λj=>!(ay.setIfInBounds i true).getD j false)<=fuel)->
   wpOp C.P ops.toArray (cO C (dF K Q) L0 s' w0) i (wpAny C.P .any ops.toArray (cO C (dF K Q) L0 s' w0) fuel (ay.setIfInBounds i true)) a w) :
  ∀(fuel:Nat)(ay:Array Bool)(a:Act)(w:World),Inv D s' aR sts L0 w0 ay a w->J ay->(∀i,i<ops.length->ay.getD i false=true)\/(List.range ops.length).countP (λi=>!ay.getD i false)<=fuel->
   wpAny C.P .any ops.toArray (cO C (dF K Q) L0 s' w0) fuel ay a w:=by
 obtain⟨d1,d2,d3,d4,d5,d6,d7⟩:=kj kD;have Ro:aR.map (·.o)=ops:=by
  apply aiw;intro i;rw[ahJ]
  by_cases hi:i<aR.length
  ·rw[agD hi,aip,QR i _ (agD hi)]
  ·rw[ah2 (by omega),ah2 (by omega)];rfl
 have ad7:∀i,i<ops.length->∃x:bX,aR[i]?=some x:=λi hi=>⟨_,agD (by omega)⟩
 have stp:∀(ay:Array Bool)(a:Act)(w:World)(i:Nat)(KK:Act->World->Prop),Inv D s' aR sts L0 w0 ay a w->Rk i->i∈Region.ready .any ops.toArray ay->
   (∀a' w',Inv D s' aR sts L0 w0 (ay.setIfInBounds i true) a' w'->KK a' w')->wpOp C.P ops.toArray (cO C (dF K Q) L0 s' w0) i KK a w:=by
  intro ay a w i KK hI QS hi VJ;obtain⟨QU,o,ho,rM⟩:=mem_ready.1 hi;rw[agY] at ho;have eH:i<ops.length:=(agC.1 ho).1;have pn:i<ay.size:=by rw[hI.size];omega
  have yK:ay.getD i false=false:=by rw[<-cQ pn];exact QU
  obtain⟨x,hx⟩:=ad7 i eH;have MR:x.o=o:=by have:=QR i x hx;rw[ho] at this;injection this with this;exact this.symm
  have hR:=hRk i x hx QS;have gC:∀i j,ay.getD i false=true->nq (fu ops []) j i=true->ay.getD j false=true:=by
   have:=hI.closed;rw[Ro] at this;exact this
  have kF:∀j,nq (fu ops []) j i=true->ay.getD j false=true:=λj hj=>iX gC ho rM (d6 i o ho) hj;obtain⟨k,H,T,e,L,hk,gO,qO,cR,gw,fQ,gE,dB⟩:=hI.st;rw[oV] at hk gO;rw[kL] at gw fQ dB;have eB:∀t∈o.looksAt ops.toArray,∀v,VS aR ay s'.e t v->v=bH x.e t:=by
   intro t ht v hv;rw[Ij i x hx QS];have Qp:∀(j:Nat)(z:bX),aR[j]?=some z->z.o.dst=some t->i≠j/\((j<i/\nq (fu ops []) j i=true)\/(i<j/\nq (fu ops []) i j=true)):=λj z hz hd=>d2 i j o z.o t ho (QR j z hz) ht hd;rcases hv with⟨j,z,hz,hd,hl,rfl⟩|⟨oh,rfl⟩
   ·obtain⟨dN,h1|h1⟩:=Qp j z hz hd
    ·rw[eT (aR.take i) s'.e t j z (by rw[ahu,agN h1.1];exact hz) hd (λi' y' Jo XT=>by
      rw[ahu] at Jo
      split at Jo
      ·exact d1 i' j y'.o z.o t (QR i' y' Jo) (QR j z hz) XT hd
      ·cases Jo)]
    ·have:=gC j i hl h1.2;rw[yK] at this;cases this
   ·rw[cI (aR.take i) s'.e t (λz hz hd=>by
     obtain⟨j,hj,e1⟩:=agW.1 hz;simp at hj;have Jn:aR[j]?=some z:=by rw[agD (by omega),<-e1];simp
     have hf:=oh j z Jn hd;obtain⟨dN,h1|h1⟩:=Qp j z Jn hd
     ·have:=kF j h1.2;rw[hf] at this;cases this
     ·omega)]
  have tR:fm L H.length T w (oo x.e (o.looksAt ops.toArray)) a:=by
   intro t;rw[hZ]
   split
   ·rename_i ht;obtain⟨v,hv,hr⟩:=gE t;rw[<-eB t ht v hv];exact hr
   ·exact .top _
  have Gh:∀z∈o.op.operands,bR x.e z=bR (oo x.e (o.looksAt ops.toArray)) z:=by
   intro z hz
   cases z with
   |tmp t=>
    have:t∈o.looksAt ops.toArray:=by
     unfold Oper.looksAt;exact agR.2 (.inl (List.mem_filterMap.2 ⟨_,ah7.2 hz,rfl⟩))
    simp only[bR,hZ,agN this]
   |_=>rfl
  have behind:∀(H':List aA)(T':au)(cv:Value)(w':World)(L':Lay),cg L' H' T' w'->ba L' H'.length T' w' x.v cv->Ev H.length T.length L H.length T w L' H'.length T' w'->
    ((bI.contains i=false/\H'=H/\T'=T)\/(bI.contains i=true/\bI[k]?=some i/\∃e',sts[k+1]?=some (H',T',e')))->KK (a.put o.dst cv) w':=by
   intro H' T' cv w' L' u6 lS oi tJ;refine VJ _ _ ⟨by simp[hI.size],λi' j' jJ kG=>?_,?_,?_,by cases o.dst<;>exact hI.defers⟩
   ·rw[Ro] at kG
    by_cases AR:i=i'
    ·subst AR;have:=kF j' kG
     by_cases jz:i=j'
     ·subst jz;rw[yK] at this;cases this
     ·rw[getD_set_ne false jz];exact this
    ·rw[getD_set_ne false AR] at jJ;have:=gC i' j' jJ kG;exact getD_set_true this
   ·have kS:∀t,∃v,VS aR (ay.setIfInBounds i true) s'.e t v/\ba L' H'.length T' w' v ((a.put o.dst cv).tmps.getD t undef):=by
     intro t
     by_cases hd:o.dst=some t
     ·refine⟨x.v,.inl ⟨i,x,hx,by rw[MR];exact hd,by simp[pn],rfl⟩,?_⟩;have aZ:t<a.tmps.size:=by rw[hI.tmps];exact hR.dst t (by rw[MR];exact hd)
      rw[hd,jv a t t cv aZ,agN rfl];exact lS
     ·obtain⟨v,hv,hr⟩:=gE t;refine⟨v,?_,?_⟩
      ·rcases hv with⟨j,z,hz,AN,hl,rfl⟩|⟨oh,rfl⟩
       ·exact .inl ⟨j,z,hz,AN,getD_set_true hl,rfl⟩
       ·refine .inr ⟨λj z hz AN=>?_,rfl⟩;have jz:i≠j:=by
         rintro rfl;rw[hx] at hz
         cases hz
         rw[MR] at AN;exact hd AN
        rw[getD_set_ne false jz];exact oh j z hz AN
      ·have e1:(a.put o.dst cv).tmps.getD t undef=a.tmps.getD t undef:=by
        cases lL:o.dst with
        |none=>rfl
        |some d=>
         have aZ:d<a.tmps.size:=by rw[hI.tmps];exact hR.dst d (by rw[MR];exact lL)
         rw[jv a d t cv aZ,agL (λe=>hd (by rw[lL,e]))]
       rw[e1];exact hr.keep oi.keeps
    have YK:=dB.trans (oi.mono gw fQ);rcases tJ with⟨dN,rfl,rfl⟩|⟨heq,zj,e',Vr⟩
    ·refine⟨k,H',T',e,L',λm i' yo=>?_,by rw[oV];exact gO,qO,u6,by rw[kL];exact gw,by rw[kL];exact fQ,kS,by rw[kL];exact YK⟩;rw[oV] at yo;have AR:i≠i':=by
      rintro rfl;have:=ahW yo;rw[<-List.contains_iff_mem] at this;rw[dN] at this;cases this
     rw[getD_set_ne false AR];exact hk m i' yo
    ·refine⟨k+1,H',T',e',L',λm i' yo=>?_,by rw[oV];have:=(agC.1 zj).1;omega,Vr,u6,by rw[kL];exact agJ gw oi.n,by rw[kL];exact agJ fQ oi.t,kS,by rw[kL];exact YK⟩;rw[oV] at yo
     by_cases AR:i=i'
     ·subst AR;have e1:=(oI qb heq).1;have WR:∀m',bI[m']?=some i->m'=(bI.filter (·<i)).length:=by
       intro m' YC;have kC:=(agC.1 YC).1;have:=aha.1 qb m' (ag3.2 kC);simp only[agO,aiu,agB,YC,aie] at this;exact this.1.symm
      have h1:=WR m yo;have h2:=WR k zj;simp[pn];omega
     ·rw[getD_set_ne false AR,hk m i' yo]
      constructor
      ·intro h;omega
      ·intro h;rcases agM m k with h1|h1
       ·exact h1
       ·have:m=k:=by omega
        subst this;rw[zj] at yo
        injection yo with yo
        exact absurd yo AR
   ·simp[Act.put];cases o.dst<;>simp[hI.tmps]
  have N6:bI.contains i=true->bI[k]?=some i/\x.k=k:=by
   intro heq;obtain⟨e1,_⟩:=oI qb heq;have Cr:=Qw i x hx QS;rw[oV] at Cr;have od:k<=(bI.filter (·<i)).length:=by
    rcases agM (bI.filter (·<i)).length k with h1|h1
    ·have:=(hk _ i e1).2 h1;rw[yK] at this;cases this
    ·exact h1
   have hle:(bI.filter (·<i)).length<=k:=by
    rcases ahc (bI.filter (·<i)).length with h0|h0
    ·omega
    ·obtain⟨e',h1,h2⟩:=(d3 _ i e1).2 h0;have:=(hk _ e' h1).1 (kF e' h2);omega
   have:(bI.filter (·<i)).length=k:=by omega
   exact⟨by rw[<-this];exact e1,by omega⟩
  have hgv:∀j b,o6 D.all j x.e=some b->o.guard=some (j,true)\/o.guard=some (j,false)->yielded ops.toArray a.tmps j=b:=by
   intro j b hb hg;rw[Q8] at hb;refine tB tR ?_;unfold o6 at hb ⊢
   split at hb
   ·rename_i d hd;have:d∈o.looksAt ops.toArray:=by
     unfold Oper.looksAt;refine agR.2 (.inr ?_);rcases hg with hg|hg<;>rw[hg]<;>simp only[hd]<;>simp
    rw[hZ,agN this];exact hb
   ·cases hb
  unfold wpOp;rw[agY,ho]
  dsimp only
  have hgate:=hR.gate;rw[MR] at hgate
  by_cases cY:x.run=true
  ·
   have sE:Region.wanted o (yielded ops.toArray a.tmps)=true:=by
    unfold Region.wanted
    cases hg:o.guard with
    |none=>rfl
    |some jw=>
     obtain⟨j,want⟩:=jw;rw[hg] at hgate;obtain⟨b,hb,kK⟩:=hgate;have:=hgv j b hb (by cases want<;>simp[hg]);rw[cY] at kK;simp only[this];have yE:b=some want:=by simpa using kK.symm
     simp[yE]
   rw[agN sE];refine .inl ?_;have hxx:∃H' T',dL C.P o x.e H T x.v H' T'/\((bI.contains i=false/\H'=H/\T'=T)\/(bI.contains i=true/\bI[k]?=some i/\∃e',sts[k+1]?=some (H',T',e'))):=by
    cases heq:bI.contains i with
    |false=>
     have XC:x.bI=false:=by rw[hR.bI,oV];exact heq
     have gA:=hR.still cY XC k H T e qO ?_ ?_
     ·rw[kL,MR] at gA;exact⟨H,T,gA,.inl ⟨rfl,rfl,rfl⟩⟩
     ·rw[zl];refine agJ (d4 i eH) ?_;unfold NJ;have agj:∀e'∈bI.filter (λe=>nq (fu ops []) e i),∃m,m<k/\bI[m]?=some e':=by
       intro e' Ci;obtain⟨h1,h2⟩:=ag0.1 Ci;obtain⟨m,Qu,Qt⟩:=agW.1 h1;have hm3:bI[m]?=some e':=by rw[agD Qu,Qt]
       exact⟨m,(hk m e' hm3).1 (kF e' h2),hm3⟩
      have hle:(bI.filter (λe=>nq (fu ops []) e i)).length<=(bI.take k).length:=by
       have e1:bI.filter (λe=>nq (fu ops []) e i)=(bI.take k).filter (λe=>nq (fu ops []) e i)++(bI.drop k).filter (λe=>nq (fu ops []) e i):=by
        rw[<-List.filter_append,ag7]
       have e2:(bI.drop k).filter (λe=>nq (fu ops []) e i)=[]:=by
        rw[aif];intro e' Ci kG;obtain⟨m,Qu,Qt⟩:=agW.1 Ci;simp at Qu;have hm3:bI[k+m]?=some e':=by
         rw[agD (by omega),<-Qt];simp
        have:=(hk (k+m) e' hm3).1 (kF e' kG);omega
       rw[e1,e2,ag2];exact ahf _ _
      refine agJ hle ?_;simp;omega
     ·rcases agM x.k k with aZ|od
      ·right
       rw[Q7];have qa:k-1<bI.length:=by omega
       have Ci:=agD qa;have Cv:=(hk (k-1) _ Ci).2 (by omega);have TQ:i<bI[k-1]:=by
        rcases agM i bI[k-1] with h1|h1
        ·exact h1
        ·exfalso;have dN:bI[k-1]≠i:=by
          intro e1;have:=ahW Ci;rw[e1,<-List.contains_iff_mem] at this;rw[heq] at this;cases this
         have Cr:=Qw i x hx QS;rw[oV] at Cr;have h2:=aha.1 qb (k-1) (ag3.2 qa);simp only[agO,aiu,agB,Ci,aie] at h2;have h3:(bI.filter (·<bI[k-1]+1)).length<=(bI.filter (·<i)).length:=by
          rw[<-List.countP_eq_length_filter,<-List.countP_eq_length_filter];exact List.countP_mono_left (λz _ hz=>by simp at hz ⊢;omega)
         omega
       rcases d5 (k-1) _ Ci i TQ with h1|h1|h1
       ·rw[heq] at h1;cases h1
       ·exact h1
       ·have:=gC _ i Cv h1;rw[yK] at this;cases this
      ·exact .inl od
    |true=>
     have XC:x.bI=true:=by rw[hR.bI,oV];exact heq
     obtain⟨zj,Cr⟩:=N6 heq;obtain⟨Ha,Ta,ea,Hb,Tb,g1,g2,g3,_⟩:=hR.effect XC;rw[Cr,qO] at g1;obtain⟨rfl,rfl⟩:H=Ha/\T=Ta:=by injection g1 with h1;injection h1 with h1 h2;injection h2 with h2 h3;exact⟨h1,h2⟩
     rw[Cr] at g2;have:=g3 cY (lF i QS);rw[kL,MR] at this;exact⟨Hb,Tb,this,.inr ⟨rfl,zj,i,g2⟩⟩
   obtain⟨H',T',hex,tJ⟩:=hxx;exact tz (vw Gh hex) cR tR λcv w' L' g1 g2 g3=>behind H' T' cv w' L' g1 g2 g3 tJ
  ·
   have C2:x.run=false:=by simpa using cY
   have sE:Region.wanted o (yielded ops.toArray a.tmps)=false:=by
    unfold Region.wanted
    cases hg:o.guard with
    |none=>rw[hg] at hgate;rw[hgate] at C2;cases C2
    |some jw=>
     obtain⟨j,want⟩:=jw;rw[hg] at hgate;obtain⟨b,hb,kK⟩:=hgate;have:=hgv j b hb (by cases want<;>simp[hg]);rw[C2] at kK;simp only[this];have yE:b≠some want:=by simpa using kK.symm
     simp[yE]
   rw[agL (by simp[sE])];have hv:x.v=.df []:=hR.skip C2
   cases heq:bI.contains i with
   |false=>exact behind H T undef w L cR (by rw[hv];exact .df [] #[] rfl (λj hj=>by simp at hj)) (Ev.refl (agE _) (agE _)) (.inl ⟨heq,rfl,rfl⟩)
   |true=>
    have XC:x.bI=true:=by rw[hR.bI,oV];exact heq
    obtain⟨zj,Cr⟩:=N6 heq;obtain⟨Ha,Ta,ea,Hb,Tb,g1,g2,_,g4⟩:=hR.effect XC;rw[Cr,qO] at g1;obtain⟨rfl,rfl⟩:H=Ha/\T=Ta:=by injection g1 with h1;injection h1 with h1 h2;injection h2 with h2 h3;exact⟨h1,h2⟩
    obtain⟨rfl,rfl⟩:=g4 C2;rw[Cr] at g2;exact behind _ _ undef w L cR (by rw[hv];exact .df [] #[] rfl (λj hj=>by simp at hj)) (Ev.refl (agE _) (agE _)) (.inr ⟨heq,zj,i,g2⟩)
 intro fuel ay a w hI QD A7;refine EG d6 (λl a w=>Inv D s' aR sts L0 w0 l a w/\J l) (λl a w h=>by rw[h.1.size,hlen]) (λl a w h=>yL l a w h.1 h.2) (λfuel l a w h i hi hc hk=>?_) fuel ay a w ⟨hI,QD⟩ A7
 by_cases QS:Rk i
 ·exact stp l a w i _ h.1 QS hi λa' w' U6=>hk a' w' ⟨U6,hJ _ _ QS h.2⟩
 ·exact Wj fuel l a w h.1 h.2 i hi QS hc
def uJ {C:Cx}{ops:List Oper}{Q:Exit->St->Prop}{s:St}(K:St->Prop)(bI lo:List Nat)(na:List (List Nat))(kD:iV ops bI lo na=true)(qb:jH bI=true)
  (h:gK ⟨C,ops.toArray,bI,lo,na,K⟩ ops [] [(s.H,s.T,0)] (prune C.nv s.e)):∀L0 w0 a0,eK C s L0 w0 a0->
   wpAny C.P .any ops.toArray (cO C (dF K Q) L0 s w0) ops.toArray.size (Array.replicate ops.toArray.size false) a0 { w0 with drawn:=w0.drawn+1 }:=by
 intro L0 w0 a0 mw;have hc:eK C ⟨prune C.nv s.e,s.H,s.T⟩ L0 w0 a0:=⟨mw.nb,mw.tb,mw.mO,mw.size,mw.defers,λt=>by
  rcases mq C.nv s.e t with e|e<;>rw[e]
  ·exact mw.env t
  ·exact .top _⟩
 generalize uS:(⟨prune C.nv s.e,s.H,s.T⟩:St)=s' at hc;have Ce:prune C.nv s.e=s'.e:=by rw[<-uS]
 have AO:s.H=s'.H:=by rw[<-uS]
 have FT:s.T=s'.T:=by rw[<-uS]
 rw[Ce,AO,FT] at h;rw[show cO C (dF K Q) L0 s w0=cO C (dF K Q) L0 s' w0 by unfold cO;rw[AO,FT]];clear uS Ce AO FT mw;generalize hD:(⟨C,ops.toArray,bI,lo,na,K⟩:vX)=D at h;have kL:D.C=C:=by rw[<-hD]
 have oV:D.bI=bI:=by rw[<-hD]
 have zl:D.lo=lo:=by rw[<-hD]
 have Q7:D.na=na:=by rw[<-hD]
 have Q8:D.all=ops.toArray:=by rw[<-hD]
 have hDK:D.K=K:=by rw[<-hD]
 obtain⟨aR,sts,HL,TL,iL,hw,hlen,dw,hKK,Vq,_,_⟩:=vx (nx:=ops.length) (D:=D) (ops:=ops) (e0:=s'.e) (by rw[oV];exact qb) (.inr (agE _)) ops [] [(s'.H,s'.T,0)] s'.e
  ⟨⟨by simp,λi x hx=>by simp at hx⟩,λi x hx=>by simp at hx,λi x hx=>by simp at hx,rfl⟩ (by simp) (by simp) h
 obtain⟨d1,d2,d3,d4,d5,d6,d7⟩:=kj kD;have QR:∀(i:Nat)(x:bX),aR[i]?=some x->ops[i]?=some x.o:=λi x hx=>(hw.Ji i x hx).o;have M7:sts.length=1+bI.length:=by
  have h1:=hw.st.len;rw[oV] at h1;rw[h1]
  congr 2
  apply aid.2;intro e he;obtain⟨k,hk,e1⟩:=agW.1 he;have:=(d3 k e (by rw[agD hk,e1])).1;simp;omega
 have done:∀(ay:Array Bool)(a:Act)(w:World),Inv D s' aR sts L0 w0 ay a w->(∀i,i<ops.length->ay.getD i false=true)->cO C (dF K Q) L0 s' w0 .normal a w:=by
  intro ay a w hI fh;obtain⟨k,H,T,e,L,hk,gO,qO,cR,gw,fQ,gE,dB⟩:=hI.st;have qa:k=bI.length:=by
   rw[oV] at hk gO;rcases agM k bI.length with aZ|od
   ·have:=(hk k _ (agD aZ)).1 (fh _ (d3 k _ (agD aZ)).1);omega
   ·omega
  have CI:sts[k]?=some (HL,TL,iL):=by rw[<-dw,ajj,M7,qa];congr 1;omega
  rw[qO] at CI;obtain⟨rfl,rfl,rfl⟩:H=HL/\T=TL/\e=iL:=by injection CI with h1;injection h1 with h1 h2;injection h2 with h2 h3;exact⟨h1,h2,h3⟩
  rw[hDK] at hKK;rw[kL] at dB gw fQ;refine⟨_,L,hKK,⟨gw,fQ,cR,by rw[hI.tmps,kL],hI.defers,λt=>?_⟩,dB⟩;obtain⟨v,hv,hr⟩:=gE t;show ba L H.length T w (bH (aW s'.e aR) t) _;rcases hv with⟨j,x,hx,hd,hl,rfl⟩|⟨oh,rfl⟩
  ·rw[eT aR s'.e t j x hx hd (λi y hy y8=>d1 i j y.o x.o t (QR i y hy) (QR j x hx) y8 hd)];exact hr
  ·rw[cI aR s'.e t (λx hx hd=>by
    obtain⟨j,hj,e1⟩:=agW.1 hx;have h1:=oh j x (by rw[agD hj,e1]) hd;have h2:=fh j (by omega);rw[h1] at h2;cases h2)]
   exact hr
 refine nY (nx:=ops.length) kD qb kL oV zl Q7 Q8 hlen QR (λi=>i<ops.length) (λi hi=>by omega) (λi x hx _=>hw.Ji i x hx) (λi x hx _=>hw.JM i x hx) (λi x hx _=>hw.st.k i x hx) (λ_=>True) (λ_ _ _ _=>trivial)
  (λay a w hI _ fh=>done ay a w hI fh) (λfuel ay a w hI _ i hi hn=>?_) ops.length _ a0 _ ⟨by simp[hlen],λi j hl _=>?_,⟨0,s'.H,s'.T,0,L0,λm i TM=>?_,agP _,by rw[Vq];rfl,hc.mO.drew rfl,by rw[kL];exact hc.nb,by rw[kL];exact hc.tb,λt=>?_,?_⟩,by rw[kL];exact hc.size,hc.defers⟩ trivial (.inr ?_)
 ·obtain⟨_,o,ho,_⟩:=mem_ready.1 hi;rw[agY] at ho;exact absurd (agC.1 ho).1 hn
 ·exfalso
  by_cases hi:i<ops.length<;>simp[hi] at hl
 ·constructor
  ·intro hl;exfalso
   by_cases hi:i<ops.length<;>simp[hi] at hl
  ·intro h;omega
 ·refine⟨bH s'.e t,.inr ⟨λj x hx hd=>?_,rfl⟩,?_⟩
  ·by_cases hj:j<ops.length<;>simp[hj]
  ·have kd:cX L0 s'.H.length s'.T w0 L0 s'.H.length s'.T { w0 with drawn:=w0.drawn+1 }:=(Ev.drew (H:=s'.H) (T:=s'.T) (L:=L0) (w:=w0) (w':={ w0 with drawn:=w0.drawn+1 }) rfl rfl rfl rfl (ahy _)).keeps;exact(hc.env t).keep kd
 ·rw[kL];exact(Ev.drew (H:=s'.H) (T:=s'.T) (L:=L0) (w:=w0) (w':={ w0 with drawn:=w0.drawn+1 }) rfl rfl rfl rfl (ahy _)).mono hc.nb hc.tb
 ·refine agJ (List.countP_le_length) ?_;simp
def EC {C:Cx}{id:Nat}{ops:List Oper}{Q:Exit->St->Prop}{s:St}(K:St->Prop)(bI lo:List Nat)(na:List (List Nat))(hm:C.P.follows .mixedOrders=true)(kD:iV ops bI lo na=true)(qb:jH bI=true)
  (h:gK ⟨C,ops.toArray,bI,lo,na,K⟩ ops [] [(s.H,s.T,0)] (prune C.nv s.e)):AW C (.region id ops.toArray true) (dF K Q) s:=
 λL0 w0 a0 mw=>wp_region_any hm (uJ K bI lo na kD qb h L0 w0 a0 mw)
def aK {C:Cx}{id:Nat}{ops:List Oper}{Q:Exit->St->Prop}{s:St}{y:Code}(bI lo:List Nat)(na:List (List Nat))(hm:C.P.follows .mixedOrders=true)(kD:iV ops bI lo na=true)(qb:jH bI=true)
  (h:∀K:St->Prop,(∀s,AW C y Q s->K s)->gK ⟨C,ops.toArray,bI,lo,na,K⟩ ops [] [(s.H,s.T,0)] (prune C.nv s.e)):AW C (.seq (.region id ops.toArray true) y) Q s:=
 w8 λK hK=>EC K bI lo na hm kD qb (h K hK)
def cT {C:Cx}{id:Nat}{ops:List Oper}{Q:Exit->St->Prop}{s:St}(bI lo:List Nat)(na:List (List Nat))(hm:C.P.follows .mixedOrders=true)(kD:iV ops bI lo na=true)(qb:jH bI=true)
  (h:∀K:St->Prop,(∀s,Q .normal s->K s)->gK ⟨C,ops.toArray,bI,lo,na,K⟩ ops [] [(s.H,s.T,0)] (prune C.nv s.e)):AW C (.region id ops.toArray true) Q s:=
 (EC (Q:=Q) (λs=>Q .normal s) bI lo na hm kD qb (h _ λ_ h=>h)).mono λe s q=>by cases e<;>exact q
section
variable {P : Program} {f : FuncId} {args : List AV} {H rH : List aA} {T rT : au} {L : Lay} {w : World}
def cg.front (P:Program)(h:cg L (H++rH) (T++rT) w)(ho:bN H T):cg L H T w:=by
 let C:Cx:=⟨P,0,0,H.length,T.length,[]⟩
 let a:Act:={ tmps:=#[],defers:=[] }
 have hc:eK C ⟨[],H++rH,T++rT⟩ L w a:=⟨by simp[C],by simp[C],h,rfl,rfl,λt=>.top _⟩
 have hw:tX C ⟨[],H++rH,T++rT⟩ ⟨[],H,T⟩:=⟨agE _,agE _,⟨rH,rfl⟩,⟨rT,rfl⟩,ho,λt=>.inl rfl⟩
 exact(hw.mO hc).mO
def Ev.front {L0:Lay}{w0:World}{H0:List aA}{T0:au}{nb tb:Nat}(h:Ev nb tb L0 H0.length T0 w0 L (H++rH).length (T++rT) w)(hn:nb<=H.length)(ht:tb<=T.length):Ev nb tb L0 H0.length T0 w0 L H.length T w:=by
 refine⟨hn,h.bS,λt u z aZ hT=>?_,ht,h.m,h.tF,h.size,h.frame,λb hb=>h.wr b ?_,h.os,h.tape,h.output,h.drawn,h.dr⟩
 ·obtain⟨u',h1,h2,h3⟩:=h.tok t u z aZ hT;exact⟨u',by rwa [agK (by omega)] at h1,h2,h3⟩
 ·rcases hb with⟨i,hi,e⟩|⟨t,u,z,h1,h2,e⟩
  ·exact .inl ⟨i,by simp;omega,e⟩
  ·exact .inr ⟨t,u,z,by rw[agK (agC.1 h1).1];exact h1,h2,e⟩
theorem ar.drop {r:AV}(h:ar P f args H T (Is r (H++rH) (T++rT)))(hb:Below H.length T.length (cK r)):ar P f args H T (Is (cK r) H T):=by
 refine⟨h.1,λL w ca hc hl hr=>(h.2 L w ca hc hl hr).mono ?_⟩;rintro e w' ⟨r',H',T',L',cv,⟨e1,e2,e3⟩,rfl,cR,dG,dB⟩;subst e1;subst e2;subst e3;refine⟨_,H,T,L',cv,⟨rfl,rfl,rfl⟩,rfl,cg.front P cR hc.jC,?_,dB.front (agE _) (agE _)⟩;have:=(dG.cK).drop hb;simpa using this
def ar.cut {r0:AV}(H1:List aA)(T1:au)(hl:H.length<=H1.length)(ht:T.length<=T1.length)(ho:bN H T->bN H1 T1)(hb:Below H1.length T1.length r0)
  (h:ar P f args H T (λr H' T'=>(∃rH,H'=H1++rH)/\(∃rT,T'=T1++rT)/\(r=r0\/cK r=r0))):ar P f args H T (Is r0 H1 T1):=by
 refine⟨h.1,λL w ca hc jJ hr=>(h.2 L w ca hc jJ hr).mono ?_⟩;rintro e w' ⟨r',H',T',L',cv,⟨⟨rH,e1⟩,⟨rT,e2⟩,e3⟩,rfl,cR,dG,dB⟩;subst e1;subst e2;refine⟨_,H1,T1,L',cv,⟨rfl,rfl,rfl⟩,rfl,cg.front P cR (ho hc.jC),?_,dB.front hl ht⟩;have lS:ba L' (H1++rH).length (T1++rT) w' r0 cv:=by
  rcases e3 with e3|e3
  ·rw[<-e3];exact dG
  ·rw[<-e3];exact dG.cK
 have:=lS.drop hb;simpa using this
def ar.bZ {r0:AV}(h:ar P f args H T (λr H' T'=>(∃rH,H'=H++rH)/\(∃rT,T'=T++rT)/\(r=r0\/cK r=r0)))(hb:Below H.length T.length r0):ar P f args H T (Is r0 H T):=
 ar.cut H T (agE _) (agE _) id hb h
def cg.Er (h:cg L H T w){b k:Nat}(hb:b<w.heap.size)(hw:¬Wr L H.length T b)(hk:L.m b<=k):cg (L.bW b k) H T w:=by
 have hm:∀x,L.m x<=(L.bW b k).m x:=by
  intro x;show L.m x<=if x=b then k else L.m x
  split
  ·rename_i e;rw[e];exact hk
  ·exact agE _
 have kp:cX L H.length T w (L.bW b k) H.length T w:=⟨agE _,λ_ _=>rfl,λt u z h=>⟨u,h,agE _,λ_=>rfl⟩,hm,λ_ _ _=>rfl,rfl⟩
 refine⟨λi x hx=>?_,h.inj,λt u z ht=>?_,h.pg,h.kq,λx hx=>?_,h.gl.keep hm (λ_ _ _=>rfl)⟩
 ·have hi:=(agC.1 hx).1;refine(h.box i x hx).stay kp hi rfl λh5=>?_;show (if L.bS i=b then k else L.m (L.bS i))=0;rw[agL (λe=>hw (.inl ⟨i,hi,e⟩))];exact h5
 ·obtain⟨h1,h2⟩:=h.tok t u z ht;refine⟨h1,λhs=>?_⟩;obtain⟨c,e,fr,g1,g2,g3,g4⟩:=h2 hs;refine⟨c,e,fr,g1,g2,g3,?_⟩;show (if (L.et t).b=b then k else L.m (L.et t).b)<=_;rw[agL (λe=>hw (.inr ⟨t,u,z,ht,hs,e⟩))];exact g4
 ·show (if x=b then k else L.m x)=0;rw[agL (by omega)];exact h.mz x hx
def ar.freeze {n:Nat}{vs:List AV}(h:ar P f args H T (Is (.cN H.length 0 n) (H++[.cells vs]) T))(hb:aM H.length T.length vs):ar P f args H T (Is (.sl n vs .none) H T):=by
 refine⟨h.1,λL w ca hc hl hr=>(h.2 L w ca hc hl hr).mono ?_⟩;rintro e w' ⟨r',H',T',L',cv,⟨e1,e2,e3⟩,rfl,cR,dG,dB⟩;have e3':=e3.symm;subst e1;subst e2;subst e3';obtain⟨cap,rfl,cE,aZ⟩:=dG.jX;have rE:=cR.box H.length (.cells vs) (by simp);have Rq:=rE.lt;obtain⟨c,t,fr,g1,g2,g3,vW,g4,g5⟩:=rE;have Ia:cg L' H T w':=cg.front (rT:=[]) P (by simpa using cR) hc.jC;have H9:¬Wr L' H.length T (L'.bS H.length):=by
  rintro (⟨i,hi,e⟩|⟨t,u,z,ht,hs,e⟩)
  ·have:=cR.inj i H.length (by simp;omega) (by simp) e;omega
  ·exact cR.kq t u z H.length ht hs (by simp) e
 have oU:=Ia.Er (k:=vs.length) Rq H9 (by omega);have e1:Ev H.length T.length L H.length T w L' H.length T w':=by
  have:=dB;have h2:=Ev.front (H:=H) (rH:=[.cells vs]) (T:=T) (rT:=[]) (L:=L') (w:=w') (L0:=L) (w0:=w) (H0:=H) (T0:=T) (nb:=H.length) (tb:=T.length) (by simpa using dB) (agE _) (agE _);exact h2
 have kp:cX L' H.length T w' (L'.bW (L'.bS H.length) vs.length) H.length T w':=by
  refine⟨agE _,λ_ _=>rfl,λt u z h=>⟨u,h,agE _,λ_=>rfl⟩,λx=>?_,λ_ _ _=>rfl,rfl⟩;show L'.m x<=if x=L'.bS H.length then vs.length else L'.m x
  split
  ·rename_i e;rw[e,g5];exact agP _
  ·exact agE _
 refine⟨_,H,T,L'.bW (L'.bS H.length) vs.length,_,⟨rfl,rfl,rfl⟩,rfl,oU,?_,?_⟩
 ·have UN:cJ L' H.length T w' vs c.toList:=by
   refine⟨by simpa using g3,λj hj=>?_,λj hj bQ=>?_⟩
   ·have:=vW j (by simpa using hj);rw[ahA];exact this
   ·have:=(g4 j hj (by simpa using bQ)).drop (hb _ (ahb hj));rw[agZ] at this;rw[ahA];exact this
  refine ba.mD cE ?_ (UN.keep kp) (λj hj=>?_) trivial
  ·show 0+vs.length<=if L'.bS H.length=L'.bS H.length then vs.length else _
   rw[agN rfl];omega
  ·rw[gp g1];simp
 ·exact⟨e1.n,e1.bS,e1.tok,e1.t,λb=>agJ (e1.m b) (kp.m b),e1.tF,e1.size,e1.frame,e1.wr,e1.os,e1.tape,e1.output,e1.drawn,e1.dr⟩
theorem cg.own (h:cg L H T w)(u:Nat){z:Nat}(hz:0<z):cg (L.bt T.length ⟨0,0,0⟩) H (T++[(u,z)]) w:=
 h.oz ⟨0,0,0⟩ u z (λh=>by simp at h) ⟨hz,λh=>by simp[Lay.bt] at h⟩
theorem Ev.own (u z:Nat):Ev H.length T.length L H.length T w (L.bt T.length ⟨0,0,0⟩) H.length (T++[(u,z)]) w:=
 (Ev.refl (agE _) (agE _)).oz (λh=>by simp at h)
theorem ba.own {n:Nat}{cs:List AV}{c:Value}{z:Nat}(h:ba L H.length T w (.sl n cs .full) c):ba (L.bt T.length ⟨0,0,0⟩) H.length (T++[(cs.length,z)]) w (.sl n cs (.own T.length)) c:=by
 have hk:=(h.cK).keep (Ev.own (H:=H) (T:=T) (L:=L) (w:=w) cs.length z).keeps;obtain⟨a,cap,rfl,cE,ht,_⟩:=h.fF;have tok:∀a',lP (L.bt T.length ⟨0,0,0⟩) (T++[(cs.length,z)]) (.own T.length) n cs.length a' cap:=λa'=>⟨cs.length,z,by simp,agE _,λ_=>.inl ht⟩
 simp only[Am.cK] at hk;obtain⟨a',kV,e1,jk,_,MM⟩:=hk.fF
 cases e1
 rcases MM with⟨e2,e3⟩|⟨b,base,cv,e2,g1,g2,g3⟩
 ·subst e2;subst e3;exact .yZ _ _ _ (tok _)
 ·subst e2;exact ba.mD jk g1 g2 g3 (tok _)
theorem ar.cF {a:AV}{as:List AV}{Q:AV->List aA->au->Prop}(h:ar P f (cK a::as) H T Q):ar P f (a::as) H T Q:=by
 refine⟨h.1,λL w ca hc hl hr=>h.2 L w ca hc hl (λj hj bQ=>?_)⟩
 cases j with
 |zero=>exact(hr 0 (by simp) bQ).cK
 |succ j=>exact hr (j+1) hj bQ
theorem ar.tZ {a b:AV}{as:List AV}{Q:AV->List aA->au->Prop}(h:ar P f (a::cK b::as) H T Q):ar P f (a::b::as) H T Q:=by
 refine⟨h.1,λL w ca hc hl hr=>h.2 L w ca hc hl (λj hj bQ=>?_)⟩
 match j,hj with
 |0,_=>exact hr 0 (by simp) bQ
 |1,_=>exact(hr 1 (by simp) bQ).cK
 |j+2,hj=>exact hr (j+2) hj bQ
def mX {C:Cx}{c:Code}{Q:Exit->St->Prop}{s:St}(t:Nat)(n z:Nat)(cs:List AV)(hz:0<z)(ht:bH s.e t=.sl n cs .full)(h:AW C c Q ⟨lN s.e t (.sl n cs (.own s.T.length)),s.H,s.T++[(cs.length,z)]⟩):AW C c Q s:=by
 intro L w a hc;have ev:=Ev.own (H:=s.H) (T:=s.T) (L:=L) (w:=w) cs.length z;refine wp_mono (h (L.bt s.T.length ⟨0,0,0⟩) w a ⟨hc.nb,by simp;have:=hc.tb;omega,hc.mO.own _ hz,hc.size,hc.defers,λt'=>?_⟩) λ_ _ _ k=>cO.step (s1:=⟨lN s.e t (.sl n cs (.own s.T.length)),s.H,s.T++[(cs.length,z)]⟩) (ev.mono hc.nb hc.tb) k
 by_cases h1:t=t'
 ·subst h1;rw[cM];have:=hc.env t;rw[ht] at this;exact this.own
 ·rw[bE _ _ _ _ h1];exact(hc.env t').keep ev.keeps
def ar.is {r r':AV}{H' H'':List aA}{T' T'':au}(h:ar P f args H T (Is r H' T'))(h1:r=r')(h2:H'=H'')(h3:T'=T''):ar P f args H T (Is r' H'' T''):=by subst h1;subst h2;subst h3;exact h
end
theorem Below.more {n n' t t':Nat}{v:AV}(h:Below n t v)(hn:n<=n')(ht:t<=t'):Below n' t' v:=by
 induction h with
 |top=>exact .top
 |bool b=>exact .bool b
 |int k x=>exact .int k x
 |str s=>exact .str s
 |fV=>exact .fV
 |ptr i o h=>exact .ptr i o (ahI h hn)
 |dZ cs o h ih=>exact .dZ cs o ih
 |sl m cs tg h hx ih=>exact .sl m cs tg ih (λx e=>ahI (hx x e) ht)
 |cN i o m h=>exact .cN i o m (ahI h hn)
 |bJ i m cap h=>exact .bJ i m cap (ahI h hn)
 |aQ i h=>exact .aQ i (ahI h hn)
 |fn f a b h1 h2 UL UK=>exact .fn f a b UL UK
 |ji=>exact .ji
 |mR=>exact .mR
 |AM=>exact .AM
 |agg cs h ih=>exact .agg cs ih
 |df cs h ih=>exact .df cs ih
def bN.T6 {H:List aA}{T:au}{b:aA}(h:bN H T)(hv:aM (H.length+1) T.length b.AY):bN (H++[b]) T:=by
 intro i us hi v hm;rw[agF,ahw];rcases agM i H.length with aZ|od
 ·rw[agK aZ] at hi;exact(h i us hi v hm).more (by omega) (agE _)
 ·have:i=H.length:=by have:=(agC.1 hi).1;simp at this;omega
  subst this;simp at hi;subst hi;exact hv v hm
def bN.snoc {H:List aA}{T:au}{vs:List AV}(h:bN H T)(hv:aM (H.length+1) T.length vs):bN (H++[.cells vs]) T:=h.T6 hv
def bN.R9 {H:List aA}{T:au}{m n:Nat}{seen:List Nat}(h:bN H T):bN (H++[.mv m n seen]) T:=h.T6 (λv hm=>by simp at hm)
def bN.ko {H:List aA}{T T':au}(h:bN H T)(ht:T.length<=T'.length):bN H T':=λi us hi v hm=>(h i us hi v hm).more (agE _) ht
def bN.Vf {H:List aA}{T:au}{b:aA}{k:Nat}(h:bN H T)(hv:aM H.length T.length b.AY):bN (H.set k b) T:=by
 intro i us hi v hm;rw[ahY]
 by_cases hk:k=i
 ·subst hk;have hl:=(agC.1 hi).1;rw[ahY] at hl;rw[ag4 hl] at hi
  injection hi with hi
  subst hi;exact hv v hm
 ·rw[ahs hk] at hi;exact h i us hi v hm
theorem bN.set {H:List aA}{T:au}{vs:List AV}{k:Nat}(h:bN H T)(hv:aM H.length T.length vs):bN (H.set k (.cells vs)) T:=h.Vf hv
def bN.rK {H:List aA}{T:au}{es:List (cS×AV)}{k:Nat}(h:bN H T)(hv:aM H.length T.length (es.map (·.2))):bN (H.set k (.map es)) T:=h.Vf hv
def bN.V3 {H:List aA}{T:au}{m n:Nat}{seen:List Nat}{k:Nat}(h:bN H T):bN (H.set k (.mv m n seen)) T:=h.Vf (λv hm=>by simp at hm)
def ag {C:Cx}{e e':Env}{H H':List aA}{T T':au}(rH:List aA)(rT:au)(hH:H=H'++rH)(hT:T=T'++rT)(hn:C.nb<=H'.length)(ht:C.tb<=T'.length)(ho:bN H' T')(he:bC H'.length T'.length e e') :
  tX C ⟨e,H,T⟩ ⟨e',H',T'⟩:=⟨hn,ht,⟨rH,hH⟩,⟨rT,hT⟩,ho,LQ he⟩
section
variable {α : Type} (H l : List α) (k : Nat) (x : α)
@[simp] theorem NY:(H++l)[H.length+k]?=l[k]?:=by rw[agX (by omega)];congr 1;omega
@[simp] theorem IM:(H++l)[H.length]?=l[0]?:=NY H l 0
end
def aD {D:vX}{next:List bX->List mP->Env->Prop}{o:Oper}{aR:List bX}{sts:List mP}{e:Env}{g:FuncId}{as:List AV}{H:List aA}{T:au}{v:AV}
  (h:ar D.C.P g as H T (Is v H T)) (hn:D.bI.contains aR.length=false) (k:AU D next o aR sts e true v H T):NK D next o aR sts e g as H T:=⟨v,H,T,h,λ_=>⟨rfl,rfl⟩,k⟩
def nX {D:vX}{next:List bX->List mP->Env->Prop}{o:Oper}{aR:List bX}{sts:List mP}{e:Env}{g:FuncId}{as:List AV}{H H':List aA}{T T':au}{v:AV}
  (h:ar D.C.P g as H T (Is v H' T')) (hn:D.bI.contains aR.length=true) (k:AU D next o aR sts e true v H' T'):NK D next o aR sts e g as H T:=⟨v,H',T',h,λhc=>absurd (hn.symm.trans hc) (by decide),k⟩
@[simp] theorem Xp {D:vX} {aR:List bX} {sts:List mP} {e:Env}:gK D [] aR sts e=(match sts.getLast? with
  |some (H,T,_)=>D.K ⟨e,H,T⟩
  |none=>False):=rfl
@[simp] theorem WJ {D:vX} {o:Oper} {r:List Oper} {aR:List bX} {sts:List mP} {e:Env}:gK D (o::r) aR sts e=(match sts.getLast? with
  |some (H,T,_)=>match o.guard with
   |none=>kH D (gK D r) o aR sts e H T
   |some (j,want)=>match o6 D.all j e with
    |some b=>if b=some want then kH D (gK D r) o aR sts e H T else AU D (gK D r) o aR sts e false (.df []) H T
    |none=>False
  |none=>False):=rfl
attribute [simp] kH AU wE Ru Rm dL
@[simp] theorem QH {a b:Int} (h1:0<=a) (h2:0<=b):(a+b).toNat=a.toNat+b.toNat:=by omega
attribute [simp] List.getD_cons_zero List.getD_cons_succ List.getD_nil
attribute [simp] if_pos if_neg List.getElem?_cons_zero List.getElem?_cons_succ List.getElem?_nil
@[simp] theorem aak {a b:Int} (h:0<=b):a.fdiv b=a / b:=Int.fdiv_eq_ediv_of_nonneg a h
@[simp] theorem abQ:IntKind.u64.bits=64:=rfl
@[simp] theorem adS:IntKind.u8.bits=8:=rfl
@[simp] theorem abR:IntKind.i64.bits=64:=rfl
@[simp] theorem WB:IntKind.u64.signed=false:=rfl
@[simp] theorem WC:IntKind.i64.signed=true:=rfl
@[simp] theorem acT:IntKind.u64.max=18446744073709551615:=rfl
end Go.Am
