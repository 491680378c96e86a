/- One operation over abstract values, and that it is what the model does. Regions, calls and whole functions over abstract states. The rules as they are used in a walk, encodings of lists, and the rewriting rules of the walk. Regions that draw their order, over abstract states: the walk goes in the order of the text; what other orders may do is asked beside it. Regions that draw their order: every order comes to what the text's order comes to. Steps that only the abstract states take: what is new is forgotten, a finished row becomes immutable, an empty end gets a token.
  Conditions: as the theorems say. -/
import Derived.Test.YtoejlmpbebjemaaGreatAmA
import Derived.Laws.StructEq
set_option linter.all false
namespace Go.Am
open Go
section
variable {P : Program} {L : Lay} {H : List Blk} {T : Toks} {w : World}
theorem Con.newIter (h:Con L H T w)(s:List UInt8) :
  ∃L',Con L' (H++[.iter s 0]) T (w.alloc (.stringIter ⟨s.toArray⟩ 0))∧Ev H.length T.length L H.length T w L' (H++[Blk.iter s 0]).length T (w.alloc (.stringIter ⟨s.toArray⟩ 0))∧L'.phi H.length=w.heap.size:=by
 have h1:=h.alloc (.stringIter ⟨s.toArray⟩ 0) 0;have e1:=Ev.alloc h (.stringIter ⟨s.toArray⟩ 0) 0;have hnw:¬Wr (L.commit w.heap.size 0) H.length T w.heap.size:=h.not_wr (Nat.le_refl _);refine⟨(L.commit w.heap.size 0).withBox H.length w.heap.size,h1.addBox w.heap.size hnw (.iter s 0) (fun hle=>by simp at hle;omega) ?_,Ev.addBox (b:=w.heap.size) (Blk.iter s 0) e1 (Nat.le_refl _),by simp[Lay.withBox]⟩;show (w.alloc _).heap[((L.commit w.heap.size 0).withBox H.length w.heap.size).phi H.length]?=_;rw[show ((L.commit w.heap.size 0).withBox H.length w.heap.size).phi H.length=w.heap.size by simp[Lay.withBox]];exact heap_alloc_at w _
def alen (P:Program)(t:TypeId)(x:AV):Option AV:=
 match P.underlying t,x with
 |some .string,.str s=>some (.int .i64 s.length)
 |some (.slice _),.sl n _ _=>some (.int .i64 n)
 |some (.slice _),.msl _ _ n=>some (.int .i64 n)
 |some (.slice _),.csl _ n _=>some (.int .i64 n)
 |some (.array n _),_=>some (.int .i64 n)
 |_,_=>none
theorem run_len {t ty:TypeId}{x r:AV}{c:Value}{N:Nat}(h:alen P t x=some r)(hx:Rep L N T w x c):∃cv,(Builtin.len_ #[t] ty #[c]).run P w=.ok cv w∧Rep L N T w r cv:=by
 unfold alen at h
 split at h
 ·rename_i s hu
  cases h
  rw[hx.str_inv];exact⟨.int .i64 s.length,by rw[run_len_string w t ty _ hu];rfl,.int _ _⟩
 ·rename_i e n cs tg hu
  cases h
  obtain⟨a,cap,rfl,_⟩:=hx.sl_inv;exact⟨.int .i64 n,by simp[Builtin.len_,run_underlying hu,goInt],.int _ _⟩
 ·rename_i e i o n hu
  cases h
  obtain⟨cap,rfl,_⟩:=hx.msl_inv;exact⟨.int .i64 n,by simp[Builtin.len_,run_underlying hu,goInt],.int _ _⟩
 ·rename_i e i n cap hu
  cases h
  obtain⟨rfl,_⟩:=hx.csl_inv;exact⟨.int .i64 n,by simp[Builtin.len_,run_underlying hu,goInt],.int _ _⟩
 ·rename_i n e hu
  cases h
  exact⟨.int .i64 n,by simp[Builtin.len_,run_underlying hu,goInt],.int _ _⟩
 ·cases h
def ammf (mx:Bool):AV→List AV→Option AV
 |acc,[]=>some acc
 |.int k x,.int _ y::r=>ammf mx (.int k (if mx then (if y>x then y else x) else (if y<x then y else x))) r
 |_,_=>none
def amm (mx:Bool):List AV→Option AV
 |[]=>none
 |x::r=>ammf mx x r
theorem run_ammf {N:Nat}(mx:Bool):∀(l:List AV)(cs:List Value)(acc r:AV)(ca:Value),ammf mx acc l=some r→Rep L N T w acc ca→cs.length=l.length→(∀(j:Nat)(h:j<l.length)(h':j<cs.length),Rep L N T w (l[j]'h) (cs[j]'h'))→
  ∃cv,(cs.foldlM (if mx then Builtin.max2 else Builtin.min2) ca).run P w=.ok cv w∧Rep L N T w r cv:=by
 intro l
 induction l with
 |nil=>
  intro cs acc r ca h ha hl _;have:cs=[]:=List.eq_nil_of_length_eq_zero hl;subst this;simp only[ammf,Option.some.injEq] at h;subst h;exact⟨ca,rfl,ha⟩
 |cons v l ih=>
  intro cs acc r ca h ha hl hr
  match cs,hl,hr with
  |c::cs,hl,hr=>
   have h0:=hr 0 (by simp) (by simp);simp only[List.getElem_cons_zero] at h0
   cases acc<;>cases v<;>simp only[ammf,reduceCtorEq] at h
   rw[ha.int_inv,h0.int_inv];obtain⟨cv,g1,g2⟩:=ih cs _ r _ h (.int _ _) (by simpa using hl) (fun j hj hj'=>by have:=hr (j+1) (by simpa using hj) (by simpa using hj');simpa using this);refine⟨cv,?_,g2⟩;rw[List.foldlM_cons,←g1]
   cases mx<;>rfl
theorem run_amm {N:Nat}{ty:TypeId}{ts:Array TypeId}(mx:Bool)(l:List AV)(cs:List Value)(r:AV)(h:amm mx l=some r)(hl:cs.length=l.length)(hr:∀(j:Nat)(h:j<l.length)(h':j<cs.length),Rep L N T w (l[j]'h) (cs[j]'h')) :
  ∃cv,((if mx then Builtin.max_ else Builtin.min_) ts ty cs.toArray).run P w=.ok cv w∧Rep L N T w r cv:=by
 match l,cs,hl,hr,h with
 |v::l,c::cs,hl,hr,h=>
  have h0:=hr 0 (by simp) (by simp);simp only[List.getElem_cons_zero] at h0;obtain⟨cv,g1,g2⟩:=run_ammf (P:=P) mx l cs v r c h h0 (by simpa using hl) (fun j hj hj'=>by have:=hr (j+1) (by simpa using hj) (by simpa using hj');simpa using this);refine⟨cv,?_,g2⟩;rw[←g1]
  cases mx<;>rfl
 |[],[],_,_,h=>simp[amm] at h
def eqFlds (P:Program):List Field→List AV→List AV→Option Bool
 |[],_,_=>some true
 |f::fs,xs,ys=>
  if f.name = "_" then none else
  match P.underlying f.type,xs[f.offset]?,ys[f.offset]? with
  |some (.int _),some (.int k a),some (.int k' b)=>if k=k' then (eqFlds P fs xs ys).map ((a==b)&&·) else none
  |some .string,some (.str a),some (.str b)=>(eqFlds P fs xs ys).map ((a==b)&&·)
  |some .bool,some (.bool a),some (.bool b)=>(eqFlds P fs xs ys).map ((a==b)&&·)
  |_,_,_=>none
def eqStruct (P:Program)(t:TypeId)(x y:AV):Option Bool:=
 match x,y with
 |.agg xs,.agg ys=>if P.stoodInHeld t=false∧P.eqGuardType P.depth t=false then
   match P.underlying t with
   |some (.struct fs)=>eqFlds P fs.toList xs ys
   |_=>none
  else none
 |_,_=>none
def abinS (P:Program)(op:BinOp)(t:TypeId)(x y:AV):Option AV:=
 match op with
 |.eql=>(eqStruct P t x y).map .bool
 |.neq=>(eqStruct P t x y).map fun b=>.bool (!b)
 |_=>none
theorem RepC.at {N:Nat}{xs:List AV}{c:List Value}{i:Nat}{v:AV}(h:RepC L N T w xs c)(hi:xs[i]?=some v):∃x,c[i]?=some x∧Rep L N T w v x:=by
 obtain⟨hlt,rfl⟩:=List.getElem?_eq_some_iff.1 hi;have hlt':i<c.length:=by rw[h.1];exact hlt
 exact⟨c[i],List.getElem?_eq_getElem hlt',h.2.2 i hlt hlt'⟩
theorem run_eqFlds {N:Nat}(d:Nat){xs ys:List AV}{cx cy:Array Value}(hx:RepC L N T w xs cx.toList)(hy:RepC L N T w ys cy.toList):∀(fs:List Field)(b:Bool),eqFlds P fs xs ys=some b→(Op.eqFields (d+1) cx cy fs).run P w=.ok b w:=by
 intro fs
 induction fs with
 |nil=>intro b h;cases h;rfl
 |cons f fs ih=>
  intro b h;unfold eqFlds at h
  split at h
  ·cases h
  ·rename_i hn;have fin:∀(v u:Value)(r:Bool),isAggT P f.type=some false→cx.toList[f.offset]?=some v→cy.toList[f.offset]?=some u→(Op.equalIn (d+1) f.type v u).run P w=.ok r w→
     (eqFlds P fs xs ys).map (r&&·)=some b→(Op.eqFields (d+1) cx cy (f::fs)).run P w=.ok b w:=by
    intro v u r ha hv hu he hm;obtain⟨b',hb',rfl⟩:=Option.map_eq_some_iff.1 hm;have hv':cx[f.offset]?=some v:=by simpa using hv
    have hu':cy[f.offset]?=some u:=by simpa using hu
    have p1:(part f.type cx f.offset).run P w=.ok v w:=by
     simp only[part,Sem.run_bind,run_isAgg ha,Result.andThen_ok,Bool.false_eq_true,if_false,hv'];rfl
    have p2:(part f.type cy f.offset).run P w=.ok u w:=by
     simp only[part,Sem.run_bind,run_isAgg ha,Result.andThen_ok,Bool.false_eq_true,if_false,hu'];rfl
    simp only[Op.eqFields,if_pos hn,Sem.run_bind,p1,p2,Result.andThen_ok,he]
    cases r
    ·simp
    ·simpa using ih b' hb'
   split at h
   ·rename_i hu h1 h2
    split at h
    ·rename_i hk;subst hk;obtain⟨v,v1,v2⟩:=hx.at h1;obtain⟨u,u1,u2⟩:=hy.at h2;rw[v2.int_inv] at v1;rw[u2.int_inv] at u1;exact fin _ _ _ (by simp[isAggT,hu]) v1 u1 (run_equalIn_int w d _ _ _ _ _ hu) h
    ·cases h
   ·rename_i hu h1 h2;obtain⟨v,v1,v2⟩:=hx.at h1;obtain⟨u,u1,u2⟩:=hy.at h2;rw[v2.str_inv] at v1;rw[u2.str_inv] at u1;refine fin _ _ _ (by simp[isAggT,hu]) v1 u1 ?_ h;rw[run_equalIn_string w d _ _ _ hu,toList_mk,toList_mk]
   ·rename_i hu h1 h2;obtain⟨v,v1,v2⟩:=hx.at h1;obtain⟨u,u1,u2⟩:=hy.at h2;rw[v2.bool_inv] at v1;rw[u2.bool_inv] at u1;exact fin _ _ _ (by simp[isAggT,hu]) v1 u1 (run_equalIn_bool' w d _ _ _ hu) h
   ·cases h
theorem run_abinS {N:Nat}{op:BinOp}{t:TypeId}{x y r:AV}{cx cy:Value}(h:abinS P op t x y=some r)(hx:Rep L N T w x cx)(hy:Rep L N T w y cy)(ox oy:Operand) :
  ∃cv,(eqGuard op t ox oy cx cy >>= fun _=>binOp op t cx cy).run P w=.ok cv w∧∀(L:Lay)(N:Nat)(T:Toks)(w':World),Rep L N T w' r cv:=by
 have key:∀b,eqStruct P t x y=some b→∃xs ys,cx=.agg xs∧cy=.agg ys∧P.eqGuardType P.depth t=false∧(Op.equalIn 10000 t (.agg xs) (.agg ys)).run P w=.ok b w:=by
  intro b hb;unfold eqStruct at hb
  split at hb
  ·rename_i xs ys
   split at hb
   ·rename_i hg
    split at hb
    ·rename_i fs hu
     cases hx with
     |agg _ cxa a1 a2 a3=>
      cases hy with
      |agg _ cya b1 b2 b3=>
       refine⟨cxa,cya,rfl,rfl,hg.2,?_⟩;have hf:P.fieldsOf t=fs:=by simp[Program.fieldsOf,hu]
       rw[run_equalIn_struct w 9999 t cxa cya (by rw[hf];exact hu) hg.1,hf];exact run_eqFlds 9998 (RepC.of_agg (.agg _ _ a1 a2 a3)) (RepC.of_agg (.agg _ _ b1 b2 b3)) _ _ hb
    ·cases hb
   ·cases hb
  ·cases hb
 unfold abinS at h
 split at h
 ·obtain⟨b,hb,rfl⟩:=Option.map_eq_some_iff.1 h;obtain⟨xs,ys,rfl,rfl,hg,hr⟩:=key b hb;refine⟨.bool b,?_,fun _ _ _ _=>.bool _⟩;simp only[Sem.run_bind,run_eqGuard_agg w _ _ _ _ _ _ hg,Result.andThen_ok,run_eql_struct,hr]
 ·obtain⟨b,hb,rfl⟩:=Option.map_eq_some_iff.1 h;obtain⟨xs,ys,rfl,rfl,hg,hr⟩:=key b hb;refine⟨.bool (!b),?_,fun _ _ _ _=>.bool _⟩;simp only[Sem.run_bind,run_eqGuard_agg w _ _ _ _ _ _ hg,Result.andThen_ok,run_neq_struct,hr]
 ·cases h
def sameOpd:Operand→Operand→Bool
 |.tmp a,.tmp b=>a==b
 |.const (.int k a),.const (.int k' b)=>k==k'&&a==b
 |_,_=>false
abbrev Res:=Option (AV×List Blk×Toks)
def aclear (P:Program)(H:List Blk)(t:TypeId)(x:AV):Option (List Blk):=
 match P.underlying t,x with
 |some (.slice e),.msl i o n=>if n=0 then some H else match H[i]?,azero P e with
  |some (.cells vs),some zs=>if 0<zs.length∧o+n*zs.length≤vs.length then some (H.set i (.cells (setMany vs o (amade zs (n*zs.length))))) else none
  |_,_=>none
 |_,_=>none
theorem run_clear {t ty:TypeId}{x:AV}{c:Value}{H':List Blk}(hc:Con L H T w)(h:aclear P H t x=some H')(hx:Rep L H.length T w x c) :
  ∃cv w' L',(Builtin.clear_ #[t] ty #[c]).run P w=.ok cv w'∧Con L' H' T w'∧Rep L' H'.length T w' .top cv∧Ev H.length T.length L H.length T w L' H'.length T w':=by
 unfold aclear at h
 split at h
 ·rename_i e i o n hu;obtain⟨cap,rfl,hcap,hlt⟩:=hx.msl_inv
  split at h
  ·rename_i hn
   cases h
   subst hn;exact⟨.tuple #[],w,L,by simp[Builtin.clear_,run_underlying hu],hc,.top _,Ev.refl (Nat.le_refl _) (Nat.le_refl _)⟩
  ·rename_i hn
   split at h
   ·rename_i vs zs hi hz
    split at h
    ·rename_i hle
     cases h
     obtain⟨inf,z,h1,h2,h3,h4⟩:=azero_rep (L:=L) (T:=T) (w:=w) (N:=H.length) hz;have hsz:z.cells.size=zs.length:=by have:=h3.1;simpa using this
     have hr:=amade_rep (n:=n*zs.length) h3 (.inl hle.1);have hzc:(Builtin.zeroCells z.cells n).toList=(madeCells z.cells (n*zs.length)).toList:=by rw[←hsz];rfl
     rw[←hzc] at hr;have hlen:(amade zs (n*zs.length)).length=n*zs.length:=by simp[amade]
     obtain⟨w',hst,hcon,hev⟩:=run_storeMany (P:=P) i o (amade zs (n*zs.length)) (Builtin.zeroCells z.cells n).toList 0 H w vs hc hr hi (by rw[hlen];omega);obtain⟨m,rfl⟩:∃m,n=m+1:=⟨n-1,by omega⟩
     refine⟨.tuple #[],w',L,?_,hcon,.top _,hev⟩;simp[Builtin.clear_,run_underlying hu,run_zero h1 h2,hst]
    ·cases h
   ·cases h
 ·cases h
def abuiltin (P:Program)(b:Builtin)(ts:Array TypeId)(args:List AV)(H:List Blk)(T:Toks):Res:=
 match b,ts.toList,args with
 |.len,[t],[x]=>(alen P t x).map (·,H,T)
 |.append,[t,t2],[s,x]=>match s with
  |.msl i o n=>(aapp0 P H t t2 (.msl i o n) x).map (·,H,T)
  |s=>(aappend P H T t t2 s x).map fun(v,T')=>(v,H,T')
 |.max,_,l=>(amm true l).map (·,H,T)
 |.min,_,l=>(amm false l).map (·,H,T)
 |.clear,[t],[x]=>(aclear P H t x).map fun H'=>(.top,H',T)
 |_,_,_=>none
def anilI (P:Program)(op:BinOp)(t:TypeId)(y:Operand)(ax:AV):Option AV:=
 match y with
 |.const .nilIface=>match P.underlying t,ax,op with
  |some (.interface _),.nili,.eql=>some (.bool true)
  |some (.interface _),.nili,.neq=>some (.bool false)
  |some (.interface _),.ifc,.eql=>some (.bool false)
  |some (.interface _),.ifc,.neq=>some (.bool true)
  |_,_,_=>none
 |_=>none
theorem run_anilI {op:BinOp}{t:TypeId}{x y:Operand}{ax r:AV}{a:Act}{N:Nat}(h:anilI P op t y ax=some r)(hx:Rep L N T w ax (a.eval x)) :
  ∃cv,(eqGuard op t x y (a.eval x) (a.eval y) >>= fun _=>binOp op t (a.eval x) (a.eval y)).run P w=.ok cv w∧∀(L:Lay)(N:Nat)(T:Toks)(w':World),Rep L N T w' r cv:=by
 have g1:∀op,(eqGuard op t x (.const .nilIface) .nilIface .nilIface).run P w=.ok () w:=fun op=>by
  unfold eqGuard
  cases op<;>simp
 have g2:∀op t' v,(eqGuard op t x (.const .nilIface) (.iface t' v) .nilIface).run P w=.ok () w:=fun op t' v=>by
  unfold eqGuard
  cases op<;>simp
 unfold anilI at h
 split at h
 ·have e2:a.eval (.const .nilIface)=.nilIface:=rfl;rw[e2]
  split at h
  ·rename_i ms hu
   cases h
   rw[hx.nili_inv,Sem.run_bind,g1,Result.andThen_ok];exact⟨_,run_eql t _ _ true .eql (.inl rfl) rfl rfl (fun d=>by simp only[Op.equalIn,Sem.run_bind,run_underlying hu,Result.andThen_ok];rfl),fun _ _ _ _=>.bool _⟩
  ·rename_i ms hu
   cases h
   rw[hx.nili_inv,Sem.run_bind,g1,Result.andThen_ok];exact⟨_,run_eql t _ _ true .neq (.inr rfl) rfl rfl (fun d=>by simp only[Op.equalIn,Sem.run_bind,run_underlying hu,Result.andThen_ok];rfl),fun _ _ _ _=>.bool _⟩
  ·rename_i ms hu
   cases h
   obtain⟨t',v,e⟩:=hx.ifc_inv;rw[e,Sem.run_bind,g2,Result.andThen_ok];exact⟨_,run_eql t _ _ false .eql (.inl rfl) rfl rfl (fun d=>by simp only[Op.equalIn,Sem.run_bind,run_underlying hu,Result.andThen_ok];rfl),fun _ _ _ _=>.bool _⟩
  ·rename_i ms hu
   cases h
   obtain⟨t',v,e⟩:=hx.ifc_inv;rw[e,Sem.run_bind,g2,Result.andThen_ok];exact⟨_,run_eql t _ _ false .neq (.inr rfl) rfl rfl (fun d=>by simp only[Op.equalIn,Sem.run_bind,run_underlying hu,Result.andThen_ok];rfl),fun _ _ _ _=>.bool _⟩
  ·cases h
 ·cases h
def aop (P:Program)(o:Oper)(e:Env)(H:List Blk)(T:Toks):Res:=
 match o.op with
 |.move x=>some (aev e x,H,T)
 |.assign x=>some (aev e x,H,T)
 |.pick c a b=>match aev e c with
  |.bool t=>some (if t then aev e a else aev e b,H,T)
  |_=>none
 |.alloc t=>(azero P t).map fun zs=>(.ptr H.length 0,H++[.cells zs],T)
 |.box _ x=>(axs (aev e x)).map fun xs=>(.ptr H.length 0,H++[.cells xs],T)
 |.build t ps=>(abuild P t (ps.toList.map fun(x:Nat×Operand)=>(x.1,aev e x.2))).map (·,H,T)
 |.buildSlice t n ps=>(abuildSlice P t n (ps.toList.map fun(x:Nat×Operand)=>(x.1,aev e x.2))).map (·,H,T)
 |.load t a=>match arow H (aev e a) with
  |some (vs,o)=>(aload P t vs o).map (·,H,T)
  |none=>none
 |.store t a x=>match aev e a,axs (aev e x) with
  |.ptr i o,some xs=>match H[i]? with
   |some (.cells vs)=>if xs.length=P.cellsOf t∧o+xs.length≤vs.length∧(P.underlying t).isSome=true then some (.top,H.set i (.cells (setMany vs o xs)),T) else none
   |_=>none
  |_,_=>none
 |.nilCheck x=>match aev e x with
  |.ptr i o=>some (.ptr i o,H,T)
  |.vptr cs o=>some (.vptr cs o,H,T)
  |.fn f a b=>some (.fn f a b,H,T)
  |_=>none
 |.binOp op t x y _=>match anilI P op t y (aev e x) with
  |some r=>some (r,H,T)
  |none=>if eqType P t (aev e x)=true then (abin op (aev e x) (aev e y)).map (·,H,T) else (abinS P op t (aev e x) (aev e y)).map (·,H,T)
 |.unOp u _ x=>(aun u (aev e x)).map (·,H,T)
 |.convert s d x=>match P.underlying s,P.underlying d,aev e x with
  |some .string,some (.slice el),.str b=>match P.underlying el with
   |some (.int .u8)=>some (.sl b.length (encB b) .none,H,T)
   |_=>none
  |_,_,_=>(aconv P H s d (aev e x)).map (·,H,T)
 |.makeFunc (.func f) first caps=>some (.fn f (first.toList.map (aev e)) (caps.toList.map (aev e)),H,T)
 |.makeSlice t l c=>match P.underlying t,aev e l,aev e c with
  |some (.slice el),.int _ a,.int _ b=>match azero P el with
   |some zs=>
    if 0<zs.length∧0≤b∧b.toNat*P.bytesOf el≤281474976710656∧b.toNat≤9223372036854775807∧0<P.cellsOf el then
     if sameOpd l c=true then some (.csl H.length b.toNat b.toNat,H++[.cells (amade zs (b.toNat*P.cellsOf el))],T)
     else if a=0 then some (.sl 0 [] (.own T.length),H,T++[(0,P.cellsOf el)]) else none
    else none
   |none=>none
  |_,_,_=>none
 |.slice t x lo hi mx=>(aslice P t (aev e x) (lo.map (aev e)) (hi.map (aev e)) (mx.map (aev e))).map (·,H,T)
 |.fieldAddr t x f=>(afieldAddr P t (aev e x) f).map (·,H,T)
 |.field t x f=>(afield P t (aev e x) f).map (·,H,T)
 |.indexAddr t x i=>(aindexAddr P t (aev e x) (aev e i)).map (·,H,T)
 |.index t x i=>(aindex P t (aev e x) (aev e i)).map (·,H,T)
 |.extract x i=>match aev e x with
  |.tup vs=>if i<vs.length then some (vs.getD i .top,H,T) else none
  |_=>none
 |.range t x=>match aev e x with
  |.str s=>match P.underlying t with
   |some .string=>some (.ptr H.length 0,H++[.iter s 0],T)
   |_=>none
  |.mref m=>match mapT P t,H[m]? with
   |some _,some (.map es)=>some (.ptr H.length 0,H++[.mit m es.length []],T)
   |_,_=>none
  |_=>none
 |.makeMap _ none=>some (.mref H.length,H++[.map []],T)
 |.lookup t x i ok=>match aev e x,mapT P t,keyAV (aev e i) with
  |.mref m,some (kt,el),some k=>match H[m]?,azeroV P el with
   |some (.map es),some z=>if fitsB P kt k=true∧keysFit P kt es=true then some (lookV es k z ok,H,T) else none
   |_,_=>none
  |_,_,_=>none
 |.mapUpdate t m k x=>match aev e m,mapT P t,keyAV (aev e k) with
  |.mref i,some (kt,_),some kk=>match H[i]? with
   |some (.map es)=>if fitsB P kt kk=true∧keysFit P kt es=true then some (.top,H.set i (.map (mput es kk (aev e x))),T) else none
   |_=>none
  |_,_,_=>none
 |.entry x=>match aev e x with
  |.ptr i 0=>match H[i]? with
   |some (.mit m n seen)=>match H[m]?,seen.getLast? with
    |some (.map es),some j=>if n=es.length then (es[j]?).map fun kv=>(.tup [kv.1.av,kv.2],H,T) else none
    |_,_=>none
   |_=>none
  |_=>none
 |.next x true=>match aev e x with
  |.ptr i 0=>match H[i]? with
   |some (.iter s pos)=>if pos<s.length then some (.tup [.bool true,.int .i64 pos,.int .i32 (Utf8.decode ⟨s.toArray⟩ pos).1],H.set i (.iter s (pos+(Utf8.decode ⟨s.toArray⟩ pos).2)),T)
    else some (.tup [.bool false],H,T)
   |_=>none
  |_=>none
 |.call { callee:=.builtin b,args,argTypes }=>abuiltin P b argTypes (args.toList.map (aev e)) H T
 |_=>none
theorem Good.of {x:Sem Value}{y:Sem Next}{r:AV}{H':List Blk}{T':Toks}(hy:y=(do pure (Next.value (←x))))(h:∃cv w' L',x.run P w=.ok cv w'∧Con L' H' T' w'∧Rep L' H'.length T' w' r cv∧Ev H.length T.length L H.length T w L' H'.length T' w') :
  Good P y H T L w r H' T':=by
 obtain⟨cv,w',L',h1,h2,h3,h4⟩:=h;exact⟨.value cv,cv,w',L',by rw[hy];simp only[Sem.run_bind,h1,Result.andThen_ok];rfl,.inl rfl,h2,h3,h4⟩
theorem Good.same {x:Sem Value}{y:Sem Next}{r:AV}(hy:y=(do pure (Next.value (←x))))(hc:Con L H T w)(h:∃cv,x.run P w=.ok cv w∧Rep L H.length T w r cv):Good P y H T L w r H T:=by
 obtain⟨cv,h1,h2⟩:=h;exact Good.of hy ⟨cv,w,L,h1,hc,h2,Ev.refl (Nat.le_refl _) (Nat.le_refl _)⟩
theorem rep_parts {a:Act}{e:Env}(he:EnvRep L H.length T w e a)(ps:Array (Nat×Operand)) :
  (ps.map fun(x:Nat×Operand)=>match x with|(i,x)=>(i,a.eval x)).size=(ps.toList.map fun(x:Nat×Operand)=>(x.1,aev e x.2)).length∧
  ∀(j:Nat) (h:j<(ps.toList.map fun(x:Nat×Operand)=>(x.1,aev e x.2)).length) (h':j<(ps.map fun(x:Nat×Operand)=>match x with|(i,x)=>(i,a.eval x)).toList.length),
   ((ps.toList.map fun(x:Nat×Operand)=>(x.1,aev e x.2))[j]'h).1=((ps.map fun(x:Nat×Operand)=>match x with|(i,x)=>(i,a.eval x)).toList[j]'h').1∧
   Rep L H.length T w ((ps.toList.map fun(x:Nat×Operand)=>(x.1,aev e x.2))[j]'h).2 ((ps.map fun(x:Nat×Operand)=>match x with|(i,x)=>(i,a.eval x)).toList[j]'h').2:=by
 refine⟨by simp,fun j h h'=>?_⟩;simp only[List.getElem_map,Array.toList_map];exact⟨by first|rfl|trivial,he.aev _⟩
theorem run_abuiltin {b:Builtin}{ts:List TypeId}{ty:TypeId}{A:List AV}{B:List Value}{cst:Array Bool}{r:AV}{H':List Blk}{T':Toks}(hc:Con L H T w)(h:abuiltin P b ts.toArray A H T=some (r,H',T'))
  (hl:B.length=A.length) (hr:∀(j:Nat)(h:j<A.length)(h':j<B.length),Rep L H.length T w (A[j]'h) (B[j]'h')):Good P (builtin b ts.toArray ty cst B.toArray) H T L w r H' T':=by
 have one:∀{x:Option AV} {y:AV×List Blk×Toks},x.map (fun v=>(v,H,T))=some y→∃v,x=some v∧y=(v,H,T):=by
  intro x y hx
  cases x with
  |none=>cases hx
  |some v=>exact⟨v,rfl,by cases hx;rfl⟩
 unfold abuiltin at h
 split at h
 ·rename_i t x hts;have hts':ts=[t]:=hts;subst hts';obtain⟨v,hv,e1⟩:=one h
  cases e1
  match B,hl,hr with
  |[c],_,hr=>
   have h0:=hr 0 (by simp) (by simp);simp only[List.getElem_cons_zero] at h0;exact Good.same (x:=Builtin.len_ #[t] ty #[c]) rfl hc (run_len hv h0)
 ·rename_i t t2 s x hts;have hts':ts=[t,t2]:=hts;subst hts'
  split at h
  ·rename_i i o n;obtain⟨v,hv,e1⟩:=one h
   cases e1
   match B,hl,hr with
   |[c,d],_,hr=>
    have h0:=hr 0 (by simp) (by simp);have h1:=hr 1 (by simp) (by simp);simp only[List.getElem_cons_zero,List.getElem_cons_succ] at h0 h1;exact Good.same (x:=Builtin.append_ #[t,t2] ty #[c,d]) rfl hc (run_app0 hc hv h0 h1)
  ·cases ha:aappend P H T t t2 s x with
   |none=>rw[ha] at h;cases h
   |some y=>
    obtain⟨v,Tn⟩:=y;rw[ha] at h
    cases h
    match B,hl,hr with
    |[c,d],_,hr=>
     have h0:=hr 0 (by simp) (by simp);have h1:=hr 1 (by simp) (by simp);simp only[List.getElem_cons_zero,List.getElem_cons_succ] at h0 h1;exact Good.of (x:=Builtin.append_ #[t,t2] ty #[c,d]) rfl (run_append hc ha h0 h1)
 ·obtain⟨v,hv,e1⟩:=one h
  cases e1
  exact Good.same (x:=Builtin.max_ ts.toArray ty B.toArray) rfl hc (run_amm (P:=P) (ty:=ty) (ts:=ts.toArray) true _ B r hv hl hr)
 ·obtain⟨v,hv,e1⟩:=one h
  cases e1
  exact Good.same (x:=Builtin.min_ ts.toArray ty B.toArray) rfl hc (run_amm (P:=P) (ty:=ty) (ts:=ts.toArray) false _ B r hv hl hr)
 ·rename_i t x hts;have hts':ts=[t]:=hts;subst hts'
  cases ha:aclear P H t x with
  |none=>rw[ha] at h;cases h
  |some Hn=>
   rw[ha] at h
   cases h
   match B,hl,hr with
   |[c],_,hr=>
    have h0:=hr 0 (by simp) (by simp);simp only[List.getElem_cons_zero] at h0;exact Good.of (x:=Builtin.clear_ #[t] ty #[c]) rfl (run_clear hc ha h0)
 ·cases h
theorem aop_sound {o:Oper}{e:Env}{a:Act}{r:AV}{H':List Blk}{T':Toks}(hc:Con L H T w)(he:EnvRep L H.length T w e a)(h:aop P o e H T=some (r,H',T')):Good P (execOp a.eval o) H T L w r H' T':=by
 obtain⟨dst,op,type,pos,after,guard⟩:=o;have one:∀{x:Option AV} {y:AV×List Blk×Toks},x.map (fun v=>(v,H,T))=some y→∃v,x=some v∧y=(v,H,T):=by
  intro x y hx
  cases x with
  |none=>cases hx
  |some v=>exact⟨v,rfl,by cases hx;rfl⟩
 cases op<;>simp only[aop,reduceCtorEq] at h
 case move x=>cases h;exact Good.now hc rfl (he.aev x)
 case assign x=>cases h;exact Good.now hc rfl (he.aev x)
 case pick c x y=>
  split at h
  ·rename_i t ht
   cases h
   have hb:=he.aev c;rw[ht] at hb;refine Good.same (x:=do pure (if←asBool (a.eval c) then a.eval x else a.eval y)) (by simp[execOp]) hc ⟨if t then a.eval x else a.eval y,by rw[hb.bool_inv];rfl,?_⟩
   cases t
   ·exact he.aev y
   ·exact he.aev x
  ·cases h
 case alloc t=>
  cases hz:azero P t with
  |none=>rw[hz] at h;cases h
  |some zs=>
   rw[hz] at h
   cases h
   obtain⟨i,z,hi,hzz,hr,_⟩:=azero_rep (L:=L) (N:=H.length) (T:=T) (w:=w) hz;obtain⟨L',h1,h2,h3⟩:=hc.newBox z.cells t hr;refine Good.of (x:=Instr.alloc t true (.tuple #[])) rfl ⟨.pointer (some ⟨w.heap.size,0,none⟩),_,L',?_,h1,?_,h2⟩
   ·simp only[Instr.alloc,Sem.run_bind,run_zero hi hzz,Result.andThen_ok];rfl
   ·rw[←h3];exact .ptr _ _ (by simp)
 case box t x=>
  cases hz:axs (aev e x) with
  |none=>rw[hz] at h;cases h
  |some xs=>
   rw[hz] at h
   cases h
   have hr:=axs_rep hz (he.aev x);obtain⟨L',h1,h2,h3⟩:=hc.newBox (a.eval x).cells t hr;refine Good.of (x:=Instr.box t (a.eval x)) rfl ⟨.pointer (some ⟨w.heap.size,0,none⟩),_,L',?_,h1,?_,h2⟩
   ·rfl
   ·rw[←h3];exact .ptr _ _ (by simp)
 case build t ps=>
  obtain⟨v,hv,e1⟩:=one h
  cases e1
  obtain⟨g1,g2⟩:=rep_parts he ps;exact Good.same rfl hc (run_build hv g1 g2)
 case buildSlice t n ps=>
  obtain⟨v,hv,e1⟩:=one h
  cases e1
  obtain⟨g1,g2⟩:=rep_parts he ps;exact Good.of rfl (run_buildSlice hc hv g1 g2)
 case load t x=>
  split at h
  ·rename_i vs o hrow;obtain⟨v,hv,e1⟩:=one h
   cases e1
   obtain⟨b,base,cv,e2,hr,hcell⟩:=arow_reads hc (he.aev x) hrow;obtain⟨c,h1,h2⟩:=run_loadVar (P:=P) hr hcell hv;refine Good.same (x:=Instr.loadAt t (a.eval x)) rfl hc ⟨c,?_,h2⟩;rw[e2];exact h1
  ·cases h
 case store t x y=>
  split at h
  ·rename_i i o xs hx hy
   split at h
   ·rename_i vs hi
    split at h
    ·rename_i hb
     cases h
     obtain⟨hl,hle,hu⟩:=hb;obtain⟨d,hd⟩:=Option.isSome_iff_exists.1 hu;have hp:=he.aev x;rw[hx] at hp;obtain⟨e2,hlt⟩:=hp.ptr_inv;have hr:=axs_rep hy (he.aev y);obtain⟨w',h1,h2,h3⟩:=run_storeMany (P:=P) (L:=L) (T:=T) i o xs (a.eval y).cells.toList 0 H w vs hc hr hi (by simpa using hle);have hsz:(a.eval y).cells.size=P.cellsOf t:=by have:=hr.1;simp at this;omega
     refine⟨.skip,undef,w',L,?_,.inr ⟨rfl,rfl⟩,h2,.top _,h3⟩;have:(Instr.storeAt t (a.eval x) (a.eval y)).run P w=.ok () w':=by
      rw[e2];simp only[Instr.storeAt,Instr.sureAddr,pure_bind,storeVar,Sem.run_bind,run_sizeOf' hd,Result.andThen_ok,hsz,ne_eq,not_true_eq_false,if_false];exact h1
     simp only[execOp,Sem.run_bind,this,Result.andThen_ok];rfl
    ·cases h
   ·cases h
  ·cases h
 case nilCheck x=>
  have hp:=he.aev x
  split at h
  ·rename_i i o hx
   cases h
   rw[hx] at hp;obtain⟨e2,hlt⟩:=hp.ptr_inv;refine Good.now hc ?_ (e2▸hp);simp only[execOp,e2];rfl
  ·rename_i cs o hx
   cases h
   rw[hx] at hp;generalize hcx:a.eval x=cx at hp
   cases hp with
   |vptr _ _ b base f hm hcc h1 hr=>
    refine Good.now hc ?_ (.vptr cs o b base f hm hcc h1 hr);simp only[execOp,hcx];rfl
  ·rename_i f fa ca hx
   cases h
   rw[hx] at hp;generalize hcx:a.eval x=cx at hp
   cases hp with
   |fn _ _ _ fv cv h1 h2 hr1 hr2=>
    refine Good.now hc ?_ (.fn f fa ca fv cv h1 h2 hr1 hr2);simp only[execOp,hcx];rfl
  ·cases h
 case binOp op t x y yt=>
  split at h
  ·rename_i v hv
   cases h
   obtain⟨cv,h1,h2⟩:=run_anilI hv (he.aev x);exact Good.same (x:=(do eqGuard op t x y (a.eval x) (a.eval y);binOp op t (a.eval x) (a.eval y))) rfl hc ⟨cv,h1,h2 _ _ _ _⟩
  split at h
  ·rename_i ht;obtain⟨v,hv,e1⟩:=one h
   cases e1
   obtain⟨cv,h1,h2⟩:=run_abin t hv ht (he.aev x) (he.aev y) x y;exact Good.same (x:=(do eqGuard op t x y (a.eval x) (a.eval y);binOp op t (a.eval x) (a.eval y))) rfl hc ⟨cv,h1,h2 _ _ _ _⟩
  ·obtain⟨v,hv,e1⟩:=one h
   cases e1
   obtain⟨cv,h1,h2⟩:=run_abinS hv (he.aev x) (he.aev y) x y;exact Good.same (x:=(do eqGuard op t x y (a.eval x) (a.eval y);binOp op t (a.eval x) (a.eval y))) rfl hc ⟨cv,h1,h2 _ _ _ _⟩
 case unOp u t x=>
  obtain⟨v,hv,e1⟩:=one h
  cases e1
  obtain⟨cv,h1,h2⟩:=run_aun (P:=P) hv (he.aev x);exact Good.same rfl hc ⟨cv,h1,h2 _ _ _ _⟩
 case convert s d x=>
  split at h
  ·rename_i el b h1 h2 h3
   split at h
   ·rename_i h4
    cases h
    have hb:=he.aev x;rw[h3] at hb;exact Good.of rfl (run_bytes hc h1 h2 h4 hb)
   ·cases h
  ·obtain⟨v,hv,e1⟩:=one h
   cases e1
   exact Good.same rfl hc (run_conv hc hv (he.aev x))
 case makeFunc fn first caps=>
  cases fn<;>simp only[reduceCtorEq] at h
  rename_i f
  cases h
  refine Good.now hc rfl (.fn f _ _ _ _ (by simp) (by simp) (fun j hj hj'=>?_) (fun j hj hj'=>?_))
  ·simp only[List.getElem_map,Array.getElem_map,Array.getElem_toList];exact he.aev _
  ·simp only[List.getElem_map,Array.getElem_map,Array.getElem_toList];exact he.aev _
 case makeSlice t l c=>
  split at h
  ·rename_i el k1 x k2 y hu hl hcap
   split at h
   ·rename_i zs hz
    split at h
    ·rename_i hb;obtain⟨b1,b2,b3,b4,b5⟩:=hb;have rl:=he.aev l;have rc:=he.aev c;rw[hl] at rl;rw[hcap] at rc
     split at h
     ·rename_i hs
      cases h
      have hxy:a.eval l=a.eval c:=by
       unfold sameOpd at hs
       split at hs
       ·simp at hs;rw[hs]
       ·simp at hs;rw[hs.1,hs.2]
       ·cases hs
      have ey:=rc.int_inv;have:=run_makeBox (t:=t) hc hu hz b1 k2 k2 y.toNat b3 b4;rw[Int.toNat_of_nonneg b2] at this;refine Good.of (x:=Instr.makeSlice t (a.eval l) (a.eval c)) rfl ?_;rw[hxy,ey];exact this
     ·split at h
      ·rename_i hx0
       cases h
       subst hx0;have ey:=rc.int_inv;have ex:=rl.int_inv;have:=run_makeOwn (t:=t) hc hu hz b5 k1 k2 y.toNat b3 b4;rw[Int.toNat_of_nonneg b2] at this;refine Good.of (x:=Instr.makeSlice t (a.eval l) (a.eval c)) rfl ?_;rw[ex,ey];exact this
      ·cases h
    ·cases h
   ·cases h
  ·cases h
 case slice t x lo hi mx=>
  obtain⟨v,hv,e1⟩:=one h
  cases e1
  have hopt:∀(q:Option Operand) v cv,q.map (aev e)=some v→q.map a.eval=some cv→Rep L H.length T w v cv:=by
   intro q v cv h1 h2
   cases q with
   |none=>cases h1
   |some q=>cases h1;cases h2;exact he.aev q
  exact Good.same rfl hc (run_slice hv (he.aev x) (hopt lo) (hopt hi) (hopt mx) (by simp) (by simp) (by simp))
 case fieldAddr t x f=>
  obtain⟨v,hv,e1⟩:=one h
  cases e1
  exact Good.same rfl hc (run_fieldAt hv (he.aev x))
 case field t x f=>
  obtain⟨v,hv,e1⟩:=one h
  cases e1
  exact Good.same rfl hc (run_field hv (he.aev x))
 case indexAddr t x i=>
  obtain⟨v,hv,e1⟩:=one h
  cases e1
  exact Good.same rfl hc (run_indexAt hv (he.aev x) (he.aev i))
 case index t x i=>
  obtain⟨v,hv,e1⟩:=one h
  cases e1
  exact Good.same rfl hc (run_index hv (he.aev x) (he.aev i))
 case extract x i=>
  split at h
  ·rename_i vs hx
   split at h
   ·rename_i hlt
    cases h
    have hp:=he.aev x;rw[hx] at hp;generalize hcx:a.eval x=cx at hp
    cases hp with
    |tup _ cv h1 hr=>
     have hlt':i<cv.size:=by omega
     refine Good.same (x:=Instr.extract (a.eval x) i) rfl hc ⟨cv[i],?_,?_⟩
     ·rw[hcx];simp only[Instr.extract,Array.getElem?_eq_getElem hlt'];rfl
     ·rw[List.getD_eq_getElem?_getD,List.getElem?_eq_getElem hlt];exact hr i hlt hlt'
   ·cases h
  ·cases h
 case range t x=>
  split at h
  ·rename_i s hx
   split at h
   ·rename_i hu
    cases h
    have hp:=he.aev x;rw[hx] at hp;obtain⟨L',h1,h2,h3⟩:=hc.newIter s;refine Good.of (x:=Instr.range t (a.eval x)) rfl ⟨.pointer (some ⟨w.heap.size,0,none⟩),_,L',?_,h1,?_,h2⟩
    ·rw[hp.str_inv];simp only[Instr.range,Sem.run_bind,run_underlying hu,Result.andThen_ok];rfl
    ·rw[←h3];exact .ptr _ _ (by simp)
   ·cases h
  ·rename_i m hx
   split at h
   ·rename_i y es hT hm
    cases h
    obtain⟨kt,el⟩:=y;have hp:=he.aev x;rw[hx] at hp;obtain⟨cv,w',L',h1,h2,h3,h4⟩:=run_mrange hc hT hm;refine Good.of (x:=Instr.range t (a.eval x)) rfl ⟨cv,w',L',?_,h2,h3,h4⟩;rw[hp.mref_inv.1];exact h1
   ·cases h
  ·cases h
 case makeMap t r=>
  cases r<;>simp only[reduceCtorEq] at h
  cases h
  obtain⟨cv,w',L',h1,h2,h3,h4⟩:=run_makeMap hc t;exact Good.of (x:=Instr.makeMap t none) rfl ⟨cv,w',L',h1,h2,h3,h4⟩
 case lookup t x i ok=>
  split at h
  ·rename_i m kt el k hx hT hk
   split at h
   ·rename_i es z hm hz
    split at h
    ·rename_i hf
     cases h
     have hp:=he.aev x;rw[hx] at hp;obtain⟨cv,h1,h2⟩:=run_lookup hc ok hT hm hz hf.1 hf.2;refine Good.same (x:=Instr.lookup t (a.eval x) (a.eval i) ok) rfl hc ⟨cv,?_,h2⟩;rw[hp.mref_inv.1,keyAV_val hk (he.aev i)];exact h1
    ·cases h
   ·cases h
  ·cases h
 case mapUpdate t m k x=>
  split at h
  ·rename_i i kt el kk hx hT hk
   split at h
   ·rename_i es hm
    split at h
    ·rename_i hf
     cases h
     have hp:=he.aev m;rw[hx] at hp;obtain⟨w',h1,h2,h3⟩:=run_mapUpdate hc hT hm (he.aev x) hf.1 hf.2;refine⟨.skip,undef,w',L,?_,.inr ⟨rfl,rfl⟩,h2,.top _,h3⟩;have:(Instr.mapUpdate t (a.eval m) (a.eval k) (a.eval x)).run P w=.ok () w':=by
      rw[hp.mref_inv.1,keyAV_val hk (he.aev k)];exact h1
     simp only[execOp,Sem.run_bind,this,Result.andThen_ok];rfl
    ·cases h
   ·cases h
  ·cases h
 case entry x=>
  split at h
  ·rename_i i hx;have hp:=he.aev x;rw[hx] at hp;obtain⟨e2,hlt⟩:=hp.ptr_inv
   split at h
   ·rename_i m n seen hi
    split at h
    ·rename_i es j hm hl
     split at h
     ·rename_i hn;subst hn;obtain⟨kv,hkv,e1⟩:=Option.map_eq_some_iff.1 h
      cases e1
      obtain⟨hj,rfl⟩:=List.getElem?_eq_some_iff.1 hkv;obtain⟨s0,rfl⟩:=List.getLast?_eq_some_iff.1 hl;obtain⟨cv,h1,h2⟩:=run_mentry hc hi hm hj;refine Good.same (x:=Instr.entry (a.eval x)) rfl hc ⟨cv,?_,h2⟩;rw[e2];exact h1
     ·cases h
    ·cases h
   ·cases h
  ·cases h
 case next x s=>
  cases s<;>simp only[reduceCtorEq] at h
  split at h
  ·rename_i i hx;have hp:=he.aev x;rw[hx] at hp;obtain⟨e2,hlt⟩:=hp.ptr_inv
   split at h
   ·rename_i s pos hi;have hb:w.heap[L.phi i]?=some (.stringIter ⟨s.toArray⟩ pos):=hc.box i _ hi;have hsz:(⟨s.toArray⟩:ByteArray).size=s.length:=by simp[ByteArray.size]
    split at h
    ·rename_i hpos
     cases h
     obtain⟨h1,h2⟩:=hc.setIter (pos':=pos+(Utf8.decode ⟨s.toArray⟩ pos).2) hi;refine Good.of (x:=Instr.next (a.eval x) true type) rfl ⟨.tuple #[.bool true,goInt pos,.int .i32 (Utf8.decode ⟨s.toArray⟩ pos).1],_,L,?_,h1,?_,h2⟩
     ·rw[e2];simp[Instr.next,getObj,setObj,Sem.run,hb,hsz,hpos]
     ·refine .tup _ _ rfl (fun j hj hj'=>?_)
      match j,hj with
      |0,_=>exact .bool _
      |1,_=>exact .int _ _
      |2,_=>exact .int _ _
    ·rename_i hpos
     cases h
     refine Good.same (x:=Instr.next (a.eval x) true type) rfl hc ⟨.tuple #[.bool false],?_,?_⟩
     ·rw[e2];simp[Instr.next,getObj,Sem.run,hb,hsz,hpos]
     ·refine .tup _ _ rfl (fun j hj hj'=>?_)
      match j,hj with
      |0,_=>exact .bool _
   ·cases h
  ·cases h
 case call c=>
  obtain⟨callee,args,ats⟩:=c
  cases callee<;>simp only[reduceCtorEq] at h
  rename_i b;obtain⟨ts⟩:=ats;obtain⟨args⟩:=args;have:=run_abuiltin (ty:=type) (cst:=args.toArray.map fun|.const _=>true|_=>false) (B:=args.map a.eval) hc h (by simp) (fun j hj hj'=>by
   simp only[List.getElem_map];exact he.aev _)
  have e1:execOp a.eval ⟨dst,.call ⟨.builtin b,args.toArray,ts.toArray⟩,type,pos,after,guard⟩=builtin b ts.toArray type (args.toArray.map fun|.const _=>true|_=>false) (args.map a.eval).toArray:=by
   simp[execOp,resolve,invoke];rfl
  rw[←e1] at this;exact this
end
def CallPost (L:Lay)(H:List Blk)(T:Toks)(w:World)(Q:AV→List Blk→Toks→Prop)(e:Ending)(w':World):Prop:=
 ∃r H' T' L' cv,Q r H' T'∧e=.returned cv∧Con L' H' T' w'∧Rep L' H'.length T' w' r cv∧Ev H.length T.length L H.length T w L' H'.length T' w'
def ACall (P:Program)(f:FuncId)(args:List AV)(H:List Blk)(T:Toks)(Q:AV→List Blk→Toks→Prop):Prop:=
 (∀as w,(callFunc f as).run P w=.ok (.enter f as) w)∧
 ∀L w (ca:Array Value),Con L H T w→ca.size=args.length→(∀(j:Nat)(h:j<args.length)(h':j<ca.size),Rep L H.length T w (args[j]'h) (ca[j]'h'))→
  Calls P f ca w (CallPost L H T w Q)
theorem ACall.mono {P f args H T Q Q'}(h:ACall P f args H T Q)(hq:∀r H' T',Q r H' T'→Q' r H' T'):ACall P f args H T Q':=
 ⟨h.1,fun L w ca hc hl hr=>(h.2 L w ca hc hl hr).mono fun _ _ ⟨r,H',T',L',cv,q,k⟩=>⟨r,H',T',L',cv,hq _ _ _ q,k⟩⟩
def Is (r:AV)(H:List Blk)(T:Toks):AV→List Blk→Toks→Prop:=fun r' H' T'=>r'=r∧H'=H∧T'=T
def prune (nv:Nat):Env→Env
 |[]=>[]
 |(s,v)::r=>if s<nv then (s,v)::prune nv r else prune nv r
theorem eget_prune (nv:Nat)(e:Env)(t:Nat):eget (prune nv e) t=eget e t∨eget (prune nv e) t=.top:=by
 by_cases ht:t<nv
 ·left
  induction e with
  |nil=>rfl
  |cons x r ih=>
   obtain⟨s,v⟩:=x
   by_cases hs:s<nv
   ·simp[prune,eget,hs,ih]
   ·have:s≠t:=by omega
    simp[prune,eget,hs,ih,this]
 ·right
  induction e with
  |nil=>rfl
  |cons x r ih=>
   obtain⟨s,v⟩:=x
   by_cases hs:s<nv
   ·have:s≠t:=by omega
    simp[prune,eget,hs,ih,this]
   ·simp[prune,hs,ih]
def acallee (o:Oper)(e:Env):Option (FuncId×List AV):=
 match o.op with
 |.call { callee:=.value f,args,argTypes:=_ }=>match aev e f with
  |.fn g first caps=>some (g,first++args.toList.map (aev e)++caps)
  |_=>none
 |_=>none
def putK (C:Cx)(dst:Option Tmp)(v:AV)(e:Env)(H:List Blk)(T:Toks)(K:St→Prop):Prop:=
 match dst with
 |some d=>d<C.nt∧K ⟨eput e d v,H,T⟩
 |none=>K ⟨e,H,T⟩
def ACallAt (C:Cx)(K:St→Prop)(dst:Option Tmp)(g:FuncId)(as:List AV)(s:St):Prop:=
 ∃Q,ACall C.P g as s.H s.T Q∧∀v H' T',Q v H' T'→putK C dst v s.e H' T' K
def RepV (L:Lay)(N:Nat)(T:Toks)(w:World)(vs:List AV)(c:List Value):Prop:=
 c.length=vs.length∧∀(j:Nat)(h:j<vs.length)(h':j<c.length),Rep L N T w (vs[j]'h) (c[j]'h')
theorem RepV.append {L:Lay}{N:Nat}{T:Toks}{w:World}{a b:List AV}{c d:List Value}(h:RepV L N T w a c)(k:RepV L N T w b d):RepV L N T w (a++b) (c++d):=by
 refine⟨by simp[h.1,k.1],fun j hj hj'=>?_⟩;rw[List.getElem_append,List.getElem_append]
 by_cases hlt:j<a.length
 ·rw[dif_pos hlt,dif_pos (by rw[h.1];exact hlt)];exact h.2 _ _ _
 ·rw[dif_neg hlt,dif_neg (by rw[h.1];exact hlt)];have:=k.2 (j-a.length) (by simp at hj;omega) (by simp at hj';rw[h.1] at hj';omega);simpa[h.1] using this
def gval (all:Array Oper)(j:Nat)(e:Env):Option (Option Bool):=
 match (all[j]?).bind (·.dst) with
 |some d=>match eget e d with
  |.bool b=>some (some b)
  |.tup []=>some none
  |_=>none
 |none=>none
def anil (P:Program)(o:Oper)(e:Env):Option (Nat×Bool):=
 match o.op with
 |.binOp op t x (.const (.slice none _ _)) _=>match P.underlying t,aev e x,op with
  |some (.slice _),.sl n _ _,.eql=>some (n,true)
  |some (.slice _),.sl n _ _,.neq=>some (n,false)
  |some (.slice _),.msl _ _ n,.eql=>some (n,true)
  |some (.slice _),.msl _ _ n,.neq=>some (n,false)
  |_,_,_=>none
 |_=>none
theorem run_anil {P:Program}{o:Oper}{e:Env}{a:Act}{n:Nat}{q:Bool}{L:Lay}{N:Nat}{T:Toks}{w:World}(h:anil P o e=some (n,q))(he:EnvRep L N T w e a) :
  ∃b:Bool,(0<n→b=!q)∧(execOp a.eval o).run P w=.ok (.value (.bool b)) w:=by
 unfold anil at h
 split at h
 ·rename_i op t x l c y ho;have hx:=he.aev x;have core:∀(op:BinOp)(n cap:Nat)(ad:Option Addr)(el:TypeId),P.underlying t=some (.slice el)→a.eval x=.slice ad n cap→(0<n→ad.isNone=false)→(op=.eql∨op=.neq)→o.op=.binOp op t x (.const (.slice none l c)) y→∃b:Bool,(0<n→b=!(op==.eql))∧(execOp a.eval o).run P w=.ok (.value (.bool b)) w:=by
   intro op n cap ad el hu hv hnn hop ho;have hg:(eqGuard op t x (.const (.slice none l c)) (a.eval x) (a.eval (.const (.slice none l c)))).run P w=.ok () w:=run_eqGuard_int op t _ _ _ _ (by rw[hv];exact⟨fun _ e=>(by cases e),fun e=>(by cases e)⟩);have heq:∀d:Nat,(Op.equalIn (d+1) t (.slice ad n cap) (.slice none l c)).run P w=.ok ad.isNone w:=by
    intro d
    cases ad<;>simp only[Op.equalIn,Sem.run_bind,run_underlying hu,Result.andThen_ok]<;>rfl
   have hrun:=run_eql (P:=P) (w:=w) t (.slice ad n cap) (.slice none l c) ad.isNone op hop rfl rfl heq;refine⟨if op=.eql then ad.isNone else !ad.isNone,fun hn=>?_,?_⟩
   ·have:=hnn hn;rcases hop with rfl|rfl<;>simp[this]
   ·rw[hv] at hg;have he2:a.eval (.const (.slice none l c))=.slice none l c:=rfl;rw[he2] at hg;simp only[execOp,ho,Sem.run_bind,hv,he2,hg,Result.andThen_ok,hrun];rfl
  have fin:∀(op:BinOp)(n:Nat)(cs:List AV)(tg:Tag)(el:TypeId),P.underlying t=some (.slice el)→aev e x=.sl n cs tg→(op=.eql∨op=.neq)→o.op=.binOp op t x (.const (.slice none l c)) y→∃b:Bool,(0<n→b=!(op==.eql))∧(execOp a.eval o).run P w=.ok (.value (.bool b)) w:=by
   intro op n cs tg el hu hs hop ho;rw[hs] at hx;obtain⟨ad,cap,hv,_,_,hcs⟩:=hx.sl_inv;refine core op n cap ad el hu hv (fun hn=>?_) hop ho;rcases hcs with⟨_,h0⟩|⟨b,base,cv,e1,_⟩
   ·omega
   ·rw[e1];rfl
  have fin2:∀(op:BinOp)(i p n:Nat)(el:TypeId),P.underlying t=some (.slice el)→aev e x=.msl i p n→(op=.eql∨op=.neq)→o.op=.binOp op t x (.const (.slice none l c)) y→∃b:Bool,(0<n→b=!(op==.eql))∧(execOp a.eval o).run P w=.ok (.value (.bool b)) w:=by
   intro op i p n el hu hs hop ho;rw[hs] at hx;obtain⟨cap,hv,_,_⟩:=hx.msl_inv;exact core op n cap _ el hu hv (fun _=>rfl) hop ho
  split at h
  ·rename_i el n' cs tg hu hs
   cases h
   obtain⟨b,h1,h2⟩:=fin .eql _ _ _ _ hu hs (.inl rfl) ho;exact⟨b,fun hn=>h1 hn,h2⟩
  ·rename_i el n' cs tg hu hs
   cases h
   obtain⟨b,h1,h2⟩:=fin .neq _ _ _ _ hu hs (.inr rfl) ho;exact⟨b,fun hn=>h1 hn,h2⟩
  ·rename_i el i' p' n' hu hs
   cases h
   obtain⟨b,h1,h2⟩:=fin2 .eql _ _ _ _ hu hs (.inl rfl) ho;exact⟨b,fun hn=>h1 hn,h2⟩
  ·rename_i el i' p' n' hu hs
   cases h
   obtain⟨b,h1,h2⟩:=fin2 .neq _ _ _ _ hu hs (.inr rfl) ho;exact⟨b,fun hn=>h1 hn,h2⟩
  ·cases h
 ·cases h
def abox (P:Program)(bx:List Nat)(o:Oper)(e:Env)(H:List Blk):Option (Nat×List AV):=
 match o.op,o.dst with
 |.call { callee:=.builtin .append,args,argTypes },some d=>
  if bx.contains d=true then
   match argTypes.toList,args.toList.map (aev e) with
   |[t,t2],[s,x]=>aappBox P H t t2 s x
   |_,_=>none
  else none
 |.buildSlice t n ps,some d=>if bx.contains d=true then (abuildBox P t n (ps.toList.map fun(x:Nat×Operand)=>(x.1,aev e x.2))).map fun ys=>(n,ys) else none
 |_,_=>none
theorem run_abox {P:Program}{bx:List Nat}{o:Oper}{e:Env}{a:Act}{L:Lay}{H:List Blk}{T:Toks}{w:World}{m:Nat}{ys:List AV}(h:abox P bx o e H=some (m,ys))(hc:Con L H T w)(he:EnvRep L H.length T w e a) :
  ∃k cv w' L',(execOp a.eval o).run P w=.ok (.value cv) w'∧Con L' (H++[.cells (ys++List.replicate k .top)]) T w'∧Rep L' (H++[Blk.cells (ys++List.replicate k .top)]).length T w' (.msl H.length 0 m) cv∧
   Ev H.length T.length L H.length T w L' (H++[Blk.cells (ys++List.replicate k .top)]).length T w':=by
 obtain⟨dst,op,type,pos,after,guard⟩:=o;unfold abox at h
 split at h
 ·rename_i args ats d' hop hd;simp only at hop;subst hop
  split at h
  ·split at h
   ·rename_i t t2 s x hts hargs;have hts':ats=#[t,t2]:=by rw[←Array.toList_inj];exact hts
    subst hts'
    match hal:args.toList,hargs with
    |[p,q],hargs=>
     simp only[List.map_cons,List.map_nil,List.cons.injEq,and_true] at hargs;obtain⟨e1,e2⟩:=hargs;have h0:=he.aev p;have h1:=he.aev q;rw[e1] at h0;rw[e2] at h1;obtain⟨k,cv,w',L',hrun,g1,g2,g3⟩:=run_appBox (ty:=type) hc h h0 h1;refine⟨k,cv,w',L',?_,g1,g2,g3⟩;have hargs':args=#[p,q]:=by rw[←Array.toList_inj];exact hal
     subst hargs';simp only[execOp,resolve,Sem.run_bind,Sem.run_pure,Result.andThen_ok,invoke,builtin,List.map_toArray,List.map_cons,List.map_nil,hrun]
   ·cases h
  ·cases h
 ·rename_i t n ps d' hop hd;simp only at hop;subst hop
  split at h
  ·cases hb:abuildBox P t n (ps.toList.map fun(x:Nat×Operand)=>(x.1,aev e x.2)) with
   |none=>rw[hb] at h;cases h
   |some ys0=>
    rw[hb] at h
    cases h
    obtain⟨g1,g2⟩:=rep_parts he ps;obtain⟨cv,w',L',hrun,k1,k2,k3⟩:=run_buildBox hc hb g1 g2;refine⟨0,cv,w',L',?_,by simpa using k1,by simpa using k2,by simpa using k3⟩;show Sem.run P (do pure (Next.value (←Instr.buildSlice t _ (ps.map fun(x:Nat×Operand)=>(x.1,a.eval x.2))))) w=_;simp only[Sem.run_bind,hrun,Result.andThen_ok,Sem.run_pure]
  ·cases h
 ·cases h
def acap (o:Oper)(e:Env):Option (TypeId×TypeId×Nat×Nat×Nat×AV):=
 match o.op with
 |.call { callee:=.builtin .append,args,argTypes }=>
  match argTypes.toList,args.toList.map (aev e) with
  |[t,t2],[.csl i n cap,x]=>some (t,t2,i,n,cap,x)
  |_,_=>none
 |_=>none
def AppC (C:Cx)(K:St→Prop)(dst:Option Tmp)(t t2:TypeId)(i n cap:Nat)(x:AV)(e:Env)(H:List Blk)(T:Toks):Prop:=
 ∃(el:TypeId) (vs xs:List AV) (m:Nat),C.P.underlying t=some (.slice el)∧H[i]?=some (.cells vs)∧vs.length=cap*C.P.cellsOf el∧asrc H (C.P.cellsOf el) x=some (m,xs)∧(n+m)*C.P.bytesOf el≤140737488355328∧n+m≤9223372036854775807∧
  notInt C.P t2=true∧(azero C.P el).isSome=true∧
  (n+m≤cap→putK C dst (.csl i (n+m) cap) e (H.set i (.cells (vs.take (n*C.P.cellsOf el)++xs++vs.drop ((n+m)*C.P.cellsOf el)))) T K)∧
  ∀nc,cap<n+m→n+m≤nc→putK C dst (.csl H.length (n+m) nc) e (H++[.cells (vs.take (n*C.P.cellsOf el)++xs++List.replicate ((nc-(n+m))*C.P.cellsOf el) .top)]) T K
def acap0 (P:Program)(bx:List Nat)(o:Oper)(e:Env)(H:List Blk):Option (Nat×List AV×Nat):=
 match o.op,o.dst with
 |.call { callee:=.builtin .append,args,argTypes },some d=>
  if bx.contains (d+100000)=true then
   match argTypes.toList,args.toList.map (aev e) with
   |[t,t2],[s,x]=>match P.underlying t,aappBox P H t t2 s x with
    |some (.slice el),some (m,ys)=>some (m,ys,P.cellsOf el)
    |_,_=>none
   |_,_=>none
  else none
 |_,_=>none
theorem run_acap0 {P:Program}{bx:List Nat}{o:Oper}{e:Env}{a:Act}{L:Lay}{H:List Blk}{T:Toks}{w:World}{m z:Nat}{ys:List AV}(h:acap0 P bx o e H=some (m,ys,z))(hc:Con L H T w)(he:EnvRep L H.length T w e a) :
  ∃nc,m≤nc∧∃cv w' L',(execOp a.eval o).run P w=.ok (.value cv) w'∧Con L' (H++[.cells (ys++List.replicate ((nc-m)*z) .top)]) T w'∧Rep L' (H++[Blk.cells (ys++List.replicate ((nc-m)*z) .top)]).length T w' (.csl H.length m nc) cv∧
   Ev H.length T.length L H.length T w L' (H++[Blk.cells (ys++List.replicate ((nc-m)*z) .top)]).length T w':=by
 obtain⟨dst,op,type,pos,after,guard⟩:=o;unfold acap0 at h
 split at h
 ·rename_i args ats d' hop hd;simp only at hop;subst hop
  split at h
  ·split at h
   ·rename_i t t2 s x hts hargs;have hts':ats=#[t,t2]:=by rw[←Array.toList_inj];exact hts
    subst hts'
    split at h
    ·rename_i el m' ys' hu hb
     cases h
     match hal:args.toList,hargs with
     |[p,q],hargs=>
      simp only[List.map_cons,List.map_nil,List.cons.injEq,and_true] at hargs;obtain⟨e1,e2⟩:=hargs;have h0:=he.aev p;have h1:=he.aev q;rw[e1] at h0;rw[e2] at h1;obtain⟨nc,hnc,cv,w',L',hrun,g1,g2,g3⟩:=run_appBoxC (ty:=type) hc hb hu h0 h1;refine⟨nc,hnc,cv,w',L',?_,g1,g2,g3⟩;have hargs':args=#[p,q]:=by rw[←Array.toList_inj];exact hal
      subst hargs';simp only[execOp,resolve,Sem.run_bind,Sem.run_pure,Result.andThen_ok,invoke,builtin,List.map_toArray,List.map_cons,List.map_nil,hrun]
    ·cases h
   ·cases h
  ·cases h
 ·cases h
def anextM (o:Oper)(e:Env)(H:List Blk):Option (Nat×Nat×Nat×List Nat×List (MKey×AV)):=
 match o.op with
 |.next x false=>match aev e x with
  |.ptr i 0=>match H[i]? with
   |some (.mit m n seen)=>match H[m]? with
    |some (.map es)=>some (i,m,n,seen,es)
    |_=>none
   |_=>none
  |_=>none
 |_=>none
def NextC (C:Cx)(K:St→Prop)(dst:Option Tmp)(i m n:Nat)(seen:List Nat)(es:List (MKey×AV))(e:Env)(H:List Blk)(T:Toks):Prop:=
 n=es.length∧((∀j,j<n→j∈seen)→putK C dst (.tup [.bool false]) e H T K)∧
  ∀(j:Nat)(k:MKey)(v:AV),es[j]?=some (k,v)→j∉seen→putK C dst (.tup [.bool true,k.av,v]) e (H.set i (.mit m n (seen++[j]))) T K
def aops (C:Cx)(all:Array Oper)(K:St→Prop):List Oper→St→Prop
 |[],s=>K s
 |o::r,s=>
  let exec:Prop:=match acallee o s.e with
   |some (g,as)=>ACallAt C (aops C all K r) o.dst g as s
   |none=>match anil C.P o s.e with
    |some (n,q)=>∀b:Bool,(0<n→b=!q)→putK C o.dst (.bool b) s.e s.H s.T (aops C all K r)
    |none=>match abox C.P C.bx o s.e s.H with
     |some (m,ys)=>∀k:Nat,putK C o.dst (.msl s.H.length 0 m) s.e (s.H++[.cells (ys++List.replicate k .top)]) s.T (aops C all K r)
     |none=>match acap0 C.P C.bx o s.e s.H with
      |some (m,ys,z)=>∀nc:Nat,m≤nc→putK C o.dst (.csl s.H.length m nc) s.e (s.H++[.cells (ys++List.replicate ((nc-m)*z) .top)]) s.T (aops C all K r)
      |none=>match acap o s.e with
       |some (t,t2,i,n,cap,x)=>AppC C (aops C all K r) o.dst t t2 i n cap x s.e s.H s.T
       |none=>match anextM o s.e s.H with
        |some (i,m,n,seen,es)=>NextC C (aops C all K r) o.dst i m n seen es s.e s.H s.T
        |none=>match aop C.P o s.e s.H s.T with
         |some (v,H',T')=>putK C o.dst v s.e H' T' (aops C all K r)
         |none=>False
  match o.guard with
  |none=>exec
  |some (j,want)=>match gval all j s.e with
   |some b=>if b=some want then exec else putK C o.dst (.tup []) s.e s.H s.T (aops C all K r)
   |none=>False
theorem yielded_gval {L:Lay}{N:Nat}{T:Toks}{w:World}{e:Env}{a:Act}{all:Array Oper}{j:Nat}{b:Option Bool}(he:EnvRep L N T w e a)(h:gval all j e=some b):yielded all a.tmps j=b:=by
 unfold gval at h
 split at h
 ·rename_i d hd
  split at h
  ·rename_i b' hb
   cases h
   have hr:=he d;rw[hb] at hr;have:=hr.bool_inv;unfold yielded;rw[hd];have hsome:a.tmps[d]?=some (.bool b'):=by
    simp only[Array.getD_eq_getD_getElem?] at this
    cases hx:a.tmps[d]? with
    |none=>rw[hx] at this;simp[undef] at this
    |some v=>rw[hx] at this;simp at this;rw[this]
   simp[hsome]
  ·rename_i hb
   cases h
   have hr:=he d;rw[hb] at hr;unfold yielded;rw[hd];generalize hx:a.tmps.getD d undef=x at hr
   cases hr with
   |tup _ cv h1 _=>
    cases hy:a.tmps[d]? with
    |none=>simp[hy]
    |some y=>
     have:y=.tuple cv:=by simpa[Array.getD_eq_getD_getElem?,hy] using hx
     subst this;simp[hy]
  ·cases h
 ·cases h
theorem ConSt.put {C:Cx}{s:St}{L L':Lay}{w w':World}{a:Act}{H':List Blk}{T':Toks}{v:AV}{cv:Value}{K:St→Prop}{dst:Option Tmp}(hc:ConSt C s L w a)(hn:Con L' H' T' w')(hr:Rep L' H'.length T' w' v cv)
  (ev:Ev s.H.length s.T.length L s.H.length s.T w L' H'.length T' w') (hp:putK C dst v s.e H' T' K):∃s',K s'∧s'.H=H'∧s'.T=T'∧ConSt C s' L' w' (a.put dst cv):=by
 have henv:=hc.env.keep ev.keeps;have hnb:=Nat.le_trans hc.nb ev.n;have htb:=Nat.le_trans hc.tb ev.t
 cases dst with
 |none=>exact⟨⟨s.e,H',T'⟩,hp,rfl,rfl,⟨hnb,htb,hn,hc.size,hc.defers,henv⟩⟩
 |some d=>
  obtain⟨hd,hk⟩:=hp;refine⟨⟨Am.eput s.e d v,H',T'⟩,hk,rfl,rfl,⟨hnb,htb,hn,by simp[Act.put,hc.size],hc.defers,henv.put (by rw[hc.size];exact hd) hr⟩⟩
theorem aops_sound {C:Cx}{all:Array Oper}{K:St→Prop}:∀(l:List Oper)(s:St),aops C all K l s→∀L w a (L0:Lay) (s0:St) (w0:World),ConSt C s L w a→Ev C.nb C.tb L0 s0.H.length s0.T w0 L s.H.length s.T w→
  wpList C.P all (Post C (ExitK K fun _ _=>False) L0 s0 w0) l a w:=by
 intro l
 induction l with
 |nil=>intro s h L w a L0 s0 w0 hc ev;exact⟨s,L,h,hc,ev⟩
 |cons o r ih=>
  intro s h L w a L0 s0 w0 hc ev;have hexec:(match acallee o s.e with
   |some (g,as)=>ACallAt C (aops C all K r) o.dst g as s
   |none=>match anil C.P o s.e with
    |some (n,q)=>∀b:Bool,(0<n→b=!q)→putK C o.dst (.bool b) s.e s.H s.T (aops C all K r)
    |none=>match abox C.P C.bx o s.e s.H with
     |some (m,ys)=>∀k:Nat,putK C o.dst (.msl s.H.length 0 m) s.e (s.H++[.cells (ys++List.replicate k .top)]) s.T (aops C all K r)
     |none=>match acap0 C.P C.bx o s.e s.H with
      |some (m,ys,z)=>∀nc:Nat,m≤nc→putK C o.dst (.csl s.H.length m nc) s.e (s.H++[.cells (ys++List.replicate ((nc-m)*z) .top)]) s.T (aops C all K r)
      |none=>match acap o s.e with
       |some (t,t2,i,n,cap,x)=>AppC C (aops C all K r) o.dst t t2 i n cap x s.e s.H s.T
       |none=>match anextM o s.e s.H with
        |some (i,m,n,seen,es)=>NextC C (aops C all K r) o.dst i m n seen es s.e s.H s.T
        |none=>match aop C.P o s.e s.H s.T with
         |some (v,H',T')=>putK C o.dst v s.e H' T' (aops C all K r)
         |none=>False)→o.wp C.P a w (wpList C.P all (Post C (ExitK K fun _ _=>False) L0 s0 w0) r) (Post C (ExitK K fun _ _=>False) L0 s0 w0):=by
   intro hx
   split at hx
   ·rename_i g as hcal;obtain⟨Q,⟨hcall,hq⟩,hk⟩:=hx;unfold acallee at hcal
    split at hcal
    ·rename_i f args ats hop
     split at hcal
     ·rename_i g' first caps hf
      cases hcal
      have hfr:=hc.env.aev f;rw[hf] at hfr;generalize hfv:a.eval f=fv at hfr
      cases hfr with
      |fn _ _ _ fa ca h1 h2 hr1 hr2=>
       have hrun:(execOp a.eval o).run C.P w=.ok (.enter g (fa++args.map a.eval++ca)) w:=by
        simp only[execOp,hop,resolve,hfv,Deferred.ofValue,Sem.run_bind,Sem.run_pure,Result.andThen_ok,invoke,hcall]
       unfold Oper.wp;rw[hrun,Oper.upon_enter];have hall:RepV L s.H.length s.T w (first++args.toList.map (aev s.e)++caps) (fa++args.map a.eval++ca).toList:=by
        simp only[Array.toList_append,Array.toList_map];refine(RepV.append ⟨by simpa using h1,fun j hj hj'=>by simpa using hr1 j hj (by simpa using hj')⟩ ⟨by simp,fun j hj hj'=>?_⟩).append ⟨by simpa using h2,fun j hj hj'=>by simpa using hr2 j hj (by simpa using hj')⟩;simp only[List.getElem_map];exact hc.env.aev _
       refine(hq L w _ hc.con (by simpa using hall.1) (fun j hj hj'=>by
        have h3:=hall.2 j hj (by rw[Array.length_toList];exact hj')
        rwa [Array.getElem_toList] at h3)).mono ?_
       ·rintro e w' ⟨rr,H',T',L',cv,hQ,rfl,hcon,hrep,hev⟩;obtain⟨s',hk',e1,e2,hc'⟩:=hc.put hcon hrep hev (hk _ _ _ hQ);exact ih s' hk' L' w' _ L0 s0 w0 hc' (ev.trans (by rw[e1,e2];exact hev.mono hc.nb hc.tb))
     ·cases hcal
    ·cases hcal
   ·split at hx
    ·rename_i n q hni;obtain⟨b,hb,hrun⟩:=run_anil hni hc.env;obtain⟨s',hk',e1,e2,hc'⟩:=hc.put (v:=.bool b) (cv:=.bool b) hc.con (.bool b) (Ev.refl (Nat.le_refl _) (Nat.le_refl _)) (hx b hb);unfold Oper.wp;rw[hrun];exact ih s' hk' L w _ L0 s0 w0 hc' (by rw[e1,e2];exact ev)
    split at hx
    ·rename_i m ys hbo;obtain⟨k,cv,w',L',hrun,hcon,hrep,hev⟩:=run_abox hbo hc.con hc.env;obtain⟨s',hk',e1,e2,hc'⟩:=hc.put hcon hrep hev (hx k);unfold Oper.wp;rw[hrun];exact ih s' hk' L' w' _ L0 s0 w0 hc' (ev.trans (by rw[e1,e2];exact hev.mono hc.nb hc.tb))
    split at hx
    ·rename_i m ys z hbo;obtain⟨nc,hnc,cv,w',L',hrun,hcon,hrep,hev⟩:=run_acap0 hbo hc.con hc.env;obtain⟨s',hk',e1,e2,hc'⟩:=hc.put hcon hrep hev (hx nc hnc);unfold Oper.wp;rw[hrun];exact ih s' hk' L' w' _ L0 s0 w0 hc' (ev.trans (by rw[e1,e2];exact hev.mono hc.nb hc.tb))
    split at hx
    ·rename_i t t2 i n cap x hac;obtain⟨el,vs,xs,m,hu,hH,hvs,hsrc,hby,hmax,hni,hzs,hk1,hk2⟩:=hx;unfold acap at hac
     split at hac
     ·rename_i args ats hop
      split at hac
      ·rename_i t' t2' i' n' cap' x' hts hargs
       cases hac
       have hts':ats=#[t,t2]:=by rw[←Array.toList_inj];exact hts
       subst hts';have hl2:args.toList.length=2:=by have:=congrArg List.length hargs;simpa using this
       match hal:args.toList,hl2,hargs with
       |[p,q],_,hargs=>
        simp only[List.map_cons,List.map_nil,List.cons.injEq,and_true] at hargs;obtain⟨e1,e2⟩:=hargs;have h0:=hc.env.aev p;have h1:=hc.env.aev q;rw[e1] at h0;rw[e2] at h1;have hargs':args=#[p,q]:=by rw[←Array.toList_inj];exact hal
        subst hargs';have hex:∀cv w',(Builtin.append_ #[t,t2] o.type #[a.eval p,a.eval q]).run C.P w=.ok cv w'→(execOp a.eval o).run C.P w=.ok (.value cv) w':=fun cv w' hr=>by
         simp only[execOp,hop,resolve,Sem.run_bind,Sem.run_pure,Result.andThen_ok,invoke,builtin,List.map_toArray,List.map_cons,List.map_nil,hr]
        rcases run_appC (ty:=o.type) hc.con h0 h1 hu hH hvs hsrc hby hmax hni hzs with⟨hle,cv,w',L',hrun,hcon,hrep,hev⟩|⟨hlt,nc,hnc,cv,w',L',hrun,hcon,hrep,hev⟩
        ·obtain⟨s',hk',e1,e2,hc'⟩:=hc.put hcon hrep hev (hk1 hle);unfold Oper.wp;rw[hex _ _ hrun];exact ih s' hk' L' w' _ L0 s0 w0 hc' (ev.trans (by rw[e1,e2];exact hev.mono hc.nb hc.tb))
        ·obtain⟨s',hk',e1,e2,hc'⟩:=hc.put hcon hrep hev (hk2 nc hlt hnc);unfold Oper.wp;rw[hex _ _ hrun];exact ih s' hk' L' w' _ L0 s0 w0 hc' (ev.trans (by rw[e1,e2];exact hev.mono hc.nb hc.tb))
      ·cases hac
     ·cases hac
    split at hx
    ·rename_i i m n seen es hnx;obtain⟨rfl,hk1,hk2⟩:=hx;unfold anextM at hnx
     split at hnx
     ·rename_i x hop
      split at hnx
      ·rename_i i' hxx
       split at hnx
       ·rename_i m' n' seen' hi
        split at hnx
        ·rename_i es' hm
         cases hnx
         have hp:=hc.env.aev x;rw[hxx] at hp;obtain⟨e2,hlt⟩:=hp.ptr_inv;have hex:∀cv w',(Instr.next (.pointer (some ⟨L.phi i,0,none⟩)) false o.type).run C.P w=.ok cv w'→(execOp a.eval o).run C.P w=.ok (.value cv) w':=fun cv w' hr=>by
          simp only[execOp,hop,Sem.run_bind,e2,hr,Result.andThen_ok];rfl
         rcases run_mnext hc.con o.type hi hm with⟨hall,hrun⟩|⟨j,hj,cv,w',hns,hrun,hcon,hrep,hev⟩
         ·obtain⟨s',hk',e1,e2,hc'⟩:=hc.put (v:=.tup [.bool false]) (cv:=.tuple #[.bool false]) hc.con (.tup _ _ rfl (fun j hj hj'=>by match j,hj with|0,_=>exact .bool _)) (Ev.refl (Nat.le_refl _) (Nat.le_refl _)) (hk1 hall);unfold Oper.wp;rw[hex _ _ hrun];exact ih s' hk' L w _ L0 s0 w0 hc' (by rw[e1,e2];exact ev)
         ·obtain⟨s',hk',e1,e2,hc'⟩:=hc.put hcon hrep hev (hk2 j _ _ (List.getElem?_eq_getElem hj) hns);unfold Oper.wp;rw[hex _ _ hrun];exact ih s' hk' L w' _ L0 s0 w0 hc' (ev.trans (by rw[e1,e2];exact hev.mono hc.nb hc.tb))
        ·cases hnx
       ·cases hnx
      ·cases hnx
     ·cases hnx
    split at hx
    ·rename_i v H' T' hop;obtain⟨n,cv,w',L',hrun,hn,hcon,hrep,hev⟩:=aop_sound hc.con hc.env hop;obtain⟨s',hk',e1,e2,hc'⟩:=hc.put hcon hrep hev hx;unfold Oper.wp;rw[hrun];have fin:=ih s' hk' L' w' _ L0 s0 w0 hc' (ev.trans (by rw[e1,e2];exact hev.mono hc.nb hc.tb));rcases hn with rfl|⟨rfl,rfl⟩
     ·exact fin
     ·exact fin
    ·exact hx.elim
  unfold wpList;unfold aops at h
  dsimp only at h
  split at h
  ·rename_i hg;rw[if_pos (by simp[Region.wanted,hg])];exact .inl (hexec h)
  ·rename_i j want hg
   split at h
   ·rename_i b hb;have hy:=yielded_gval hc.env hb
    split at h
    ·rename_i hbw;rw[if_pos (by simp[Region.wanted,hg,hy,hbw])];exact .inl (hexec h)
    ·rename_i hbw;rw[if_neg (by simp[Region.wanted,hg,hy,hbw])];obtain⟨s',hk',e1,e2,hc'⟩:=hc.put (v:=.tup []) (cv:=undef) hc.con (.tup [] #[] rfl (fun j hj=>by simp at hj)) (Ev.refl (Nat.le_refl _) (Nat.le_refl _)) h;exact ih s' hk' L w _ L0 s0 w0 hc' (by rw[e1,e2];exact ev)
   ·exact h.elim
theorem aw_region {C:Cx}{id:Nat}{ops:List Oper}{K:St→Prop}{Q:Exit→St→Prop}{s:St}(h:aops C ops.toArray K ops ⟨prune C.nv s.e,s.H,s.T⟩):AW C (.region id ops.toArray false) (ExitK K Q) s:=by
 intro L w a hc;have hc':ConSt C ⟨prune C.nv s.e,s.H,s.T⟩ L w a:=⟨hc.nb,hc.tb,hc.con,hc.size,hc.defers,fun t=>by
  rcases eget_prune C.nv s.e t with e|e<;>rw[e]
  ·exact hc.env t
  ·exact .top _⟩
 refine wp_region_lit ?_;have:=aops_sound ops _ h L w a L s w hc' (Ev.refl hc.nb hc.tb);have key:∀(l:List Oper)(a:Act)(w':World),wpList C.P ops.toArray (Post C (ExitK K fun _ _=>False) L s w) l a w'→wpList C.P ops.toArray (Post C (ExitK K Q) L s w) l a w':=by
  intro l;have hpost:∀e a w',Post C (ExitK K fun _ _=>False) L s w e a w'→Post C (ExitK K Q) L s w e a w':=by
   rintro e a w' ⟨s',L',q,r⟩;refine⟨s',L',?_,r⟩
   cases e<;>first|exact q|exact q.elim
  induction l with
  |nil=>intro a w' h;exact hpost _ _ _ h
  |cons o r ih=>
   intro a w' h;unfold wpList at h ⊢
   split
   ·rename_i hw;rw[if_pos hw] at h;rcases h with h|⟨h1,h2⟩
    ·refine .inl ?_;unfold Oper.wp at h ⊢;generalize (execOp a.eval o).run C.P w'=rr at h ⊢
     cases rr with
     |ok n w''=>
      cases n<;>simp only[Oper.upon] at h ⊢<;>first
       |exact ih _ _ h
       |exact h
       |(refine h.mono ?_
         intro e w3 he
         cases e with
         |returned v=>exact ih _ _ he
         |panicked ch=>exact hpost _ _ _ he
         |outgrown=>obtain⟨a0,w0,h0⟩:=he;exact⟨a0,w0,hpost _ _ _ h0⟩)
       |exact h.mono fun v w3 he=>ih _ _ he
     |halt hh w''=>cases hh<;>simp only[Oper.upon] at h ⊢<;>first|exact hpost _ _ _ h|exact h
    ·obtain⟨a0,w0,h0⟩:=h2;exact .inr ⟨h1,a0,w0,hpost _ _ _ h0⟩
   ·rename_i hw;rw[if_neg hw] at h;exact ih _ _ h
 exact key _ _ _ this
theorem aw_cond {C:Cx}{c:Operand}{x y:Code}{Q:Exit→St→Prop}{s:St}{t:Bool}(hc:aev s.e c=.bool t)(h:if t=true then AW C x Q s else AW C y Q s):AW C (.cond c x y) Q s:=by
 intro L w a hs;have hr:=hs.env.aev c;rw[hc] at hr;refine wp_cond hr.bool_inv ?_
 cases t
 ·exact h L w a hs
 ·exact h L w a hs
def ares1 (P:Program)(s:St):ResultVar→Option AV
 |.tmp t=>some (eget s.e t)
 |.cell t ty=>match arow s.H (eget s.e t) with
  |some (vs,o)=>aload P ty vs o
  |none=>none
def aresL (P:Program)(s:St):List ResultVar→Option (List AV)
 |[]=>some []
 |x::r=>match ares1 P s x,aresL P s r with
  |some v,some vs=>some (v::vs)
  |_,_=>none
def ares (P:Program)(rs:List ResultVar)(s:St):Option AV:=
 match aresL P s rs with
 |some [v]=>some v
 |some vs=>some (.tup vs)
 |none=>none
def RetQ (P:Program)(rs:List ResultVar)(Q:AV→List Blk→Toks→Prop):Exit→St→Prop
 |.ret,s|.normal,s=>match ares P rs s with
  |some v=>Q v s.H s.T
  |none=>False
 |_,_=>False
def resOne (tmps:Array Value):ResultVar→Sem Value
 |.tmp t=>pure (tmps.getD t undef)
 |.cell t ty=>do loadVar ty (←asAddr (tmps.getD t undef))
theorem results_eq (fn:Func)(tmps:Array Value):results fn tmps=(do let vs←fn.results.mapM (resOne tmps);pure (if h:vs.size=1 then vs[0] else .tuple vs)):=rfl
theorem ares_sound {C:Cx}{s:St}{L:Lay}{w:World}{a:Act}{fn:Func}{v:AV}(hc:ConSt C s L w a)(h:ares C.P fn.results.toList s=some v):∃cv,(results fn a.tmps).run C.P w=.ok cv w∧Rep L s.H.length s.T w v cv:=by
 have one:∀x v,ares1 C.P s x=some v→∃cv,(resOne a.tmps x).run C.P w=.ok cv w∧Rep L s.H.length s.T w v cv:=by
  intro x v hx
  cases x with
  |tmp t=>cases hx;exact⟨_,rfl,hc.env t⟩
  |cell t ty=>
   simp only[ares1] at hx
   split at hx
   ·rename_i vs o hrow;obtain⟨b,base,cv,e2,hr,hcell⟩:=arow_reads hc.con (hc.env t) hrow;obtain⟨c,h1,h2⟩:=run_loadVar (P:=C.P) hr hcell hx;refine⟨c,?_,h2⟩;simp only[resOne,e2,asAddr,Sem.run_bind,Sem.run_pure,Result.andThen_ok];exact h1
   ·cases hx
 have many:∀l vs,aresL C.P s l=some vs→∃cs:List Value,(l.mapM (resOne a.tmps)).run C.P w=.ok cs w∧cs.length=vs.length∧∀(j:Nat)(h:j<vs.length)(h':j<cs.length),Rep L s.H.length s.T w (vs[j]'h) (cs[j]'h'):=by
  intro l
  induction l with
  |nil=>intro vs hv;cases hv;exact⟨[],rfl,rfl,fun j hj=>by simp at hj⟩
  |cons x r ih=>
   intro vs hv;simp only[aresL] at hv
   split at hv
   ·rename_i v' vs' e1 e2
    cases hv
    obtain⟨cv,h1,h2⟩:=one x v' e1;obtain⟨cs,h3,h4,h5⟩:=ih vs' e2;refine⟨cv::cs,?_,by simp[h4],fun j hj hj'=>?_⟩
    ·simp only[List.mapM_cons,Sem.run_bind,h1,Result.andThen_ok,h3,Sem.run_pure]
    ·cases j with
     |zero=>exact h2
     |succ j=>exact h5 j (by simpa using hj) (by simpa using hj')
   ·cases hv
 unfold ares at h
 cases hl:aresL C.P s fn.results.toList with
 |none=>rw[hl] at h;cases h
 |some vs=>
  rw[hl] at h;obtain⟨cs,h1,h2,h3⟩:=many _ _ hl;have hrun:(results fn a.tmps).run C.P w=.ok (if h:cs.toArray.size=1 then cs.toArray[0] else .tuple cs.toArray) w:=by
   rw[results_eq,Array.mapM_eq_mapM_toList];simp only[Sem.run_bind,Sem.run_map,h1,Result.andThen_ok];rfl
  refine⟨_,hrun,?_⟩
  match vs,cs,h2,h3,h with
  |[v'],[c],_,h3,h=>cases h;exact h3 0 (by simp) (by simp)
  |[],[],_,h3,h=>cases h;exact .tup _ _ rfl (fun j hj=>by simp at hj)
  |v1::v2::vr,c1::c2::cr,h2,h3,h=>
   cases h
   rw[dif_neg (by simp)];exact .tup _ _ (by simpa using h2) (fun j hj hj'=>by simpa using h3 j hj (by simpa using hj'))
def envOf:Nat→List AV→Env
 |_,[]=>[]
 |k,v::r=>(k,v)::envOf (k+1) r
theorem eget_envOf:∀(l:List AV)(k t:Nat),eget (envOf k l) t=if h:k≤t∧t-k<l.length then l[t-k]'h.2 else .top:=by
 intro l
 induction l with
 |nil=>intro k t;simp[envOf,eget]
 |cons v r ih=>
  intro k t;simp only[envOf,eget]
  by_cases hkt:k=t
  ·subst hkt;simp
  ·rw[if_neg hkt,ih]
   by_cases h:k+1≤t∧t-(k+1)<r.length
   ·rw[dif_pos h,dif_pos (by simp;omega)];have:t-k=(t-(k+1))+1:=by omega
    simp[this]
   ·rw[dif_neg h,dif_neg (by simp;omega)]
def HOk (H:List Blk)(T:Toks):Prop:=∀(i:Nat)(b:Blk),H[i]?=some b→∀v∈b.vals,Below H.length T.length v
theorem Rep.toBelow {L:Lay}{N:Nat}{T:Toks}{w:World}{v:AV}{c:Value}(h:Rep L N T w v c):Below N T.length v:=by
 have mem:∀{P:AV→Prop} {cs:List AV},(∀(j:Nat)(h:j<cs.length),P (cs[j]'h))→∀c∈cs,P c:=by
  intro P cs hp c hc;obtain⟨j,hj,e⟩:=List.mem_iff_getElem.1 hc;rw[←e];exact hp j hj
 have tag:∀{tg:Tag} {n u:Nat} {a:Option Addr} {cap:Nat},tagOk L T tg n u a cap→∀x,tg=.own x→x<T.length:=by
  intro tg n u a cap ht x e;subst e;obtain⟨u0,z,h0,_⟩:=ht;exact(List.getElem?_eq_some_iff.1 h0).1
 induction h with
 |top v=>exact .top
 |bool b=>exact .bool b
 |int k x=>exact .int k x
 |str s=>exact .str s
 |nilp=>exact .nilp
 |ptr i o h=>exact .ptr i o h
 |vptr cs o b base f hm hc h1 hr ih=>exact .vptr cs o (mem ih)
 |sl0 tg a cap ht=>exact .sl 0 [] tg (fun _ h=>by simp at h) (tag ht)
 |sl1 m cs tg b base cap f hcap hm hc h1 hr ht ih=>exact .sl m cs tg (mem ih) (tag ht)
 |msl i o m cap h hcap=>exact .msl i o m h
 |csl i m cap h hcap=>exact .csl i m cap h
 |mref i h=>exact .mref i h
 |fn f first caps fv cv h1 h2 hr1 hr2 ih1 ih2=>exact .fn f first caps (mem fun j hj=>ih1 j hj (by omega)) (mem fun j hj=>ih2 j hj (by omega))
 |nilf=>exact .nilf
 |nili=>exact .nili
 |ifc t v=>exact .ifc
 |agg cs cv h1 h2 hr ih=>exact .agg cs (mem fun j hj=>ih j hj (by omega))
 |tup cs cv h1 hr ih=>exact .tup cs (mem fun j hj=>ih j hj (by omega))
theorem Con.hok {L:Lay}{H:List Blk}{T:Toks}{w:World}(h:Con L H T w):HOk H T:=by
 intro i b hi v hv;have hb:=h.box i _ hi
 cases b with
 |cells vs=>
  obtain⟨c,t,fr,_,_,h3,_,h4,_⟩:=hb;obtain⟨j,hj,e⟩:=List.mem_iff_getElem.1 (show v∈vs from hv);rw[←e];exact(h4 j hj (by omega)).toBelow
 |iter s pos=>simp at hv
 |map es=>
  obtain⟨ents,_,h2,h3,_⟩:=hb;obtain⟨x,hx,e⟩:=List.mem_map.1 hv;obtain⟨j,hj,e2⟩:=List.mem_iff_getElem.1 hx;rw[←e,←e2];exact(h3 j hj (by omega)).2.2.toBelow
 |mit m n seen=>simp at hv
 |glob g p=>simp at hv
theorem acall_enter {P:Program}{f:FuncId}{fn:Func}{c:Code}{args:List AV}{H:List Blk}{T:Toks}{Q:AV→List Blk→Toks→Prop}(nv:Nat)(bx:List Nat){nt:Nat}(hnt:fn.ntmps=nt)(hf:P.funcs[f]?=some fn)(hb:fn.body=some c)
  (hcall:∀as w,(callFunc f as).run P w=.ok (.enter f as) w) (hn:args.length≤nt) (h:HOk H T→AW ⟨P,nt,nv,H.length,T.length,bx⟩ c (RetQ P fn.results.toList Q) ⟨envOf 0 args,H,T⟩):ACall P f args H T Q:=by
 subst hnt;refine⟨hcall,fun L w ca hc hl hr=>calls_of_wp hf hb ?_⟩;have hst:ConSt ⟨P,fn.ntmps,nv,H.length,T.length,bx⟩ ⟨envOf 0 args,H,T⟩ L w { tmps:=ca++Array.replicate (fn.ntmps-ca.size) undef,defers:=[] }:=by
  refine⟨Nat.le_refl _,Nat.le_refl _,hc,by simp;omega,rfl,fun t=>?_⟩;rw[eget_envOf]
  by_cases ht:0≤t∧t-0<args.length
  ·rw[dif_pos ht];have h2:t<ca.size:=by omega
   have e:(ca++Array.replicate (fn.ntmps-ca.size) undef).getD t undef=ca[t]:=by
    rw[Array.getD_eq_getD_getElem?,Array.getElem?_append_left h2,Array.getElem?_eq_getElem h2];rfl
   rw[e];exact hr t (by omega) h2
  ·rw[dif_neg ht];exact .top _
 refine wp_mono (h hc.hok L w _ hst) ?_;rintro e a' w' ⟨s',L',q,hcs,hev⟩
 cases e<;>simp only[RetQ] at q
 case normal=>
  split at q
  ·rename_i v hv;obtain⟨cv,h1,h2⟩:=ares_sound (C:=⟨P,fn.ntmps,nv,H.length,T.length,bx⟩) hcs hv;exact⟨hcs.defers,cv,h1,v,s'.H,s'.T,L',cv,q,rfl,hcs.con,h2,hev⟩
  ·exact q.elim
 case ret=>
  split at q
  ·rename_i v hv;obtain⟨cv,h1,h2⟩:=ares_sound (C:=⟨P,fn.ntmps,nv,H.length,T.length,bx⟩) hcs hv;exact⟨hcs.defers,cv,h1,v,s'.H,s'.T,L',cv,q,rfl,hcs.con,h2,hev⟩
  ·exact q.elim
theorem aw_reg {C:Cx}{id:Nat}{ops:List Oper}{y:Code}{Q:Exit→St→Prop}{s:St}
  (h:∀K:St→Prop,(∀s,AW C y Q s→K s)→aops C ops.toArray K ops ⟨prune C.nv s.e,s.H,s.T⟩):AW C (.seq (.region id ops.toArray false) y) Q s:=
 aw_seq fun K hK=>aw_region (h K hK)
theorem aw_reg0 {C:Cx}{id:Nat}{ops:List Oper}{Q:Exit→St→Prop}{s:St}
  (h:∀K:St→Prop,(∀s,Q .normal s→K s)→aops C ops.toArray K ops ⟨prune C.nv s.e,s.H,s.T⟩):AW C (.region id ops.toArray false) Q s:=
 (aw_region (Q:=Q) (h (fun s=>Q .normal s) fun _ h=>h)).mono fun e s q=>by cases e<;>exact q
theorem aw_if {C:Cx}{c:Operand}{x y:Code}{Q:Exit→St→Prop}{s:St}{t:Bool}(hc:aev s.e c=.bool t)(h1:t=true→AW C x Q s)(h2:t=false→AW C y Q s):AW C (.cond c x y) Q s:=
 aw_cond hc (by cases t<;>simp<;>first|exact h1 rfl|exact h2 rfl)
theorem aw_ift {C:Cx}{c:Operand}{x y:Code}{Q:Exit→St→Prop}{s:St}(hc:aev s.e c=.bool true)(h:AW C x Q s):AW C (.cond c x y) Q s:=aw_if hc (fun _=>h) (fun h=>absurd h (by simp))
theorem aw_iff {C:Cx}{c:Operand}{x y:Code}{Q:Exit→St→Prop}{s:St}(hc:aev s.e c=.bool false)(h:AW C y Q s):AW C (.cond c x y) Q s:=aw_if hc (fun h=>absurd h (by simp)) (fun _=>h)
theorem aw_then {C:Cx}{x y:Code}{Q:Exit→St→Prop}{s:St}(h:∀K:St→Prop,(∀s,AW C y Q s→K s)→AW C x (ExitK K Q) s):AW C (.seq x y) Q s:=aw_seq h
theorem acall_is {C:Cx}{K:St→Prop}{dst:Option Tmp}{g:FuncId}{as:List AV}{s:St}{r:AV}{H':List Blk}{T':Toks}(h:ACall C.P g as s.H s.T (Is r H' T'))(k:putK C dst r s.e H' T' K):ACallAt C K dst g as s:=
 ⟨_,h,fun _ _ _ ⟨e1,e2,e3⟩=>by subst e1;subst e2;subst e3;exact k⟩
@[simp] theorem wrap64 {x:Int} (h1:-9223372036854775808≤x) (h2:x≤9223372036854775807):IntKind.i64.wrap x=x:=by
 rw[IntKind.wrap_i64];omega
@[simp] theorem wrapU64 {x:Int} (h1:0≤x) (h2:x≤18446744073709551615):IntKind.u64.wrap x=x:=by
 show x % 18446744073709551616=x;exact Int.emod_eq_of_lt h1 (by omega)
def ints (xs:List Int):List AV:=xs.map (.int .i64)
def strs (xs:List (List UInt8)):List AV:=xs.map .str
section
variable {n t : Nat}
@[simp] theorem length_ints (xs:List Int):(ints xs).length=xs.length:=by simp[ints]
@[simp] theorem ints_nil:ints []=[]:=rfl
@[simp] theorem strs_nil:strs []=[]:=rfl
@[simp] theorem encB_nil:encB []=[]:=rfl
theorem ints_snoc (a:List Int)(x:Int):ints a++[.int .i64 x]=ints (a++[x]):=by simp[ints]
theorem getD_ints {xs:List Int}{k:Nat}(h:k<xs.length):(ints xs).getD k .top=.int .i64 (xs.getD k 0):=by
 simp[ints,h]
def BelowAll (n t:Nat)(cs:List AV):Prop:=∀c∈cs,Below n t c
@[simp] theorem below_top:Below n t .top:=.top
@[simp] theorem below_bool (b:Bool):Below n t (.bool b):=.bool b
@[simp] theorem below_int (k:IntKind) (x:Int):Below n t (.int k x):=.int k x
@[simp] theorem below_str (s:List UInt8):Below n t (.str s):=.str s
@[simp] theorem below_ptr {i o:Nat}:Below n t (.ptr i o)↔i<n:=⟨fun h=>by cases h;assumption,fun h=>.ptr i o h⟩
@[simp] theorem below_msl {i o m:Nat}:Below n t (.msl i o m)↔i<n:=⟨fun h=>by cases h;assumption,fun h=>.msl i o m h⟩
@[simp] theorem below_mref {i:Nat}:Below n t (.mref i)↔i<n:=⟨fun h=>by cases h;assumption,fun h=>.mref i h⟩
@[simp] theorem below_csl {i m cap:Nat}:Below n t (.csl i m cap)↔i<n:=⟨fun h=>by cases h;assumption,fun h=>.csl i m cap h⟩
@[simp] theorem below_agg {cs:List AV}:Below n t (.agg cs)↔BelowAll n t cs:=⟨fun h=>by cases h;assumption,fun h=>.agg cs h⟩
@[simp] theorem below_tup {cs:List AV}:Below n t (.tup cs)↔BelowAll n t cs:=⟨fun h=>by cases h;assumption,fun h=>.tup cs h⟩
@[simp] theorem below_sl_none {m:Nat} {cs:List AV}:Below n t (.sl m cs .none)↔BelowAll n t cs:=⟨fun h=>by cases h;assumption,fun h=>.sl m cs .none h (fun x e=>by cases e)⟩
@[simp] theorem below_sl_full {m:Nat} {cs:List AV}:Below n t (.sl m cs .full)↔BelowAll n t cs:=⟨fun h=>by cases h;assumption,fun h=>.sl m cs .full h (fun x e=>by cases e)⟩
@[simp] theorem below_sl_own {m k:Nat} {cs:List AV}:Below n t (.sl m cs (.own k))↔BelowAll n t cs∧k<t:=
 ⟨fun h=>by cases h with|sl _ _ _ h1 h2=>exact⟨h1,h2 k rfl⟩,fun h=>.sl m cs (.own k) h.1 (fun x e=>by cases e;exact h.2)⟩
@[simp] theorem below_fn {f:FuncId} {a b:List AV}:Below n t (.fn f a b)↔BelowAll n t a∧BelowAll n t b:=⟨fun h=>by cases h;exact⟨‹_›,‹_›⟩,fun h=>.fn f a b h.1 h.2⟩
@[simp] theorem below_ints {xs:List Int}:BelowAll n t (ints xs):=by
 intro c hc;simp only[ints,List.mem_map] at hc;obtain⟨x,_,rfl⟩:=hc;exact .int _ _
end
@[simp] theorem belowAll_nil {n t:Nat}:BelowAll n t []:=fun _ h=>by simp at h
@[simp] theorem belowAll_cons {n t:Nat} {c:AV} {cs:List AV}:BelowAll n t (c::cs)↔Below n t c∧BelowAll n t cs:=by simp[BelowAll]
@[simp] theorem belowAll_append {n t:Nat} {a b:List AV}:BelowAll n t (a++b)↔BelowAll n t a∧BelowAll n t b:=by
 simp only[BelowAll,List.mem_append];exact⟨fun h=>⟨fun c hc=>h c (.inl hc),fun c hc=>h c (.inr hc)⟩,fun h c hc=>hc.elim (h.1 c) (h.2 c)⟩
@[simp] theorem belowAll_rep {n t k:Nat} {c:AV} (h:Below n t c):BelowAll n t (List.replicate k c):=fun x hx=>by rw[List.eq_of_mem_replicate hx];exact h
theorem BelowAll.set {n t k:Nat}{c:AV}{cs:List AV}(h:BelowAll n t cs)(hc:Below n t c):BelowAll n t (cs.set k c):=fun x hx=>by
 rcases List.mem_or_eq_of_mem_set hx with h1|h1
 ·exact h x h1
 ·rw[h1];exact hc
def envLe (n t:Nat)(e:Env):Env→Prop
 |[]=>True
 |(s,v)::r=>(v=eget e s∨v=untag (eget e s))∧Below n t v∧envLe n t e r
theorem envLe_get {n t:Nat}{e:Env}:∀{e':Env},envLe n t e e'→∀s,eget e' s=.top∨((eget e' s=eget e s∨eget e' s=untag (eget e s))∧Below n t (eget e' s)):=by
 intro e'
 induction e' with
 |nil=>intro _ s;exact .inl rfl
 |cons x r ih=>
  obtain⟨s0,v⟩:=x;intro h s
  by_cases hs:s0=s
  ·subst hs;simp only[eget,if_true];exact .inr ⟨h.1,h.2.1⟩
  ·simp only[eget,if_neg hs];exact ih h.2.2 s
@[simp] theorem aev_tmp {e:Env} {t:Tmp}:aev e (.tmp t)=eget e t:=rfl
@[simp] theorem aev_const {e:Env} {v:Value}:aev e (.const v)=ofC v:=rfl
@[simp] theorem aev_func {e:Env} {f:FuncId}:aev e (.func f)=.fn f [] []:=rfl
def gvB:AV→Option (Option Bool)
 |.bool b=>some (some b)
 |.tup []=>some none
 |_=>none
def gvO (e:Env):Option Tmp→Option (Option Bool)
 |some d=>gvB (eget e d)
 |none=>none
@[simp] theorem gval_eq {all:Array Oper} {j:Nat} {e:Env}:gval all j e=gvO e ((all[j]?).bind (·.dst)):=by
 unfold gval gvO
 cases (all[j]?).bind (·.dst) with
 |none=>rfl
 |some d=>
  simp only;generalize eget e d=x
  cases x<;>first|rfl|(rename_i cs;cases cs<;>rfl)
@[simp] theorem gvO_some {e:Env} {d:Tmp}:gvO e (some d)=gvB (eget e d):=rfl
@[simp] theorem gvO_none {e:Env}:gvO e none=none:=rfl
@[simp] theorem gvB_bool {b:Bool}:gvB (.bool b)=some (some b):=rfl
@[simp] theorem gvB_none:gvB (.tup [])=some none:=rfl
section
variable {C : Cx} {all : Array Oper} {K : St → Prop} {o : Oper} {r : List Oper} {e : Env} {H : List Blk} {T : Toks}
@[simp] theorem aops_nil:aops C all K [] ⟨e,H,T⟩=K ⟨e,H,T⟩:=rfl
@[simp] theorem aops_cons:aops C all K (o::r) ⟨e,H,T⟩=(
  let exec:Prop:=match acallee o e with
   |some (g,as)=>ACallAt C (aops C all K r) o.dst g as ⟨e,H,T⟩
   |none=>match anil C.P o e with
    |some (n,q)=>∀b:Bool,(0<n→b=!q)→putK C o.dst (.bool b) e H T (aops C all K r)
    |none=>match abox C.P C.bx o e H with
     |some (m,ys)=>∀k:Nat,putK C o.dst (.msl H.length 0 m) e (H++[.cells (ys++List.replicate k .top)]) T (aops C all K r)
     |none=>match acap0 C.P C.bx o e H with
      |some (m,ys,z)=>∀nc:Nat,m≤nc→putK C o.dst (.csl H.length m nc) e (H++[.cells (ys++List.replicate ((nc-m)*z) .top)]) T (aops C all K r)
      |none=>match acap o e with
       |some (t,t2,i,n,cap,x)=>AppC C (aops C all K r) o.dst t t2 i n cap x e H T
       |none=>match anextM o e H with
        |some (i,m,n,seen,es)=>NextC C (aops C all K r) o.dst i m n seen es e H T
        |none=>match aop C.P o e H T with
         |some (v,H',T')=>putK C o.dst v e H' T' (aops C all K r)
         |none=>False
  match o.guard with
  |none=>exec
  |some (j,want)=>match gval all j e with
   |some b=>if b=some want then exec else putK C o.dst (.tup []) e H T (aops C all K r)
   |none=>False):=rfl
end
attribute [simp] anilI aclear anil acallee anextM aop prune envOf putK ofC ofC1 eput eget aconv abin aint astr aun eqType aload isAggT arow axs cellAV untag afieldAddr amove aindexAddr aindex afield abound aslice asrc isSl
 abuild afill untagK akeep setMany abuildSlice abuildBox aappend notInt sameOpd alen amm ammf abuiltin abox acap acap0 aappBox aapp0 abinS eqStruct eqFlds ares aresL ares1 RetQ ExitK BlockQ bytesOf_encB amade_one envLe
section
variable {P : Program}
theorem acallee_congr {o:Oper}{e e':Env}(h:∀x∈o.op.operands,aev e x=aev e' x):acallee o e=acallee o e':=by
 unfold acallee
 cases ho:o.op<;>try rfl
 rename_i c;rw[ho] at h;obtain⟨callee,args,ats⟩:=c
 cases callee<;>try rfl
 rename_i f;have h1:=h f (by simp[Op.operands,Call.operands]);have h2:args.toList.map (aev e)=args.toList.map (aev e'):=List.map_congr_left fun x hx=>h x (by simp only[Op.operands,Call.operands];exact Array.mem_append.2 (.inr (Array.mem_toList_iff.1 hx)));simp only[h1,h2]
theorem aop_congr {o:Oper}{e e':Env}(H:List Blk)(T:Toks)(h:∀x∈o.op.operands,aev e x=aev e' x):aop P o e H T=aop P o e' H T:=by
 have hps:∀(ps:Array (Nat×Operand)),(∀x∈(ps.toList.map (·.2)).toArray,aev e x=aev e' x)→ps.toList.map (fun(x:Nat×Operand)=>(x.1,aev e x.2))=ps.toList.map (fun(x:Nat×Operand)=>(x.1,aev e' x.2)):=by
  intro ps hp;refine List.map_congr_left fun x hx=>?_;rw[hp x.2 (by simp;exact⟨x.1,Array.mem_toList_iff.1 hx⟩)]
 have hopt:∀(q:Option Operand),(∀x∈q.toArray,aev e x=aev e' x)→q.map (aev e)=q.map (aev e'):=by
  intro q hq
  cases q with
  |none=>rfl
  |some x=>simp only[Option.map_some];rw[hq x (by simp)]
 unfold aop
 cases ho:o.op<;>rw[ho] at h<;>(try simp only[Op.operands] at h)<;>try rfl
 case next x s=>
  have h0:=h x (by simp)
  cases s
  ·rfl
  ·simp only[h0]
 case makeMap t r=>cases r<;>rfl
 case build t ps=>simp only[hps ps h]
 case buildSlice t n ps=>simp only[hps ps h]
 case makeFunc fn first caps=>
  cases fn<;>try rfl
  have h1:first.toList.map (aev e)=first.toList.map (aev e'):=List.map_congr_left fun x hx=>h x (Array.mem_append.2 (.inl (Array.mem_toList_iff.1 hx)));have h2:caps.toList.map (aev e)=caps.toList.map (aev e'):=List.map_congr_left fun x hx=>h x (Array.mem_append.2 (.inr (Array.mem_toList_iff.1 hx)));simp only[h1,h2]
 case slice t x lo hi mx=>
  have h1:=hopt lo (fun y hy=>h y (by simp only[Array.mem_append];exact .inl (.inl (.inr hy))));have h2:=hopt hi (fun y hy=>h y (by simp only[Array.mem_append];exact .inl (.inr hy)));have h3:=hopt mx (fun y hy=>h y (by simp only[Array.mem_append];exact .inr hy));have h0:=h x (by simp);simp only[h0,h1,h2,h3]
 case call c=>
  obtain⟨callee,args,ats⟩:=c
  cases callee<;>try rfl
  have h2:args.toList.map (aev e)=args.toList.map (aev e'):=List.map_congr_left fun x hx=>h x (by simp only[Call.operands];exact Array.mem_append.2 (.inr (Array.mem_toList_iff.1 hx)));simp only[h2]
 all_goals (simp only[List.mem_toArray,List.mem_cons,List.not_mem_nil,or_false,forall_eq_or_imp,forall_eq] at h)
 all_goals first
  |simp only[h]
  |(obtain⟨h1,h2⟩:=h;simp only[h1,h2])
  |(obtain⟨h1,h2,h3⟩:=h;simp only[h1,h2,h3])
def aexec (P:Program)(o:Oper)(e:Env)(H:List Blk)(T:Toks)(v:AV)(H':List Blk)(T':Toks):Prop:=
 match acallee o e with
 |some (g,as)=>ACall P g as H T (Is v H' T')
 |none=>aop P o e H T=some (v,H',T')
theorem aexec_congr {o:Oper}{e e':Env}{H H':List Blk}{T T':Toks}{v:AV}(h:∀x∈o.op.operands,aev e x=aev e' x)(k:aexec P o e H T v H' T'):aexec P o e' H T v H' T':=by
 unfold aexec at k ⊢;rw[←acallee_congr h,←aop_congr H T h];exact k
theorem aexec_wp {o:Oper}{e:Env}{H H':List Blk}{T T':Toks}{v:AV}(k:aexec P o e H T v H' T'){L:Lay}{w:World}{a:Act}(hc:Con L H T w)(he:EnvRep L H.length T w e a){K:Act→World→Prop}{Q:Exit→Act→World→Prop}
  (hk:∀cv w' L',Con L' H' T' w'→Rep L' H'.length T' w' v cv→Ev H.length T.length L H.length T w L' H'.length T' w'→K (a.put o.dst cv) w'):o.wp P a w K Q:=by
 unfold aexec at k
 split at k
 ·rename_i g as hcal;obtain⟨hcall,hq⟩:=k;unfold acallee at hcal
  split at hcal
  ·rename_i f args ats hop
   split at hcal
   ·rename_i g' first caps hf
    cases hcal
    have hfr:=he.aev f;rw[hf] at hfr;generalize hfv:a.eval f=fv at hfr
    cases hfr with
    |fn _ _ _ fa ca h1 h2 hr1 hr2=>
     have hrun:(execOp a.eval o).run P w=.ok (.enter g (fa++args.map a.eval++ca)) w:=by
      simp only[execOp,hop,resolve,hfv,Deferred.ofValue,Sem.run_bind,Sem.run_pure,Result.andThen_ok,invoke,hcall]
     unfold Oper.wp;rw[hrun,Oper.upon_enter];have hall:RepV L H.length T w (first++args.toList.map (aev e)++caps) (fa++args.map a.eval++ca).toList:=by
      simp only[Array.toList_append,Array.toList_map];refine(RepV.append ⟨by simpa using h1,fun j hj hj'=>by simpa using hr1 j hj (by simpa using hj')⟩ ⟨by simp,fun j hj hj'=>?_⟩).append ⟨by simpa using h2,fun j hj hj'=>by simpa using hr2 j hj (by simpa using hj')⟩;simp only[List.getElem_map];exact he.aev _
     refine(hq L w _ hc (by simpa using hall.1) (fun j hj hj'=>by
      have h3:=hall.2 j hj (by rw[Array.length_toList];exact hj')
      rwa [Array.getElem_toList] at h3)).mono ?_
     rintro en w' ⟨rr,H2,T2,L',cv,⟨e1,e2,e3⟩,rfl,hcon,hrep,hev⟩;subst e1;subst e2;subst e3;exact hk cv w' L' hcon hrep hev
   ·cases hcal
  ·cases hcal
 ·obtain⟨n,cv,w',L',hrun,hn,hcon,hrep,hev⟩:=aop_sound hc he k;unfold Oper.wp;rw[hrun];have fin:=hk cv w' L' hcon hrep hev;rcases hn with rfl|⟨rfl,rfl⟩
  ·exact fin
  ·exact fin
end
structure DRec where
 o:Oper
 e:Env
 run:Bool
 v:AV
 k:Nat
 eff:Bool
abbrev Stg:=List Blk×Toks×Nat
def ancs:List Oper→List Nat→List Nat
 |[],acc=>acc
 |o::r,acc=>ancs r (acc++[o.after.foldl (fun s e=>if Region.binds .any e then s ||| 2 ^ e.on ||| acc.getD e.on 0 else s) 0])
def anc (A:List Nat)(j i:Nat):Bool:=(A.getD i 0).testBit j
def effIn (A:List Nat)(eff:List Nat)(i:Nat):Nat:=(eff.filter fun e=>anc A e i).length
def drawCk (ops : List Oper) (eff : List Nat) (lo : List Nat) (na : List (List Nat)) : Bool :=
  let A := ancs ops []
  let n := ops.length
  ((List.range n).all fun i => (List.range n).all fun j => i == j || (match (ops.getD i default).dst, (ops.getD j default).dst with | some d, some d' => d != d' | _, _ => true)) &&
  ((List.range n).all fun i => ((ops.getD i default).looksAt ops.toArray).all fun t => (List.range n).all fun j => i == j || (ops.getD j default).dst != some t || (j < i && anc A j i) || (i < j && anc A i j)) &&
  ((List.range n).all fun i => ((ops.getD i default).looksAt ops.toArray).all fun t => (ops.getD i default).dst != some t) &&
  ((List.range eff.length).all fun k => k == 0 || anc A (eff.getD (k - 1) 0) (eff.getD k 0)) && (eff.all fun e => e < n) && (List.range eff.length).all (fun k => k == 0 || eff.getD (k - 1) 0 < eff.getD k 0) &&
  ((List.range n).all fun i => lo.getD i 0 ≤ effIn A eff i) &&
  ((List.range eff.length).all fun k => (List.range (eff.getD k 0)).all fun j => eff.contains j || (na.getD k []).contains j || anc A j (eff.getD k 0)) &&
  ((List.range n).all fun i => (ops.getD i default).after.all fun e => !Region.binds .any e || e.on < i) && Region.noSelect ops.toArray
def exAt (P:Program)(o:Oper)(e:Env)(v:AV):List Stg→Prop
 |[]=>True
 |(H,T,_)::r=>aexec P o e H T v H T∧exAt P o e v r
def naOb (P:Program)(recs:List DRec)(H:List Blk)(T:Toks):List Nat→Prop
 |[]=>True
 |j::r=>(match recs[j]? with
  |some x=>x.run=true→x.eff=false→aexec P x.o x.e H T x.v H T
  |none=>True)∧naOb P recs H T r
def putE (nt:Nat)(dst:Option Tmp)(v:AV)(e:Env)(k:Env→Prop):Prop:=
 match dst with
 |some d=>d<nt∧k (eput e d v)
 |none=>k e
structure DCx where
 C:Cx
 all:Array Oper
 eff:List Nat
 lo:List Nat
 na:List (List Nat)
 K:St→Prop
def dgo (D:DCx)(next:List DRec→List Stg→Env→Prop)(o:Oper)(recs:List DRec)(sts:List Stg)(e:Env)(run:Bool)(v:AV)(H':List Blk)(T':Toks):Prop:=
 if D.eff.contains recs.length then
  naOb D.C.P recs H' T' (D.na.getD (sts.length-1) [])∧putE D.C.nt o.dst v e (next (recs++[⟨o,e,run,v,sts.length-1,true⟩]) (sts++[(H',T',recs.length)]))
 else
  (run=true→exAt D.C.P o e v ((sts.drop (D.lo.getD recs.length 0)).dropLast))∧putE D.C.nt o.dst v e (next (recs++[⟨o,e,run,v,sts.length-1,false⟩]) sts)
def dcall (D:DCx)(next:List DRec→List Stg→Env→Prop)(o:Oper)(recs:List DRec)(sts:List Stg)(e:Env)(g:FuncId)(as:List AV)(H:List Blk)(T:Toks):Prop:=
 ∃v H' T',ACall D.C.P g as H T (Is v H' T')∧(D.eff.contains recs.length=false→H'=H∧T'=T)∧dgo D next o recs sts e true v H' T'
def dexec (D:DCx)(next:List DRec→List Stg→Env→Prop)(o:Oper)(recs:List DRec)(sts:List Stg)(e:Env)(H:List Blk)(T:Toks):Prop:=
 match acallee o e with
 |some (g,as)=>dcall D next o recs sts e g as H T
 |none=>match aop D.C.P o e H T with
  |some (v,H',T')=>(D.eff.contains recs.length=false→H'=H∧T'=T)∧dgo D next o recs sts e true v H' T'
  |none=>False
def adraw (D:DCx):List Oper→List DRec→List Stg→Env→Prop
 |[],_,sts,e=>match sts.getLast? with
  |some (H,T,_)=>D.K ⟨e,H,T⟩
  |none=>False
 |o::r,recs,sts,e=>match sts.getLast? with
  |some (H,T,_)=>match o.guard with
   |none=>dexec D (adraw D r) o recs sts e H T
   |some (j,want)=>match gval D.all j e with
    |some b=>if b=some want then dexec D (adraw D r) o recs sts e H T else dgo D (adraw D r) o recs sts e false (.tup []) H T
    |none=>False
  |none=>False
structure RecOkM (nx:Nat)(D:DCx)(ops:List Oper)(sts:List Stg)(recs:List DRec)(i:Nat)(x:DRec):Prop where
 o:ops[i]?=some x.o
 k:x.k<sts.length
 eff:x.eff=D.eff.contains i
 gate:match x.o.guard with
  |none=>x.run=true
  |some (j,want)=>∃b,gval D.all j x.e=some b∧x.run=(b==some want)
 dst:∀d,x.o.dst=some d→d<D.C.nt
 skip:x.run=false→x.v=.tup []
 still:x.run=true→x.eff=false→∀k H T e,sts[k]?=some (H,T,e)→D.lo.getD i 0≤k→(k≤x.k∨(D.na.getD (k-1) []).contains i=true)→aexec D.C.P x.o x.e H T x.v H T
 effect:x.eff=true→∃H T e H' T',sts[x.k]?=some (H,T,e)∧sts[x.k+1]?=some (H',T',i)∧(x.run=true→i≠nx→aexec D.C.P x.o x.e H T x.v H' T')∧(x.run=false→H'=H∧T'=T)
def eputO (dst:Option Tmp)(e:Env)(v:AV):Env:=
 match dst with
 |some d=>eput e d v
 |none=>e
def after1 (e:Env)(x:DRec):Env:=eputO x.o.dst e x.v
def envAfter:Env→List DRec→Env
 |e,[]=>e
 |e,x::r=>envAfter (after1 e x) r
theorem envAfter_snoc (l:List DRec):∀(e:Env)(x:DRec),envAfter e (l++[x])=after1 (envAfter e l) x:=by
 induction l with
 |nil=>intro e x;rfl
 |cons y r ih=>intro e x;exact ih _ x
theorem eget_after1 (e:Env)(x:DRec)(t:Nat):eget (after1 e x) t=if x.o.dst=some t then x.v else eget e t:=by
 unfold after1 eputO
 split
 ·rename_i d hd
  by_cases h:d=t
  ·subst h;simp[hd,eget_eput_same]
  ·rw[eget_eput_other _ _ _ _ h,if_neg (by rw[hd];intro e;exact h (by injection e))]
 ·rename_i hd;simp[hd]
theorem eget_envAfter_none:∀(l:List DRec)(e:Env)(t:Nat),(∀x∈l,x.o.dst≠some t)→eget (envAfter e l) t=eget e t:=by
 intro l
 induction l with
 |nil=>intro e t _;rfl
 |cons x r ih=>
  intro e t h;rw[envAfter,ih _ _ (fun y hy=>h y (by simp[hy])),eget_after1,if_neg (h x (by simp))]
theorem eget_envAfter_at:∀(l:List DRec)(e:Env)(t j:Nat)(x:DRec),l[j]?=some x→x.o.dst=some t→(∀i y,l[i]?=some y→y.o.dst=some t→i=j)→eget (envAfter e l) t=x.v:=by
 intro l
 induction l with
 |nil=>intro e t j x h;simp at h
 |cons y r ih=>
  intro e t j x h hd hu;rw[envAfter]
  cases j with
  |zero=>
   simp at h;subst h;rw[eget_envAfter_none r _ t (fun z hz hz2=>by
    obtain⟨i,hi,e1⟩:=List.mem_iff_getElem.1 hz;have:=hu (i+1) z (by simp[←e1,hi]) hz2;omega),eget_after1,if_pos hd]
  |succ j=>
   exact ih _ t j x (by simpa using h) hd (fun i z hi hz=>by have:=hu (i+1) z (by simpa using hi) hz;omega)
structure StOk (D:DCx)(recs:List DRec)(sts:List Stg):Prop where
 len:sts.length=1+(D.eff.filter (·<recs.length)).length
 k:∀(i:Nat)(x:DRec),recs[i]?=some x→x.k=(D.eff.filter (·<i)).length
theorem filter_succ_not {eff:List Nat}{i:Nat}(h:eff.contains i=false):(eff.filter (·<i+1)).length=(eff.filter (·<i)).length:=by
 congr 1
 apply List.filter_congr;intro x hx;have:x≠i:=by rintro rfl;simp at h;exact h hx
 simp;omega
def effCk (eff:List Nat):Bool:=(List.range eff.length).all fun k=>(eff.filter (·<eff.getD k 0)).length==k&&(eff.filter (·<eff.getD k 0+1)).length==k+1
theorem effCk_spec {eff:List Nat}(h:effCk eff=true){i:Nat}(hi:eff.contains i=true):eff[(eff.filter (·<i)).length]?=some i∧(eff.filter (·<i+1)).length=(eff.filter (·<i)).length+1:=by
 simp only[List.contains_iff_mem] at hi;obtain⟨k,hk,e⟩:=List.mem_iff_getElem.1 hi;have:=List.all_eq_true.1 h k (List.mem_range.2 hk);simp only[Bool.and_eq_true,beq_iff_eq,List.getD_eq_getElem?_getD,List.getElem?_eq_getElem hk,Option.getD_some,e] at this;rw[this.1];exact⟨by rw[List.getElem?_eq_getElem hk,e],this.2⟩
theorem naOb_spec {P:Program}{recs:List DRec}{H:List Blk}{T:Toks}:∀{l:List Nat},naOb P recs H T l→∀j,l.contains j=true→∀x,recs[j]?=some x→x.run=true→x.eff=false→aexec P x.o x.e H T x.v H T:=by
 intro l
 induction l with
 |nil=>intro _ j hj;simp at hj
 |cons y r ih=>
  intro h j hj x hx h1 h2;obtain⟨g1,g2⟩:=h
  by_cases hy:j=y
  ·subst hy;rw[hx] at g1;exact g1 h1 h2
  ·exact ih g2 j (by simp only[List.contains_cons] at hj;simpa[hy] using hj) x hx h1 h2
theorem exAt_spec {P:Program}{o:Oper}{e:Env}{v:AV}:∀{l:List Stg},exAt P o e v l→∀(j:Nat)(st:Stg),l[j]?=some st→aexec P o e st.1 st.2.1 v st.1 st.2.1:=by
 intro l
 induction l with
 |nil=>intro _ j st h;simp at h
 |cons y r ih=>
  obtain⟨H,T,i⟩:=y;intro h j st hj
  cases j with
  |zero=>simp at hj;subst hj;exact h.1
  |succ j=>exact ih h.2 j st (by simpa using hj)
structure WalkOkM (nx:Nat)(D:DCx)(ops:List Oper)(e0:Env)(recs:List DRec)(sts:List Stg)(e:Env):Prop where
 st:StOk D recs sts
 rcs:∀(i:Nat)(x:DRec),recs[i]?=some x→RecOkM nx D ops sts recs i x
 envs:∀(i:Nat)(x:DRec),recs[i]?=some x→x.e=envAfter e0 (recs.take i)
 cur:e=envAfter e0 recs
theorem putE_spec {nt:Nat}{dst:Option Tmp}{v:AV}{e:Env}{k:Env→Prop}(h:putE nt dst v e k):(∀d,dst=some d→d<nt)∧k (eputO dst e v):=by
 cases dst with
 |none=>exact⟨fun d e=>(by cases e),h⟩
 |some d=>exact⟨fun d' e=>(by cases e;exact h.1),h.2⟩
theorem dgo_stepM {nx:Nat}{D:DCx}{ops:List Oper}{e0:Env}{recs:List DRec}{sts:List Stg}{e:Env}{next:List DRec→List Stg→Env→Prop}{o:Oper}{run:Bool}{v:AV}{H H':List Blk}{T T':Toks}{i0:Nat}(hck:effCk D.eff=true)(hnx:D.eff.contains nx=true∨ops.length≤nx)
  (hw:WalkOkM nx D ops e0 recs sts e) (hops:ops[recs.length]?=some o) (hlast:sts.getLast?=some (H,T,i0))
  (hgate:match o.guard with|none=>run=true|some (j,want)=>∃b,gval D.all j e=some b∧run=(b==some want)) (hskip:run=false→v=.tup []∧H'=H∧T'=T) (hrun:run=true→recs.length≠nx→aexec D.C.P o e H T v H' T')
  (hstill:D.eff.contains recs.length=false→H'=H∧T'=T) (h:dgo D next o recs sts e run v H' T') :
  ∃recs' sts' e',WalkOkM nx D ops e0 recs' sts' e'∧recs'.length=recs.length+1∧next recs' sts' e'∧sts'[0]?=sts[0]?∧sts'≠[]∧(∃x,recs'=recs++[x]∧(D.eff.contains recs.length=true→x=⟨o,e,run,v,sts.length-1,true⟩))∧(∃q,sts'=sts++q)∧(D.eff.contains recs.length=true→sts'=sts++[(H',T',recs.length)]):=by
 have hne:sts≠[]:=by intro e;rw[e] at hlast;cases hlast
 have hpos:0<sts.length:=List.length_pos_iff.2 hne;have hat:sts[sts.length-1]?=some (H,T,i0):=by rw[←hlast,List.getLast?_eq_getElem?]
 have hlen:=hw.st.len;unfold dgo at h
 split at h
 ·rename_i heff;obtain⟨hna,hput⟩:=h;obtain⟨hdst,hnext⟩:=putE_spec hput;obtain⟨ek,es⟩:=effCk_spec hck heff;refine⟨_,_,_,⟨⟨?_,fun i x hx=>?_⟩,fun i x hx=>?_,fun i x hx=>?_,?_⟩,by simp,hnext,by rw[List.getElem?_append_left hpos],by simp,⟨_,rfl,fun _=>rfl⟩,⟨_,rfl⟩,fun _=>rfl⟩
  ·simp only[List.length_append,List.length_singleton,hlen];rw[es];omega
  ·rcases Nat.lt_or_ge i recs.length with hi|hi
   ·rw[List.getElem?_append_left hi] at hx;exact hw.st.k i x hx
   ·have hi':i=recs.length:=by have:=(List.getElem?_eq_some_iff.1 hx).1;simp at this;omega
    subst hi';simp at hx;subst hx;simp;omega
  ·rcases Nat.lt_or_ge i recs.length with hi|hi
   ·rw[List.getElem?_append_left hi] at hx;have hr:=hw.rcs i x hx;refine⟨hr.o,by simp;have:=hr.k;omega,hr.eff,hr.gate,hr.dst,hr.skip,fun h1 h2 k H2 T2 e2 hk hlo hor=>?_,fun h1=>?_⟩
    ·rcases Nat.lt_or_ge k sts.length with hkl|hkl
     ·rw[List.getElem?_append_left hkl] at hk;exact hr.still h1 h2 k H2 T2 e2 hk hlo hor
     ·have hk':k=sts.length:=by have:=(List.getElem?_eq_some_iff.1 hk).1;simp at this;omega
      subst hk';simp at hk;obtain⟨rfl,rfl,rfl⟩:=hk;rcases hor with hor|hor
      ·have:=hr.k;omega
      ·exact naOb_spec hna i hor x hx h1 h2
    ·obtain⟨Ha,Ta,ea,Hb,Tb,g1,g2,g3,g4⟩:=hr.effect h1;have l1:=(List.getElem?_eq_some_iff.1 g1).1;have l2:=(List.getElem?_eq_some_iff.1 g2).1;exact⟨Ha,Ta,ea,Hb,Tb,by rw[List.getElem?_append_left l1];exact g1,by rw[List.getElem?_append_left l2];exact g2,g3,g4⟩
   ·have hi':i=recs.length:=by have:=(List.getElem?_eq_some_iff.1 hx).1;simp at this;omega
    subst hi';simp at hx;subst hx;refine⟨hops,(by rw[List.length_append,List.length_singleton];exact(by omega:sts.length-1<sts.length+1)),heff.symm,hgate,hdst,fun hr=>(hskip hr).1,fun _ h2=>(by cases h2),fun _=>⟨H,T,i0,H',T',by show (sts++[_])[sts.length-1]?=_;rw[List.getElem?_append_left (by omega)];exact hat,?_,hrun,fun hr=>(hskip hr).2⟩⟩;show (sts++[_])[sts.length-1+1]?=_;rw[show sts.length-1+1=sts.length by omega];simp
  ·rcases Nat.lt_or_ge i recs.length with hi|hi
   ·rw[List.getElem?_append_left hi] at hx;rw[List.take_append_of_le_length (by omega)];exact hw.envs i x hx
   ·have hi':i=recs.length:=by have:=(List.getElem?_eq_some_iff.1 hx).1;simp at this;omega
    subst hi';simp at hx;subst hx;rw[List.take_append_of_le_length (Nat.le_refl _),List.take_length];exact hw.cur
  ·rw[envAfter_snoc,←hw.cur];rfl
 ·rename_i heff;simp only[Bool.not_eq_true] at heff;obtain⟨hex,hput⟩:=h;obtain⟨hdst,hnext⟩:=putE_spec hput;obtain⟨rfl,rfl⟩:=hstill heff;refine⟨_,_,_,⟨⟨?_,fun i x hx=>?_⟩,fun i x hx=>?_,fun i x hx=>?_,?_⟩,by simp,hnext,rfl,hne,⟨_,rfl,fun h=>absurd h (by rw[heff];decide)⟩,⟨[],by simp⟩,fun h=>absurd h (by rw[heff];decide)⟩
  ·simp only[List.length_append,List.length_singleton,hlen];rw[filter_succ_not heff]
  ·rcases Nat.lt_or_ge i recs.length with hi|hi
   ·rw[List.getElem?_append_left hi] at hx;exact hw.st.k i x hx
   ·have hi':i=recs.length:=by have:=(List.getElem?_eq_some_iff.1 hx).1;simp at this;omega
    subst hi';simp at hx;subst hx;simp;omega
  ·rcases Nat.lt_or_ge i recs.length with hi|hi
   ·rw[List.getElem?_append_left hi] at hx;have hr:=hw.rcs i x hx;exact⟨hr.o,hr.k,hr.eff,hr.gate,hr.dst,hr.skip,hr.still,hr.effect⟩
   ·have hi':i=recs.length:=by have:=(List.getElem?_eq_some_iff.1 hx).1;simp at this;omega
    subst hi';simp at hx;subst hx;refine⟨hops,(by exact(by omega:sts.length-1<sts.length)),heff.symm,hgate,hdst,fun hr=>(hskip hr).1,fun h1 _ k H2 T2 e2 hk hlo hor=>?_,fun h=>(by cases h)⟩;simp only at hk hlo hor h1 ⊢;have hkl:=(List.getElem?_eq_some_iff.1 hk).1;rcases Nat.lt_or_ge k (sts.length-1) with hlt|hge
    ·have hk2:((sts.drop (D.lo.getD recs.length 0)).dropLast)[k-D.lo.getD recs.length 0]?=some (H2,T2,e2):=by
      rw[List.getElem?_dropLast,if_pos (by rw[List.length_drop];omega),List.getElem?_drop,show D.lo.getD recs.length 0+(k-D.lo.getD recs.length 0)=k by omega];exact hk
     exact exAt_spec (hex h1) _ _ hk2
    ·have hk':k=sts.length-1:=by omega
     subst hk';rw[hat] at hk
     cases hk
     exact hrun h1 (fun e=>by
      rcases hnx with hnx|hnx
      ·rw[e,hnx] at heff;cases heff
      ·have:=(List.getElem?_eq_some_iff.1 hops).1;omega)
  ·rcases Nat.lt_or_ge i recs.length with hi|hi
   ·rw[List.getElem?_append_left hi] at hx;rw[List.take_append_of_le_length (by omega)];exact hw.envs i x hx
   ·have hi':i=recs.length:=by have:=(List.getElem?_eq_some_iff.1 hx).1;simp at this;omega
    subst hi';simp at hx;subst hx;rw[List.take_append_of_le_length (Nat.le_refl _),List.take_length];exact hw.cur
  ·rw[envAfter_snoc,←hw.cur];rfl
theorem adraw_walkM {nx:Nat}{D:DCx}{ops:List Oper}{e0:Env}(hck:effCk D.eff=true)(hnx:D.eff.contains nx=true∨ops.length≤nx):∀(l:List Oper)(recs:List DRec)(sts:List Stg)(e:Env),WalkOkM nx D ops e0 recs sts e→ops.drop recs.length=l→recs.length≤ops.length→adraw D l recs sts e→
  ∃recs' sts' H T i,WalkOkM nx D ops e0 recs' sts' (envAfter e0 recs')∧recs'.length=ops.length∧sts'.getLast?=some (H,T,i)∧D.K ⟨envAfter e0 recs',H,T⟩∧sts'[0]?=sts[0]?∧(∃q,recs'=recs++q)∧∃q,sts'=sts++q:=by
 intro l
 induction l with
 |nil=>
  intro recs sts e hw hl hle h;unfold adraw at h
  split at h
  ·rename_i H T i hlast;have hlen:recs.length=ops.length:=by
    have:=congrArg List.length hl;simp at this;omega
   have hc:=hw.cur;subst hc;exact⟨recs,sts,H,T,i,hw,hlen,hlast,h,rfl,⟨[],by simp⟩,⟨[],by simp⟩⟩
  ·exact h.elim
 |cons o r ih=>
  intro recs sts e hw hl hle h;have hlt:recs.length<ops.length:=by
   have:=congrArg List.length hl;simp at this;omega
  have hops:ops[recs.length]?=some o:=by
   have:=congrArg (fun l=>l[0]?) hl;simpa using this
  have hdrop:ops.drop (recs.length+1)=r:=by
   have:=congrArg (fun l=>l.drop 1) hl;simpa[List.drop_drop,Nat.add_comm] using this
  have fin:∀{H T i0 run v H' T'},sts.getLast?=some (H,T,i0)→(match o.guard with|none=>run=true|some (j,want)=>∃b,gval D.all j e=some b∧run=(b==some want))→(run=false→v=.tup []∧H'=H∧T'=T)→(run=true→recs.length≠nx→aexec D.C.P o e H T v H' T')→
    (D.eff.contains recs.length=false→H'=H∧T'=T)→dgo D (adraw D r) o recs sts e run v H' T'→∃recs' sts' H T i,WalkOkM nx D ops e0 recs' sts' (envAfter e0 recs')∧recs'.length=ops.length∧sts'.getLast?=some (H,T,i)∧D.K ⟨envAfter e0 recs',H,T⟩∧sts'[0]?=sts[0]?∧(∃q,recs'=recs++q)∧∃q,sts'=sts++q:=by
   intro H T i0 run v H' T' hlast hg h1 h2 h3 h4;obtain⟨recs',sts',e',g1,g2,g3,g4,_,⟨x9,g9,_⟩,⟨q8,g8⟩,_⟩:=dgo_stepM hck hnx hw hops hlast hg h1 h2 h3 h4;obtain⟨r2,s2,H2,T2,i2,k1,k2,k3,k4,k5,⟨q6,k6⟩,⟨q7,k7⟩⟩:=ih recs' sts' e' g1 (by rw[g2];exact hdrop) (by omega) g3;exact⟨r2,s2,H2,T2,i2,k1,k2,k3,k4,k5.trans g4,⟨_,by rw[k6,g9,List.append_assoc]⟩,⟨_,by rw[k7,g8,List.append_assoc]⟩⟩
  have exec:∀{H T i0},sts.getLast?=some (H,T,i0)→(match o.guard with|none=>true=true|some (j,want)=>∃b,gval D.all j e=some b∧true=(b==some want))→dexec D (adraw D r) o recs sts e H T→
    ∃recs' sts' H T i,WalkOkM nx D ops e0 recs' sts' (envAfter e0 recs')∧recs'.length=ops.length∧sts'.getLast?=some (H,T,i)∧D.K ⟨envAfter e0 recs',H,T⟩∧sts'[0]?=sts[0]?∧(∃q,recs'=recs++q)∧∃q,sts'=sts++q:=by
   intro H T i0 hlast hg hx;unfold dexec at hx
   split at hx
   ·rename_i g as hcal;obtain⟨v,H',T',hc,hs,hd⟩:=hx;refine fin (run:=true) hlast hg (fun e=>by cases e) (fun _ _=>?_) hs hd;unfold aexec;rw[hcal];exact hc
   ·rename_i hcal
    split at hx
    ·rename_i v H' T' hop;refine fin (run:=true) hlast hg (fun e=>by cases e) (fun _ _=>?_) hx.1 hx.2;unfold aexec;rw[hcal];exact hop
    ·exact hx.elim
  unfold adraw at h
  split at h
  ·rename_i H T i0 hlast
   split at h
   ·rename_i hg;exact exec hlast (by rw[hg]) h
   ·rename_i j want hg
    split at h
    ·rename_i b hb
     split at h
     ·rename_i hbw;exact exec hlast (by rw[hg];exact⟨b,hb,by simp[hbw]⟩) h
     ·rename_i hbw;exact fin (run:=false) hlast (by rw[hg];exact⟨b,hb,by simp[hbw]⟩) (fun _=>⟨rfl,rfl,rfl⟩) (fun e=>by cases e) (fun _=>⟨rfl,rfl⟩) h
    ·exact h.elim
  ·exact h.elim
theorem ancs_old:∀(l:List Oper)(acc:List Nat)(i:Nat),i<acc.length→(ancs l acc)[i]?=acc[i]?:=by
 intro l
 induction l with
 |nil=>intro acc i _;rfl
 |cons o r ih=>
  intro acc i hi;rw[ancs,ih _ _ (by simp;omega),List.getElem?_append_left hi]
def ancOne (o:Oper)(acc:List Nat):Nat:=o.after.foldl (fun s e=>if Region.binds .any e then s ||| 2 ^ e.on ||| acc.getD e.on 0 else s) 0
theorem ancs_at:∀(l:List Oper)(acc:List Nat)(i:Nat)(o:Oper),l[i]?=some o→∃acc',(ancs l acc)[acc.length+i]?=some (ancOne o acc')∧acc'.length=acc.length+i∧∀j,j<acc'.length→acc'[j]?=(ancs l acc)[j]?:=by
 intro l
 induction l with
 |nil=>intro acc i o h;simp at h
 |cons p r ih=>
  intro acc i o h
  cases i with
  |zero=>
   simp at h;subst h;refine⟨acc,?_,by simp,fun j hj=>(ancs_old _ _ j hj).symm⟩;rw[ancs,ancs_old _ _ _ (by simp)];simp[ancOne]
  |succ i=>
   obtain⟨acc',h1,h2,h3⟩:=ih (acc++[ancOne p acc]) i o (by simpa using h);refine⟨acc',?_,by simp at h2;omega,h3⟩;rw[ancs];simp at h1;rw[show acc.length+(i+1)=acc.length+1+i by omega];exact h1
theorem ancOne_bit (o:Oper)(acc:List Nat)(j:Nat)(h:(ancOne o acc).testBit j=true):∃e∈o.after,Region.binds .any e=true∧(e.on=j∨(acc.getD e.on 0).testBit j=true):=by
 unfold ancOne at h;rw[←Array.foldl_toList] at h;have key:∀(l:List Edge)(s:Nat),(l.foldl (fun s e=>if Region.binds .any e then s ||| 2 ^ e.on ||| acc.getD e.on 0 else s) s).testBit j=true→s.testBit j=true∨∃e∈l,Region.binds .any e=true∧(e.on=j∨(acc.getD e.on 0).testBit j=true):=by
  intro l
  induction l with
  |nil=>intro s h;exact .inl h
  |cons e r ih=>
   intro s h;rcases ih _ h with h1|⟨e',h1,h2⟩
   ·dsimp only at h1
    split at h1
    ·rename_i hb;simp only[Nat.testBit_or,Bool.or_eq_true] at h1;rcases h1 with (h1|h1)|h1
     ·exact .inl h1
     ·rw[Nat.testBit_two_pow] at h1;exact .inr ⟨e,by simp,hb,.inl (by simpa using h1)⟩
     ·exact .inr ⟨e,by simp,hb,.inr h1⟩
    ·exact .inl h1
   ·exact .inr ⟨e',by simp[h1],h2⟩
 rcases key _ _ h with h1|⟨e,h1,h2⟩
 ·simp at h1
 ·exact⟨e,by simpa using h1,h2⟩
theorem anc_listed {ops:List Oper}{listed:Array Bool}(hcl:∀i j,listed.getD i false=true→anc (ancs ops []) j i=true→listed.getD j false=true)
  {i:Nat} {o:Oper} (ho:ops[i]?=some o) (hr:∀e∈o.after,Region.binds .any e=true→listed.getD e.on false=true) (hback:∀e∈o.after,Region.binds .any e=true→e.on<i) {j:Nat} (hj:anc (ancs ops []) j i=true):listed.getD j false=true:=by
 obtain⟨acc',h1,h2,h3⟩:=ancs_at ops [] i o ho;simp at h1 h2;unfold anc at hj;rw[List.getD_eq_getElem?_getD,h1] at hj;obtain⟨e,he,hb,h4⟩:=ancOne_bit o acc' j hj;have hl:=hr e he hb;rcases h4 with h4|h4
 ·rw[←h4];exact hl
 ·refine hcl e.on j hl ?_;unfold anc;have hlt:=hback e he hb;rw[List.getD_eq_getElem?_getD,←h3 e.on (by omega),←List.getD_eq_getElem?_getD];exact h4
theorem drawCk_spec {ops:List Oper}{eff lo:List Nat}{na:List (List Nat)}(h:drawCk ops eff lo na=true) :
  (∀(i j:Nat)(x y:Oper)(d:Tmp),ops[i]?=some x→ops[j]?=some y→x.dst=some d→y.dst=some d→i=j)∧
  (∀(i j:Nat)(x y:Oper)(t:Tmp),ops[i]?=some x→ops[j]?=some y→t∈x.looksAt ops.toArray→y.dst=some t→i≠j∧((j<i∧anc (ancs ops []) j i=true)∨(i<j∧anc (ancs ops []) i j=true)))∧
  (∀k e,eff[k]?=some e→e<ops.length∧(0<k→∃e',eff[k-1]?=some e'∧anc (ancs ops []) e' e=true))∧
  (∀i,i<ops.length→lo.getD i 0≤effIn (ancs ops []) eff i)∧
  (∀k e,eff[k]?=some e→∀j,j<e→eff.contains j=true∨(na.getD k []).contains j=true∨anc (ancs ops []) j e=true)∧
  (∀(i:Nat)(x:Oper),ops[i]?=some x→∀e∈x.after,Region.binds .any e=true→e.on<i)∧Region.noSelect ops.toArray=true:=by
 unfold drawCk at h;simp only[Bool.and_eq_true] at h;obtain⟨⟨⟨⟨⟨⟨⟨⟨⟨h1,h2⟩,h3⟩,h4⟩,h5⟩,h6⟩,h7⟩,h8⟩,h9⟩,h10⟩:=h;have at_:∀{i:Nat} {x:Oper},ops[i]?=some x→i<ops.length∧ops.getD i default=x:=fun {i x} hi=>by
  obtain⟨a,b⟩:=List.getElem?_eq_some_iff.1 hi;exact⟨a,by rw[List.getD_eq_getElem?_getD,hi];rfl⟩
 have eat:∀{k e:Nat},eff[k]?=some e→k<eff.length∧eff.getD k 0=e:=fun {k e} hi=>by
  obtain⟨a,b⟩:=List.getElem?_eq_some_iff.1 hi;exact⟨a,by rw[List.getD_eq_getElem?_getD,hi];rfl⟩
 refine⟨fun i j x y d hi hj hx hy=>?_,fun i j x y t hi hj ht hy=>?_,fun k e hk=>⟨?_,fun hpos=>?_⟩,fun i hi=>?_,fun k e hk j hj=>?_,fun i x hi e he hb=>?_,h10⟩
 ·obtain⟨a1,a2⟩:=at_ hi;obtain⟨b1,b2⟩:=at_ hj;have:=List.all_eq_true.1 (List.all_eq_true.1 h1 i (List.mem_range.2 a1)) j (List.mem_range.2 b1);rw[a2,b2,hx,hy] at this;simpa using this
 ·obtain⟨a1,a2⟩:=at_ hi;obtain⟨b1,b2⟩:=at_ hj;have hne:i≠j:=by
   rintro rfl;have e1:x=y:=by rw[hi] at hj;injection hj
   subst e1;have:=List.all_eq_true.1 (List.all_eq_true.1 h3 i (List.mem_range.2 a1)) t (by rw[a2];exact ht);rw[a2,hy] at this;simp at this
  have:=List.all_eq_true.1 (List.all_eq_true.1 (List.all_eq_true.1 h2 i (List.mem_range.2 a1)) t (by rw[a2];exact ht)) j (List.mem_range.2 b1);rw[b2,hy] at this;refine⟨hne,?_⟩;simpa[hne] using this
 ·obtain⟨a1,a2⟩:=eat hk;have:=List.all_eq_true.1 h5 e (List.mem_of_getElem? hk);simpa using this
 ·obtain⟨a1,a2⟩:=eat hk;have:=List.all_eq_true.1 h4 k (List.mem_range.2 a1);have hk0:(k==0)=false:=by simp;omega
  rw[hk0,a2] at this;have hk1:k-1<eff.length:=by omega
  refine⟨eff[k-1],List.getElem?_eq_getElem hk1,?_⟩;have e2:eff.getD (k-1) 0=eff[k-1]:=by rw[List.getD_eq_getElem?_getD,List.getElem?_eq_getElem hk1];rfl
  rw[e2] at this;simpa using this
 ·have:=List.all_eq_true.1 h7 i (List.mem_range.2 hi);simpa using this
 ·obtain⟨a1,a2⟩:=eat hk;have:=List.all_eq_true.1 (List.all_eq_true.1 h8 k (List.mem_range.2 a1)) j (List.mem_range.2 (by rw[a2];exact hj));rw[a2] at this;simp only[Bool.or_eq_true] at this;rcases this with (h|h)|h
  ·exact .inl h
  ·exact .inr (.inl h)
  ·exact .inr (.inr h)
 ·obtain⟨a1,a2⟩:=at_ hi;have:=Array.all_eq_true_iff_forall_mem.1 (List.all_eq_true.1 h9 i (List.mem_range.2 a1)) e (by rw[a2];exact he);rw[hb] at this;simpa using this
def keepOf (e:Env):List Tmp→Env
 |[]=>[]
 |t::r=>(t,eget e t)::keepOf e r
theorem eget_keepOf (e:Env):∀(l:List Tmp)(t:Tmp),eget (keepOf e l) t=if t∈l then eget e t else .top:=by
 intro l
 induction l with
 |nil=>intro t;rfl
 |cons s r ih=>
  intro t;simp only[keepOf,eget]
  by_cases h:s=t
  ·subst h;simp
  ·rw[if_neg h,ih];have:t≠s:=fun e=>h e.symm;simp[this]
def VS (recs:List DRec)(listed:Array Bool)(e0:Env)(t:Nat)(v:AV):Prop:=
 (∃j x,recs[j]?=some x∧x.o.dst=some t∧listed.getD j false=true∧v=x.v)∨
 ((∀j x,recs[j]?=some x→x.o.dst=some t→listed.getD j false=false)∧v=eget e0 t)
structure Inv (D:DCx)(s:St)(recs:List DRec)(sts:List Stg)(L0:Lay)(w0:World)(listed:Array Bool)(a:Act)(w:World):Prop where
 size:listed.size=recs.length
 closed:∀i j,listed.getD i false=true→anc (ancs (recs.map (·.o)) []) j i=true→listed.getD j false=true
 st:∃k H T e L,(∀(m i:Nat),D.eff[m]?=some i→(listed.getD i false=true↔m<k))∧k≤D.eff.length∧sts[k]?=some (H,T,e)∧Con L H T w∧D.C.nb≤H.length∧D.C.tb≤T.length∧
  (∀t,∃v,VS recs listed s.e t v∧Rep L H.length T w v (a.tmps.getD t undef))∧Ev D.C.nb D.C.tb L0 s.H.length s.T w0 L H.length T w
 tmps:a.tmps.size=D.C.nt
 defers:a.defers=[]
theorem getD_false {listed:Array Bool}{j:Nat}(h:j<listed.size):listed.getD j true=listed.getD j false:=by
 simp[h]
theorem any_game {P:Program}{ops:List Oper}{Q:Exit→Act→World→Prop}(d6:∀(i:Nat)(x:Oper),ops[i]?=some x→∀e∈x.after,Region.binds .any e=true→e.on<i)(I:Array Bool→Act→World→Prop)
  (hsz:∀listed a w,I listed a w→listed.size=ops.length) (hfin:∀listed a w,I listed a w→(∀i,i<ops.length→listed.getD i false=true)→Q .normal a w)
  (hstp:∀(fuel:Nat)(listed:Array Bool)(a:Act)(w:World),I listed a w→∀i,i∈Region.ready .any ops.toArray listed→
   ((∀j,j<ops.length→(listed.setIfInBounds i true).getD j false=true)∨(List.range ops.length).countP (fun j=>!(listed.setIfInBounds i true).getD j false)≤fuel)→
   (∀a' w',I (listed.setIfInBounds i true) a' w'→wpAny P .any ops.toArray Q fuel (listed.setIfInBounds i true) a' w')→
   wpOp P ops.toArray Q i (wpAny P .any ops.toArray Q fuel (listed.setIfInBounds i true)) a w) :
  ∀(fuel:Nat)(listed:Array Bool)(a:Act)(w:World),I listed a w→(∀i,i<ops.length→listed.getD i false=true)∨(List.range ops.length).countP (fun i=>!listed.getD i false)≤fuel→
   wpAny P .any ops.toArray Q fuel listed a w:=by
 have some_ready:∀(listed:Array Bool),listed.size=ops.length→Region.ready .any ops.toArray listed=[]→∀i,i<ops.length→listed.getD i false=true:=by
  intro listed hsz hr i
  induction i using Nat.strongRecOn with
  |_ i ih=>
   intro hil
   cases hli:listed.getD i false with
   |true=>rfl
   |false=>
    exfalso;have hmem:i∈Region.ready .any ops.toArray listed:=by
     refine mem_ready.2 ⟨by rw[getD_false (by omega)];exact hli,ops[i],by rw[List.getElem?_toArray,List.getElem?_eq_getElem hil],fun e he hb=>?_⟩;have hlt:=d6 i _ (List.getElem?_eq_getElem hil) e he hb;exact ih e.on hlt (by omega)
    rw[hr] at hmem;simp at hmem
 intro fuel
 induction fuel with
 |zero=>
  intro listed a w hI hcnt;have hall:∀i,i<ops.length→listed.getD i false=true:=by
   rcases hcnt with h1|h1
   ·exact h1
   ·intro i hi;have h2:(List.range ops.length).countP (fun i=>!listed.getD i false)=0:=by omega
    have:=List.countP_eq_zero.1 h2 i (List.mem_range.2 hi);simpa using this
  refine⟨?_,hfin listed a w hI hall⟩;rw[List.eq_nil_iff_forall_not_mem];intro i hi;obtain⟨h1,o,ho,_⟩:=mem_ready.1 hi;rw[List.getElem?_toArray] at ho;have hil:=(List.getElem?_eq_some_iff.1 ho).1;rw[getD_false (by rw[(hsz _ _ _ hI)];omega),hall i hil] at h1
  cases h1
 |succ fuel ih=>
  intro listed a w hI hcnt;refine⟨fun hr=>hfin listed a w hI (some_ready listed (hsz _ _ _ hI) hr),fun i hi=>?_⟩;have hcnt':i∈Region.ready .any ops.toArray listed→(∀j,j<ops.length→(listed.setIfInBounds i true).getD j false=true)∨(List.range ops.length).countP (fun j=>!(listed.setIfInBounds i true).getD j false)≤fuel:=fun hi=>?_
  ·exact hstp fuel listed a w hI i hi (hcnt' hi) fun a' w' hI'=>ih _ a' w' hI' (hcnt' hi)
  obtain⟨h1,o,ho,_⟩:=mem_ready.1 hi;rw[List.getElem?_toArray] at ho;have hil:=(List.getElem?_eq_some_iff.1 ho).1;have hisz:i<listed.size:=by rw[(hsz _ _ _ hI)];omega
  rw[getD_false hisz] at h1;rcases hcnt with h2|h2
  ·rw[h2 i hil] at h1;cases h1
  ·right
   have:(List.range ops.length).countP (fun j=>!(listed.setIfInBounds i true).getD j false)+1≤(List.range ops.length).countP (fun j=>!listed.getD j false):=by
    have hsplit:(List.range ops.length).countP (fun j=>!listed.getD j false)=(List.range ops.length).countP (fun j=>!(listed.setIfInBounds i true).getD j false)+(List.range ops.length).countP (fun j=>decide (j=i)):=by
     generalize List.range ops.length=l
     induction l with
     |nil=>rfl
     |cons y r ihl=>
      simp only[List.countP_cons,ihl]
      by_cases hy:y=i
      ·subst hy;simp[h1,hisz];omega
      ·rw[getD_set_ne false (fun e=>hy e.symm)];simp[hy];omega
    have hpos:0<(List.range ops.length).countP (fun j=>decide (j=i)):=List.countP_pos_iff.2 ⟨i,List.mem_range.2 hil,by simp⟩;omega
   omega
theorem core_game {C:Cx}{ops:List Oper}{Q:Exit→St→Prop}{s':St}{K:St→Prop}{eff lo:List Nat}{na:List (List Nat)}(hck:drawCk ops eff lo na=true)(hef:effCk eff=true){nx:Nat}{L0:Lay}{w0:World}{D:DCx}
  (hDC:D.C=C) (hDe:D.eff=eff) (hDl:D.lo=lo) (hDn:D.na=na) (hDa:D.all=ops.toArray) {recs:List DRec} {sts:List Stg} (hlen:recs.length=ops.length) (hro:∀(i:Nat)(x:DRec),recs[i]?=some x→ops[i]?=some x.o)
  (Rk:Nat→Prop) (hnx:∀i,Rk i→i≠nx) (hRk:∀(i:Nat)(x:DRec),recs[i]?=some x→Rk i→RecOkM nx D ops sts recs i x) (henvs:∀(i:Nat)(x:DRec),recs[i]?=some x→Rk i→x.e=envAfter s'.e (recs.take i))
  (hks:∀(i:Nat)(x:DRec),recs[i]?=some x→Rk i→x.k=(D.eff.filter (·<i)).length) (J:Array Bool→Prop) (hJ:∀listed i,Rk i→J listed→J (listed.setIfInBounds i true))
  (hfin:∀(listed:Array Bool)(a:Act)(w:World),Inv D s' recs sts L0 w0 listed a w→J listed→(∀i,i<ops.length→listed.getD i false=true)→Post C (ExitK K Q) L0 s' w0 .normal a w)
  (hother:∀(fuel:Nat)(listed:Array Bool)(a:Act)(w:World),Inv D s' recs sts L0 w0 listed a w→J listed→∀i,i∈Region.ready .any ops.toArray listed→¬Rk i→
   ((∀j,j<ops.length→(listed.setIfInBounds i true).getD j false=true)∨(List.range ops.length).countP (fun j=>!(listed.setIfInBounds i true).getD j false)≤fuel)→
   wpOp C.P ops.toArray (Post C (ExitK K Q) L0 s' w0) i (wpAny C.P .any ops.toArray (Post C (ExitK K Q) L0 s' w0) fuel (listed.setIfInBounds i true)) a w) :
  ∀(fuel:Nat)(listed:Array Bool)(a:Act)(w:World),Inv D s' recs sts L0 w0 listed a w→J listed→(∀i,i<ops.length→listed.getD i false=true)∨(List.range ops.length).countP (fun i=>!listed.getD i false)≤fuel→
   wpAny C.P .any ops.toArray (Post C (ExitK K Q) L0 s' w0) fuel listed a w:=by
 obtain⟨d1,d2,d3,d4,d5,d6,d7⟩:=drawCk_spec hck;have hmap:recs.map (·.o)=ops:=by
  apply List.ext_getElem?;intro i;rw[List.getElem?_map]
  by_cases hi:i<recs.length
  ·rw[List.getElem?_eq_getElem hi,Option.map_some,hro i _ (List.getElem?_eq_getElem hi)]
  ·rw[List.getElem?_eq_none (by omega),List.getElem?_eq_none (by omega)];rfl
 have hrec:∀i,i<ops.length→∃x:DRec,recs[i]?=some x:=fun i hi=>⟨_,List.getElem?_eq_getElem (by omega)⟩
 have stp:∀(listed:Array Bool)(a:Act)(w:World)(i:Nat)(KK:Act→World→Prop),Inv D s' recs sts L0 w0 listed a w→Rk i→i∈Region.ready .any ops.toArray listed→
   (∀a' w',Inv D s' recs sts L0 w0 (listed.setIfInBounds i true) a' w'→KK a' w')→wpOp C.P ops.toArray (Post C (ExitK K Q) L0 s' w0) i KK a w:=by
  intro listed a w i KK hI hrk hi hKK';obtain⟨hnl,o,ho,hready⟩:=mem_ready.1 hi;rw[List.getElem?_toArray] at ho;have hil:i<ops.length:=(List.getElem?_eq_some_iff.1 ho).1;have hisz:i<listed.size:=by rw[hI.size];omega
  have hnl':listed.getD i false=false:=by rw[←getD_false hisz];exact hnl
  obtain⟨x,hx⟩:=hrec i hil;have hox:x.o=o:=by have:=hro i x hx;rw[ho] at this;injection this with this;exact this.symm
  have hR:=hRk i x hx hrk;have hcl:∀i j,listed.getD i false=true→anc (ancs ops []) j i=true→listed.getD j false=true:=by
   have:=hI.closed;rw[hmap] at this;exact this
  have hancl:∀j,anc (ancs ops []) j i=true→listed.getD j false=true:=fun j hj=>anc_listed hcl ho hready (d6 i o ho) hj;obtain⟨k,H,T,e,L,hk,hkl,hstk,hcon,hnb,htb,hslots,hev⟩:=hI.st;rw[hDe] at hk hkl;rw[hDC] at hnb htb hev;have hlook:∀t∈o.looksAt ops.toArray,∀v,VS recs listed s'.e t v→v=eget x.e t:=by
   intro t ht v hv;rw[henvs i x hx hrk];have hw_:∀(j:Nat)(z:DRec),recs[j]?=some z→z.o.dst=some t→i≠j∧((j<i∧anc (ancs ops []) j i=true)∨(i<j∧anc (ancs ops []) i j=true)):=fun j z hz hd=>d2 i j o z.o t ho (hro j z hz) ht hd;rcases hv with⟨j,z,hz,hd,hl,rfl⟩|⟨hno,rfl⟩
   ·obtain⟨hne,h1|h1⟩:=hw_ j z hz hd
    ·rw[eget_envAfter_at (recs.take i) s'.e t j z (by rw[List.getElem?_take,if_pos h1.1];exact hz) hd (fun i' y' hy' hd'=>by
      rw[List.getElem?_take] at hy'
      split at hy'
      ·exact d1 i' j y'.o z.o t (hro i' y' hy') (hro j z hz) hd' hd
      ·cases hy')]
    ·have:=hcl j i hl h1.2;rw[hnl'] at this;cases this
   ·rw[eget_envAfter_none (recs.take i) s'.e t (fun z hz hd=>by
     obtain⟨j,hj,e1⟩:=List.mem_iff_getElem.1 hz;simp at hj;have hz':recs[j]?=some z:=by rw[List.getElem?_eq_getElem (by omega),←e1];simp
     have hf:=hno j z hz' hd;obtain⟨hne,h1|h1⟩:=hw_ j z hz' hd
     ·have:=hancl j h1.2;rw[hf] at this;cases this
     ·omega)]
  have henv:EnvRep L H.length T w (keepOf x.e (o.looksAt ops.toArray)) a:=by
   intro t;rw[eget_keepOf]
   split
   ·rename_i ht;obtain⟨v,hv,hr⟩:=hslots t;rw[←hlook t ht v hv];exact hr
   ·exact .top _
  have haev:∀z∈o.op.operands,aev x.e z=aev (keepOf x.e (o.looksAt ops.toArray)) z:=by
   intro z hz
   cases z with
   |tmp t=>
    have:t∈o.looksAt ops.toArray:=by
     unfold Oper.looksAt;exact List.mem_append.2 (.inl (List.mem_filterMap.2 ⟨_,Array.mem_toList_iff.2 hz,rfl⟩))
    simp only[aev,eget_keepOf,if_pos this]
   |_=>rfl
  have behind:∀(H':List Blk)(T':Toks)(cv:Value)(w':World)(L':Lay),Con L' H' T' w'→Rep L' H'.length T' w' x.v cv→Ev H.length T.length L H.length T w L' H'.length T' w'→
    ((eff.contains i=false∧H'=H∧T'=T)∨(eff.contains i=true∧eff[k]?=some i∧∃e',sts[k+1]?=some (H',T',e')))→KK (a.put o.dst cv) w':=by
   intro H' T' cv w' L' hcon' hrep' hev' hor;refine hKK' _ _ ⟨by simp[hI.size],fun i' j' hl' hanc'=>?_,?_,?_,by cases o.dst<;>exact hI.defers⟩
   ·rw[hmap] at hanc'
    by_cases hii:i=i'
    ·subst hii;have:=hancl j' hanc'
     by_cases hij:i=j'
     ·subst hij;rw[hnl'] at this;cases this
     ·rw[getD_set_ne false hij];exact this
    ·rw[getD_set_ne false hii] at hl';have:=hcl i' j' hl' hanc';exact getD_set_true this
   ·have hval:∀t,∃v,VS recs (listed.setIfInBounds i true) s'.e t v∧Rep L' H'.length T' w' v ((a.put o.dst cv).tmps.getD t undef):=by
     intro t
     by_cases hd:o.dst=some t
     ·refine⟨x.v,.inl ⟨i,x,hx,by rw[hox];exact hd,by simp[hisz],rfl⟩,?_⟩;have hlt:t<a.tmps.size:=by rw[hI.tmps];exact hR.dst t (by rw[hox];exact hd)
      rw[hd,getD_put a t t cv hlt,if_pos rfl];exact hrep'
     ·obtain⟨v,hv,hr⟩:=hslots t;refine⟨v,?_,?_⟩
      ·rcases hv with⟨j,z,hz,hzd,hl,rfl⟩|⟨hno,rfl⟩
       ·exact .inl ⟨j,z,hz,hzd,getD_set_true hl,rfl⟩
       ·refine .inr ⟨fun j z hz hzd=>?_,rfl⟩;have hij:i≠j:=by
         rintro rfl;rw[hx] at hz
         cases hz
         rw[hox] at hzd;exact hd hzd
        rw[getD_set_ne false hij];exact hno j z hz hzd
      ·have e1:(a.put o.dst cv).tmps.getD t undef=a.tmps.getD t undef:=by
        cases hdst:o.dst with
        |none=>rfl
        |some d=>
         have hlt:d<a.tmps.size:=by rw[hI.tmps];exact hR.dst d (by rw[hox];exact hdst)
         rw[getD_put a d t cv hlt,if_neg (fun e=>hd (by rw[hdst,e]))]
       rw[e1];exact hr.keep hev'.keeps
    have hev2:=hev.trans (hev'.mono hnb htb);rcases hor with⟨hne,rfl,rfl⟩|⟨heq,hek,e',hst'⟩
    ·refine⟨k,H',T',e,L',fun m i' hm'=>?_,by rw[hDe];exact hkl,hstk,hcon',by rw[hDC];exact hnb,by rw[hDC];exact htb,hval,by rw[hDC];exact hev2⟩;rw[hDe] at hm';have hii:i≠i':=by
      rintro rfl;have:=List.mem_of_getElem? hm';rw[←List.contains_iff_mem] at this;rw[hne] at this;cases this
     rw[getD_set_ne false hii];exact hk m i' hm'
    ·refine⟨k+1,H',T',e',L',fun m i' hm'=>?_,by rw[hDe];have:=(List.getElem?_eq_some_iff.1 hek).1;omega,hst',hcon',by rw[hDC];exact Nat.le_trans hnb hev'.n,by rw[hDC];exact Nat.le_trans htb hev'.t,hval,by rw[hDC];exact hev2⟩;rw[hDe] at hm'
     by_cases hii:i=i'
     ·subst hii;have e1:=(effCk_spec hef heq).1;have hmk:∀m',eff[m']?=some i→m'=(eff.filter (·<i)).length:=by
       intro m' hm'';have hml:=(List.getElem?_eq_some_iff.1 hm'').1;have:=List.all_eq_true.1 hef m' (List.mem_range.2 hml);simp only[Bool.and_eq_true,beq_iff_eq,List.getD_eq_getElem?_getD,hm'',Option.getD_some] at this;exact this.1.symm
      have h1:=hmk m hm';have h2:=hmk k hek;simp[hisz];omega
     ·rw[getD_set_ne false hii,hk m i' hm']
      constructor
      ·intro h;omega
      ·intro h;rcases Nat.lt_or_ge m k with h1|h1
       ·exact h1
       ·have:m=k:=by omega
        subst this;rw[hek] at hm'
        injection hm' with hm'
        exact absurd hm' hii
   ·simp[Act.put];cases o.dst<;>simp[hI.tmps]
  have hstage:eff.contains i=true→eff[k]?=some i∧x.k=k:=by
   intro heq;obtain⟨e1,_⟩:=effCk_spec hef heq;have hxk:=hks i x hx hrk;rw[hDe] at hxk;have hge:k≤(eff.filter (·<i)).length:=by
    rcases Nat.lt_or_ge (eff.filter (·<i)).length k with h1|h1
    ·have:=(hk _ i e1).2 h1;rw[hnl'] at this;cases this
    ·exact h1
   have hle:(eff.filter (·<i)).length≤k:=by
    rcases Nat.eq_zero_or_pos (eff.filter (·<i)).length with h0|h0
    ·omega
    ·obtain⟨e',h1,h2⟩:=(d3 _ i e1).2 h0;have:=(hk _ e' h1).1 (hancl e' h2);omega
   have:(eff.filter (·<i)).length=k:=by omega
   exact⟨by rw[←this];exact e1,by omega⟩
  have hgv:∀j b,gval D.all j x.e=some b→o.guard=some (j,true)∨o.guard=some (j,false)→yielded ops.toArray a.tmps j=b:=by
   intro j b hb hg;rw[hDa] at hb;refine yielded_gval henv ?_;unfold gval at hb ⊢
   split at hb
   ·rename_i d hd;have:d∈o.looksAt ops.toArray:=by
     unfold Oper.looksAt;refine List.mem_append.2 (.inr ?_);rcases hg with hg|hg<;>rw[hg]<;>simp only[hd]<;>simp
    rw[eget_keepOf,if_pos this];exact hb
   ·cases hb
  unfold wpOp;rw[List.getElem?_toArray,ho]
  dsimp only
  have hgate:=hR.gate;rw[hox] at hgate
  by_cases hrun:x.run=true
  ·
   have hwant:Region.wanted o (yielded ops.toArray a.tmps)=true:=by
    unfold Region.wanted
    cases hg:o.guard with
    |none=>rfl
    |some jw=>
     obtain⟨j,want⟩:=jw;rw[hg] at hgate;obtain⟨b,hb,hb2⟩:=hgate;have:=hgv j b hb (by cases want<;>simp[hg]);rw[hrun] at hb2;simp only[this];have hbw:b=some want:=by simpa using hb2.symm
     simp[hbw]
   rw[if_pos hwant];refine .inl ?_;have hxx:∃H' T',aexec C.P o x.e H T x.v H' T'∧((eff.contains i=false∧H'=H∧T'=T)∨(eff.contains i=true∧eff[k]?=some i∧∃e',sts[k+1]?=some (H',T',e'))):=by
    cases heq:eff.contains i with
    |false=>
     have hxe:x.eff=false:=by rw[hR.eff,hDe];exact heq
     have hst:=hR.still hrun hxe k H T e hstk ?_ ?_
     ·rw[hDC,hox] at hst;exact⟨H,T,hst,.inl ⟨rfl,rfl,rfl⟩⟩
     ·rw[hDl];refine Nat.le_trans (d4 i hil) ?_;unfold effIn;have hsub:∀e'∈eff.filter (fun e=>anc (ancs ops []) e i),∃m,m<k∧eff[m]?=some e':=by
       intro e' he';obtain⟨h1,h2⟩:=List.mem_filter.1 he';obtain⟨m,hm1,hm2⟩:=List.mem_iff_getElem.1 h1;have hm3:eff[m]?=some e':=by rw[List.getElem?_eq_getElem hm1,hm2]
       exact⟨m,(hk m e' hm3).1 (hancl e' h2),hm3⟩
      have hle:(eff.filter (fun e=>anc (ancs ops []) e i)).length≤(eff.take k).length:=by
       have e1:eff.filter (fun e=>anc (ancs ops []) e i)=(eff.take k).filter (fun e=>anc (ancs ops []) e i)++(eff.drop k).filter (fun e=>anc (ancs ops []) e i):=by
        rw[←List.filter_append,List.take_append_drop]
       have e2:(eff.drop k).filter (fun e=>anc (ancs ops []) e i)=[]:=by
        rw[List.filter_eq_nil_iff];intro e' he' hanc';obtain⟨m,hm1,hm2⟩:=List.mem_iff_getElem.1 he';simp at hm1;have hm3:eff[k+m]?=some e':=by
         rw[List.getElem?_eq_getElem (by omega),←hm2];simp
        have:=(hk (k+m) e' hm3).1 (hancl e' hanc');omega
       rw[e1,e2,List.append_nil];exact List.length_filter_le _ _
      refine Nat.le_trans hle ?_;simp;omega
     ·rcases Nat.lt_or_ge x.k k with hlt|hge
      ·right
       rw[hDn];have hkk:k-1<eff.length:=by omega
       have he':=List.getElem?_eq_getElem hkk;have hll:=(hk (k-1) _ he').2 (by omega);have hgt:i<eff[k-1]:=by
        rcases Nat.lt_or_ge i eff[k-1] with h1|h1
        ·exact h1
        ·exfalso;have hne:eff[k-1]≠i:=by
          intro e1;have:=List.mem_of_getElem? he';rw[e1,←List.contains_iff_mem] at this;rw[heq] at this;cases this
         have hxk:=hks i x hx hrk;rw[hDe] at hxk;have h2:=List.all_eq_true.1 hef (k-1) (List.mem_range.2 hkk);simp only[Bool.and_eq_true,beq_iff_eq,List.getD_eq_getElem?_getD,he',Option.getD_some] at h2;have h3:(eff.filter (·<eff[k-1]+1)).length≤(eff.filter (·<i)).length:=by
          rw[←List.countP_eq_length_filter,←List.countP_eq_length_filter];exact List.countP_mono_left (fun z _ hz=>by simp at hz ⊢;omega)
         omega
       rcases d5 (k-1) _ he' i hgt with h1|h1|h1
       ·rw[heq] at h1;cases h1
       ·exact h1
       ·have:=hcl _ i hll h1;rw[hnl'] at this;cases this
      ·exact .inl hge
    |true=>
     have hxe:x.eff=true:=by rw[hR.eff,hDe];exact heq
     obtain⟨hek,hxk⟩:=hstage heq;obtain⟨Ha,Ta,ea,Hb,Tb,g1,g2,g3,_⟩:=hR.effect hxe;rw[hxk,hstk] at g1;obtain⟨rfl,rfl⟩:H=Ha∧T=Ta:=by injection g1 with h1;injection h1 with h1 h2;injection h2 with h2 h3;exact⟨h1,h2⟩
     rw[hxk] at g2;have:=g3 hrun (hnx i hrk);rw[hDC,hox] at this;exact⟨Hb,Tb,this,.inr ⟨rfl,hek,i,g2⟩⟩
   obtain⟨H',T',hex,hor⟩:=hxx;exact aexec_wp (aexec_congr haev hex) hcon henv fun cv w' L' g1 g2 g3=>behind H' T' cv w' L' g1 g2 g3 hor
  ·
   have hrun':x.run=false:=by simpa using hrun
   have hwant:Region.wanted o (yielded ops.toArray a.tmps)=false:=by
    unfold Region.wanted
    cases hg:o.guard with
    |none=>rw[hg] at hgate;rw[hgate] at hrun';cases hrun'
    |some jw=>
     obtain⟨j,want⟩:=jw;rw[hg] at hgate;obtain⟨b,hb,hb2⟩:=hgate;have:=hgv j b hb (by cases want<;>simp[hg]);rw[hrun'] at hb2;simp only[this];have hbw:b≠some want:=by simpa using hb2.symm
     simp[hbw]
   rw[if_neg (by simp[hwant])];have hv:x.v=.tup []:=hR.skip hrun'
   cases heq:eff.contains i with
   |false=>exact behind H T undef w L hcon (by rw[hv];exact .tup [] #[] rfl (fun j hj=>by simp at hj)) (Ev.refl (Nat.le_refl _) (Nat.le_refl _)) (.inl ⟨heq,rfl,rfl⟩)
   |true=>
    have hxe:x.eff=true:=by rw[hR.eff,hDe];exact heq
    obtain⟨hek,hxk⟩:=hstage heq;obtain⟨Ha,Ta,ea,Hb,Tb,g1,g2,_,g4⟩:=hR.effect hxe;rw[hxk,hstk] at g1;obtain⟨rfl,rfl⟩:H=Ha∧T=Ta:=by injection g1 with h1;injection h1 with h1 h2;injection h2 with h2 h3;exact⟨h1,h2⟩
    obtain⟨rfl,rfl⟩:=g4 hrun';rw[hxk] at g2;exact behind _ _ undef w L hcon (by rw[hv];exact .tup [] #[] rfl (fun j hj=>by simp at hj)) (Ev.refl (Nat.le_refl _) (Nat.le_refl _)) (.inr ⟨heq,hek,i,g2⟩)
 intro fuel listed a w hI hJ' hcnt;refine any_game d6 (fun l a w=>Inv D s' recs sts L0 w0 l a w∧J l) (fun l a w h=>by rw[h.1.size,hlen]) (fun l a w h=>hfin l a w h.1 h.2) (fun fuel l a w h i hi hc hk=>?_) fuel listed a w ⟨hI,hJ'⟩ hcnt
 by_cases hrk:Rk i
 ·exact stp l a w i _ h.1 hrk hi fun a' w' hI'=>hk a' w' ⟨hI',hJ _ _ hrk h.2⟩
 ·exact hother fuel l a w h.1 h.2 i hi hrk hc
theorem draw_game {C:Cx}{ops:List Oper}{Q:Exit→St→Prop}{s:St}(K:St→Prop)(eff lo:List Nat)(na:List (List Nat))(hck:drawCk ops eff lo na=true)(hef:effCk eff=true)
  (h:adraw ⟨C,ops.toArray,eff,lo,na,K⟩ ops [] [(s.H,s.T,0)] (prune C.nv s.e)):∀L0 w0 a0,ConSt C s L0 w0 a0→
   wpAny C.P .any ops.toArray (Post C (ExitK K Q) L0 s w0) ops.toArray.size (Array.replicate ops.toArray.size false) a0 { w0 with drawn:=w0.drawn+1 }:=by
 intro L0 w0 a0 hc0;have hc:ConSt C ⟨prune C.nv s.e,s.H,s.T⟩ L0 w0 a0:=⟨hc0.nb,hc0.tb,hc0.con,hc0.size,hc0.defers,fun t=>by
  rcases eget_prune C.nv s.e t with e|e<;>rw[e]
  ·exact hc0.env t
  ·exact .top _⟩
 generalize hs':(⟨prune C.nv s.e,s.H,s.T⟩:St)=s' at hc;have hs1:prune C.nv s.e=s'.e:=by rw[←hs']
 have hs2:s.H=s'.H:=by rw[←hs']
 have hs3:s.T=s'.T:=by rw[←hs']
 rw[hs1,hs2,hs3] at h;rw[show Post C (ExitK K Q) L0 s w0=Post C (ExitK K Q) L0 s' w0 by unfold Post;rw[hs2,hs3]];clear hs' hs1 hs2 hs3 hc0;generalize hD:(⟨C,ops.toArray,eff,lo,na,K⟩:DCx)=D at h;have hDC:D.C=C:=by rw[←hD]
 have hDe:D.eff=eff:=by rw[←hD]
 have hDl:D.lo=lo:=by rw[←hD]
 have hDn:D.na=na:=by rw[←hD]
 have hDa:D.all=ops.toArray:=by rw[←hD]
 have hDK:D.K=K:=by rw[←hD]
 obtain⟨recs,sts,HL,TL,iL,hw,hlen,hlast,hKK,hst0,_,_⟩:=adraw_walkM (nx:=ops.length) (D:=D) (ops:=ops) (e0:=s'.e) (by rw[hDe];exact hef) (.inr (Nat.le_refl _)) ops [] [(s'.H,s'.T,0)] s'.e
  ⟨⟨by simp,fun i x hx=>by simp at hx⟩,fun i x hx=>by simp at hx,fun i x hx=>by simp at hx,rfl⟩ (by simp) (by simp) h
 obtain⟨d1,d2,d3,d4,d5,d6,d7⟩:=drawCk_spec hck;have hro:∀(i:Nat)(x:DRec),recs[i]?=some x→ops[i]?=some x.o:=fun i x hx=>(hw.rcs i x hx).o;have hstl:sts.length=1+eff.length:=by
  have h1:=hw.st.len;rw[hDe] at h1;rw[h1]
  congr 2
  apply List.filter_eq_self.2;intro e he;obtain⟨k,hk,e1⟩:=List.mem_iff_getElem.1 he;have:=(d3 k e (by rw[List.getElem?_eq_getElem hk,e1])).1;simp;omega
 have done:∀(listed:Array Bool)(a:Act)(w:World),Inv D s' recs sts L0 w0 listed a w→(∀i,i<ops.length→listed.getD i false=true)→Post C (ExitK K Q) L0 s' w0 .normal a w:=by
  intro listed a w hI hall;obtain⟨k,H,T,e,L,hk,hkl,hstk,hcon,hnb,htb,hslots,hev⟩:=hI.st;have hkk:k=eff.length:=by
   rw[hDe] at hk hkl;rcases Nat.lt_or_ge k eff.length with hlt|hge
   ·have:=(hk k _ (List.getElem?_eq_getElem hlt)).1 (hall _ (d3 k _ (List.getElem?_eq_getElem hlt)).1);omega
   ·omega
  have hlst:sts[k]?=some (HL,TL,iL):=by rw[←hlast,List.getLast?_eq_getElem?,hstl,hkk];congr 1;omega
  rw[hstk] at hlst;obtain⟨rfl,rfl,rfl⟩:H=HL∧T=TL∧e=iL:=by injection hlst with h1;injection h1 with h1 h2;injection h2 with h2 h3;exact⟨h1,h2,h3⟩
  rw[hDK] at hKK;rw[hDC] at hev hnb htb;refine⟨_,L,hKK,⟨hnb,htb,hcon,by rw[hI.tmps,hDC],hI.defers,fun t=>?_⟩,hev⟩;obtain⟨v,hv,hr⟩:=hslots t;show Rep L H.length T w (eget (envAfter s'.e recs) t) _;rcases hv with⟨j,x,hx,hd,hl,rfl⟩|⟨hno,rfl⟩
  ·rw[eget_envAfter_at recs s'.e t j x hx hd (fun i y hy hyd=>d1 i j y.o x.o t (hro i y hy) (hro j x hx) hyd hd)];exact hr
  ·rw[eget_envAfter_none recs s'.e t (fun x hx hd=>by
    obtain⟨j,hj,e1⟩:=List.mem_iff_getElem.1 hx;have h1:=hno j x (by rw[List.getElem?_eq_getElem hj,e1]) hd;have h2:=hall j (by omega);rw[h1] at h2;cases h2)]
   exact hr
 refine core_game (nx:=ops.length) hck hef hDC hDe hDl hDn hDa hlen hro (fun i=>i<ops.length) (fun i hi=>by omega) (fun i x hx _=>hw.rcs i x hx) (fun i x hx _=>hw.envs i x hx) (fun i x hx _=>hw.st.k i x hx) (fun _=>True) (fun _ _ _ _=>trivial)
  (fun listed a w hI _ hall=>done listed a w hI hall) (fun fuel listed a w hI _ i hi hn=>?_) ops.length _ a0 _ ⟨by simp[hlen],fun i j hl _=>?_,⟨0,s'.H,s'.T,0,L0,fun m i hmi=>?_,Nat.zero_le _,by rw[hst0];rfl,hc.con.drew rfl,by rw[hDC];exact hc.nb,by rw[hDC];exact hc.tb,fun t=>?_,?_⟩,by rw[hDC];exact hc.size,hc.defers⟩ trivial (.inr ?_)
 ·obtain⟨_,o,ho,_⟩:=mem_ready.1 hi;rw[List.getElem?_toArray] at ho;exact absurd (List.getElem?_eq_some_iff.1 ho).1 hn
 ·exfalso
  by_cases hi:i<ops.length<;>simp[hi] at hl
 ·constructor
  ·intro hl;exfalso
   by_cases hi:i<ops.length<;>simp[hi] at hl
  ·intro h;omega
 ·refine⟨eget s'.e t,.inr ⟨fun j x hx hd=>?_,rfl⟩,?_⟩
  ·by_cases hj:j<ops.length<;>simp[hj]
  ·have kd:Keeps L0 s'.H.length s'.T w0 L0 s'.H.length s'.T { w0 with drawn:=w0.drawn+1 }:=(Ev.drew (H:=s'.H) (T:=s'.T) (L:=L0) (w:=w0) (w':={ w0 with drawn:=w0.drawn+1 }) rfl rfl rfl rfl (Nat.le_succ _)).keeps;exact(hc.env t).keep kd
 ·rw[hDC];exact(Ev.drew (H:=s'.H) (T:=s'.T) (L:=L0) (w:=w0) (w':={ w0 with drawn:=w0.drawn+1 }) rfl rfl rfl rfl (Nat.le_succ _)).mono hc.nb hc.tb
 ·refine Nat.le_trans (List.countP_le_length) ?_;simp
theorem aw_drawK {C:Cx}{id:Nat}{ops:List Oper}{Q:Exit→St→Prop}{s:St}(K:St→Prop)(eff lo:List Nat)(na:List (List Nat))(hm:C.P.follows .mixedOrders=true)(hck:drawCk ops eff lo na=true)(hef:effCk eff=true)
  (h:adraw ⟨C,ops.toArray,eff,lo,na,K⟩ ops [] [(s.H,s.T,0)] (prune C.nv s.e)):AW C (.region id ops.toArray true) (ExitK K Q) s:=
 fun L0 w0 a0 hc0=>wp_region_any hm (draw_game K eff lo na hck hef h L0 w0 a0 hc0)
theorem aw_draw {C:Cx}{id:Nat}{ops:List Oper}{Q:Exit→St→Prop}{s:St}{y:Code}(eff lo:List Nat)(na:List (List Nat))(hm:C.P.follows .mixedOrders=true)(hck:drawCk ops eff lo na=true)(hef:effCk eff=true)
  (h:∀K:St→Prop,(∀s,AW C y Q s→K s)→adraw ⟨C,ops.toArray,eff,lo,na,K⟩ ops [] [(s.H,s.T,0)] (prune C.nv s.e)):AW C (.seq (.region id ops.toArray true) y) Q s:=
 aw_seq fun K hK=>aw_drawK K eff lo na hm hck hef (h K hK)
theorem aw_draw0 {C:Cx}{id:Nat}{ops:List Oper}{Q:Exit→St→Prop}{s:St}(eff lo:List Nat)(na:List (List Nat))(hm:C.P.follows .mixedOrders=true)(hck:drawCk ops eff lo na=true)(hef:effCk eff=true)
  (h:∀K:St→Prop,(∀s,Q .normal s→K s)→adraw ⟨C,ops.toArray,eff,lo,na,K⟩ ops [] [(s.H,s.T,0)] (prune C.nv s.e)):AW C (.region id ops.toArray true) Q s:=
 (aw_drawK (Q:=Q) (fun s=>Q .normal s) eff lo na hm hck hef (h _ fun _ h=>h)).mono fun e s q=>by cases e<;>exact q
section
variable {P : Program} {f : FuncId} {args : List AV} {H rH : List Blk} {T rT : Toks} {L : Lay} {w : World}
theorem Con.front (P:Program)(h:Con L (H++rH) (T++rT) w)(ho:HOk H T):Con L H T w:=by
 let C:Cx:=⟨P,0,0,H.length,T.length,[]⟩
 let a:Act:={ tmps:=#[],defers:=[] }
 have hc:ConSt C ⟨[],H++rH,T++rT⟩ L w a:=⟨by simp[C],by simp[C],h,rfl,rfl,fun t=>.top _⟩
 have hw:Weak C ⟨[],H++rH,T++rT⟩ ⟨[],H,T⟩:=⟨Nat.le_refl _,Nat.le_refl _,⟨rH,rfl⟩,⟨rT,rfl⟩,ho,fun t=>.inl rfl⟩
 exact(hw.con hc).con
theorem Ev.front {L0:Lay}{w0:World}{H0:List Blk}{T0:Toks}{nb tb:Nat}(h:Ev nb tb L0 H0.length T0 w0 L (H++rH).length (T++rT) w)(hn:nb≤H.length)(ht:tb≤T.length):Ev nb tb L0 H0.length T0 w0 L H.length T w:=by
 refine⟨hn,h.phi,fun t u z hlt hT=>?_,ht,h.m,h.com,h.size,h.frame,fun b hb=>h.wr b ?_,h.os,h.tape,h.output,h.drawn,h.dr⟩
 ·obtain⟨u',h1,h2,h3⟩:=h.tok t u z hlt hT;exact⟨u',by rwa [List.getElem?_append_left (by omega)] at h1,h2,h3⟩
 ·rcases hb with⟨i,hi,e⟩|⟨t,u,z,h1,h2,e⟩
  ·exact .inl ⟨i,by simp;omega,e⟩
  ·exact .inr ⟨t,u,z,by rw[List.getElem?_append_left (List.getElem?_eq_some_iff.1 h1).1];exact h1,h2,e⟩
theorem ACall.drop {r:AV}(h:ACall P f args H T (Is r (H++rH) (T++rT)))(hb:Below H.length T.length (untag r)):ACall P f args H T (Is (untag r) H T):=by
 refine⟨h.1,fun L w ca hc hl hr=>(h.2 L w ca hc hl hr).mono ?_⟩;rintro e w' ⟨r',H',T',L',cv,⟨e1,e2,e3⟩,rfl,hcon,hrep,hev⟩;subst e1;subst e2;subst e3;refine⟨_,H,T,L',cv,⟨rfl,rfl,rfl⟩,rfl,Con.front P hcon hc.hok,?_,hev.front (Nat.le_refl _) (Nat.le_refl _)⟩;have:=(hrep.untag).drop hb;simpa using this
theorem ACall.cut {r0:AV}(H1:List Blk)(T1:Toks)(hl:H.length≤H1.length)(ht:T.length≤T1.length)(ho:HOk H T→HOk H1 T1)(hb:Below H1.length T1.length r0)
  (h:ACall P f args H T (fun r H' T'=>(∃rH,H'=H1++rH)∧(∃rT,T'=T1++rT)∧(r=r0∨untag r=r0))):ACall P f args H T (Is r0 H1 T1):=by
 refine⟨h.1,fun L w ca hc hl' hr=>(h.2 L w ca hc hl' hr).mono ?_⟩;rintro e w' ⟨r',H',T',L',cv,⟨⟨rH,e1⟩,⟨rT,e2⟩,e3⟩,rfl,hcon,hrep,hev⟩;subst e1;subst e2;refine⟨_,H1,T1,L',cv,⟨rfl,rfl,rfl⟩,rfl,Con.front P hcon (ho hc.hok),?_,hev.front hl ht⟩;have hrep':Rep L' (H1++rH).length (T1++rT) w' r0 cv:=by
  rcases e3 with e3|e3
  ·rw[←e3];exact hrep
  ·rw[←e3];exact hrep.untag
 have:=hrep'.drop hb;simpa using this
theorem ACall.drop' {r0:AV}(h:ACall P f args H T (fun r H' T'=>(∃rH,H'=H++rH)∧(∃rT,T'=T++rT)∧(r=r0∨untag r=r0)))(hb:Below H.length T.length r0):ACall P f args H T (Is r0 H T):=
 ACall.cut H T (Nat.le_refl _) (Nat.le_refl _) id hb h
theorem Con.commitAt (h:Con L H T w){b k:Nat}(hb:b<w.heap.size)(hw:¬Wr L H.length T b)(hk:L.m b≤k):Con (L.commit b k) H T w:=by
 have hm:∀x,L.m x≤(L.commit b k).m x:=by
  intro x;show L.m x≤if x=b then k else L.m x
  split
  ·rename_i e;rw[e];exact hk
  ·exact Nat.le_refl _
 have kp:Keeps L H.length T w (L.commit b k) H.length T w:=⟨Nat.le_refl _,fun _ _=>rfl,fun t u z h=>⟨u,h,Nat.le_refl _,fun _=>rfl⟩,hm,fun _ _ _=>rfl,rfl⟩
 refine⟨fun i x hx=>?_,h.inj,fun t u z ht=>?_,h.tinj,h.tbox,fun x hx=>?_,h.gl.keep hm (fun _ _ _=>rfl)⟩
 ·have hi:=(List.getElem?_eq_some_iff.1 hx).1;refine(h.box i x hx).stay kp hi rfl fun h5=>?_;show (if L.phi i=b then k else L.m (L.phi i))=0;rw[if_neg (fun e=>hw (.inl ⟨i,hi,e⟩))];exact h5
 ·obtain⟨h1,h2⟩:=h.tok t u z ht;refine⟨h1,fun hs=>?_⟩;obtain⟨c,e,fr,g1,g2,g3,g4⟩:=h2 hs;refine⟨c,e,fr,g1,g2,g3,?_⟩;show (if (L.tau t).b=b then k else L.m (L.tau t).b)≤_;rw[if_neg (fun e=>hw (.inr ⟨t,u,z,ht,hs,e⟩))];exact g4
 ·show (if x=b then k else L.m x)=0;rw[if_neg (by omega)];exact h.mz x hx
theorem ACall.freeze {n:Nat}{vs:List AV}(h:ACall P f args H T (Is (.msl H.length 0 n) (H++[.cells vs]) T))(hb:BelowAll H.length T.length vs):ACall P f args H T (Is (.sl n vs .none) H T):=by
 refine⟨h.1,fun L w ca hc hl hr=>(h.2 L w ca hc hl hr).mono ?_⟩;rintro e w' ⟨r',H',T',L',cv,⟨e1,e2,e3⟩,rfl,hcon,hrep,hev⟩;have e3':=e3.symm;subst e1;subst e2;subst e3';obtain⟨cap,rfl,hcap,hlt⟩:=hrep.msl_inv;have hbox:=hcon.box H.length (.cells vs) (by simp);have hblt:=hbox.lt;obtain⟨c,t,fr,g1,g2,g3,g3',g4,g5⟩:=hbox;have hc1:Con L' H T w':=Con.front (rT:=[]) P (by simpa using hcon) hc.hok;have hnw:¬Wr L' H.length T (L'.phi H.length):=by
  rintro (⟨i,hi,e⟩|⟨t,u,z,ht,hs,e⟩)
  ·have:=hcon.inj i H.length (by simp;omega) (by simp) e;omega
  ·exact hcon.tbox t u z H.length ht hs (by simp) e
 have hc2:=hc1.commitAt (k:=vs.length) hblt hnw (by omega);have e1:Ev H.length T.length L H.length T w L' H.length T w':=by
  have:=hev;have h2:=Ev.front (H:=H) (rH:=[.cells vs]) (T:=T) (rT:=[]) (L:=L') (w:=w') (L0:=L) (w0:=w) (H0:=H) (T0:=T) (nb:=H.length) (tb:=T.length) (by simpa using hev) (Nat.le_refl _) (Nat.le_refl _);exact h2
 have kp:Keeps L' H.length T w' (L'.commit (L'.phi H.length) vs.length) H.length T w':=by
  refine⟨Nat.le_refl _,fun _ _=>rfl,fun t u z h=>⟨u,h,Nat.le_refl _,fun _=>rfl⟩,fun x=>?_,fun _ _ _=>rfl,rfl⟩;show L'.m x≤if x=L'.phi H.length then vs.length else L'.m x
  split
  ·rename_i e;rw[e,g5];exact Nat.zero_le _
  ·exact Nat.le_refl _
 refine⟨_,H,T,L'.commit (L'.phi H.length) vs.length,_,⟨rfl,rfl,rfl⟩,rfl,hc2,?_,?_⟩
 ·have hrc:RepC L' H.length T w' vs c.toList:=by
   refine⟨by simpa using g3,fun j hj=>?_,fun j hj hj'=>?_⟩
   ·have:=g3' j (by simpa using hj);rw[Array.getElem_toList];exact this
   ·have:=(g4 j hj (by simpa using hj')).drop (hb _ (List.getElem_mem hj));rw[List.take_length] at this;rw[Array.getElem_toList];exact this
  refine Rep.sl_mk hcap ?_ (hrc.keep kp) (fun j hj=>?_) trivial
  ·show 0+vs.length≤if L'.phi H.length=L'.phi H.length then vs.length else _
   rw[if_pos rfl];omega
  ·rw[cell_row g1];simp
 ·exact⟨e1.n,e1.phi,e1.tok,e1.t,fun b=>Nat.le_trans (e1.m b) (kp.m b),e1.com,e1.size,e1.frame,e1.wr,e1.os,e1.tape,e1.output,e1.drawn,e1.dr⟩
theorem Con.own (h:Con L H T w)(u:Nat){z:Nat}(hz:0<z):Con (L.withTok T.length ⟨0,0,0⟩) H (T++[(u,z)]) w:=
 h.addTok ⟨0,0,0⟩ u z (fun h=>by simp at h) ⟨hz,fun h=>by simp[Lay.withTok] at h⟩
theorem Ev.own (u z:Nat):Ev H.length T.length L H.length T w (L.withTok T.length ⟨0,0,0⟩) H.length (T++[(u,z)]) w:=
 (Ev.refl (Nat.le_refl _) (Nat.le_refl _)).addTok (fun h=>by simp at h)
theorem Rep.own {n:Nat}{cs:List AV}{c:Value}{z:Nat}(h:Rep L H.length T w (.sl n cs .full) c):Rep (L.withTok T.length ⟨0,0,0⟩) H.length (T++[(cs.length,z)]) w (.sl n cs (.own T.length)) c:=by
 have hk:=(h.untag).keep (Ev.own (H:=H) (T:=T) (L:=L) (w:=w) cs.length z).keeps;obtain⟨a,cap,rfl,hcap,ht,_⟩:=h.sl_inv;have tok:∀a',tagOk (L.withTok T.length ⟨0,0,0⟩) (T++[(cs.length,z)]) (.own T.length) n cs.length a' cap:=fun a'=>⟨cs.length,z,by simp,Nat.le_refl _,fun _=>.inl ht⟩
 simp only[Am.untag] at hk;obtain⟨a',cap',e1,hc',_,hx'⟩:=hk.sl_inv
 cases e1
 rcases hx' with⟨e2,e3⟩|⟨b,base,cv,e2,g1,g2,g3⟩
 ·subst e2;subst e3;exact .sl0 _ _ _ (tok _)
 ·subst e2;exact Rep.sl_mk hc' g1 g2 g3 (tok _)
theorem ACall.untag1 {a:AV}{as:List AV}{Q:AV→List Blk→Toks→Prop}(h:ACall P f (untag a::as) H T Q):ACall P f (a::as) H T Q:=by
 refine⟨h.1,fun L w ca hc hl hr=>h.2 L w ca hc hl (fun j hj hj'=>?_)⟩
 cases j with
 |zero=>exact(hr 0 (by simp) hj').untag
 |succ j=>exact hr (j+1) hj hj'
theorem ACall.untag2 {a b:AV}{as:List AV}{Q:AV→List Blk→Toks→Prop}(h:ACall P f (a::untag b::as) H T Q):ACall P f (a::b::as) H T Q:=by
 refine⟨h.1,fun L w ca hc hl hr=>h.2 L w ca hc hl (fun j hj hj'=>?_)⟩
 match j,hj with
 |0,_=>exact hr 0 (by simp) hj'
 |1,_=>exact(hr 1 (by simp) hj').untag
 |j+2,hj=>exact hr (j+2) hj hj'
theorem aw_own {C:Cx}{c:Code}{Q:Exit→St→Prop}{s:St}(t:Nat)(n z:Nat)(cs:List AV)(hz:0<z)(ht:eget s.e t=.sl n cs .full)(h:AW C c Q ⟨eput s.e t (.sl n cs (.own s.T.length)),s.H,s.T++[(cs.length,z)]⟩):AW C c Q s:=by
 intro L w a hc;have ev:=Ev.own (H:=s.H) (T:=s.T) (L:=L) (w:=w) cs.length z;refine wp_mono (h (L.withTok s.T.length ⟨0,0,0⟩) w a ⟨hc.nb,by simp;have:=hc.tb;omega,hc.con.own _ hz,hc.size,hc.defers,fun t'=>?_⟩) fun _ _ _ k=>Post.step (s1:=⟨eput s.e t (.sl n cs (.own s.T.length)),s.H,s.T++[(cs.length,z)]⟩) (ev.mono hc.nb hc.tb) k
 by_cases h1:t=t'
 ·subst h1;rw[eget_eput_same];have:=hc.env t;rw[ht] at this;exact this.own
 ·rw[eget_eput_other _ _ _ _ h1];exact(hc.env t').keep ev.keeps
theorem ACall.is {r r':AV}{H' H'':List Blk}{T' T'':Toks}(h:ACall P f args H T (Is r H' T'))(h1:r=r')(h2:H'=H'')(h3:T'=T''):ACall P f args H T (Is r' H'' T''):=by subst h1;subst h2;subst h3;exact h
end
theorem Below.more {n n' t t':Nat}{v:AV}(h:Below n t v)(hn:n≤n')(ht:t≤t'):Below n' t' v:=by
 induction h with
 |top=>exact .top
 |bool b=>exact .bool b
 |int k x=>exact .int k x
 |str s=>exact .str s
 |nilp=>exact .nilp
 |ptr i o h=>exact .ptr i o (Nat.lt_of_lt_of_le h hn)
 |vptr cs o h ih=>exact .vptr cs o ih
 |sl m cs tg h hx ih=>exact .sl m cs tg ih (fun x e=>Nat.lt_of_lt_of_le (hx x e) ht)
 |msl i o m h=>exact .msl i o m (Nat.lt_of_lt_of_le h hn)
 |csl i m cap h=>exact .csl i m cap (Nat.lt_of_lt_of_le h hn)
 |mref i h=>exact .mref i (Nat.lt_of_lt_of_le h hn)
 |fn f a b h1 h2 ih1 ih2=>exact .fn f a b ih1 ih2
 |nilf=>exact .nilf
 |nili=>exact .nili
 |ifc=>exact .ifc
 |agg cs h ih=>exact .agg cs ih
 |tup cs h ih=>exact .tup cs ih
theorem HOk.snocB {H:List Blk}{T:Toks}{b:Blk}(h:HOk H T)(hv:BelowAll (H.length+1) T.length b.vals):HOk (H++[b]) T:=by
 intro i us hi v hm;rw[List.length_append,List.length_singleton];rcases Nat.lt_or_ge i H.length with hlt|hge
 ·rw[List.getElem?_append_left hlt] at hi;exact(h i us hi v hm).more (by omega) (Nat.le_refl _)
 ·have:i=H.length:=by have:=(List.getElem?_eq_some_iff.1 hi).1;simp at this;omega
  subst this;simp at hi;subst hi;exact hv v hm
theorem HOk.snoc {H:List Blk}{T:Toks}{vs:List AV}(h:HOk H T)(hv:BelowAll (H.length+1) T.length vs):HOk (H++[.cells vs]) T:=h.snocB hv
theorem HOk.snocMit {H:List Blk}{T:Toks}{m n:Nat}{seen:List Nat}(h:HOk H T):HOk (H++[.mit m n seen]) T:=h.snocB (fun v hm=>by simp at hm)
theorem HOk.toks {H:List Blk}{T T':Toks}(h:HOk H T)(ht:T.length≤T'.length):HOk H T':=fun i us hi v hm=>(h i us hi v hm).more (Nat.le_refl _) ht
theorem HOk.setB {H:List Blk}{T:Toks}{b:Blk}{k:Nat}(h:HOk H T)(hv:BelowAll H.length T.length b.vals):HOk (H.set k b) T:=by
 intro i us hi v hm;rw[List.length_set]
 by_cases hk:k=i
 ·subst hk;have hl:=(List.getElem?_eq_some_iff.1 hi).1;rw[List.length_set] at hl;rw[List.getElem?_set_self hl] at hi
  injection hi with hi
  subst hi;exact hv v hm
 ·rw[List.getElem?_set_ne hk] at hi;exact h i us hi v hm
theorem HOk.set {H:List Blk}{T:Toks}{vs:List AV}{k:Nat}(h:HOk H T)(hv:BelowAll H.length T.length vs):HOk (H.set k (.cells vs)) T:=h.setB hv
theorem HOk.setMap {H:List Blk}{T:Toks}{es:List (MKey×AV)}{k:Nat}(h:HOk H T)(hv:BelowAll H.length T.length (es.map (·.2))):HOk (H.set k (.map es)) T:=h.setB hv
theorem HOk.setMit {H:List Blk}{T:Toks}{m n:Nat}{seen:List Nat}{k:Nat}(h:HOk H T):HOk (H.set k (.mit m n seen)) T:=h.setB (fun v hm=>by simp at hm)
theorem weak_to {C:Cx}{e e':Env}{H H':List Blk}{T T':Toks}(rH:List Blk)(rT:Toks)(hH:H=H'++rH)(hT:T=T'++rT)(hn:C.nb≤H'.length)(ht:C.tb≤T'.length)(ho:HOk H' T')(he:envLe H'.length T'.length e e') :
  Weak C ⟨e,H,T⟩ ⟨e',H',T'⟩:=⟨hn,ht,⟨rH,hH⟩,⟨rT,hT⟩,ho,envLe_get he⟩
section
variable {α : Type} (H l : List α) (k : Nat) (x : α)
@[simp] theorem new_at:(H++l)[H.length+k]?=l[k]?:=by rw[List.getElem?_append_right (by omega)];congr 1;omega
@[simp] theorem new_at0:(H++l)[H.length]?=l[0]?:=new_at H l 0
end
theorem dcall_is {D:DCx}{next:List DRec→List Stg→Env→Prop}{o:Oper}{recs:List DRec}{sts:List Stg}{e:Env}{g:FuncId}{as:List AV}{H:List Blk}{T:Toks}{v:AV}
  (h:ACall D.C.P g as H T (Is v H T)) (hn:D.eff.contains recs.length=false) (k:dgo D next o recs sts e true v H T):dcall D next o recs sts e g as H T:=⟨v,H,T,h,fun _=>⟨rfl,rfl⟩,k⟩
theorem dcall_eff {D:DCx}{next:List DRec→List Stg→Env→Prop}{o:Oper}{recs:List DRec}{sts:List Stg}{e:Env}{g:FuncId}{as:List AV}{H H':List Blk}{T T':Toks}{v:AV}
  (h:ACall D.C.P g as H T (Is v H' T')) (hn:D.eff.contains recs.length=true) (k:dgo D next o recs sts e true v H' T'):dcall D next o recs sts e g as H T:=⟨v,H',T',h,fun hc=>absurd (hn.symm.trans hc) (by decide),k⟩
@[simp] theorem adraw_nil {D:DCx} {recs:List DRec} {sts:List Stg} {e:Env}:adraw D [] recs sts e=(match sts.getLast? with
  |some (H,T,_)=>D.K ⟨e,H,T⟩
  |none=>False):=rfl
@[simp] theorem adraw_cons {D:DCx} {o:Oper} {r:List Oper} {recs:List DRec} {sts:List Stg} {e:Env}:adraw D (o::r) recs sts e=(match sts.getLast? with
  |some (H,T,_)=>match o.guard with
   |none=>dexec D (adraw D r) o recs sts e H T
   |some (j,want)=>match gval D.all j e with
    |some b=>if b=some want then dexec D (adraw D r) o recs sts e H T else dgo D (adraw D r) o recs sts e false (.tup []) H T
    |none=>False
  |none=>False):=rfl
attribute [simp] dexec dgo putE exAt naOb aexec
@[simp] theorem toNat_add_pos {a b:Int} (h1:0≤a) (h2:0≤b):(a+b).toNat=a.toNat+b.toNat:=by omega
attribute [simp] List.getD_cons_zero List.getD_cons_succ List.getD_nil
attribute [simp] if_pos if_neg List.getElem?_cons_zero List.getElem?_cons_succ List.getElem?_nil
@[simp] theorem fdiv_pos {a b:Int} (h:0≤b):a.fdiv b=a / b:=Int.fdiv_eq_ediv_of_nonneg a h
@[simp] theorem bits_u64:IntKind.u64.bits=64:=rfl
@[simp] theorem bits_u8:IntKind.u8.bits=8:=rfl
@[simp] theorem bits_i64:IntKind.i64.bits=64:=rfl
@[simp] theorem signed_u64:IntKind.u64.signed=false:=rfl
@[simp] theorem signed_i64:IntKind.i64.signed=true:=rfl
@[simp] theorem max_u64:IntKind.u64.max=18446744073709551615:=rfl
end Go.Am
