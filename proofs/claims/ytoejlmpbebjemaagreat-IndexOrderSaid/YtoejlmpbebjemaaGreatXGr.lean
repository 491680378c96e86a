/- Lists of rows that grow in a box.
  Conditions: none. -/
import Derived.Test.YtoejlmpbebjemaaGreatGBA
set_option linter.all false
set_option maxRecDepth 100000
namespace Go.Proofs.YtoejlmpbebjemaaGreat
open Go Go.Am ia cO eN
section
variable {α : Type} {f : α -> List AV} {k : Nat} {H J : List aA} {T : au} {d : List α} {out : AV}
def aeW (f:α->List AV)(k h:Nat)(d:List α)(out:AV)(J:List aA):Prop:=
 (d=[]/\out=.sl 0 [] .full)\/∃b cap,out=.bJ b d.length cap/\h<=b/\d.length<=cap/\J[b]?=some (.cells (d.flatMap f++List.replicate ((cap-d.length)*k) AV.top))
structure GR (f:α->List AV)(k:Nat)(H:List aA)(T:au)(d:List α)(J:List aA)(out:AV):Prop where
 o:aeW f k H.length d out J
 pre:gG H J
 ok:bN J T
def GR.nil (ho:bN H T):GR f k H T [] H (.sl 0 [] .full):=⟨.inl ⟨rfl,rfl⟩,⟨[],by simp⟩,ho⟩
def GR.more (h:GR f k H T d J out)(b:aA)(ho:bN (J++[b]) T):GR f k H T d (J++[b]) out:=by
 refine⟨?_,h.pre.app _,ho⟩;rcases h.o with h1|⟨i,cap,h1,h2,h3,h4⟩
 ·exact .inl h1
 ·exact .inr ⟨i,cap,h1,h2,h3,by rw[agK (agC.1 h4).1];exact h4⟩
def GR.below (h:GR f k H T d J out):Below J.length T.length out:=by
 rcases h.o with⟨_,rfl⟩|⟨i,cap,rfl,h2,h3,h4⟩
 ·simp
 ·exact AE.2 (agC.1 h4).1
def r8 {n t m:Nat}(hf:∀x,aM n t (f x)):aM n t (d.flatMap f++List.replicate m AV.top):=λv hv=>by
 rcases agR.1 hv with h|h
 ·obtain⟨x,_,h⟩:=ahm.1 h;exact hf x v h
 ·rw[(List.mem_replicate.1 h).2];exact .top
def GR.first (hf:∀n t x,aM n t (f x))(h:GR f k H T [] J (.sl 0 [] .full))(ws:List α)(nc:Nat)(hn:ws.length<=nc):GR f k H T ws (J++[.cells (ws.flatMap f++List.replicate ((nc-ws.length)*k) AV.top)]) (.bJ J.length ws.length nc):=
 ⟨.inr ⟨J.length,nc,rfl,h.pre.le,hn,by simp⟩,h.pre.app _,h.ok.snoc (r8 (hf _ _))⟩
def GR.put (hk:ep f k)(hf:∀n t x,aM n t (f x)){b cap:Nat}(hb:J[b]?=some (.cells (d.flatMap f++List.replicate ((cap-d.length)*k) AV.top)))(hi:H.length<=b)(h3:gG H J)(h4:bN J T)(ws:List α)(hle:d.length+ws.length<=cap) :
  GR f k H T (d++ws) (J.set b (.cells ((d.flatMap f++List.replicate ((cap-d.length)*k) AV.top).take (d.length*k)++ws.flatMap f++(d.flatMap f++List.replicate ((cap-d.length)*k) AV.top).drop ((d.length+ws.length)*k)))) (.bJ b (d.length+ws.length) cap):=by
 have hl:(d.flatMap f).length=d.length*k:=bY hk d;have e1:(d.flatMap f++List.replicate ((cap-d.length)*k) AV.top).take (d.length*k)=d.flatMap f:=ahD hl;have e2:(d.flatMap f++List.replicate ((cap-d.length)*k) AV.top).drop ((d.length+ws.length)*k)=List.replicate ((cap-(d.length+ws.length))*k) AV.top:=by
  rw[ahU,<-List.drop_drop,List.drop_left' hl,List.drop_replicate,<-Nat.sub_mul]
  congr 2;omega
 rw[e1,e2,<-List.flatMap_append];refine⟨.inr ⟨b,cap,by rw[agF],hi,by rw[agF];exact hle,?_⟩,h3.set hi _,h4.set (r8 (hf _ _))⟩;rw[ag4 (agC.1 hb).1,agF]
def GR.grow (hk:ep f k)(hf:∀n t x,aM n t (f x)){b cap nc:Nat}(hb:J[b]?=some (.cells (d.flatMap f++List.replicate ((cap-d.length)*k) AV.top)))(h3:gG H J)(h4:bN J T)(ws:List α)(hn:d.length+ws.length<=nc) :
  GR f k H T (d++ws) (J++[.cells ((d.flatMap f++List.replicate ((cap-d.length)*k) AV.top).take (d.length*k)++ws.flatMap f++List.replicate ((nc-(d.length+ws.length))*k) AV.top)]) (.bJ J.length (d.length+ws.length) nc):=by
 have e1:(d.flatMap f++List.replicate ((cap-d.length)*k) AV.top).take (d.length*k)=d.flatMap f:=ahD (bY hk d);rw[e1,<-List.flatMap_append];exact⟨.inr ⟨J.length,nc,by rw[agF],h3.le,by rw[agF];exact hn,by rw[agX (agE _),ah1,agF];rfl⟩,h3.app _,h4.snoc (r8 (hf _ _))⟩
end
end Go.Proofs.YtoejlmpbebjemaaGreat
