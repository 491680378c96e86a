/- The encoding of integers, as a function on lists of bytes.
  Conditions: none. -/
set_option linter.all false
namespace gB
def fo (n:Int):Nat:=if n<0 then (-(2*n)-1).toNat else (2*n).toNat
def oK (u:Nat):Int:=if u % 2=1 then -((u / 2:Nat):Int)-1 else ((u / 2:Nat):Int)
def HC (u:Nat):UInt8:=UInt8.ofNat (u % 128)
def HW (u:Nat):UInt8:=UInt8.ofNat (u % 128+128)
def lA (u:Nat):List UInt8:=if h:u=0 then [] else lA (u / 128)++[HW u]
termination_by u
decreasing_by omega
def pg (u:Nat):List UInt8:=lA (u / 128)++[HC u]
def enc (n:Int):List UInt8:=pg (fo n)
theorem DY {n:Int}(h1:-9223372036854775808≤n)(h2:n≤9223372036854775807):fo n<18446744073709551616:=by
 unfold fo;split<;>omega
theorem iw:lA 0=[]:=by unfold lA;simp
theorem lQ {u:Nat}(h:0<u):lA u=lA (u / 128)++[HW u]:=by
 rw[lA,dif_neg (by omega)]
theorem Hc : ∀ (k u : Nat), u < 128 ^ k → (lA u).length ≤ k := by
  intro k
  induction k with
  | zero => intro u h; have : u = 0 := by simp at h; exact h
            subst this; rw [iw]; simp
  | succ k ih =>
    intro u h
    rcases Nat.eq_zero_or_pos u with h0 | h0
    · subst h0; rw [iw]; simp
    · rw [lQ h0]
      have : u / 128 < 128 ^ k := by
        rw [Nat.div_lt_iff_lt_mul (by omega)]; rw [Nat.pow_succ] at h; exact h
      have := ih _ this;simp; omega
theorem Ai {u:Nat}(h:u<18446744073709551616):1≤(pg u).length∧(pg u).length≤10:=by
 unfold pg;have:=Hc 9 (u / 128) (by omega);simp;omega
theorem eN {n:Int}(h1:-9223372036854775808≤n)(h2:n≤9223372036854775807):1≤(enc n).length∧(enc n).length≤10:=Ai (DY h1 h2)
def o3 (n:Int):Prop:=-9223372036854775808≤n∧n≤9223372036854775807
def bf (s:List UInt8):List UInt8:=enc s.length++s
def cM (l:List Int):List UInt8:=enc l.length++l.flatMap enc
theorem CL {α:Type}(l:List α)(k:Nat)(d:α)(h:k<l.length):l.take (k+1)=l.take k++[l.getD k d]:=by
 rw[List.take_succ_eq_append_getElem h];simp[h]
theorem ff {α:Type}(l:List α)(k:Nat)(d:α)(f:α→List UInt8)(h:k<l.length):(l.take (k+1)).flatMap f=(l.take k).flatMap f++f (l.getD k d):=by
 rw[CL l k d h];simp
theorem nX {α:Type}(l:List α)(f:α→List UInt8)(m:Nat)(h:∀x∈l,(f x).length≤m):(l.flatMap f).length≤m*l.length:=by
 induction l with
 |nil=>simp
 |cons x r ih=>
  have h1:=h x (by simp);have h2:=ih (fun y hy=>h y (by simp[hy]));simp only[List.flatMap_cons,List.length_append,List.length_cons,Nat.mul_add,Nat.mul_one];omega
theorem aR {α:Type}(l:List α)(k:Nat)(d:α)(h:k<l.length):l.getD k d∈l:=by
 rw[List.getD_eq_getElem?_getD,List.getElem?_eq_getElem h];exact List.getElem_mem h
def acc {α:Type}(b:List UInt8)(l:List α)(f:α→List UInt8)(k:Nat):List UInt8:=b++enc l.length++(l.take k).flatMap f
theorem qF {α:Type}(b:List UInt8)(l:List α)(f:α→List UInt8):acc b l f 0=b++enc l.length:=by simp[acc]
theorem yg {α:Type}(b:List UInt8)(l:List α)(f:α→List UInt8):acc b l f l.length=b++(enc l.length++l.flatMap f):=by simp[acc]
theorem AN {α:Type}(b:List UInt8)(l:List α)(f:α→List UInt8)(k:Nat)(d:α)(h:k<l.length):acc b l f k++f (l.getD k d)=acc b l f (k+1):=by
 simp only[acc,ff l k d f h,List.append_assoc]
theorem EO {α:Type}(b:List UInt8)(l:List α)(f:α→List UInt8)(m k:Nat)(hl:l.length<9223372036854775808)(h:∀x∈l,(f x).length≤m):(acc b l f k).length≤b.length+10+m*l.length:=by
 have h1:=nX (l.take k) f m (fun x hx=>h x (List.mem_of_mem_take hx));have h2:=(eN (n:=l.length) (by omega) (by omega)).2;have h3:m*(l.take k).length≤m*l.length:=Nat.mul_le_mul_left _ (by simp;omega);rw[acc,List.length_append,List.length_append];omega
end gB
