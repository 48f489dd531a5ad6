/-
 My texts Math, DivMath, Lehmer, Prime, Rp put together.
-/
set_option maxRecDepth 100000
set_option maxHeartbeats 8000000
namespace Go.Proofs.YtoanifijmlgcgaaGreatDoor
abbrev uA:=@List.length_append
abbrev uB:=@List.take_of_length_le
abbrev uC:=@Nat.mul_le_mul_right
abbrev uD:=@Nat.le_trans
abbrev uE:=@of_decide_eq_false
abbrev uF:=@of_decide_eq_true
abbrev uG:=@Nat.mul_comm
abbrev uH:=@decide_eq_false
abbrev uI:=@decide_eq_true
abbrev uJ:=@Nat.eq_zero_or_pos
abbrev uK:=@Nat.mul_le_mul_left
abbrev uL:=@List.length_take
abbrev uM:=@Nat.zero_le
abbrev uN:=@Nat.lt_of_le_of_lt
abbrev uO:=@List.append_assoc
abbrev uP:=@Nat.mod_lt
abbrev uQ:=@Nat.mul_assoc
abbrev uR:=@Nat.le_refl
abbrev uS:=@Nat.mul_add
abbrev uT:=@Nat.add_mul
abbrev uU:=@Nat.pow_pos
abbrev uV:=@Option.map_eq_some_iff
abbrev uW:=@Nat.pow_succ
abbrev uX:=@Nat.lt_of_lt_of_le
abbrev uY:=@Nat.min_eq_left
abbrev uZ:=@Nat.lt_or_ge
abbrev vA:=@decide_eq_false_iff_not
abbrev vC:=@List.all_eq_true
abbrev vE:=@List.take_succ_eq_append_getElem
abbrev vF:=@decide_eq_true_eq
abbrev vG:=@Bool.and_eq_true
abbrev vH:=@List.mem_singleton
abbrev vI:=@Nat.mod_eq_of_lt
abbrev vJ:=@List.length_drop
abbrev vK:=@Nat.le_of_ble_eq_true
abbrev vL:=@List.mem_append
abbrev vM:=@List.length_cons
abbrev vN:=@List.drop_of_length_le
abbrev vO:=@Nat.zero_add
abbrev vP:=@if_neg
abbrev vR:=@Nat.add_comm
abbrev vS:=@Nat.pow_le_pow_right
abbrev vT:=@Int.natAbs_natCast
abbrev vU:=@Nat.div_le_self
abbrev vV:=@Nat.pow_add
abbrev vX:=@Nat.div_lt_iff_lt_mul
abbrev vY:=@Int.natCast_ediv
abbrev vZ:=@List.length_eq_zero_iff
abbrev tA:=@if_pos
abbrev tB:=@List.mem_cons_self
abbrev tC:=@congrArg
abbrev tD:=@List.mem_cons_of_mem
abbrev tE:=@Nat.mul_lt_mul_of_pos_right
abbrev tF:=@Int.tdiv_eq_ediv_of_nonneg
abbrev tG:=@Nat.div_add_mod
abbrev tH:=@List.drop_drop
abbrev tI:=@List.flatMap_append
abbrev tJ:=@Int.tmod_eq_emod_of_nonneg
abbrev tK:=@Nat.add_zero
abbrev tL:=@Nat.shiftLeft_add_eq_or_of_lt
abbrev tM:=@List.drop_eq_getElem_cons
abbrev tN:=@Int.natCast_pow
abbrev tO:=@Nat.div_eq_of_lt
abbrev tP:=@List.append_nil
abbrev tQ:=@Bool.and_false
abbrev tR:=@Nat.add_assoc
abbrev tS:=@Option.isSome_iff_exists
abbrev tT:=@List.take_append_drop
abbrev tU:=@List.drop_set_of_lt
abbrev tV:=@Nat.gcd_comm
abbrev tW:=@Int.natCast_mul
abbrev tX:=@List.mem_cons
abbrev tY:=@List.getElem_mem
abbrev tZ:=@Array.toList_append
abbrev sB:=@Nat.mul_left_comm
abbrev sC:=@Option.some.injEq
abbrev sD:=@List.mem_of_mem_take
abbrev sE:=@Nat.mul_le_mul
abbrev sF:=@Nat.div_lt_of_lt_mul
abbrev sG:=@Nat.mod_add_div
abbrev sH:=@Option.map_some
abbrev sI:=@Nat.shiftLeft_eq
abbrev sJ:=@List.eq_nil_of_length_eq_zero
abbrev sK:=@List.flatMap_cons
abbrev sL:=@List.drop_zero
abbrev sM:=@Nat.mul_add_div
abbrev sN:=@Option.some.inj
abbrev sO:=@List.length_nil
abbrev sP:=@List.mem_of_mem_drop
abbrev sQ:=@Nat.mul_div_cancel_left
abbrev sR:=@List.pairwise_append
abbrev sS:=@Nat.mul_zero
abbrev sU:=@Nat.zero_mul
abbrev sV:=@Nat.lt_of_mul_lt_mul_right
abbrev sW:=@Nat.lt_of_mul_lt_mul_left
abbrev sX:=@Nat.mul_mod_mul_right
abbrev sY:=@Nat.add_sub_cancel
abbrev sZ:=@List.all_cons
abbrev rA:=@List.mem_range
abbrev rB:=@Int.natCast_add
abbrev rC:=@Nat.div_div_eq_div_mul
abbrev rD:=@Nat.gcd_zero_right
abbrev rE:=@Rat.num_divInt_den
abbrev rF:=@Int.natAbs_mul
abbrev rG:=@Bool.or_eq_true
abbrev rH:=@List.mem_map
abbrev rI:=@List.mem_append_left
abbrev rJ:=@List.Sublist.append_left
abbrev rK:=@List.takeWhile_append_dropWhile
abbrev rL:=@List.length_pos_iff
abbrev rM:=@Nat.pow_le_pow_left
abbrev rN:=@List.mem_of_getElem
abbrev rO:=@List.getElem_of_mem
abbrev rP:=@Int.eq_ofNat_of_zero_le
abbrev rQ:=@Nat.mul_pos
abbrev rR:=@Nat.lt_trans
abbrev rS:=@List.getElem_replicate
abbrev rT:=@List.sublist_cons_self
abbrev rU:=@Nat.pos_of_ne_zero
abbrev rV:=@Nat.mul_add_mod
abbrev rW:=@List.length_map
abbrev rX:=@Int.mul_ne_zero
abbrev rY:=@Classical.choose_spec
abbrev rZ:=@List.set_append_right
abbrev qA:=@List.take_zero
abbrev qB:=@List.getElem_toArray
abbrev qC:=@Option.getD_some
abbrev qD:=@Nat.sub_self
abbrev qE:=@Nat.gcd_le_right
abbrev qF:=@List.flatMap_nil
abbrev qG:=@List.map_append
abbrev qH:=@Nat.lt_or_gt_of_ne
abbrev qI:=@UInt8.toNat_ofNat'
abbrev qJ:=@Nat.gcd_rec
abbrev qK:=@List.pairwise_singleton
abbrev qL:=@List.length_eq_one_iff
abbrev qM:=@Bool.false_and
abbrev qN:=@ByteArray.size_extract
abbrev qO:=@List.size_toArray
abbrev qP:=@List.drop_eq_nil_of_le
abbrev qQ:=@Nat.dvd_of_mod_eq_zero
abbrev qR:=@Nat.mul_div_mul_right
abbrev qS:=@List.length_singleton
abbrev qT:=@List.take_length
abbrev qU:=@Nat.le_of_dvd
abbrev qV:=@Bool.eq_iff_iff
abbrev qW:=@List.nil_append
abbrev qX:=@Nat.le_of_lt
def val (B:Nat):List Nat→Nat
 | []=>0
 | x :: xs=>x+B*val B xs
def Dig (B:Nat) (xs:List Nat):Prop:=∀ x∈xs,x<B
def Trim (xs:List Nat):Prop:=∀ k,xs.length=k+1→(xs[k]?.getD 0)≠0
variable {B:Nat} {xs ys:List Nat}
@[simp] theorem eM:val B []=0:=rfl
@[simp] theorem gH (x:Nat):val B (x :: xs)=x+B*val B xs:=rfl
theorem kL:val B (xs ++ ys)=val B xs+B^xs.length*val B ys:=by
 induction xs with
 | nil=>simp
 | cons x xs ih=>simp[ih,uW,uS,tR];rw[←uQ,uG B]
theorem Dig.nil:Dig B []:=fun _ h=>by cases h
theorem Dig.cons {x:Nat}(h:x<B)(b:Dig B xs):Dig B (x :: xs):=fun y a=>by
 rcases tX.1 a with rfl|a
 ·exact h
 exact b y a
theorem Dig.head {x:Nat}(h:Dig B (x :: xs)):x<B:=h x (by simp)
theorem Dig.tail {x:Nat}(h:Dig B (x :: xs)):Dig B xs:=fun y a=>h y (by simp[a])
theorem Dig.append (h:Dig B xs)(k:Dig B ys):Dig B (xs ++ ys):=fun y a=>by
 rcases vL.1 a with a|a
 ·exact h y a
 exact k y a
theorem Dig.take (h:Dig B xs)(k:Nat):Dig B (xs.take k):=fun y a=>h y (sD a)
theorem Dig.drop (h:Dig B xs)(k:Nat):Dig B (xs.drop k):=fun y a=>h y (sP a)
theorem Dig.getD (h:Dig B xs)(b:0<B)(k:Nat):(xs[k]?.getD 0)<B:=by
 rcases uZ k xs.length with a|a
 ·rw[List.getElem?_eq_getElem a];exact h _ (tY a)
 rw[List.getElem?_eq_none a];exact b
theorem Dig.set (h:Dig B xs)(k:Nat){v:Nat}(b:v<B):Dig B (xs.set k v):=fun y a=>by
 rcases List.mem_or_eq_of_mem_set a with a|a
 ·exact h y a
 exact a ▸ b
theorem Dig.replicate (a:0<B)(n:Nat):Dig B (List.replicate n 0):=fun y b=>by
 rw[(List.mem_replicate.1 b).2];exact a
theorem wH (h:Dig B xs):val B xs<B^xs.length:=by
 induction xs with
 | nil=>simp
 | cons x xs ih =>
  have c:=h.head
  have a:=ih h.tail
  have b:B*(val B xs+1)≤B*B^xs.length:=uK B a
  rw[gH,vM,uW,uG (B^_)]
  rw[uS] at b
  omega
theorem jF (n:Nat):val B (List.replicate n 0)=0:=by
 induction n with
 | zero=>rfl
 | succ n ih=>simp[List.replicate_succ,ih]
theorem zT (k:Nat)(h:k<xs.length):val B (xs.take (k+1))=val B (xs.take k)+B^k*(xs[k]?.getD 0):=by
 rw[vE h,kL]
 have:(xs.take k).length=k:=by simp;omega
 rw[this]
 simp[List.getElem?_eq_getElem h]
theorem xQ (k:Nat):val B xs=val B (xs.take k)+B^(min k xs.length)*val B (xs.drop k):=by
 conv=>lhs;rw[←tT k xs,kL]
 simp
theorem Zbc (P B V X Y x y c d a:Nat)(f:V+P*c=X+Y)(b:d+B*a=x+y+c):V+P*d+P*B*a=X+P*x+(Y+P*y):=by
 have e:=tC (P * ·) b
 simp only[uS] at e
 rw[uQ]
 omega
theorem Zgm (P B V X Y x y b d b':Nat)(e:V+Y=X+P*b)(a:d+y+b=x+B*b'):V+P*d+(Y+P*y)=X+P*x+P*B*b':=by
 have c:=tC (P * ·) a
 simp only[uS] at c
 rw[uQ]
 omega
theorem Zfn (P B V Z X w z x c d c':Nat)(e:V+X*w=Z+P*c)(a:d+x*w+c=z+B*c'):V+P*d+(X+P*x)*w=Z+P*z+P*B*c':=by
 have b:=tC (P * ·) a
 simp only[uS] at b
 rw[uQ,uT,uQ]
 omega
theorem Zdi (B V Q w r x q r':Nat)(a:V=Q*w+r)(b:r*B+x=q*w+r'):x+B*V=(q+B*Q)*w+r':=by
 subst a
 rw[uS,uT,uQ]
 have:B*r=r*B:=uG _ _
 omega
theorem ZjC (v2 b c e R a:Nat)(B:Nat)(f:b<R)(h:a<B)(g:B*R≤v2*R)(d:a*v2≤c) :
 a*(v2*R+b)≤(c*R+e)+(v2*R+b):=by
 have i:a*v2*R≤c*R:=uC R d
 have j:a*b≤B*R:=sE (by omega) (by omega)
 rw[uS,← uQ]
 omega
theorem ZbS (v2 e a d R b:Nat)(f:d<R)(c:a<(b+1)*v2):a*R+d<(b+1)*(v2*R+e):=by
 have g:(a+1)*R≤(b+1)*v2*R:=uC R c
 rw[uS,← uQ]
 rw[uT a,Nat.one_mul] at g
 omega
theorem xR (k:Nat)(h:k<xs.length):val B (xs.drop k)=(xs[k]?.getD 0)+B*val B (xs.drop (k+1)):=by
 rw[tM h,gH,List.getElem?_eq_getElem h];rfl
theorem gY (a:Dig B xs)(g:xs.length=ys.length)(k:Nat)(b:k<xs.length)(c:xs.drop (k+1)=ys.drop (k+1))(d:(xs[k]?.getD 0)<(ys[k]?.getD 0)):val B xs<val B ys:=by
 rw[xQ (xs:=xs) k,xQ (xs:=ys) k,xR k b,xR k (by omega),c,uY (by omega),uY (by omega)]
 have e:=wH (a.take k)
 rw[uL,uY (by omega)] at e
 have f:B^k*((xs[k]?.getD 0)+1)≤B^k*(ys[k]?.getD 0):=uK _ d
 rw[uS,uS]
 rw[uS] at f
 omega
theorem ZdP (h:Trim xs){k:Nat}(a:xs.length=k+1):B^k≤val B xs:=by
 rw[xQ (xs:=xs) k,xR k (by omega),vN (by omega:xs.length≤k+1),uY (by omega)]
 have b:B^k*1≤B^k*(xs[k]?.getD 0):=uK _ (by have:=h k a;omega)
 simp only[eM,sS,tK]
 omega
theorem jX (a:0<B)(b:Dig B xs)(c:Trim ys)(e:xs.length<ys.length):val B xs<val B ys:=by
 obtain⟨k,d⟩:∃ k,ys.length=k+1:=⟨ys.length-1,by omega⟩
 have f:=wH b
 have g:=ZdP (B:=B) c d
 have h:B^xs.length≤B^k:=vS a (by omega)
 omega
theorem jY (d:1<B)(b:Trim xs){n:Nat}(h:val B xs<B^n):xs.length≤n:=by
 rcases uZ n xs.length with a|a
 ·obtain⟨k,c⟩:∃ k,xs.length=k+1:=⟨xs.length-1,by omega⟩
  have e:=ZdP (B:=B) b c
  have f:B^n≤B^k:=vS (by omega) (by omega)
  omega
 exact a
theorem Trim.nil:Trim []:=fun k a=>by simp at a
theorem Zbd (h:Trim xs)(b:0<B)(a:xs≠[]):0<val B xs:=by
 obtain⟨k,c⟩:∃ k,xs.length=k+1:=⟨xs.length-1,by have:=rL.2 a;omega⟩
 have d:=ZdP (B:=B) h c
 have:=uU (n:=k) b
 omega
theorem Zf1 (h:Trim xs)(a:0<B)(b:val B xs=0):xs=[]:=by
 rcases xs with _|⟨x,xs⟩
 ·rfl
 have:=Zbd h a (by simp);omega
end Go.Proofs.YtoanifijmlgcgaaGreatDoor
namespace Go.Proofs.YtoanifijmlgcgaaGreatDoor
def jZ (H U v1 v0 u q r:Nat):Prop:=q*v1+r=U∧(U*H+u)/(v1*H+v0)≤q
theorem ZcB {H U v1 v0 u q r:Nat}(a:U<v1*H+v0)(c:u<H)(d:H≤q)(h:jZ H U v1 v0 u q r):jZ H U v1 v0 u (q-1) (r+v1):=by
 obtain⟨b,e⟩:=h
 have f:(U*H+u)/(v1*H+v0)<H:=by
  rw[Nat.div_lt_iff_lt_mul (by omega)]
  have:(U+1)*H≤(v1*H+v0)*H:=Nat.mul_le_mul_right H a
  rw[Nat.add_mul U 1 H,Nat.one_mul] at this
  rw[Nat.mul_comm H]
  omega
 refine⟨?_,by omega⟩
 obtain⟨p,rfl⟩:∃ p,q=p+1:=⟨q-1,by omega⟩
 rw[Nat.add_mul] at b
 simp only[Nat.add_sub_cancel]
 omega
theorem aU {H U v1 v0 u q r:Nat}(b:0<v1*H+v0)(c:H*r+u<q*v0)(h:jZ H U v1 v0 u q r):jZ H U v1 v0 u (q-1) (r+v1):=by
 obtain⟨a,f⟩:=h
 have d:q≠0:=by rintro rfl;omega
 have e:(U*H+u)/(v1*H+v0)<q:=by
  rw[Nat.div_lt_iff_lt_mul b,Nat.mul_add,← Nat.mul_assoc]
  have:U*H=q*v1*H+r*H:=by rw[←a,Nat.add_mul]
  rw[Nat.mul_comm H r] at c
  omega
 refine⟨?_,by omega⟩
 obtain⟨p,rfl⟩:∃ p,q=p+1:=⟨q-1,by omega⟩
 rw[Nat.add_mul] at a
 simp only[Nat.add_sub_cancel]
 omega
theorem dX {H U v1 v0 u q r:Nat}(a:0<v1*H+v0)(b:q*v0≤H*r+u)(h:jZ H U v1 v0 u q r):q=(U*H+u)/(v1*H+v0):=by
 obtain⟨c,d⟩:=h
 refine Nat.le_antisymm ?_ d
 rw[Nat.le_div_iff_mul_le a,Nat.mul_add,← Nat.mul_assoc]
 have:U*H=q*v1*H+r*H:=by rw[←c,Nat.add_mul]
 rw[Nat.mul_comm H r] at b
 omega
theorem jQ {H U v1 v0 u q r:Nat}(c:U<v1*H+v0)(a:v0<H)(b:H≤r)(h:jZ H U v1 v0 u q r):q=(U*H+u)/(v1*H+v0):=by
 refine dX (by omega) ?_ h
 obtain⟨d,e⟩:=h
 have f:q<H:=by
  have:q*v1<H*v1:=by rw[Nat.mul_comm H];omega
  exact Nat.lt_of_mul_lt_mul_right this
 have g:q*v0≤H*H:=Nat.mul_le_mul (by omega) (by omega)
 have i:H*H≤H*r:=Nat.mul_le_mul_left H b
 omega
theorem Zmb {H Y U u1 u0:Nat}(d:0<Y)(j:U<Y)(f:u1<H)(g:u0<H) :
 (U*H+u1)/Y<H∧(U*H+u1)%Y<Y∧((U*H+u1)%Y*H+u0)/Y<H ∧
 (U*(H*H)+u1*H+u0)/Y=(U*H+u1)/Y*H+((U*H+u1)%Y*H+u0)/Y∧(U*(H*H)+u1*H+u0)%Y=((U*H+u1)%Y*H+u0)%Y:=by
 have c:∀ a b:Nat,a<Y→b<H→(a*H+b)/Y<H:=by
  intro a b k l
  rw[Nat.div_lt_iff_lt_mul d]
  have:(a+1)*H≤Y*H:=Nat.mul_le_mul_right H k
  rw[Nat.add_mul a 1 H,Nat.one_mul] at this
  rw[Nat.mul_comm H]
  omega
 have h:(U*H+u1)%Y<Y:=Nat.mod_lt _ d
 have e:=Nat.div_add_mod (U*H+u1) Y
 have i:U*(H*H)+u1*H+u0=Y*((U*H+u1)/Y*H)+((U*H+u1)%Y*H+u0):=by
  have:(U*H+u1)*H=(Y*((U*H+u1)/Y)+(U*H+u1)%Y)*H:=by rw[e]
  rw[Nat.add_mul,Nat.add_mul,Nat.mul_assoc U,Nat.mul_assoc Y] at this
  omega
 refine⟨c _ _ j f,h,c _ _ h g,?_,?_⟩
 ·rw[i,Nat.mul_add_div d]
 rw[i,Nat.mul_add_mod]
theorem ZbV (N y p:Nat)(a:0<p):N*p/(y*p)=N/y∧N*p%(y*p)/p=N%y:=by
 refine⟨Nat.mul_div_mul_right N y a,?_⟩
 rw[Nat.mul_mod_mul_right,Nat.mul_div_cancel _ a]
theorem Zhl (hi lo s:Nat)(f:s≤63) :
 (hi*18446744073709551616+lo)*2^s=(hi*2^s+lo/2^(64-s))*(4294967296*4294967296)+(lo*2^s%18446744073709551616)/4294967296*4294967296+(lo*2^s%18446744073709551616)%4294967296:=by
 have a:(18446744073709551616:Nat)=2^(64-s)*2^s:=by rw[←Nat.pow_add,show 64-s+s=64 by omega]
 have b:lo*2^s=lo/2^(64-s)*18446744073709551616+lo*2^s%18446744073709551616:=by
  have c:=Nat.div_add_mod (lo*2^s) 18446744073709551616
  have d:lo*2^s/18446744073709551616=lo/2^(64-s):=by
   rw[a,Nat.mul_div_mul_right _ _ (Nat.pow_pos (by omega))]
  rw[d,Nat.mul_comm] at c
  omega
 generalize g:lo*2^s%18446744073709551616=T at *
 have h:=Nat.div_add_mod T 4294967296
 have e:(hi*18446744073709551616+lo)*2^s=hi*2^s*18446744073709551616+lo*2^s:=by
  rw[Nat.add_mul,Nat.mul_right_comm]
 rw[e,b]
 generalize hi*2^s=A at *
 generalize lo/2^(64-s)=C at *
 rw[Nat.add_mul]
 omega
end Go.Proofs.YtoanifijmlgcgaaGreatDoor
namespace Go.Proofs.YtoanifijmlgcgaaGreatDoor
def ZcF (a b:Nat) (odd:Bool) (u0 u1 v0 v1:Nat):Prop :=
 v0=0∨∃ r0 r1:Nat,r1<r0∧r0≤b ∧
  (if odd then r0+v0*b=u0*a∧r1+u1*a=v1*b∧u0*v1=u1*v0+1 else r0+u0*a=v0*b∧r1+v1*b=u1*a∧u1*v0=u0*v1+1)
def iB (A B a b:Nat) (odd:Bool) (f s u0 u1 u2 v0 v1 v2:Nat):Prop :=
 (if odd then f+u1*A=v1*B∧s+v2*B=u2*A∧u2*v1=u1*v2+1 else f+v1*B=u1*A∧s+u2*A=v2*B∧u1*v2=u2*v1+1) ∧
 f*v2+s*v1=A∧f*u2+s*u1=B∧u2≤v2∧1≤v2∧s≤f ∧
 ((v1=0∧u1=1∧odd=false∧u2=0∧v2=1)∨(u1≤v1∧1≤v1∧∃ r:Nat,r≤b∧if odd then r+u1*a=v1*b else r+v1*b=u1*a)) ∧
 ZcF a b odd u0 u1 v0 v1
theorem iB.start {A B a b:Nat}(h:B≤A):iB A B a b false A B 0 1 0 0 0 1:=by
 refine⟨by simp,by simp,by simp,by omega,by omega,h,Or.inl ⟨rfl,rfl,rfl,rfl,rfl⟩,Or.inl rfl⟩
theorem Zhu {K A B a' b' f s u1 u2 v1 v2:Nat}(n:a'<K)(d:b'<K)(i:f+v1*B=u1*A)(j:s+u2*A=v2*B)(a:u2≤v2)(k:v2≤s)(b:v1+v2+s≤f)(o:1≤v2) :
 ∃ e g:Nat,g<e∧e+v1*(B*K+b')=u1*(A*K+a')∧g+u2*(A*K+a')=v2*(B*K+b'):=by
 have l:u1*(A*K+a')=f*K+v1*(B*K)+u1*a':=by
  rw[Nat.mul_add,← Nat.mul_assoc,← i,Nat.add_mul,Nat.mul_assoc]
 have m:v2*(B*K+b')=s*K+u2*(A*K)+v2*b':=by
  rw[Nat.mul_add,← Nat.mul_assoc,← j,Nat.add_mul,Nat.mul_assoc]
 have p:v1*b'≤v1*K:=Nat.mul_le_mul_left _ (by omega)
 have q:u2*a'≤v2*K:=Nat.mul_le_mul a (by omega)
 have h:(v1+v2)*b'+(v1+v2)≤(v1+v2)*K:=by
  have:(v1+v2)*(b'+1)≤(v1+v2)*K:=Nat.mul_le_mul_left _ d
  rw[Nat.mul_add] at this;omega
 have r:v2*K≤s*K:=Nat.mul_le_mul_right _ k
 have c:(v1+v2+s)*K≤f*K:=Nat.mul_le_mul_right _ b
 rw[Nat.add_mul (v1+v2)] at c
 rw[Nat.add_mul v1 v2 b'] at h
 refine⟨f*K+u1*a'-v1*b',s*K+v2*b'-u2*a',?_,?_,?_⟩
 ·have:=Nat.mul_le_mul_left v1 (Nat.le_of_lt d)
  rw[Nat.add_mul] at c h
  omega
 ·rw[l,Nat.mul_add]
  rw[Nat.add_mul] at c
  omega
 rw[m,Nat.mul_add]
 omega
theorem ZiZ {K A B a' b' f s u1 u2 v1 v2:Nat}(i:a'<K)(q:b'<K)(j:f+u1*A=v1*B)(k:s+v2*B=u2*A)(a:u1≤v1)(c:u2≤v2)(l:v2≤s)(d:v1+v2+s≤f)(r:1≤v2) :
 ∃ e g:Nat,g<e∧e+u1*(A*K+a')=v1*(B*K+b')∧g+v2*(B*K+b')=u2*(A*K+a'):=by
 have m:v1*(B*K+b')=f*K+u1*(A*K)+v1*b':=by
  rw[Nat.mul_add,← Nat.mul_assoc,← j,Nat.add_mul,Nat.mul_assoc]
 have n:u2*(A*K+a')=s*K+v2*(B*K)+u2*a':=by
  rw[Nat.mul_add,← Nat.mul_assoc,← k,Nat.add_mul,Nat.mul_assoc]
 have t:u1*a'≤v1*K:=Nat.mul_le_mul a (by omega)
 have u:v2*b'≤v2*K:=Nat.mul_le_mul_left _ (by omega)
 have b:u2*a'+v2≤v2*K∨a'=0:=by
  rcases Nat.eq_zero_or_pos a' with h|h
  ·exact Or.inr h
  left
  have:v2*(a'+1)≤v2*K:=Nat.mul_le_mul_left _ i
  rw[Nat.mul_add] at this
  have:=Nat.mul_le_mul_right a' c
  omega
 have v:v2*K≤s*K:=Nat.mul_le_mul_right _ l
 have o:(v1+v2+s)*K≤f*K:=Nat.mul_le_mul_right _ d
 rw[Nat.add_mul (v1+v2),Nat.add_mul v1 v2] at o
 have p:1≤K:=by omega
 have w:v2*1≤v2*K:=Nat.mul_le_mul_left _ p
 refine⟨f*K+v1*b'-u1*a',s*K+u2*a'-v2*b',?_,?_,?_⟩
 ·rcases b with b|b
  ·omega
  subst b
  simp only[Nat.mul_zero] at *
  omega
 ·rw[m,Nat.mul_add];omega
 rw[n,Nat.mul_add];omega
theorem iB.step {A B a b K a' b':Nat}{odd:Bool}{f s u0 u1 u2 v0 v1 v2 q s':Nat}(h:iB A B a b odd f s u0 u1 u2 v0 v1 v2)(J:a=A*K+a')(L:b=B*K+b')(m:a'<K)(n:b'<K)(M:v2≤s)(N:v1+v2+s≤f)(w:f=q*s+s')(S:s'<s)(D:1≤q):iB A B a b (!odd) s s' u1 u2 (u1+q*u2) v1 v2 (v1+q*v2):=by
 obtain⟨x,T,U,o,y,h6,k,_⟩:=h
 have V:1*v2≤q*v2:=Nat.mul_le_mul_right _ D
 have O:q*u2≤q*v2:=Nat.mul_le_mul_left _ o
 have P:s*(v1+q*v2)+s'*v2=A:=by
  rw[←T,w,Nat.mul_add,Nat.add_mul]
  have:q*s*v2=s*(q*v2):=by rw[Nat.mul_comm q,Nat.mul_assoc]
  omega
 have Q:s*(u1+q*u2)+s'*u2=B:=by
  rw[←U,w,Nat.mul_add,Nat.add_mul]
  have:q*s*u2=s*(q*u2):=by rw[Nat.mul_comm q,Nat.mul_assoc]
  omega
 cases odd with
 | false =>
  simp only[Bool.false_eq_true,if_false] at x k
  obtain⟨p,j,t⟩:=x
  obtain⟨z,l,E,u,i⟩:=Zhu m n p j o M N y
  rw[←J,← L] at u i
  have c:s'+(v1+q*v2)*B=(u1+q*u2)*A:=by
   rw[Nat.add_mul,Nat.add_mul,Nat.mul_assoc,Nat.mul_assoc,← j,Nat.mul_add,← p,w]
   omega
  have d:(u1+q*u2)*v2=u2*(v1+q*v2)+1:=by
   rw[Nat.add_mul,Nat.mul_add,t,Nat.mul_left_comm u2,Nat.mul_assoc]
   omega
  have W:v1≠0→z≤b:=by
   intro C
   rcases k with ⟨F,_⟩|⟨_,_,r,g,v⟩
   ·exact absurd F C
   omega
  have g:l≤b:=by
   rcases k with ⟨_,_,_,G,H⟩|⟨_,_,r,g,v⟩
   ·subst G H;simp at i;omega
   omega
  refine⟨?_,P,Q,?_,by omega,by omega,Or.inr ⟨o,y,l,g,?_⟩,?_⟩
  ·simp only[Bool.not_false,if_true]
   exact⟨j,c,d⟩
  ·rcases k with ⟨G,H,_,X,Y⟩|⟨R,_⟩
   ·subst G H X Y;simp;omega
   omega
  ·simp only[Bool.not_false,if_true]
   exact i
  by_cases C:v1=0
  ·exact Or.inl C
  refine Or.inr ⟨z,l,E,W C,?_⟩
  simp only[Bool.not_false,if_true]
  exact⟨u,i,t⟩
 | true =>
  simp only[if_true] at x k
  obtain⟨p,j,t⟩:=x
  have I:u1≤v1∧1≤v1∧∃ r,r≤b∧r+u1*a=v1*b:=by
   rcases k with ⟨_,_,e,_⟩|h
   ·cases e
   exact h
  obtain⟨R,Z,r,g,v⟩:=I
  obtain⟨z,l,E,u,i⟩:=ZiZ m n p j R o M N y
  rw[←J,← L] at u i
  have c:s'+(u1+q*u2)*A=(v1+q*v2)*B:=by
   rw[Nat.add_mul,Nat.add_mul,Nat.mul_assoc,Nat.mul_assoc,← j,Nat.mul_add,← p,w]
   omega
  have d:u2*(v1+q*v2)=(u1+q*u2)*v2+1:=by
   rw[Nat.add_mul,Nat.mul_add,t,Nat.mul_left_comm u2,Nat.mul_assoc]
   omega
  refine⟨?_,P,Q,by omega,by omega,by omega,Or.inr ⟨o,y,l,by omega,?_⟩,?_⟩
  ·simp only[Bool.not_true,Bool.false_eq_true,if_false]
   exact⟨j,c,d⟩
  ·simp only[Bool.not_true,Bool.false_eq_true,if_false]
   exact i
  refine Or.inr ⟨z,l,E,by omega,?_⟩
  simp only[Bool.not_true,Bool.false_eq_true,if_false]
  exact⟨u,i,t⟩
theorem ZcF.pair {a b:Nat}{odd:Bool}{u0 u1 v0 v1:Nat}(h:ZcF a b odd u0 u1 v0 v1)(u:v0≠0) :
 ∃ c e:Nat,e<c∧c≤b∧Nat.gcd c e=Nat.gcd a b∧(if odd then c+v0*b=u0*a∧e+u1*a=v1*b else c+u0*a=v0*b∧e+v1*b=u1*a):=by
 rcases h with h|⟨c,e,v,w,d⟩
 ·exact absurd h u
 refine⟨c,e,v,w,?_,?_⟩
 ·have m:v1*c+v0*e=a∧u1*c+u0*e=b∧(∀ g,g∣a→g∣b→g∣c∧g∣e):=by
   cases odd with
   | false =>
    simp only[Bool.false_eq_true,if_false] at d
    obtain⟨f,i,j⟩:=d
    have n:=congrArg (v1 * ·) f
    have o:=congrArg (v0 * ·) i
    have p:=congrArg (u1 * ·) f
    have q:=congrArg (u0 * ·) i
    have r:=congrArg (· * a) j
    have s:=congrArg (· * b) j
    simp only[Nat.mul_add,Nat.add_mul,Nat.one_mul] at n o p q r s
    refine⟨?_,?_,fun g k l=>⟨?_,?_⟩⟩
    ·simp only[Nat.mul_comm,Nat.mul_left_comm] at *;omega
    ·simp only[Nat.mul_comm,Nat.mul_left_comm] at *;omega
    ·exact (Nat.dvd_add_left (Nat.dvd_mul_left_of_dvd k u0)).1 (f ▸ Nat.dvd_mul_left_of_dvd l v0)
    exact (Nat.dvd_add_left (Nat.dvd_mul_left_of_dvd l v1)).1 (i ▸ Nat.dvd_mul_left_of_dvd k u1)
   | true =>
    simp only[if_true] at d
    obtain⟨f,i,j⟩:=d
    have n:=congrArg (v1 * ·) f
    have o:=congrArg (v0 * ·) i
    have p:=congrArg (u1 * ·) f
    have q:=congrArg (u0 * ·) i
    have r:=congrArg (· * a) j
    have s:=congrArg (· * b) j
    simp only[Nat.mul_add,Nat.add_mul,Nat.one_mul] at n o p q r s
    refine⟨?_,?_,fun g k l=>⟨?_,?_⟩⟩
    ·simp only[Nat.mul_comm,Nat.mul_left_comm] at *;omega
    ·simp only[Nat.mul_comm,Nat.mul_left_comm] at *;omega
    ·exact (Nat.dvd_add_left (Nat.dvd_mul_left_of_dvd l v0)).1 (f ▸ Nat.dvd_mul_left_of_dvd k u0)
    exact (Nat.dvd_add_left (Nat.dvd_mul_left_of_dvd k u1)).1 (i ▸ Nat.dvd_mul_left_of_dvd l v1)
  obtain⟨x,y,t⟩:=m
  refine Nat.dvd_antisymm (Nat.dvd_gcd ?_ ?_) (Nat.dvd_gcd ?_ ?_)
  ·rw[←x];exact Nat.dvd_add (Nat.dvd_mul_left_of_dvd (Nat.gcd_dvd_left _ _) _) (Nat.dvd_mul_left_of_dvd (Nat.gcd_dvd_right _ _) _)
  ·rw[←y];exact Nat.dvd_add (Nat.dvd_mul_left_of_dvd (Nat.gcd_dvd_left _ _) _) (Nat.dvd_mul_left_of_dvd (Nat.gcd_dvd_right _ _) _)
  ·exact (t _ (Nat.gcd_dvd_left _ _) (Nat.gcd_dvd_right _ _)).1
  exact (t _ (Nat.gcd_dvd_left _ _) (Nat.gcd_dvd_right _ _)).2
 cases odd with
 | false=>simp only[Bool.false_eq_true,if_false] at d ⊢;exact⟨d.1,d.2.1⟩
 | true=>simp only[if_true] at d ⊢;exact⟨d.1,d.2.1⟩
end Go.Proofs.YtoanifijmlgcgaaGreatDoor
namespace Go.Proofs.YtoanifijmlgcgaaGreatDoor
end Go.Proofs.YtoanifijmlgcgaaGreatDoor
namespace Go.Proofs.YtoanifijmlgcgaaGreatDoor
end Go.Proofs.YtoanifijmlgcgaaGreatDoor
