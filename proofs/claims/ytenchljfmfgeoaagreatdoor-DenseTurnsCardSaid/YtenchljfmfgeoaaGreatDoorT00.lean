/-
 My texts Math, DivMath, Lehmer, Prime, Rp put together.
-/
set_option maxRecDepth 100000
set_option maxHeartbeats 8000000
namespace Go.Proofs.YtenchljfmfgeoaaGreatDoor
section
theorem qO{p:Prop}(h:p:=by omega):p:=h
theorem qD{p:Prop}(h:p:=by decide):p:=h
theorem qS{p:Prop}(h:p:=by simp):p:=h
abbrev uA:=@of_decide_eq_true
abbrev uB:=@of_decide_eq_false
abbrev uC:=@Nat.le_trans
abbrev uD:=@List.take_of_length_le
abbrev uE:=@Nat.mul_le_mul_right
abbrev uF:=@Nat.mul_comm
abbrev uG:=@Nat.le_refl
abbrev uH:=@Nat.mul_assoc
abbrev uI:=@Nat.mul_le_mul_left
abbrev uJ:=@Nat.eq_zero_or_pos
abbrev uK:=@Nat.mul_add
abbrev uL:=@if_neg
abbrev uM:=@List.length_take
abbrev uN:=@Nat.pow_succ
abbrev uO:=@List.getElem?_eq_getElem
abbrev uP:=@Nat.mod_lt
abbrev uQ:=@Nat.lt_of_lt_of_le
abbrev uR:=@List.length_map
abbrev uS:=@if_pos
abbrev uT:=@Nat.pow_add
abbrev uU:=@List.length_append
abbrev uV:=@Int.eq_ofNat_of_zero_le
abbrev uW:=@Nat.pow_le_pow_right
abbrev uX:=@decide_eq_false
abbrev uY:=@List.all_eq_true
abbrev uZ:=@Nat.mul_le_mul
abbrev vA:=@Nat.min_eq_left
abbrev vC:=@Nat.add_mul
abbrev vE:=@Nat.pow_pos
abbrev vF:=@congrArg
abbrev vG:=@List.drop_of_length_le
abbrev vH:=@Option.map_eq_some_iff
abbrev vI:=@List.getElem?_eq_none
abbrev vJ:=@Option.bind_eq_some_iff
abbrev vK:=@Nat.zero_le
abbrev vL:=@Nat.mod_eq_of_lt
abbrev vM:=@Nat.lt_or_ge
abbrev vN:=@Nat.div_le_self
abbrev vO:=@Nat.div_lt_iff_lt_mul
abbrev vP:=@List.getElem?_drop
abbrev vQ:=@Nat.div_add_mod
abbrev vR:=@decide_eq_true
abbrev vS:=@List.append_assoc
abbrev vT:=@Nat.pow_zero
abbrev vU:=@Nat.zero_add
abbrev vV:=@List.drop_drop
abbrev vW:=@Int.natCast_ediv
abbrev vX:=@Nat.le_of_ble_eq_true
abbrev vY:=@List.length_drop
abbrev vZ:=@List.drop_set_of_lt
abbrev tA:=@Int.natCast_pow
abbrev tB:=@Nat.add_zero
abbrev tC:=@Nat.add_comm
abbrev tD:=@Nat.mul_zero
abbrev tE:=@Nat.mul_left_comm
abbrev tF:=@Nat.lt_of_le_of_lt
abbrev tG:=@beq_iff_eq
abbrev tH:=@Classical.byContradiction
abbrev tI:=@getElem!_pos
abbrev tJ:=@Nat.div_eq_of_lt
abbrev tK:=@Bool.and_eq_true
abbrev tL:=@Nat.add_sub_cancel
abbrev tM:=@List.getD_eq_getElem?_getD
abbrev tN:=@List.length_eq_zero_iff
abbrev tO:=@Nat.div_div_eq_div_mul
abbrev tP:=@Nat.mul_one
abbrev tQ:=@List.getElem?_take_of_lt
abbrev tR:=@Nat.gcd_comm
abbrev tS:=@Int.natCast_mul
abbrev tT:=@List.getElem_mem
abbrev tU:=@List.length_cons
abbrev tV:=@List.getElem?_append_right
abbrev tW:=@decide_eq_false_iff_not
abbrev tX:=@List.drop_zero
abbrev tY:=@List.mem_of_mem_take
abbrev tZ:=@Nat.mul_pos
abbrev sA:=@Nat.shiftLeft_add_eq_or_of_lt
abbrev sB:=@List.drop_eq_getElem_cons
abbrev sC:=@Nat.pos_of_ne_zero
abbrev sD:=@List.mem_append
abbrev sE:=@Nat.add_assoc
abbrev sF:=@Option.isSome_iff_exists
abbrev sG:=@List.take_succ_eq_append_getElem
abbrev sH:=@decide_eq_true_eq
abbrev sI:=@Nat.mul_lt_mul_of_pos_right
abbrev sJ:=@Nat.div_lt_of_lt_mul
abbrev sK:=@Int.tmod_eq_emod_of_nonneg
abbrev sL:=@List.getElem?_set_self
abbrev sM:=@Nat.zero_mul
abbrev sN:=@Nat.lt_of_mul_lt_mul_left
abbrev sO:=@List.length_pos_iff
abbrev sP:=@beq_eq_false_iff_ne
abbrev sQ:=@List.length_singleton
abbrev sR:=@List.all_cons
abbrev sS:=@List.length_set
abbrev sU:=@Int.natAbs_natCast
abbrev sV:=@List.mem_singleton
abbrev sW:=@Nat.shiftLeft_eq
abbrev sX:=@Nat.sub_self
abbrev sY:=@Int.tdiv_eq_ediv_of_nonneg
abbrev sZ:=@Nat.succ_mul
abbrev rA:=@List.mem_range
abbrev rB:=@List.take_set_of_le
abbrev rC:=@Nat.pow_le_pow_left
abbrev rD:=@Nat.mod_add_div
abbrev rE:=@Int.natCast_add
abbrev rF:=@Nat.mul_add_div
abbrev rG:=@Nat.div_one
abbrev rH:=@Nat.add_mul_mod_self_left
abbrev rI:=@List.getElem?_append_left
abbrev rJ:=@List.length_replicate
abbrev rK:=@Nat.one_mul
abbrev rL:=@List.eq_nil_of_length_eq_zero
abbrev rM:=@Nat.mul_mul_mul_comm
abbrev rN:=@List.flatMap_cons
abbrev rO:=@Option.map_some
abbrev rP:=@ByteArray.size_extract
abbrev rQ:=@Nat.lt_of_not_le
abbrev rR:=@Nat.gcd_zero_right
abbrev rS:=@List.take_append_drop
abbrev rT:=@Classical.choose_spec
abbrev rU:=@Nat.mul_mod_mul_right
abbrev rV:=@Nat.le_div_iff_mul_le
abbrev rW:=@List.mem_or_eq_of_mem_set
abbrev rX:=@Nat.mul_add_mod
abbrev rY:=@List.mem_of_mem_drop
abbrev rZ:=@Nat.pow_mul
abbrev qB:=@Nat.lt_trichotomy
abbrev qC:=@Nat.mul_lt_mul_right
abbrev qE:=@Bool.eq_false_iff
abbrev qF:=@List.takeWhile_append_dropWhile
abbrev qG:=@Nat.div_mul_le_self
abbrev qH:=@Nat.mul_div_cancel_left
abbrev qI:=@decide_eq_decide
abbrev qJ:=@Nat.lt_trans
abbrev qL:=@List.map_map
abbrev qM:=@Nat.mul_div_cancel
abbrev qP:=@List.mem_cons_self
abbrev qQ:=@Nat.div_lt_self
abbrev qR:=@List.append_nil
abbrev qT:=@List.all_append
abbrev qU:=@List.nil_append
abbrev qV:=@List.mem_cons
abbrev qW:=@List.set_append_right
abbrev qX:=@Nat.mul_div_mul_right
abbrev qY:=@List.size_toArray
abbrev qZ:=@List.getElem?_map
abbrev pA:=@Nat.le_sub_of_add_le
abbrev pB:=@List.mem_of_getElem?
abbrev pC:=@Array.size_replicate
abbrev pD:=@Array.getElem?_eq_some_iff
abbrev pE:=@List.take_length
abbrev pF:=@Option.getD_some
abbrev pG:=@Nat.zero_lt_succ
abbrev pH:=@List.replicate_succ
abbrev pI:=@Nat.succ_eq_add_one
abbrev pJ:=@List.takeWhile_cons
abbrev pK:=@List.mem_map_of_mem
abbrev pL:=@List.map_cons
abbrev pM:=@Option.some.inj
abbrev pN:=@List.mem_replicate
abbrev pO:=@Bool.false_eq_true
abbrev pP:=@Nat.sub_add_cancel
abbrev pQ:=@Nat.gcd_rec
abbrev pR:=@Nat.exists_eq_add_of_le
abbrev pS:=@Nat.le_of_lt
abbrev pT:=@Int.toNat_natCast
abbrev pU:=@List.getElem_replicate
abbrev pV:=@List.head?_eq_none_iff
abbrev pW:=@List.map_nil
abbrev pX:=@Nat.eq_of_beq_eq_true
abbrev pY:=@Array.getElem?_toList
abbrev pZ:=@Int.natCast_emod
abbrev oC:=@Nat.gcd_le_right
abbrev oD:=@Nat.lt_succ_self
abbrev oE:=@List.not_mem_nil
abbrev oF:=@List.length_nil
abbrev oG:=@Bool.or_eq_true
abbrev oH:=@Nat.mod_le
def val (B:Nat):List Nat→Nat
 | []=>0
 | x :: xs=>x+B*val B xs
def Dig (B:Nat) (xs:List Nat):Prop:=∀ x∈xs,x<B
def Trim (xs:List Nat):Prop:=∀ k,xs.length=k+1→(xs[k]?.getD 0)≠0
variable {B:Nat} {xs ys:List Nat}
@[simp] theorem gV:val B []=0:=rfl
@[simp] theorem iT (x:Nat):val B (x :: xs)=x+B*val B xs:=rfl
theorem kJ:val B (xs ++ ys)=val B xs+B^xs.length*val B ys:=by
 induction xs with
 | nil=>simp
 | cons x xs ih=>simp[ih,uN,uK,sE];rw[←uH,uF B]
theorem Dig.nil:Dig B []:=fun _ h=>by cases h
theorem Dig.cons {x:Nat}(h:x<B)(b:Dig B xs):Dig B (x :: xs):=fun y a=>by
 rcases qV.1 a with rfl|a
 ·exact h
 exact b y a
theorem Dig.head {x:Nat}(h:Dig B (x :: xs)):x<B:=h x (by simp)
theorem Dig.tail {x:Nat}(h:Dig B (x :: xs)):Dig B xs:=fun y a=>h y (by simp[a])
theorem Dig.append (h:Dig B xs)(k:Dig B ys):Dig B (xs ++ ys):=fun y a=>by
 rcases sD.1 a with a|a
 ·exact h y a
 exact k y a
theorem Dig.take (h:Dig B xs)(k:Nat):Dig B (xs.take k):=fun y a=>h y (tY a)
theorem Dig.drop (h:Dig B xs)(k:Nat):Dig B (xs.drop k):=fun y a=>h y (rY a)
theorem Dig.getD (h:Dig B xs)(b:0<B)(k:Nat):(xs[k]?.getD 0)<B:=by
 rcases vM k xs.length with a|a
 ·rw[uO a];exact h _ (tT a)
 rw[vI a];exact b
theorem Dig.set (h:Dig B xs)(k:Nat){v:Nat}(b:v<B):Dig B (xs.set k v):=fun y a=>by
 rcases rW a with a|a
 ·exact h y a
 exact a ▸ b
theorem Dig.replicate (a:0<B)(n:Nat):Dig B (List.replicate n 0):=fun y b=>by
 rw[(pN.1 b).2];exact a
theorem wL (h:Dig B xs):val B xs<B^xs.length:=by
 induction xs with
 | nil=>simp
 | cons x xs ih =>
  have c:=h.head
  have a:=ih h.tail
  have b:B*(val B xs+1)≤B*B^xs.length:=uI B a
  rw[iT,tU,uN,uF (B^_)]
  rw[uK] at b
  omega
theorem iF (n:Nat):val B (List.replicate n 0)=0:=by
 induction n with
 | zero=>rfl
 | succ n ih=>simp[pH,ih]
theorem xA (k:Nat)(h:k<xs.length):val B (xs.take (k+1))=val B (xs.take k)+B^k*(xs[k]?.getD 0):=by
 rw[sG h,kJ]
 have:(xs.take k).length=k:=by simp;omega
 rw[this]
 simp[uO h]
theorem wA (k:Nat):val B xs=val B (xs.take k)+B^(min k xs.length)*val B (xs.drop k):=by
 conv=>lhs;rw[←rS k xs,kJ]
 simp
theorem Zna (h:Dig B xs)(k:Dig B ys)(hl:xs.length=ys.length)(a:val B xs=val B ys):xs=ys:=by
 induction xs generalizing ys with
 | nil=>cases ys with|nil=>rfl|cons=>cases hl
 | cons x xs ih =>
  cases ys with
  | nil=>cases hl
  | cons y ys =>
   have b:=h.head
   have c:=k.head
   simp only[iT] at a
   have d:x=y:=by
    have:=vF (· % B) a
    simpa [rH,vL b,vL c] using this
   subst d
   have e:val B xs=val B ys:=Nat.eq_of_mul_eq_mul_left (by omega:0<B) (by omega)
   rw[ih h.tail k.tail (by simpa using hl) e]
theorem Zf8 (P B V X Y x y c d a:Nat)(f:V+P*c=X+Y)(b:d+B*a=x+y+c):V+P*d+P*B*a=X+P*x+(Y+P*y):=by
 have e:=vF (P * ·) b
 simp only[uK] at e
 rw[uH]
 omega
theorem ZlE (P B V X Y x y b d b':Nat)(e:V+Y=X+P*b)(a:d+y+b=x+B*b'):V+P*d+(Y+P*y)=X+P*x+P*B*b':=by
 have c:=vF (P * ·) a
 simp only[uK] at c
 rw[uH]
 omega
theorem Zj0 (P B V Z X w z x c d c':Nat)(e:V+X*w=Z+P*c)(a:d+x*w+c=z+B*c'):V+P*d+(X+P*x)*w=Z+P*z+P*B*c':=by
 have b:=vF (P * ·) a
 simp only[uK] at b
 rw[uH,vC,uH]
 omega
theorem Zdn (B V Q w r x q r':Nat)(a:V=Q*w+r)(b:r*B+x=q*w+r'):x+B*V=(q+B*Q)*w+r':=by
 subst a
 rw[uK,vC,uH]
 have:B*r=r*B:=uF _ _
 omega
theorem Zoe (a c t3 e R b:Nat)(B:Nat)(f:c<R)(h:b<B)(g:B*R≤a*R)(d:b*a≤t3) :
 b*(a*R+c)≤(t3*R+e)+(a*R+c):=by
 have i:b*a*R≤t3*R:=uE R d
 have j:b*c≤B*R:=uZ (by omega) (by omega)
 rw[uK,← uH]
 omega
theorem Zj1 (a e t3 d R b:Nat)(f:d<R)(c:t3<(b+1)*a):t3*R+d<(b+1)*(a*R+e):=by
 have g:(t3+1)*R≤(b+1)*a*R:=uE R c
 rw[uK,← uH]
 rw[vC t3,rK] at g
 omega
theorem xO (k:Nat)(h:k<xs.length):val B (xs.drop k)=(xs[k]?.getD 0)+B*val B (xs.drop (k+1)):=by
 rw[sB h,iT,uO h];rfl
theorem Zaf (a:Dig B xs)(g:xs.length=ys.length)(k:Nat)(b:k<xs.length)(c:xs.drop (k+1)=ys.drop (k+1))(d:(xs[k]?.getD 0)<(ys[k]?.getD 0)):val B xs<val B ys:=by
 rw[wA (xs:=xs) k,wA (xs:=ys) k,xO k b,xO k (by omega),c,vA (by omega),vA (by omega)]
 have e:=wL (a.take k)
 rw[uM,vA (by omega)] at e
 have f:B^k*((xs[k]?.getD 0)+1)≤B^k*(ys[k]?.getD 0):=uI _ d
 rw[uK,uK]
 rw[uK] at f
 omega
theorem Zb4 (h:Trim xs){k:Nat}(a:xs.length=k+1):B^k≤val B xs:=by
 rw[wA (xs:=xs) k,xO k (by omega),vG (by omega:xs.length≤k+1),vA (by omega)]
 have b:B^k*1≤B^k*(xs[k]?.getD 0):=uI _ (by have:=h k a;omega)
 simp only[gV,tD,tB]
 omega
theorem eN (a:0<B)(b:Dig B xs)(c:Trim ys)(e:xs.length<ys.length):val B xs<val B ys:=by
 obtain⟨k,d⟩:∃ k,ys.length=k+1:=⟨ys.length-1,by omega⟩
 have f:=wL b
 have g:=Zb4 (B:=B) c d
 have h:B^xs.length≤B^k:=uW a (by omega)
 omega
theorem kW (d:1<B)(b:Trim xs){n:Nat}(h:val B xs<B^n):xs.length≤n:=by
 rcases vM n xs.length with a|a
 ·obtain⟨k,c⟩:∃ k,xs.length=k+1:=⟨xs.length-1,by omega⟩
  have e:=Zb4 (B:=B) b c
  have f:B^n≤B^k:=uW (by omega) (by omega)
  omega
 exact a
theorem Zf9 (b:1<B)(h:Dig B xs)(k:Dig B ys)(c:Trim xs)(d:Trim ys)(a:val B xs=val B ys):xs=ys:=by
 have e:xs.length≤ys.length:=kW b c (a ▸ wL k)
 have f:ys.length≤xs.length:=kW b d (a ▸ wL h)
 exact Zna h k (by omega) a
theorem Trim.nil:Trim []:=fun k a=>by simp at a
theorem dK (h:Trim xs)(b:0<B)(a:xs≠[]):0<val B xs:=by
 obtain⟨k,c⟩:∃ k,xs.length=k+1:=⟨xs.length-1,by have:=sO.2 a;omega⟩
 have d:=Zb4 (B:=B) h c
 have:=vE (n:=k) b
 omega
theorem ZfE (h:Trim xs)(a:0<B)(b:val B xs=0):xs=[]:=by
 rcases xs with _|⟨x,xs⟩
 ·rfl
 have:=dK h a (by simp);omega
end
def jV (H U v1 v0 u q r:Nat):Prop:=q*v1+r=U∧(U*H+u)/(v1*H+v0)≤q
theorem ZcJ {H U v1 v0 u q r:Nat}(a:U<v1*H+v0)(c:u<H)(d:H≤q)(h:jV H U v1 v0 u q r):jV H U v1 v0 u (q-1) (r+v1):=by
 obtain⟨b,e⟩:=h
 have f:(U*H+u)/(v1*H+v0)<H:=by
  rw[Nat.div_lt_iff_lt_mul (by omega)]
  have:(U+1)*H≤(v1*H+v0)*H:=Nat.mul_le_mul_right H a
  rw[Nat.add_mul U 1 H,Nat.one_mul] at this
  rw[Nat.mul_comm H]
  omega
 refine⟨?_,by omega⟩
 obtain⟨p,rfl⟩:∃ p,q=p+1:=⟨q-1,by omega⟩
 rw[Nat.add_mul] at b
 simp only[Nat.add_sub_cancel]
 omega
theorem aQ {H U v1 v0 u q r:Nat}(b:0<v1*H+v0)(c:H*r+u<q*v0)(h:jV H U v1 v0 u q r):jV H U v1 v0 u (q-1) (r+v1):=by
 obtain⟨a,f⟩:=h
 have d:q≠0:=by rintro rfl;omega
 have e:(U*H+u)/(v1*H+v0)<q:=by
  rw[Nat.div_lt_iff_lt_mul b,Nat.mul_add,← Nat.mul_assoc]
  have:U*H=q*v1*H+r*H:=by rw[←a,Nat.add_mul]
  rw[Nat.mul_comm H r] at c
  omega
 refine⟨?_,by omega⟩
 obtain⟨p,rfl⟩:∃ p,q=p+1:=⟨q-1,by omega⟩
 rw[Nat.add_mul] at a
 simp only[Nat.add_sub_cancel]
 omega
theorem dY {H U v1 v0 u q r:Nat}(a:0<v1*H+v0)(b:q*v0≤H*r+u)(h:jV H U v1 v0 u q r):q=(U*H+u)/(v1*H+v0):=by
 obtain⟨c,d⟩:=h
 refine Nat.le_antisymm ?_ d
 rw[Nat.le_div_iff_mul_le a,Nat.mul_add,← Nat.mul_assoc]
 have:U*H=q*v1*H+r*H:=by rw[←c,Nat.add_mul]
 rw[Nat.mul_comm H r] at b
 omega
theorem jO {H U v1 v0 u q r:Nat}(c:U<v1*H+v0)(a:v0<H)(b:H≤r)(h:jV H U v1 v0 u q r):q=(U*H+u)/(v1*H+v0):=by
 refine dY (by omega) ?_ h
 obtain⟨d,e⟩:=h
 have f:q<H:=by
  have:q*v1<H*v1:=by rw[Nat.mul_comm H];omega
  exact Nat.lt_of_mul_lt_mul_right this
 have g:q*v0≤H*H:=Nat.mul_le_mul (by omega) (by omega)
 have i:H*H≤H*r:=Nat.mul_le_mul_left H b
 omega
theorem Znb {H Y U u1 u0:Nat}(d:0<Y)(j:U<Y)(f:u1<H)(g:u0<H) :
 (U*H+u1)/Y<H∧(U*H+u1)%Y<Y∧((U*H+u1)%Y*H+u0)/Y<H ∧
 (U*(H*H)+u1*H+u0)/Y=(U*H+u1)/Y*H+((U*H+u1)%Y*H+u0)/Y∧(U*(H*H)+u1*H+u0)%Y=((U*H+u1)%Y*H+u0)%Y:=by
 have c:∀ a b:Nat,a<Y→b<H→(a*H+b)/Y<H:=by
  intro a b k l
  rw[Nat.div_lt_iff_lt_mul d]
  have:(a+1)*H≤Y*H:=Nat.mul_le_mul_right H k
  rw[Nat.add_mul a 1 H,Nat.one_mul] at this
  rw[Nat.mul_comm H]
  omega
 have h:(U*H+u1)%Y<Y:=Nat.mod_lt _ d
 have e:=Nat.div_add_mod (U*H+u1) Y
 have i:U*(H*H)+u1*H+u0=Y*((U*H+u1)/Y*H)+((U*H+u1)%Y*H+u0):=by
  have:(U*H+u1)*H=(Y*((U*H+u1)/Y)+(U*H+u1)%Y)*H:=by rw[e]
  rw[Nat.add_mul,Nat.add_mul,Nat.mul_assoc U,Nat.mul_assoc Y] at this
  omega
 refine⟨c _ _ j f,h,c _ _ h g,?_,?_⟩
 ·rw[i,Nat.mul_add_div d]
 rw[i,Nat.mul_add_mod]
theorem Ze4 (N y p:Nat)(a:0<p):N*p/(y*p)=N/y∧N*p%(y*p)/p=N%y:=by
 refine⟨Nat.mul_div_mul_right N y a,?_⟩
 rw[Nat.mul_mod_mul_right,Nat.mul_div_cancel _ a]
theorem Zhr (hi lo s:Nat)(f:s≤63) :
 (hi*18446744073709551616+lo)*2^s=(hi*2^s+lo/2^(64-s))*(4294967296*4294967296)+(lo*2^s%18446744073709551616)/4294967296*4294967296+(lo*2^s%18446744073709551616)%4294967296:=by
 have a:(18446744073709551616:Nat)=2^(64-s)*2^s:=by rw[←Nat.pow_add,show 64-s+s=64 by omega]
 have b:lo*2^s=lo/2^(64-s)*18446744073709551616+lo*2^s%18446744073709551616:=by
  have c:=Nat.div_add_mod (lo*2^s) 18446744073709551616
  have d:lo*2^s/18446744073709551616=lo/2^(64-s):=by
   rw[a,Nat.mul_div_mul_right _ _ (Nat.pow_pos (by omega))]
  rw[d,Nat.mul_comm] at c
  omega
 generalize g:lo*2^s%18446744073709551616=T at *
 have h:=Nat.div_add_mod T 4294967296
 have e:(hi*18446744073709551616+lo)*2^s=hi*2^s*18446744073709551616+lo*2^s:=by
  rw[Nat.add_mul,Nat.mul_right_comm]
 rw[e,b]
 generalize hi*2^s=A at *
 generalize lo/2^(64-s)=C at *
 rw[Nat.add_mul]
 omega
def ZcM (a b:Nat) (odd:Bool) (u0 u1 v0 v1:Nat):Prop :=
 v0=0∨∃ r0 r1:Nat,r1<r0∧r0≤b ∧
  (if odd then r0+v0*b=u0*a∧r1+u1*a=v1*b∧u0*v1=u1*v0+1 else r0+u0*a=v0*b∧r1+v1*b=u1*a∧u1*v0=u0*v1+1)
def jX (A B a b:Nat) (odd:Bool) (f s u0 u1 u2 v0 v1 v2:Nat):Prop :=
 (if odd then f+u1*A=v1*B∧s+v2*B=u2*A∧u2*v1=u1*v2+1 else f+v1*B=u1*A∧s+u2*A=v2*B∧u1*v2=u2*v1+1) ∧
 f*v2+s*v1=A∧f*u2+s*u1=B∧u2≤v2∧1≤v2∧s≤f ∧
 ((v1=0∧u1=1∧odd=false∧u2=0∧v2=1)∨(u1≤v1∧1≤v1∧∃ r:Nat,r≤b∧if odd then r+u1*a=v1*b else r+v1*b=u1*a)) ∧
 ZcM a b odd u0 u1 v0 v1
theorem jX.start {A B a b:Nat}(h:B≤A):jX A B a b false A B 0 1 0 0 0 1:=by
 refine⟨by simp,by simp,by simp,by omega,by omega,h,Or.inl ⟨rfl,rfl,rfl,rfl,rfl⟩,Or.inl rfl⟩
theorem ZhA {K A B a' b' f s u1 b v1 a:Nat}(ha:a'<K)(g:b'<K)(j:f+v1*B=u1*A)(k:s+b*A=a*B)(c:b≤a)(l:a≤s)(d:v1+a+s≤f)(o:1≤a) :
 ∃ r0 h:Nat,h<r0∧r0+v1*(B*K+b')=u1*(A*K+a')∧h+b*(A*K+a')=a*(B*K+b'):=by
 have m:u1*(A*K+a')=f*K+v1*(B*K)+u1*a':=by
  rw[Nat.mul_add,← Nat.mul_assoc,← j,Nat.add_mul,Nat.mul_assoc]
 have n:a*(B*K+b')=s*K+b*(A*K)+a*b':=by
  rw[Nat.mul_add,← Nat.mul_assoc,← k,Nat.add_mul,Nat.mul_assoc]
 have p:v1*b'≤v1*K:=Nat.mul_le_mul_left _ (by omega)
 have q:b*a'≤a*K:=Nat.mul_le_mul c (by omega)
 have i:(v1+a)*b'+(v1+a)≤(v1+a)*K:=by
  have:(v1+a)*(b'+1)≤(v1+a)*K:=Nat.mul_le_mul_left _ g
  rw[Nat.mul_add] at this;omega
 have r:a*K≤s*K:=Nat.mul_le_mul_right _ l
 have e:(v1+a+s)*K≤f*K:=Nat.mul_le_mul_right _ d
 rw[Nat.add_mul (v1+a)] at e
 rw[Nat.add_mul v1 a b'] at i
 refine⟨f*K+u1*a'-v1*b',s*K+a*b'-b*a',?_,?_,?_⟩
 ·have:=Nat.mul_le_mul_left v1 (Nat.le_of_lt g)
  rw[Nat.add_mul] at e i
  omega
 ·rw[m,Nat.mul_add]
  rw[Nat.add_mul] at e
  omega
 rw[n,Nat.mul_add]
 omega
theorem Zi6 {K A B a' b' f s u1 b v1 a:Nat}(ha:a'<K)(q:b'<K)(j:f+u1*A=v1*B)(k:s+a*B=b*A)(c:u1≤v1)(e:b≤a)(l:a≤s)(g:v1+a+s≤f)(r:1≤a) :
 ∃ r0 i:Nat,i<r0∧r0+u1*(A*K+a')=v1*(B*K+b')∧i+a*(B*K+b')=b*(A*K+a'):=by
 have m:v1*(B*K+b')=f*K+u1*(A*K)+v1*b':=by
  rw[Nat.mul_add,← Nat.mul_assoc,← j,Nat.add_mul,Nat.mul_assoc]
 have n:b*(A*K+a')=s*K+a*(B*K)+b*a':=by
  rw[Nat.mul_add,← Nat.mul_assoc,← k,Nat.add_mul,Nat.mul_assoc]
 have t:u1*a'≤v1*K:=Nat.mul_le_mul c (by omega)
 have u:a*b'≤a*K:=Nat.mul_le_mul_left _ (by omega)
 have d:b*a'+a≤a*K∨a'=0:=by
  rcases Nat.eq_zero_or_pos a' with h|h
  ·exact Or.inr h
  left
  have:a*(a'+1)≤a*K:=Nat.mul_le_mul_left _ ha
  rw[Nat.mul_add] at this
  have:=Nat.mul_le_mul_right a' e
  omega
 have v:a*K≤s*K:=Nat.mul_le_mul_right _ l
 have o:(v1+a+s)*K≤f*K:=Nat.mul_le_mul_right _ g
 rw[Nat.add_mul (v1+a),Nat.add_mul v1 a] at o
 have p:1≤K:=by omega
 have w:a*1≤a*K:=Nat.mul_le_mul_left _ p
 refine⟨f*K+v1*b'-u1*a',s*K+b*a'-a*b',?_,?_,?_⟩
 ·rcases d with d|d
  ·omega
  subst d
  simp only[Nat.mul_zero] at *
  omega
 ·rw[m,Nat.mul_add];omega
 rw[n,Nat.mul_add];omega
theorem jX.step {A B a b K J L:Nat}{odd:Bool}{f s u0 u1 c v0 v1 v2 q s':Nat}(h:jX A B a b odd f s u0 u1 c v0 v1 v2)(ha:a=A*K+J)(M:b=B*K+L)(n:J<K)(o:L<K)(N:v2≤s)(O:v1+v2+s≤f)(x:f=q*s+s')(T:s'<s)(D:1≤q):jX A B a b (!odd) s s' u1 c (u1+q*c) v1 v2 (v1+q*v2):=by
 obtain⟨y,U,V,p,z,h6,l,_⟩:=h
 have W:1*v2≤q*v2:=Nat.mul_le_mul_right _ D
 have P:q*c≤q*v2:=Nat.mul_le_mul_left _ p
 have Q:s*(v1+q*v2)+s'*v2=A:=by
  rw[←U,x,Nat.mul_add,Nat.add_mul]
  have:q*s*v2=s*(q*v2):=by rw[Nat.mul_comm q,Nat.mul_assoc]
  omega
 have R:s*(u1+q*c)+s'*c=B:=by
  rw[←V,x,Nat.mul_add,Nat.add_mul]
  have:q*s*c=s*(q*c):=by rw[Nat.mul_comm q,Nat.mul_assoc]
  omega
 cases odd with
 | false =>
  simp only[Bool.false_eq_true,if_false] at y l
  obtain⟨t,k,u⟩:=y
  obtain⟨r0,m,E,v,j⟩:=ZhA n o t k p N O z
  rw[←ha,← M] at v j
  have d:s'+(v1+q*v2)*B=(u1+q*c)*A:=by
   rw[Nat.add_mul,Nat.add_mul,Nat.mul_assoc,Nat.mul_assoc,← k,Nat.mul_add,← t,x]
   omega
  have g:(u1+q*c)*v2=c*(v1+q*v2)+1:=by
   rw[Nat.add_mul,Nat.mul_add,u,Nat.mul_left_comm c,Nat.mul_assoc]
   omega
  have X:v1≠0→r0≤b:=by
   intro C
   rcases l with ⟨F,_⟩|⟨_,_,r,i,w⟩
   ·exact absurd F C
   omega
  have i:m≤b:=by
   rcases l with ⟨_,_,_,G,H⟩|⟨_,_,r,i,w⟩
   ·subst G H;simp at j;omega
   omega
  refine⟨?_,Q,R,?_,by omega,by omega,Or.inr ⟨p,z,m,i,?_⟩,?_⟩
  ·simp only[Bool.not_false,if_true]
   exact⟨k,d,g⟩
  ·rcases l with ⟨G,H,_,Y,e4⟩|⟨S,_⟩
   ·subst G H Y e4;simp;omega
   omega
  ·simp only[Bool.not_false,if_true]
   exact j
  by_cases C:v1=0
  ·exact Or.inl C
  refine Or.inr ⟨r0,m,E,X C,?_⟩
  simp only[Bool.not_false,if_true]
  exact⟨v,j,u⟩
 | true =>
  simp only[if_true] at y l
  obtain⟨t,k,u⟩:=y
  have I:u1≤v1∧1≤v1∧∃ r,r≤b∧r+u1*a=v1*b:=by
   rcases l with ⟨_,_,e,_⟩|h
   ·cases e
   exact h
  obtain⟨S,Z,r,i,w⟩:=I
  obtain⟨r0,m,E,v,j⟩:=Zi6 n o t k S p N O z
  rw[←ha,← M] at v j
  have d:s'+(u1+q*c)*A=(v1+q*v2)*B:=by
   rw[Nat.add_mul,Nat.add_mul,Nat.mul_assoc,Nat.mul_assoc,← k,Nat.mul_add,← t,x]
   omega
  have g:c*(v1+q*v2)=(u1+q*c)*v2+1:=by
   rw[Nat.add_mul,Nat.mul_add,u,Nat.mul_left_comm c,Nat.mul_assoc]
   omega
  refine⟨?_,Q,R,by omega,by omega,by omega,Or.inr ⟨p,z,m,by omega,?_⟩,?_⟩
  ·simp only[Bool.not_true,Bool.false_eq_true,if_false]
   exact⟨k,d,g⟩
  ·simp only[Bool.not_true,Bool.false_eq_true,if_false]
   exact j
  refine Or.inr ⟨r0,m,E,by omega,?_⟩
  simp only[Bool.not_true,Bool.false_eq_true,if_false]
  exact⟨v,j,u⟩
theorem ZcM.pair {a b:Nat}{odd:Bool}{u0 u1 v0 v1:Nat}(h:ZcM a b odd u0 u1 v0 v1)(s:v0≠0) :
 ∃ r0 d:Nat,d<r0∧r0≤b∧Nat.gcd r0 d=Nat.gcd a b∧(if odd then r0+v0*b=u0*a∧d+u1*a=v1*b else r0+u0*a=v0*b∧d+v1*b=u1*a):=by
 rcases h with h|⟨r0,d,t,u,c⟩
 ·exact absurd h s
 refine⟨r0,d,t,u,?_,?_⟩
 ·have l:v1*r0+v0*d=a∧u1*r0+u0*d=b∧(∀ g,g∣a→g∣b→g∣r0∧g∣d):=by
   cases odd with
   | false =>
    simp only[Bool.false_eq_true,if_false] at c
    obtain⟨e,f,i⟩:=c
    have m:=congrArg (v1 * ·) e
    have n:=congrArg (v0 * ·) f
    have o:=congrArg (u1 * ·) e
    have e4:=congrArg (u0 * ·) f
    have p:=congrArg (· * a) i
    have q:=congrArg (· * b) i
    simp only[Nat.mul_add,Nat.add_mul,Nat.one_mul] at m n o e4 p q
    refine⟨?_,?_,fun g j k=>⟨?_,?_⟩⟩
    ·simp only[Nat.mul_comm,Nat.mul_left_comm] at *;omega
    ·simp only[Nat.mul_comm,Nat.mul_left_comm] at *;omega
    ·exact (Nat.dvd_add_left (Nat.dvd_mul_left_of_dvd j u0)).1 (e ▸ Nat.dvd_mul_left_of_dvd k v0)
    exact (Nat.dvd_add_left (Nat.dvd_mul_left_of_dvd k v1)).1 (f ▸ Nat.dvd_mul_left_of_dvd j u1)
   | true =>
    simp only[if_true] at c
    obtain⟨e,f,i⟩:=c
    have m:=congrArg (v1 * ·) e
    have n:=congrArg (v0 * ·) f
    have o:=congrArg (u1 * ·) e
    have e4:=congrArg (u0 * ·) f
    have p:=congrArg (· * a) i
    have q:=congrArg (· * b) i
    simp only[Nat.mul_add,Nat.add_mul,Nat.one_mul] at m n o e4 p q
    refine⟨?_,?_,fun g j k=>⟨?_,?_⟩⟩
    ·simp only[Nat.mul_comm,Nat.mul_left_comm] at *;omega
    ·simp only[Nat.mul_comm,Nat.mul_left_comm] at *;omega
    ·exact (Nat.dvd_add_left (Nat.dvd_mul_left_of_dvd k v0)).1 (e ▸ Nat.dvd_mul_left_of_dvd j u0)
    exact (Nat.dvd_add_left (Nat.dvd_mul_left_of_dvd j u1)).1 (f ▸ Nat.dvd_mul_left_of_dvd k v1)
  obtain⟨v,w,r⟩:=l
  refine Nat.dvd_antisymm (Nat.dvd_gcd ?_ ?_) (Nat.dvd_gcd ?_ ?_)
  ·rw[←v];exact Nat.dvd_add (Nat.dvd_mul_left_of_dvd (Nat.gcd_dvd_left _ _) _) (Nat.dvd_mul_left_of_dvd (Nat.gcd_dvd_right _ _) _)
  ·rw[←w];exact Nat.dvd_add (Nat.dvd_mul_left_of_dvd (Nat.gcd_dvd_left _ _) _) (Nat.dvd_mul_left_of_dvd (Nat.gcd_dvd_right _ _) _)
  ·exact (r _ (Nat.gcd_dvd_left _ _) (Nat.gcd_dvd_right _ _)).1
  exact (r _ (Nat.gcd_dvd_left _ _) (Nat.gcd_dvd_right _ _)).2
 cases odd with
 | false=>simp only[Bool.false_eq_true,if_false] at c ⊢;exact⟨c.1,c.2.1⟩
 | true=>simp only[if_true] at c ⊢;exact⟨c.1,c.2.1⟩
end Go.Proofs.YtenchljfmfgeoaaGreatDoor
