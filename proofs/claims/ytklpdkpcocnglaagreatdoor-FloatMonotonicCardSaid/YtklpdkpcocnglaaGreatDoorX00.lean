/-
 My texts Math, DivMath, Lehmer, Prime, Rp put together.
-/
set_option maxRecDepth 100000
set_option maxHeartbeats 8000000
namespace Go.Proofs.YtklpdkpcocnglaaGreatDoor
abbrev uA:=@List.take_of_length_le
abbrev uB:=@Int.eq_ofNat_of_zero_le
abbrev uC:=@Nat.mul_le_mul_right
abbrev uD:=@of_decide_eq_true
abbrev uE:=@Nat.le_trans
abbrev uF:=@Nat.mul_comm
abbrev uG:=@Nat.mul_assoc
abbrev uH:=@of_decide_eq_false
abbrev uI:=@Nat.eq_zero_or_pos
abbrev uJ:=@if_neg
abbrev uK:=@Nat.mul_le_mul_left
abbrev uL:=@if_pos
abbrev uM:=@Nat.le_refl
abbrev uN:=@Nat.mul_add
abbrev uO:=@Nat.pow_succ
abbrev uP:=@Nat.mod_lt
abbrev uQ:=@Nat.lt_of_lt_of_le
abbrev uR:=@Nat.pow_le_pow_right
abbrev uS:=@Nat.pow_add
abbrev uT:=@Nat.pow_pos
abbrev uU:=@Nat.add_mul
abbrev uV:=@Nat.min_eq_left
abbrev uW:=@decide_eq_true
abbrev uX:=@List.drop_of_length_le
abbrev uY:=@List.length_take
abbrev uZ:=@Nat.div_le_self
abbrev vA:=@decide_eq_false_iff_not
abbrev vC:=@Nat.mod_eq_of_lt
abbrev vE:=@Nat.lt_of_le_of_lt
abbrev vF:=@decide_eq_false
abbrev vG:=@Nat.div_lt_iff_lt_mul
abbrev vH:=@List.length_append
abbrev vI:=@Int.natCast_pow
abbrev vJ:=@Nat.lt_or_ge
abbrev vK:=@Bool.eq_false_iff
abbrev vL:=@Nat.add_comm
abbrev vM:=@List.drop_drop
abbrev vN:=@decide_eq_true_eq
abbrev vO:=@Nat.div_add_mod
abbrev vP:=@congrArg
abbrev vQ:=@Rat.natCast_le_natCast
abbrev vR:=@List.all_eq_true
abbrev vS:=@Int.natAbs_natCast
abbrev vT:=@Nat.pow_zero
abbrev vU:=@Nat.mul_left_comm
abbrev vV:=@Nat.mul_le_mul
abbrev vW:=@Nat.add_sub_cancel
abbrev vX:=@List.drop_set_of_lt
abbrev vY:=@Rat.mul_le_mul_of_nonneg_left
abbrev vZ:=@List.length_drop
abbrev tA:=@Nat.add_zero
abbrev tB:=@Int.natCast_mul
abbrev tC:=@List.append_assoc
abbrev tD:=@Int.natCast_ediv
abbrev tE:=@Int.natAbs_mul
abbrev tF:=@Nat.mul_lt_mul_of_pos_right
abbrev tG:=@Nat.div_eq_of_lt
abbrev tH:=@Rat.natCast_mul
abbrev tI:=@List.length_eq_zero_iff
abbrev tJ:=@List.drop_eq_getElem_cons
abbrev tK:=@Nat.mul_zero
abbrev tL:=@Nat.shiftLeft_add_eq_or_of_lt
abbrev tM:=@Int.tmod_eq_emod_of_nonneg
abbrev tN:=@Int.toNat_natCast
abbrev tO:=@Nat.add_assoc
abbrev tP:=@Option.isSome_iff_exists
abbrev tQ:=@Rat.mul_le_mul_of_nonneg_right
abbrev tR:=@Nat.mod_add_div
abbrev tS:=@List.drop_zero
abbrev tT:=@Bool.false_eq_true
abbrev tU:=@Nat.gcd_comm
abbrev tV:=@Nat.mul_pos
abbrev tW:=@Nat.lt_of_mul_lt_mul_left
abbrev tX:=@Classical.byContradiction
abbrev tY:=@beq_iff_eq
abbrev tZ:=@List.take_succ_eq_append_getElem
abbrev sA:=@Nat.div_div_eq_div_mul
abbrev sB:=@Nat.mul_one
abbrev sC:=@Nat.zero_add
abbrev sD:=@Option.map_eq_some_iff
abbrev sE:=@Rat.mul_assoc
abbrev sF:=@Nat.pow_le_pow_left
abbrev sG:=@Rat.natCast_add
abbrev sH:=@Int.tdiv_eq_ediv_of_nonneg
abbrev sI:=@Nat.zero_mul
abbrev sJ:=@Rat.le_of_lt
abbrev sK:=@Nat.shiftLeft_eq
abbrev sL:=@Bool.and_eq_true
abbrev sM:=@Nat.mul_mod_mul_right
abbrev sN:=@Nat.lt_of_mul_lt_mul_right
abbrev sO:=@Rat.num_divInt_den
abbrev sP:=@Nat.mul_add_div
abbrev sQ:=@List.length_cons
abbrev sR:=@Int.sign_eq_one_of_pos
abbrev sS:=@List.length_pos_iff
abbrev sU:=@List.take_set_of_le
abbrev sV:=@Nat.one_mul
abbrev sW:=@List.length_singleton
abbrev sX:=@Int.natCast_add
abbrev sY:=@Nat.pos_of_ne_zero
abbrev sZ:=@Nat.pow_mul
abbrev rA:=@Nat.div_lt_of_lt_mul
abbrev rB:=@Nat.div_one
abbrev rC:=@Nat.mul_mul_mul_comm
abbrev rD:=@List.all_cons
abbrev rE:=@ByteArray.size_extract
abbrev rF:=@Rat.num_nonneg
abbrev rG:=@Int.natAbs_pow
abbrev rH:=@beq_eq_false_iff_ne
abbrev rI:=@List.append_nil
abbrev rJ:=@Nat.add_mul_mod_self_left
abbrev rK:=@List.take_append_drop
abbrev rL:=@Nat.mul_div_mul_right
abbrev rM:=@Nat.le_div_iff_mul_le
abbrev rN:=@Nat.le_of_ble_eq_true
abbrev rO:=@List.getElem_mem
abbrev rP:=@Option.getD_some
abbrev rQ:=@Nat.gcd_zero_right
abbrev rR:=@Int.lt_tmod_of_pos
abbrev rS:=@Nat.zero_lt_succ
abbrev rT:=@Nat.le_of_lt
abbrev rU:=@List.mem_of_mem_take
abbrev rV:=@Nat.zero_le
abbrev rW:=@Nat.lt_trichotomy
abbrev rX:=@Nat.mul_add_mod
abbrev rY:=@List.all_append
abbrev rZ:=@Nat.div_mul_le_self
abbrev qA:=@Nat.mul_lt_mul''
abbrev qB:=@Nat.lt_of_not_le
abbrev qC:=@Int.sign_eq_neg_one_of_neg
abbrev qD:=@Int.tmod_lt_of_pos
abbrev qE:=@List.length_replicate
abbrev qF:=@Nat.lt_trans
abbrev qG:=@BitVec.ofInt_natCast
abbrev qH:=@Int.lt_trichotomy
abbrev qI:=@Nat.mul_lt_mul_right
abbrev qJ:=@Int.mul_assoc
abbrev qK:=@List.takeWhile_append_dropWhile
abbrev qL:=@Nat.mul_div_cancel_left
abbrev qM:=@decide_eq_decide
abbrev qN:=@Nat.gcd_rec
abbrev qO:=@List.eq_nil_of_length_eq_zero
abbrev qP:=@Nat.lt_or_gt_of_ne
abbrev qQ:=@Nat.sub_self
abbrev qR:=@BitVec.toNat_ofNat
abbrev qS:=@Nat.mul_div_cancel
abbrev qT:=@Option.some.inj
abbrev qU:=@if_false
abbrev qV:=@Nat.div_lt_self
abbrev qW:=@Int.mul_ne_zero
abbrev qX:=@Classical.choose_spec
abbrev qY:=@List.set_append_right
abbrev qZ:=@Rat.le_of_mul_le_mul_right
abbrev pA:=@Rat.mul_lt_mul_right
abbrev pB:=@Nat.le_sub_of_add_le
abbrev pC:=@Array.size_replicate
abbrev pD:=@Nat.gcd_le_right
abbrev pE:=@Nat.lt_succ_self
abbrev pF:=@Nat.succ_eq_add_one
abbrev pG:=@List.takeWhile_cons
abbrev pH:=@Rat.intCast_natCast
abbrev pI:=@Bool.not_true
abbrev pJ:=@Nat.sub_add_cancel
abbrev pK:=@Nat.one_lt_two_pow
abbrev pL:=@Int.neg_mul
abbrev pM:=@Nat.exists_eq_add_of_le
abbrev pN:=@Rat.le_refl
abbrev pO:=@Rat.one_mul
abbrev pP:=@Int.mul_one
abbrev pQ:=@List.length_eq_one_iff
abbrev pR:=@Int.lt_or_le
abbrev pS:=@if_true
abbrev pT:=@Int.le_total
abbrev pU:=@Rat.mul_comm
abbrev pV:=@Rat.natCast_lt_natCast
abbrev pW:=@Int.natCast_emod
abbrev pX:=@List.cons_append
abbrev pY:=@Int.one_mul
abbrev pZ:=@Int.pow_pos
abbrev oC:=@List.length_nil
abbrev oD:=@Rat.intCast_mul
abbrev oE:=@Rat.natCast_pos
abbrev oF:=@Option.map_some
abbrev oG:=@Nat.mod_le
def val (B:Nat):List Nat→Nat
 | []=>0
 | x :: xs=>x+B*val B xs
def Dig (B:Nat) (xs:List Nat):Prop:=∀ x∈xs,x<B
def Trim (xs:List Nat):Prop:=∀ k,xs.length=k+1→(xs[k]?.getD 0)≠0
variable {B:Nat} {xs ys:List Nat}
@[simp] theorem dH:val B []=0:=rfl
@[simp] theorem gO (x:Nat):val B (x :: xs)=x+B*val B xs:=rfl
theorem kH:val B (xs ++ ys)=val B xs+B^xs.length*val B ys:=by
 induction xs with
 | nil=>simp
 | cons x xs ih=>simp[ih,uO,uN,tO];rw[←uG,uF B]
theorem Dig.nil:Dig B []:=fun _ h=>by cases h
theorem Dig.cons {x:Nat}(h:x<B)(b:Dig B xs):Dig B (x :: xs):=fun y a=>by
 rcases List.mem_cons.1 a with rfl|a
 ·exact h
 exact b y a
theorem Dig.head {x:Nat}(h:Dig B (x :: xs)):x<B:=h x (by simp)
theorem Dig.tail {x:Nat}(h:Dig B (x :: xs)):Dig B xs:=fun y a=>h y (by simp[a])
theorem Dig.append (h:Dig B xs)(k:Dig B ys):Dig B (xs ++ ys):=fun y a=>by
 rcases List.mem_append.1 a with a|a
 ·exact h y a
 exact k y a
theorem Dig.take (h:Dig B xs)(k:Nat):Dig B (xs.take k):=fun y a=>h y (rU a)
theorem Dig.drop (h:Dig B xs)(k:Nat):Dig B (xs.drop k):=fun y a=>h y (List.mem_of_mem_drop a)
theorem Dig.getD (h:Dig B xs)(b:0<B)(k:Nat):(xs[k]?.getD 0)<B:=by
 rcases vJ k xs.length with a|a
 ·rw[List.getElem?_eq_getElem a];exact h _ (rO a)
 rw[List.getElem?_eq_none a];exact b
theorem Dig.set (h:Dig B xs)(k:Nat){v:Nat}(b:v<B):Dig B (xs.set k v):=fun y a=>by
 rcases List.mem_or_eq_of_mem_set a with a|a
 ·exact h y a
 exact a ▸ b
theorem Dig.replicate (a:0<B)(n:Nat):Dig B (List.replicate n 0):=fun y b=>by
 rw[(List.mem_replicate.1 b).2];exact a
theorem xZ (h:Dig B xs):val B xs<B^xs.length:=by
 induction xs with
 | nil=>simp
 | cons x xs ih =>
  have c:=h.head
  have a:=ih h.tail
  have b:B*(val B xs+1)≤B*B^xs.length:=uK B a
  rw[gO,sQ,uO,uF (B^_)]
  rw[uN] at b
  omega
theorem kS (n:Nat):val B (List.replicate n 0)=0:=by
 induction n with
 | zero=>rfl
 | succ n ih=>simp[List.replicate_succ,ih]
theorem zR (k:Nat)(h:k<xs.length):val B (xs.take (k+1))=val B (xs.take k)+B^k*(xs[k]?.getD 0):=by
 rw[tZ h,kH]
 have:(xs.take k).length=k:=by simp;omega
 rw[this]
 simp[List.getElem?_eq_getElem h]
theorem xU (k:Nat):val B xs=val B (xs.take k)+B^(min k xs.length)*val B (xs.drop k):=by
 conv=>lhs;rw[←rK k xs,kH]
 simp
theorem Zqa (h:Dig B xs)(k:Dig B ys)(hl:xs.length=ys.length)(a:val B xs=val B ys):xs=ys:=by
 induction xs generalizing ys with
 | nil=>cases ys with|nil=>rfl|cons=>cases hl
 | cons x xs ih =>
  cases ys with
  | nil=>cases hl
  | cons y ys =>
   have b:=h.head
   have c:=k.head
   simp only[gO] at a
   have d:x=y:=by
    have:=vP (· % B) a
    simpa [rJ,vC b,vC c] using this
   subst d
   have e:val B xs=val B ys:=Nat.eq_of_mul_eq_mul_left (by omega:0<B) (by omega)
   rw[ih h.tail k.tail (by simpa using hl) e]
theorem Zbx (P B V X Y x y c d a:Nat)(f:V+P*c=X+Y)(b:d+B*a=x+y+c):V+P*d+P*B*a=X+P*x+(Y+P*y):=by
 have e:=vP (P * ·) b
 simp only[uN] at e
 rw[uG]
 omega
theorem Zfs (P B V X Y x y b d b':Nat)(e:V+Y=X+P*b)(a:d+y+b=x+B*b'):V+P*d+(Y+P*y)=X+P*x+P*B*b':=by
 have c:=vP (P * ·) a
 simp only[uN] at c
 rw[uG]
 omega
theorem ZhQ (P B V Z X w z x c d c':Nat)(e:V+X*w=Z+P*c)(a:d+x*w+c=z+B*c'):V+P*d+(X+P*x)*w=Z+P*z+P*B*c':=by
 have b:=vP (P * ·) a
 simp only[uN] at b
 rw[uG,uU,uG]
 omega
theorem Zft (B V Q w r x q r':Nat)(a:V=Q*w+r)(b:r*B+x=q*w+r'):x+B*V=(q+B*Q)*w+r':=by
 subst a
 rw[uN,uU,uG]
 have:B*r=r*B:=uF _ _
 omega
theorem Zm8 (v2 b t3 d R a:Nat)(B:Nat)(e:b<R)(g:a<B)(f:B*R≤v2*R)(c:a*v2≤t3) :
 a*(v2*R+b)≤(t3*R+d)+(v2*R+b):=by
 have h:a*v2*R≤t3*R:=uC R c
 have i:a*b≤B*R:=vV (by omega) (by omega)
 rw[uN,← uG]
 omega
theorem ZdP (v2 d t3 c R a:Nat)(e:c<R)(b:t3<(a+1)*v2):t3*R+c<(a+1)*(v2*R+d):=by
 have f:(t3+1)*R≤(a+1)*v2*R:=uC R b
 rw[uN,← uG]
 rw[uU t3,sV] at f
 omega
theorem xV (k:Nat)(h:k<xs.length):val B (xs.drop k)=(xs[k]?.getD 0)+B*val B (xs.drop (k+1)):=by
 rw[tJ h,gO,List.getElem?_eq_getElem h];rfl
theorem dQ (a:Dig B xs)(g:xs.length=ys.length)(k:Nat)(b:k<xs.length)(c:xs.drop (k+1)=ys.drop (k+1))(d:(xs[k]?.getD 0)<(ys[k]?.getD 0)):val B xs<val B ys:=by
 rw[xU (xs:=xs) k,xU (xs:=ys) k,xV k b,xV k (by omega),c,uV (by omega),uV (by omega)]
 have e:=xZ (a.take k)
 rw[uY,uV (by omega)] at e
 have f:B^k*((xs[k]?.getD 0)+1)≤B^k*(ys[k]?.getD 0):=uK _ d
 rw[uN,uN]
 rw[uN] at f
 omega
theorem ZdQ (h:Trim xs){k:Nat}(a:xs.length=k+1):B^k≤val B xs:=by
 rw[xU (xs:=xs) k,xV k (by omega),uX (by omega:xs.length≤k+1),uV (by omega)]
 have b:B^k*1≤B^k*(xs[k]?.getD 0):=uK _ (by have:=h k a;omega)
 simp only[dH,tK,tA]
 omega
theorem gP (a:0<B)(b:Dig B xs)(c:Trim ys)(e:xs.length<ys.length):val B xs<val B ys:=by
 obtain⟨k,d⟩:∃ k,ys.length=k+1:=⟨ys.length-1,by omega⟩
 have f:=xZ b
 have g:=ZdQ (B:=B) c d
 have h:B^xs.length≤B^k:=uR a (by omega)
 omega
theorem jF (d:1<B)(b:Trim xs){n:Nat}(h:val B xs<B^n):xs.length≤n:=by
 rcases vJ n xs.length with a|a
 ·obtain⟨k,c⟩:∃ k,xs.length=k+1:=⟨xs.length-1,by omega⟩
  have e:=ZdQ (B:=B) b c
  have f:B^n≤B^k:=uR (by omega) (by omega)
  omega
 exact a
theorem Zi7 (b:1<B)(h:Dig B xs)(k:Dig B ys)(c:Trim xs)(d:Trim ys)(a:val B xs=val B ys):xs=ys:=by
 have e:xs.length≤ys.length:=jF b c (a ▸ xZ k)
 have f:ys.length≤xs.length:=jF b d (a ▸ xZ h)
 exact Zqa h k (by omega) a
theorem Trim.nil:Trim []:=fun k a=>by simp at a
theorem aT (h:Trim xs)(b:0<B)(a:xs≠[]):0<val B xs:=by
 obtain⟨k,c⟩:∃ k,xs.length=k+1:=⟨xs.length-1,by have:=sS.2 a;omega⟩
 have d:=ZdQ (B:=B) h c
 have:=uT (n:=k) b
 omega
theorem Ziv (h:Trim xs)(a:0<B)(b:val B xs=0):xs=[]:=by
 rcases xs with _|⟨x,xs⟩
 ·rfl
 have:=aT h a (by simp);omega
end Go.Proofs.YtklpdkpcocnglaaGreatDoor
namespace Go.Proofs.YtklpdkpcocnglaaGreatDoor
def gQ (H U v1 v0 u q r:Nat):Prop:=q*v1+r=U∧(U*H+u)/(v1*H+v0)≤q
theorem ZeF {H U v1 v0 u q r:Nat}(a:U<v1*H+v0)(c:u<H)(d:H≤q)(h:gQ H U v1 v0 u q r):gQ H U v1 v0 u (q-1) (r+v1):=by
 obtain⟨b,e⟩:=h
 have f:(U*H+u)/(v1*H+v0)<H:=by
  rw[Nat.div_lt_iff_lt_mul (by omega)]
  have:(U+1)*H≤(v1*H+v0)*H:=Nat.mul_le_mul_right H a
  rw[Nat.add_mul U 1 H,Nat.one_mul] at this
  rw[Nat.mul_comm H]
  omega
 refine⟨?_,by omega⟩
 obtain⟨p,rfl⟩:∃ p,q=p+1:=⟨q-1,by omega⟩
 rw[Nat.add_mul] at b
 simp only[Nat.add_sub_cancel]
 omega
theorem ZbA {H U v1 v0 u q r:Nat}(b:0<v1*H+v0)(c:H*r+u<q*v0)(h:gQ H U v1 v0 u q r):gQ H U v1 v0 u (q-1) (r+v1):=by
 obtain⟨a,f⟩:=h
 have d:q≠0:=by rintro rfl;omega
 have e:(U*H+u)/(v1*H+v0)<q:=by
  rw[Nat.div_lt_iff_lt_mul b,Nat.mul_add,← Nat.mul_assoc]
  have:U*H=q*v1*H+r*H:=by rw[←a,Nat.add_mul]
  rw[Nat.mul_comm H r] at c
  omega
 refine⟨?_,by omega⟩
 obtain⟨p,rfl⟩:∃ p,q=p+1:=⟨q-1,by omega⟩
 rw[Nat.add_mul] at a
 simp only[Nat.add_sub_cancel]
 omega
theorem Zal {H U v1 v0 u q r:Nat}(a:0<v1*H+v0)(b:q*v0≤H*r+u)(h:gQ H U v1 v0 u q r):q=(U*H+u)/(v1*H+v0):=by
 obtain⟨c,d⟩:=h
 refine Nat.le_antisymm ?_ d
 rw[Nat.le_div_iff_mul_le a,Nat.mul_add,← Nat.mul_assoc]
 have:U*H=q*v1*H+r*H:=by rw[←c,Nat.add_mul]
 rw[Nat.mul_comm H r] at b
 omega
theorem gF {H U v1 v0 u q r:Nat}(c:U<v1*H+v0)(a:v0<H)(b:H≤r)(h:gQ H U v1 v0 u q r):q=(U*H+u)/(v1*H+v0):=by
 refine Zal (by omega) ?_ h
 obtain⟨d,e⟩:=h
 have f:q<H:=by
  have:q*v1<H*v1:=by rw[Nat.mul_comm H];omega
  exact Nat.lt_of_mul_lt_mul_right this
 have g:q*v0≤H*H:=Nat.mul_le_mul (by omega) (by omega)
 have i:H*H≤H*r:=Nat.mul_le_mul_left H b
 omega
theorem Zqb {H Y U u1 u0:Nat}(d:0<Y)(j:U<Y)(f:u1<H)(g:u0<H) :
 (U*H+u1)/Y<H∧(U*H+u1)%Y<Y∧((U*H+u1)%Y*H+u0)/Y<H ∧
 (U*(H*H)+u1*H+u0)/Y=(U*H+u1)/Y*H+((U*H+u1)%Y*H+u0)/Y∧(U*(H*H)+u1*H+u0)%Y=((U*H+u1)%Y*H+u0)%Y:=by
 have c:∀ a b:Nat,a<Y→b<H→(a*H+b)/Y<H:=by
  intro a b k l
  rw[Nat.div_lt_iff_lt_mul d]
  have:(a+1)*H≤Y*H:=Nat.mul_le_mul_right H k
  rw[Nat.add_mul a 1 H,Nat.one_mul] at this
  rw[Nat.mul_comm H]
  omega
 have h:(U*H+u1)%Y<Y:=Nat.mod_lt _ d
 have e:=Nat.div_add_mod (U*H+u1) Y
 have i:U*(H*H)+u1*H+u0=Y*((U*H+u1)/Y*H)+((U*H+u1)%Y*H+u0):=by
  have:(U*H+u1)*H=(Y*((U*H+u1)/Y)+(U*H+u1)%Y)*H:=by rw[e]
  rw[Nat.add_mul,Nat.add_mul,Nat.mul_assoc U,Nat.mul_assoc Y] at this
  omega
 refine⟨c _ _ j f,h,c _ _ h g,?_,?_⟩
 ·rw[i,Nat.mul_add_div d]
 rw[i,Nat.mul_add_mod]
theorem ZdR (N y p:Nat)(a:0<p):N*p/(y*p)=N/y∧N*p%(y*p)/p=N%y:=by
 refine⟨Nat.mul_div_mul_right N y a,?_⟩
 rw[Nat.mul_mod_mul_right,Nat.mul_div_cancel _ a]
theorem Zkx (hi lo s:Nat)(f:s≤63) :
 (hi*18446744073709551616+lo)*2^s=(hi*2^s+lo/2^(64-s))*(4294967296*4294967296)+(lo*2^s%18446744073709551616)/4294967296*4294967296+(lo*2^s%18446744073709551616)%4294967296:=by
 have a:(18446744073709551616:Nat)=2^(64-s)*2^s:=by rw[←Nat.pow_add,show 64-s+s=64 by omega]
 have b:lo*2^s=lo/2^(64-s)*18446744073709551616+lo*2^s%18446744073709551616:=by
  have c:=Nat.div_add_mod (lo*2^s) 18446744073709551616
  have d:lo*2^s/18446744073709551616=lo/2^(64-s):=by
   rw[a,Nat.mul_div_mul_right _ _ (Nat.pow_pos (by omega))]
  rw[d,Nat.mul_comm] at c
  omega
 generalize g:lo*2^s%18446744073709551616=T at *
 have h:=Nat.div_add_mod T 4294967296
 have e:(hi*18446744073709551616+lo)*2^s=hi*2^s*18446744073709551616+lo*2^s:=by
  rw[Nat.add_mul,Nat.mul_right_comm]
 rw[e,b]
 generalize hi*2^s=A at *
 generalize lo/2^(64-s)=C at *
 rw[Nat.add_mul]
 omega
end Go.Proofs.YtklpdkpcocnglaaGreatDoor
namespace Go.Proofs.YtklpdkpcocnglaaGreatDoor
def ZeI (a b:Nat) (odd:Bool) (u0 u1 v0 v1:Nat):Prop :=
 v0=0∨∃ r0 r1:Nat,r1<r0∧r0≤b ∧
  (if odd then r0+v0*b=u0*a∧r1+u1*a=v1*b∧u0*v1=u1*v0+1 else r0+u0*a=v0*b∧r1+v1*b=u1*a∧u1*v0=u0*v1+1)
def gR (A B a b:Nat) (odd:Bool) (f s u0 u1 u2 v0 v1 v2:Nat):Prop :=
 (if odd then f+u1*A=v1*B∧s+v2*B=u2*A∧u2*v1=u1*v2+1 else f+v1*B=u1*A∧s+u2*A=v2*B∧u1*v2=u2*v1+1) ∧
 f*v2+s*v1=A∧f*u2+s*u1=B∧u2≤v2∧1≤v2∧s≤f ∧
 ((v1=0∧u1=1∧odd=false∧u2=0∧v2=1)∨(u1≤v1∧1≤v1∧∃ r:Nat,r≤b∧if odd then r+u1*a=v1*b else r+v1*b=u1*a)) ∧
 ZeI a b odd u0 u1 v0 v1
theorem gR.start {A B a b:Nat}(h:B≤A):gR A B a b false A B 0 1 0 0 0 1:=by
 refine⟨by simp,by simp,by simp,by omega,by omega,h,Or.inl ⟨rfl,rfl,rfl,rfl,rfl⟩,Or.inl rfl⟩
theorem ZkG {K A B a' b' f s u1 u2 v1 v2:Nat}(ha:a'<K)(d:b'<K)(i:f+v1*B=u1*A)(j:s+u2*A=v2*B)(a:u2≤v2)(k:v2≤s)(b:v1+v2+s≤f)(n:1≤v2) :
 ∃ e g:Nat,g<e∧e+v1*(B*K+b')=u1*(A*K+a')∧g+u2*(A*K+a')=v2*(B*K+b'):=by
 have l:u1*(A*K+a')=f*K+v1*(B*K)+u1*a':=by
  rw[Nat.mul_add,← Nat.mul_assoc,← i,Nat.add_mul,Nat.mul_assoc]
 have m:v2*(B*K+b')=s*K+u2*(A*K)+v2*b':=by
  rw[Nat.mul_add,← Nat.mul_assoc,← j,Nat.add_mul,Nat.mul_assoc]
 have o:v1*b'≤v1*K:=Nat.mul_le_mul_left _ (by omega)
 have p:u2*a'≤v2*K:=Nat.mul_le_mul a (by omega)
 have h:(v1+v2)*b'+(v1+v2)≤(v1+v2)*K:=by
  have:(v1+v2)*(b'+1)≤(v1+v2)*K:=Nat.mul_le_mul_left _ d
  rw[Nat.mul_add] at this;omega
 have q:v2*K≤s*K:=Nat.mul_le_mul_right _ k
 have c:(v1+v2+s)*K≤f*K:=Nat.mul_le_mul_right _ b
 rw[Nat.add_mul (v1+v2)] at c
 rw[Nat.add_mul v1 v2 b'] at h
 refine⟨f*K+u1*a'-v1*b',s*K+v2*b'-u2*a',?_,?_,?_⟩
 ·have:=Nat.mul_le_mul_left v1 (Nat.le_of_lt d)
  rw[Nat.add_mul] at c h
  omega
 ·rw[l,Nat.mul_add]
  rw[Nat.add_mul] at c
  omega
 rw[m,Nat.mul_add]
 omega
theorem Zmi {K A B a' b' f s u1 u2 v1 v2:Nat}(ha:a'<K)(p:b'<K)(i:f+u1*A=v1*B)(j:s+v2*B=u2*A)(a:u1≤v1)(c:u2≤v2)(k:v2≤s)(d:v1+v2+s≤f)(q:1≤v2) :
 ∃ e g:Nat,g<e∧e+u1*(A*K+a')=v1*(B*K+b')∧g+v2*(B*K+b')=u2*(A*K+a'):=by
 have l:v1*(B*K+b')=f*K+u1*(A*K)+v1*b':=by
  rw[Nat.mul_add,← Nat.mul_assoc,← i,Nat.add_mul,Nat.mul_assoc]
 have m:u2*(A*K+a')=s*K+v2*(B*K)+u2*a':=by
  rw[Nat.mul_add,← Nat.mul_assoc,← j,Nat.add_mul,Nat.mul_assoc]
 have r:u1*a'≤v1*K:=Nat.mul_le_mul a (by omega)
 have t:v2*b'≤v2*K:=Nat.mul_le_mul_left _ (by omega)
 have b:u2*a'+v2≤v2*K∨a'=0:=by
  rcases Nat.eq_zero_or_pos a' with h|h
  ·exact Or.inr h
  left
  have:v2*(a'+1)≤v2*K:=Nat.mul_le_mul_left _ ha
  rw[Nat.mul_add] at this
  have:=Nat.mul_le_mul_right a' c
  omega
 have u:v2*K≤s*K:=Nat.mul_le_mul_right _ k
 have n:(v1+v2+s)*K≤f*K:=Nat.mul_le_mul_right _ d
 rw[Nat.add_mul (v1+v2),Nat.add_mul v1 v2] at n
 have o:1≤K:=by omega
 have v:v2*1≤v2*K:=Nat.mul_le_mul_left _ o
 refine⟨f*K+v1*b'-u1*a',s*K+u2*a'-v2*b',?_,?_,?_⟩
 ·rcases b with b|b
  ·omega
  subst b
  simp only[Nat.mul_zero] at *
  omega
 ·rw[l,Nat.mul_add];omega
 rw[m,Nat.mul_add];omega
theorem gR.step {A B a b K J L:Nat}{odd:Bool}{f s u0 u1 u2 v0 v1 v2 q s':Nat}(h:gR A B a b odd f s u0 u1 u2 v0 v1 v2)(ha:a=A*K+J)(M:b=B*K+L)(m:J<K)(n:L<K)(N:v2≤s)(O:v1+v2+s≤f)(w:f=q*s+s')(T:s'<s)(D:1≤q):gR A B a b (!odd) s s' u1 u2 (u1+q*u2) v1 v2 (v1+q*v2):=by
 obtain⟨x,U,V,o,y,h6,k,_⟩:=h
 have W:1*v2≤q*v2:=Nat.mul_le_mul_right _ D
 have P:q*u2≤q*v2:=Nat.mul_le_mul_left _ o
 have Q:s*(v1+q*v2)+s'*v2=A:=by
  rw[←U,w,Nat.mul_add,Nat.add_mul]
  have:q*s*v2=s*(q*v2):=by rw[Nat.mul_comm q,Nat.mul_assoc]
  omega
 have R:s*(u1+q*u2)+s'*u2=B:=by
  rw[←V,w,Nat.mul_add,Nat.add_mul]
  have:q*s*u2=s*(q*u2):=by rw[Nat.mul_comm q,Nat.mul_assoc]
  omega
 cases odd with
 | false =>
  simp only[Bool.false_eq_true,if_false] at x k
  obtain⟨p,j,t⟩:=x
  obtain⟨z,l,E,u,i⟩:=ZkG m n p j o N O y
  rw[←ha,← M] at u i
  have c:s'+(v1+q*v2)*B=(u1+q*u2)*A:=by
   rw[Nat.add_mul,Nat.add_mul,Nat.mul_assoc,Nat.mul_assoc,← j,Nat.mul_add,← p,w]
   omega
  have d:(u1+q*u2)*v2=u2*(v1+q*v2)+1:=by
   rw[Nat.add_mul,Nat.mul_add,t,Nat.mul_left_comm u2,Nat.mul_assoc]
   omega
  have X:v1≠0→z≤b:=by
   intro C
   rcases k with ⟨F,_⟩|⟨_,_,r,g,v⟩
   ·exact absurd F C
   omega
  have g:l≤b:=by
   rcases k with ⟨_,_,_,G,H⟩|⟨_,_,r,g,v⟩
   ·subst G H;simp at i;omega
   omega
  refine⟨?_,Q,R,?_,by omega,by omega,Or.inr ⟨o,y,l,g,?_⟩,?_⟩
  ·simp only[Bool.not_false,if_true]
   exact⟨j,c,d⟩
  ·rcases k with ⟨G,H,_,Y,e4⟩|⟨S,_⟩
   ·subst G H Y e4;simp;omega
   omega
  ·simp only[Bool.not_false,if_true]
   exact i
  by_cases C:v1=0
  ·exact Or.inl C
  refine Or.inr ⟨z,l,E,X C,?_⟩
  simp only[Bool.not_false,if_true]
  exact⟨u,i,t⟩
 | true =>
  simp only[if_true] at x k
  obtain⟨p,j,t⟩:=x
  have I:u1≤v1∧1≤v1∧∃ r,r≤b∧r+u1*a=v1*b:=by
   rcases k with ⟨_,_,e,_⟩|h
   ·cases e
   exact h
  obtain⟨S,Z,r,g,v⟩:=I
  obtain⟨z,l,E,u,i⟩:=Zmi m n p j S o N O y
  rw[←ha,← M] at u i
  have c:s'+(u1+q*u2)*A=(v1+q*v2)*B:=by
   rw[Nat.add_mul,Nat.add_mul,Nat.mul_assoc,Nat.mul_assoc,← j,Nat.mul_add,← p,w]
   omega
  have d:u2*(v1+q*v2)=(u1+q*u2)*v2+1:=by
   rw[Nat.add_mul,Nat.mul_add,t,Nat.mul_left_comm u2,Nat.mul_assoc]
   omega
  refine⟨?_,Q,R,by omega,by omega,by omega,Or.inr ⟨o,y,l,by omega,?_⟩,?_⟩
  ·simp only[Bool.not_true,Bool.false_eq_true,if_false]
   exact⟨j,c,d⟩
  ·simp only[Bool.not_true,Bool.false_eq_true,if_false]
   exact i
  refine Or.inr ⟨z,l,E,by omega,?_⟩
  simp only[Bool.not_true,Bool.false_eq_true,if_false]
  exact⟨u,i,t⟩
theorem ZeI.pair {a b:Nat}{odd:Bool}{u0 u1 v0 v1:Nat}(h:ZeI a b odd u0 u1 v0 v1)(t:v0≠0) :
 ∃ c e:Nat,e<c∧c≤b∧Nat.gcd c e=Nat.gcd a b∧(if odd then c+v0*b=u0*a∧e+u1*a=v1*b else c+u0*a=v0*b∧e+v1*b=u1*a):=by
 rcases h with h|⟨c,e,u,v,d⟩
 ·exact absurd h t
 refine⟨c,e,u,v,?_,?_⟩
 ·have m:v1*c+v0*e=a∧u1*c+u0*e=b∧(∀ g,g∣a→g∣b→g∣c∧g∣e):=by
   cases odd with
   | false =>
    simp only[Bool.false_eq_true,if_false] at d
    obtain⟨f,i,j⟩:=d
    have n:=congrArg (v1 * ·) f
    have o:=congrArg (v0 * ·) i
    have p:=congrArg (u1 * ·) f
    have e4:=congrArg (u0 * ·) i
    have q:=congrArg (· * a) j
    have r:=congrArg (· * b) j
    simp only[Nat.mul_add,Nat.add_mul,Nat.one_mul] at n o p e4 q r
    refine⟨?_,?_,fun g k l=>⟨?_,?_⟩⟩
    ·simp only[Nat.mul_comm,Nat.mul_left_comm] at *;omega
    ·simp only[Nat.mul_comm,Nat.mul_left_comm] at *;omega
    ·exact (Nat.dvd_add_left (Nat.dvd_mul_left_of_dvd k u0)).1 (f ▸ Nat.dvd_mul_left_of_dvd l v0)
    exact (Nat.dvd_add_left (Nat.dvd_mul_left_of_dvd l v1)).1 (i ▸ Nat.dvd_mul_left_of_dvd k u1)
   | true =>
    simp only[if_true] at d
    obtain⟨f,i,j⟩:=d
    have n:=congrArg (v1 * ·) f
    have o:=congrArg (v0 * ·) i
    have p:=congrArg (u1 * ·) f
    have e4:=congrArg (u0 * ·) i
    have q:=congrArg (· * a) j
    have r:=congrArg (· * b) j
    simp only[Nat.mul_add,Nat.add_mul,Nat.one_mul] at n o p e4 q r
    refine⟨?_,?_,fun g k l=>⟨?_,?_⟩⟩
    ·simp only[Nat.mul_comm,Nat.mul_left_comm] at *;omega
    ·simp only[Nat.mul_comm,Nat.mul_left_comm] at *;omega
    ·exact (Nat.dvd_add_left (Nat.dvd_mul_left_of_dvd l v0)).1 (f ▸ Nat.dvd_mul_left_of_dvd k u0)
    exact (Nat.dvd_add_left (Nat.dvd_mul_left_of_dvd k u1)).1 (i ▸ Nat.dvd_mul_left_of_dvd l v1)
  obtain⟨w,x,s⟩:=m
  refine Nat.dvd_antisymm (Nat.dvd_gcd ?_ ?_) (Nat.dvd_gcd ?_ ?_)
  ·rw[←w];exact Nat.dvd_add (Nat.dvd_mul_left_of_dvd (Nat.gcd_dvd_left _ _) _) (Nat.dvd_mul_left_of_dvd (Nat.gcd_dvd_right _ _) _)
  ·rw[←x];exact Nat.dvd_add (Nat.dvd_mul_left_of_dvd (Nat.gcd_dvd_left _ _) _) (Nat.dvd_mul_left_of_dvd (Nat.gcd_dvd_right _ _) _)
  ·exact (s _ (Nat.gcd_dvd_left _ _) (Nat.gcd_dvd_right _ _)).1
  exact (s _ (Nat.gcd_dvd_left _ _) (Nat.gcd_dvd_right _ _)).2
 cases odd with
 | false=>simp only[Bool.false_eq_true,if_false] at d ⊢;exact⟨d.1,d.2.1⟩
 | true=>simp only[if_true] at d ⊢;exact⟨d.1,d.2.1⟩
end Go.Proofs.YtklpdkpcocnglaaGreatDoor
namespace Go.Proofs.YtklpdkpcocnglaaGreatDoor
end Go.Proofs.YtklpdkpcocnglaaGreatDoor
namespace Go.Proofs.YtklpdkpcocnglaaGreatDoor
end Go.Proofs.YtklpdkpcocnglaaGreatDoor
