/-
 My texts.
-/
set_option maxRecDepth 100000
set_option maxHeartbeats 8000000
namespace Go.Proofs.YtdlgidnkmbklcaaGreatDoor
section
theorem qO{p:Prop}(h:p:=by omega):p:=h
theorem qD{p:Prop}(h:p:=by decide):p:=h
theorem qS{p:Prop}(h:p:=by simp):p:=h
abbrev uA:=@List.take_of_length_le
abbrev uB:=@of_decide_eq_true
abbrev uC:=@of_decide_eq_false
abbrev uD:=@Nat.le_trans
abbrev uE:=@Nat.mul_le_mul_right
abbrev uF:=@Nat.le_refl
abbrev uG:=@Nat.mul_comm
abbrev uH:=@Nat.mul_assoc
abbrev uI:=@Nat.mul_le_mul_left
abbrev uJ:=@Nat.eq_zero_or_pos
abbrev uK:=@Nat.mul_add
abbrev uL:=@List.length_map
abbrev uM:=@List.length_take
abbrev uN:=@List.length_append
abbrev uO:=@Nat.mod_lt
abbrev uP:=@Nat.pow_succ
abbrev uQ:=@if_neg
abbrev uR:=@decide_eq_false
abbrev uS:=@Nat.lt_of_lt_of_le
abbrev uT:=@Nat.zero_le
abbrev uU:=@Nat.min_eq_left
abbrev uV:=@List.getElem?_eq_getElem
abbrev uW:=@Nat.pow_add
abbrev uX:=@congrArg
abbrev uY:=@Nat.pow_pos
abbrev uZ:=@if_pos
abbrev vA:=@List.drop_of_length_le
abbrev vC:=@Nat.add_mul
abbrev vE:=@Nat.pow_le_pow_right
abbrev vF:=@decide_eq_false_iff_not
abbrev vG:=@Nat.div_le_self
abbrev vH:=@Nat.mod_eq_of_lt
abbrev vI:=@List.all_eq_true
abbrev vJ:=@List.getElem?_drop
abbrev vK:=@Option.map_eq_some_iff
abbrev vL:=@List.getElem?_eq_none
abbrev vM:=@Nat.lt_or_ge
abbrev vN:=@Nat.lt_of_le_of_lt
abbrev vO:=@Nat.add_comm
abbrev vP:=@decide_eq_true
abbrev vQ:=@Nat.div_lt_iff_lt_mul
abbrev vR:=@List.flatMap_append
abbrev vS:=@Nat.le_of_ble_eq_true
abbrev vT:=@getElem!_pos
abbrev vU:=@List.append_assoc
abbrev vV:=@List.drop_drop
abbrev vW:=@Int.eq_ofNat_of_zero_le
abbrev vX:=@List.mem_singleton
abbrev vY:=@List.take_succ_eq_append_getElem
abbrev vZ:=@decide_eq_true_eq
abbrev tA:=@Nat.zero_add
abbrev tB:=@Nat.div_add_mod
abbrev tC:=@List.length_drop
abbrev tD:=@Bool.and_eq_true
abbrev tE:=@Nat.add_zero
abbrev tF:=@Nat.div_eq_of_lt
abbrev tG:=@List.length_eq_zero_iff
abbrev tH:=@List.length_replicate
abbrev tI:=@List.mem_append
abbrev tJ:=@List.drop_set_of_lt
abbrev tK:=@beq_eq_false_iff_ne
abbrev tL:=@Nat.mul_left_comm
abbrev tM:=@Int.natCast_pow
abbrev tN:=@Nat.add_sub_cancel
abbrev tO:=@Int.natCast_ediv
abbrev tP:=@List.getElem?_take_of_lt
abbrev tQ:=@Int.natAbs_natCast
abbrev tR:=@List.drop_eq_getElem_cons
abbrev tS:=@Nat.mul_lt_mul_of_pos_right
abbrev tT:=@List.mem_cons_self
abbrev tU:=@Int.natCast_mul
abbrev tV:=@Nat.mul_zero
abbrev tW:=@List.getElem?_set_self
abbrev tX:=@Nat.pow_zero
abbrev tY:=@Int.tmod_eq_emod_of_nonneg
abbrev tZ:=@List.getElem_mem
abbrev sB:=@List.length_cons
abbrev sC:=@List.getElem_map
abbrev sD:=@Nat.add_assoc
abbrev sE:=@List.drop_zero
abbrev sF:=@List.map_congr_left
abbrev sG:=@Nat.succ_ne_zero
abbrev sH:=@Nat.mod_add_div
abbrev sI:=@Nat.mul_le_mul
abbrev sJ:=@List.getElem?_append_right
abbrev sK:=@beq_iff_eq
abbrev sL:=@Nat.gcd_comm
abbrev sM:=@Nat.shiftLeft_add_eq_or_of_lt
abbrev sN:=@Nat.lt_of_mul_lt_mul_left
abbrev sO:=@Int.sign_eq_zero_iff_zero
abbrev sP:=@List.take_length
abbrev sQ:=@List.length_set
abbrev sR:=@List.mem_of_mem_take
abbrev sS:=@Nat.div_div_eq_div_mul
abbrev sU:=@Nat.mul_one
abbrev sW:=@Nat.div_lt_of_lt_mul
abbrev sX:=@Option.isSome_iff_exists
abbrev sY:=@Nat.zero_mul
abbrev sZ:=@Nat.pow_le_pow_left
abbrev rA:=@Int.tdiv_eq_ediv_of_nonneg
abbrev rB:=@List.mem_range
abbrev rC:=@Nat.mul_pos
abbrev rD:=@Nat.add_mul_mod_self_left
abbrev rE:=@List.mem_replicate
abbrev rF:=@Nat.mul_add_div
abbrev rG:=@Nat.mul_mod_mul_right
abbrev rH:=@List.length_range
abbrev rI:=@List.getD_eq_getElem?_getD
abbrev rJ:=@List.append_nil
abbrev rK:=@Option.map_some
abbrev rL:=@Nat.shiftLeft_eq
abbrev rM:=@List.map_map
abbrev rN:=@List.getElem?_append_left
abbrev rO:=@List.length_pos_iff
abbrev rP:=@List.take_set_of_le
abbrev rQ:=@bne_eq_false_iff_eq
abbrev rR:=@List.length_singleton
abbrev rS:=@Int.natCast_add
abbrev rT:=@Option.some.inj
abbrev rU:=@Nat.pow_mul
abbrev rV:=@List.all_cons
abbrev rW:=@Nat.lt_of_mul_lt_mul_right
abbrev rX:=@ByteArray.size_extract
abbrev rY:=@Array.getElem?_eq_some_iff
abbrev rZ:=@List.getElem_replicate
abbrev qB:=@Int.sign_eq_one_of_pos
abbrev qC:=@List.flatMap_cons
abbrev qE:=@List.take_append_drop
abbrev qF:=@Nat.mul_div_mul_right
abbrev qG:=@Option.getD_some
abbrev qH:=@Nat.gcd_zero_right
abbrev qI:=@Bool.false_eq_true
abbrev qJ:=@Nat.pos_of_ne_zero
abbrev qL:=@Nat.lt_trans
abbrev qM:=@Nat.sub_self
abbrev qP:=@List.getElem_append_left
abbrev qQ:=@List.eq_nil_of_length_eq_zero
abbrev qR:=@Option.some.injEq
abbrev qT:=@Int.toNat_natCast
abbrev qU:=@Bool.eq_false_iff
abbrev qV:=@Nat.mul_add_mod
abbrev qW:=@List.nil_append
abbrev qX:=@List.all_append
abbrev qY:=@Bool.or_eq_true
abbrev qZ:=@Nat.le_of_lt
abbrev pA:=@Int.sign_eq_neg_one_of_neg
abbrev pB:=@List.set_append_right
abbrev pC:=@List.mem_of_mem_drop
abbrev pD:=@Nat.mul_lt_mul_right
abbrev pE:=@List.size_toArray
abbrev pF:=@Nat.succ_mul
abbrev pG:=@List.takeWhile_append_dropWhile
abbrev pH:=@List.mem_map_of_mem
abbrev pI:=@List.getElem?_replicate
abbrev pJ:=@Nat.one_mul
abbrev pK:=@Nat.lt_or_gt_of_ne
abbrev pL:=@Int.natCast_nonneg
abbrev pM:=@Nat.sub_add_cancel
abbrev pN:=@List.map_singleton
abbrev pO:=@List.map_append
abbrev pP:=@Classical.choose_spec
abbrev pQ:=@Nat.le_div_iff_mul_le
abbrev pR:=@BitVec.ofInt_natCast
abbrev pS:=@Nat.gcd_rec
abbrev pT:=@List.replicate_succ'
abbrev pU:=@List.getElem_toArray
abbrev pV:=@Nat.div_one
abbrev pW:=@Nat.le_sub_of_add_le
abbrev pX:=@Nat.pow_lt_pow_right
abbrev pY:=@Array.size_replicate
abbrev pZ:=@List.ext_getElem
abbrev oC:=@Nat.gcd_le_right
abbrev oD:=@Nat.lt_of_not_le
abbrev oE:=@decide_eq_decide
abbrev oF:=@Nat.zero_lt_succ
abbrev oG:=@List.mem_or_eq_of_mem_set
abbrev oH:=@List.getElem_append_right
abbrev oI:=@List.pairwise_iff_getElem
abbrev oJ:=@List.replicate_succ
abbrev oK:=@List.takeWhile_cons
abbrev oL:=@Array.toList_append
abbrev oM:=@List.getElem_of_mem
abbrev oN:=@Nat.div_lt_self
abbrev oO:=@Rat.num_intCast
abbrev oP:=@Nat.and_one_is_mod
abbrev oQ:=@BitVec.toNat_ofNat
abbrev oR:=@Nat.mul_div_cancel
abbrev oS:=@List.map_replicate
abbrev oT:=@Nat.mul_div_cancel_left
abbrev oU:=@Option.bind_eq_some_iff
abbrev oV:=@List.length_eq_one_iff
abbrev oW:=@Int.lt_or_le
abbrev oX:=@List.mem_map
abbrev oZ:=@List.head?_eq_none_iff
abbrev nA:=@getElem?_pos
abbrev nB:=@Nat.le_of_eq
abbrev nC:=@List.flatMap_singleton
abbrev nD:=@Nat.eq_of_beq_eq_true
abbrev nE:=@Array.getElem?_toList
abbrev nF:=@Nat.mul_lt_mul''
abbrev nG:=@Int.natCast_emod
abbrev nH:=@List.drop_append
abbrev nI:=@List.cons_append
abbrev nJ:=@List.length_nil
abbrev nK:=@Rat.den_intCast
abbrev nL:=@Nat.zero_mod
abbrev nM:=@if_false
abbrev nN:=@Nat.mod_le
def val (B:Nat):List Nat→Nat
 | []=>0
 | x :: xs=>x+B*val B xs
def Dig (B:Nat) (xs:List Nat):Prop:=∀ x∈xs,x<B
def Trim (xs:List Nat):Prop:=∀ k,xs.length=k+1→(xs[k]?.getD 0)≠0
variable {B:Nat} {xs ys:List Nat}
@[simp] theorem eQ:val B []=0:=rfl
@[simp] theorem iP (x:Nat):val B (x :: xs)=x+B*val B xs:=rfl
theorem kK:val B (xs ++ ys)=val B xs+B^xs.length*val B ys:=by
 induction xs with
 | nil=>simp
 | cons x xs ih=>simp[ih,uP,uK,sD];rw[←uH,uG B]
theorem Dig.nil:Dig B []:=fun _ h=>by cases h
theorem Dig.cons {x:Nat}(h:x<B)(b:Dig B xs):Dig B (x :: xs):=fun y a=>by
 rcases List.mem_cons.1 a with rfl|a
 ·exact h
 exact b y a
theorem Dig.head {x:Nat}(h:Dig B (x :: xs)):x<B:=h x (by simp)
theorem Dig.tail {x:Nat}(h:Dig B (x :: xs)):Dig B xs:=fun y a=>h y (by simp[a])
theorem Dig.append (h:Dig B xs)(k:Dig B ys):Dig B (xs ++ ys):=fun y a=>by
 rcases tI.1 a with a|a
 ·exact h y a
 exact k y a
theorem Dig.take (h:Dig B xs)(k:Nat):Dig B (xs.take k):=fun y a=>h y (sR a)
theorem Dig.drop (h:Dig B xs)(k:Nat):Dig B (xs.drop k):=fun y a=>h y (pC a)
theorem Dig.getD (h:Dig B xs)(b:0<B)(k:Nat):(xs[k]?.getD 0)<B:=by
 rcases vM k xs.length with a|a
 ·rw[uV a];exact h _ (tZ a)
 rw[vL a];exact b
theorem Dig.set (h:Dig B xs)(k:Nat){v:Nat}(b:v<B):Dig B (xs.set k v):=fun y a=>by
 rcases oG a with a|a
 ·exact h y a
 exact a ▸ b
theorem Dig.replicate (a:0<B)(n:Nat):Dig B (List.replicate n 0):=fun y b=>by
 rw[(rE.1 b).2];exact a
theorem xZ (h:Dig B xs):val B xs<B^xs.length:=by
 induction xs with
 | nil=>simp
 | cons x xs ih =>
  have c:=h.head
  have a:=ih h.tail
  have b:B*(val B xs+1)≤B*B^xs.length:=uI B a
  rw[iP,sB,uP,uG (B^_)]
  rw[uK] at b
  omega
theorem kS (n:Nat):val B (List.replicate n 0)=0:=by
 induction n with
 | zero=>rfl
 | succ n ih=>simp[oJ,ih]
theorem zU (k:Nat)(h:k<xs.length):val B (xs.take (k+1))=val B (xs.take k)+B^k*(xs[k]?.getD 0):=by
 rw[vY h,kK]
 have:(xs.take k).length=k:=by simp;omega
 rw[this]
 simp[uV h]
theorem xS (k:Nat):val B xs=val B (xs.take k)+B^(min k xs.length)*val B (xs.drop k):=by
 conv=>lhs;rw[←qE k xs,kK]
 simp
theorem Zqb (h:Dig B xs)(k:Dig B ys)(hl:xs.length=ys.length)(a:val B xs=val B ys):xs=ys:=by
 induction xs generalizing ys with
 | nil=>cases ys with|nil=>rfl|cons=>cases hl
 | cons x xs ih =>
  cases ys with
  | nil=>cases hl
  | cons y ys =>
   have b:=h.head
   have c:=k.head
   simp only[iP] at a
   have d:x=y:=by
    have:=uX (· % B) a
    simpa [rD,vH b,vH c] using this
   subst d
   have e:val B xs=val B ys:=Nat.eq_of_mul_eq_mul_left (by omega:0<B) (by omega)
   rw[ih h.tail k.tail (by simpa using hl) e]
theorem ZaZ (P B V X Y x y c d a:Nat)(f:V+P*c=X+Y)(b:d+B*a=x+y+c):V+P*d+P*B*a=X+P*x+(Y+P*y):=by
 have e:=uX (P * ·) b
 simp only[uK] at e
 rw[uH]
 omega
theorem Ze0 (P B V X Y x y b d b':Nat)(e:V+Y=X+P*b)(a:d+y+b=x+B*b'):V+P*d+(Y+P*y)=X+P*x+P*B*b':=by
 have c:=uX (P * ·) a
 simp only[uK] at c
 rw[uH]
 omega
theorem Zg2 (P B V Z X w z x c d c':Nat)(e:V+X*w=Z+P*c)(a:d+x*w+c=z+B*c'):V+P*d+(X+P*x)*w=Z+P*z+P*B*c':=by
 have b:=uX (P * ·) a
 simp only[uK] at b
 rw[uH,vC,uH]
 omega
theorem Ze1 (B V Q w r x q r':Nat)(a:V=Q*w+r)(b:r*B+x=q*w+r'):x+B*V=(q+B*Q)*w+r':=by
 subst a
 rw[uK,vC,uH]
 have:B*r=r*B:=uG _ _
 omega
theorem ZmF (v2 b t3 d R a:Nat)(B:Nat)(e:b<R)(g:a<B)(f:B*R≤v2*R)(c:a*v2≤t3) :
 a*(v2*R+b)≤(t3*R+d)+(v2*R+b):=by
 have h:a*v2*R≤t3*R:=uE R c
 have i:a*b≤B*R:=sI (by omega) (by omega)
 rw[uK,← uH]
 omega
theorem Zdk (v2 d t3 c R a:Nat)(e:c<R)(b:t3<(a+1)*v2):t3*R+c<(a+1)*(v2*R+d):=by
 have f:(t3+1)*R≤(a+1)*v2*R:=uE R b
 rw[uK,← uH]
 rw[vC t3,pJ] at f
 omega
theorem xT (k:Nat)(h:k<xs.length):val B (xs.drop k)=(xs[k]?.getD 0)+B*val B (xs.drop (k+1)):=by
 rw[tR h,iP,uV h];rfl
theorem dA (a:Dig B xs)(g:xs.length=ys.length)(k:Nat)(b:k<xs.length)(c:xs.drop (k+1)=ys.drop (k+1))(d:(xs[k]?.getD 0)<(ys[k]?.getD 0)):val B xs<val B ys:=by
 rw[xS (xs:=xs) k,xS (xs:=ys) k,xT k b,xT k (by omega),c,uU (by omega),uU (by omega)]
 have e:=xZ (a.take k)
 rw[uM,uU (by omega)] at e
 have f:B^k*((xs[k]?.getD 0)+1)≤B^k*(ys[k]?.getD 0):=uI _ d
 rw[uK,uK]
 rw[uK] at f
 omega
theorem Zdl (h:Trim xs){k:Nat}(a:xs.length=k+1):B^k≤val B xs:=by
 rw[xS (xs:=xs) k,xT k (by omega),vA (by omega:xs.length≤k+1),uU (by omega)]
 have b:B^k*1≤B^k*(xs[k]?.getD 0):=uI _ (by have:=h k a;omega)
 simp only[eQ,tV,tE]
 omega
theorem gK (a:0<B)(b:Dig B xs)(c:Trim ys)(e:xs.length<ys.length):val B xs<val B ys:=by
 obtain⟨k,d⟩:∃ k,ys.length=k+1:=⟨ys.length-1,by omega⟩
 have f:=xZ b
 have g:=Zdl (B:=B) c d
 have h:B^xs.length≤B^k:=vE a (by omega)
 omega
theorem jB (d:1<B)(b:Trim xs){n:Nat}(h:val B xs<B^n):xs.length≤n:=by
 rcases vM n xs.length with a|a
 ·obtain⟨k,c⟩:∃ k,xs.length=k+1:=⟨xs.length-1,by omega⟩
  have e:=Zdl (B:=B) b c
  have f:B^n≤B^k:=vE (by omega) (by omega)
  omega
 exact a
theorem Ziu (b:1<B)(h:Dig B xs)(k:Dig B ys)(c:Trim xs)(d:Trim ys)(a:val B xs=val B ys):xs=ys:=by
 have e:xs.length≤ys.length:=jB b c (a ▸ xZ k)
 have f:ys.length≤xs.length:=jB b d (a ▸ xZ h)
 exact Zqb h k (by omega) a
theorem Trim.nil:Trim []:=fun k a=>by simp at a
theorem aF (h:Trim xs)(b:0<B)(a:xs≠[]):0<val B xs:=by
 obtain⟨k,c⟩:∃ k,xs.length=k+1:=⟨xs.length-1,by have:=rO.2 a;omega⟩
 have d:=Zdl (B:=B) h c
 have:=uY (n:=k) b
 omega
theorem ZhU (h:Trim xs)(a:0<B)(b:val B xs=0):xs=[]:=by
 rcases xs with _|⟨x,xs⟩
 ·rfl
 have:=aF h a (by simp);omega
end
def gL (H U v1 v0 u q r:Nat):Prop:=q*v1+r=U∧(U*H+u)/(v1*H+v0)≤q
theorem Zd7 {H U v1 v0 u q r:Nat}(a:U<v1*H+v0)(c:u<H)(d:H≤q)(h:gL H U v1 v0 u q r):gL H U v1 v0 u (q-1) (r+v1):=by
 obtain⟨b,e⟩:=h
 have f:(U*H+u)/(v1*H+v0)<H:=by
  rw[Nat.div_lt_iff_lt_mul (by omega)]
  have:(U+1)*H≤(v1*H+v0)*H:=Nat.mul_le_mul_right H a
  rw[Nat.add_mul U 1 H,Nat.one_mul] at this
  rw[Nat.mul_comm H]
  omega
 refine⟨?_,by omega⟩
 obtain⟨p,rfl⟩:∃ p,q=p+1:=⟨q-1,by omega⟩
 rw[Nat.add_mul] at b
 simp only[Nat.add_sub_cancel]
 omega
theorem Za2 {H U v1 v0 u q r:Nat}(b:0<v1*H+v0)(c:H*r+u<q*v0)(h:gL H U v1 v0 u q r):gL H U v1 v0 u (q-1) (r+v1):=by
 obtain⟨a,f⟩:=h
 have d:q≠0:=by rintro rfl;omega
 have e:(U*H+u)/(v1*H+v0)<q:=by
  rw[Nat.div_lt_iff_lt_mul b,Nat.mul_add,← Nat.mul_assoc]
  have:U*H=q*v1*H+r*H:=by rw[←a,Nat.add_mul]
  rw[Nat.mul_comm H r] at c
  omega
 refine⟨?_,by omega⟩
 obtain⟨p,rfl⟩:∃ p,q=p+1:=⟨q-1,by omega⟩
 rw[Nat.add_mul] at a
 simp only[Nat.add_sub_cancel]
 omega
theorem aX {H U v1 v0 u q r:Nat}(a:0<v1*H+v0)(b:q*v0≤H*r+u)(h:gL H U v1 v0 u q r):q=(U*H+u)/(v1*H+v0):=by
 obtain⟨c,d⟩:=h
 refine Nat.le_antisymm ?_ d
 rw[Nat.le_div_iff_mul_le a,Nat.mul_add,← Nat.mul_assoc]
 have:U*H=q*v1*H+r*H:=by rw[←c,Nat.add_mul]
 rw[Nat.mul_comm H r] at b
 omega
theorem gB {H U v1 v0 u q r:Nat}(c:U<v1*H+v0)(a:v0<H)(b:H≤r)(h:gL H U v1 v0 u q r):q=(U*H+u)/(v1*H+v0):=by
 refine aX (by omega) ?_ h
 obtain⟨d,e⟩:=h
 have f:q<H:=by
  have:q*v1<H*v1:=by rw[Nat.mul_comm H];omega
  exact Nat.lt_of_mul_lt_mul_right this
 have g:q*v0≤H*H:=Nat.mul_le_mul (by omega) (by omega)
 have i:H*H≤H*r:=Nat.mul_le_mul_left H b
 omega
theorem Zqc {H Y U u1 u0:Nat}(d:0<Y)(j:U<Y)(f:u1<H)(g:u0<H) :
 (U*H+u1)/Y<H∧(U*H+u1)%Y<Y∧((U*H+u1)%Y*H+u0)/Y<H ∧
 (U*(H*H)+u1*H+u0)/Y=(U*H+u1)/Y*H+((U*H+u1)%Y*H+u0)/Y∧(U*(H*H)+u1*H+u0)%Y=((U*H+u1)%Y*H+u0)%Y:=by
 have c:∀ a b:Nat,a<Y→b<H→(a*H+b)/Y<H:=by
  intro a b k l
  rw[Nat.div_lt_iff_lt_mul d]
  have:(a+1)*H≤Y*H:=Nat.mul_le_mul_right H k
  rw[Nat.add_mul a 1 H,Nat.one_mul] at this
  rw[Nat.mul_comm H]
  omega
 have h:(U*H+u1)%Y<Y:=Nat.mod_lt _ d
 have e:=Nat.div_add_mod (U*H+u1) Y
 have i:U*(H*H)+u1*H+u0=Y*((U*H+u1)/Y*H)+((U*H+u1)%Y*H+u0):=by
  have:(U*H+u1)*H=(Y*((U*H+u1)/Y)+(U*H+u1)%Y)*H:=by rw[e]
  rw[Nat.add_mul,Nat.add_mul,Nat.mul_assoc U,Nat.mul_assoc Y] at this
  omega
 refine⟨c _ _ j f,h,c _ _ h g,?_,?_⟩
 ·rw[i,Nat.mul_add_div d]
 rw[i,Nat.mul_add_mod]
theorem Zdn (N y p:Nat)(a:0<p):N*p/(y*p)=N/y∧N*p%(y*p)/p=N%y:=by
 refine⟨Nat.mul_div_mul_right N y a,?_⟩
 rw[Nat.mul_mod_mul_right,Nat.mul_div_cancel _ a]
theorem ZjT (hi lo s:Nat)(f:s≤63) :
 (hi*18446744073709551616+lo)*2^s=(hi*2^s+lo/2^(64-s))*(4294967296*4294967296)+(lo*2^s%18446744073709551616)/4294967296*4294967296+(lo*2^s%18446744073709551616)%4294967296:=by
 have a:(18446744073709551616:Nat)=2^(64-s)*2^s:=by rw[←Nat.pow_add,show 64-s+s=64 by omega]
 have b:lo*2^s=lo/2^(64-s)*18446744073709551616+lo*2^s%18446744073709551616:=by
  have c:=Nat.div_add_mod (lo*2^s) 18446744073709551616
  have d:lo*2^s/18446744073709551616=lo/2^(64-s):=by
   rw[a,Nat.mul_div_mul_right _ _ (Nat.pow_pos (by omega))]
  rw[d,Nat.mul_comm] at c
  omega
 generalize g:lo*2^s%18446744073709551616=T at *
 have h:=Nat.div_add_mod T 4294967296
 have e:(hi*18446744073709551616+lo)*2^s=hi*2^s*18446744073709551616+lo*2^s:=by
  rw[Nat.add_mul,Nat.mul_right_comm]
 rw[e,b]
 generalize hi*2^s=A at *
 generalize lo/2^(64-s)=C at *
 rw[Nat.add_mul]
 omega
def Zea (a b:Nat) (odd:Bool) (u0 u1 v0 v1:Nat):Prop :=
 v0=0∨∃ r0 r1:Nat,r1<r0∧r0≤b ∧
  (if odd then r0+v0*b=u0*a∧r1+u1*a=v1*b∧u0*v1=u1*v0+1 else r0+u0*a=v0*b∧r1+v1*b=u1*a∧u1*v0=u0*v1+1)
def gN (A B a b:Nat) (odd:Bool) (f s u0 u1 u2 v0 v1 v2:Nat):Prop :=
 (if odd then f+u1*A=v1*B∧s+v2*B=u2*A∧u2*v1=u1*v2+1 else f+v1*B=u1*A∧s+u2*A=v2*B∧u1*v2=u2*v1+1) ∧
 f*v2+s*v1=A∧f*u2+s*u1=B∧u2≤v2∧1≤v2∧s≤f ∧
 ((v1=0∧u1=1∧odd=false∧u2=0∧v2=1)∨(u1≤v1∧1≤v1∧∃ r:Nat,r≤b∧if odd then r+u1*a=v1*b else r+v1*b=u1*a)) ∧
 Zea a b odd u0 u1 v0 v1
theorem gN.start {A B a b:Nat}(h:B≤A):gN A B a b false A B 0 1 0 0 0 1:=by
 refine⟨by simp,by simp,by simp,by omega,by omega,h,Or.inl ⟨rfl,rfl,rfl,rfl,rfl⟩,Or.inl rfl⟩
theorem Zj2 {K A B a' b' f s u1 u2 v1 v2:Nat}(ha:a'<K)(d:b'<K)(h:f+v1*B=u1*A)(i:s+u2*A=v2*B)(a:u2≤v2)(j:v2≤s)(b:v1+v2+s≤f)(m:1≤v2) :
 ∃ r0 e:Nat,e<r0∧r0+v1*(B*K+b')=u1*(A*K+a')∧e+u2*(A*K+a')=v2*(B*K+b'):=by
 have k:u1*(A*K+a')=f*K+v1*(B*K)+u1*a':=by
  rw[Nat.mul_add,← Nat.mul_assoc,← h,Nat.add_mul,Nat.mul_assoc]
 have l:v2*(B*K+b')=s*K+u2*(A*K)+v2*b':=by
  rw[Nat.mul_add,← Nat.mul_assoc,← i,Nat.add_mul,Nat.mul_assoc]
 have n:v1*b'≤v1*K:=Nat.mul_le_mul_left _ (by omega)
 have o:u2*a'≤v2*K:=Nat.mul_le_mul a (by omega)
 have g:(v1+v2)*b'+(v1+v2)≤(v1+v2)*K:=by
  have:(v1+v2)*(b'+1)≤(v1+v2)*K:=Nat.mul_le_mul_left _ d
  rw[Nat.mul_add] at this;omega
 have p:v2*K≤s*K:=Nat.mul_le_mul_right _ j
 have c:(v1+v2+s)*K≤f*K:=Nat.mul_le_mul_right _ b
 rw[Nat.add_mul (v1+v2)] at c
 rw[Nat.add_mul v1 v2 b'] at g
 refine⟨f*K+u1*a'-v1*b',s*K+v2*b'-u2*a',?_,?_,?_⟩
 ·have:=Nat.mul_le_mul_left v1 (Nat.le_of_lt d)
  rw[Nat.add_mul] at c g
  omega
 ·rw[k,Nat.mul_add]
  rw[Nat.add_mul] at c
  omega
 rw[l,Nat.mul_add]
 omega
theorem ZlL {K A B a' b' f s u1 u2 v1 v2:Nat}(ha:a'<K)(o:b'<K)(g:f+u1*A=v1*B)(i:s+v2*B=u2*A)(a:u1≤v1)(c:u2≤v2)(j:v2≤s)(d:v1+v2+s≤f)(p:1≤v2) :
 ∃ r0 e:Nat,e<r0∧r0+u1*(A*K+a')=v1*(B*K+b')∧e+v2*(B*K+b')=u2*(A*K+a'):=by
 have k:v1*(B*K+b')=f*K+u1*(A*K)+v1*b':=by
  rw[Nat.mul_add,← Nat.mul_assoc,← g,Nat.add_mul,Nat.mul_assoc]
 have l:u2*(A*K+a')=s*K+v2*(B*K)+u2*a':=by
  rw[Nat.mul_add,← Nat.mul_assoc,← i,Nat.add_mul,Nat.mul_assoc]
 have q:u1*a'≤v1*K:=Nat.mul_le_mul a (by omega)
 have r:v2*b'≤v2*K:=Nat.mul_le_mul_left _ (by omega)
 have b:u2*a'+v2≤v2*K∨a'=0:=by
  rcases Nat.eq_zero_or_pos a' with h|h
  ·exact Or.inr h
  left
  have:v2*(a'+1)≤v2*K:=Nat.mul_le_mul_left _ ha
  rw[Nat.mul_add] at this
  have:=Nat.mul_le_mul_right a' c
  omega
 have t:v2*K≤s*K:=Nat.mul_le_mul_right _ j
 have m:(v1+v2+s)*K≤f*K:=Nat.mul_le_mul_right _ d
 rw[Nat.add_mul (v1+v2),Nat.add_mul v1 v2] at m
 have n:1≤K:=by omega
 have u:v2*1≤v2*K:=Nat.mul_le_mul_left _ n
 refine⟨f*K+v1*b'-u1*a',s*K+u2*a'-v2*b',?_,?_,?_⟩
 ·rcases b with b|b
  ·omega
  subst b
  simp only[Nat.mul_zero] at *
  omega
 ·rw[k,Nat.mul_add];omega
 rw[l,Nat.mul_add];omega
theorem gN.step {A B a b K H I:Nat}{odd:Bool}{f s u0 u1 u2 v0 v1 v2 q s':Nat}(h:gN A B a b odd f s u0 u1 u2 v0 v1 v2)(ha:a=A*K+H)(J:b=B*K+I)(m:H<K)(n:I<K)(L:v2≤s)(M:v1+v2+s≤f)(w:f=q*s+s')(R:s'<s)(C:1≤q):gN A B a b (!odd) s s' u1 u2 (u1+q*u2) v1 v2 (v1+q*v2):=by
 obtain⟨x,S,T,o,y,Y,k,_⟩:=h
 have U:1*v2≤q*v2:=Nat.mul_le_mul_right _ C
 have N:q*u2≤q*v2:=Nat.mul_le_mul_left _ o
 have O:s*(v1+q*v2)+s'*v2=A:=by
  rw[←S,w,Nat.mul_add,Nat.add_mul]
  have:q*s*v2=s*(q*v2):=by rw[Nat.mul_comm q,Nat.mul_assoc]
  omega
 have P:s*(u1+q*u2)+s'*u2=B:=by
  rw[←T,w,Nat.mul_add,Nat.add_mul]
  have:q*s*u2=s*(q*u2):=by rw[Nat.mul_comm q,Nat.mul_assoc]
  omega
 cases odd with
 | false =>
  simp only[Bool.false_eq_true,if_false] at x k
  obtain⟨p,j,t⟩:=x
  obtain⟨r0,l,k1,u,i⟩:=Zj2 m n p j o L M y
  rw[←ha,← J] at u i
  have c:s'+(v1+q*v2)*B=(u1+q*u2)*A:=by
   rw[Nat.add_mul,Nat.add_mul,Nat.mul_assoc,Nat.mul_assoc,← j,Nat.mul_add,← p,w]
   omega
  have d:(u1+q*u2)*v2=u2*(v1+q*v2)+1:=by
   rw[Nat.add_mul,Nat.mul_add,t,Nat.mul_left_comm u2,Nat.mul_assoc]
   omega
  have V:v1≠0→r0≤b:=by
   intro z
   rcases k with ⟨D,_⟩|⟨_,_,r,g,v⟩
   ·exact absurd D z
   omega
  have g:l≤b:=by
   rcases k with ⟨_,_,_,E,F⟩|⟨_,_,r,g,v⟩
   ·subst E F;simp at i;omega
   omega
  refine⟨?_,O,P,?_,by omega,by omega,Or.inr ⟨o,y,l,g,?_⟩,?_⟩
  ·simp only[Bool.not_false,if_true]
   exact⟨j,c,d⟩
  ·rcases k with ⟨E,F,_,W,e4⟩|⟨Q,_⟩
   ·subst E F W e4;simp;omega
   omega
  ·simp only[Bool.not_false,if_true]
   exact i
  by_cases z:v1=0
  ·exact Or.inl z
  refine Or.inr ⟨r0,l,k1,V z,?_⟩
  simp only[Bool.not_false,if_true]
  exact⟨u,i,t⟩
 | true =>
  simp only[if_true] at x k
  obtain⟨p,j,t⟩:=x
  have G:u1≤v1∧1≤v1∧∃ r,r≤b∧r+u1*a=v1*b:=by
   rcases k with ⟨_,_,e,_⟩|h
   ·cases e
   exact h
  obtain⟨Q,X,r,g,v⟩:=G
  obtain⟨r0,l,k1,u,i⟩:=ZlL m n p j Q o L M y
  rw[←ha,← J] at u i
  have c:s'+(u1+q*u2)*A=(v1+q*v2)*B:=by
   rw[Nat.add_mul,Nat.add_mul,Nat.mul_assoc,Nat.mul_assoc,← j,Nat.mul_add,← p,w]
   omega
  have d:u2*(v1+q*v2)=(u1+q*u2)*v2+1:=by
   rw[Nat.add_mul,Nat.mul_add,t,Nat.mul_left_comm u2,Nat.mul_assoc]
   omega
  refine⟨?_,O,P,by omega,by omega,by omega,Or.inr ⟨o,y,l,by omega,?_⟩,?_⟩
  ·simp only[Bool.not_true,Bool.false_eq_true,if_false]
   exact⟨j,c,d⟩
  ·simp only[Bool.not_true,Bool.false_eq_true,if_false]
   exact i
  refine Or.inr ⟨r0,l,k1,by omega,?_⟩
  simp only[Bool.not_true,Bool.false_eq_true,if_false]
  exact⟨u,i,t⟩
theorem Zea.pair {a b:Nat}{odd:Bool}{u0 u1 v0 v1:Nat}(h:Zea a b odd u0 u1 v0 v1)(s:v0≠0) :
 ∃ r0 d:Nat,d<r0∧r0≤b∧Nat.gcd r0 d=Nat.gcd a b∧(if odd then r0+v0*b=u0*a∧d+u1*a=v1*b else r0+u0*a=v0*b∧d+v1*b=u1*a):=by
 rcases h with h|⟨r0,d,t,u,c⟩
 ·exact absurd h s
 refine⟨r0,d,t,u,?_,?_⟩
 ·have l:v1*r0+v0*d=a∧u1*r0+u0*d=b∧(∀ g,g∣a→g∣b→g∣r0∧g∣d):=by
   cases odd with
   | false =>
    simp only[Bool.false_eq_true,if_false] at c
    obtain⟨e,f,i⟩:=c
    have m:=congrArg (v1 * ·) e
    have n:=congrArg (v0 * ·) f
    have o:=congrArg (u1 * ·) e
    have e4:=congrArg (u0 * ·) f
    have p:=congrArg (· * a) i
    have q:=congrArg (· * b) i
    simp only[Nat.mul_add,Nat.add_mul,Nat.one_mul] at m n o e4 p q
    refine⟨?_,?_,fun g j k=>⟨?_,?_⟩⟩
    ·simp only[Nat.mul_comm,Nat.mul_left_comm] at *;omega
    ·simp only[Nat.mul_comm,Nat.mul_left_comm] at *;omega
    ·exact (Nat.dvd_add_left (Nat.dvd_mul_left_of_dvd j u0)).1 (e ▸ Nat.dvd_mul_left_of_dvd k v0)
    exact (Nat.dvd_add_left (Nat.dvd_mul_left_of_dvd k v1)).1 (f ▸ Nat.dvd_mul_left_of_dvd j u1)
   | true =>
    simp only[if_true] at c
    obtain⟨e,f,i⟩:=c
    have m:=congrArg (v1 * ·) e
    have n:=congrArg (v0 * ·) f
    have o:=congrArg (u1 * ·) e
    have e4:=congrArg (u0 * ·) f
    have p:=congrArg (· * a) i
    have q:=congrArg (· * b) i
    simp only[Nat.mul_add,Nat.add_mul,Nat.one_mul] at m n o e4 p q
    refine⟨?_,?_,fun g j k=>⟨?_,?_⟩⟩
    ·simp only[Nat.mul_comm,Nat.mul_left_comm] at *;omega
    ·simp only[Nat.mul_comm,Nat.mul_left_comm] at *;omega
    ·exact (Nat.dvd_add_left (Nat.dvd_mul_left_of_dvd k v0)).1 (e ▸ Nat.dvd_mul_left_of_dvd j u0)
    exact (Nat.dvd_add_left (Nat.dvd_mul_left_of_dvd j u1)).1 (f ▸ Nat.dvd_mul_left_of_dvd k v1)
  obtain⟨k1,v,r⟩:=l
  refine Nat.dvd_antisymm (Nat.dvd_gcd ?_ ?_) (Nat.dvd_gcd ?_ ?_)
  ·rw[←k1];exact Nat.dvd_add (Nat.dvd_mul_left_of_dvd (Nat.gcd_dvd_left _ _) _) (Nat.dvd_mul_left_of_dvd (Nat.gcd_dvd_right _ _) _)
  ·rw[←v];exact Nat.dvd_add (Nat.dvd_mul_left_of_dvd (Nat.gcd_dvd_left _ _) _) (Nat.dvd_mul_left_of_dvd (Nat.gcd_dvd_right _ _) _)
  ·exact (r _ (Nat.gcd_dvd_left _ _) (Nat.gcd_dvd_right _ _)).1
  exact (r _ (Nat.gcd_dvd_left _ _) (Nat.gcd_dvd_right _ _)).2
 cases odd with
 | false=>simp only[Bool.false_eq_true,if_false] at c ⊢;exact⟨c.1,c.2.1⟩
 | true=>simp only[if_true] at c ⊢;exact⟨c.1,c.2.1⟩
end Go.Proofs.YtdlgidnkmbklcaaGreatDoor
