/-
 My texts.
-/
set_option maxRecDepth 100000
set_option maxHeartbeats 8000000
namespace Go.Proofs.YtenchljfmfgeoaaGreatDoor
section
theorem qO{p:Prop}(h:p:=by omega):p:=h
theorem qD{p:Prop}(h:p:=by decide):p:=h
theorem qS{p:Prop}(h:p:=by simp):p:=h
abbrev uA:=@List.take_of_length_le
abbrev uB:=@of_decide_eq_true
abbrev uC:=@Nat.le_trans
abbrev uD:=@of_decide_eq_false
abbrev uE:=@Nat.mul_le_mul_right
abbrev uF:=@Nat.mul_comm
abbrev uG:=@Nat.mul_assoc
abbrev uH:=@Nat.le_refl
abbrev uI:=@Nat.eq_zero_or_pos
abbrev uJ:=@Nat.mul_le_mul_left
abbrev uK:=@Nat.mul_add
abbrev uL:=@if_neg
abbrev uM:=@Nat.mod_lt
abbrev uN:=@Nat.pow_succ
abbrev uO:=@List.getElem?_eq_getElem
abbrev uP:=@List.length_take
abbrev uQ:=@if_pos
abbrev uR:=@Nat.pow_add
abbrev uS:=@Nat.lt_of_lt_of_le
abbrev uT:=@Nat.add_mul
abbrev uU:=@Nat.pow_pos
abbrev uV:=@Nat.min_eq_left
abbrev uW:=@Nat.pow_le_pow_right
abbrev uX:=@List.drop_of_length_le
abbrev uY:=@List.length_append
abbrev uZ:=@decide_eq_false
abbrev vA:=@Int.eq_ofNat_of_zero_le
abbrev vC:=@Nat.mod_eq_of_lt
abbrev vE:=@Nat.lt_of_le_of_lt
abbrev vF:=@List.all_eq_true
abbrev vG:=@Nat.div_le_self
abbrev vH:=@List.length_map
abbrev vI:=@Option.map_eq_some_iff
abbrev vJ:=@List.getElem?_drop
abbrev vK:=@congrArg
abbrev vL:=@Nat.lt_or_ge
abbrev vM:=@Nat.div_lt_iff_lt_mul
abbrev vN:=@decide_eq_false_iff_not
abbrev vO:=@Nat.mul_le_mul
abbrev vP:=@List.getElem?_eq_none
abbrev vQ:=@Nat.zero_le
abbrev vR:=@Nat.add_comm
abbrev vS:=@decide_eq_true
abbrev vT:=@List.append_assoc
abbrev vU:=@List.drop_drop
abbrev vV:=@Nat.pow_zero
abbrev vW:=@Nat.zero_add
abbrev vX:=@Nat.div_add_mod
abbrev vY:=@List.length_eq_zero_iff
abbrev vZ:=@getElem!_pos
abbrev tA:=@List.length_set
abbrev tB:=@Option.bind_eq_some_iff
abbrev tC:=@List.drop_set_of_lt
abbrev tD:=@Nat.add_zero
abbrev tE:=@Nat.mul_left_comm
abbrev tF:=@decide_eq_true_eq
abbrev tG:=@List.getD_eq_getElem?_getD
abbrev tH:=@Nat.add_sub_cancel
abbrev tI:=@Int.natCast_ediv
abbrev tJ:=@Nat.le_of_ble_eq_true
abbrev tL:=@List.getElem?_take_of_lt
abbrev tM:=@Nat.div_eq_of_lt
abbrev tN:=@List.length_drop
abbrev tO:=@List.drop_eq_getElem_cons
abbrev tP:=@Nat.mul_lt_mul_of_pos_right
abbrev tQ:=@Int.natCast_pow
abbrev tR:=@Nat.mul_zero
abbrev tS:=@List.take_succ_eq_append_getElem
abbrev tT:=@Int.natCast_mul
abbrev tU:=@Nat.mul_one
abbrev tV:=@Classical.byContradiction
abbrev tW:=@List.drop_zero
abbrev tX:=@List.getElem?_set_self
abbrev tY:=@Nat.zero_mul
abbrev tZ:=@Nat.add_assoc
abbrev sA:=@Bool.and_eq_true
abbrev sB:=@Nat.mod_add_div
abbrev sC:=@List.getElem?_append_right
abbrev sD:=@Int.tmod_eq_emod_of_nonneg
abbrev sE:=@List.mem_singleton
abbrev sF:=@Nat.gcd_comm
abbrev sG:=@List.length_replicate
abbrev sH:=@Nat.mul_pos
abbrev sI:=@Nat.shiftLeft_add_eq_or_of_lt
abbrev sJ:=@Nat.lt_of_mul_lt_mul_left
abbrev sK:=@List.getElem_mem
abbrev sL:=@List.length_cons
abbrev sM:=@Nat.div_div_eq_div_mul
abbrev sN:=@beq_iff_eq
abbrev sO:=@Nat.pos_of_ne_zero
abbrev sP:=@List.mem_range
abbrev sQ:=@List.mem_of_mem_take
abbrev sR:=@Nat.div_lt_of_lt_mul
abbrev sS:=@Nat.sub_self
abbrev sU:=@Option.map_some
abbrev sV:=@Option.isSome_iff_exists
abbrev sW:=@Nat.mul_mod_mul_right
abbrev sX:=@List.flatMap_cons
abbrev sY:=@Int.tdiv_eq_ediv_of_nonneg
abbrev sZ:=@Int.natAbs_natCast
abbrev rA:=@List.mem_append
abbrev rB:=@Nat.mul_add_div
abbrev rC:=@Nat.shiftLeft_eq
abbrev rD:=@Nat.succ_mul
abbrev rE:=@List.mem_or_eq_of_mem_set
abbrev rF:=@List.getElem?_append_left
abbrev rG:=@List.length_pos_iff
abbrev rH:=@List.take_set_of_le
abbrev rI:=@Nat.pow_le_pow_left
abbrev rJ:=@List.length_singleton
abbrev rK:=@List.all_cons
abbrev rL:=@Int.natCast_add
abbrev rM:=@Nat.div_one
abbrev rN:=@Nat.lt_of_mul_lt_mul_right
abbrev rO:=@Nat.one_mul
abbrev rP:=@Nat.add_mul_mod_self_left
abbrev rQ:=@List.take_append_drop
abbrev rR:=@Nat.mul_div_mul_right
abbrev rS:=@List.mem_replicate
abbrev rT:=@Option.getD_some
abbrev rU:=@Nat.gcd_zero_right
abbrev rV:=@Nat.lt_trans
abbrev rW:=@Nat.le_of_lt
abbrev rX:=@Nat.mul_mul_mul_comm
abbrev rY:=@List.eq_nil_of_length_eq_zero
abbrev rZ:=@Nat.mul_add_mod
abbrev qB:=@beq_eq_false_iff_ne
abbrev qC:=@List.getElem_of_mem
abbrev qE:=@ByteArray.size_extract
abbrev qF:=@Nat.lt_of_not_le
abbrev qG:=@Nat.lt_or_gt_of_ne
abbrev qH:=@List.mem_cons_self
abbrev qI:=@List.set_append_right
abbrev qJ:=@Nat.le_div_iff_mul_le
abbrev qL:=@List.nil_append
abbrev qM:=@List.append_nil
abbrev qP:=@Rat.num_intCast
abbrev qQ:=@List.mem_of_mem_drop
abbrev qR:=@Nat.pow_mul
abbrev qU:=@Nat.lt_trichotomy
abbrev qV:=@Nat.mul_lt_mul_right
abbrev qW:=@Bool.eq_false_iff
abbrev qX:=@List.takeWhile_append_dropWhile
abbrev qY:=@Nat.div_mul_le_self
abbrev qZ:=@List.take_length
abbrev pA:=@List.getElem?_replicate
abbrev pB:=@Nat.mul_div_cancel_left
abbrev pC:=@decide_eq_decide
abbrev pD:=@Bool.false_eq_true
abbrev pE:=@Nat.mul_div_cancel
abbrev pF:=@List.getElem_replicate
abbrev pG:=@Nat.div_lt_self
abbrev pH:=@List.all_append
abbrev pI:=@Nat.not_lt_zero
abbrev pJ:=@List.mem_cons
abbrev pK:=@Nat.lt_irrefl
abbrev pL:=@Classical.choose_spec
abbrev pM:=@List.size_toArray
abbrev pN:=@Nat.gcd_rec
abbrev pO:=@List.replicate_succ'
abbrev pP:=@Nat.le_sub_of_add_le
abbrev pQ:=@Array.size_replicate
abbrev pR:=@Array.getElem?_eq_some_iff
abbrev pS:=@List.mem_of_getElem?
abbrev pT:=@Nat.mul_lt_mul''
abbrev pU:=@Nat.gcd_le_right
abbrev pV:=@Nat.lt_succ_self
abbrev pW:=@List.map_map
abbrev pX:=@List.pairwise_iff_getElem
abbrev pY:=@List.replicate_succ
abbrev pZ:=@Nat.succ_eq_add_one
abbrev oC:=@List.takeWhile_cons
abbrev oD:=@List.flatMap_append
abbrev oE:=@List.mem_map_of_mem
abbrev oF:=@List.map_cons
abbrev oG:=@Option.some.inj
abbrev oH:=@Rat.den_intCast
abbrev oI:=@Int.natAbs_zero
abbrev oJ:=@Rat.num_divInt_den
abbrev oK:=@Nat.sub_add_cancel
abbrev oL:=@List.getElem?_take
abbrev oM:=@Nat.exists_eq_add_of_le
abbrev oN:=@List.length_eq_one_iff
abbrev oO:=@Int.toNat_natCast
abbrev oP:=@List.head?_eq_none_iff
abbrev oQ:=@List.map_nil
abbrev oR:=@List.flatMap_singleton
abbrev oS:=@List.mem_map
abbrev oT:=@Nat.eq_of_beq_eq_true
abbrev oU:=@Array.getElem?_toList
abbrev oV:=@Int.natCast_emod
abbrev oW:=@List.drop_append
abbrev oX:=@List.cons_append
abbrev oZ:=@List.not_mem_nil
abbrev nA:=@Option.bind_some
abbrev nB:=@List.length_nil
abbrev nC:=@Int.mul_ne_zero
abbrev nD:=@Bool.or_eq_true
abbrev nE:=@List.map_append
abbrev nF:=@Int.lt_or_le
abbrev nG:=@List.map_set
abbrev nH:=@Nat.mod_le
def val (B:Nat):List Nat→Nat
 | []=>0
 | x :: xs=>x+B*val B xs
def Dig (B:Nat) (xs:List Nat):Prop:=∀ x∈xs,x<B
def Trim (xs:List Nat):Prop:=∀ k,xs.length=k+1→(xs[k]?.getD 0)≠0
variable {B:Nat} {xs ys:List Nat}
@[simp] theorem eJ:val B []=0:=rfl
@[simp] theorem gC (x:Nat):val B (x :: xs)=x+B*val B xs:=rfl
theorem kN:val B (xs ++ ys)=val B xs+B^xs.length*val B ys:=by
 induction xs with
 | nil=>simp
 | cons x xs ih=>simp[ih,uN,uK,tZ];rw[←uG,uF B]
theorem Dig.nil:Dig B []:=fun _ h=>by cases h
theorem Dig.cons {x:Nat}(h:x<B)(b:Dig B xs):Dig B (x :: xs):=fun y a=>by
 rcases pJ.1 a with rfl|a
 ·exact h
 exact b y a
theorem Dig.head {x:Nat}(h:Dig B (x :: xs)):x<B:=h x (by simp)
theorem Dig.tail {x:Nat}(h:Dig B (x :: xs)):Dig B xs:=fun y a=>h y (by simp[a])
theorem Dig.append (h:Dig B xs)(k:Dig B ys):Dig B (xs ++ ys):=fun y a=>by
 rcases rA.1 a with a|a
 ·exact h y a
 exact k y a
theorem Dig.take (h:Dig B xs)(k:Nat):Dig B (xs.take k):=fun y a=>h y (sQ a)
theorem Dig.drop (h:Dig B xs)(k:Nat):Dig B (xs.drop k):=fun y a=>h y (qQ a)
theorem Dig.getD (h:Dig B xs)(b:0<B)(k:Nat):(xs[k]?.getD 0)<B:=by
 rcases vL k xs.length with a|a
 ·rw[uO a];exact h _ (sK a)
 rw[vP a];exact b
theorem Dig.set (h:Dig B xs)(k:Nat){v:Nat}(b:v<B):Dig B (xs.set k v):=fun y a=>by
 rcases rE a with a|a
 ·exact h y a
 exact a ▸ b
theorem Dig.replicate (a:0<B)(n:Nat):Dig B (List.replicate n 0):=fun y b=>by
 rw[(rS.1 b).2];exact a
theorem wA (h:Dig B xs):val B xs<B^xs.length:=by
 induction xs with
 | nil=>simp
 | cons x xs ih =>
  have c:=h.head
  have a:=ih h.tail
  have b:B*(val B xs+1)≤B*B^xs.length:=uJ B a
  rw[gC,sL,uN,uF (B^_)]
  rw[uK] at b
  omega
theorem kW (n:Nat):val B (List.replicate n 0)=0:=by
 induction n with
 | zero=>rfl
 | succ n ih=>simp[pY,ih]
theorem zS (k:Nat)(h:k<xs.length):val B (xs.take (k+1))=val B (xs.take k)+B^k*(xs[k]?.getD 0):=by
 rw[tS h,kN]
 have:(xs.take k).length=k:=by simp;omega
 rw[this]
 simp[uO h]
theorem xS (k:Nat):val B xs=val B (xs.take k)+B^(min k xs.length)*val B (xs.drop k):=by
 conv=>lhs;rw[←rQ k xs,kN]
 simp
theorem ZpI (h:Dig B xs)(k:Dig B ys)(hl:xs.length=ys.length)(a:val B xs=val B ys):xs=ys:=by
 induction xs generalizing ys with
 | nil=>cases ys with|nil=>rfl|cons=>cases hl
 | cons x xs ih =>
  cases ys with
  | nil=>cases hl
  | cons y ys =>
   have b:=h.head
   have c:=k.head
   simp only[gC] at a
   have d:x=y:=by
    have:=vK (· % B) a
    simpa [rP,vC b,vC c] using this
   subst d
   have e:val B xs=val B ys:=Nat.eq_of_mul_eq_mul_left (by omega:0<B) (by omega)
   rw[ih h.tail k.tail (by simpa using hl) e]
theorem ZaS (P B V X Y x y c d a:Nat)(f:V+P*c=X+Y)(b:d+B*a=x+y+c):V+P*d+P*B*a=X+P*x+(Y+P*y):=by
 have e:=vK (P * ·) b
 simp only[uK] at e
 rw[uG]
 omega
theorem ZeY (P B V X Y x y b d b':Nat)(e:V+Y=X+P*b)(a:d+y+b=x+B*b'):V+P*d+(Y+P*y)=X+P*x+P*B*b':=by
 have c:=vK (P * ·) a
 simp only[uK] at c
 rw[uG]
 omega
theorem ZgV (P B V Z X w z x c d c':Nat)(e:V+X*w=Z+P*c)(a:d+x*w+c=z+B*c'):V+P*d+(X+P*x)*w=Z+P*z+P*B*c':=by
 have b:=vK (P * ·) a
 simp only[uK] at b
 rw[uG,uT,uG]
 omega
theorem ZeZ (B V Q w r x q r':Nat)(a:V=Q*w+r)(b:r*B+x=q*w+r'):x+B*V=(q+B*Q)*w+r':=by
 subst a
 rw[uK,uT,uG]
 have:B*r=r*B:=uF _ _
 omega
theorem Zmc (v2 b t3 d R a:Nat)(B:Nat)(e:b<R)(g:a<B)(f:B*R≤v2*R)(c:a*v2≤t3) :
 a*(v2*R+b)≤(t3*R+d)+(v2*R+b):=by
 have h:a*v2*R≤t3*R:=uE R c
 have i:a*b≤B*R:=vO (by omega) (by omega)
 rw[uK,← uG]
 omega
theorem Zdm (v2 d t3 c R a:Nat)(e:c<R)(b:t3<(a+1)*v2):t3*R+c<(a+1)*(v2*R+d):=by
 have f:(t3+1)*R≤(a+1)*v2*R:=uE R b
 rw[uK,← uG]
 rw[uT t3,rO] at f
 omega
theorem xT (k:Nat)(h:k<xs.length):val B (xs.drop k)=(xs[k]?.getD 0)+B*val B (xs.drop (k+1)):=by
 rw[tO h,gC,uO h];rfl
theorem eO (a:Dig B xs)(g:xs.length=ys.length)(k:Nat)(b:k<xs.length)(c:xs.drop (k+1)=ys.drop (k+1))(d:(xs[k]?.getD 0)<(ys[k]?.getD 0)):val B xs<val B ys:=by
 rw[xS (xs:=xs) k,xS (xs:=ys) k,xT k b,xT k (by omega),c,uV (by omega),uV (by omega)]
 have e:=wA (a.take k)
 rw[uP,uV (by omega)] at e
 have f:B^k*((xs[k]?.getD 0)+1)≤B^k*(ys[k]?.getD 0):=uJ _ d
 rw[uK,uK]
 rw[uK] at f
 omega
theorem Zdn (h:Trim xs){k:Nat}(a:xs.length=k+1):B^k≤val B xs:=by
 rw[xS (xs:=xs) k,xT k (by omega),uX (by omega:xs.length≤k+1),uV (by omega)]
 have b:B^k*1≤B^k*(xs[k]?.getD 0):=uJ _ (by have:=h k a;omega)
 simp only[eJ,tR,tD]
 omega
theorem gD (a:0<B)(b:Dig B xs)(c:Trim ys)(e:xs.length<ys.length):val B xs<val B ys:=by
 obtain⟨k,d⟩:∃ k,ys.length=k+1:=⟨ys.length-1,by omega⟩
 have f:=wA b
 have g:=Zdn (B:=B) c d
 have h:B^xs.length≤B^k:=uW a (by omega)
 omega
theorem jB (d:1<B)(b:Trim xs){n:Nat}(h:val B xs<B^n):xs.length≤n:=by
 rcases vL n xs.length with a|a
 ·obtain⟨k,c⟩:∃ k,xs.length=k+1:=⟨xs.length-1,by omega⟩
  have e:=Zdn (B:=B) b c
  have f:B^n≤B^k:=uW (by omega) (by omega)
  omega
 exact a
theorem ZhZ (b:1<B)(h:Dig B xs)(k:Dig B ys)(c:Trim xs)(d:Trim ys)(a:val B xs=val B ys):xs=ys:=by
 have e:xs.length≤ys.length:=jB b c (a ▸ wA k)
 have f:ys.length≤xs.length:=jB b d (a ▸ wA h)
 exact ZpI h k (by omega) a
theorem Trim.nil:Trim []:=fun k a=>by simp at a
theorem bN (h:Trim xs)(b:0<B)(a:xs≠[]):0<val B xs:=by
 obtain⟨k,c⟩:∃ k,xs.length=k+1:=⟨xs.length-1,by have:=rG.2 a;omega⟩
 have d:=Zdn (B:=B) h c
 have:=uU (n:=k) b
 omega
theorem ZhA (h:Trim xs)(a:0<B)(b:val B xs=0):xs=[]:=by
 rcases xs with _|⟨x,xs⟩
 ·rfl
 have:=bN h a (by simp);omega
end
def gE (H U v1 v0 u q r:Nat):Prop:=q*v1+r=U∧(U*H+u)/(v1*H+v0)≤q
theorem Zei {H U v1 v0 u q r:Nat}(a:U<v1*H+v0)(c:u<H)(d:H≤q)(h:gE H U v1 v0 u q r):gE H U v1 v0 u (q-1) (r+v1):=by
 obtain⟨b,e⟩:=h
 have f:(U*H+u)/(v1*H+v0)<H:=by
  rw[Nat.div_lt_iff_lt_mul (by omega)]
  have:(U+1)*H≤(v1*H+v0)*H:=Nat.mul_le_mul_right H a
  rw[Nat.add_mul U 1 H,Nat.one_mul] at this
  rw[Nat.mul_comm H]
  omega
 refine⟨?_,by omega⟩
 obtain⟨p,rfl⟩:∃ p,q=p+1:=⟨q-1,by omega⟩
 rw[Nat.add_mul] at b
 simp only[Nat.add_sub_cancel]
 omega
theorem ZaV {H U v1 v0 u q r:Nat}(b:0<v1*H+v0)(c:H*r+u<q*v0)(h:gE H U v1 v0 u q r):gE H U v1 v0 u (q-1) (r+v1):=by
 obtain⟨a,f⟩:=h
 have d:q≠0:=by rintro rfl;omega
 have e:(U*H+u)/(v1*H+v0)<q:=by
  rw[Nat.div_lt_iff_lt_mul b,Nat.mul_add,← Nat.mul_assoc]
  have:U*H=q*v1*H+r*H:=by rw[←a,Nat.add_mul]
  rw[Nat.mul_comm H r] at c
  omega
 refine⟨?_,by omega⟩
 obtain⟨p,rfl⟩:∃ p,q=p+1:=⟨q-1,by omega⟩
 rw[Nat.add_mul] at a
 simp only[Nat.add_sub_cancel]
 omega
theorem aE {H U v1 v0 u q r:Nat}(a:0<v1*H+v0)(b:q*v0≤H*r+u)(h:gE H U v1 v0 u q r):q=(U*H+u)/(v1*H+v0):=by
 obtain⟨c,d⟩:=h
 refine Nat.le_antisymm ?_ d
 rw[Nat.le_div_iff_mul_le a,Nat.mul_add,← Nat.mul_assoc]
 have:U*H=q*v1*H+r*H:=by rw[←c,Nat.add_mul]
 rw[Nat.mul_comm H r] at b
 omega
theorem iS {H U v1 v0 u q r:Nat}(c:U<v1*H+v0)(a:v0<H)(b:H≤r)(h:gE H U v1 v0 u q r):q=(U*H+u)/(v1*H+v0):=by
 refine aE (by omega) ?_ h
 obtain⟨d,e⟩:=h
 have f:q<H:=by
  have:q*v1<H*v1:=by rw[Nat.mul_comm H];omega
  exact Nat.lt_of_mul_lt_mul_right this
 have g:q*v0≤H*H:=Nat.mul_le_mul (by omega) (by omega)
 have i:H*H≤H*r:=Nat.mul_le_mul_left H b
 omega
theorem ZpJ {H Y U u1 u0:Nat}(d:0<Y)(j:U<Y)(f:u1<H)(g:u0<H) :
 (U*H+u1)/Y<H∧(U*H+u1)%Y<Y∧((U*H+u1)%Y*H+u0)/Y<H ∧
 (U*(H*H)+u1*H+u0)/Y=(U*H+u1)/Y*H+((U*H+u1)%Y*H+u0)/Y∧(U*(H*H)+u1*H+u0)%Y=((U*H+u1)%Y*H+u0)%Y:=by
 have c:∀ a b:Nat,a<Y→b<H→(a*H+b)/Y<H:=by
  intro a b k l
  rw[Nat.div_lt_iff_lt_mul d]
  have:(a+1)*H≤Y*H:=Nat.mul_le_mul_right H k
  rw[Nat.add_mul a 1 H,Nat.one_mul] at this
  rw[Nat.mul_comm H]
  omega
 have h:(U*H+u1)%Y<Y:=Nat.mod_lt _ d
 have e:=Nat.div_add_mod (U*H+u1) Y
 have i:U*(H*H)+u1*H+u0=Y*((U*H+u1)/Y*H)+((U*H+u1)%Y*H+u0):=by
  have:(U*H+u1)*H=(Y*((U*H+u1)/Y)+(U*H+u1)%Y)*H:=by rw[e]
  rw[Nat.add_mul,Nat.add_mul,Nat.mul_assoc U,Nat.mul_assoc Y] at this
  omega
 refine⟨c _ _ j f,h,c _ _ h g,?_,?_⟩
 ·rw[i,Nat.mul_add_div d]
 rw[i,Nat.mul_add_mod]
theorem Zdp (N y p:Nat)(a:0<p):N*p/(y*p)=N/y∧N*p%(y*p)/p=N%y:=by
 refine⟨Nat.mul_div_mul_right N y a,?_⟩
 rw[Nat.mul_mod_mul_right,Nat.mul_div_cancel _ a]
theorem Zjp (hi lo s:Nat)(f:s≤63) :
 (hi*18446744073709551616+lo)*2^s=(hi*2^s+lo/2^(64-s))*(4294967296*4294967296)+(lo*2^s%18446744073709551616)/4294967296*4294967296+(lo*2^s%18446744073709551616)%4294967296:=by
 have a:(18446744073709551616:Nat)=2^(64-s)*2^s:=by rw[←Nat.pow_add,show 64-s+s=64 by omega]
 have b:lo*2^s=lo/2^(64-s)*18446744073709551616+lo*2^s%18446744073709551616:=by
  have c:=Nat.div_add_mod (lo*2^s) 18446744073709551616
  have d:lo*2^s/18446744073709551616=lo/2^(64-s):=by
   rw[a,Nat.mul_div_mul_right _ _ (Nat.pow_pos (by omega))]
  rw[d,Nat.mul_comm] at c
  omega
 generalize g:lo*2^s%18446744073709551616=T at *
 have h:=Nat.div_add_mod T 4294967296
 have e:(hi*18446744073709551616+lo)*2^s=hi*2^s*18446744073709551616+lo*2^s:=by
  rw[Nat.add_mul,Nat.mul_right_comm]
 rw[e,b]
 generalize hi*2^s=A at *
 generalize lo/2^(64-s)=C at *
 rw[Nat.add_mul]
 omega
def Zel (a b:Nat) (odd:Bool) (u0 u1 v0 v1:Nat):Prop :=
 v0=0∨∃ r0 r1:Nat,r1<r0∧r0≤b ∧
  (if odd then r0+v0*b=u0*a∧r1+u1*a=v1*b∧u0*v1=u1*v0+1 else r0+u0*a=v0*b∧r1+v1*b=u1*a∧u1*v0=u0*v1+1)
def gG (A B a b:Nat) (odd:Bool) (f s u0 u1 u2 v0 v1 v2:Nat):Prop :=
 (if odd then f+u1*A=v1*B∧s+v2*B=u2*A∧u2*v1=u1*v2+1 else f+v1*B=u1*A∧s+u2*A=v2*B∧u1*v2=u2*v1+1) ∧
 f*v2+s*v1=A∧f*u2+s*u1=B∧u2≤v2∧1≤v2∧s≤f ∧
 ((v1=0∧u1=1∧odd=false∧u2=0∧v2=1)∨(u1≤v1∧1≤v1∧∃ r:Nat,r≤b∧if odd then r+u1*a=v1*b else r+v1*b=u1*a)) ∧
 Zel a b odd u0 u1 v0 v1
theorem gG.start {A B a b:Nat}(h:B≤A):gG A B a b false A B 0 1 0 0 0 1:=by
 refine⟨by simp,by simp,by simp,by omega,by omega,h,Or.inl ⟨rfl,rfl,rfl,rfl,rfl⟩,Or.inl rfl⟩
theorem Zjy {K A B a' b' f s u1 u2 v1 v2:Nat}(ha:a'<K)(d:b'<K)(h:f+v1*B=u1*A)(i:s+u2*A=v2*B)(a:u2≤v2)(j:v2≤s)(b:v1+v2+s≤f)(m:1≤v2) :
 ∃ r0 e:Nat,e<r0∧r0+v1*(B*K+b')=u1*(A*K+a')∧e+u2*(A*K+a')=v2*(B*K+b'):=by
 have k:u1*(A*K+a')=f*K+v1*(B*K)+u1*a':=by
  rw[Nat.mul_add,← Nat.mul_assoc,← h,Nat.add_mul,Nat.mul_assoc]
 have l:v2*(B*K+b')=s*K+u2*(A*K)+v2*b':=by
  rw[Nat.mul_add,← Nat.mul_assoc,← i,Nat.add_mul,Nat.mul_assoc]
 have n:v1*b'≤v1*K:=Nat.mul_le_mul_left _ (by omega)
 have o:u2*a'≤v2*K:=Nat.mul_le_mul a (by omega)
 have g:(v1+v2)*b'+(v1+v2)≤(v1+v2)*K:=by
  have:(v1+v2)*(b'+1)≤(v1+v2)*K:=Nat.mul_le_mul_left _ d
  rw[Nat.mul_add] at this;omega
 have p:v2*K≤s*K:=Nat.mul_le_mul_right _ j
 have c:(v1+v2+s)*K≤f*K:=Nat.mul_le_mul_right _ b
 rw[Nat.add_mul (v1+v2)] at c
 rw[Nat.add_mul v1 v2 b'] at g
 refine⟨f*K+u1*a'-v1*b',s*K+v2*b'-u2*a',?_,?_,?_⟩
 ·have:=Nat.mul_le_mul_left v1 (Nat.le_of_lt d)
  rw[Nat.add_mul] at c g
  omega
 ·rw[k,Nat.mul_add]
  rw[Nat.add_mul] at c
  omega
 rw[l,Nat.mul_add]
 omega
theorem Zli {K A B a' b' f s u1 u2 v1 v2:Nat}(ha:a'<K)(o:b'<K)(g:f+u1*A=v1*B)(i:s+v2*B=u2*A)(a:u1≤v1)(c:u2≤v2)(j:v2≤s)(d:v1+v2+s≤f)(p:1≤v2) :
 ∃ r0 e:Nat,e<r0∧r0+u1*(A*K+a')=v1*(B*K+b')∧e+v2*(B*K+b')=u2*(A*K+a'):=by
 have k:v1*(B*K+b')=f*K+u1*(A*K)+v1*b':=by
  rw[Nat.mul_add,← Nat.mul_assoc,← g,Nat.add_mul,Nat.mul_assoc]
 have l:u2*(A*K+a')=s*K+v2*(B*K)+u2*a':=by
  rw[Nat.mul_add,← Nat.mul_assoc,← i,Nat.add_mul,Nat.mul_assoc]
 have q:u1*a'≤v1*K:=Nat.mul_le_mul a (by omega)
 have r:v2*b'≤v2*K:=Nat.mul_le_mul_left _ (by omega)
 have b:u2*a'+v2≤v2*K∨a'=0:=by
  rcases Nat.eq_zero_or_pos a' with h|h
  ·exact Or.inr h
  left
  have:v2*(a'+1)≤v2*K:=Nat.mul_le_mul_left _ ha
  rw[Nat.mul_add] at this
  have:=Nat.mul_le_mul_right a' c
  omega
 have t:v2*K≤s*K:=Nat.mul_le_mul_right _ j
 have m:(v1+v2+s)*K≤f*K:=Nat.mul_le_mul_right _ d
 rw[Nat.add_mul (v1+v2),Nat.add_mul v1 v2] at m
 have n:1≤K:=by omega
 have u:v2*1≤v2*K:=Nat.mul_le_mul_left _ n
 refine⟨f*K+v1*b'-u1*a',s*K+u2*a'-v2*b',?_,?_,?_⟩
 ·rcases b with b|b
  ·omega
  subst b
  simp only[Nat.mul_zero] at *
  omega
 ·rw[k,Nat.mul_add];omega
 rw[l,Nat.mul_add];omega
theorem gG.step {A B a b K I J:Nat}{odd:Bool}{f s u0 u1 u2 v0 v1 v2 q s':Nat}(h:gG A B a b odd f s u0 u1 u2 v0 v1 v2)(ha:a=A*K+I)(L:b=B*K+J)(m:I<K)(n:J<K)(M:v2≤s)(N:v1+v2+s≤f)(w:f=q*s+s')(S:s'<s)(C:1≤q):gG A B a b (!odd) s s' u1 u2 (u1+q*u2) v1 v2 (v1+q*v2):=by
 obtain⟨x,T,U,o,y,Z,k,_⟩:=h
 have V:1*v2≤q*v2:=Nat.mul_le_mul_right _ C
 have O:q*u2≤q*v2:=Nat.mul_le_mul_left _ o
 have P:s*(v1+q*v2)+s'*v2=A:=by
  rw[←T,w,Nat.mul_add,Nat.add_mul]
  have:q*s*v2=s*(q*v2):=by rw[Nat.mul_comm q,Nat.mul_assoc]
  omega
 have Q:s*(u1+q*u2)+s'*u2=B:=by
  rw[←U,w,Nat.mul_add,Nat.add_mul]
  have:q*s*u2=s*(q*u2):=by rw[Nat.mul_comm q,Nat.mul_assoc]
  omega
 cases odd with
 | false =>
  simp only[Bool.false_eq_true,if_false] at x k
  obtain⟨p,j,t⟩:=x
  obtain⟨r0,l,D,u,i⟩:=Zjy m n p j o M N y
  rw[←ha,← L] at u i
  have c:s'+(v1+q*v2)*B=(u1+q*u2)*A:=by
   rw[Nat.add_mul,Nat.add_mul,Nat.mul_assoc,Nat.mul_assoc,← j,Nat.mul_add,← p,w]
   omega
  have d:(u1+q*u2)*v2=u2*(v1+q*v2)+1:=by
   rw[Nat.add_mul,Nat.mul_add,t,Nat.mul_left_comm u2,Nat.mul_assoc]
   omega
  have W:v1≠0→r0≤b:=by
   intro z
   rcases k with ⟨E,_⟩|⟨_,_,r,g,v⟩
   ·exact absurd E z
   omega
  have g:l≤b:=by
   rcases k with ⟨_,_,_,F,G⟩|⟨_,_,r,g,v⟩
   ·subst F G;simp at i;omega
   omega
  refine⟨?_,P,Q,?_,by omega,by omega,Or.inr ⟨o,y,l,g,?_⟩,?_⟩
  ·simp only[Bool.not_false,if_true]
   exact⟨j,c,d⟩
  ·rcases k with ⟨F,G,_,X,e4⟩|⟨R,_⟩
   ·subst F G X e4;simp;omega
   omega
  ·simp only[Bool.not_false,if_true]
   exact i
  by_cases z:v1=0
  ·exact Or.inl z
  refine Or.inr ⟨r0,l,D,W z,?_⟩
  simp only[Bool.not_false,if_true]
  exact⟨u,i,t⟩
 | true =>
  simp only[if_true] at x k
  obtain⟨p,j,t⟩:=x
  have H:u1≤v1∧1≤v1∧∃ r,r≤b∧r+u1*a=v1*b:=by
   rcases k with ⟨_,_,e,_⟩|h
   ·cases e
   exact h
  obtain⟨R,Y,r,g,v⟩:=H
  obtain⟨r0,l,D,u,i⟩:=Zli m n p j R o M N y
  rw[←ha,← L] at u i
  have c:s'+(u1+q*u2)*A=(v1+q*v2)*B:=by
   rw[Nat.add_mul,Nat.add_mul,Nat.mul_assoc,Nat.mul_assoc,← j,Nat.mul_add,← p,w]
   omega
  have d:u2*(v1+q*v2)=(u1+q*u2)*v2+1:=by
   rw[Nat.add_mul,Nat.mul_add,t,Nat.mul_left_comm u2,Nat.mul_assoc]
   omega
  refine⟨?_,P,Q,by omega,by omega,by omega,Or.inr ⟨o,y,l,by omega,?_⟩,?_⟩
  ·simp only[Bool.not_true,Bool.false_eq_true,if_false]
   exact⟨j,c,d⟩
  ·simp only[Bool.not_true,Bool.false_eq_true,if_false]
   exact i
  refine Or.inr ⟨r0,l,D,by omega,?_⟩
  simp only[Bool.not_true,Bool.false_eq_true,if_false]
  exact⟨u,i,t⟩
theorem Zel.pair {a b:Nat}{odd:Bool}{u0 u1 v0 v1:Nat}(h:Zel a b odd u0 u1 v0 v1)(s:v0≠0) :
 ∃ r0 d:Nat,d<r0∧r0≤b∧Nat.gcd r0 d=Nat.gcd a b∧(if odd then r0+v0*b=u0*a∧d+u1*a=v1*b else r0+u0*a=v0*b∧d+v1*b=u1*a):=by
 rcases h with h|⟨r0,d,t,u,c⟩
 ·exact absurd h s
 refine⟨r0,d,t,u,?_,?_⟩
 ·have l:v1*r0+v0*d=a∧u1*r0+u0*d=b∧(∀ g,g∣a→g∣b→g∣r0∧g∣d):=by
   cases odd with
   | false =>
    simp only[Bool.false_eq_true,if_false] at c
    obtain⟨e,f,i⟩:=c
    have m:=congrArg (v1 * ·) e
    have n:=congrArg (v0 * ·) f
    have o:=congrArg (u1 * ·) e
    have e4:=congrArg (u0 * ·) f
    have p:=congrArg (· * a) i
    have q:=congrArg (· * b) i
    simp only[Nat.mul_add,Nat.add_mul,Nat.one_mul] at m n o e4 p q
    refine⟨?_,?_,fun g j k=>⟨?_,?_⟩⟩
    ·simp only[Nat.mul_comm,Nat.mul_left_comm] at *;omega
    ·simp only[Nat.mul_comm,Nat.mul_left_comm] at *;omega
    ·exact (Nat.dvd_add_left (Nat.dvd_mul_left_of_dvd j u0)).1 (e ▸ Nat.dvd_mul_left_of_dvd k v0)
    exact (Nat.dvd_add_left (Nat.dvd_mul_left_of_dvd k v1)).1 (f ▸ Nat.dvd_mul_left_of_dvd j u1)
   | true =>
    simp only[if_true] at c
    obtain⟨e,f,i⟩:=c
    have m:=congrArg (v1 * ·) e
    have n:=congrArg (v0 * ·) f
    have o:=congrArg (u1 * ·) e
    have e4:=congrArg (u0 * ·) f
    have p:=congrArg (· * a) i
    have q:=congrArg (· * b) i
    simp only[Nat.mul_add,Nat.add_mul,Nat.one_mul] at m n o e4 p q
    refine⟨?_,?_,fun g j k=>⟨?_,?_⟩⟩
    ·simp only[Nat.mul_comm,Nat.mul_left_comm] at *;omega
    ·simp only[Nat.mul_comm,Nat.mul_left_comm] at *;omega
    ·exact (Nat.dvd_add_left (Nat.dvd_mul_left_of_dvd k v0)).1 (e ▸ Nat.dvd_mul_left_of_dvd j u0)
    exact (Nat.dvd_add_left (Nat.dvd_mul_left_of_dvd j u1)).1 (f ▸ Nat.dvd_mul_left_of_dvd k v1)
  obtain⟨v,w,r⟩:=l
  refine Nat.dvd_antisymm (Nat.dvd_gcd ?_ ?_) (Nat.dvd_gcd ?_ ?_)
  ·rw[←v];exact Nat.dvd_add (Nat.dvd_mul_left_of_dvd (Nat.gcd_dvd_left _ _) _) (Nat.dvd_mul_left_of_dvd (Nat.gcd_dvd_right _ _) _)
  ·rw[←w];exact Nat.dvd_add (Nat.dvd_mul_left_of_dvd (Nat.gcd_dvd_left _ _) _) (Nat.dvd_mul_left_of_dvd (Nat.gcd_dvd_right _ _) _)
  ·exact (r _ (Nat.gcd_dvd_left _ _) (Nat.gcd_dvd_right _ _)).1
  exact (r _ (Nat.gcd_dvd_left _ _) (Nat.gcd_dvd_right _ _)).2
 cases odd with
 | false=>simp only[Bool.false_eq_true,if_false] at c ⊢;exact⟨c.1,c.2.1⟩
 | true=>simp only[if_true] at c ⊢;exact⟨c.1,c.2.1⟩
end Go.Proofs.YtenchljfmfgeoaaGreatDoor
