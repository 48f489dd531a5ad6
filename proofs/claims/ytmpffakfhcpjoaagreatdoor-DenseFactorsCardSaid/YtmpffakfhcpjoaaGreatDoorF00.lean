/-
 My texts.
-/
set_option maxRecDepth 100000
set_option maxHeartbeats 8000000
namespace Go.Proofs.YtmpffakfhcpjoaaGreatDoor
section
theorem qO{p:Prop}(h:p:=by omega):p:=h
theorem qD{p:Prop}(h:p:=by decide):p:=h
theorem qS{p:Prop}(h:p:=by simp):p:=h
abbrev uA:=@Nat.le_trans
abbrev uB:=@List.take_of_length_le
abbrev uC:=@of_decide_eq_true
abbrev uD:=@of_decide_eq_false
abbrev uE:=@Nat.mul_le_mul_right
abbrev uF:=@Nat.le_refl
abbrev uG:=@Nat.mul_comm
abbrev uH:=@Nat.mul_assoc
abbrev uI:=@if_neg
abbrev uJ:=@Nat.eq_zero_or_pos
abbrev uK:=@Nat.mul_le_mul_left
abbrev uL:=@Nat.mul_add
abbrev uM:=@if_pos
abbrev uN:=@List.length_take
abbrev uO:=@Nat.pow_succ
abbrev uP:=@Nat.mod_lt
abbrev uR:=@List.getElem?_eq_getElem
abbrev uS:=@Int.eq_ofNat_of_zero_le
abbrev uT:=@Nat.lt_of_lt_of_le
abbrev uU:=@Nat.pow_add
abbrev uV:=@decide_eq_false
abbrev uW:=@Nat.add_mul
abbrev uX:=@Rat.mul_le_mul_of_nonneg_right
abbrev uY:=@Nat.min_eq_left
abbrev uZ:=@Nat.pow_pos
abbrev vA:=@Nat.lt_of_le_of_lt
abbrev vC:=@Nat.pow_le_pow_right
abbrev vE:=@List.length_append
abbrev vF:=@List.drop_of_length_le
abbrev vG:=@List.length_map
abbrev vH:=@decide_eq_false_iff_not
abbrev vI:=@List.all_eq_true
abbrev vJ:=@Nat.div_le_self
abbrev vK:=@Nat.mul_le_mul
abbrev vL:=@Nat.mod_eq_of_lt
abbrev vM:=@Option.map_eq_some_iff
abbrev vN:=@Nat.div_lt_iff_lt_mul
abbrev vO:=@Nat.lt_or_ge
abbrev vP:=@congrArg
abbrev vQ:=@decide_eq_true
abbrev vR:=@List.getElem?_drop
abbrev vS:=@Nat.zero_le
abbrev vT:=@getElem!_pos
abbrev vU:=@List.getElem?_eq_none
abbrev vV:=@Rat.mul_nonneg
abbrev vW:=@Nat.add_comm
abbrev vX:=@Nat.div_add_mod
abbrev vY:=@Int.natCast_pow
abbrev vZ:=@Nat.zero_add
abbrev tA:=@List.drop_drop
abbrev tB:=@List.length_drop
abbrev tC:=@List.getD_eq_getElem?_getD
abbrev tD:=@List.append_assoc
abbrev tE:=@decide_eq_true_eq
abbrev tF:=@Rat.mul_le_mul_of_nonneg_left
abbrev tG:=@Int.natCast_mul
abbrev tH:=@Nat.pow_zero
abbrev tI:=@List.length_eq_zero_iff
abbrev tJ:=@Option.bind_eq_some_iff
abbrev tK:=@Nat.add_sub_cancel
abbrev tL:=@Nat.mul_left_comm
abbrev tM:=@List.length_set
abbrev tN:=@List.drop_set_of_lt
abbrev tO:=@List.take_succ_eq_append_getElem
abbrev tP:=@Nat.add_zero
abbrev tQ:=@Rat.natCast_le_natCast
abbrev tR:=@Int.natCast_ediv
abbrev tS:=@Nat.mul_lt_mul_of_pos_right
abbrev tT:=@Nat.le_of_ble_eq_true
abbrev tU:=@List.getElem?_take_of_lt
abbrev tV:=@Nat.div_eq_of_lt
abbrev tW:=@List.drop_eq_getElem_cons
abbrev tX:=@Nat.mul_zero
abbrev tY:=@Classical.byContradiction
abbrev tZ:=@List.length_replicate
abbrev sA:=@Bool.and_eq_true
abbrev sB:=@Rat.natCast_mul
abbrev sD:=@Nat.zero_mul
abbrev sE:=@Int.tmod_eq_emod_of_nonneg
abbrev sF:=@List.getElem_mem
abbrev sG:=@Nat.add_assoc
abbrev sH:=@Nat.mul_one
abbrev sI:=@List.drop_zero
abbrev sJ:=@List.getElem?_set_self
abbrev sK:=@Nat.mul_pos
abbrev sL:=@Rat.mul_assoc
abbrev sM:=@Nat.mod_add_div
abbrev sN:=@List.getElem?_append_right
abbrev sO:=@Int.natAbs_natCast
abbrev sP:=@Nat.gcd_comm
abbrev sQ:=@Nat.shiftLeft_add_eq_or_of_lt
abbrev sR:=@Nat.lt_of_mul_lt_mul_left
abbrev sS:=@List.length_cons
abbrev sU:=@List.mem_of_mem_take
abbrev sV:=@Nat.div_div_eq_div_mul
abbrev sW:=@Nat.div_lt_of_lt_mul
abbrev sX:=@List.mem_range
abbrev sY:=@Option.isSome_iff_exists
abbrev sZ:=@beq_iff_eq
abbrev rA:=@Nat.succ_mul
abbrev rB:=@Int.tdiv_eq_ediv_of_nonneg
abbrev rC:=@Nat.pos_of_ne_zero
abbrev rD:=@List.mem_append
abbrev rE:=@Option.map_some
abbrev rF:=@Nat.lt_irrefl
abbrev rG:=@Nat.pow_le_pow_left
abbrev rH:=@Nat.mul_mod_mul_right
abbrev rI:=@List.flatMap_cons
abbrev rJ:=@List.mem_singleton
abbrev rK:=@Nat.mul_add_div
abbrev rL:=@Nat.shiftLeft_eq
abbrev rM:=@List.getElem_map
abbrev rN:=@List.mem_or_eq_of_mem_set
abbrev rP:=@List.getElem?_append_left
abbrev rQ:=@List.length_pos_iff
abbrev rR:=@List.take_set_of_le
abbrev rS:=@Nat.div_one
abbrev rT:=@Int.toNat_natCast
abbrev rU:=@Bool.eq_false_iff
abbrev rV:=@List.length_singleton
abbrev rW:=@List.all_cons
abbrev rX:=@Int.natCast_add
abbrev rY:=@Nat.lt_trans
abbrev rZ:=@Nat.sub_self
abbrev qB:=@Rat.le_of_lt
abbrev qC:=@Nat.lt_of_mul_lt_mul_right
abbrev qE:=@ByteArray.size_extract
abbrev qF:=@List.mem_map
abbrev qG:=@beq_eq_false_iff_ne
abbrev qH:=@Nat.one_mul
abbrev qI:=@Nat.pow_mul
abbrev qJ:=@List.append_nil
abbrev qL:=@Rat.intCast_mul
abbrev qM:=@Rat.natCast_add
abbrev qP:=@Nat.add_mul_mod_self_left
abbrev qQ:=@List.take_append_drop
abbrev qR:=@Nat.mul_div_mul_right
abbrev qU:=@Nat.le_div_iff_mul_le
abbrev qV:=@List.mem_replicate
abbrev qW:=@Option.getD_some
abbrev qX:=@Nat.gcd_zero_right
abbrev qY:=@Nat.lt_of_not_le
abbrev qZ:=@Option.bind_some
abbrev pA:=@Nat.le_of_lt
abbrev pB:=@List.mem_of_mem_drop
abbrev pC:=@Nat.mul_mul_mul_comm
abbrev pD:=@List.eq_nil_of_length_eq_zero
abbrev pE:=@List.getElem?_replicate
abbrev pF:=@Nat.lt_trichotomy
abbrev pG:=@Nat.mul_add_mod
abbrev pH:=@List.all_append
abbrev pI:=@Nat.div_mul_le_self
abbrev pJ:=@List.getElem_of_mem
abbrev pK:=@List.take_length
abbrev pL:=@Nat.lt_or_gt_of_ne
abbrev pM:=@Bool.false_eq_true
abbrev pN:=@Rat.num_divInt_den
abbrev pO:=@List.mem_cons_self
abbrev pP:=@List.set_append_right
abbrev pQ:=@List.nil_append
abbrev pR:=@Option.some.inj
abbrev pS:=@Rat.natCast_pos
abbrev pT:=@Nat.mul_lt_mul_right
abbrev pU:=@Rat.mul_comm
abbrev pV:=@List.map_map
abbrev pW:=@List.takeWhile_append_dropWhile
abbrev pX:=@Rat.intCast_natCast
abbrev pY:=@Nat.mul_lt_mul''
abbrev pZ:=@Nat.mul_div_cancel_left
abbrev oC:=@Nat.lt_succ_self
abbrev oD:=@decide_eq_decide
abbrev oE:=@Int.natAbs_mul
abbrev oF:=@Rat.div_def
abbrev oG:=@Nat.gcd_rec
abbrev oH:=@Int.sign_eq_one_of_pos
abbrev oI:=@Nat.mul_div_cancel
abbrev oJ:=@List.getElem_replicate
abbrev oK:=@if_false
abbrev oL:=@Nat.div_lt_self
abbrev oM:=@Nat.not_lt_zero
abbrev oN:=@List.mem_cons
abbrev oO:=@List.map_cons
abbrev oP:=@Classical.choose_spec
abbrev oQ:=@List.size_toArray
abbrev oR:=@List.replicate_succ'
abbrev oS:=@Rat.le_of_mul_le_mul_right
abbrev oT:=@Rat.mul_lt_mul_right
abbrev oU:=@Nat.le_sub_of_add_le
abbrev oV:=@Array.size_replicate
abbrev oW:=@Array.getElem?_eq_some_iff
abbrev oX:=@List.mem_of_getElem?
abbrev oZ:=@Int.lt_or_le
abbrev nA:=@Nat.gcd_le_right
abbrev nB:=@List.map_nil
abbrev nC:=@List.pairwise_iff_getElem
abbrev nD:=@List.replicate_succ
abbrev nE:=@Nat.succ_eq_add_one
abbrev nF:=@List.takeWhile_cons
abbrev nG:=@List.flatMap_append
abbrev nH:=@List.mem_map_of_mem
abbrev nI:=@Rat.intCast_add
abbrev nJ:=@List.map_append
abbrev nK:=@Rat.num_intCast
abbrev nL:=@Rat.den_intCast
abbrev nM:=@Int.natAbs_zero
abbrev nN:=@Nat.sub_add_cancel
abbrev nO:=@Nat.one_lt_two_pow
abbrev nP:=@List.getElem?_take
abbrev nQ:=@List.map_singleton
abbrev nR:=@Rat.le_refl
abbrev nS:=@Nat.exists_eq_add_of_le
abbrev nT:=@Int.le_refl
abbrev nU:=@Nat.le_total
abbrev nV:=@List.length_eq_one_iff
abbrev nW:=@List.getElem?_map
abbrev nX:=@Int.le_total
abbrev nY:=@List.head?_eq_none_iff
abbrev nZ:=@getElem?_pos
abbrev mA:=@List.flatMap_singleton
abbrev mC:=@Nat.eq_of_beq_eq_true
abbrev mD:=@Array.getElem?_toList
abbrev mE:=@Int.natCast_emod
abbrev mF:=@List.drop_append
abbrev mG:=@List.cons_append
abbrev mH:=@List.not_mem_nil
abbrev mI:=@Bool.true_and
abbrev mJ:=@Rat.mul_pos
abbrev mK:=@Nat.pow_one
abbrev mL:=@Int.neg_mul
abbrev mM:=@Nat.mod_one
abbrev mN:=@List.length_nil
abbrev mO:=@Int.mul_ne_zero
abbrev mP:=@List.range_succ
abbrev mQ:=@Bool.or_eq_true
abbrev mR:=@if_true
abbrev mS:=@Rat.zpow_neg
abbrev mT:=@Rat.zero_mul
abbrev mU:=@Nat.mod_le
def val (B:Nat):List Nat→Nat
 | []=>0
 | x :: xs=>x+B*val B xs
def Dig (B:Nat) (xs:List Nat):Prop:=∀ x∈xs,x<B
def Trim (xs:List Nat):Prop:=∀ k,xs.length=k+1→(xs[k]?.getD 0)≠0
variable {B:Nat} {xs ys:List Nat}
@[simp] theorem dW:val B []=0:=rfl
@[simp] theorem gZ (x:Nat):val B (x :: xs)=x+B*val B xs:=rfl
theorem kO:val B (xs ++ ys)=val B xs+B^xs.length*val B ys:=by
 induction xs with
 | nil=>simp
 | cons x xs ih=>simp[ih,uO,uL,sG];rw[←uH,uG B]
theorem Dig.nil:Dig B []:=fun _ h=>by cases h
theorem Dig.cons {x:Nat}(h:x<B)(b:Dig B xs):Dig B (x :: xs):=fun y a=>by
 rcases oN.1 a with rfl|a
 ·exact h
 exact b y a
theorem Dig.head {x:Nat}(h:Dig B (x :: xs)):x<B:=h x (by simp)
theorem Dig.tail {x:Nat}(h:Dig B (x :: xs)):Dig B xs:=fun y a=>h y (by simp[a])
theorem Dig.append (h:Dig B xs)(k:Dig B ys):Dig B (xs ++ ys):=fun y a=>by
 rcases rD.1 a with a|a
 ·exact h y a
 exact k y a
theorem Dig.take (h:Dig B xs)(k:Nat):Dig B (xs.take k):=fun y a=>h y (sU a)
theorem Dig.drop (h:Dig B xs)(k:Nat):Dig B (xs.drop k):=fun y a=>h y (pB a)
theorem Dig.getD (h:Dig B xs)(b:0<B)(k:Nat):(xs[k]?.getD 0)<B:=by
 rcases vO k xs.length with a|a
 ·rw[uR a];exact h _ (sF a)
 rw[vU a];exact b
theorem Dig.set (h:Dig B xs)(k:Nat){v:Nat}(b:v<B):Dig B (xs.set k v):=fun y a=>by
 rcases rN a with a|a
 ·exact h y a
 exact a ▸ b
theorem Dig.replicate (a:0<B)(n:Nat):Dig B (List.replicate n 0):=fun y b=>by
 rw[(qV.1 b).2];exact a
theorem wF (h:Dig B xs):val B xs<B^xs.length:=by
 induction xs with
 | nil=>simp
 | cons x xs ih =>
  have c:=h.head
  have a:=ih h.tail
  have b:B*(val B xs+1)≤B*B^xs.length:=uK B a
  rw[gZ,sS,uO,uG (B^_)]
  rw[uL] at b
  omega
theorem kX (n:Nat):val B (List.replicate n 0)=0:=by
 induction n with
 | zero=>rfl
 | succ n ih=>simp[nD,ih]
theorem zV (k:Nat)(h:k<xs.length):val B (xs.take (k+1))=val B (xs.take k)+B^k*(xs[k]?.getD 0):=by
 rw[tO h,kO]
 have:(xs.take k).length=k:=by simp;omega
 rw[this]
 simp[uR h]
theorem xX (k:Nat):val B xs=val B (xs.take k)+B^(min k xs.length)*val B (xs.drop k):=by
 conv=>lhs;rw[←qQ k xs,kO]
 simp
theorem Zr5 (h:Dig B xs)(k:Dig B ys)(hl:xs.length=ys.length)(a:val B xs=val B ys):xs=ys:=by
 induction xs generalizing ys with
 | nil=>cases ys with|nil=>rfl|cons=>cases hl
 | cons x xs ih =>
  cases ys with
  | nil=>cases hl
  | cons y ys =>
   have b:=h.head
   have c:=k.head
   simp only[gZ] at a
   have d:x=y:=by
    have:=vP (· % B) a
    simpa [qP,vL b,vL c] using this
   subst d
   have e:val B xs=val B ys:=Nat.eq_of_mul_eq_mul_left (by omega:0<B) (by omega)
   rw[ih h.tail k.tail (by simpa using hl) e]
theorem Zbz (P B V X Y x y c d a:Nat)(f:V+P*c=X+Y)(b:d+B*a=x+y+c):V+P*d+P*B*a=X+P*x+(Y+P*y):=by
 have e:=vP (P * ·) b
 simp only[uL] at e
 rw[uH]
 omega
theorem ZfD (P B V X Y x y b d b':Nat)(e:V+Y=X+P*b)(a:d+y+b=x+B*b'):V+P*d+(Y+P*y)=X+P*x+P*B*b':=by
 have c:=vP (P * ·) a
 simp only[uL] at c
 rw[uH]
 omega
theorem Zh6 (P B V Z X w z x c d c':Nat)(e:V+X*w=Z+P*c)(a:d+x*w+c=z+B*c'):V+P*d+(X+P*x)*w=Z+P*z+P*B*c':=by
 have b:=vP (P * ·) a
 simp only[uL] at b
 rw[uH,uW,uH]
 omega
theorem ZfE (B V Q w r x q r':Nat)(a:V=Q*w+r)(b:r*B+x=q*w+r'):x+B*V=(q+B*Q)*w+r':=by
 subst a
 rw[uL,uW,uH]
 have:B*r=r*B:=uG _ _
 omega
theorem Zn1 (v2 b t3 d R a:Nat)(B:Nat)(e:b<R)(g:a<B)(f:B*R≤v2*R)(c:a*v2≤t3) :
 a*(v2*R+b)≤(t3*R+d)+(v2*R+b):=by
 have h:a*v2*R≤t3*R:=uE R c
 have i:a*b≤B*R:=vK (by omega) (by omega)
 rw[uL,← uH]
 omega
theorem ZdZ (v2 d t3 c R a:Nat)(e:c<R)(b:t3<(a+1)*v2):t3*R+c<(a+1)*(v2*R+d):=by
 have f:(t3+1)*R≤(a+1)*v2*R:=uE R b
 rw[uL,← uH]
 rw[uW t3,qH] at f
 omega
theorem xY (k:Nat)(h:k<xs.length):val B (xs.drop k)=(xs[k]?.getD 0)+B*val B (xs.drop (k+1)):=by
 rw[tW h,gZ,uR h];rfl
theorem cE (a:Dig B xs)(g:xs.length=ys.length)(k:Nat)(b:k<xs.length)(c:xs.drop (k+1)=ys.drop (k+1))(d:(xs[k]?.getD 0)<(ys[k]?.getD 0)):val B xs<val B ys:=by
 rw[xX (xs:=xs) k,xX (xs:=ys) k,xY k b,xY k (by omega),c,uY (by omega),uY (by omega)]
 have e:=wF (a.take k)
 rw[uN,uY (by omega)] at e
 have f:B^k*((xs[k]?.getD 0)+1)≤B^k*(ys[k]?.getD 0):=uK _ d
 rw[uL,uL]
 rw[uL] at f
 omega
theorem Zd0 (h:Trim xs){k:Nat}(a:xs.length=k+1):B^k≤val B xs:=by
 rw[xX (xs:=xs) k,xY k (by omega),vF (by omega:xs.length≤k+1),uY (by omega)]
 have b:B^k*1≤B^k*(xs[k]?.getD 0):=uK _ (by have:=h k a;omega)
 simp only[dW,tX,tP]
 omega
theorem fA (a:0<B)(b:Dig B xs)(c:Trim ys)(e:xs.length<ys.length):val B xs<val B ys:=by
 obtain⟨k,d⟩:∃ k,ys.length=k+1:=⟨ys.length-1,by omega⟩
 have f:=wF b
 have g:=Zd0 (B:=B) c d
 have h:B^xs.length≤B^k:=vC a (by omega)
 omega
theorem jK (d:1<B)(b:Trim xs){n:Nat}(h:val B xs<B^n):xs.length≤n:=by
 rcases vO n xs.length with a|a
 ·obtain⟨k,c⟩:∃ k,xs.length=k+1:=⟨xs.length-1,by omega⟩
  have e:=Zd0 (B:=B) b c
  have f:B^n≤B^k:=vC (by omega) (by omega)
  omega
 exact a
theorem Zjd (b:1<B)(h:Dig B xs)(k:Dig B ys)(c:Trim xs)(d:Trim ys)(a:val B xs=val B ys):xs=ys:=by
 have e:xs.length≤ys.length:=jK b c (a ▸ wF k)
 have f:ys.length≤xs.length:=jK b d (a ▸ wF h)
 exact Zr5 h k (by omega) a
theorem Trim.nil:Trim []:=fun k a=>by simp at a
theorem aS (h:Trim xs)(b:0<B)(a:xs≠[]):0<val B xs:=by
 obtain⟨k,c⟩:∃ k,xs.length=k+1:=⟨xs.length-1,by have:=rQ.2 a;omega⟩
 have d:=Zd0 (B:=B) h c
 have:=uZ (n:=k) b
 omega
theorem ZiN (h:Trim xs)(a:0<B)(b:val B xs=0):xs=[]:=by
 rcases xs with _|⟨x,xs⟩
 ·rfl
 have:=aS h a (by simp);omega
end
def fB (H U v1 v0 u q r:Nat):Prop:=q*v1+r=U∧(U*H+u)/(v1*H+v0)≤q
theorem ZeV {H U v1 v0 u q r:Nat}(a:U<v1*H+v0)(c:u<H)(d:H≤q)(h:fB H U v1 v0 u q r):fB H U v1 v0 u (q-1) (r+v1):=by
 obtain⟨b,e⟩:=h
 have f:(U*H+u)/(v1*H+v0)<H:=by
  rw[Nat.div_lt_iff_lt_mul (by omega)]
  have:(U+1)*H≤(v1*H+v0)*H:=Nat.mul_le_mul_right H a
  rw[Nat.add_mul U 1 H,Nat.one_mul] at this
  rw[Nat.mul_comm H]
  omega
 refine⟨?_,by omega⟩
 obtain⟨p,rfl⟩:∃ p,q=p+1:=⟨q-1,by omega⟩
 rw[Nat.add_mul] at b
 simp only[Nat.add_sub_cancel]
 omega
theorem ZbC {H U v1 v0 u q r:Nat}(b:0<v1*H+v0)(c:H*r+u<q*v0)(h:fB H U v1 v0 u q r):fB H U v1 v0 u (q-1) (r+v1):=by
 obtain⟨a,f⟩:=h
 have d:q≠0:=by rintro rfl;omega
 have e:(U*H+u)/(v1*H+v0)<q:=by
  rw[Nat.div_lt_iff_lt_mul b,Nat.mul_add,← Nat.mul_assoc]
  have:U*H=q*v1*H+r*H:=by rw[←a,Nat.add_mul]
  rw[Nat.mul_comm H r] at c
  omega
 refine⟨?_,by omega⟩
 obtain⟨p,rfl⟩:∃ p,q=p+1:=⟨q-1,by omega⟩
 rw[Nat.add_mul] at a
 simp only[Nat.add_sub_cancel]
 omega
theorem Zak {H U v1 v0 u q r:Nat}(a:0<v1*H+v0)(b:q*v0≤H*r+u)(h:fB H U v1 v0 u q r):q=(U*H+u)/(v1*H+v0):=by
 obtain⟨c,d⟩:=h
 refine Nat.le_antisymm ?_ d
 rw[Nat.le_div_iff_mul_le a,Nat.mul_add,← Nat.mul_assoc]
 have:U*H=q*v1*H+r*H:=by rw[←c,Nat.add_mul]
 rw[Nat.mul_comm H r] at b
 omega
theorem gS {H U v1 v0 u q r:Nat}(c:U<v1*H+v0)(a:v0<H)(b:H≤r)(h:fB H U v1 v0 u q r):q=(U*H+u)/(v1*H+v0):=by
 refine Zak (by omega) ?_ h
 obtain⟨d,e⟩:=h
 have f:q<H:=by
  have:q*v1<H*v1:=by rw[Nat.mul_comm H];omega
  exact Nat.lt_of_mul_lt_mul_right this
 have g:q*v0≤H*H:=Nat.mul_le_mul (by omega) (by omega)
 have i:H*H≤H*r:=Nat.mul_le_mul_left H b
 omega
theorem Zr6 {H Y U u1 u0:Nat}(d:0<Y)(j:U<Y)(f:u1<H)(g:u0<H) :
 (U*H+u1)/Y<H∧(U*H+u1)%Y<Y∧((U*H+u1)%Y*H+u0)/Y<H ∧
 (U*(H*H)+u1*H+u0)/Y=(U*H+u1)/Y*H+((U*H+u1)%Y*H+u0)/Y∧(U*(H*H)+u1*H+u0)%Y=((U*H+u1)%Y*H+u0)%Y:=by
 have c:∀ a b:Nat,a<Y→b<H→(a*H+b)/Y<H:=by
  intro a b k l
  rw[Nat.div_lt_iff_lt_mul d]
  have:(a+1)*H≤Y*H:=Nat.mul_le_mul_right H k
  rw[Nat.add_mul a 1 H,Nat.one_mul] at this
  rw[Nat.mul_comm H]
  omega
 have h:(U*H+u1)%Y<Y:=Nat.mod_lt _ d
 have e:=Nat.div_add_mod (U*H+u1) Y
 have i:U*(H*H)+u1*H+u0=Y*((U*H+u1)/Y*H)+((U*H+u1)%Y*H+u0):=by
  have:(U*H+u1)*H=(Y*((U*H+u1)/Y)+(U*H+u1)%Y)*H:=by rw[e]
  rw[Nat.add_mul,Nat.add_mul,Nat.mul_assoc U,Nat.mul_assoc Y] at this
  omega
 refine⟨c _ _ j f,h,c _ _ h g,?_,?_⟩
 ·rw[i,Nat.mul_add_div d]
 rw[i,Nat.mul_add_mod]
theorem Zd2 (N y p:Nat)(a:0<p):N*p/(y*p)=N/y∧N*p%(y*p)/p=N%y:=by
 refine⟨Nat.mul_div_mul_right N y a,?_⟩
 rw[Nat.mul_mod_mul_right,Nat.mul_div_cancel _ a]
theorem ZkN (hi lo s:Nat)(f:s≤63) :
 (hi*18446744073709551616+lo)*2^s=(hi*2^s+lo/2^(64-s))*(4294967296*4294967296)+(lo*2^s%18446744073709551616)/4294967296*4294967296+(lo*2^s%18446744073709551616)%4294967296:=by
 have a:(18446744073709551616:Nat)=2^(64-s)*2^s:=by rw[←Nat.pow_add,show 64-s+s=64 by omega]
 have b:lo*2^s=lo/2^(64-s)*18446744073709551616+lo*2^s%18446744073709551616:=by
  have c:=Nat.div_add_mod (lo*2^s) 18446744073709551616
  have d:lo*2^s/18446744073709551616=lo/2^(64-s):=by
   rw[a,Nat.mul_div_mul_right _ _ (Nat.pow_pos (by omega))]
  rw[d,Nat.mul_comm] at c
  omega
 generalize g:lo*2^s%18446744073709551616=T at *
 have h:=Nat.div_add_mod T 4294967296
 have e:(hi*18446744073709551616+lo)*2^s=hi*2^s*18446744073709551616+lo*2^s:=by
  rw[Nat.add_mul,Nat.mul_right_comm]
 rw[e,b]
 generalize hi*2^s=A at *
 generalize lo/2^(64-s)=C at *
 rw[Nat.add_mul]
 omega
def ZeY (a b:Nat) (odd:Bool) (u0 u1 v0 v1:Nat):Prop :=
 v0=0∨∃ r0 r1:Nat,r1<r0∧r0≤b ∧
  (if odd then r0+v0*b=u0*a∧r1+u1*a=v1*b∧u0*v1=u1*v0+1 else r0+u0*a=v0*b∧r1+v1*b=u1*a∧u1*v0=u0*v1+1)
def fC (A B a b:Nat) (odd:Bool) (f s u0 u1 u2 v0 v1 v2:Nat):Prop :=
 (if odd then f+u1*A=v1*B∧s+v2*B=u2*A∧u2*v1=u1*v2+1 else f+v1*B=u1*A∧s+u2*A=v2*B∧u1*v2=u2*v1+1) ∧
 f*v2+s*v1=A∧f*u2+s*u1=B∧u2≤v2∧1≤v2∧s≤f ∧
 ((v1=0∧u1=1∧odd=false∧u2=0∧v2=1)∨(u1≤v1∧1≤v1∧∃ r:Nat,r≤b∧if odd then r+u1*a=v1*b else r+v1*b=u1*a)) ∧
 ZeY a b odd u0 u1 v0 v1
theorem fC.start {A B a b:Nat}(h:B≤A):fC A B a b false A B 0 1 0 0 0 1:=by
 refine⟨by simp,by simp,by simp,by omega,by omega,h,Or.inl ⟨rfl,rfl,rfl,rfl,rfl⟩,Or.inl rfl⟩
theorem ZkW {K A B a' b' f s u1 u2 v1 v2:Nat}(ha:a'<K)(d:b'<K)(h:f+v1*B=u1*A)(i:s+u2*A=v2*B)(a:u2≤v2)(j:v2≤s)(b:v1+v2+s≤f)(m:1≤v2) :
 ∃ r0 e:Nat,e<r0∧r0+v1*(B*K+b')=u1*(A*K+a')∧e+u2*(A*K+a')=v2*(B*K+b'):=by
 have k:u1*(A*K+a')=f*K+v1*(B*K)+u1*a':=by
  rw[Nat.mul_add,← Nat.mul_assoc,← h,Nat.add_mul,Nat.mul_assoc]
 have l:v2*(B*K+b')=s*K+u2*(A*K)+v2*b':=by
  rw[Nat.mul_add,← Nat.mul_assoc,← i,Nat.add_mul,Nat.mul_assoc]
 have n:v1*b'≤v1*K:=Nat.mul_le_mul_left _ (by omega)
 have o:u2*a'≤v2*K:=Nat.mul_le_mul a (by omega)
 have g:(v1+v2)*b'+(v1+v2)≤(v1+v2)*K:=by
  have:(v1+v2)*(b'+1)≤(v1+v2)*K:=Nat.mul_le_mul_left _ d
  rw[Nat.mul_add] at this;omega
 have p:v2*K≤s*K:=Nat.mul_le_mul_right _ j
 have c:(v1+v2+s)*K≤f*K:=Nat.mul_le_mul_right _ b
 rw[Nat.add_mul (v1+v2)] at c
 rw[Nat.add_mul v1 v2 b'] at g
 refine⟨f*K+u1*a'-v1*b',s*K+v2*b'-u2*a',?_,?_,?_⟩
 ·have:=Nat.mul_le_mul_left v1 (Nat.le_of_lt d)
  rw[Nat.add_mul] at c g
  omega
 ·rw[k,Nat.mul_add]
  rw[Nat.add_mul] at c
  omega
 rw[l,Nat.mul_add]
 omega
theorem Zm2 {K A B a' b' f s u1 u2 v1 v2:Nat}(ha:a'<K)(o:b'<K)(g:f+u1*A=v1*B)(i:s+v2*B=u2*A)(a:u1≤v1)(c:u2≤v2)(j:v2≤s)(d:v1+v2+s≤f)(p:1≤v2) :
 ∃ r0 e:Nat,e<r0∧r0+u1*(A*K+a')=v1*(B*K+b')∧e+v2*(B*K+b')=u2*(A*K+a'):=by
 have k:v1*(B*K+b')=f*K+u1*(A*K)+v1*b':=by
  rw[Nat.mul_add,← Nat.mul_assoc,← g,Nat.add_mul,Nat.mul_assoc]
 have l:u2*(A*K+a')=s*K+v2*(B*K)+u2*a':=by
  rw[Nat.mul_add,← Nat.mul_assoc,← i,Nat.add_mul,Nat.mul_assoc]
 have q:u1*a'≤v1*K:=Nat.mul_le_mul a (by omega)
 have r:v2*b'≤v2*K:=Nat.mul_le_mul_left _ (by omega)
 have b:u2*a'+v2≤v2*K∨a'=0:=by
  rcases Nat.eq_zero_or_pos a' with h|h
  ·exact Or.inr h
  left
  have:v2*(a'+1)≤v2*K:=Nat.mul_le_mul_left _ ha
  rw[Nat.mul_add] at this
  have:=Nat.mul_le_mul_right a' c
  omega
 have t:v2*K≤s*K:=Nat.mul_le_mul_right _ j
 have m:(v1+v2+s)*K≤f*K:=Nat.mul_le_mul_right _ d
 rw[Nat.add_mul (v1+v2),Nat.add_mul v1 v2] at m
 have n:1≤K:=by omega
 have u:v2*1≤v2*K:=Nat.mul_le_mul_left _ n
 refine⟨f*K+v1*b'-u1*a',s*K+u2*a'-v2*b',?_,?_,?_⟩
 ·rcases b with b|b
  ·omega
  subst b
  simp only[Nat.mul_zero] at *
  omega
 ·rw[k,Nat.mul_add];omega
 rw[l,Nat.mul_add];omega
theorem fC.step {A B a b K I J:Nat}{odd:Bool}{f s u0 u1 u2 v0 v1 v2 q s':Nat}(h:fC A B a b odd f s u0 u1 u2 v0 v1 v2)(ha:a=A*K+I)(L:b=B*K+J)(m:I<K)(n:J<K)(M:v2≤s)(N:v1+v2+s≤f)(w:f=q*s+s')(S:s'<s)(C:1≤q):fC A B a b (!odd) s s' u1 u2 (u1+q*u2) v1 v2 (v1+q*v2):=by
 obtain⟨x,T,U,o,y,Z,k,_⟩:=h
 have V:1*v2≤q*v2:=Nat.mul_le_mul_right _ C
 have O:q*u2≤q*v2:=Nat.mul_le_mul_left _ o
 have P:s*(v1+q*v2)+s'*v2=A:=by
  rw[←T,w,Nat.mul_add,Nat.add_mul]
  have:q*s*v2=s*(q*v2):=by rw[Nat.mul_comm q,Nat.mul_assoc]
  omega
 have Q:s*(u1+q*u2)+s'*u2=B:=by
  rw[←U,w,Nat.mul_add,Nat.add_mul]
  have:q*s*u2=s*(q*u2):=by rw[Nat.mul_comm q,Nat.mul_assoc]
  omega
 cases odd with
 | false =>
  simp only[Bool.false_eq_true,if_false] at x k
  obtain⟨p,j,t⟩:=x
  obtain⟨r0,l,D,u,i⟩:=ZkW m n p j o M N y
  rw[←ha,← L] at u i
  have c:s'+(v1+q*v2)*B=(u1+q*u2)*A:=by
   rw[Nat.add_mul,Nat.add_mul,Nat.mul_assoc,Nat.mul_assoc,← j,Nat.mul_add,← p,w]
   omega
  have d:(u1+q*u2)*v2=u2*(v1+q*v2)+1:=by
   rw[Nat.add_mul,Nat.mul_add,t,Nat.mul_left_comm u2,Nat.mul_assoc]
   omega
  have W:v1≠0→r0≤b:=by
   intro z
   rcases k with ⟨E,_⟩|⟨_,_,r,g,v⟩
   ·exact absurd E z
   omega
  have g:l≤b:=by
   rcases k with ⟨_,_,_,F,G⟩|⟨_,_,r,g,v⟩
   ·subst F G;simp at i;omega
   omega
  refine⟨?_,P,Q,?_,by omega,by omega,Or.inr ⟨o,y,l,g,?_⟩,?_⟩
  ·simp only[Bool.not_false,if_true]
   exact⟨j,c,d⟩
  ·rcases k with ⟨F,G,_,X,e4⟩|⟨R,_⟩
   ·subst F G X e4;simp;omega
   omega
  ·simp only[Bool.not_false,if_true]
   exact i
  by_cases z:v1=0
  ·exact Or.inl z
  refine Or.inr ⟨r0,l,D,W z,?_⟩
  simp only[Bool.not_false,if_true]
  exact⟨u,i,t⟩
 | true =>
  simp only[if_true] at x k
  obtain⟨p,j,t⟩:=x
  have H:u1≤v1∧1≤v1∧∃ r,r≤b∧r+u1*a=v1*b:=by
   rcases k with ⟨_,_,e,_⟩|h
   ·cases e
   exact h
  obtain⟨R,Y,r,g,v⟩:=H
  obtain⟨r0,l,D,u,i⟩:=Zm2 m n p j R o M N y
  rw[←ha,← L] at u i
  have c:s'+(u1+q*u2)*A=(v1+q*v2)*B:=by
   rw[Nat.add_mul,Nat.add_mul,Nat.mul_assoc,Nat.mul_assoc,← j,Nat.mul_add,← p,w]
   omega
  have d:u2*(v1+q*v2)=(u1+q*u2)*v2+1:=by
   rw[Nat.add_mul,Nat.mul_add,t,Nat.mul_left_comm u2,Nat.mul_assoc]
   omega
  refine⟨?_,P,Q,by omega,by omega,by omega,Or.inr ⟨o,y,l,by omega,?_⟩,?_⟩
  ·simp only[Bool.not_true,Bool.false_eq_true,if_false]
   exact⟨j,c,d⟩
  ·simp only[Bool.not_true,Bool.false_eq_true,if_false]
   exact i
  refine Or.inr ⟨r0,l,D,by omega,?_⟩
  simp only[Bool.not_true,Bool.false_eq_true,if_false]
  exact⟨u,i,t⟩
theorem ZeY.pair {a b:Nat}{odd:Bool}{u0 u1 v0 v1:Nat}(h:ZeY a b odd u0 u1 v0 v1)(s:v0≠0) :
 ∃ r0 d:Nat,d<r0∧r0≤b∧Nat.gcd r0 d=Nat.gcd a b∧(if odd then r0+v0*b=u0*a∧d+u1*a=v1*b else r0+u0*a=v0*b∧d+v1*b=u1*a):=by
 rcases h with h|⟨r0,d,t,u,c⟩
 ·exact absurd h s
 refine⟨r0,d,t,u,?_,?_⟩
 ·have l:v1*r0+v0*d=a∧u1*r0+u0*d=b∧(∀ g,g∣a→g∣b→g∣r0∧g∣d):=by
   cases odd with
   | false =>
    simp only[Bool.false_eq_true,if_false] at c
    obtain⟨e,f,i⟩:=c
    have m:=congrArg (v1 * ·) e
    have n:=congrArg (v0 * ·) f
    have o:=congrArg (u1 * ·) e
    have e4:=congrArg (u0 * ·) f
    have p:=congrArg (· * a) i
    have q:=congrArg (· * b) i
    simp only[Nat.mul_add,Nat.add_mul,Nat.one_mul] at m n o e4 p q
    refine⟨?_,?_,fun g j k=>⟨?_,?_⟩⟩
    ·simp only[Nat.mul_comm,Nat.mul_left_comm] at *;omega
    ·simp only[Nat.mul_comm,Nat.mul_left_comm] at *;omega
    ·exact (Nat.dvd_add_left (Nat.dvd_mul_left_of_dvd j u0)).1 (e ▸ Nat.dvd_mul_left_of_dvd k v0)
    exact (Nat.dvd_add_left (Nat.dvd_mul_left_of_dvd k v1)).1 (f ▸ Nat.dvd_mul_left_of_dvd j u1)
   | true =>
    simp only[if_true] at c
    obtain⟨e,f,i⟩:=c
    have m:=congrArg (v1 * ·) e
    have n:=congrArg (v0 * ·) f
    have o:=congrArg (u1 * ·) e
    have e4:=congrArg (u0 * ·) f
    have p:=congrArg (· * a) i
    have q:=congrArg (· * b) i
    simp only[Nat.mul_add,Nat.add_mul,Nat.one_mul] at m n o e4 p q
    refine⟨?_,?_,fun g j k=>⟨?_,?_⟩⟩
    ·simp only[Nat.mul_comm,Nat.mul_left_comm] at *;omega
    ·simp only[Nat.mul_comm,Nat.mul_left_comm] at *;omega
    ·exact (Nat.dvd_add_left (Nat.dvd_mul_left_of_dvd k v0)).1 (e ▸ Nat.dvd_mul_left_of_dvd j u0)
    exact (Nat.dvd_add_left (Nat.dvd_mul_left_of_dvd j u1)).1 (f ▸ Nat.dvd_mul_left_of_dvd k v1)
  obtain⟨v,w,r⟩:=l
  refine Nat.dvd_antisymm (Nat.dvd_gcd ?_ ?_) (Nat.dvd_gcd ?_ ?_)
  ·rw[←v];exact Nat.dvd_add (Nat.dvd_mul_left_of_dvd (Nat.gcd_dvd_left _ _) _) (Nat.dvd_mul_left_of_dvd (Nat.gcd_dvd_right _ _) _)
  ·rw[←w];exact Nat.dvd_add (Nat.dvd_mul_left_of_dvd (Nat.gcd_dvd_left _ _) _) (Nat.dvd_mul_left_of_dvd (Nat.gcd_dvd_right _ _) _)
  ·exact (r _ (Nat.gcd_dvd_left _ _) (Nat.gcd_dvd_right _ _)).1
  exact (r _ (Nat.gcd_dvd_left _ _) (Nat.gcd_dvd_right _ _)).2
 cases odd with
 | false=>simp only[Bool.false_eq_true,if_false] at c ⊢;exact⟨c.1,c.2.1⟩
 | true=>simp only[if_true] at c ⊢;exact⟨c.1,c.2.1⟩
def sm:Nat→(Nat→Rat)→Rat
 | 0,_=>0
 | n+1,f=>sm n f+f n
theorem xZ {f g:Nat→Rat}:∀ {n:Nat},(∀ k,k<n→f k=g k)→sm n f=sm n g
 | 0,_=>rfl
 | n+1,h=>by rw[sm,sm,xZ (fun k a=>h k qO),h n qO]
theorem aK:∀ n:Nat,sm n (fun _=>0)=0
 | 0=>rfl
 | n+1=>by rw[sm,aK n];grind
theorem bF (f g:Nat→Rat):∀ n:Nat,sm n (fun k=>f k+g k)=sm n f+sm n g
 | 0=>by simp only[sm];grind
 | n+1=>by simp only[sm];rw[bF f g n];grind
theorem eQ (c:Rat)(f:Nat→Rat):∀ n:Nat,sm n (fun k=>c*f k)=c*sm n f
 | 0=>by simp only[sm];grind
 | n+1=>by simp only[sm];rw[eQ c f n];grind
theorem Zbq (f:Nat→Nat→Rat)(m:Nat):∀ n:Nat,sm n (fun i=>sm m (fun j=>f i j))=sm m (fun j=>sm n (fun i=>f i j))
 | 0=>by simp only[sm];exact (aK m).symm
 | n+1=>by simp only[sm];rw[Zbq f m n,bF]
theorem ZgJ {f g:Nat→Rat}:∀ {n:Nat},(∀ k,k<n→f k≤g k)→sm n f≤sm n g
 | 0,_=>nR
 | n+1,h=>by
  have a:=ZgJ (n:=n) (fun k b=>h k qO);have c:=h n qO
  simp only[sm];grind
theorem fU (a:Rat):0≤a*a:=by
 rcases Rat.le_total (a:=0) (b:=a) with h|h
 ·exact vV h h
 have c:0 ≤ -a:=by grind
 have:=vV c c
 grind
theorem ZaL (f:Nat→Rat)(n:Nat):0≤sm n (fun k=>f k*f k):=by
 have h:=ZgJ (f:=fun _=>0) (g:=fun k=>f k*f k) (n:=n) (fun k _=>fU _)
 rw[aK] at h;exact h
theorem Zdm (c:Rat):∀ n:Nat,sm n (fun _=>c)=(n:Rat)*c
 | 0=>by simp only[sm];grind
 | n+1=>by simp only[sm];rw[Zdm c n];push_cast;grind
theorem ZfQ {p r:Rat}(g:0≤r)(h:p*p≤r*r):p≤r:=by
 rcases Rat.le_total (a:=p) (b:=r) with d|d
 ·exact d
 have i:0≤p-r:=by grind
 have j:0≤p:=by grind
 by_cases c:p=r
 ·rw[c];exact nR
 have e:0<p-r:=by grind
 have f:0<p+r:=by grind
 have:=mJ e f
 grind
theorem Zov (f g:Nat→Rat):∀ n:Nat,sm n (fun k=>f k*g k)*sm n (fun k=>f k*g k)≤sm n (fun k=>f k*f k)*sm n (fun k=>g k*g k)
 | 0=>by simp only[sm];grind
 | n+1=>by
  have h:=Zov f g n
  have b:=ZaL f n;have c:=ZaL g n
  simp only[sm]
  generalize sm n (fun k=>f k*g k)=a at *;generalize sm n (fun k=>f k*f k)=F at *;generalize sm n (fun k=>g k*g k)=G at *;generalize f n=x at *;generalize g n=y at *
  have d:0≤F*(y*y)+G*(x*x):=by
   have:=vV b (fU y);have:=vV c (fU x);grind
  have e:(2*a*x*y)*(2*a*x*y)≤(F*(y*y)+G*(x*x))*(F*(y*y)+G*(x*x)):=by
   have i:=fU (F*(y*y)-G*(x*x))
   have j:0≤(F*G-a*a)*((x*y)*(x*y)):=vV (by grind) (fU _)
   grind
  have:=ZfQ d e
  grind
theorem ZrO (L:Nat→Nat→Rat):∀ (b:Nat) (c:Nat→Rat),(∀ a k,a<k→k<b→L a k=0)→(∀ k,k<b→L k k≠0)→∃ v:Nat→Rat,∀ k,k<b→sm b (fun a=>v a*L a k)=c k
 | 0,_,_,_=>⟨fun _=>0,fun _ h=>qO⟩
 | b+1,c,h0,hd=>by
  obtain⟨v,i⟩:=ZrO L b (fun k=>c k-c b/L b b*L b k) (fun a k j l=>h0 a k j qO) (fun k h=>hd k qO)
  refine⟨fun a=>if a<b then v a else c b/L b b,fun k m=>?_⟩
  simp only[sm,rF,oK]
  rw[xZ (g:=fun a=>v a*L a k) (fun a d=>by rw[uM d])]
  by_cases e:k<b
  ·rw[i k e];grind
  have f:k=b:=qO
  subst f
  rw[xZ (g:=fun _=>0) (fun a d=>by rw[h0 a k d qO];grind),aK]
  have:=hd k qO
  rw[Rat.div_mul_cancel this];grind
theorem Zsr (B:Nat→Nat→Rat)(m n:Nat)(w:Nat→Rat):sm n (fun a=>w a*w a)≤sm n (fun a=>sm n (fun c=>w a*w c*(sm m (fun k=>B a k*B c k)+if a=c then 1 else 0))):=by
 have f:∀ a,a<n→sm n (fun c=>w a*w c*(sm m (fun k=>B a k*B c k)+if a=c then 1 else 0))=sm m (fun k=>w a*B a k*sm n (fun c=>w c*B c k))+w a*w a:=by
  intro a i
  have j:sm n (fun c=>w a*w c*(sm m (fun k=>B a k*B c k)+if a=c then 1 else 0))=sm n (fun c=>sm m (fun k=>w a*B a k*(w c*B c k)))+sm n (fun c=>if a=c then w a*w a else 0):=by
   rw[←bF]
   refine xZ (fun c _=>?_)
   have e:sm m (fun k=>w a*B a k*(w c*B c k))=w a*w c*sm m (fun k=>B a k*B c k):=by
    rw[←eQ];exact xZ (fun k _=>by grind)
   rw[e]
   generalize sm m (fun k=>B a k*B c k)=y
   by_cases b:a=c
   ·subst b;simp only[mR];grind
   simp only[uI b];grind
  rw[j,Zbq]
  have l:∀ n,a<n→sm n (fun c=>if a=c then w a*w a else 0)=w a*w a:=by
   intro n
   induction n with
   | zero=>intro h;omega
   | succ n ih =>
    intro h
    simp only[sm]
    by_cases d:a<n
    ·rw[ih d,uI qO];grind
    have:a=n:=qO
    subst this
    rw[uM rfl,xZ (g:=fun _=>0) (fun c o=>uI qO),aK];grind
  rw[l n i]
  congr 1
  exact xZ (fun k _=>eQ _ _ _)
 rw[xZ f,bF,Zbq]
 have d:sm m (fun k=>sm n (fun a=>w a*B a k*sm n (fun c=>w c*B c k)))=sm m (fun k=>sm n (fun c=>w c*B c k)*sm n (fun c=>w c*B c k)):=by
  refine xZ (fun k _=>?_)
  rw[xZ (g:=fun a=>sm n (fun c=>w c*B c k)*(w a*B a k)) (fun a _=>by grind),eQ]
 have p:=ZaL (fun k=>sm n (fun c=>w c*B c k)) m
 rw[d];grind
theorem ZjK {x y E ε:Rat}(a : -ε≤E)(b:E≤ε) : -(ε/2*(x*x+y*y))≤x*y*E:=by
 have c:0≤(x+y)*(x+y)*(ε+E):=vV (fU _) (by grind)
 have d:0≤(x-y)*(x-y)*(ε-E):=vV (fU _) (by grind)
 grind
theorem ZrP (B:Nat→Nat→Rat)(m b:Nat)(L:Nat→Nat→Rat)(q:Nat→Rat)(E:Nat→Nat→Rat)(e:Nat→Rat)(ε:Rat)(s:∀ a k,a<k→k<b→L a k=0)(t:∀ k,k<b→L k k≠0)(R:∀ a c,a<b→c<b→sm b (fun k=>L a k*L c k)=(sm m (fun k=>B a k*B c k)+if a=c then 1 else 0)+E a c)(u:∀ a,a<b→sm b (fun k=>L a k*q k)=sm m (fun k=>B a k*B b k)+e a)(p:∀ a c,a<b→c<b → -ε≤E a c∧E a c≤ε)(r:∀ a,a<b → -ε≤e a∧e a≤ε)(_:0≤ε)(K:ε*(b+1)<1) :
 sm b (fun k=>q k*q k)≤sm m (fun k=>B b k*B b k)+ε*b:=by
 obtain⟨v,l⟩:=ZrO L b (fun k => -q k) s t
 have w:sm b (fun k=>q k*q k)=sm b (fun a=>sm b (fun c=>v a*v c*(sm m (fun k=>B a k*B c k)+if a=c then 1 else 0)))+sm b (fun a=>sm b (fun c=>v a*v c*E a c)):=by
  have i:sm b (fun k=>q k*q k)=sm b (fun k=>sm b (fun a=>sm b (fun c=>v a*v c*(L a k*L c k)))):=by
   refine xZ (fun k j=>?_)
   rw[xZ (g:=fun a=>(-q k)*(v a*L a k)) (fun a _=>by rw[xZ (g:=fun c=>(v a*L a k)*(v c*L c k)) (fun c _=>by grind),eQ,l k j];grind),eQ,l k j]
   grind
  rw[i,Zbq,← bF]
  refine xZ (fun a d=>?_)
  rw[Zbq,← bF]
  refine xZ (fun c h=>?_)
  rw[eQ,R a c d h];grind
 have z : -sm b (fun k=>q k*q k)=sm b (fun a=>v a*sm m (fun k=>B a k*B b k))+sm b (fun a=>v a*e a):=by
  have i : -sm b (fun k=>q k*q k)=sm b (fun k=>sm b (fun a=>v a*(L a k*q k))):=by
   rw[show -sm b (fun k=>q k*q k)=sm b (fun k=>(-1)*(q k*q k)) by rw[eQ];grind]
   refine xZ (fun k j=>?_)
   rw[xZ (g:=fun a=>q k*(v a*L a k)) (fun a _=>by grind),eQ,l k j]
   grind
  rw[i,Zbq,← bF]
  refine xZ (fun a d=>?_)
  rw[eQ,u a d];grind
 have A:=Zsr B m (b+1) (fun a=>if a<b then v a else 1)
 have C:sm (b+1) (fun a=>(if a<b then v a else 1)*(if a<b then v a else 1))=sm b (fun a=>v a*v a)+1:=by
  simp only[sm,rF,oK]
  rw[xZ (g:=fun a=>v a*v a) (fun a d=>by rw[uM d])];grind
 have F:sm (b+1) (fun a=>sm (b+1) (fun c=>(if a<b then v a else 1)*(if c<b then v c else 1)*(sm m (fun k=>B a k*B c k)+if a=c then 1 else 0)))
  = (sm b (fun a=>sm b (fun c=>v a*v c*(sm m (fun k=>B a k*B c k)+if a=c then 1 else 0)))+sm b (fun a=>v a*sm m (fun k=>B a k*B b k)))+(sm b (fun a=>v a*sm m (fun k=>B a k*B b k))+(sm m (fun k=>B b k*B b k)+1)):=by
  have i:∀ a,a<b→sm (b+1) (fun c=>(if a<b then v a else 1)*(if c<b then v c else 1)*(sm m (fun k=>B a k*B c k)+if a=c then 1 else 0))=sm b (fun c=>v a*v c*(sm m (fun k=>B a k*B c k)+if a=c then 1 else 0))+v a*sm m (fun k=>B a k*B b k):=by
   intro a d
   simp only[sm,rF,oK,uM d,uI (show ¬ a=b by omega)]
   rw[xZ (g:=fun c=>v a*v c*(sm m (fun k=>B a k*B c k)+if a=c then 1 else 0)) (fun c h=>by rw[uM h])]
   grind
  have G:sm (b+1) (fun c=>(if b<b then v b else 1)*(if c<b then v c else 1)*(sm m (fun k=>B b k*B c k)+if b=c then 1 else 0))=sm b (fun a=>v a*sm m (fun k=>B a k*B b k))+(sm m (fun k=>B b k*B b k)+1):=by
   simp only[sm,rF,oK,mR]
   rw[xZ (g:=fun a=>v a*sm m (fun k=>B a k*B b k)) (fun c h=>by rw[uM h,uI (show ¬ b=c by omega),xZ (f:=fun k=>B b k*B c k) (g:=fun k=>B c k*B b k) (fun k _=>by grind)];grind)]
   grind
  rw[sm,G,xZ i,bF]
 rw[C,F] at A
 have H : -(ε*b*sm b (fun a=>v a*v a))≤sm b (fun a=>sm b (fun c=>v a*v c*E a c)):=by
  have o:=ZgJ (n:=b) (f:=fun a=>sm b (fun c => -(ε/2)*(v a*v a) + -(ε/2)*(v c*v c))) (g:=fun a=>sm b (fun c=>v a*v c*E a c)) (fun a d=>ZgJ (fun c h=>by
   have:=ZjK (x:=v a) (y:=v c) (p a c d h).1 (p a c d h).2;grind))
  rw[xZ (g:=fun a=>(-(ε/2)*b)*(v a*v a) + -(ε/2)*sm b (fun c=>v c*v c)) (fun a _=>by rw[bF,Zdm,eQ];grind),bF,eQ,Zdm] at o
  grind
 have I : -(ε/2*(sm b (fun a=>v a*v a)+b))≤sm b (fun a=>v a*e a):=by
  have o:=ZgJ (n:=b) (f:=fun a => -(ε/2)*(v a*v a) + -(ε/2)) (g:=fun a=>v a*e a) (fun a d=>by
   have:=ZjK (x:=v a) (y:=1) (r a d).1 (r a d).2;grind)
  rw[bF,eQ,Zdm] at o
  grind
 have J:=ZaL v b
 generalize sm b (fun k=>q k*q k)=Q at *
 generalize sm b (fun a=>v a*v a)=V at *
 generalize sm b (fun a=>sm b (fun c=>v a*v c*(sm m (fun k=>B a k*B c k)+if a=c then 1 else 0)))=VV at *
 generalize sm b (fun a=>sm b (fun c=>v a*v c*E a c))=EE at *
 generalize sm b (fun a=>v a*sm m (fun k=>B a k*B b k))=VM at *
 generalize sm b (fun a=>v a*e a)=VE at *
 generalize sm m (fun k=>B b k*B b k)=D at *
 have M:0≤V*(1-ε*(b+1)):=vV J (by grind)
 grind
def Fl (u x y:Rat):Prop:=∀ c,-c≤x→x≤c → -(u*c)≤y-x∧y-x≤u*c
theorem ZrQ {u S m:Rat}{p fp t:Nat→Rat}(a:0≤u)(e:u≤1/4096)(b:0≤S)(f : -S≤m∧m≤S):∀ (j:Nat),j≤3→t 0=m→(∀ k,k<j→Fl u (p k) (fp k))→(∀ k,k<j→Fl u (t k-fp k) (t (k+1)))→(∀ k,k<j → -S≤p k∧p k≤S)→(∀ k,k≤j → -S≤sm k p∧sm k p≤S) →
 -(4*j*(u*S))≤t j-(m-sm j p)∧t j-(m-sm j p)≤4*j*(u*S)
 | 0,_,h,_,_,_,_=>by
  have c:=vV a b
  simp only[sm];rw[h];constructor<;>grind
 | j+1,hj,h,hf,ht,hp,hs=>by
  obtain⟨r,s⟩:=ZrQ a e b f j qO h (fun k d=>hf k qO) (fun k d=>ht k qO) (fun k d=>hp k qO) (fun k d=>hs k qO)
  obtain⟨g,p2⟩:=hp j qO
  obtain⟨v,w⟩:=hf j qO S g p2
  obtain⟨i,l⟩:=hs (j+1) qO
  have c:=vV a b
  have n:(j:Rat)≤2:=by
   have:j=0∨j=1∨j=2:=qO
   rcases this with rfl|rfl|rfl<;>decide
  have o:(0:Rat)≤j:=by
   have:j=0∨j=1∨j=2:=qO
   rcases this with rfl|rfl|rfl<;>decide
  rw[sm] at i l
  have x:0≤(2-(j:Rat))*(u*S):=vV (by grind) c
  obtain⟨y,z⟩:=ht j qO (2*S+9*(u*S)) (by grind) (by grind)
  have q:u*(u*S)≤1/4096*(u*S):=uX e c
  simp only[sm]
  push_cast
  constructor<;>grind
theorem ZhK {f:Nat→Rat}{c:Nat}:∀ {n:Nat},c<n→(∀ k,c<k→k<n→f k=0)→sm n f=sm (c+1) f
 | 0,h,_=>qO
 | n+1,h,h0=>by
  by_cases a:c=n
  ·rw[a]
  rw[sm,ZhK (n:=n) qO (fun k b d=>h0 k b qO),h0 n qO qO];grind
def mB (n:Nat) (B:Nat→Nat→Rat) (a c:Nat):Rat:=sm n (fun k=>B a k*B c k)+if a=c then 1 else 0
theorem ZhL (n:Nat)(B:Nat→Nat→Rat)(a c:Nat):mB n B a c=mB n B c a:=by
 unfold mB
 rw[xZ (g:=fun k=>B c k*B a k) (fun k _=>by grind)]
 by_cases h:a=c
 ·rw[uM h,uM h.symm]
 rw[uI h,uI (Ne.symm h)]
def ResJ (n:Nat) (B L:Nat→Nat→Rat) (ε:Rat) (j:Nat):Prop:=∀ k,k<j→∀ i,k≤i→i<n → -ε≤sm (k+1) (fun x=>L i x*L k x)-mB n B i k∧sm (k+1) (fun x=>L i x*L k x)-mB n B i k≤ε
theorem Zow {n:Nat}{B L:Nat→Nat→Rat}{ε:Rat}{j i:Nat}(o:∀ a k,a<k→L a k=0)(p:∀ k,k<j→L k k≠0)(l:ResJ n B L ε j)(m:0≤ε)(q:ε*(j+1)<1)(r:j≤i)(e:i<n) :
 sm j (fun k=>L i k*L i k)≤mB n B i i-1+ε*j:=by
 have d:∀ a c,a≤c→a<j→c<n→sm j (fun k=>L c k*L a k)=sm (a+1) (fun k=>L c k*L a k):=fun a c _ s _=>ZhK s (fun k t _=>by rw[o a k t];grind)
 have u:=ZrP (fun a=>B (if a<j then a else i)) n j L (fun k=>L i k) (fun a c=>sm j (fun k=>L a k*L c k)-mB n B a c) (fun a=>sm j (fun k=>L a k*L i k)-mB n B a i) ε (fun a k v _=>o a k v) p
  (fun a c b f=>by simp only[uM b,uM f,mB];grind)
  (fun a b=>by simp only[uM b,rF,oK,mB,uI (show ¬ a=i by omega)];grind)
  (fun a c b f=>by
   rcases nU a c with h|h
   ·rw[xZ (g:=fun k=>L c k*L a k) (fun k _=>by grind),d a c h b qO,ZhL];exact l a b c h qO
   rw[d c a h f qO];exact l c f a h qO)
  (fun a b=>by rw[xZ (g:=fun k=>L i k*L a k) (fun k _=>by grind),d a i qO b e,ZhL];exact l a b i qO e)
  m q
 simp only[rF,oK] at u
 unfold mB
 rw[uM rfl]
 grind
theorem iI {x S:Rat}(a:0≤S)(h:x*x≤S*S) : -S≤x∧x≤S:=by
 have b:=ZfQ a h
 have c:=ZfQ (p := -x) a (by grind)
 constructor<;>grind
theorem ZcU {f:Nat→Rat}(h:∀ k,0≤f k):∀ {a b:Nat},a≤b→sm a f≤sm b f
 | a,0,hab=>by rw[show a=0 by omega];exact nR
 | a,b+1,hab=>by
  by_cases c:a=b+1
  ·rw[c];exact nR
  have d:=ZcU h (a:=a) (b:=b) qO;have e:=h b
  rw[sm];grind
theorem Znb {f g:Nat→Rat}{n:Nat}{F G S:Rat}(a:sm n (fun k=>f k*f k)≤F)(b:sm n (fun k=>g k*g k)≤G)(c:0≤S)(h:F*G≤S*S) : -S≤sm n (fun k=>f k*g k)∧sm n (fun k=>f k*g k)≤S:=by
 refine iI c ?_
 have e:=Zov f g n;have i:=ZaL f n;have d:=ZaL g n
 have j:sm n (fun k=>f k*f k)*sm n (fun k=>g k*g k)≤F*sm n (fun k=>g k*g k):=uX a d
 have l:F*sm n (fun k=>g k*g k)≤F*G:=tF b (by grind)
 grind
theorem ZuW {n:Nat}{B:Nat→Nat→Rat}{i j:Nat}{S:Rat}(b:0≤S)(h:mB n B i i*mB n B j j≤S*S) : -S≤mB n B i j∧mB n B i j≤S:=by
 by_cases a:i=j
 ·subst a;exact iI b h
 have c:mB n B i j=sm n (fun k=>B i k*B j k):=by unfold mB;rw[uI a];grind
 rw[c]
 exact Znb (F:=mB n B i i) (G:=mB n B j j) (by unfold mB;rw[uM rfl];grind) (by unfold mB;rw[uM rfl];grind) b h
theorem ZtT {n i j:Nat}{B L:Nat→Nat→Rat}{u S:Rat}{fp t:Nat→Rat}(e:0≤u)(r:u≤1/4096)(c:0≤S)(a:mB n B i i*mB n B j j≤S*S)(s:j≤3)(hi:sm j (fun k=>L i k*L i k)≤mB n B i i)(h:sm j (fun k=>L j k*L j k)≤mB n B j j)(l:t 0=mB n B i j)(v:∀ k,k<j→Fl u (L i k*L j k) (fp k))(w:∀ k,k<j→Fl u (t k-fp k) (t (k+1))) :
 (-(4*j*(u*S))≤t j-(mB n B i j-sm j (fun k=>L i k*L j k))∧t j-(mB n B i j-sm j (fun k=>L i k*L j k))≤4*j*(u*S))∧(-(2*S+4*j*(u*S))≤t j∧t j≤2*S+4*j*(u*S)):=by
 have y:=ZuW c a
 have o:∀ k,k≤j → -S≤sm k (fun k=>L i k*L j k)∧sm k (fun k=>L i k*L j k)≤S:=fun k b =>
  Znb (Rat.le_trans (ZcU (fun _=>fU _) b) hi) (Rat.le_trans (ZcU (fun _=>fU _) b) h) c a
 have z:∀ k,k<j → -S≤L i k*L j k∧L i k*L j k≤S:=fun k b=>by
  have m:=Znb (f:=fun x=>if x=k then L i k else 0) (g:=fun x=>if x=k then L j k else 0) (n:=k+1) (F:=mB n B i i) (G:=mB n B j j) (S:=S)
   (by
    rw[sm,uM rfl,xZ (g:=fun _=>0) (fun x q=>by rw[uI qO];grind),aK]
    have d:=ZcU (f:=fun k=>L i k*L i k) (fun _=>fU _) (show k+1≤j from b);have A:=ZaL (L i) k
    rw[sm] at d;grind)
   (by
    rw[sm,uM rfl,xZ (g:=fun _=>0) (fun x q=>by rw[uI qO];grind),aK]
    have d:=ZcU (f:=fun k=>L j k*L j k) (fun _=>fU _) (show k+1≤j from b);have A:=ZaL (L j) k
    rw[sm] at d;grind) c a
  rw[sm,uM rfl,uM rfl,xZ (g:=fun _=>0) (fun x q=>by rw[uI qO];grind),aK] at m
  constructor<;>grind
 have m:=ZrQ (p:=fun k=>L i k*L j k) e r c y j s l v w z o
 have d:=o j (uF _)
 refine⟨m,?_⟩
 constructor<;>grind
theorem ZcV {j:Nat}(a:j≤3):(0:Rat)≤j∧(j:Rat)≤3:=by
 have:j=0∨j=1∨j=2∨j=3:=qO
 rcases this with rfl|rfl|rfl|rfl<;>exact⟨qD,qD⟩
theorem Zss {u S s m t l x:Rat}{j:Nat}(a:0≤u)(k:u≤1/4096)(n:0≤S)(o:j≤3)(p:0<l)(C : -(4*j*(u*S))≤t-(m-s)∧t-(m-s)≤4*j*(u*S))(b : -(2*S+4*j*(u*S))≤t∧t≤2*S+4*j*(u*S))(q:Fl u (t/l) x) :
 -((4*j+7)*(u*S))≤s+x*l-m∧s+x*l-m≤(4*j+7)*(u*S):=by
 obtain⟨D,E⟩:=ZcV o
 have d:=vV a n
 have F:0<l⁻¹:=Rat.inv_pos.2 p
 have r:l⁻¹*l=1:=Rat.inv_mul_cancel _ (by grind)
 have e:t/l=t*l⁻¹:=oF _ _
 have G:(-(2*S+4*j*(u*S)))*l⁻¹≤t*l⁻¹:=uX b.1 (by grind)
 have v:t*l⁻¹≤(2*S+4*j*(u*S))*l⁻¹:=uX b.2 (by grind)
 obtain⟨f,g⟩:=q ((2*S+4*j*(u*S))*l⁻¹) (by rw[e];grind) (by rw[e];exact v)
 rw[e] at f g
 have h:=uX f (c:=l) (by grind)
 have i:=uX g (c:=l) (by grind)
 have w:(x-t*l⁻¹)*l=x*l-t:=by grind
 have y:u*((2*S+4*j*(u*S))*l⁻¹)*l=u*(2*S+4*j*(u*S)):=by grind
 have z : -(u*((2*S+4*j*(u*S))*l⁻¹))*l = -(u*(2*S+4*j*(u*S))):=by grind
 rw[w] at h i;rw[y] at i;rw[z] at h
 have A:u*(u*S)≤1/4096*(u*S):=uX k d
 have B:0≤(3-(j:Rat))*(u*(u*S)):=vV (by grind) (vV a d)
 constructor<;>grind
theorem Zqw {u S s m t l:Rat}{j:Nat}(a:0≤u)(c:u≤1/4096)(d:0≤S)(e:j≤3)(i : -(4*j*(u*S))≤t-(m-s)∧t-(m-s)≤4*j*(u*S))(f:t≤2*S+4*j*(u*S))(k : -(3*u*t)≤l*l-t∧l*l-t≤3*u*t) :
 -((4*j+7)*(u*S))≤s+l*l-m∧s+l*l-m≤(4*j+7)*(u*S):=by
 obtain⟨n,o⟩:=ZcV e
 have b:=vV a d
 have p:u*t≤u*(2*S+4*j*(u*S)):=tF f a
 have g:u*(u*S)≤1/4096*(u*S):=uX c b
 have h:0≤(3-(j:Rat))*(u*(u*S)):=vV (by grind) (vV a b)
 constructor<;>grind
theorem Zox:∀ X:Nat,∃ a,a*a≤X∧X<(a+1)*(a+1)
 | 0=>⟨0,qD,qD⟩
 | X+1=>by
  obtain⟨a,b,c⟩:=Zox X
  by_cases h:X+1<(a+1)*(a+1)
  ·exact⟨a,qO,h⟩
  refine⟨a+1,qO,?_⟩
  have:(a+1+1)*(a+1+1)=(a+1)*(a+1)+2*(a+1)+1:=by grind
  omega
theorem Zst (D c:Nat)(f:1≤D)(b:c≤19):∃ N:Nat,4096*D≤N*N∧N*N*(c*c)≤(c+1)*(c+1)*(4096*D):=by
 obtain⟨a,d,g⟩:=Zox (4096*D)
 have e:64≤a:=by
  rcases vO a 64 with h|h
  ·have:=vK (show a+1≤64 by omega) (show a+1≤64 by omega);omega
  exact h
 refine⟨a+1,qO,?_⟩
 have i:(a+1)*(a+1)*(c*c)=a*a*(c*c)+(2*a+1)*(c*c):=by grind
 have j:(c+1)*(c+1)*(4096*D)=4096*D*(c*c)+(2*c+1)*(4096*D):=by grind
 have k:=uE (c*c) d
 have l:(2*a+1)*(c*c)≤(2*c+1)*(4096*D):=by
  have m:(2*a+1)*(c*c)≤(3*a)*(19*c):=vK qO (uE c b)
  have n:64*a≤a*a:=uE a e
  have o:(2*c)*(64*a)≤(2*c+1)*(4096*D):=vK qO qO
  have p:(3*a)*(19*c)=57*(a*c):=by grind
  have q:(2*c)*(64*a)=128*(a*c):=by grind
  omega
 omega
theorem Zsu {d u D:Rat}{n k:Nat}(p:n≤4)(f:k<n)(_:0≤u)(a:Nat)(b:D=(a:Rat))(c:1≤a)(h:∀ S,0≤S→D≤S*S → -((4*k+7)*(u*S))≤d∧d≤(4*k+7)*(u*S)):d*d≤(4*(n+1)*u)*(4*(n+1)*u)*D:=by
 obtain⟨N,g,i⟩:=Zst a (4*k+7) c qO
 have q:(4096:Rat)*D≤(N:Rat)*N:=by rw[b];exact_mod_cast g
 have j:(N:Rat)*N*((4*k+7)*(4*k+7))≤(4*k+8)*(4*k+8)*(4096*D):=by
  rw[b]
  have:((N*N*((4*k+7)*(4*k+7)):Nat):Rat)≤(((4*k+7+1)*(4*k+7+1)*(4096*a):Nat):Rat):=by exact_mod_cast i
  push_cast at this;grind
 have r:(0:Rat)≤N:=by exact_mod_cast vS N
 obtain⟨s,t⟩:=h (N/64) (by grind) (by grind)
 have l:(k:Rat)+1≤n:=by exact_mod_cast f
 have m:(0:Rat)≤k:=by exact_mod_cast vS k
 have e:0≤D:=by rw[b];exact_mod_cast vS a
 have v:d*d≤((4*k+7)*(u*(N/64)))*((4*k+7)*(u*(N/64))):=by
  have w:0≤((4*k+7)*(u*(N/64))-d)*((4*k+7)*(u*(N/64))+d):=vV (by grind) (by grind)
  grind
 have x:=uX j (fU u)
 have o:0≤((4*(n+1))*(4*(n+1))-(4*k+8)*(4*k+8):Rat):=by
  have:=vV (show (0:Rat)≤4*(n+1)-(4*k+8) by grind) (show (0:Rat)≤4*(n+1)+(4*k+8) by grind)
  grind
 have y:=vV o (vV (fU u) e)
 grind
end Go.Proofs.YtmpffakfhcpjoaaGreatDoor
