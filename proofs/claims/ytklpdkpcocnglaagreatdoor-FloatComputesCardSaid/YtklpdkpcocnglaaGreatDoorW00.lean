/-
 My texts Math, DivMath, Lehmer, Prime, Rp put together.
-/
set_option maxRecDepth 100000
set_option maxHeartbeats 8000000
namespace Go.Proofs.YtklpdkpcocnglaaGreatDoor
abbrev uA:=@Nat.le_trans
abbrev uB:=@List.take_of_length_le
abbrev uC:=@of_decide_eq_true
abbrev uD:=@of_decide_eq_false
abbrev uE:=@Nat.mul_le_mul_right
abbrev uF:=@Nat.mul_assoc
abbrev uG:=@Nat.mul_comm
abbrev uH:=@Nat.eq_zero_or_pos
abbrev uI:=@Nat.mul_le_mul_left
abbrev uJ:=@decide_eq_false
abbrev uK:=@Nat.le_refl
abbrev uL:=@Nat.mul_add
abbrev uM:=@Nat.mod_lt
abbrev uN:=@if_neg
abbrev uO:=@Nat.div_le_self
abbrev uP:=@if_pos
abbrev uQ:=@decide_eq_true
abbrev uR:=@Nat.pow_succ
abbrev uS:=@Int.natAbs_natCast
abbrev uT:=@Nat.pow_add
abbrev uU:=@Nat.lt_of_lt_of_le
abbrev uV:=@Nat.pow_pos
abbrev uW:=@Int.eq_ofNat_of_zero_le
abbrev uX:=@Nat.min_eq_left
abbrev uY:=@Nat.pow_le_pow_right
abbrev uZ:=@decide_eq_false_iff_not
abbrev vA:=@List.drop_of_length_le
abbrev vC:=@Nat.mod_eq_of_lt
abbrev vE:=@List.length_take
abbrev vF:=@Nat.add_mul
abbrev vG:=@congrArg
abbrev vH:=@Nat.div_lt_iff_lt_mul
abbrev vI:=@Nat.lt_of_le_of_lt
abbrev vJ:=@Nat.lt_or_ge
abbrev vK:=@Nat.zero_lt_succ
abbrev vL:=@Nat.add_comm
abbrev vM:=@Int.sign_eq_zero_iff_zero
abbrev vN:=@List.drop_drop
abbrev vO:=@decide_eq_true_eq
abbrev vP:=@List.all_eq_true
abbrev vQ:=@Nat.pow_zero
abbrev vR:=@Bool.eq_false_iff
abbrev vS:=@Nat.div_add_mod
abbrev vT:=@Int.natCast_pow
abbrev vU:=@List.length_append
abbrev vV:=@Nat.add_zero
abbrev vW:=@Nat.mul_left_comm
abbrev vX:=@List.length_drop
abbrev vY:=@List.drop_set_of_lt
abbrev vZ:=@Nat.div_eq_of_lt
abbrev tA:=@beq_iff_eq
abbrev tB:=@List.append_assoc
abbrev tC:=@Int.natCast_ediv
abbrev tD:=@Int.natCast_mul
abbrev tE:=@Nat.add_sub_cancel
abbrev tF:=@Int.tdiv_eq_ediv_of_nonneg
abbrev tG:=@beq_eq_false_iff_ne
abbrev tH:=@List.length_eq_zero_iff
abbrev tI:=@List.drop_eq_getElem_cons
abbrev tJ:=@Nat.mul_le_mul
abbrev tK:=@Nat.mul_lt_mul_of_pos_right
abbrev tL:=@Nat.mul_zero
abbrev tM:=@Nat.shiftLeft_add_eq_or_of_lt
abbrev tN:=@Int.tmod_eq_emod_of_nonneg
abbrev tO:=@Nat.div_div_eq_div_mul
abbrev tP:=@Option.map_eq_some_iff
abbrev tQ:=@Nat.add_assoc
abbrev tR:=@Bool.and_eq_true
abbrev tS:=@Nat.mod_add_div
abbrev tT:=@List.drop_zero
abbrev tU:=@Nat.zero_add
abbrev tV:=@Nat.gcd_comm
abbrev tW:=@Nat.mul_one
abbrev tX:=@Nat.lt_of_mul_lt_mul_left
abbrev tY:=@List.take_succ_eq_append_getElem
abbrev tZ:=@Nat.add_mul_mod_self_left
abbrev sA:=@Classical.byContradiction
abbrev sB:=@Nat.mul_add_div
abbrev sC:=@Nat.shiftLeft_eq
abbrev sD:=@Nat.pow_le_pow_left
abbrev sE:=@Nat.mul_mod_mul_right
abbrev sF:=@Nat.le_of_ble_eq_true
abbrev sG:=@Nat.mul_pos
abbrev sH:=@List.length_cons
abbrev sI:=@Nat.zero_mul
abbrev sJ:=@List.length_pos_iff
abbrev sK:=@List.take_set_of_le
abbrev sL:=@Nat.div_one
abbrev sM:=@List.length_singleton
abbrev sN:=@Option.isSome_iff_exists
abbrev sO:=@Int.natCast_add
abbrev sP:=@List.append_nil
abbrev sQ:=@Nat.pos_of_ne_zero
abbrev sR:=@Option.getD_some
abbrev sS:=@Nat.pow_mul
abbrev sU:=@Nat.div_lt_of_lt_mul
abbrev sV:=@BitVec.ofInt_natCast
abbrev sW:=@List.all_cons
abbrev sX:=@Nat.lt_of_mul_lt_mul_right
abbrev sY:=@ByteArray.size_extract
abbrev sZ:=@Nat.one_mul
abbrev rA:=@Nat.zero_le
abbrev rB:=@List.take_append_drop
abbrev rC:=@Nat.mul_div_mul_right
abbrev rD:=@List.getElem_mem
abbrev rE:=@BitVec.toNat_ofNat
abbrev rF:=@Nat.gcd_zero_right
abbrev rG:=@Bool.false_eq_true
abbrev rH:=@List.mem_of_mem_take
abbrev rI:=@Nat.mul_mul_mul_comm
abbrev rJ:=@Option.some.injEq
abbrev rK:=@Nat.mul_add_mod
abbrev rL:=@List.all_append
abbrev rM:=@Nat.le_of_lt
abbrev rN:=@Int.sign_eq_one_of_pos
abbrev rO:=@Nat.lt_of_not_le
abbrev rP:=@decide_eq_decide
abbrev rQ:=@Int.natCast_nonneg
abbrev rR:=@Int.sign_eq_neg_one_of_neg
abbrev rS:=@Nat.mul_div_cancel
abbrev rT:=@Nat.le_div_iff_mul_le
abbrev rU:=@List.length_replicate
abbrev rV:=@Nat.lt_trans
abbrev rW:=@Nat.mul_lt_mul_right
abbrev rX:=@List.takeWhile_append_dropWhile
abbrev rY:=@Nat.div_mul_le_self
abbrev rZ:=@Nat.mul_div_cancel_left
abbrev qA:=@Int.natAbs_neg
abbrev qB:=@List.eq_nil_of_length_eq_zero
abbrev qC:=@Nat.lt_or_gt_of_ne
abbrev qD:=@Nat.sub_self
abbrev qE:=@Nat.and_one_is_mod
abbrev qF:=@Nat.sub_add_cancel
abbrev qG:=@Option.some.inj
abbrev qH:=@Nat.div_lt_self
abbrev qI:=@Classical.choose_spec
abbrev qJ:=@List.set_append_right
abbrev qK:=@Nat.lt_trichotomy
abbrev qL:=@Nat.gcd_rec
abbrev qM:=@Int.fdiv_eq_ediv_of_nonneg
abbrev qN:=@Nat.le_sub_of_add_le
abbrev qO:=@Nat.pow_lt_pow_right
abbrev qP:=@Array.size_replicate
abbrev qQ:=@Nat.mul_lt_mul''
abbrev qR:=@Nat.gcd_le_right
abbrev qS:=@Nat.succ_eq_add_one
abbrev qT:=@List.takeWhile_cons
abbrev qU:=@List.length_set
abbrev qV:=@Nat.pow_one
abbrev qW:=@Nat.exists_eq_add_of_le
abbrev qX:=@List.length_eq_one_iff
abbrev qY:=@Int.toNat_natCast
abbrev qZ:=@Int.natCast_emod
abbrev pA:=@List.cons_append
abbrev pB:=@Nat.lt_succ_self
abbrev pC:=@List.nil_append
abbrev pD:=@List.length_nil
abbrev pE:=@Option.map_some
abbrev pF:=@Nat.zero_mod
abbrev pG:=@List.set_set
abbrev pH:=@Int.lt_or_le
abbrev pI:=@if_false
abbrev pJ:=@Nat.mod_le
def val (B:Nat):List Nat→Nat
 | []=>0
 | x :: xs=>x+B*val B xs
def Dig (B:Nat) (xs:List Nat):Prop:=∀ x∈xs,x<B
def Trim (xs:List Nat):Prop:=∀ k,xs.length=k+1→(xs[k]?.getD 0)≠0
variable {B:Nat} {xs ys:List Nat}
@[simp] theorem eW:val B []=0:=rfl
@[simp] theorem iY (x:Nat):val B (x :: xs)=x+B*val B xs:=rfl
theorem kN:val B (xs ++ ys)=val B xs+B^xs.length*val B ys:=by
 induction xs with
 | nil=>simp
 | cons x xs ih=>simp[ih,uR,uL,tQ];rw[←uF,uG B]
theorem Dig.nil:Dig B []:=fun _ h=>by cases h
theorem Dig.cons {x:Nat}(h:x<B)(b:Dig B xs):Dig B (x :: xs):=fun y a=>by
 rcases List.mem_cons.1 a with rfl|a
 ·exact h
 exact b y a
theorem Dig.head {x:Nat}(h:Dig B (x :: xs)):x<B:=h x (by simp)
theorem Dig.tail {x:Nat}(h:Dig B (x :: xs)):Dig B xs:=fun y a=>h y (by simp[a])
theorem Dig.append (h:Dig B xs)(k:Dig B ys):Dig B (xs ++ ys):=fun y a=>by
 rcases List.mem_append.1 a with a|a
 ·exact h y a
 exact k y a
theorem Dig.take (h:Dig B xs)(k:Nat):Dig B (xs.take k):=fun y a=>h y (rH a)
theorem Dig.drop (h:Dig B xs)(k:Nat):Dig B (xs.drop k):=fun y a=>h y (List.mem_of_mem_drop a)
theorem Dig.getD (h:Dig B xs)(b:0<B)(k:Nat):(xs[k]?.getD 0)<B:=by
 rcases vJ k xs.length with a|a
 ·rw[List.getElem?_eq_getElem a];exact h _ (rD a)
 rw[List.getElem?_eq_none a];exact b
theorem Dig.set (h:Dig B xs)(k:Nat){v:Nat}(b:v<B):Dig B (xs.set k v):=fun y a=>by
 rcases List.mem_or_eq_of_mem_set a with a|a
 ·exact h y a
 exact a ▸ b
theorem Dig.replicate (a:0<B)(n:Nat):Dig B (List.replicate n 0):=fun y b=>by
 rw[(List.mem_replicate.1 b).2];exact a
theorem xV (h:Dig B xs):val B xs<B^xs.length:=by
 induction xs with
 | nil=>simp
 | cons x xs ih =>
  have c:=h.head
  have a:=ih h.tail
  have b:B*(val B xs+1)≤B*B^xs.length:=uI B a
  rw[iY,sH,uR,uG (B^_)]
  rw[uL] at b
  omega
theorem kS (n:Nat):val B (List.replicate n 0)=0:=by
 induction n with
 | zero=>rfl
 | succ n ih=>simp[List.replicate_succ,ih]
theorem zR (k:Nat)(h:k<xs.length):val B (xs.take (k+1))=val B (xs.take k)+B^k*(xs[k]?.getD 0):=by
 rw[tY h,kN]
 have:(xs.take k).length=k:=by simp;omega
 rw[this]
 simp[List.getElem?_eq_getElem h]
theorem xR (k:Nat):val B xs=val B (xs.take k)+B^(min k xs.length)*val B (xs.drop k):=by
 conv=>lhs;rw[←rB k xs,kN]
 simp
theorem ZoW (h:Dig B xs)(k:Dig B ys)(hl:xs.length=ys.length)(a:val B xs=val B ys):xs=ys:=by
 induction xs generalizing ys with
 | nil=>cases ys with|nil=>rfl|cons=>cases hl
 | cons x xs ih =>
  cases ys with
  | nil=>cases hl
  | cons y ys =>
   have b:=h.head
   have c:=k.head
   simp only[iY] at a
   have d:x=y:=by
    have:=vG (· % B) a
    simpa [tZ,vC b,vC c] using this
   subst d
   have e:val B xs=val B ys:=Nat.eq_of_mul_eq_mul_left (by omega:0<B) (by omega)
   rw[ih h.tail k.tail (by simpa using hl) e]
theorem Za2 (P B V X Y x y c d a:Nat)(f:V+P*c=X+Y)(b:d+B*a=x+y+c):V+P*d+P*B*a=X+P*x+(Y+P*y):=by
 have e:=vG (P * ·) b
 simp only[uL] at e
 rw[uF]
 omega
theorem ZeB (P B V X Y x y b d b':Nat)(e:V+Y=X+P*b)(a:d+y+b=x+B*b'):V+P*d+(Y+P*y)=X+P*x+P*B*b':=by
 have c:=vG (P * ·) a
 simp only[uL] at c
 rw[uF]
 omega
theorem Zgw (P B V Z X w z x c d c':Nat)(e:V+X*w=Z+P*c)(a:d+x*w+c=z+B*c'):V+P*d+(X+P*x)*w=Z+P*z+P*B*c':=by
 have b:=vG (P * ·) a
 simp only[uL] at b
 rw[uF,vF,uF]
 omega
theorem ZeC (B V Q w r x q r':Nat)(a:V=Q*w+r)(b:r*B+x=q*w+r'):x+B*V=(q+B*Q)*w+r':=by
 subst a
 rw[uL,vF,uF]
 have:B*r=r*B:=uG _ _
 omega
theorem ZlQ (v2 b t3 d R a:Nat)(B:Nat)(e:b<R)(g:a<B)(f:B*R≤v2*R)(c:a*v2≤t3) :
 a*(v2*R+b)≤(t3*R+d)+(v2*R+b):=by
 have h:a*v2*R≤t3*R:=uE R c
 have i:a*b≤B*R:=tJ (by omega) (by omega)
 rw[uL,← uF]
 omega
theorem Zc1 (v2 d t3 c R a:Nat)(e:c<R)(b:t3<(a+1)*v2):t3*R+c<(a+1)*(v2*R+d):=by
 have f:(t3+1)*R≤(a+1)*v2*R:=uE R b
 rw[uL,← uF]
 rw[vF t3,sZ] at f
 omega
theorem xS (k:Nat)(h:k<xs.length):val B (xs.drop k)=(xs[k]?.getD 0)+B*val B (xs.drop (k+1)):=by
 rw[tI h,iY,List.getElem?_eq_getElem h];rfl
theorem dG (a:Dig B xs)(g:xs.length=ys.length)(k:Nat)(b:k<xs.length)(c:xs.drop (k+1)=ys.drop (k+1))(d:(xs[k]?.getD 0)<(ys[k]?.getD 0)):val B xs<val B ys:=by
 rw[xR (xs:=xs) k,xR (xs:=ys) k,xS k b,xS k (by omega),c,uX (by omega),uX (by omega)]
 have e:=xV (a.take k)
 rw[vE,uX (by omega)] at e
 have f:B^k*((xs[k]?.getD 0)+1)≤B^k*(ys[k]?.getD 0):=uI _ d
 rw[uL,uL]
 rw[uL] at f
 omega
theorem Zc2 (h:Trim xs){k:Nat}(a:xs.length=k+1):B^k≤val B xs:=by
 rw[xR (xs:=xs) k,xS k (by omega),vA (by omega:xs.length≤k+1),uX (by omega)]
 have b:B^k*1≤B^k*(xs[k]?.getD 0):=uI _ (by have:=h k a;omega)
 simp only[eW,tL,vV]
 omega
theorem gT (a:0<B)(b:Dig B xs)(c:Trim ys)(e:xs.length<ys.length):val B xs<val B ys:=by
 obtain⟨k,d⟩:∃ k,ys.length=k+1:=⟨ys.length-1,by omega⟩
 have f:=xV b
 have g:=Zc2 (B:=B) c d
 have h:B^xs.length≤B^k:=uY a (by omega)
 omega
theorem jE (d:1<B)(b:Trim xs){n:Nat}(h:val B xs<B^n):xs.length≤n:=by
 rcases vJ n xs.length with a|a
 ·obtain⟨k,c⟩:∃ k,xs.length=k+1:=⟨xs.length-1,by omega⟩
  have e:=Zc2 (B:=B) b c
  have f:B^n≤B^k:=uY (by omega) (by omega)
  omega
 exact a
theorem ZhH (b:1<B)(h:Dig B xs)(k:Dig B ys)(c:Trim xs)(d:Trim ys)(a:val B xs=val B ys):xs=ys:=by
 have e:xs.length≤ys.length:=jE b c (a ▸ xV k)
 have f:ys.length≤xs.length:=jE b d (a ▸ xV h)
 exact ZoW h k (by omega) a
theorem Trim.nil:Trim []:=fun k a=>by simp at a
theorem bV (h:Trim xs)(b:0<B)(a:xs≠[]):0<val B xs:=by
 obtain⟨k,c⟩:∃ k,xs.length=k+1:=⟨xs.length-1,by have:=sJ.2 a;omega⟩
 have d:=Zc2 (B:=B) h c
 have:=uV (n:=k) b
 omega
theorem Zhe (h:Trim xs)(a:0<B)(b:val B xs=0):xs=[]:=by
 rcases xs with _|⟨x,xs⟩
 ·rfl
 have:=bV h a (by simp);omega
end Go.Proofs.YtklpdkpcocnglaaGreatDoor
namespace Go.Proofs.YtklpdkpcocnglaaGreatDoor
def gU (H U v1 v0 u q r:Nat):Prop:=q*v1+r=U∧(U*H+u)/(v1*H+v0)≤q
theorem ZdT {H U v1 v0 u q r:Nat}(a:U<v1*H+v0)(c:u<H)(d:H≤q)(h:gU H U v1 v0 u q r):gU H U v1 v0 u (q-1) (r+v1):=by
 obtain⟨b,e⟩:=h
 have f:(U*H+u)/(v1*H+v0)<H:=by
  rw[Nat.div_lt_iff_lt_mul (by omega)]
  have:(U+1)*H≤(v1*H+v0)*H:=Nat.mul_le_mul_right H a
  rw[Nat.add_mul U 1 H,Nat.one_mul] at this
  rw[Nat.mul_comm H]
  omega
 refine⟨?_,by omega⟩
 obtain⟨p,rfl⟩:∃ p,q=p+1:=⟨q-1,by omega⟩
 rw[Nat.add_mul] at b
 simp only[Nat.add_sub_cancel]
 omega
theorem Za5 {H U v1 v0 u q r:Nat}(b:0<v1*H+v0)(c:H*r+u<q*v0)(h:gU H U v1 v0 u q r):gU H U v1 v0 u (q-1) (r+v1):=by
 obtain⟨a,f⟩:=h
 have d:q≠0:=by rintro rfl;omega
 have e:(U*H+u)/(v1*H+v0)<q:=by
  rw[Nat.div_lt_iff_lt_mul b,Nat.mul_add,← Nat.mul_assoc]
  have:U*H=q*v1*H+r*H:=by rw[←a,Nat.add_mul]
  rw[Nat.mul_comm H r] at c
  omega
 refine⟨?_,by omega⟩
 obtain⟨p,rfl⟩:∃ p,q=p+1:=⟨q-1,by omega⟩
 rw[Nat.add_mul] at a
 simp only[Nat.add_sub_cancel]
 omega
theorem aT {H U v1 v0 u q r:Nat}(a:0<v1*H+v0)(b:q*v0≤H*r+u)(h:gU H U v1 v0 u q r):q=(U*H+u)/(v1*H+v0):=by
 obtain⟨c,d⟩:=h
 refine Nat.le_antisymm ?_ d
 rw[Nat.le_div_iff_mul_le a,Nat.mul_add,← Nat.mul_assoc]
 have:U*H=q*v1*H+r*H:=by rw[←c,Nat.add_mul]
 rw[Nat.mul_comm H r] at b
 omega
theorem gI {H U v1 v0 u q r:Nat}(c:U<v1*H+v0)(a:v0<H)(b:H≤r)(h:gU H U v1 v0 u q r):q=(U*H+u)/(v1*H+v0):=by
 refine aT (by omega) ?_ h
 obtain⟨d,e⟩:=h
 have f:q<H:=by
  have:q*v1<H*v1:=by rw[Nat.mul_comm H];omega
  exact Nat.lt_of_mul_lt_mul_right this
 have g:q*v0≤H*H:=Nat.mul_le_mul (by omega) (by omega)
 have i:H*H≤H*r:=Nat.mul_le_mul_left H b
 omega
theorem ZoX {H Y U u1 u0:Nat}(d:0<Y)(j:U<Y)(f:u1<H)(g:u0<H) :
 (U*H+u1)/Y<H∧(U*H+u1)%Y<Y∧((U*H+u1)%Y*H+u0)/Y<H ∧
 (U*(H*H)+u1*H+u0)/Y=(U*H+u1)/Y*H+((U*H+u1)%Y*H+u0)/Y∧(U*(H*H)+u1*H+u0)%Y=((U*H+u1)%Y*H+u0)%Y:=by
 have c:∀ a b:Nat,a<Y→b<H→(a*H+b)/Y<H:=by
  intro a b k l
  rw[Nat.div_lt_iff_lt_mul d]
  have:(a+1)*H≤Y*H:=Nat.mul_le_mul_right H k
  rw[Nat.add_mul a 1 H,Nat.one_mul] at this
  rw[Nat.mul_comm H]
  omega
 have h:(U*H+u1)%Y<Y:=Nat.mod_lt _ d
 have e:=Nat.div_add_mod (U*H+u1) Y
 have i:U*(H*H)+u1*H+u0=Y*((U*H+u1)/Y*H)+((U*H+u1)%Y*H+u0):=by
  have:(U*H+u1)*H=(Y*((U*H+u1)/Y)+(U*H+u1)%Y)*H:=by rw[e]
  rw[Nat.add_mul,Nat.add_mul,Nat.mul_assoc U,Nat.mul_assoc Y] at this
  omega
 refine⟨c _ _ j f,h,c _ _ h g,?_,?_⟩
 ·rw[i,Nat.mul_add_div d]
 rw[i,Nat.mul_add_mod]
theorem Zc3 (N y p:Nat)(a:0<p):N*p/(y*p)=N/y∧N*p%(y*p)/p=N%y:=by
 refine⟨Nat.mul_div_mul_right N y a,?_⟩
 rw[Nat.mul_mod_mul_right,Nat.mul_div_cancel _ a]
theorem Zi8 (hi lo s:Nat)(f:s≤63) :
 (hi*18446744073709551616+lo)*2^s=(hi*2^s+lo/2^(64-s))*(4294967296*4294967296)+(lo*2^s%18446744073709551616)/4294967296*4294967296+(lo*2^s%18446744073709551616)%4294967296:=by
 have a:(18446744073709551616:Nat)=2^(64-s)*2^s:=by rw[←Nat.pow_add,show 64-s+s=64 by omega]
 have b:lo*2^s=lo/2^(64-s)*18446744073709551616+lo*2^s%18446744073709551616:=by
  have c:=Nat.div_add_mod (lo*2^s) 18446744073709551616
  have d:lo*2^s/18446744073709551616=lo/2^(64-s):=by
   rw[a,Nat.mul_div_mul_right _ _ (Nat.pow_pos (by omega))]
  rw[d,Nat.mul_comm] at c
  omega
 generalize g:lo*2^s%18446744073709551616=T at *
 have h:=Nat.div_add_mod T 4294967296
 have e:(hi*18446744073709551616+lo)*2^s=hi*2^s*18446744073709551616+lo*2^s:=by
  rw[Nat.add_mul,Nat.mul_right_comm]
 rw[e,b]
 generalize hi*2^s=A at *
 generalize lo/2^(64-s)=C at *
 rw[Nat.add_mul]
 omega
end Go.Proofs.YtklpdkpcocnglaaGreatDoor
namespace Go.Proofs.YtklpdkpcocnglaaGreatDoor
def ZdW (a b:Nat) (odd:Bool) (u0 u1 v0 v1:Nat):Prop :=
 v0=0∨∃ r0 r1:Nat,r1<r0∧r0≤b ∧
  (if odd then r0+v0*b=u0*a∧r1+u1*a=v1*b∧u0*v1=u1*v0+1 else r0+u0*a=v0*b∧r1+v1*b=u1*a∧u1*v0=u0*v1+1)
def gV (A B a b:Nat) (odd:Bool) (f s u0 u1 u2 v0 v1 v2:Nat):Prop :=
 (if odd then f+u1*A=v1*B∧s+v2*B=u2*A∧u2*v1=u1*v2+1 else f+v1*B=u1*A∧s+u2*A=v2*B∧u1*v2=u2*v1+1) ∧
 f*v2+s*v1=A∧f*u2+s*u1=B∧u2≤v2∧1≤v2∧s≤f ∧
 ((v1=0∧u1=1∧odd=false∧u2=0∧v2=1)∨(u1≤v1∧1≤v1∧∃ r:Nat,r≤b∧if odd then r+u1*a=v1*b else r+v1*b=u1*a)) ∧
 ZdW a b odd u0 u1 v0 v1
theorem gV.start {A B a b:Nat}(h:B≤A):gV A B a b false A B 0 1 0 0 0 1:=by
 refine⟨by simp,by simp,by simp,by omega,by omega,h,Or.inl ⟨rfl,rfl,rfl,rfl,rfl⟩,Or.inl rfl⟩
theorem Zjh {K A B a' b' f s u1 u2 v1 v2:Nat}(ha:a'<K)(d:b'<K)(i:f+v1*B=u1*A)(j:s+u2*A=v2*B)(a:u2≤v2)(k:v2≤s)(b:v1+v2+s≤f)(n:1≤v2) :
 ∃ e g:Nat,g<e∧e+v1*(B*K+b')=u1*(A*K+a')∧g+u2*(A*K+a')=v2*(B*K+b'):=by
 have l:u1*(A*K+a')=f*K+v1*(B*K)+u1*a':=by
  rw[Nat.mul_add,← Nat.mul_assoc,← i,Nat.add_mul,Nat.mul_assoc]
 have m:v2*(B*K+b')=s*K+u2*(A*K)+v2*b':=by
  rw[Nat.mul_add,← Nat.mul_assoc,← j,Nat.add_mul,Nat.mul_assoc]
 have o:v1*b'≤v1*K:=Nat.mul_le_mul_left _ (by omega)
 have p:u2*a'≤v2*K:=Nat.mul_le_mul a (by omega)
 have h:(v1+v2)*b'+(v1+v2)≤(v1+v2)*K:=by
  have:(v1+v2)*(b'+1)≤(v1+v2)*K:=Nat.mul_le_mul_left _ d
  rw[Nat.mul_add] at this;omega
 have q:v2*K≤s*K:=Nat.mul_le_mul_right _ k
 have c:(v1+v2+s)*K≤f*K:=Nat.mul_le_mul_right _ b
 rw[Nat.add_mul (v1+v2)] at c
 rw[Nat.add_mul v1 v2 b'] at h
 refine⟨f*K+u1*a'-v1*b',s*K+v2*b'-u2*a',?_,?_,?_⟩
 ·have:=Nat.mul_le_mul_left v1 (Nat.le_of_lt d)
  rw[Nat.add_mul] at c h
  omega
 ·rw[l,Nat.mul_add]
  rw[Nat.add_mul] at c
  omega
 rw[m,Nat.mul_add]
 omega
theorem ZkP {K A B a' b' f s u1 u2 v1 v2:Nat}(ha:a'<K)(p:b'<K)(i:f+u1*A=v1*B)(j:s+v2*B=u2*A)(a:u1≤v1)(c:u2≤v2)(k:v2≤s)(d:v1+v2+s≤f)(q:1≤v2) :
 ∃ e g:Nat,g<e∧e+u1*(A*K+a')=v1*(B*K+b')∧g+v2*(B*K+b')=u2*(A*K+a'):=by
 have l:v1*(B*K+b')=f*K+u1*(A*K)+v1*b':=by
  rw[Nat.mul_add,← Nat.mul_assoc,← i,Nat.add_mul,Nat.mul_assoc]
 have m:u2*(A*K+a')=s*K+v2*(B*K)+u2*a':=by
  rw[Nat.mul_add,← Nat.mul_assoc,← j,Nat.add_mul,Nat.mul_assoc]
 have r:u1*a'≤v1*K:=Nat.mul_le_mul a (by omega)
 have t:v2*b'≤v2*K:=Nat.mul_le_mul_left _ (by omega)
 have b:u2*a'+v2≤v2*K∨a'=0:=by
  rcases Nat.eq_zero_or_pos a' with h|h
  ·exact Or.inr h
  left
  have:v2*(a'+1)≤v2*K:=Nat.mul_le_mul_left _ ha
  rw[Nat.mul_add] at this
  have:=Nat.mul_le_mul_right a' c
  omega
 have u:v2*K≤s*K:=Nat.mul_le_mul_right _ k
 have n:(v1+v2+s)*K≤f*K:=Nat.mul_le_mul_right _ d
 rw[Nat.add_mul (v1+v2),Nat.add_mul v1 v2] at n
 have o:1≤K:=by omega
 have v:v2*1≤v2*K:=Nat.mul_le_mul_left _ o
 refine⟨f*K+v1*b'-u1*a',s*K+u2*a'-v2*b',?_,?_,?_⟩
 ·rcases b with b|b
  ·omega
  subst b
  simp only[Nat.mul_zero] at *
  omega
 ·rw[l,Nat.mul_add];omega
 rw[m,Nat.mul_add];omega
theorem gV.step {A B a b K J L:Nat}{odd:Bool}{f s u0 u1 u2 v0 v1 v2 q s':Nat}(h:gV A B a b odd f s u0 u1 u2 v0 v1 v2)(ha:a=A*K+J)(M:b=B*K+L)(m:J<K)(n:L<K)(N:v2≤s)(O:v1+v2+s≤f)(w:f=q*s+s')(T:s'<s)(D:1≤q):gV A B a b (!odd) s s' u1 u2 (u1+q*u2) v1 v2 (v1+q*v2):=by
 obtain⟨x,U,V,o,y,h6,k,_⟩:=h
 have W:1*v2≤q*v2:=Nat.mul_le_mul_right _ D
 have P:q*u2≤q*v2:=Nat.mul_le_mul_left _ o
 have Q:s*(v1+q*v2)+s'*v2=A:=by
  rw[←U,w,Nat.mul_add,Nat.add_mul]
  have:q*s*v2=s*(q*v2):=by rw[Nat.mul_comm q,Nat.mul_assoc]
  omega
 have R:s*(u1+q*u2)+s'*u2=B:=by
  rw[←V,w,Nat.mul_add,Nat.add_mul]
  have:q*s*u2=s*(q*u2):=by rw[Nat.mul_comm q,Nat.mul_assoc]
  omega
 cases odd with
 | false =>
  simp only[Bool.false_eq_true,if_false] at x k
  obtain⟨p,j,t⟩:=x
  obtain⟨z,l,E,u,i⟩:=Zjh m n p j o N O y
  rw[←ha,← M] at u i
  have c:s'+(v1+q*v2)*B=(u1+q*u2)*A:=by
   rw[Nat.add_mul,Nat.add_mul,Nat.mul_assoc,Nat.mul_assoc,← j,Nat.mul_add,← p,w]
   omega
  have d:(u1+q*u2)*v2=u2*(v1+q*v2)+1:=by
   rw[Nat.add_mul,Nat.mul_add,t,Nat.mul_left_comm u2,Nat.mul_assoc]
   omega
  have X:v1≠0→z≤b:=by
   intro C
   rcases k with ⟨F,_⟩|⟨_,_,r,g,v⟩
   ·exact absurd F C
   omega
  have g:l≤b:=by
   rcases k with ⟨_,_,_,G,H⟩|⟨_,_,r,g,v⟩
   ·subst G H;simp at i;omega
   omega
  refine⟨?_,Q,R,?_,by omega,by omega,Or.inr ⟨o,y,l,g,?_⟩,?_⟩
  ·simp only[Bool.not_false,if_true]
   exact⟨j,c,d⟩
  ·rcases k with ⟨G,H,_,Y,e4⟩|⟨S,_⟩
   ·subst G H Y e4;simp;omega
   omega
  ·simp only[Bool.not_false,if_true]
   exact i
  by_cases C:v1=0
  ·exact Or.inl C
  refine Or.inr ⟨z,l,E,X C,?_⟩
  simp only[Bool.not_false,if_true]
  exact⟨u,i,t⟩
 | true =>
  simp only[if_true] at x k
  obtain⟨p,j,t⟩:=x
  have I:u1≤v1∧1≤v1∧∃ r,r≤b∧r+u1*a=v1*b:=by
   rcases k with ⟨_,_,e,_⟩|h
   ·cases e
   exact h
  obtain⟨S,Z,r,g,v⟩:=I
  obtain⟨z,l,E,u,i⟩:=ZkP m n p j S o N O y
  rw[←ha,← M] at u i
  have c:s'+(u1+q*u2)*A=(v1+q*v2)*B:=by
   rw[Nat.add_mul,Nat.add_mul,Nat.mul_assoc,Nat.mul_assoc,← j,Nat.mul_add,← p,w]
   omega
  have d:u2*(v1+q*v2)=(u1+q*u2)*v2+1:=by
   rw[Nat.add_mul,Nat.mul_add,t,Nat.mul_left_comm u2,Nat.mul_assoc]
   omega
  refine⟨?_,Q,R,by omega,by omega,by omega,Or.inr ⟨o,y,l,by omega,?_⟩,?_⟩
  ·simp only[Bool.not_true,Bool.false_eq_true,if_false]
   exact⟨j,c,d⟩
  ·simp only[Bool.not_true,Bool.false_eq_true,if_false]
   exact i
  refine Or.inr ⟨z,l,E,by omega,?_⟩
  simp only[Bool.not_true,Bool.false_eq_true,if_false]
  exact⟨u,i,t⟩
theorem ZdW.pair {a b:Nat}{odd:Bool}{u0 u1 v0 v1:Nat}(h:ZdW a b odd u0 u1 v0 v1)(t:v0≠0) :
 ∃ c e:Nat,e<c∧c≤b∧Nat.gcd c e=Nat.gcd a b∧(if odd then c+v0*b=u0*a∧e+u1*a=v1*b else c+u0*a=v0*b∧e+v1*b=u1*a):=by
 rcases h with h|⟨c,e,u,v,d⟩
 ·exact absurd h t
 refine⟨c,e,u,v,?_,?_⟩
 ·have m:v1*c+v0*e=a∧u1*c+u0*e=b∧(∀ g,g∣a→g∣b→g∣c∧g∣e):=by
   cases odd with
   | false =>
    simp only[Bool.false_eq_true,if_false] at d
    obtain⟨f,i,j⟩:=d
    have n:=congrArg (v1 * ·) f
    have o:=congrArg (v0 * ·) i
    have p:=congrArg (u1 * ·) f
    have e4:=congrArg (u0 * ·) i
    have q:=congrArg (· * a) j
    have r:=congrArg (· * b) j
    simp only[Nat.mul_add,Nat.add_mul,Nat.one_mul] at n o p e4 q r
    refine⟨?_,?_,fun g k l=>⟨?_,?_⟩⟩
    ·simp only[Nat.mul_comm,Nat.mul_left_comm] at *;omega
    ·simp only[Nat.mul_comm,Nat.mul_left_comm] at *;omega
    ·exact (Nat.dvd_add_left (Nat.dvd_mul_left_of_dvd k u0)).1 (f ▸ Nat.dvd_mul_left_of_dvd l v0)
    exact (Nat.dvd_add_left (Nat.dvd_mul_left_of_dvd l v1)).1 (i ▸ Nat.dvd_mul_left_of_dvd k u1)
   | true =>
    simp only[if_true] at d
    obtain⟨f,i,j⟩:=d
    have n:=congrArg (v1 * ·) f
    have o:=congrArg (v0 * ·) i
    have p:=congrArg (u1 * ·) f
    have e4:=congrArg (u0 * ·) i
    have q:=congrArg (· * a) j
    have r:=congrArg (· * b) j
    simp only[Nat.mul_add,Nat.add_mul,Nat.one_mul] at n o p e4 q r
    refine⟨?_,?_,fun g k l=>⟨?_,?_⟩⟩
    ·simp only[Nat.mul_comm,Nat.mul_left_comm] at *;omega
    ·simp only[Nat.mul_comm,Nat.mul_left_comm] at *;omega
    ·exact (Nat.dvd_add_left (Nat.dvd_mul_left_of_dvd l v0)).1 (f ▸ Nat.dvd_mul_left_of_dvd k u0)
    exact (Nat.dvd_add_left (Nat.dvd_mul_left_of_dvd k u1)).1 (i ▸ Nat.dvd_mul_left_of_dvd l v1)
  obtain⟨w,x,s⟩:=m
  refine Nat.dvd_antisymm (Nat.dvd_gcd ?_ ?_) (Nat.dvd_gcd ?_ ?_)
  ·rw[←w];exact Nat.dvd_add (Nat.dvd_mul_left_of_dvd (Nat.gcd_dvd_left _ _) _) (Nat.dvd_mul_left_of_dvd (Nat.gcd_dvd_right _ _) _)
  ·rw[←x];exact Nat.dvd_add (Nat.dvd_mul_left_of_dvd (Nat.gcd_dvd_left _ _) _) (Nat.dvd_mul_left_of_dvd (Nat.gcd_dvd_right _ _) _)
  ·exact (s _ (Nat.gcd_dvd_left _ _) (Nat.gcd_dvd_right _ _)).1
  exact (s _ (Nat.gcd_dvd_left _ _) (Nat.gcd_dvd_right _ _)).2
 cases odd with
 | false=>simp only[Bool.false_eq_true,if_false] at d ⊢;exact⟨d.1,d.2.1⟩
 | true=>simp only[if_true] at d ⊢;exact⟨d.1,d.2.1⟩
end Go.Proofs.YtklpdkpcocnglaaGreatDoor
namespace Go.Proofs.YtklpdkpcocnglaaGreatDoor
end Go.Proofs.YtklpdkpcocnglaaGreatDoor
namespace Go.Proofs.YtklpdkpcocnglaaGreatDoor
end Go.Proofs.YtklpdkpcocnglaaGreatDoor
