/-
 My texts Nr, Ng, Nf, Nt, Nd, Len2, SdM, SdA, Nrd, RdK, SdK, Sd, SdQ, Sdr, SdF, SdG, Nm, Pp, Sre, SdT, SdL put together.
-/
import Derived.Test.YtbgkofgoeoiciaaGreatDoorM17
import Derived.Test.YtbgkofgoeoiciaaGreatDoorM20
import Derived.Test.YtbgkofgoeoiciaaGreatDoorM16
import Derived.Test.YtbgkofgoeoiciaaGreatDoorM19
import Derived.Test.YtbgkofgoeoiciaaGreatDoorM12
import Derived.Test.YtbgkofgoeoiciaaGreatDoorM02
namespace Go.Proofs.YtbgkofgoeoiciaaGreatDoor
open Go.RowKit
end Go.Proofs.YtbgkofgoeoiciaaGreatDoor

namespace Go.Proofs.YtbgkofgoeoiciaaGreatDoor
open Go.RowKit
end Go.Proofs.YtbgkofgoeoiciaaGreatDoor

namespace Go.Proofs.YtbgkofgoeoiciaaGreatDoor
open Go.RowKit
end Go.Proofs.YtbgkofgoeoiciaaGreatDoor

namespace Go.Proofs.YtbgkofgoeoiciaaGreatDoor
open Go.RowKit
end Go.Proofs.YtbgkofgoeoiciaaGreatDoor

namespace Go.Proofs.YtbgkofgoeoiciaaGreatDoor
open Go.RowKit
end Go.Proofs.YtbgkofgoeoiciaaGreatDoor

namespace Go.Proofs.YtbgkofgoeoiciaaGreatDoor
open Go.RowKit
end Go.Proofs.YtbgkofgoeoiciaaGreatDoor

namespace Go.Proofs.YtbgkofgoeoiciaaGreatDoor
open Go.RowKit
def Free (m:Nat):Prop:=∀ j,2≤j→¬ j * j ∣ m
structure SqF (d r m:Nat):Prop where
 mul:r * r * m=d
 pos:0 < d
 free:Free m
theorem sq_unique {r m r' m':Nat} (hr:0 < r) (hr':0 < r') (h:r * r * m=r' * r' * m') (hm:Free m) (hm':Free m'):r=r':=by
 have hg:0 < Nat.gcd r r':=Nat.gcd_pos_of_pos_left _ hr
 have hc:=Nat.coprime_div_gcd_div_gcd (m:=r) (n:=r') hg
 obtain ⟨a,ha⟩:=Nat.gcd_dvd_left r r'
 obtain ⟨b,hb⟩:=Nat.gcd_dvd_right r r'
 generalize Nat.gcd r r'=g at hg hc ha hb
 subst ha hb
 rw [Nat.mul_div_cancel_left _ hg,Nat.mul_div_cancel_left _ hg] at hc
 have h2:a * a * m=b * b * m':=by
  refine Nat.eq_of_mul_eq_mul_left (Nat.mul_pos hg hg) ?_
  grind
 have cc:Nat.Coprime (a * a) (b * b):=(hc.mul_right hc).mul_left (hc.mul_right hc)
 have d1:a * a ∣ m':=cc.dvd_of_dvd_mul_left ⟨m,h2.symm⟩
 have d2:b * b ∣ m:=cc.symm.dvd_of_dvd_mul_left ⟨m',h2⟩
 have a1:a≠0:=fun e=>by subst e; omega
 have b1:b≠0:=fun e=>by subst e; omega
 have a2:¬ 2≤a:=fun e=>hm' _ e d1
 have b2:¬ 2≤b:=fun e=>hm _ e d2
 have:a=b:=by omega
 rw [this]
theorem SqF.rpos {d r m:Nat} (h:SqF d r m):0 < r∧0 < m:=by
 have h1:=h.mul; have h2:=h.pos
 refine ⟨Nat.pos_of_ne_zero fun e=>?_,Nat.pos_of_ne_zero fun e=>?_⟩<;>subst e<;>simp at h1<;>omega
theorem SqF.eq {d r m r' m':Nat} (h:SqF d r m) (h':SqF d r' m'):r=r'∧m=m':=by
 have e:r=r':=sq_unique h.rpos.1 h'.rpos.1 (h.mul.trans h'.mul.symm) h.free h'.free
 subst e
 exact ⟨rfl,Nat.eq_of_mul_eq_mul_left (Nat.mul_pos h.rpos.1 h.rpos.1) (h.mul.trans h'.mul.symm)⟩
theorem sqf_exists:∀ n d:Nat,d≤n→0 < d→∃ r m,SqF d r m:=by
 intro n
 induction n with
 | zero=>intro d h1 h2; omega
 | succ n ih =>
   intro d h1 h2
   by_cases hf:Free d
   ·exact ⟨1,d,by omega,h2,hf⟩
   ·unfold Free at hf
    have:∃ j,2≤j∧j * j ∣ d:=Classical.byContradiction fun hn=>hf fun j hj hd=>hn ⟨j,hj,hd⟩
    obtain ⟨j,hj,q,hq⟩:=this
    have q0:0 < q:=Nat.pos_of_ne_zero fun e=>by subst e; omega
    have j4:2 * 2≤j * j:=Nat.mul_le_mul hj hj
    have:q < d:=by rw [hq]; have:=Nat.mul_le_mul_right q j4; omega
    obtain ⟨r,m,hs⟩:=ih q (by omega) q0
    exact ⟨j * r,m,by rw [hq,← hs.mul]; grind,h2,hs.free⟩
def FreeTo (k m:Nat):Prop:=∀ j,2≤j→j < k→¬ j * j ∣ m
theorem FreeTo.next {k m:Nat} (h:FreeTo k m) (hk:¬ k * k ∣ m):FreeTo (k + 1) m:=fun j h1 h2 hd=>by
 by_cases e:j=k
 ·subst e; exact hk hd
 ·exact h j h1 (by omega) hd
theorem FreeTo.div {k m:Nat} (h:FreeTo k m) (hk:k * k ∣ m):FreeTo k (m / (k * k)):=fun j h1 h2 hd =>
 h j h1 h2 (Nat.dvd_trans hd (Nat.div_dvd_of_dvd hk))
theorem FreeTo.free {k m:Nat} (h:FreeTo k m) (h0:0 < m) (hk:m < k * k):Free m:=fun j h1 hd=>by
 by_cases e:j < k
 ·exact h j h1 e hd
 ·have:=Nat.le_of_dvd h0 hd
  have:=Nat.mul_le_mul (show k≤j by omega) (show k≤j by omega)
  omega
theorem FreeTo.two (m:Nat):FreeTo 2 m:=fun j h1 h2=>by omega
theorem num_cast (a:Rat):(a.num:Rat)=a * ((a.den:Int):Rat):=by
 have h:mkRat a.num a.den=a:=Rat.mkRat_self a
 have h0:((a.den:Int):Rat)≠0:=fun e=>a.den_nz (by have:=Rat.intCast_inj.1 (e.trans Rat.intCast_zero.symm); omega)
 have h2:Rat.divInt a.num (a.den:Int)=a:=Rat.num_divInt_den a
 rw [Rat.divInt_eq_div] at h2
 rw [Rat.div_def] at h2
 have h3:=Rat.inv_mul_cancel _ h0
 grind
def nrm (a b:Rat) (d:Int):Rat:=a * a + b * (-b) * (d:Rat)
theorem nrm_nz {a b:Rat} {d:Int} (hd:2≤d) (hf:Free d.toNat) (hb:¬ (a=0∧b=0)):nrm a b d≠0:=by
 intro h
 unfold nrm at h
 have ha:=num_cast a
 have hb':=num_cast b
 have h1:((a.num * b.den) * (a.num * b.den):Int)=(b.num * a.den) * (b.num * a.den) * d:=by
  apply Rat.intCast_inj.1
  simp only [Rat.intCast_mul]
  rw [ha,hb']
  generalize ((a.den:Int):Rat)=x at *
  generalize ((b.den:Int):Rat)=y at *
  grind
 have h2:(a.num * b.den).natAbs * (a.num * b.den).natAbs * 1=(b.num * a.den).natAbs * (b.num * a.den).natAbs * d.toNat:=by
  have:=congrArg Int.natAbs h1
  rw [Int.natAbs_mul,Int.natAbs_mul _ d,Int.natAbs_mul (b.num * _)] at this
  rw [Nat.mul_one,this]
  congr 1; omega
 have f1:Free 1:=fun j hj hd=>by
  have:=Nat.le_of_dvd (by omega) hd
  have:=Nat.mul_le_mul hj hj
  omega
 by_cases hz:b.num=0
 ·have e:b=0:=Rat.num_eq_zero.1 hz
  subst e
  refine hb ⟨?_,rfl⟩
  have:a * a=0:=by grind
  grind
 ·have n0:0 < (b.num * a.den).natAbs:=by
   have:=Int.mul_ne_zero hz (denI a); omega
  have m0:0 < (a.num * b.den).natAbs:=by
   refine Nat.pos_of_ne_zero fun e=>?_
   rw [e] at h2
   have:=Nat.mul_pos (Nat.mul_pos n0 n0) (show 0 < d.toNat by omega)
   omega
  have e:=sq_unique m0 n0 h2 f1 hf
  rw [e] at h2
  have:=Nat.eq_of_mul_eq_mul_left (Nat.mul_pos n0 n0) h2
  omega
-- signs
def sg3 (q:Rat):Int:=q.num.sign
theorem sg3_pos {q:Rat}:sg3 q=1 ↔ 0 < q:=by
 unfold sg3
 rw [Int.sign_eq_one_iff_pos,Rat.lt_iff]; simp
theorem sg3_neg {q:Rat}:sg3 q = -1 ↔ q < 0:=by
 unfold sg3
 rw [Int.sign_eq_neg_one_iff_neg,Rat.lt_iff]; simp
theorem sg3_zero {q:Rat}:sg3 q=0 ↔ q=0:=by
 unfold sg3
 rw [Int.sign_eq_zero_iff_zero,Rat.num_eq_zero]
theorem sg3_cases (q:Rat):(q < 0∧sg3 q = -1)∨(q=0∧sg3 q=0)∨(0 < q∧sg3 q=1):=by
 rcases sign3 q.num with ⟨_,h⟩ | ⟨_,h⟩ | ⟨_,h⟩
 ·exact Or.inl ⟨sg3_neg.1 h,h⟩
 ·exact Or.inr (Or.inl ⟨sg3_zero.1 h,h⟩)
 ·exact Or.inr (Or.inr ⟨sg3_pos.1 h,h⟩)
theorem mul_neg_pos {a b:Rat} (ha:a < 0) (hb:0 < b):a * b < 0:=by
 have:=Rat.mul_pos (show 0 < -a by grind) hb
 grind
theorem sg3_mul (a b:Rat):sg3 (a * b)=sg3 a * sg3 b:=by
 rcases sg3_cases a with ⟨h,e⟩ | ⟨h,e⟩ | ⟨h,e⟩<;>rcases sg3_cases b with ⟨k,f⟩ | ⟨k,f⟩ | ⟨k,f⟩<;>rw [e,f]
 ·exact sg3_pos.2 (by have:=Rat.mul_pos (show 0 < -a by grind) (show 0 < -b by grind); grind)
 ·subst k; rw [Rat.mul_zero]; rfl
 ·exact sg3_neg.2 (mul_neg_pos h k)
 ·subst h; rw [Rat.zero_mul]; rfl
 ·subst h; rw [Rat.zero_mul]; rfl
 ·subst h; rw [Rat.zero_mul]; rfl
 ·exact sg3_neg.2 (by rw [Rat.mul_comm]; exact mul_neg_pos k h)
 ·subst k; rw [Rat.mul_zero]; rfl
 ·exact sg3_pos.2 (Rat.mul_pos h k)
theorem dom_pos {u v:Rat} (h:v * v < u * u) (hu:0 < u):0 < u + v:=by
 rcases sg3_cases (u + v) with ⟨h0,_⟩ | ⟨h0,_⟩ | ⟨h0,_⟩
 ·exfalso
  have h1:0 < -v - u:=by grind
  have h2:=Rat.mul_pos h1 (show 0 < -v + u by grind)
  grind
 ·exfalso
  have:v = -u:=by grind
  subst this; grind
 ·exact h0
theorem dom_sg {u v:Rat} (h:v * v < u * u):sg3 (u + v)=sg3 u:=by
 rcases sg3_cases u with ⟨hu,e⟩ | ⟨hu,e⟩ | ⟨hu,e⟩
 ·rw [e]
  have:=dom_pos (u := -u) (v := -v) (by grind) (by grind)
  exact sg3_neg.2 (by grind)
 ·exfalso
  subst hu
  rcases sg3_cases v with ⟨hv,_⟩ | ⟨hv,_⟩ | ⟨hv,_⟩
  ·have:=Rat.mul_pos (show 0 < -v by grind) (show 0 < -v by grind); grind
  ·subst hv; grind
  ·have:=Rat.mul_pos hv hv; grind
 ·rw [e]; exact sg3_pos.2 (dom_pos h hu)
end Go.Proofs.YtbgkofgoeoiciaaGreatDoor

namespace Go.Proofs.YtbgkofgoeoiciaaGreatDoor
open Go.RowKit
structure Sd where
 a:Rat
 b:Rat
 d:Int
def nv (a b:Rat) (d:Int):Sd:=if b=0 then ⟨a,0,1⟩ else ⟨a,b,d⟩
namespace Sd
def plus (x y:Sd):Sd:=nv (x.a + y.a) (x.b + y.b) (max x.d y.d)
def times (x y:Sd):Sd:=nv (x.a * y.a + x.b * y.b * ((max x.d y.d:Int):Rat)) (x.a * y.b + x.b * y.a) (max x.d y.d)
def neg (x:Sd):Sd:=⟨-x.a,-x.b,x.d⟩
def conj (x:Sd):Sd:=⟨x.a,-x.b,x.d⟩
def norm (x:Sd):Rat:=(x.times x.conj).a
def over (x y:Sd):Sd:=nv ((x.times y.conj).a * (y.norm)⁻¹) ((x.times y.conj).b * (y.norm)⁻¹) (x.times y.conj).d
def sgn (x:Sd):Int :=
 if x.b.num.sign=0∨x.a.num.sign=x.b.num.sign then x.a.num.sign
 else if x.a.num.sign=0 then x.b.num.sign
 else if 0 < x.norm.num.sign then x.a.num.sign else x.b.num.sign
-- the reference
def build (a b:Rat) (d:Int):Sd:=if d=1 then ⟨a + b,0,1⟩ else if b=0 then ⟨a,0,1⟩ else ⟨a,b,d⟩
def fld (d e:Int):Int:=if d=1∨d=e then e else if e=1 then d else 0
def rplus (x:Sd) (c:Rat) (y:Sd):Sd:=build (x.a + c * y.a) (x.b + c * y.b) (fld x.d y.d)
def rtimes (x y:Sd):Sd:=build (x.a * y.a + ((fld x.d y.d:Int):Rat) * (x.b * y.b)) (x.a * y.b + x.b * y.a) (fld x.d y.d)
def rnorm (x:Sd):Rat:=(x.rtimes x.conj).a
def rsgn (x:Sd):Int :=
 if x.a.num.sign=0∨x.b.num.sign=0∨x.a.num.sign=x.b.num.sign then (if x.a.num.sign=0 then x.b.num.sign else x.a.num.sign)
 else x.a.num.sign * (x.a * x.a - ((x.d:Int):Rat) * (x.b * x.b)).num.sign
def Ok (x:Sd):Prop:=(x.d=1∧x.b=0)∨(2≤x.d∧x.d≤1000000∧x.b≠0∧Free x.d.toNat)
end Sd
open Sd
structure Fld (D:Int):Prop where
 two:2≤D
 top:D≤1000000
 free:Free D.toNat
def Blg (d e:Int):Prop:=d=1∨e=1∨d=e
theorem nv_a (a b:Rat) (d:Int):(nv a b d).a=a:=by unfold nv; split<;>rfl
theorem nv_b (a b:Rat) (d:Int):(nv a b d).b=b:=by unfold nv; split<;>simp_all
theorem nv_zero (a:Rat) (d:Int):nv a 0 d=⟨a,0,1⟩:=by unfold nv; rw [if_pos rfl]
theorem nv_nz {b:Rat} (a:Rat) (d:Int) (h:b≠0):nv a b d=⟨a,b,d⟩:=by unfold nv; rw [if_neg h]
theorem nv_congr {a a' b b':Rat} {d:Int} (h1:a=a') (h2:b=b'):nv a b d=nv a' b' d:=by rw [h1,h2]
theorem nv_d {a b:Rat} {d e:Int} (h:b=0∨d=e):nv a b d=nv a b e:=by
 rcases h with h | h
 ·subst h; rw [nv_zero,nv_zero]
 ·rw [h]
theorem Fld.nv_ok {D:Int} (h:Fld D) (a b:Rat):(nv a b D).Ok:=by
 unfold nv
 split
 ·exact Or.inl ⟨rfl,rfl⟩
 ·rename_i hb; exact Or.inr ⟨h.two,h.top,hb,h.free⟩
theorem two_field:Fld 2:=⟨by decide,by decide,fun j hj hd=>by
 have:=Nat.le_of_dvd (by decide) hd
 have:=Nat.mul_le_mul hj hj
 have e:(2:Int).toNat=2:=rfl
 omega⟩
theorem Sd.Ok.field {x:Sd} (h:x.Ok):∃ D,Fld D∧(x.d=1∨x.d=D)∧∀ E,(x.d=1∨x.d=E)→x=nv x.a x.b E:=by
 obtain ⟨a,b,d⟩:=x
 rcases h with ⟨h1,h2⟩ | ⟨h1,h2,h3,h4⟩
 ·simp only at h1 h2
  subst h1 h2
  exact ⟨2,two_field,Or.inl rfl,fun E _=>(nv_zero _ _).symm⟩
 ·exact ⟨d,⟨h1,h2,h4⟩,Or.inr rfl,fun E hE=>by
   simp only at hE h1 h3 ⊢
   have:d=E:=by omega
   subst this
   exact (nv_nz a d h3).symm⟩
theorem two_in {x y:Sd} (hx:x.Ok) (hy:y.Ok) (hb:Blg x.d y.d):∃ D,Fld D∧x=nv x.a x.b D∧y=nv y.a y.b D:=by
 obtain ⟨D,hD,h1,h2⟩:=hx.field
 obtain ⟨E,hE,k1,k2⟩:=hy.field
 unfold Blg at hb
 by_cases hd:x.d=1
 ·exact ⟨E,hE,h2 E (Or.inl hd),k2 E k1⟩
 ·exact ⟨D,hD,h2 D h1,k2 D (by omega)⟩
theorem three_in {x y z:Sd} (hx:x.Ok) (hy:y.Ok) (hz:z.Ok) (h1:Blg x.d y.d) (h2:Blg y.d z.d) (h3:Blg x.d z.d):∃ D,Fld D∧x=nv x.a x.b D∧y=nv y.a y.b D∧z=nv z.a z.b D:=by
 obtain ⟨D,hD,a1,a2⟩:=hx.field
 obtain ⟨E,hE,b1,b2⟩:=hy.field
 obtain ⟨F,hF,c1,c2⟩:=hz.field
 unfold Blg at h1 h2 h3
 by_cases hd:x.d=1
 ·by_cases he:y.d=1
  ·exact ⟨F,hF,a2 F (Or.inl hd),b2 F (Or.inl he),c2 F c1⟩
  ·exact ⟨E,hE,a2 E (Or.inl hd),b2 E b1,c2 E (by omega)⟩
 ·exact ⟨D,hD,a2 D a1,b2 D (by omega),c2 D (by omega)⟩
theorem nvd_cases {D:Int} (_h:Fld D) (a b:Rat):(b=0∧nv a b D=⟨a,0,1⟩)∨(b≠0∧nv a b D=⟨a,b,D⟩):=by
 by_cases e:b=0
 ·subst e; exact Or.inl ⟨rfl,nv_zero _ _⟩
 ·exact Or.inr ⟨e,nv_nz _ _ e⟩
section
variable {D:Int} (h:Fld D) (a b a' b':Rat)
include h
theorem blg_nv:Blg (nv a b D).d (nv a' b' D).d:=by
 have:=h.two
 rcases nvd_cases h a b with ⟨_,e⟩ | ⟨_,e⟩<;>rcases nvd_cases h a' b' with ⟨_,f⟩ | ⟨_,f⟩<;>rw [e,f]<;>simp [Blg]
theorem max_nv:(b=0∧b'=0∧max (nv a b D).d (nv a' b' D).d=1)∨max (nv a b D).d (nv a' b' D).d=D:=by
 have:=h.two
 rcases nvd_cases h a b with ⟨h1,e⟩ | ⟨_,e⟩<;>rcases nvd_cases h a' b' with ⟨h2,f⟩ | ⟨_,f⟩<;>rw [e,f]
 ·exact Or.inl ⟨h1,h2,rfl⟩
 ·exact Or.inr (by show max 1 D=D; omega)
 ·exact Or.inr (by show max D 1=D; omega)
 ·exact Or.inr (by show max D D=D; omega)
theorem fld_nv:(b=0∧b'=0∧fld (nv a b D).d (nv a' b' D).d=1)∨fld (nv a b D).d (nv a' b' D).d=D:=by
 have:=h.two
 rcases nvd_cases h a b with ⟨h1,e⟩ | ⟨_,e⟩<;>rcases nvd_cases h a' b' with ⟨h2,f⟩ | ⟨_,f⟩<;>rw [e,f]
 ·exact Or.inl ⟨h1,h2,rfl⟩
 ·exact Or.inr (by show fld 1 D=D; unfold fld; rw [if_pos (Or.inl rfl)])
 ·exact Or.inr (by show fld D 1=D; unfold fld; rw [if_neg (by omega),if_pos rfl])
 ·exact Or.inr (by show fld D D=D; unfold fld; rw [if_pos (Or.inr rfl)])
theorem plus_nv:(nv a b D).plus (nv a' b' D)=nv (a + a') (b + b') D:=by
 unfold Sd.plus
 rw [nv_a,nv_a,nv_b,nv_b]
 refine nv_d ?_
 rcases max_nv h a b a' b' with ⟨h1,h2,_⟩ | e
 ·exact Or.inl (by rw [h1,h2,Rat.add_zero])
 ·exact Or.inr e
theorem times_nv:(nv a b D).times (nv a' b' D)=nv (a * a' + b * b' * (D:Rat)) (a * b' + b * a') D:=by
 unfold Sd.times
 rw [nv_a,nv_a,nv_b,nv_b]
 rcases max_nv h a b a' b' with ⟨h1,h2,e⟩ | e
 ·rw [e]; subst h1 h2
  rw [nv_d (e:=D) (Or.inl (by grind))]
  exact nv_congr (by grind) rfl
 ·rw [e]
theorem neg_nv:(nv a b D).neg=nv (-a) (-b) D:=by
 rcases nvd_cases h a b with ⟨h1,e⟩ | ⟨h1,e⟩<;>rw [e]
 ·subst h1
  rw [show (-0:Rat)=0 from rfl,nv_zero]; rfl
 ·rw [nv_nz _ _ (by grind)]; rfl
theorem conj_nv:(nv a b D).conj=nv a (-b) D:=by
 rcases nvd_cases h a b with ⟨h1,e⟩ | ⟨h1,e⟩<;>rw [e]
 ·subst h1
  rw [show (-0:Rat)=0 from rfl,nv_zero]; rfl
 ·rw [nv_nz _ _ (by grind)]; rfl
theorem norm_nv:(nv a b D).norm=nrm a b D:=by
 unfold Sd.norm
 rw [conj_nv h,times_nv h,nv_a]; rfl
theorem over_nv:(nv a b D).over (nv a' b' D)=nv ((a * a' + b * (-b') * (D:Rat)) * (nrm a' b' D)⁻¹) ((a * (-b') + b * a') * (nrm a' b' D)⁻¹) D:=by
 unfold Sd.over
 rw [norm_nv h,conj_nv h,times_nv h,nv_a,nv_b]
 refine nv_d ?_
 rcases nvd_cases h (a * a' + b * (-b') * (D:Rat)) (a * (-b') + b * a') with ⟨h1,e⟩ | ⟨h1,e⟩
 ·exact Or.inl (by rw [h1,Rat.zero_mul])
 ·exact Or.inr (by rw [e])
theorem build_nv (e:Int) (he:(b=0∧e=1)∨e=D):Sd.build a b e=nv a b D:=by
 have:=h.two
 unfold Sd.build
 rcases he with ⟨h1,h2⟩ | h2
 ·rw [if_pos h2,h1,nv_zero,Rat.add_zero]
 ·subst h2; rw [if_neg (by omega)]; rfl
theorem rplus_nv (c:Rat):(nv a b D).rplus c (nv a' b' D)=nv (a + c * a') (b + c * b') D:=by
 unfold Sd.rplus
 rw [nv_a,nv_a,nv_b,nv_b]
 refine build_nv h _ _ _ ?_
 rcases fld_nv h a b a' b' with ⟨h1,h2,e⟩ | e
 ·exact Or.inl ⟨by rw [h1,h2]; grind,e⟩
 ·exact Or.inr e
theorem rtimes_nv:(nv a b D).rtimes (nv a' b' D)=nv (a * a' + b * b' * (D:Rat)) (a * b' + b * a') D:=by
 unfold Sd.rtimes
 rw [nv_a,nv_a,nv_b,nv_b]
 rcases fld_nv h a b a' b' with ⟨h1,h2,e⟩ | e
 ·rw [e]; subst h1 h2
  rw [build_nv h _ _ _ (Or.inl ⟨by grind,rfl⟩)]
  exact nv_congr (by grind) rfl
 ·rw [e,build_nv h _ _ _ (Or.inr rfl)]
  exact nv_congr (by grind) rfl
theorem rnorm_nv:(nv a b D).rnorm=nrm a b D:=by
 unfold Sd.rnorm
 rw [conj_nv h,rtimes_nv h,nv_a]; rfl
theorem sgn_nv:(0 < nrm a b D∧(nv a b D).sgn=sg3 a)∨(nrm a b D < 0∧(nv a b D).sgn=sg3 b)∨(a=0∧b=0∧nrm a b D=0∧(nv a b D).sgn=0):=by
 have hD:(0:Rat) < (D:Rat):=Rat.intCast_pos.2 (by have:=h.two; omega)
 have sq:∀ q:Rat,q≠0→0 < q * q:=fun q hq=>by
  rcases sg3_cases q with ⟨k,_⟩ | ⟨k,_⟩ | ⟨k,_⟩
  ·have:=Rat.mul_pos (show 0 < -q by grind) (show 0 < -q by grind); grind
  ·exact absurd k hq
  ·exact Rat.mul_pos k k
 unfold Sd.sgn
 rw [norm_nv h,nv_a,nv_b]
 change _∨_
 by_cases h0:a=0∧b=0
 ·obtain ⟨rfl,rfl⟩:=h0
  exact Or.inr (Or.inr ⟨rfl,rfl,by unfold nrm; grind,rfl⟩)
 have hn:=nrm_nz h.two h.free h0
 have e1:∀ q:Rat,q.num.sign=sg3 q:=fun q=>rfl
 simp only [e1]
 by_cases hb:b=0
 ·subst hb
  have ha:a≠0:=fun e=>h0 ⟨e,rfl⟩
  refine Or.inl ⟨?_,if_pos (Or.inl rfl)⟩
  have:=sq a ha
  unfold nrm; grind
 have hb3:sg3 b≠0:=fun e=>hb (sg3_zero.1 e)
 by_cases ha:a=0
 ·subst ha
  refine Or.inr (Or.inl ⟨?_,?_⟩)
  ·have:=Rat.mul_pos (sq b hb) hD
   unfold nrm; grind
  ·rw [if_neg (by rintro (e | e)
                  ·exact hb3 e
                  ·exact hb3 (e.symm.trans rfl)),if_pos (show sg3 (0:Rat)=0 from rfl)]
 have ha3:sg3 a≠0:=fun e=>ha (sg3_zero.1 e)
 rcases sg3_cases (nrm a b D) with ⟨k,k3⟩ | ⟨k,k3⟩ | ⟨k,k3⟩
 ·refine Or.inr (Or.inl ⟨k,?_⟩)
  split
  ·rename_i hc; rcases hc with hc | hc
   ·exact absurd hc hb3
   ·exact hc
  ·rw [if_neg (by rw [k3]; decide)]
 ·exact absurd k hn
 ·refine Or.inl ⟨k,?_⟩
  split
  ·rfl
  ·rw [if_pos (by rw [k3]; decide)]
theorem rsgn_nv:(nv a b D).rsgn=(nv a b D).sgn:=by
 have hS:=sgn_nv h a b
 have e1:∀ q:Rat,q.num.sign=sg3 q:=fun q=>rfl
 unfold Sd.rsgn
 rw [nv_a,nv_b]
 simp only [e1]
 by_cases hb:b=0
 ·subst hb
  have hz:sg3 (0:Rat)=0:=rfl
  rw [if_pos (Or.inr (Or.inl hz)),hz]
  rcases hS with ⟨k,e⟩ | ⟨k,e⟩ | ⟨k1,k2,k3,e⟩
  ·rw [e]; split
   ·rename_i e; exact e.symm
   ·rfl
  ·exfalso
   have hq:nrm a 0 D=a * a:=by unfold nrm; grind
   rw [hq] at k
   rcases sg3_cases a with ⟨j,_⟩ | ⟨j,_⟩ | ⟨j,_⟩
   ·have:=Rat.mul_pos (show 0 < -a by grind) (show 0 < -a by grind); grind
   ·subst j; grind
   ·have:=Rat.mul_pos j j; grind
  ·rw [e,k1,hz]; rfl
 rw [nv_nz _ _ hb] at hS ⊢
 simp only []
 rw [show a * a - (D:Rat) * (b * b)=nrm a b D by unfold nrm; grind]
 have hb3:sg3 b≠0:=fun e=>hb (sg3_zero.1 e)
 rcases hS with ⟨k,e⟩ | ⟨k,e⟩ | ⟨k1,k2,k3,e⟩
 ·rw [e,sg3_pos.2 k]
  split
  ·split
   ·rename_i hc hz; exfalso
    have:=sg3_zero.1 hz; subst this
    have hD:(0:Rat) < (D:Rat):=Rat.intCast_pos.2 (by have:=h.two; omega)
    have hbb:0 < b * b:=by
     rcases sg3_cases b with ⟨j,_⟩ | ⟨j,_⟩ | ⟨j,_⟩
     ·have:=Rat.mul_pos (show 0 < -b by grind) (show 0 < -b by grind); grind
     ·exact absurd j hb
     ·exact Rat.mul_pos j j
    have:=Rat.mul_pos hbb hD
    unfold nrm at k; grind
   ·rfl
  ·omega
 ·rw [e,sg3_neg.2 k]
  split
  ·rename_i hc
   split
   ·rfl
   ·rename_i hz
    rcases hc with hc | hc | hc
    ·exact absurd hc hz
    ·exact absurd hc hb3
    ·exact hc
  ·rename_i hc
   have hA:sg3 a = -1∨sg3 a=0∨sg3 a=1:=by rcases sg3_cases a with ⟨_,j⟩ | ⟨_,j⟩ | ⟨_,j⟩<;>omega
   have hB:sg3 b = -1∨sg3 b=0∨sg3 b=1:=by rcases sg3_cases b with ⟨_,j⟩ | ⟨_,j⟩ | ⟨_,j⟩<;>omega
   omega
 ·exact absurd k2 hb
omit h in
theorem nrm_mul:nrm (a * a' + b * b' * (D:Rat)) (a * b' + b * a') D=nrm a b D * nrm a' b' D:=by
 unfold nrm; grind
theorem dvd_lt {x y:Rat} (hx:x * (D:Rat) < y * (D:Rat)):x < y:=by
 have hD:(0:Rat) < (D:Rat):=Rat.intCast_pos.2 (by have:=h.two; omega)
 exact (Rat.mul_lt_mul_right hD).1 hx
omit h in
theorem rsq (q:Rat):0≤q * q:=by
 rcases sg3_cases q with ⟨k,_⟩ | ⟨k,_⟩ | ⟨k,_⟩
 ·have:=Rat.mul_pos (show 0 < -q by grind) (show 0 < -q by grind); grind
 ·subst k; grind
 ·have:=Rat.mul_pos k k; grind
theorem sgn_mul:((nv a b D).times (nv a' b' D)).sgn=(nv a b D).sgn * (nv a' b' D).sgn:=by
 have hD:(0:Rat) < (D:Rat):=Rat.intCast_pos.2 (by have:=h.two; omega)
 rw [times_nv h]
 have hm:=nrm_mul (D:=D) a b a' b'
 have zero:nrm (0:Rat) 0 D=0:=by unfold nrm; grind
 have sq:=rsq
 rcases sgn_nv h a b with ⟨k,e⟩ | ⟨k,e⟩ | ⟨k1,k2,k3,e⟩
 ·rcases sgn_nv h a' b' with ⟨l,f⟩ | ⟨l,f⟩ | ⟨l1,l2,l3,f⟩
  ·have hp:=Rat.mul_pos k l
   rw [← hm] at hp
   have d1:(b * b' * (D:Rat)) * (b * b' * (D:Rat)) < (a * a') * (a * a'):=by
    have x1:=Rat.mul_nonneg (Rat.mul_nonneg (sq b') (Rat.le_of_lt hD)) (Rat.le_of_lt k)
    have x2:=Rat.mul_nonneg (Rat.mul_nonneg (sq b) (Rat.le_of_lt hD)) (Rat.le_of_lt l)
    have x3:=Rat.mul_pos k l
    unfold nrm at x1 x2 x3
    grind
   rcases sgn_nv h (a * a' + b * b' * (D:Rat)) (a * b' + b * a') with ⟨m,g⟩ | ⟨m,g⟩ | ⟨m1,m2,m3,g⟩
   ·rw [g,e,f,dom_sg d1,sg3_mul]
   ·grind
   ·grind
  ·have hp:=mul_neg_pos l k
   rw [Rat.mul_comm,← hm] at hp
   have d1:(b * a') * (b * a') < (a * b') * (a * b'):=by
    have x3:=mul_neg_pos l k
    have x1:=Rat.mul_nonneg (sq a') (Rat.le_of_lt k)
    have x2:=Rat.mul_nonneg (Rat.mul_nonneg (sq b) (Rat.le_of_lt hD)) (show 0 ≤ -(nrm a' b' D) by grind)
    refine dvd_lt h ?_
    unfold nrm at x1 x2 x3
    grind
   rcases sgn_nv h (a * a' + b * b' * (D:Rat)) (a * b' + b * a') with ⟨m,g⟩ | ⟨m,g⟩ | ⟨m1,m2,m3,g⟩
   ·grind
   ·rw [g,e,f,dom_sg d1,sg3_mul]
   ·grind
  ·subst l1 l2
   rw [f,Int.mul_zero,show a * 0 + b * 0 * (D:Rat)=0 by grind,show a * 0 + b * 0=(0:Rat) by grind,nv_zero]; rfl
 ·rcases sgn_nv h a' b' with ⟨l,f⟩ | ⟨l,f⟩ | ⟨l1,l2,l3,f⟩
  ·have hp:=mul_neg_pos k l
   rw [← hm] at hp
   have d1:(a * b') * (a * b') < (b * a') * (b * a'):=by
    have x3:=mul_neg_pos k l
    have x1:=Rat.mul_nonneg (sq a) (Rat.le_of_lt l)
    have x2:=Rat.mul_nonneg (Rat.mul_nonneg (sq b') (Rat.le_of_lt hD)) (show 0 ≤ -(nrm a b D) by grind)
    refine dvd_lt h ?_
    unfold nrm at x1 x2 x3
    grind
   rcases sgn_nv h (a * a' + b * b' * (D:Rat)) (a * b' + b * a') with ⟨m,g⟩ | ⟨m,g⟩ | ⟨m1,m2,m3,g⟩
   ·grind
   ·rw [g,e,f,Rat.add_comm,dom_sg d1,sg3_mul]
   ·grind
  ·have hp:=Rat.mul_pos (show 0 < -(nrm a b D) by grind) (show 0 < -(nrm a' b' D) by grind)
   have d1:(a * a') * (a * a') < (b * b' * (D:Rat)) * (b * b' * (D:Rat)):=by
    have x1:=Rat.mul_nonneg (sq a') (show 0 ≤ -(nrm a b D) by grind)
    have x2:=Rat.mul_nonneg (sq a) (show 0 ≤ -(nrm a' b' D) by grind)
    have x3:=hp
    unfold nrm at x1 x2 x3
    grind
   rcases sgn_nv h (a * a' + b * b' * (D:Rat)) (a * b' + b * a') with ⟨m,g⟩ | ⟨m,g⟩ | ⟨m1,m2,m3,g⟩
   ·rw [g,e,f,Rat.add_comm,dom_sg d1,sg3_mul,sg3_mul,sg3_pos.2 hD,Int.mul_one]
   ·grind
   ·grind
  ·subst l1 l2
   rw [f,Int.mul_zero,show a * 0 + b * 0 * (D:Rat)=0 by grind,show a * 0 + b * 0=(0:Rat) by grind,nv_zero]; rfl
 ·subst k1 k2
  rw [e,Int.zero_mul,show 0 * a' + 0 * b' * (D:Rat)=0 by grind,show 0 * b' + 0 * a'=(0:Rat) by grind,nv_zero]; rfl
end
end Go.Proofs.YtbgkofgoeoiciaaGreatDoor

namespace Go.Proofs.YtbgkofgoeoiciaaGreatDoor
open Go.RowKit
end Go.Proofs.YtbgkofgoeoiciaaGreatDoor

namespace Go.Proofs.YtbgkofgoeoiciaaGreatDoor
open Go.RowKit
theorem opt_two {α:Type} (o:Option α):o=none∨∃ x,o=some x:=by cases o; exact Or.inl rfl; exact Or.inr ⟨_,rfl⟩
section
variable {w w':World} {e:Ending} {l:List UInt8}
theorem post_Read_none (h:RetRead w l e w') (hr:readF l=none):PostC (fun x:ShQ=>.tuple #[shRat x, .bool false]) (fun x w=>RatIs w (shRat x) 0) w e w':=by
 obtain ⟨v,ok,rfl,hE,⟨rfl,q,h1,h2⟩ | ⟨rfl,h1,h2⟩⟩:=h
 ·rw [hr] at h1; cases h1
 ·obtain ⟨s,A,l,c,t,B,m,d,rfl⟩:=h2.shp
  exact ⟨(s,A,l,c,t,B,m,d),rfl,hE,boxn hE (fun S w'' hS hF=>h2.nrb hS hF)⟩
theorem post_Read_some {q:Rat} (h:RetRead w l e w') (hr:readF l=some q):PostC (fun x:ShQ=>.tuple #[shRat x, .bool true]) (fun x w=>RatIs w (shRat x) q) w e w':=by
 obtain ⟨v,ok,rfl,hE,⟨rfl,q,h1,h2⟩ | ⟨rfl,h1,h2⟩⟩:=h
 ·rw [hr] at h1; injection h1 with h1; subst h1
  obtain ⟨s,A,l,c,t,B,m,d,rfl⟩:=h2.shp
  exact ⟨(s,A,l,c,t,B,m,d),rfl,hE,boxn hE (fun S w'' hS hF=>h2.nrb hS hF)⟩
 ·rw [hr] at h1; cases h1
end
end Go.Proofs.YtbgkofgoeoiciaaGreatDoor

namespace Go.Proofs.YtbgkofgoeoiciaaGreatDoor
open Go.RowKit
def Dq (q:Rat) (k:Nat):Prop:=q.num.natAbs < 10 ^ k∧q.den < 10 ^ k
theorem pow_lt_mul {x y j k:Nat} (hx:x < 10 ^ j) (hy:y < 10 ^ k):x * y < 10 ^ (j + k):=by
 have:=Nat.mul_lt_mul'' hx hy
 rwa [← Nat.pow_add] at this
theorem Dq.up {q:Rat} {j k:Nat} (h:Dq q j) (hk:j≤k):Dq q k :=
 ⟨Nat.lt_of_lt_of_le h.1 (Nat.pow_le_pow_right (by omega) hk),Nat.lt_of_lt_of_le h.2 (Nat.pow_le_pow_right (by omega) hk)⟩
theorem Dq.neg {q:Rat} {k:Nat} (h:Dq q k):Dq (-q) k:=neg_small h
theorem Dq.mul {p q:Rat} {j k:Nat} (h:Dq p j) (h':Dq q k):Dq (p * q) (j + k) :=
 frac_small (Int.mul_ne_zero (denI p) (denI q)) (rat_mul_frac p q) (by rw [Int.natAbs_mul]; exact pow_lt_mul h.1 h'.1) (by rw [Int.natAbs_mul,Int.natAbs_natCast,Int.natAbs_natCast]; exact pow_lt_mul h.2 h'.2)
theorem Dq.add {p q:Rat} {j k:Nat} (h:Dq p j) (h':Dq q k):Dq (p + q) (j + k + 1):=by
 have m1:=pow_lt_mul h.1 h'.2
 have m2:=pow_lt_mul h'.1 h.2
 rw [Nat.add_comm k j] at m2
 refine frac_small (Int.mul_ne_zero (denI p) (denI q)) (rat_add_frac p q) ?_ ?_
 ·have:=Int.natAbs_add_le (p.num * q.den) (q.num * p.den)
  rw [Int.natAbs_mul,Int.natAbs_mul,Int.natAbs_natCast,Int.natAbs_natCast] at this
  rw [Nat.pow_succ]; omega
 ·rw [Int.natAbs_mul,Int.natAbs_natCast,Int.natAbs_natCast]
  have:=pow_lt_mul h.2 h'.2
  rw [Nat.pow_succ]; omega
theorem Dq.inv {q:Rat} {k:Nat} (h:Dq q k) (hk:1≤k):Dq (q⁻¹) k:=by
 obtain ⟨h1,h2⟩:=h
 rcases sign3' q.num with ⟨h,_⟩ | ⟨h,_⟩ | ⟨h,_⟩
 ·obtain ⟨e1,e2⟩:=rinv_neg h
  refine ⟨by rw [e1,Int.natAbs_neg,Int.natAbs_natCast]; exact h2,?_⟩
  have:(q⁻¹).den=q.num.natAbs:=by omega
  rw [this]; exact h1
 ·rw [rinv_zero h]; exact ⟨Nat.pow_pos (by omega),Nat.one_lt_pow (by omega) (by omega)⟩
 ·obtain ⟨e1,e2⟩:=rinv_pos h
  refine ⟨by rw [e1,Int.natAbs_natCast]; exact h2,?_⟩
  have:(q⁻¹).den=q.num.natAbs:=by omega
  rw [this]; exact h1
theorem Dq.int {d:Int} {k:Nat} (h:d.natAbs < 10 ^ k) (hk:1≤k):Dq (d:Rat) k:=⟨h,Nat.one_lt_pow (by omega) (by omega)⟩
theorem wl_ten {x k:Nat} (h:x < 10 ^ k) (hk:k≤722):wl x≤38:=by
 obtain ⟨n,hn⟩:∃ n,38=n:=⟨_,rfl⟩
 rw [hn]
 have h1:x < 10 ^ (19 * n):=Nat.lt_of_lt_of_le h (Nat.pow_le_pow_right (by omega) (by omega))
 have h2:(10 ^ 19) ^ n≤W64 ^ n:=Nat.pow_le_pow_left (by rw [W64_eq]; decide) n
 rw [← Nat.pow_mul] at h2
 exact wl_le_iff.2 (Nat.lt_of_lt_of_le h1 h2)
theorem Dq.fit {q:Rat} {k:Nat} (h:Dq q k) (hk:k≤722):QFits q 38:=⟨wl_ten h.1 hk,wl_ten h.2 hk⟩
structure Sz (x:Sd) (k:Nat):Prop where
 a:Dq x.a k
 b:Dq x.b k
 lo:1≤x.d
 hi:x.d≤1000000
theorem nv_sz {a b:Rat} {d:Int} {k:Nat} (ha:Dq a k) (hb:Dq b k) (h1:1≤d) (h2:d≤1000000):Sz (nv a b d) k:=by
 refine ⟨by rw [nv_a]; exact ha,by rw [nv_b]; exact hb,?_,?_⟩<;>unfold nv<;>split<;>first | exact h1 | exact h2 | exact (by decide:(1:Int)≤1) | exact (by decide:(1:Int)≤1000000)
theorem Sz.max {x y:Sd} {j k:Nat} (h:Sz x j) (h':Sz y k):1≤max x.d y.d∧max x.d y.d≤1000000:=by
 have h1:=h.lo; have h2:=h.hi; have h3:=h'.lo; have h4:=h'.hi
 omega
theorem Dq.imax {x y:Sd} {j k:Nat} (h:Sz x j) (h':Sz y k):Dq ((max x.d y.d:Int):Rat) 7:=by
 obtain ⟨h1,h2⟩:=h.max h'
 exact Dq.int (k:=7) (by rw [show (10:Nat) ^ 7=10000000 by decide]; omega) (by decide)
theorem Sz.conj {x:Sd} {k:Nat} (h:Sz x k):Sz x.conj k:=⟨h.a,h.b.neg,h.lo,h.hi⟩
theorem Sz.plus {x y:Sd} {j k:Nat} (h:Sz x j) (h':Sz y k):Sz (x.plus y) (j + k + 1) :=
 nv_sz (h.a.add h'.a) (h.b.add h'.b) (h.max h').1 (h.max h').2
theorem Sz.times {x y:Sd} {j k:Nat} (h:Sz x j) (h':Sz y k):Sz (x.times y) (2 * (j + k) + 8) :=
 nv_sz (((h.a.mul h'.a).add ((h.b.mul h'.b).mul (Dq.imax h h'))).up (by omega)) (((h.a.mul h'.b).add (h.b.mul h'.a)).up (by omega)) (h.max h').1 (h.max h').2
theorem Sz.norm {x:Sd} {k:Nat} (h:Sz x k):Dq x.norm (4 * k + 8):=(h.times h.conj).a.up (by omega)
theorem Sz.over {x y:Sd} {j k:Nat} (h:Sz x j) (h':Sz y k):Sz (x.over y) (2 * (j + k) + 8 + (4 * k + 8)) :=
 nv_sz ((h.times h'.conj).a.mul (h'.norm.inv (by omega))) ((h.times h'.conj).b.mul (h'.norm.inv (by omega))) (h.times h'.conj).lo (h.times h'.conj).hi
theorem Sd.Ok.dle {x:Sd} (h:x.Ok):1≤x.d∧x.d≤1000000:=by
 rcases h with ⟨h,_⟩ | ⟨h1,h2,_⟩<;>omega
-- structs
abbrev vV9 (x:Bool) (A:Option Addr) (l c:Nat) (y:Bool) (B:Option Addr) (m d:Nat) (x':Bool) (A':Option Addr) (l' c':Nat) (y':Bool) (B':Option Addr) (m' d':Nat) (k:Int):Value:=.agg #[.bool x, .slice A l c, .bool y, .slice B m d, .bool x', .slice A' l' c', .bool y', .slice B' m' d', .int .i64 k]
abbrev eV9 (n:Nat) (x:Bool) (A:Option Addr) (l c:Nat) (y:Bool) (B:Option Addr) (m d:Nat) (x':Bool) (A':Option Addr) (l' c':Nat) (y':Bool) (B':Option Addr) (m' d':Nat) (k:Int):Nat × AV:=(n, .v (vV9 x A l c y B m d x' A' l' c' y' B' m' d' k))
abbrev bV9 (n:Nat) (t:TypeId) (x:Bool) (A:Option Addr) (l c:Nat) (y:Bool) (B:Option Addr) (m d:Nat) (x':Bool) (A':Option Addr) (l' c':Nat) (y':Bool) (B':Option Addr) (m' d':Nat) (k:Int):Nat × TypeId × List AV:=(n,t,[.v (.bool x), .v (.slice A l c), .v (.bool y), .v (.slice B m d), .v (.bool x'), .v (.slice A' l' c'), .v (.bool y'), .v (.slice B' m' d'), .v (.int .i64 k)])
theorem bool2 (b:Bool):b=true∨b=false:=by cases b<;>simp
theorem imax_eq (a b:Int):(if b > a then b else a)=max a b:=by omega
abbrev ShS:=ShQ × ShQ
def shSd (d:Int) (x:ShS):Value:=.agg #[.bool x.1.1, .slice x.1.2.1 x.1.2.2.1 x.1.2.2.2.1, .bool x.1.2.2.2.2.1, .slice x.1.2.2.2.2.2.1 x.1.2.2.2.2.2.2.1 x.1.2.2.2.2.2.2.2,
 .bool x.2.1, .slice x.2.2.1 x.2.2.2.1 x.2.2.2.2.1, .bool x.2.2.2.2.2.1, .slice x.2.2.2.2.2.2.1 x.2.2.2.2.2.2.2.1 x.2.2.2.2.2.2.2.2, .int .i64 d]
def SdIs (w:World) (v:Value) (x:Sd):Prop:=∃ y:ShS,v=shSd x.d y∧RatIs w (shRat y.1) x.a∧RatIs w (shRat y.2) x.b
def RetSd (w:World) (x:Sd) (e:Ending) (w':World):Prop:=∃ v,e=.returned v∧SdIs w' v x∧Ext w w'
section
variable {s t s' t':Bool} {A B A' B':Option Addr} {l c m d l' c' m' d':Nat} {w w':World} {e:Ending} {v:Value} {x:Sd} {a b:Rat} {k:Int}
theorem SdIs.of (h1:RatIs w (.agg #[.bool s, .slice A l c, .bool t, .slice B m d]) a) (h2:RatIs w (.agg #[.bool s', .slice A' l' c', .bool t', .slice B' m' d']) b) :
 SdIs w (.agg #[.bool s, .slice A l c, .bool t, .slice B m d, .bool s', .slice A' l' c', .bool t', .slice B' m' d', .int .i64 k]) ⟨a,b,k⟩:=⟨((s,A,l,c,t,B,m,d),(s',A',l',c',t',B',m',d')),rfl,h1,h2⟩
theorem SdIs.shp (h:SdIs w v x):∃ s A l c t B m d s' A' l' c' t' B' m' d',v=.agg #[.bool s, .slice A l c, .bool t, .slice B m d, .bool s', .slice A' l' c', .bool t', .slice B' m' d', .int .i64 x.d] ∧
 RatIs w (.agg #[.bool s, .slice A l c, .bool t, .slice B m d]) x.a∧RatIs w (.agg #[.bool s', .slice A' l' c', .bool t', .slice B' m' d']) x.b:=by
 obtain ⟨⟨⟨s,A,l,c,t,B,m,d⟩,⟨s',A',l',c',t',B',m',d'⟩⟩,h1,h2,h3⟩:=h
 exact ⟨_,_,_,_,_,_,_,_,_,_,_,_,_,_,_,_,h1,h2,h3⟩
theorem post_Sd (h:RetSd w x e w'):PostC (shSd x.d) (fun y w=>RatIs w (shRat y.1) x.a∧RatIs w (shRat y.2) x.b) w e w':=by
 obtain ⟨v,rfl,⟨y,rfl,h1,h2⟩,hE⟩:=h
 exact ⟨y,rfl,hE,boxn hE (fun S w'' hS hF=>⟨h1.nrb hS hF,h2.nrb hS hF⟩)⟩
end
-- reading
noncomputable def rdS (a b:List UInt8) (d:Int):Option Sd :=
 match readF a,readF b with
 | some p,some q=>@ite _ (Sd.Ok ⟨p,q,d⟩) (Classical.propDecidable _) (some ⟨p,q,d⟩) none
 | _,_=>none
theorem rdS_some {a b:List UInt8} {d:Int} {p q:Rat} (h1:readF a=some p) (h2:readF b=some q) (h:Sd.Ok ⟨p,q,d⟩):rdS a b d=some ⟨p,q,d⟩:=by
 unfold rdS; rw [h1,h2]; exact if_pos h
theorem rdS_no {a b:List UInt8} {d:Int} {p q:Rat} (h1:readF a=some p) (h2:readF b=some q) (h:¬ Sd.Ok ⟨p,q,d⟩):rdS a b d=none:=by
 unfold rdS; rw [h1,h2]; exact if_neg h
theorem rdS_no1 {a b:List UInt8} {d:Int} (h1:readF a=none):rdS a b d=none:=by
 unfold rdS; rw [h1]
theorem rdS_no2 {a b:List UInt8} {d:Int} (h1:readF b=none):rdS a b d=none:=by
 unfold rdS; rw [h1]; split<;>simp_all
theorem rdS_spec {a b:List UInt8} {d:Int} {x:Sd} (h:rdS a b d=some x):readF a=some x.a∧readF b=some x.b∧x.d=d∧x.Ok:=by
 unfold rdS at h
 split at h
 ·rename_i p q h1 h2
  split at h
  ·rename_i hk
   injection h with h; subst h
   exact ⟨h1,h2,rfl,hk⟩
  ·cases h
 ·cases h
theorem rdS_sz {a b:List UInt8} {d:Int} {x:Sd} {k:Nat} (h:rdS a b d=some x) (ha:a.length≤k) (hb:b.length≤k) (hk:1≤k):Sz x k:=by
 obtain ⟨h1,h2,_,h4⟩:=rdS_spec h
 exact ⟨readF_dec h1 ha hk,readF_dec h2 hb hk,h4.dle.1,h4.dle.2⟩
def RetRd (w:World) (o:Option Sd) (e:Ending) (w':World):Prop:=∃ v ok x,e=.returned (.tuple #[v, .bool ok])∧SdIs w' v x∧Ext w w'∧((ok=true∧o=some x)∨(ok=false∧o=none))
section
variable {w w':World} {e:Ending} {o:Option Sd}
theorem post_Rd_some {x:Sd} (h:RetRd w o e w') (ho:o=some x):PostC (fun y:ShS=>.tuple #[shSd x.d y, .bool true]) (fun y w=>RatIs w (shRat y.1) x.a∧RatIs w (shRat y.2) x.b) w e w':=by
 obtain ⟨v,ok,x',rfl,⟨y,rfl,h1,h2⟩,hE,⟨rfl,h⟩ | ⟨rfl,h⟩⟩:=h
 ·rw [ho] at h; injection h with h; subst h
  exact ⟨y,rfl,hE,boxn hE (fun S w'' hS hF=>⟨h1.nrb hS hF,h2.nrb hS hF⟩)⟩
 ·rw [ho] at h; cases h
theorem post_Rd_none (h:RetRd w o e w') (ho:o=none):PostC (fun y:Int × ShS=>.tuple #[shSd y.1 y.2, .bool false]) (fun _ _=>True) w e w':=by
 obtain ⟨v,ok,x',rfl,⟨y,rfl,h1,h2⟩,hE,⟨rfl,h⟩ | ⟨rfl,h⟩⟩:=h
 ·rw [ho] at h; cases h
 ·exact ⟨(x'.d,y),rfl,hE,BoxN.pure trivial⟩
end
end Go.Proofs.YtbgkofgoeoiciaaGreatDoor

namespace Go.Proofs.YtbgkofgoeoiciaaGreatDoor
open Go.RowKit
theorem nv_t {p q:Rat} {d:Int} (h:decide (q.num=0)=true):nv p q d=⟨p,0,1⟩:=by
 have:=Rat.num_eq_zero.1 (of_decide_eq_true h); subst this; exact nv_zero p d
theorem nv_f {p q:Rat} {d:Int} (h:decide (q.num=0)=false):nv p q d=⟨p,q,d⟩:=nv_nz p d (fun e=>of_decide_eq_false h (Rat.num_eq_zero.2 e))
theorem Dq.prt {q:Rat} {k:Nat} (h:Dq q k) (hk:k≤722):PrtOk q.num.natAbs∧PrtOk q.den:=by
 have:=h.fit hk; unfold QFits at this; unfold PrtOk; omega
theorem New_nat (z:Int) (w:World) (h0:0≤z) (h1:z≤1000000):Calls Tryz.prog 171 #[.int .i64 z] w (RetInt w z):=by
 obtain ⟨n,rfl⟩:∃ n:Nat,z=(n:Int):=⟨z.toNat,by omega⟩
 exact New_pos n w (by rw [W64_eq]; omega) (by rw [IntKind.wrap_u64]; omega) (decide_eq_false (by omega))
set_option maxRecDepth 100000 in
theorem Small_any (z:Int) (w:World) (h0:0≤z) (h1:z≤1000000) :
 Calls Tryz.prog 97 #[.int .i64 z] w (RetRat w (z:Rat)):=by
 refine sx_enter (Φ:=fun w=>True) Tryz.func97 rfl (by kernel_rfl) (fun w' hf=>trivial) ?_
 refine sx_seq (sx_region (xr 1 [(0, .v (.int .i64 z)),(2, .p 2 0)] [bR4 2 116 false none 0 0 false none 0 0] ?_))
 refine xe (sx_next (sx_seq (sx_region (xr 1 [(2, .p 2 0),(3, .v (.int .i64 z))] [bR4 2 116 false none 0 0 false none 0 0] ?_))))
 refine xc 171 [.int .i64 z] 4 shInt _ (fun w hE hΦ=>(New_nat z _ h0 h1).mono (fun _ _ h=>post_Int h)) (fun xx=>?_)
 obtain ⟨s10,A10,l10,c10⟩:=xx
 refine xr 2 [(2, .p 2 0)] [bR4 2 116 s10 A10 l10 c10 false none 0 0] ?_
 refine xe (sx_next (sx_ret ?_))
 refine sx_done (v:=.agg #[.bool s10, .slice A10 l10 c10, .bool false, .slice none 0 0]) (by kernel_rfl) (fun w' hE hΦ=>?_)
 exact ⟨_,rfl,RatIs.of hΦ.2 (IntIs.nil _),hE⟩
set_option maxRecDepth 100000 in
theorem SRat_any (vp:Value) (p:Rat) (w:World) (hhp:RatIs w vp p)  :
 Calls Tryz.prog 93 #[vp] w (RetSd w ⟨p,0,1⟩):=by
 obtain ⟨s8,A8,l8,c8,t8,B8,m8,d8,rfl⟩:=hhp.shp
 refine sx_enter (Φ:=fun w=>RatIs w (.agg #[.bool s8, .slice A8 l8 c8, .bool t8, .slice B8 m8 d8]) (p)) Tryz.func93 rfl (by kernel_rfl) (fun w' hf=>hhp.ext hf) ?_
 refine sx_seq (sx_region (xr 2 [(1, .p 1 0),(2, .p 2 0)] [bV9 2 120 false none 0 0 false none 0 0 false none 0 0 false none 0 0 0,bR4 1 116 s8 A8 l8 c8 t8 B8 m8 d8] ?_))
 refine xe (sx_next (sx_seq (sx_region (xr 3 [(2, .p 2 0)] [bV9 2 120 s8 A8 l8 c8 t8 B8 m8 d8 false none 0 0 false none 0 0 1] ?_))))
 refine xe (sx_next (sx_ret ?_))
 refine sx_done (v:=.agg #[.bool s8, .slice A8 l8 c8, .bool t8, .slice B8 m8 d8, .bool false, .slice none 0 0, .bool false, .slice none 0 0, .int .i64 1]) (by kernel_rfl) (fun w' hE hΦ=>?_)
 exact ⟨_,rfl,(SdIs.of hΦ (RatIs.nil _)),hE⟩
set_option maxRecDepth 100000 in
theorem SNew_any (vp vq:Value) (p:Rat) (q:Rat) (d:Int) (w:World) (hhp:RatIs w vp p) (hhq:RatIs w vq q)  :
 Calls Tryz.prog 99 #[vp,vq, .int .i64 d] w (RetSd w (nv p q d)):=by
 obtain ⟨s8,A8,l8,c8,t8,B8,m8,d8,rfl⟩:=hhp.shp
 obtain ⟨s9,A9,l9,c9,t9,B9,m9,d9,rfl⟩:=hhq.shp
 refine sx_enter (Φ:=fun w=>(RatIs w (.agg #[.bool s8, .slice A8 l8 c8, .bool t8, .slice B8 m8 d8]) (p)∧RatIs w (.agg #[.bool s9, .slice A9 l9 c9, .bool t9, .slice B9 m9 d9]) (q))) Tryz.func99 rfl (by kernel_rfl) (fun w' hf=>⟨hhp.ext hf,hhq.ext hf⟩) ?_
 refine sx_seq (sx_region (xr 3 [(2, .v (.int .i64 d)),(3, .p 3 0),(4, .p 4 0),(6, .p 6 0)] [bV9 6 120 false none 0 0 false none 0 0 false none 0 0 false none 0 0 0,bR4 4 116 s9 A9 l9 c9 t9 B9 m9 d9,bR4 3 116 s8 A8 l8 c8 t8 B8 m8 d8] ?_))
 refine xe (sx_next (sx_seq (sx_seq (sx_region (xr 1 [(2, .v (.int .i64 d)),(3, .p 3 0),(4, .p 4 0),(6, .p 6 0),eR4 7 s9 A9 l9 c9 t9 B9 m9 d9] [bV9 6 120 false none 0 0 false none 0 0 false none 0 0 false none 0 0 0,bR4 4 116 s9 A9 l9 c9 t9 B9 m9 d9,bR4 3 116 s8 A8 l8 c8 t8 B8 m8 d8] ?_)))))
 refine xc 192 [vR4 s9 A9 l9 c9 t9 B9 m9 d9] 8 (fun _:Unit=>.bool (decide (q.num=0))) _ (fun w hE hΦ=>(QIsZero_any _ q _ hΦ.2).mono (fun _ _ h=>post_val h rfl)) (fun xx=>?_)
 refine xr 0 [(2, .v (.int .i64 d)),(3, .p 3 0),(4, .p 4 0),(6, .p 6 0),(8, .v (.bool (decide (q.num=0))))] [bV9 6 120 false none 0 0 false none 0 0 false none 0 0 false none 0 0 0,bR4 4 116 s9 A9 l9 c9 t9 B9 m9 d9,bR4 3 116 s8 A8 l8 c8 t8 B8 m8 d8] ?_
 refine xe (sx_next ?_)
 refine sx_cond ((decide (q.num=0))) (by kernel_rfl) (fun hb10=>?_) (fun hb10=>?_)
 ·refine sx_seq (sx_region (xr 1 [(2, .v (.int .i64 d)),(3, .p 3 0),(4, .p 4 0),(6, .p 6 0),eR4 9 s8 A8 l8 c8 t8 B8 m8 d8] [bV9 6 120 false none 0 0 false none 0 0 false none 0 0 false none 0 0 0,bR4 4 116 s9 A9 l9 c9 t9 B9 m9 d9,bR4 3 116 s8 A8 l8 c8 t8 B8 m8 d8] ?_))
  refine xc 93 [vR4 s8 A8 l8 c8 t8 B8 m8 d8] 10 (shSd 1) _ (fun w hE hΦ=>(SRat_any _ p _ hΦ.1.1).mono (fun _ _ h=>post_Sd h)) (fun xx=>?_)
  obtain ⟨⟨s11,A11,l11,c11,t11,B11,m11,d11⟩,⟨s12,A12,l12,c12,t12,B12,m12,d12⟩⟩:=xx
  refine xr 1 [(2, .v (.int .i64 d)),(3, .p 3 0),(4, .p 4 0),(6, .p 6 0)] [bV9 6 120 s11 A11 l11 c11 t11 B11 m11 d11 s12 A12 l12 c12 t12 B12 m12 d12 1,bR4 4 116 s9 A9 l9 c9 t9 B9 m9 d9,bR4 3 116 s8 A8 l8 c8 t8 B8 m8 d8] ?_
  refine xe (sx_next (sx_ret (sx_then_ret ?_)))
  refine sx_done (v:=.agg #[.bool s11, .slice A11 l11 c11, .bool t11, .slice B11 m11 d11, .bool s12, .slice A12 l12 c12, .bool t12, .slice B12 m12 d12, .int .i64 1]) (by kernel_rfl) (fun w' hE hΦ=>?_)
  exact ⟨_,rfl,by rw [nv_t hb10]; exact (SdIs.of hΦ.2.1 hΦ.2.2),hE⟩
 ·refine sx_skip (sx_next (sx_seq (sx_region (xr 5 [(6, .p 6 0)] [bV9 6 120 s8 A8 l8 c8 t8 B8 m8 d8 s9 A9 l9 c9 t9 B9 m9 d9 d] ?_))))
  refine xe (sx_next (sx_ret ?_))
  refine sx_done (v:=.agg #[.bool s8, .slice A8 l8 c8, .bool t8, .slice B8 m8 d8, .bool s9, .slice A9 l9 c9, .bool t9, .slice B9 m9 d9, .int .i64 d]) (by kernel_rfl) (fun w' hE hΦ=>?_)
  exact ⟨_,rfl,by rw [nv_f hb10]; exact (SdIs.of hΦ.1.1 hΦ.1.2),hE⟩
set_option maxRecDepth 100000 in
theorem SPlus_any (vx vy:Value) (x:Sd) (y:Sd) (w:World) (hg:Glob w) (hhx:SdIs w vx x) (hhy:SdIs w vy y) {jx:Nat} (zx:Sz x jx) {jy:Nat} (zy:Sz y jy) (hj:jx + jy≤722) :
 Calls Tryz.prog 114 #[vx,vy] w (RetSd w (x.plus y)):=by
 obtain ⟨s0,A0,l0,c0,t0,B0,m0,d0,s1,A1,l1,c1,t1,B1,m1,d1,rfl,hx1,hx2⟩:=hhx.shp
 obtain ⟨s2,A2,l2,c2,t2,B2,m2,d2,s3,A3,l3,c3,t3,B3,m3,d3,rfl,hy1,hy2⟩:=hhy.shp
 refine sx_enter (Φ:=fun w=>((((Glob w∧RatIs w (.agg #[.bool s0, .slice A0 l0 c0, .bool t0, .slice B0 m0 d0]) (x.a))∧RatIs w (.agg #[.bool s1, .slice A1 l1 c1, .bool t1, .slice B1 m1 d1]) (x.b))∧RatIs w (.agg #[.bool s2, .slice A2 l2 c2, .bool t2, .slice B2 m2 d2]) (y.a))∧RatIs w (.agg #[.bool s3, .slice A3 l3 c3, .bool t3, .slice B3 m3 d3]) (y.b))) Tryz.func114 rfl (by kernel_rfl) (fun w' hf=>⟨⟨⟨⟨hg.ext hf,hx1.ext hf⟩,hx2.ext hf⟩,hy1.ext hf⟩,hy2.ext hf⟩) ?_
 refine sx_seq (sx_region (xr 3 [(2, .p 2 0),(3, .p 3 0),(4, .p 4 0)] [bV9 4 120 false none 0 0 false none 0 0 false none 0 0 false none 0 0 0,bV9 3 120 s2 A2 l2 c2 t2 B2 m2 d2 s3 A3 l3 c3 t3 B3 m3 d3 y.d,bV9 2 120 s0 A0 l0 c0 t0 B0 m0 d0 s1 A1 l1 c1 t1 B1 m1 d1 x.d] ?_))
 refine xe (sx_next (sx_seq ?_))
 refine sx_draw 17 (by kernel_rfl) (by kernel_rfl) follows_mixed' ?_
 refine xf 4 [(2, .p 2 0),(3, .p 3 0),(4, .p 4 0),eR4 6 s0 A0 l0 c0 t0 B0 m0 d0,eR4 8 s2 A2 l2 c2 t2 B2 m2 d2] [bV9 4 120 false none 0 0 false none 0 0 false none 0 0 false none 0 0 0,bV9 3 120 s2 A2 l2 c2 t2 B2 m2 d2 s3 A3 l3 c3 t3 B3 m3 d3 y.d,bV9 2 120 s0 A0 l0 c0 t0 B0 m0 d0 s1 A1 l1 c1 t1 B1 m1 d1 x.d] ?_
 refine xd 98 [vR4 s0 A0 l0 c0 t0 B0 m0 d0,vR4 s2 A2 l2 c2 t2 B2 m2 d2] 9 shRat _ (fun w hE hΦ=>(QAdd_any _ _ x.a y.a _ hΦ.1.1.1.1 hΦ.1.1.1.2 hΦ.1.2 (zx.a.fit (by omega)) (zy.a.fit (by omega))).mono (fun _ _ h=>post_Rat h)) (fun xx=>?_)
 obtain ⟨s10,A10,l10,c10,t10,B10,m10,d10⟩:=xx
 refine xf 4 [(2, .p 2 0),(3, .p 3 0),(4, .p 4 0),eR4 9 s10 A10 l10 c10 t10 B10 m10 d10,eR4 11 s1 A1 l1 c1 t1 B1 m1 d1,eR4 13 s3 A3 l3 c3 t3 B3 m3 d3] [bV9 4 120 false none 0 0 false none 0 0 false none 0 0 false none 0 0 0,bV9 3 120 s2 A2 l2 c2 t2 B2 m2 d2 s3 A3 l3 c3 t3 B3 m3 d3 y.d,bV9 2 120 s0 A0 l0 c0 t0 B0 m0 d0 s1 A1 l1 c1 t1 B1 m1 d1 x.d] ?_
 refine xd 98 [vR4 s1 A1 l1 c1 t1 B1 m1 d1,vR4 s3 A3 l3 c3 t3 B3 m3 d3] 14 shRat _ (fun w hE hΦ=>(QAdd_any _ _ x.b y.b _ hΦ.1.1.1.1.1 hΦ.1.1.1.2 hΦ.1.2 (zx.b.fit (by omega)) (zy.b.fit (by omega))).mono (fun _ _ h=>post_Rat h)) (fun xx=>?_)
 obtain ⟨s11,A11,l11,c11,t11,B11,m11,d11⟩:=xx
 refine xf 5 [(4, .p 4 0),eR4 9 s10 A10 l10 c10 t10 B10 m10 d10,eR4 14 s11 A11 l11 c11 t11 B11 m11 d11,(19, .v (.int .i64 (if y.d > x.d then y.d else x.d)))] [bV9 4 120 false none 0 0 false none 0 0 false none 0 0 false none 0 0 0,bV9 3 120 s2 A2 l2 c2 t2 B2 m2 d2 s3 A3 l3 c3 t3 B3 m3 d3 y.d,bV9 2 120 s0 A0 l0 c0 t0 B0 m0 d0 s1 A1 l1 c1 t1 B1 m1 d1 x.d] ?_
 rw [imax_eq]
 refine xd 99 [vR4 s10 A10 l10 c10 t10 B10 m10 d10,vR4 s11 A11 l11 c11 t11 B11 m11 d11, .int .i64 (max x.d y.d)] 20 (shSd ((nv (x.a + y.a) (x.b + y.b) (max x.d y.d)).d)) _ (fun w hE hΦ=>(SNew_any _ _ (x.a + y.a) (x.b + y.b) (max x.d y.d) _ hΦ.1.2 hΦ.2).mono (fun _ _ h=>post_Sd h)) (fun xx=>?_)
 obtain ⟨⟨s12,A12,l12,c12,t12,B12,m12,d12⟩,⟨s13,A13,l13,c13,t13,B13,m13,d13⟩⟩:=xx
 refine xf 1 [(4, .p 4 0)] [(4,120,[.v (.bool s12), .v (.slice A12 l12 c12), .v (.bool t12), .v (.slice B12 m12 d12), .v (.bool s13), .v (.slice A13 l13 c13), .v (.bool t13), .v (.slice B13 m13 d13), .v (.int .i64 ((nv (x.a + y.a) (x.b + y.b) (max x.d y.d)).d))]),bV9 4 120 false none 0 0 false none 0 0 false none 0 0 false none 0 0 0,bV9 3 120 s2 A2 l2 c2 t2 B2 m2 d2 s3 A3 l3 c3 t3 B3 m3 d3 y.d,bV9 2 120 s0 A0 l0 c0 t0 B0 m0 d0 s1 A1 l1 c1 t1 B1 m1 d1 x.d] ?_
 refine xz (xe (sx_next (sx_ret ?_)))
 refine sx_done (v:=.agg #[.bool s12, .slice A12 l12 c12, .bool t12, .slice B12 m12 d12, .bool s13, .slice A13 l13 c13, .bool t13, .slice B13 m13 d13, .int .i64 ((nv (x.a + y.a) (x.b + y.b) (max x.d y.d)).d)]) (by kernel_rfl) (fun w' hE hΦ=>?_)
 exact ⟨_,rfl,(SdIs.of hΦ.2.1 hΦ.2.2),hE⟩
set_option maxRecDepth 100000 in
theorem STimes_any (vx vy:Value) (x:Sd) (y:Sd) (w:World) (hg:Glob w) (hhx:SdIs w vx x) (hhy:SdIs w vy y) {jx:Nat} (zx:Sz x jx) {jy:Nat} (zy:Sz y jy) (hj:jx + jy≤700) :
 Calls Tryz.prog 113 #[vx,vy] w (RetSd w (x.times y)):=by
 obtain ⟨s0,A0,l0,c0,t0,B0,m0,d0,s1,A1,l1,c1,t1,B1,m1,d1,rfl,hx1,hx2⟩:=hhx.shp
 obtain ⟨s2,A2,l2,c2,t2,B2,m2,d2,s3,A3,l3,c3,t3,B3,m3,d3,rfl,hy1,hy2⟩:=hhy.shp
 refine sx_enter (Φ:=fun w=>((((Glob w∧RatIs w (.agg #[.bool s0, .slice A0 l0 c0, .bool t0, .slice B0 m0 d0]) (x.a))∧RatIs w (.agg #[.bool s1, .slice A1 l1 c1, .bool t1, .slice B1 m1 d1]) (x.b))∧RatIs w (.agg #[.bool s2, .slice A2 l2 c2, .bool t2, .slice B2 m2 d2]) (y.a))∧RatIs w (.agg #[.bool s3, .slice A3 l3 c3, .bool t3, .slice B3 m3 d3]) (y.b))) Tryz.func113 rfl (by kernel_rfl) (fun w' hf=>⟨⟨⟨⟨hg.ext hf,hx1.ext hf⟩,hx2.ext hf⟩,hy1.ext hf⟩,hy2.ext hf⟩) ?_
 refine sx_seq (sx_region (xr 3 [(2, .p 2 0),(3, .p 3 0),(4, .p 4 0)] [bV9 4 120 false none 0 0 false none 0 0 false none 0 0 false none 0 0 0,bV9 3 120 s2 A2 l2 c2 t2 B2 m2 d2 s3 A3 l3 c3 t3 B3 m3 d3 y.d,bV9 2 120 s0 A0 l0 c0 t0 B0 m0 d0 s1 A1 l1 c1 t1 B1 m1 d1 x.d] ?_))
 refine xe (sx_next (sx_seq (sx_region (xr 5 [(2, .p 2 0),(3, .p 3 0),(4, .p 4 0),(12, .v (.int .i64 (if y.d > x.d then y.d else x.d)))] [bV9 4 120 false none 0 0 false none 0 0 false none 0 0 false none 0 0 0,bV9 3 120 s2 A2 l2 c2 t2 B2 m2 d2 s3 A3 l3 c3 t3 B3 m3 d3 y.d,bV9 2 120 s0 A0 l0 c0 t0 B0 m0 d0 s1 A1 l1 c1 t1 B1 m1 d1 x.d] ?_))))
 rw [imax_eq]
 refine xr 1 [(2, .p 2 0),(3, .p 3 0),(4, .p 4 0),(5, .v (.int .i64 (max x.d y.d)))] [bV9 4 120 false none 0 0 false none 0 0 false none 0 0 false none 0 0 0,bV9 3 120 s2 A2 l2 c2 t2 B2 m2 d2 s3 A3 l3 c3 t3 B3 m3 d3 y.d,bV9 2 120 s0 A0 l0 c0 t0 B0 m0 d0 s1 A1 l1 c1 t1 B1 m1 d1 x.d] ?_
 refine xe (sx_next (sx_seq ?_))
 refine sx_draw 16 (by kernel_rfl) (by kernel_rfl) follows_mixed' ?_
 refine xf 4 [(2, .p 2 0),(3, .p 3 0),(4, .p 4 0),(5, .v (.int .i64 (max x.d y.d))),eR4 14 s0 A0 l0 c0 t0 B0 m0 d0,eR4 16 s2 A2 l2 c2 t2 B2 m2 d2] [bV9 4 120 false none 0 0 false none 0 0 false none 0 0 false none 0 0 0,bV9 3 120 s2 A2 l2 c2 t2 B2 m2 d2 s3 A3 l3 c3 t3 B3 m3 d3 y.d,bV9 2 120 s0 A0 l0 c0 t0 B0 m0 d0 s1 A1 l1 c1 t1 B1 m1 d1 x.d] ?_
 refine xd 96 [vR4 s0 A0 l0 c0 t0 B0 m0 d0,vR4 s2 A2 l2 c2 t2 B2 m2 d2] 17 shRat _ (fun w hE hΦ=>(QMul_any _ _ x.a y.a _ hΦ.1.1.1.1 hΦ.1.1.1.2 hΦ.1.2 (zx.a.fit (by omega)) (zy.a.fit (by omega))).mono (fun _ _ h=>post_Rat h)) (fun xx=>?_)
 obtain ⟨s10,A10,l10,c10,t10,B10,m10,d10⟩:=xx
 refine xf 4 [(2, .p 2 0),(3, .p 3 0),(4, .p 4 0),(5, .v (.int .i64 (max x.d y.d))),eR4 17 s10 A10 l10 c10 t10 B10 m10 d10,eR4 19 s1 A1 l1 c1 t1 B1 m1 d1,eR4 21 s3 A3 l3 c3 t3 B3 m3 d3] [bV9 4 120 false none 0 0 false none 0 0 false none 0 0 false none 0 0 0,bV9 3 120 s2 A2 l2 c2 t2 B2 m2 d2 s3 A3 l3 c3 t3 B3 m3 d3 y.d,bV9 2 120 s0 A0 l0 c0 t0 B0 m0 d0 s1 A1 l1 c1 t1 B1 m1 d1 x.d] ?_
 refine xd 96 [vR4 s1 A1 l1 c1 t1 B1 m1 d1,vR4 s3 A3 l3 c3 t3 B3 m3 d3] 22 shRat _ (fun w hE hΦ=>(QMul_any _ _ x.b y.b _ hΦ.1.1.1.1.1 hΦ.1.1.1.2 hΦ.1.2 (zx.b.fit (by omega)) (zy.b.fit (by omega))).mono (fun _ _ h=>post_Rat h)) (fun xx=>?_)
 obtain ⟨s11,A11,l11,c11,t11,B11,m11,d11⟩:=xx
 refine xf 1 [(2, .p 2 0),(3, .p 3 0),(4, .p 4 0),(5, .v (.int .i64 (max x.d y.d))),eR4 17 s10 A10 l10 c10 t10 B10 m10 d10,eR4 22 s11 A11 l11 c11 t11 B11 m11 d11,(23, .v (.int .i64 (max x.d y.d)))] [bV9 4 120 false none 0 0 false none 0 0 false none 0 0 false none 0 0 0,bV9 3 120 s2 A2 l2 c2 t2 B2 m2 d2 s3 A3 l3 c3 t3 B3 m3 d3 y.d,bV9 2 120 s0 A0 l0 c0 t0 B0 m0 d0 s1 A1 l1 c1 t1 B1 m1 d1 x.d] ?_
 refine xd 97 [.int .i64 (max x.d y.d)] 24 shRat _ (fun w hE hΦ=>(Small_any (max x.d y.d) _ (by have:=zx.max zy; omega) (zx.max zy).2).mono (fun _ _ h=>post_Rat h)) (fun xx=>?_)
 obtain ⟨s12,A12,l12,c12,t12,B12,m12,d12⟩:=xx
 refine xf 0 [(2, .p 2 0),(3, .p 3 0),(4, .p 4 0),(5, .v (.int .i64 (max x.d y.d))),eR4 17 s10 A10 l10 c10 t10 B10 m10 d10,eR4 22 s11 A11 l11 c11 t11 B11 m11 d11,eR4 24 s12 A12 l12 c12 t12 B12 m12 d12] [bV9 4 120 false none 0 0 false none 0 0 false none 0 0 false none 0 0 0,bV9 3 120 s2 A2 l2 c2 t2 B2 m2 d2 s3 A3 l3 c3 t3 B3 m3 d3 y.d,bV9 2 120 s0 A0 l0 c0 t0 B0 m0 d0 s1 A1 l1 c1 t1 B1 m1 d1 x.d] ?_
 refine xd 96 [vR4 s11 A11 l11 c11 t11 B11 m11 d11,vR4 s12 A12 l12 c12 t12 B12 m12 d12] 25 shRat _ (fun w hE hΦ=>(QMul_any _ _ (x.b * y.b) (((max x.d y.d:Int):Rat)) _ hΦ.1.1.1.1.1.1.1 hΦ.1.2 hΦ.2 ((zx.b.mul zy.b).fit (by omega)) ((Dq.imax zx zy).fit (by omega))).mono (fun _ _ h=>post_Rat h)) (fun xx=>?_)
 obtain ⟨s13,A13,l13,c13,t13,B13,m13,d13⟩:=xx
 refine xf 0 [(2, .p 2 0),(3, .p 3 0),(4, .p 4 0),(5, .v (.int .i64 (max x.d y.d))),eR4 17 s10 A10 l10 c10 t10 B10 m10 d10,eR4 25 s13 A13 l13 c13 t13 B13 m13 d13] [bV9 4 120 false none 0 0 false none 0 0 false none 0 0 false none 0 0 0,bV9 3 120 s2 A2 l2 c2 t2 B2 m2 d2 s3 A3 l3 c3 t3 B3 m3 d3 y.d,bV9 2 120 s0 A0 l0 c0 t0 B0 m0 d0 s1 A1 l1 c1 t1 B1 m1 d1 x.d] ?_
 refine xd 98 [vR4 s10 A10 l10 c10 t10 B10 m10 d10,vR4 s13 A13 l13 c13 t13 B13 m13 d13] 26 shRat _ (fun w hE hΦ=>(QAdd_any _ _ (x.a * y.a) ((x.b * y.b) * (((max x.d y.d:Int):Rat))) _ hΦ.1.1.1.1.1.1.1.1 hΦ.1.1.1.2 hΦ.2 ((zx.a.mul zy.a).fit (by omega)) (((zx.b.mul zy.b).mul (Dq.imax zx zy)).fit (by omega))).mono (fun _ _ h=>post_Rat h)) (fun xx=>?_)
 obtain ⟨s14,A14,l14,c14,t14,B14,m14,d14⟩:=xx
 refine xf 2 [(2, .p 2 0),(3, .p 3 0),(4, .p 4 0),(5, .v (.int .i64 (max x.d y.d))),(6, .p 6 0)] [bR4 6 116 s14 A14 l14 c14 t14 B14 m14 d14,bR4 6 116 false none 0 0 false none 0 0,bV9 4 120 false none 0 0 false none 0 0 false none 0 0 false none 0 0 0,bV9 3 120 s2 A2 l2 c2 t2 B2 m2 d2 s3 A3 l3 c3 t3 B3 m3 d3 y.d,bV9 2 120 s0 A0 l0 c0 t0 B0 m0 d0 s1 A1 l1 c1 t1 B1 m1 d1 x.d] ?_
 refine xz (xe (sx_next (sx_seq ?_)))
 refine sx_draw 13 (by kernel_rfl) (by kernel_rfl) follows_mixed' ?_
 refine xf 4 [(2, .p 2 0),(3, .p 3 0),(4, .p 4 0),(5, .v (.int .i64 (max x.d y.d))),(6, .p 6 0),eR4 28 s0 A0 l0 c0 t0 B0 m0 d0,eR4 30 s3 A3 l3 c3 t3 B3 m3 d3] [bR4 6 116 s14 A14 l14 c14 t14 B14 m14 d14,bR4 6 116 false none 0 0 false none 0 0,bV9 4 120 false none 0 0 false none 0 0 false none 0 0 false none 0 0 0,bV9 3 120 s2 A2 l2 c2 t2 B2 m2 d2 s3 A3 l3 c3 t3 B3 m3 d3 y.d,bV9 2 120 s0 A0 l0 c0 t0 B0 m0 d0 s1 A1 l1 c1 t1 B1 m1 d1 x.d] ?_
 refine xd 96 [vR4 s0 A0 l0 c0 t0 B0 m0 d0,vR4 s3 A3 l3 c3 t3 B3 m3 d3] 31 shRat _ (fun w hE hΦ=>(QMul_any _ _ x.a y.b _ hΦ.1.1.1.1.1.1.1.1.1 hΦ.1.1.1.1.1.1.1.1.2 hΦ.1.1.1.1.1.2 (zx.a.fit (by omega)) (zy.b.fit (by omega))).mono (fun _ _ h=>post_Rat h)) (fun xx=>?_)
 obtain ⟨s15,A15,l15,c15,t15,B15,m15,d15⟩:=xx
 refine xf 4 [(4, .p 4 0),(5, .v (.int .i64 (max x.d y.d))),(6, .p 6 0),eR4 31 s15 A15 l15 c15 t15 B15 m15 d15,eR4 33 s1 A1 l1 c1 t1 B1 m1 d1,eR4 35 s2 A2 l2 c2 t2 B2 m2 d2] [bR4 6 116 s14 A14 l14 c14 t14 B14 m14 d14,bR4 6 116 false none 0 0 false none 0 0,bV9 4 120 false none 0 0 false none 0 0 false none 0 0 false none 0 0 0,bV9 3 120 s2 A2 l2 c2 t2 B2 m2 d2 s3 A3 l3 c3 t3 B3 m3 d3 y.d,bV9 2 120 s0 A0 l0 c0 t0 B0 m0 d0 s1 A1 l1 c1 t1 B1 m1 d1 x.d] ?_
 refine xd 96 [vR4 s1 A1 l1 c1 t1 B1 m1 d1,vR4 s2 A2 l2 c2 t2 B2 m2 d2] 36 shRat _ (fun w hE hΦ=>(QMul_any _ _ x.b y.a _ hΦ.1.1.1.1.1.1.1.1.1.1 hΦ.1.1.1.1.1.1.1.1.2 hΦ.1.1.1.1.1.1.1.2 (zx.b.fit (by omega)) (zy.a.fit (by omega))).mono (fun _ _ h=>post_Rat h)) (fun xx=>?_)
 obtain ⟨s16,A16,l16,c16,t16,B16,m16,d16⟩:=xx
 refine xf 0 [(4, .p 4 0),(5, .v (.int .i64 (max x.d y.d))),(6, .p 6 0),eR4 31 s15 A15 l15 c15 t15 B15 m15 d15,eR4 36 s16 A16 l16 c16 t16 B16 m16 d16] [bR4 6 116 s14 A14 l14 c14 t14 B14 m14 d14,bR4 6 116 false none 0 0 false none 0 0,bV9 4 120 false none 0 0 false none 0 0 false none 0 0 false none 0 0 0,bV9 3 120 s2 A2 l2 c2 t2 B2 m2 d2 s3 A3 l3 c3 t3 B3 m3 d3 y.d,bV9 2 120 s0 A0 l0 c0 t0 B0 m0 d0 s1 A1 l1 c1 t1 B1 m1 d1 x.d] ?_
 refine xd 98 [vR4 s15 A15 l15 c15 t15 B15 m15 d15,vR4 s16 A16 l16 c16 t16 B16 m16 d16] 37 shRat _ (fun w hE hΦ=>(QAdd_any _ _ (x.a * y.b) (x.b * y.a) _ hΦ.1.1.1.1.1.1.1.1.1.1.1 hΦ.1.2 hΦ.2 ((zx.a.mul zy.b).fit (by omega)) ((zx.b.mul zy.a).fit (by omega))).mono (fun _ _ h=>post_Rat h)) (fun xx=>?_)
 obtain ⟨s17,A17,l17,c17,t17,B17,m17,d17⟩:=xx
 refine xf 2 [(4, .p 4 0),(5, .v (.int .i64 (max x.d y.d))),(6, .p 6 0),(7, .p 7 0)] [bR4 7 116 s17 A17 l17 c17 t17 B17 m17 d17,bR4 7 116 false none 0 0 false none 0 0,bR4 6 116 s14 A14 l14 c14 t14 B14 m14 d14,bR4 6 116 false none 0 0 false none 0 0,bV9 4 120 false none 0 0 false none 0 0 false none 0 0 false none 0 0 0,bV9 3 120 s2 A2 l2 c2 t2 B2 m2 d2 s3 A3 l3 c3 t3 B3 m3 d3 y.d,bV9 2 120 s0 A0 l0 c0 t0 B0 m0 d0 s1 A1 l1 c1 t1 B1 m1 d1 x.d] ?_
 refine xz (xe (sx_next (sx_seq (sx_region (xr 3 [(4, .p 4 0),eR4 38 s14 A14 l14 c14 t14 B14 m14 d14,eR4 39 s17 A17 l17 c17 t17 B17 m17 d17,(40, .v (.int .i64 (max x.d y.d)))] [bV9 4 120 false none 0 0 false none 0 0 false none 0 0 false none 0 0 0] ?_)))))
 refine xc 99 [vR4 s14 A14 l14 c14 t14 B14 m14 d14,vR4 s17 A17 l17 c17 t17 B17 m17 d17, .int .i64 (max x.d y.d)] 41 (shSd ((nv ((x.a * y.a) + ((x.b * y.b) * (((max x.d y.d:Int):Rat)))) ((x.a * y.b) + (x.b * y.a)) (max x.d y.d)).d)) _ (fun w hE hΦ=>(SNew_any _ _ ((x.a * y.a) + ((x.b * y.b) * (((max x.d y.d:Int):Rat)))) ((x.a * y.b) + (x.b * y.a)) (max x.d y.d) _ hΦ.1.1.1.2 hΦ.2).mono (fun _ _ h=>post_Sd h)) (fun xx=>?_)
 obtain ⟨⟨s18,A18,l18,c18,t18,B18,m18,d18⟩,⟨s19,A19,l19,c19,t19,B19,m19,d19⟩⟩:=xx
 refine xr 1 [(4, .p 4 0)] [(4,120,[.v (.bool s18), .v (.slice A18 l18 c18), .v (.bool t18), .v (.slice B18 m18 d18), .v (.bool s19), .v (.slice A19 l19 c19), .v (.bool t19), .v (.slice B19 m19 d19), .v (.int .i64 ((nv ((x.a * y.a) + ((x.b * y.b) * (((max x.d y.d:Int):Rat)))) ((x.a * y.b) + (x.b * y.a)) (max x.d y.d)).d))])] ?_
 refine xe (sx_next (sx_ret ?_))
 refine sx_done (v:=.agg #[.bool s18, .slice A18 l18 c18, .bool t18, .slice B18 m18 d18, .bool s19, .slice A19 l19 c19, .bool t19, .slice B19 m19 d19, .int .i64 ((nv ((x.a * y.a) + ((x.b * y.b) * (((max x.d y.d:Int):Rat)))) ((x.a * y.b) + (x.b * y.a)) (max x.d y.d)).d)]) (by kernel_rfl) (fun w' hE hΦ=>?_)
 exact ⟨_,rfl,(SdIs.of hΦ.2.1 hΦ.2.2),hE⟩
set_option maxRecDepth 100000 in
theorem SConj_any (vx:Value) (x:Sd) (w:World) (hhx:SdIs w vx x)  :
 Calls Tryz.prog 105 #[vx] w (RetSd w x.conj):=by
 obtain ⟨s0,A0,l0,c0,t0,B0,m0,d0,s1,A1,l1,c1,t1,B1,m1,d1,rfl,hx1,hx2⟩:=hhx.shp
 refine sx_enter (Φ:=fun w=>(RatIs w (.agg #[.bool s0, .slice A0 l0 c0, .bool t0, .slice B0 m0 d0]) (x.a)∧RatIs w (.agg #[.bool s1, .slice A1 l1 c1, .bool t1, .slice B1 m1 d1]) (x.b))) Tryz.func105 rfl (by kernel_rfl) (fun w' hf=>⟨hx1.ext hf,hx2.ext hf⟩) ?_
 refine sx_seq (sx_region (xr 2 [(1, .p 1 0),(2, .p 2 0)] [bV9 2 120 false none 0 0 false none 0 0 false none 0 0 false none 0 0 0,bV9 1 120 s0 A0 l0 c0 t0 B0 m0 d0 s1 A1 l1 c1 t1 B1 m1 d1 x.d] ?_))
 refine xe (sx_next (sx_seq ?_))
 refine sx_draw 9 (by kernel_rfl) (by kernel_rfl) follows_mixed' ?_
 refine xf 4 [(1, .p 1 0),(2, .p 2 0),eR4 4 s0 A0 l0 c0 t0 B0 m0 d0,eR4 6 s1 A1 l1 c1 t1 B1 m1 d1] [bV9 2 120 false none 0 0 false none 0 0 false none 0 0 false none 0 0 0,bV9 1 120 s0 A0 l0 c0 t0 B0 m0 d0 s1 A1 l1 c1 t1 B1 m1 d1 x.d] ?_
 refine xd 197 [vR4 s1 A1 l1 c1 t1 B1 m1 d1] 7 shRat _ (fun w hE hΦ=>(QNeg_any _ x.b _ hΦ.2).mono (fun _ _ h=>post_Rat h)) (fun xx=>?_)
 obtain ⟨s10,A10,l10,c10,t10,B10,m10,d10⟩:=xx
 refine xf 4 [(2, .p 2 0)] [bV9 2 120 s0 A0 l0 c0 t0 B0 m0 d0 s10 A10 l10 c10 t10 B10 m10 d10 x.d,bV9 2 120 false none 0 0 false none 0 0 false none 0 0 false none 0 0 0,bV9 1 120 s0 A0 l0 c0 t0 B0 m0 d0 s1 A1 l1 c1 t1 B1 m1 d1 x.d] ?_
 refine xz (xe (sx_next (sx_ret ?_)))
 refine sx_done (v:=.agg #[.bool s0, .slice A0 l0 c0, .bool t0, .slice B0 m0 d0, .bool s10, .slice A10 l10 c10, .bool t10, .slice B10 m10 d10, .int .i64 x.d]) (by kernel_rfl) (fun w' hE hΦ=>?_)
 exact ⟨_,rfl,(SdIs.of hΦ.1.1 hΦ.2),hE⟩
set_option maxRecDepth 100000 in
theorem SNorm_any (vx:Value) (x:Sd) (w:World) (hg:Glob w) (hhx:SdIs w vx x) {jx:Nat} (zx:Sz x jx) (hj:jx≤350) :
 Calls Tryz.prog 106 #[vx] w (RetRat w x.norm):=by
 obtain ⟨s0,A0,l0,c0,t0,B0,m0,d0,s1,A1,l1,c1,t1,B1,m1,d1,rfl,hx1,hx2⟩:=hhx.shp
 refine sx_enter (Φ:=fun w=>((Glob w∧RatIs w (.agg #[.bool s0, .slice A0 l0 c0, .bool t0, .slice B0 m0 d0]) (x.a))∧RatIs w (.agg #[.bool s1, .slice A1 l1 c1, .bool t1, .slice B1 m1 d1]) (x.b))) Tryz.func106 rfl (by kernel_rfl) (fun w' hf=>⟨⟨hg.ext hf,hx1.ext hf⟩,hx2.ext hf⟩) ?_
 refine sx_seq (sx_region (xr 2 [(1, .p 1 0),(2, .p 2 0)] [bR4 2 116 false none 0 0 false none 0 0,bV9 1 120 s0 A0 l0 c0 t0 B0 m0 d0 s1 A1 l1 c1 t1 B1 m1 d1 x.d] ?_))
 refine xe (sx_next (sx_seq ?_))
 refine sx_draw 6 (by kernel_rfl) (by kernel_rfl) follows_mixed' ?_
 refine xf 2 [(2, .p 2 0),eV9 3 s0 A0 l0 c0 t0 B0 m0 d0 s1 A1 l1 c1 t1 B1 m1 d1 x.d,eV9 4 s0 A0 l0 c0 t0 B0 m0 d0 s1 A1 l1 c1 t1 B1 m1 d1 x.d] [bR4 2 116 false none 0 0 false none 0 0,bV9 1 120 s0 A0 l0 c0 t0 B0 m0 d0 s1 A1 l1 c1 t1 B1 m1 d1 x.d] ?_
 refine xd 105 [vV9 s0 A0 l0 c0 t0 B0 m0 d0 s1 A1 l1 c1 t1 B1 m1 d1 x.d] 5 (shSd x.conj.d) _ (fun w hE hΦ=>(SConj_any _ x _ (SdIs.of hΦ.1.2 hΦ.2)).mono (fun _ _ h=>post_Sd h)) (fun xx=>?_)
 obtain ⟨⟨s10,A10,l10,c10,t10,B10,m10,d10⟩,⟨s11,A11,l11,c11,t11,B11,m11,d11⟩⟩:=xx
 refine xf 0 [(2, .p 2 0),eV9 3 s0 A0 l0 c0 t0 B0 m0 d0 s1 A1 l1 c1 t1 B1 m1 d1 x.d,eV9 5 s10 A10 l10 c10 t10 B10 m10 d10 s11 A11 l11 c11 t11 B11 m11 d11 x.conj.d] [bR4 2 116 false none 0 0 false none 0 0,bV9 1 120 s0 A0 l0 c0 t0 B0 m0 d0 s1 A1 l1 c1 t1 B1 m1 d1 x.d] ?_
 refine xd 113 [vV9 s0 A0 l0 c0 t0 B0 m0 d0 s1 A1 l1 c1 t1 B1 m1 d1 x.d,vV9 s10 A10 l10 c10 t10 B10 m10 d10 s11 A11 l11 c11 t11 B11 m11 d11 x.conj.d] 6 (shSd ((x.times x.conj).d)) _ (fun w hE hΦ=>(STimes_any _ _ x x.conj _ hΦ.1.1.1 (SdIs.of hΦ.1.1.2 hΦ.1.2) (SdIs.of hΦ.2.1 hΦ.2.2) zx zx.conj (by omega)).mono (fun _ _ h=>post_Sd h)) (fun xx=>?_)
 obtain ⟨⟨s12,A12,l12,c12,t12,B12,m12,d12⟩,⟨s13,A13,l13,c13,t13,B13,m13,d13⟩⟩:=xx
 refine xf 2 [(2, .p 2 0)] [bR4 2 116 s12 A12 l12 c12 t12 B12 m12 d12,bR4 2 116 false none 0 0 false none 0 0,bV9 1 120 s0 A0 l0 c0 t0 B0 m0 d0 s1 A1 l1 c1 t1 B1 m1 d1 x.d] ?_
 refine xz (xe (sx_next (sx_ret ?_)))
 refine sx_done (v:=.agg #[.bool s12, .slice A12 l12 c12, .bool t12, .slice B12 m12 d12]) (by kernel_rfl) (fun w' hE hΦ=>?_)
 exact ⟨_,rfl,hΦ.2.1,hE⟩
set_option maxRecDepth 100000 in
theorem SZero_any (vx:Value) (x:Sd) (w:World) (hhx:SdIs w vx x)  :
 Calls Tryz.prog 116 #[vx] w (RetV w (.bool (decide (x.a.num=0) && decide (x.b.num=0)))):=by
 obtain ⟨s0,A0,l0,c0,t0,B0,m0,d0,s1,A1,l1,c1,t1,B1,m1,d1,rfl,hx1,hx2⟩:=hhx.shp
 refine sx_enter (Φ:=fun w=>(RatIs w (.agg #[.bool s0, .slice A0 l0 c0, .bool t0, .slice B0 m0 d0]) (x.a)∧RatIs w (.agg #[.bool s1, .slice A1 l1 c1, .bool t1, .slice B1 m1 d1]) (x.b))) Tryz.func116 rfl (by kernel_rfl) (fun w' hf=>⟨hx1.ext hf,hx2.ext hf⟩) ?_
 refine sx_seq (sx_region (xr 2 [(1, .p 1 0),(2, .v (.bool false))] [bV9 1 120 s0 A0 l0 c0 t0 B0 m0 d0 s1 A1 l1 c1 t1 B1 m1 d1 x.d] ?_))
 refine xe (sx_next (sx_seq (sx_region (xr 2 [(1, .p 1 0),(2, .v (.bool false)),eR4 4 s0 A0 l0 c0 t0 B0 m0 d0] [bV9 1 120 s0 A0 l0 c0 t0 B0 m0 d0 s1 A1 l1 c1 t1 B1 m1 d1 x.d] ?_))))
 refine xc 192 [vR4 s0 A0 l0 c0 t0 B0 m0 d0] 5 (fun _:Unit=>.bool (decide (x.a.num=0))) _ (fun w hE hΦ=>(QIsZero_any _ x.a _ hΦ.1).mono (fun _ _ h=>post_val h rfl)) (fun xx=>?_)
 refine xr 1 [(1, .p 1 0),(2, .v (.bool false)),(6, .v (.bool (decide (x.a.num=0))))] [bV9 1 120 s0 A0 l0 c0 t0 B0 m0 d0 s1 A1 l1 c1 t1 B1 m1 d1 x.d] ?_
 rcases bool2 ((decide (x.a.num=0))) with hb10 | hb10
 ·rw [hb10]
  refine xr 2 [(2, .v (.bool false)),(6, .v (.bool true)),eR4 8 s1 A1 l1 c1 t1 B1 m1 d1] [] ?_
  refine xc 192 [vR4 s1 A1 l1 c1 t1 B1 m1 d1] 9 (fun _:Unit=>.bool (decide (x.b.num=0))) _ (fun w hE hΦ=>(QIsZero_any _ x.b _ hΦ.1.2).mono (fun _ _ h=>post_val h rfl)) (fun xx=>?_)
  refine xr 2 [(2, .v (.bool (decide (x.b.num=0))))] [] ?_
  refine xe (sx_next (sx_ret ?_))
  refine sx_done (v:=.bool (decide (x.b.num=0))) (by kernel_rfl) (fun w' hE hΦ=>?_)
  exact ⟨by simp,hE⟩
 ·rw [hb10]
  refine xr 5 [(2, .v (.bool false))] [] ?_
  refine xe (sx_next (sx_ret ?_))
  refine sx_done (v:=.bool false) (by kernel_rfl) (fun w' hE hΦ=>?_)
  exact ⟨by simp,hE⟩
set_option maxRecDepth 100000 in
theorem SOver_any (vx vy:Value) (x:Sd) (y:Sd) (w:World) (hg:Glob w) (hhx:SdIs w vx x) (hhy:SdIs w vy y) {jx:Nat} (zx:Sz x jx) {jy:Nat} (zy:Sz y jy) (hj:jx + jy≤350) (hj2:jy≤170) :
 Calls Tryz.prog 117 #[vx,vy] w (RetSd w (x.over y)):=by
 obtain ⟨s0,A0,l0,c0,t0,B0,m0,d0,s1,A1,l1,c1,t1,B1,m1,d1,rfl,hx1,hx2⟩:=hhx.shp
 obtain ⟨s2,A2,l2,c2,t2,B2,m2,d2,s3,A3,l3,c3,t3,B3,m3,d3,rfl,hy1,hy2⟩:=hhy.shp
 refine sx_enter (Φ:=fun w=>((((Glob w∧RatIs w (.agg #[.bool s0, .slice A0 l0 c0, .bool t0, .slice B0 m0 d0]) (x.a))∧RatIs w (.agg #[.bool s1, .slice A1 l1 c1, .bool t1, .slice B1 m1 d1]) (x.b))∧RatIs w (.agg #[.bool s2, .slice A2 l2 c2, .bool t2, .slice B2 m2 d2]) (y.a))∧RatIs w (.agg #[.bool s3, .slice A3 l3 c3, .bool t3, .slice B3 m3 d3]) (y.b))) Tryz.func117 rfl (by kernel_rfl) (fun w' hf=>⟨⟨⟨⟨hg.ext hf,hx1.ext hf⟩,hx2.ext hf⟩,hy1.ext hf⟩,hy2.ext hf⟩) ?_
 refine sx_seq (sx_region (xr 3 [(2, .p 2 0),(3, .p 3 0),(4, .p 4 0)] [bV9 4 120 false none 0 0 false none 0 0 false none 0 0 false none 0 0 0,bV9 3 120 s2 A2 l2 c2 t2 B2 m2 d2 s3 A3 l3 c3 t3 B3 m3 d3 y.d,bV9 2 120 s0 A0 l0 c0 t0 B0 m0 d0 s1 A1 l1 c1 t1 B1 m1 d1 x.d] ?_))
 refine xe (sx_next (sx_seq (sx_region (xr 1 [(2, .p 2 0),(3, .p 3 0),(4, .p 4 0),eV9 7 s2 A2 l2 c2 t2 B2 m2 d2 s3 A3 l3 c3 t3 B3 m3 d3 y.d] [bV9 4 120 false none 0 0 false none 0 0 false none 0 0 false none 0 0 0,bV9 3 120 s2 A2 l2 c2 t2 B2 m2 d2 s3 A3 l3 c3 t3 B3 m3 d3 y.d,bV9 2 120 s0 A0 l0 c0 t0 B0 m0 d0 s1 A1 l1 c1 t1 B1 m1 d1 x.d] ?_))))
 refine xc 106 [vV9 s2 A2 l2 c2 t2 B2 m2 d2 s3 A3 l3 c3 t3 B3 m3 d3 y.d] 8 shRat _ (fun w hE hΦ=>(SNorm_any _ y _ hΦ.1.1.1.1 (SdIs.of hΦ.1.2 hΦ.2) zy (by omega)).mono (fun _ _ h=>post_Rat h)) (fun xx=>?_)
 obtain ⟨s10,A10,l10,c10,t10,B10,m10,d10⟩:=xx
 refine xr 0 [(2, .p 2 0),(3, .p 3 0),(4, .p 4 0),eR4 8 s10 A10 l10 c10 t10 B10 m10 d10] [bV9 4 120 false none 0 0 false none 0 0 false none 0 0 false none 0 0 0,bV9 3 120 s2 A2 l2 c2 t2 B2 m2 d2 s3 A3 l3 c3 t3 B3 m3 d3 y.d,bV9 2 120 s0 A0 l0 c0 t0 B0 m0 d0 s1 A1 l1 c1 t1 B1 m1 d1 x.d] ?_
 refine xc 202 [vR4 s10 A10 l10 c10 t10 B10 m10 d10] 9 shRat _ (fun w hE hΦ=>(QInverse_any _ y.norm _ hΦ.2).mono (fun _ _ h=>post_Rat h)) (fun xx=>?_)
 obtain ⟨s11,A11,l11,c11,t11,B11,m11,d11⟩:=xx
 refine xr 2 [(2, .p 2 0),(3, .p 3 0),(4, .p 4 0),(5, .p 5 0)] [bR4 5 116 s11 A11 l11 c11 t11 B11 m11 d11,bV9 4 120 false none 0 0 false none 0 0 false none 0 0 false none 0 0 0,bV9 3 120 s2 A2 l2 c2 t2 B2 m2 d2 s3 A3 l3 c3 t3 B3 m3 d3 y.d,bV9 2 120 s0 A0 l0 c0 t0 B0 m0 d0 s1 A1 l1 c1 t1 B1 m1 d1 x.d] ?_
 refine xe (sx_next (sx_seq ?_))
 refine sx_draw 6 (by kernel_rfl) (by kernel_rfl) follows_mixed' ?_
 refine xf 2 [(4, .p 4 0),(5, .p 5 0),eV9 10 s0 A0 l0 c0 t0 B0 m0 d0 s1 A1 l1 c1 t1 B1 m1 d1 x.d,eV9 11 s2 A2 l2 c2 t2 B2 m2 d2 s3 A3 l3 c3 t3 B3 m3 d3 y.d] [bR4 5 116 s11 A11 l11 c11 t11 B11 m11 d11,bV9 4 120 false none 0 0 false none 0 0 false none 0 0 false none 0 0 0,bV9 3 120 s2 A2 l2 c2 t2 B2 m2 d2 s3 A3 l3 c3 t3 B3 m3 d3 y.d,bV9 2 120 s0 A0 l0 c0 t0 B0 m0 d0 s1 A1 l1 c1 t1 B1 m1 d1 x.d] ?_
 refine xd 105 [vV9 s2 A2 l2 c2 t2 B2 m2 d2 s3 A3 l3 c3 t3 B3 m3 d3 y.d] 12 (shSd y.conj.d) _ (fun w hE hΦ=>(SConj_any _ y _ (SdIs.of hΦ.1.1.1.2 hΦ.1.1.2)).mono (fun _ _ h=>post_Sd h)) (fun xx=>?_)
 obtain ⟨⟨s12,A12,l12,c12,t12,B12,m12,d12⟩,⟨s13,A13,l13,c13,t13,B13,m13,d13⟩⟩:=xx
 refine xf 0 [(4, .p 4 0),(5, .p 5 0),eV9 10 s0 A0 l0 c0 t0 B0 m0 d0 s1 A1 l1 c1 t1 B1 m1 d1 x.d,eV9 12 s12 A12 l12 c12 t12 B12 m12 d12 s13 A13 l13 c13 t13 B13 m13 d13 y.conj.d] [bR4 5 116 s11 A11 l11 c11 t11 B11 m11 d11,bV9 4 120 false none 0 0 false none 0 0 false none 0 0 false none 0 0 0,bV9 3 120 s2 A2 l2 c2 t2 B2 m2 d2 s3 A3 l3 c3 t3 B3 m3 d3 y.d,bV9 2 120 s0 A0 l0 c0 t0 B0 m0 d0 s1 A1 l1 c1 t1 B1 m1 d1 x.d] ?_
 refine xd 113 [vV9 s0 A0 l0 c0 t0 B0 m0 d0 s1 A1 l1 c1 t1 B1 m1 d1 x.d,vV9 s12 A12 l12 c12 t12 B12 m12 d12 s13 A13 l13 c13 t13 B13 m13 d13 y.conj.d] 13 (shSd ((x.times y.conj).d)) _ (fun w hE hΦ=>(STimes_any _ _ x y.conj _ hΦ.1.1.1.1.1.1.1 (SdIs.of hΦ.1.1.1.1.1.1.2 hΦ.1.1.1.1.1.2) (SdIs.of hΦ.2.1 hΦ.2.2) zx zy.conj (by omega)).mono (fun _ _ h=>post_Sd h)) (fun xx=>?_)
 obtain ⟨⟨s14,A14,l14,c14,t14,B14,m14,d14⟩,⟨s15,A15,l15,c15,t15,B15,m15,d15⟩⟩:=xx
 refine xf 2 [(4, .p 4 0),(5, .p 5 0),(6, .p 6 0)] [(6,120,[.v (.bool s14), .v (.slice A14 l14 c14), .v (.bool t14), .v (.slice B14 m14 d14), .v (.bool s15), .v (.slice A15 l15 c15), .v (.bool t15), .v (.slice B15 m15 d15), .v (.int .i64 ((x.times y.conj).d))]),bV9 6 120 false none 0 0 false none 0 0 false none 0 0 false none 0 0 0,bR4 5 116 s11 A11 l11 c11 t11 B11 m11 d11,bV9 4 120 false none 0 0 false none 0 0 false none 0 0 false none 0 0 0,bV9 3 120 s2 A2 l2 c2 t2 B2 m2 d2 s3 A3 l3 c3 t3 B3 m3 d3 y.d,bV9 2 120 s0 A0 l0 c0 t0 B0 m0 d0 s1 A1 l1 c1 t1 B1 m1 d1 x.d] ?_
 refine xz (xe (sx_next (sx_seq ?_)))
 refine sx_draw 12 (by kernel_rfl) (by kernel_rfl) follows_mixed' ?_
 refine xf 3 [(4, .p 4 0),(5, .p 5 0),(6, .p 6 0),eR4 15 s14 A14 l14 c14 t14 B14 m14 d14,eR4 16 s11 A11 l11 c11 t11 B11 m11 d11] [(6,120,[.v (.bool s14), .v (.slice A14 l14 c14), .v (.bool t14), .v (.slice B14 m14 d14), .v (.bool s15), .v (.slice A15 l15 c15), .v (.bool t15), .v (.slice B15 m15 d15), .v (.int .i64 ((x.times y.conj).d))]),bV9 6 120 false none 0 0 false none 0 0 false none 0 0 false none 0 0 0,bR4 5 116 s11 A11 l11 c11 t11 B11 m11 d11,bV9 4 120 false none 0 0 false none 0 0 false none 0 0 false none 0 0 0,bV9 3 120 s2 A2 l2 c2 t2 B2 m2 d2 s3 A3 l3 c3 t3 B3 m3 d3 y.d,bV9 2 120 s0 A0 l0 c0 t0 B0 m0 d0 s1 A1 l1 c1 t1 B1 m1 d1 x.d] ?_
 refine xd 96 [vR4 s14 A14 l14 c14 t14 B14 m14 d14,vR4 s11 A11 l11 c11 t11 B11 m11 d11] 17 shRat _ (fun w hE hΦ=>(QMul_any _ _ ((x.times y.conj).a) (y.norm⁻¹) _ hΦ.1.1.1.1.1.1.1.1 hΦ.2.1 hΦ.1.1.2 ((zx.times zy.conj).a.fit (by omega)) ((zy.norm.inv (by omega)).fit (by omega))).mono (fun _ _ h=>post_Rat h)) (fun xx=>?_)
 obtain ⟨s16,A16,l16,c16,t16,B16,m16,d16⟩:=xx
 refine xf 3 [(4, .p 4 0),(6, .p 6 0),eR4 17 s16 A16 l16 c16 t16 B16 m16 d16,eR4 19 s15 A15 l15 c15 t15 B15 m15 d15,eR4 20 s11 A11 l11 c11 t11 B11 m11 d11] [(6,120,[.v (.bool s14), .v (.slice A14 l14 c14), .v (.bool t14), .v (.slice B14 m14 d14), .v (.bool s15), .v (.slice A15 l15 c15), .v (.bool t15), .v (.slice B15 m15 d15), .v (.int .i64 ((x.times y.conj).d))]),bV9 6 120 false none 0 0 false none 0 0 false none 0 0 false none 0 0 0,bR4 5 116 s11 A11 l11 c11 t11 B11 m11 d11,bV9 4 120 false none 0 0 false none 0 0 false none 0 0 false none 0 0 0,bV9 3 120 s2 A2 l2 c2 t2 B2 m2 d2 s3 A3 l3 c3 t3 B3 m3 d3 y.d,bV9 2 120 s0 A0 l0 c0 t0 B0 m0 d0 s1 A1 l1 c1 t1 B1 m1 d1 x.d] ?_
 refine xd 96 [vR4 s15 A15 l15 c15 t15 B15 m15 d15,vR4 s11 A11 l11 c11 t11 B11 m11 d11] 21 shRat _ (fun w hE hΦ=>(QMul_any _ _ ((x.times y.conj).b) (y.norm⁻¹) _ hΦ.1.1.1.1.1.1.1.1.1 hΦ.1.2.2 hΦ.1.1.1.2 ((zx.times zy.conj).b.fit (by omega)) ((zy.norm.inv (by omega)).fit (by omega))).mono (fun _ _ h=>post_Rat h)) (fun xx=>?_)
 obtain ⟨s17,A17,l17,c17,t17,B17,m17,d17⟩:=xx
 refine xf 2 [(4, .p 4 0),eR4 17 s16 A16 l16 c16 t16 B16 m16 d16,eR4 21 s17 A17 l17 c17 t17 B17 m17 d17,(23, .v (.int .i64 ((x.times y.conj).d)))] [(6,120,[.v (.bool s14), .v (.slice A14 l14 c14), .v (.bool t14), .v (.slice B14 m14 d14), .v (.bool s15), .v (.slice A15 l15 c15), .v (.bool t15), .v (.slice B15 m15 d15), .v (.int .i64 ((x.times y.conj).d))]),bV9 6 120 false none 0 0 false none 0 0 false none 0 0 false none 0 0 0,bR4 5 116 s11 A11 l11 c11 t11 B11 m11 d11,bV9 4 120 false none 0 0 false none 0 0 false none 0 0 false none 0 0 0,bV9 3 120 s2 A2 l2 c2 t2 B2 m2 d2 s3 A3 l3 c3 t3 B3 m3 d3 y.d,bV9 2 120 s0 A0 l0 c0 t0 B0 m0 d0 s1 A1 l1 c1 t1 B1 m1 d1 x.d] ?_
 refine xd 99 [vR4 s16 A16 l16 c16 t16 B16 m16 d16,vR4 s17 A17 l17 c17 t17 B17 m17 d17, .int .i64 ((x.times y.conj).d)] 24 (shSd ((nv (((x.times y.conj).a) * (y.norm⁻¹)) (((x.times y.conj).b) * (y.norm⁻¹)) ((x.times y.conj).d)).d)) _ (fun w hE hΦ=>(SNew_any _ _ (((x.times y.conj).a) * (y.norm⁻¹)) (((x.times y.conj).b) * (y.norm⁻¹)) ((x.times y.conj).d) _ hΦ.1.2 hΦ.2).mono (fun _ _ h=>post_Sd h)) (fun xx=>?_)
 obtain ⟨⟨s18,A18,l18,c18,t18,B18,m18,d18⟩,⟨s19,A19,l19,c19,t19,B19,m19,d19⟩⟩:=xx
 refine xf 1 [(4, .p 4 0)] [(4,120,[.v (.bool s18), .v (.slice A18 l18 c18), .v (.bool t18), .v (.slice B18 m18 d18), .v (.bool s19), .v (.slice A19 l19 c19), .v (.bool t19), .v (.slice B19 m19 d19), .v (.int .i64 ((nv (((x.times y.conj).a) * (y.norm⁻¹)) (((x.times y.conj).b) * (y.norm⁻¹)) ((x.times y.conj).d)).d))]),(6,120,[.v (.bool s14), .v (.slice A14 l14 c14), .v (.bool t14), .v (.slice B14 m14 d14), .v (.bool s15), .v (.slice A15 l15 c15), .v (.bool t15), .v (.slice B15 m15 d15), .v (.int .i64 ((x.times y.conj).d))]),bV9 6 120 false none 0 0 false none 0 0 false none 0 0 false none 0 0 0,bR4 5 116 s11 A11 l11 c11 t11 B11 m11 d11,bV9 4 120 false none 0 0 false none 0 0 false none 0 0 false none 0 0 0,bV9 3 120 s2 A2 l2 c2 t2 B2 m2 d2 s3 A3 l3 c3 t3 B3 m3 d3 y.d,bV9 2 120 s0 A0 l0 c0 t0 B0 m0 d0 s1 A1 l1 c1 t1 B1 m1 d1 x.d] ?_
 refine xz (xe (sx_next (sx_ret ?_)))
 refine sx_done (v:=.agg #[.bool s18, .slice A18 l18 c18, .bool t18, .slice B18 m18 d18, .bool s19, .slice A19 l19 c19, .bool t19, .slice B19 m19 d19, .int .i64 ((nv (((x.times y.conj).a) * (y.norm⁻¹)) (((x.times y.conj).b) * (y.norm⁻¹)) ((x.times y.conj).d)).d)]) (by kernel_rfl) (fun w' hE hΦ=>?_)
 exact ⟨_,rfl,(SdIs.of hΦ.2.1 hΦ.2.2),hE⟩
set_option maxRecDepth 100000 in
theorem SSign_any (vx:Value) (x:Sd) (w:World) (hg:Glob w) (hhx:SdIs w vx x) {jx:Nat} (zx:Sz x jx) (hj:jx≤350) :
 Calls Tryz.prog 108 #[vx] w (RetV w (.int .i64 x.sgn)):=by
 obtain ⟨s0,A0,l0,c0,t0,B0,m0,d0,s1,A1,l1,c1,t1,B1,m1,d1,rfl,hx1,hx2⟩:=hhx.shp
 refine sx_enter (Φ:=fun w=>((Glob w∧RatIs w (.agg #[.bool s0, .slice A0 l0 c0, .bool t0, .slice B0 m0 d0]) (x.a))∧RatIs w (.agg #[.bool s1, .slice A1 l1 c1, .bool t1, .slice B1 m1 d1]) (x.b))) Tryz.func108 rfl (by kernel_rfl) (fun w' hf=>⟨⟨hg.ext hf,hx1.ext hf⟩,hx2.ext hf⟩) ?_
 refine sx_seq (sx_region (xr 2 [(1, .p 1 0),(2, .v (.int .i64 0))] [bV9 1 120 s0 A0 l0 c0 t0 B0 m0 d0 s1 A1 l1 c1 t1 B1 m1 d1 x.d] ?_))
 refine xe (sx_next (sx_seq ?_))
 refine sx_draw 8 (by kernel_rfl) (by kernel_rfl) follows_mixed' ?_
 refine xf 2 [(1, .p 1 0),(2, .v (.int .i64 0)),eR4 6 s0 A0 l0 c0 t0 B0 m0 d0] [bV9 1 120 s0 A0 l0 c0 t0 B0 m0 d0 s1 A1 l1 c1 t1 B1 m1 d1 x.d] ?_
 refine xd 200 [vR4 s0 A0 l0 c0 t0 B0 m0 d0] 7 (fun _:Unit=>.int .i64 x.a.num.sign) _ (fun w hE hΦ=>(QSign_any _ x.a _ hΦ.1.2).mono (fun _ _ h=>post_val h rfl)) (fun xx=>?_)
 refine xf 2 [(1, .p 1 0),(2, .v (.int .i64 0)),(7, .v (.int .i64 x.a.num.sign)),eR4 9 s1 A1 l1 c1 t1 B1 m1 d1] [bV9 1 120 s0 A0 l0 c0 t0 B0 m0 d0 s1 A1 l1 c1 t1 B1 m1 d1 x.d] ?_
 refine xd 200 [vR4 s1 A1 l1 c1 t1 B1 m1 d1] 10 (fun _:Unit=>.int .i64 x.b.num.sign) _ (fun w hE hΦ=>(QSign_any _ x.b _ hΦ.1.2).mono (fun _ _ h=>post_val h rfl)) (fun xx=>?_)
 refine xf 2 [(1, .p 1 0),(2, .v (.int .i64 0)),(3, .v (.int .i64 x.a.num.sign)),(4, .v (.int .i64 x.b.num.sign))] [bV9 1 120 s0 A0 l0 c0 t0 B0 m0 d0 s1 A1 l1 c1 t1 B1 m1 d1 x.d] ?_
 refine xz (xe (sx_next (sx_seq (sx_block (sx_seq (sx_region (xr 3 [(1, .p 1 0),(2, .v (.int .i64 0)),(3, .v (.int .i64 x.a.num.sign)),(4, .v (.int .i64 x.b.num.sign)),(14, .v (.bool ((x.b.num.sign:Int) == 0)))] [bV9 1 120 s0 A0 l0 c0 t0 B0 m0 d0 s1 A1 l1 c1 t1 B1 m1 d1 x.d] ?_)))))))
 rcases bool2 (((x.b.num.sign:Int) == 0)) with hb10 | hb10
 ·rw [hb10]
  refine xr 5 [(1, .p 1 0),(2, .v (.int .i64 0)),(3, .v (.int .i64 x.a.num.sign)),(4, .v (.int .i64 x.b.num.sign)),(11, .v (.bool true))] [bV9 1 120 s0 A0 l0 c0 t0 B0 m0 d0 s1 A1 l1 c1 t1 B1 m1 d1 x.d] ?_
  refine xe (sx_next (xa (sx_seq (sx_region (xr 2 [(2, .v (.int .i64 x.a.num.sign)),(4, .v (.int .i64 x.b.num.sign))] [] ?_)))))
  refine xe (sx_next (sx_ret (sx_in_ret (sx_then_ret ?_))))
  refine sx_done (v:=.int .i64 x.a.num.sign) (by kernel_rfl) (fun w' hE hΦ=>?_)
  exact ⟨by unfold Sd.sgn; simp_all<;>(intro h; omega),hE⟩
 ·rw [hb10]
  refine xr 5 [(1, .p 1 0),(2, .v (.int .i64 0)),(3, .v (.int .i64 x.a.num.sign)),(4, .v (.int .i64 x.b.num.sign)),(11, .v (.bool ((x.a.num.sign:Int) == x.b.num.sign)))] [bV9 1 120 s0 A0 l0 c0 t0 B0 m0 d0 s1 A1 l1 c1 t1 B1 m1 d1 x.d] ?_
  refine xe (sx_next ?_)
  refine sx_cond (((x.a.num.sign:Int) == x.b.num.sign)) (by kernel_rfl) (fun hb11=>?_) (fun hb11=>?_)
  ·refine sx_seq (sx_region (xr 2 [(2, .v (.int .i64 x.a.num.sign)),(4, .v (.int .i64 x.b.num.sign))] [] ?_))
   refine xe (sx_next (sx_ret (sx_in_ret (sx_then_ret ?_))))
   refine sx_done (v:=.int .i64 x.a.num.sign) (by kernel_rfl) (fun w' hE hΦ=>?_)
   exact ⟨by unfold Sd.sgn; simp_all<;>(intro h; omega),hE⟩
  ·refine sx_seq (sx_region (xr 3 [(1, .p 1 0),(2, .v (.int .i64 0)),(3, .v (.int .i64 x.a.num.sign)),(4, .v (.int .i64 x.b.num.sign)),(20, .v (.bool ((x.a.num.sign:Int) == 0)))] [bV9 1 120 s0 A0 l0 c0 t0 B0 m0 d0 s1 A1 l1 c1 t1 B1 m1 d1 x.d] ?_))
   refine xe (sx_next ?_)
   refine sx_cond (((x.a.num.sign:Int) == 0)) (by kernel_rfl) (fun hb12=>?_) (fun hb12=>?_)
   ·refine sx_seq (sx_region (xr 2 [(2, .v (.int .i64 x.b.num.sign)),(4, .v (.int .i64 x.b.num.sign))] [] ?_))
    refine xe (sx_next (sx_ret (sx_in_ret (sx_then_ret ?_))))
    refine sx_done (v:=.int .i64 x.b.num.sign) (by kernel_rfl) (fun w' hE hΦ=>?_)
    exact ⟨by unfold Sd.sgn; simp_all<;>(intro h; omega),hE⟩
   ·refine sx_seq (sx_region (xr 1 [(2, .v (.int .i64 0)),(3, .v (.int .i64 x.a.num.sign)),(4, .v (.int .i64 x.b.num.sign)),eV9 25 s0 A0 l0 c0 t0 B0 m0 d0 s1 A1 l1 c1 t1 B1 m1 d1 x.d] [] ?_))
    refine xc 106 [vV9 s0 A0 l0 c0 t0 B0 m0 d0 s1 A1 l1 c1 t1 B1 m1 d1 x.d] 26 shRat _ (fun w hE hΦ=>(SNorm_any _ x _ hΦ.1.1.1.1 (SdIs.of hΦ.1.1.1.2 hΦ.1.1.2) zx (by omega)).mono (fun _ _ h=>post_Rat h)) (fun xx=>?_)
    obtain ⟨s13,A13,l13,c13,t13,B13,m13,d13⟩:=xx
    refine xr 0 [(2, .v (.int .i64 0)),(3, .v (.int .i64 x.a.num.sign)),(4, .v (.int .i64 x.b.num.sign)),eR4 26 s13 A13 l13 c13 t13 B13 m13 d13] [] ?_
    refine xc 200 [vR4 s13 A13 l13 c13 t13 B13 m13 d13] 27 (fun _:Unit=>.int .i64 x.norm.num.sign) _ (fun w hE hΦ=>(QSign_any _ x.norm _ hΦ.2).mono (fun _ _ h=>post_val h rfl)) (fun xx=>?_)
    refine xr 2 [(2, .v (.int .i64 0)),(3, .v (.int .i64 x.a.num.sign)),(4, .v (.int .i64 x.b.num.sign)),(24, .v (.bool (decide (x.norm.num.sign > 0))))] [] ?_
    refine xe (sx_next ?_)
    refine sx_cond ((decide (x.norm.num.sign > 0))) (by kernel_rfl) (fun hb14=>?_) (fun hb14=>?_)
    ·refine sx_seq (sx_region (xr 2 [(2, .v (.int .i64 x.a.num.sign)),(4, .v (.int .i64 x.b.num.sign))] [] ?_))
     refine xe (sx_next (sx_ret (sx_in_ret (sx_then_ret ?_))))
     refine sx_done (v:=.int .i64 x.a.num.sign) (by kernel_rfl) (fun w' hE hΦ=>?_)
     exact ⟨by unfold Sd.sgn; simp_all<;>(intro h; omega),hE⟩
    ·refine sx_skip (sx_out (sx_next (sx_seq (sx_region (xr 2 [(2, .v (.int .i64 x.b.num.sign))] [] ?_)))))
     refine xe (sx_next (sx_ret ?_))
     refine sx_done (v:=.int .i64 x.b.num.sign) (by kernel_rfl) (fun w' hE hΦ=>?_)
     exact ⟨by unfold Sd.sgn; simp_all<;>(intro h; omega),hE⟩
set_option maxRecDepth 100000 in
theorem SWrite_any (vx:Value) (x:Sd) (w:World) (hg:Glob w) (hhx:SdIs w vx x) {j:Nat} (za:Dq x.a j) (zb:Dq x.b j) (hj:j≤722) :
 Calls Tryz.prog 94 #[vx] w (RetV w (.agg #[.string ⟨(ratText x.a).toArray⟩, .string ⟨(ratText x.b).toArray⟩, .int .i64 x.d])):=by
 obtain ⟨s0,A0,l0,c0,t0,B0,m0,d0,s1,A1,l1,c1,t1,B1,m1,d1,rfl,hx1,hx2⟩:=hhx.shp
 refine sx_enter (Φ:=fun w=>((Glob w∧RatIs w (.agg #[.bool s0, .slice A0 l0 c0, .bool t0, .slice B0 m0 d0]) (x.a))∧RatIs w (.agg #[.bool s1, .slice A1 l1 c1, .bool t1, .slice B1 m1 d1]) (x.b))) Tryz.func94 rfl (by kernel_rfl) (fun w' hf=>⟨⟨hg.ext hf,hx1.ext hf⟩,hx2.ext hf⟩) ?_
 refine sx_seq (sx_region (xr 2 [(1, .p 1 0),(2, .p 2 0)] [(2,23,[.v (.string ⟨#[]⟩), .v (.string ⟨#[]⟩), .v (.int .i64 0)]),bV9 1 120 s0 A0 l0 c0 t0 B0 m0 d0 s1 A1 l1 c1 t1 B1 m1 d1 x.d] ?_))
 refine xe (sx_next (sx_seq ?_))
 refine sx_draw 10 (by kernel_rfl) (by kernel_rfl) follows_mixed' ?_
 refine xf 2 [(1, .p 1 0),(2, .p 2 0),eR4 4 s0 A0 l0 c0 t0 B0 m0 d0] [(2,23,[.v (.string ⟨#[]⟩), .v (.string ⟨#[]⟩), .v (.int .i64 0)]),bV9 1 120 s0 A0 l0 c0 t0 B0 m0 d0 s1 A1 l1 c1 t1 B1 m1 d1 x.d] ?_
 refine xd 107 [vR4 s0 A0 l0 c0 t0 B0 m0 d0] 5 (fun _:Unit=>.string ⟨(ratText x.a).toArray⟩) _ (fun w hE hΦ=>(RString_any _ x.a _ hΦ.1.1 hΦ.1.2 (za.prt (by omega)).1 (za.prt (by omega)).2).mono (fun _ _ h=>post_val h rfl)) (fun xx=>?_)
 refine xf 2 [(1, .p 1 0),(2, .p 2 0),(5, .v (.string ⟨(ratText x.a).toArray⟩)),eR4 7 s1 A1 l1 c1 t1 B1 m1 d1] [(2,23,[.v (.string ⟨#[]⟩), .v (.string ⟨#[]⟩), .v (.int .i64 0)]),bV9 1 120 s0 A0 l0 c0 t0 B0 m0 d0 s1 A1 l1 c1 t1 B1 m1 d1 x.d] ?_
 refine xd 107 [vR4 s1 A1 l1 c1 t1 B1 m1 d1] 8 (fun _:Unit=>.string ⟨(ratText x.b).toArray⟩) _ (fun w hE hΦ=>(RString_any _ x.b _ hΦ.1.1.1 hΦ.1.2 (zb.prt (by omega)).1 (zb.prt (by omega)).2).mono (fun _ _ h=>post_val h rfl)) (fun xx=>?_)
 refine xf 4 [(2, .p 2 0)] [(2,23,[.v (.string ⟨(ratText x.a).toArray⟩), .v (.string ⟨(ratText x.b).toArray⟩), .v (.int .i64 x.d)]),(2,23,[.v (.string ⟨#[]⟩), .v (.string ⟨#[]⟩), .v (.int .i64 0)]),bV9 1 120 s0 A0 l0 c0 t0 B0 m0 d0 s1 A1 l1 c1 t1 B1 m1 d1 x.d] ?_
 refine xz (xe (sx_next (sx_ret ?_)))
 refine sx_done (v:=.agg #[.string ⟨(ratText x.a).toArray⟩, .string ⟨(ratText x.b).toArray⟩, .int .i64 x.d]) (by kernel_rfl) (fun w' hE hΦ=>?_)
 exact ⟨rfl,hE⟩
def blg (d e:Int):Bool:=d == 1 || (e == 1 || d == e)
theorem blg1 {d e:Int} (h:(d == 1)=true):blg d e=true:=by unfold blg; rw [h]; rfl
theorem blg2 {d e:Int} (h:(d == 1)=false) (h':(e == 1)=true):blg d e=true:=by unfold blg; rw [h,h']; rfl
theorem blg3 {d e:Int} (h:(d == 1)=false) (h':(e == 1)=false):blg d e=(d == e):=by unfold blg; rw [h,h']; rfl
theorem blg_iff {d e:Int}:blg d e=true ↔ Blg d e:=by unfold blg Blg; simp
set_option maxRecDepth 100000 in
theorem Belong_any (d e:Int) (w:World) :
 Calls Tryz.prog 185 #[.int .i64 d, .int .i64 e] w (RetV w (.bool (blg d e))):=by
 refine sx_enter (Φ:=fun w=>True) Tryz.func185 rfl (by kernel_rfl) (fun w' hf=>trivial) ?_
 refine sx_seq (sx_region (xr 1 [(0, .v (.int .i64 d)),(1, .v (.int .i64 e)),(4, .v (.bool false))] [] ?_))
 refine xe (sx_next (sx_seq (sx_region (xr 3 [(0, .v (.int .i64 d)),(1, .v (.int .i64 e)),(4, .v (.bool false)),(7, .v (.bool ((d:Int) == 1)))] [] ?_))))
 rcases bool2 (((d:Int) == 1)) with hb10 | hb10
 ·rw [hb10]
  refine xr 9 [(4, .v (.bool true))] [] ?_
  refine xe (sx_next (sx_ret ?_))
  refine sx_done (v:=.bool true) (by kernel_rfl) (fun w' hE hΦ=>?_)
  exact ⟨by rw [blg1 hb10],hE⟩
 ·rw [hb10]
  refine xr 4 [(0, .v (.int .i64 d)),(1, .v (.int .i64 e)),(4, .v (.bool false)),(11, .v (.bool ((e:Int) == 1)))] [] ?_
  rcases bool2 (((e:Int) == 1)) with hb11 | hb11
  ·rw [hb11]
   refine xr 5 [(4, .v (.bool true))] [] ?_
   refine xe (sx_next (sx_ret ?_))
   refine sx_done (v:=.bool true) (by kernel_rfl) (fun w' hE hΦ=>?_)
   exact ⟨by rw [blg2 hb10 hb11],hE⟩
  ·rw [hb11]
   refine xr 5 [(4, .v (.bool ((d:Int) == e)))] [] ?_
   refine xe (sx_next (sx_ret ?_))
   refine sx_done (v:=.bool ((d:Int) == e)) (by kernel_rfl) (fun w' hE hΦ=>?_)
   exact ⟨by rw [blg3 hb10 hb11],hE⟩
end Go.Proofs.YtbgkofgoeoiciaaGreatDoor

namespace Go.Proofs.YtbgkofgoeoiciaaGreatDoor
open Go.RowKit
section
variable {N:Nat} {S0:Nat→Prop} {w0:World} {P:Program} {s:St} {Φ Φ0:World→Prop} {ops:Array Oper} {Q:Exit→Act→World→Prop}
theorem xl {i:Nat} (d:Nat) (y:Value) (hx:∀ w,Fr S0 w0 w→Φ w→(execOp s.rho (opAt ops i)).run P w=.ok (.value y) w) (K:SXi P N S0 w0 ops Q (i + 1) (s.put d (.v y)) Φ) (hi:Nat.blt i ops.size=true:=by kernel_rfl) (hs:noSel (opAt ops i).op=true:=by kernel_rfl)
 (hw:s.wantB ops (opAt ops i)=some true:=by kernel_rfl) (hv:(opAt ops i).op.operands.toList.all s.vB=true:=by kernel_rfl) (hd:(opAt ops i).dst=some d:=by kernel_rfl) (hN:Nat.blt d N=true:=by kernel_rfl):SXi P N S0 w0 ops Q i s Φ:=sx_look d y hi hs hw hv hd hN hx K
theorem xm {n i:Nat} (d:Nat) (y:Value) (hx:∀ w,Φ0 w→(execOp s.rho (opAt ops i)).run P w=.ok (.value y) w) (K:StI P N S0 w0 ops Φ0 Q n (i + 1) (s.put d (.v y)) Φ) (hi:Nat.blt i n=true:=by kernel_rfl) (hk:isLook (opAt ops i).op=true:=by kernel_rfl)
 (hw:s.wantB ops (opAt ops i)=some true:=by kernel_rfl) (hv:(opAt ops i).op.operands.toList.all s.vB=true:=by kernel_rfl) (hd:(opAt ops i).dst=some d:=by kernel_rfl) (hN:Nat.blt d N=true:=by kernel_rfl):StI P N S0 w0 ops Φ0 Q n i s Φ:=st_look d y hi hk hw hv hd hN hx K
end
abbrev vS3 (a b:ByteArray) (d:Int):Value:=.agg #[.string a, .string b, .int .i64 d]
abbrev eS3 (n:Nat) (a b:ByteArray) (d:Int):Nat × AV:=(n, .v (vS3 a b d))
abbrev bS3 (n:Nat) (t:TypeId) (a b:ByteArray) (d:Int):Nat × TypeId × List AV:=(n,t,[.v (.string a), .v (.string b), .v (.int .i64 d)])
section
variable {w w':World} {e:Ending} {l:List UInt8} {o:Option Sd}
theorem post_Read_gen (h:RetRead w l e w'):PostC (fun u0:Bool × ShQ=>.tuple #[shRat u0.2, .bool u0.1]) (fun _ _=>True) w e w':=by
 obtain ⟨v,ok,rfl,hE,h⟩:=h
 obtain ⟨s,A,l,c,t,B,m,d,rfl⟩:∃ s A l c t B m d,v=.agg #[.bool s, .slice A l c, .bool t, .slice B m d]:=by
  rcases h with ⟨_,q,_,h2⟩ | ⟨_,_,h2⟩<;>exact h2.shp
 exact ⟨(ok,s,A,l,c,t,B,m,d),rfl,hE,BoxN.pure trivial⟩
theorem post_Rd_gen (h:RetRd w o e w'):PostC (fun u0:Bool × Int × ShS=>.tuple #[shSd u0.2.1 u0.2.2, .bool u0.1]) (fun _ _=>True) w e w':=by
 obtain ⟨v,ok,x',rfl,⟨y,rfl,_⟩,hE,_⟩:=h
 exact ⟨(ok,x'.d,y),rfl,hE,BoxN.pure trivial⟩
end
theorem wrap_sm {z:Int} (h1 : -9223372036854775808≤z) (h2:z≤9223372036854775807):IntKind.i64.wrap z=z:=by
 rw [IntKind.wrap_i64]; omega
theorem run_quo {P:Program} {o:Oper} {ρ:Operand→Value} {w:World} {t k:TypeId} {x y:Operand} {a b:Nat} (ho:o.op=Op.binOp .quo t x y k) (hx:ρ x=.int .i64 ((a:Nat):Int)) (hy:ρ y=.int .i64 ((b:Nat):Int)) (hb:0 < b) (ha:a≤1000000) :
 (execOp ρ o).run P w=.ok (.value (.int .i64 ((a / b:Nat):Int))) w:=by
 have h:¬ ((b:Int)=0):=by omega
 have e:IntKind.i64.wrap ((a:Int).tdiv (b:Int))=((a / b:Nat):Int):=by
  rw [nat_tdiv]; have h1:=Nat.div_le_self a b; generalize a / b=q at *; exact wrap_sm (by omega) (by omega)
 simp only [execOp,ho,hx,hy,eqGuard,binOp,Op.intDiv,if_neg h,e]
 rfl
theorem run_rem {P:Program} {o:Oper} {ρ:Operand→Value} {w:World} {t k:TypeId} {x y:Operand} {a b:Nat} (ho:o.op=Op.binOp .rem t x y k) (hx:ρ x=.int .i64 ((a:Nat):Int)) (hy:ρ y=.int .i64 ((b:Nat):Int)) (hb:0 < b) :
 (execOp ρ o).run P w=.ok (.value (.int .i64 ((a % b:Nat):Int))) w:=by
 have h:¬ ((b:Int)=0):=by omega
 have e:((a:Int).tmod (b:Int))=((a % b:Nat):Int):=by
  rw [Int.tmod_eq_emod_of_nonneg (by omega)]; rfl
 simp only [execOp,ho,hx,hy,eqGuard,binOp,Op.intDiv,if_neg h,e]
 rfl
theorem nmul {a b:Nat} (h:a * b≤1000000000):IntKind.i64.wrap (((a:Nat):Int) * ((b:Nat):Int))=((a * b:Nat):Int):=by
 rw [← Int.natCast_mul]; exact wrap_sm (by omega) (by omega)
theorem ninc {a:Nat} (h:a≤1000000000):IntKind.i64.wrap (((a:Nat):Int) + 1)=((a + 1:Nat):Int):=by
 rw [wrap_sm (by omega) (by omega)]; rfl
theorem kk_le {k:Nat} (h:k≤1001):k * k≤1000000000:=by
 have:=Nat.mul_le_mul h h; omega
theorem le_t {a b:Nat} (h:decide (((a:Nat):Int)≤((b:Nat):Int))=true):a≤b:=by have:=of_decide_eq_true h; omega
theorem le_f {a b:Nat} (h:decide (((a:Nat):Int)≤((b:Nat):Int))=false):b < a:=by have:=of_decide_eq_false h; omega
theorem md_t {a:Nat} (h:(((a:Nat):Int) == 0)=true):a=0:=by have:=eq_of_beq h; omega
theorem md_f {a:Nat} (h:(((a:Nat):Int) == 0)=false):a≠0:=fun e=>by subst e; cases h
theorem k_le {k m:Nat} (h:k * k≤m) (hm:m≤1000000):k≤1000:=by
 refine Decidable.byContradiction fun hc=>?_
 have:=Nat.mul_le_mul (show 1001≤k by omega) (show 1001≤k by omega)
 omega
theorem sq_r {r m N:Nat} (h:r * r * m=N) (h0:0 < m) (hN:N≤1000000):r≤1000:=by
 refine k_le (m:=N) ?_ hN
 rw [← h]; exact Nat.le_mul_of_pos_right _ h0
theorem sq_rk {r k:Nat} (h:r≤1000) (hk:k≤1000):r * k≤1000000000:=by
 have:=Nat.mul_le_mul h hk; omega
theorem sq_div {m j:Nat} (hm:0 < m) (h:m % j=0) (hj:4≤j):0 < m / j∧m / j < m :=
 ⟨Nat.div_pos (Nat.le_of_dvd hm (Nat.dvd_of_mod_eq_zero h)) (by omega),Nat.div_lt_self hm (by omega)⟩
theorem kk4 {k:Nat} (h:2≤k):4≤k * k:=Nat.mul_le_mul h h
theorem sq_step {r k m N:Nat} (hm:r * r * m=N) (h:m % (k * k)=0):r * k * (r * k) * (m / (k * k))=N:=by
 obtain ⟨q,rfl⟩:=Nat.dvd_of_mod_eq_zero h
 by_cases hk:k * k=0
 ·rw [hk] at hm ⊢; grind
 ·rw [Nat.mul_div_cancel_left _ (by omega),← hm]; grind
theorem sqf_one {N R M:Nat} (h:SqF N R M):(R=1 ↔ Free N):=by
 constructor
 ·intro e; have:=h.mul; subst e
  have this:M=N:=by omega
  exact this ▸ h.free
 ·intro hf
  exact (h.eq ⟨by omega,h.pos,hf⟩).1
section
variable {A B:List UInt8} {D:Int} {p q:Rat}
theorem rd_one (h1:readF A=some p) (h2:readF B=some q) (hD:(D == 1)=true) (hq:q.num=0):rdS A B D=some ⟨p,0,1⟩:=by
 have e:=eq_of_beq hD; subst e
 have e:=Rat.num_eq_zero.1 hq; subst e
 exact rdS_some h1 h2 (Or.inl ⟨rfl,rfl⟩)
theorem rd_one_no (h1:readF A=some p) (h2:readF B=some q) (hD:(D == 1)=true) (hq:q.num≠0):rdS A B D=none:=by
 have e:=eq_of_beq hD; subst e
 refine rdS_no h1 h2 ?_
 rintro (⟨_,h⟩ | ⟨h,_⟩)
 ·simp only at h; subst h; exact hq rfl
 ·simp only at h; omega
theorem ne_one (h:(D == 1)=false):D≠1:=fun e=>by subst e; cases h
theorem rd_out (h1:readF A=some p) (h2:readF B=some q) (hD:(D == 1)=false) (h:D < 2∨D > 1000000∨q.num=0∨¬ Free D.toNat):rdS A B D=none:=by
 refine rdS_no h1 h2 ?_
 have:=ne_one hD
 rintro (⟨h3,_⟩ | ⟨h3,h4,h5,h6⟩)
 ·exact this h3
 ·simp only at h3 h4 h5 h6
  rcases h with h | h | h | h
  ·omega
  ·omega
  ·exact h5 (Rat.num_eq_zero.1 h)
  ·exact h h6
theorem rd_in (h1:readF A=some p) (h2:readF B=some q) (h3:2≤D) (h4:D≤1000000) (h5:q.num≠0) (h6:Free D.toNat):rdS A B D=some ⟨p,q,D⟩ :=
 rdS_some h1 h2 (Or.inr ⟨h3,h4,fun e=>h5 (by simp only at e; rw [e]; rfl),h6⟩)
end
theorem ne1_t {R N M:Nat} (hS:SqF N R M) (h:(((R:Nat):Int) != 1)=true):¬ Free N:=fun hf=>by
 have:=(sqf_one hS).2 hf; subst this; cases h
theorem ne1_f {R N M:Nat} (hS:SqF N R M) (h:(((R:Nat):Int) != 1)=false):Free N:=by
 refine (sqf_one hS).1 ?_
 have:((R:Nat):Int)=1:=by simpa using h
 omega
-- results
abbrev zS:Value:=.agg #[.string ⟨#[]⟩, .string ⟨#[]⟩, .int .i64 0]
abbrev tS (x:Sd):Value:=.agg #[.string ⟨(ratText x.a).toArray⟩, .string ⟨(ratText x.b).toArray⟩, .int .i64 x.d]
abbrev okS (x:Sd):Value:=.tuple #[tS x, .int .i64 0]
noncomputable def opV (o o':Option Sd) (f:Sd→Sd→Value) (z:Value):Value :=
 match o,o' with
 | some x,some y=>@ite _ (Blg x.d y.d) (Classical.propDecidable _) (f x y) (.tuple #[z, .int .i64 9])
 | _,_=>.tuple #[z, .int .i64 1]
def opU (o:Option Sd) (f:Sd→Value) (z:Value):Value:=match o with | some x=>f x | none=>.tuple #[z, .int .i64 1]
section
variable {o o':Option Sd} {f:Sd→Sd→Value} {g:Sd→Value} {z:Value} {x y:Sd}
theorem opV_bad (h:o=none∨o'=none):opV o o' f z=.tuple #[z, .int .i64 1]:=by
 unfold opV; rcases h with h | h<;>rw [h]<;>split<;>simp_all
theorem opV_no (h:o=some x) (h':o'=some y) (hb:¬ Blg x.d y.d):opV o o' f z=.tuple #[z, .int .i64 9]:=by
 unfold opV; rw [h,h']; exact if_neg hb
theorem opV_ok (h:o=some x) (h':o'=some y) (hb:Blg x.d y.d):opV o o' f z=f x y:=by
 unfold opV; rw [h,h']; exact if_pos hb
theorem opU_bad (h:o=none):opU o g z=.tuple #[z, .int .i64 1]:=by rw [h]; rfl
theorem opU_ok (h:o=some x):opU o g z=g x:=by rw [h]; rfl
theorem two_ways (o o':Option Sd):(o=none∨o'=none)∨(∃ x y,o=some x∧o'=some y∧¬ Blg x.d y.d)∨(∃ x y,o=some x∧o'=some y∧Blg x.d y.d):=by
 cases o with
 | none=>exact Or.inl (Or.inl rfl)
 | some x =>
   cases o' with
   | none=>exact Or.inl (Or.inr rfl)
   | some y =>
     by_cases h:Blg x.d y.d
     ·exact Or.inr (Or.inr ⟨x,y,rfl,rfl,h⟩)
     ·exact Or.inr (Or.inl ⟨x,y,rfl,rfl,h⟩)
end
abbrev zV:Value:=vV9 false none 0 0 false none 0 0 false none 0 0 false none 0 0 0
def RetRd2 (w:World) (o o':Option Sd) (e:Ending) (w':World):Prop :=
 ((o=none∨o'=none)∧e=.returned (.tuple #[zV,zV, .int .i64 1])∧Ext w w') ∨
 (∃ x y,o=some x∧o'=some y∧¬ Blg x.d y.d∧e=.returned (.tuple #[zV,zV, .int .i64 9])∧Ext w w') ∨
 (∃ x y v v',o=some x∧o'=some y∧Blg x.d y.d∧e=.returned (.tuple #[v,v', .int .i64 0])∧SdIs w' v x∧SdIs w' v' y∧Ext w w')
section
variable {w w':World} {e:Ending} {o o':Option Sd} {x y:Sd}
theorem post_Rd2_bad (h:RetRd2 w o o' e w') (hb:o=none∨o'=none):PostC (fun _:Unit=>.tuple #[zV,zV, .int .i64 1]) (fun _ _=>True) w e w':=by
 rcases h with ⟨_,h,hE⟩ | ⟨x,y,h1,h2,_⟩ | ⟨x,y,v,v',h1,h2,_⟩
 ·exact ⟨(),h,hE,BoxN.pure trivial⟩
 ·rw [h1,h2] at hb; simp at hb
 ·rw [h1,h2] at hb; simp at hb
theorem post_Rd2_no (h:RetRd2 w o o' e w') (ho:o=some x) (ho':o'=some y) (hb:¬ Blg x.d y.d):PostC (fun _:Unit=>.tuple #[zV,zV, .int .i64 9]) (fun _ _=>True) w e w':=by
 rcases h with ⟨hb,_⟩ | ⟨x',y',h1,h2,h3,h,hE⟩ | ⟨x',y',v,v',h1,h2,h3,_⟩
 ·rw [ho,ho'] at hb; simp at hb
 ·exact ⟨(),h,hE,BoxN.pure trivial⟩
 ·rw [ho] at h1; rw [ho'] at h2; injection h1 with h1; injection h2 with h2; subst h1 h2; exact absurd h3 hb
theorem post_Rd2_ok (h:RetRd2 w o o' e w') (ho:o=some x) (ho':o'=some y) (hb:Blg x.d y.d):PostC (fun u:ShS × ShS=>.tuple #[shSd x.d u.1,shSd y.d u.2, .int .i64 0])
 (fun u w=>((RatIs w (shRat u.1.1) x.a∧RatIs w (shRat u.1.2) x.b)∧RatIs w (shRat u.2.1) y.a)∧RatIs w (shRat u.2.2) y.b) w e w':=by
 rcases h with ⟨hb,_⟩ | ⟨x',y',h1,h2,h3,_⟩ | ⟨x',y',v,v',h1,h2,h3,rfl,⟨u,rfl,a1,a2⟩,⟨u',rfl,b1,b2⟩,hE⟩
 ·rw [ho,ho'] at hb; simp at hb
 ·rw [ho] at h1; rw [ho'] at h2; injection h1 with h1; injection h2 with h2; subst h1 h2; exact absurd hb h3
 ·rw [ho] at h1; rw [ho'] at h2; injection h1 with h1; injection h2 with h2; subst h1 h2
  exact ⟨(u,u'),rfl,hE,boxn hE (fun S w'' hS hF=>⟨⟨⟨a1.nrb hS hF,a2.nrb hS hF⟩,b1.nrb hS hF⟩,b2.nrb hS hF⟩)⟩
end
section
variable {A B:List UInt8} {d:Int} {R M:Nat} {p q:Rat}
end
end Go.Proofs.YtbgkofgoeoiciaaGreatDoor

namespace Go.Proofs.YtbgkofgoeoiciaaGreatDoor
open Go.RowKit
theorem blg_no {d e:Int} (h:¬ Blg d e):blg d e=false:=by
 cases hb:blg d e with
 | false=>rfl
 | true=>exact absurd (blg_iff.1 hb) h
open Classical in
noncomputable def divV (x y:Sd):Value:=if y.a=0∧y.b=0 then .tuple #[zS, .int .i64 5] else okS (x.over y)
theorem zero_t {x:Sd} (h:x.a=0∧x.b=0):(decide (x.a.num=0) && decide (x.b.num=0))=true:=by rw [h.1,h.2]; rfl
theorem zero_f {x:Sd} (h:¬ (x.a=0∧x.b=0)):(decide (x.a.num=0) && decide (x.b.num=0))=false:=by
 rw [Bool.and_eq_false_iff,decide_eq_false_iff_not,decide_eq_false_iff_not,Rat.num_eq_zero,Rat.num_eq_zero]
 by_cases h1:x.a=0
 ·exact Or.inr fun h2=>h ⟨h1,h2⟩
 ·exact Or.inl h1
set_option maxRecDepth 100000 in
theorem squareFactor_any (N R M:Nat) (w:World) (hN:N≤1000000) (hS:SqF N R M) :
 Calls Tryz.prog 95 #[.int .i64 ((N:Nat):Int)] w (RetV w (.tuple #[.int .i64 ((R:Nat):Int), .int .i64 ((M:Nat):Int)])):=by
 refine sx_enter (Φ:=fun w=>True) Tryz.func95 rfl (by kernel_rfl) (fun w' hf=>trivial) ?_
 refine sx_seq (sx_region (xr 2 [(0, .v (.int .i64 ((N:Nat):Int))),(2, .v (.int .i64 0)),(3, .v (.int .i64 0))] [] ?_))
 refine xe (sx_next (sx_seq (sx_region (xr 1 [(0, .v (.int .i64 ((N:Nat):Int))),(2, .v (.int .i64 0)),(3, .v (.int .i64 0)),(4, .v (.int .i64 1))] [] ?_))))
 refine xe (sx_next (sx_seq (sx_seq (sx_region (xr 1 [(0, .v (.int .i64 ((N:Nat):Int))),(2, .v (.int .i64 0)),(3, .v (.int .i64 0)),(4, .v (.int .i64 1)),(5, .v (.int .i64 2))] [] ?_)))))
 refine xe (sx_next (sx_block ?_))
 refine SXc.weak [(0, .v (.int .i64 ((N:Nat):Int))),(4, .v (.int .i64 ((1:Nat):Int))),(5, .v (.int .i64 ((2:Nat):Int)))] [] (Ψ:=fun w=>True) (SameL.of (by kernel_rfl)) (by kernel_rfl) (fun w hΦ=>trivial) ?_
 refine sx_loop (fun nn ss ff=>∃ (m r k:Nat),ss=ofL [(0, .v (.int .i64 ((m:Nat):Int))),(4, .v (.int .i64 ((r:Nat):Int))),(5, .v (.int .i64 ((k:Nat):Int)))] []∧ff=(fun w=>True)∧(r * r * m=N)∧(0 < m)∧(m≤1000000)∧(FreeTo k m)∧(2≤k)∧(k≤1001)∧nn=(2000 - k)) ((2000 - 2)) ⟨N,1,2,rfl,rfl,(by omega),hS.pos,hN,(FreeTo.two N),(by omega),(by omega),rfl⟩ ?_
 rintro nn ss ff ⟨m,r,k,rfl,rfl,hmul,hm0,hmN,hF,hk2,hk3,rfl⟩
 refine sx_seq (sx_seq (sx_region (xr 3 [(0, .v (.int .i64 ((m:Nat):Int))),(4, .v (.int .i64 ((r:Nat):Int))),(5, .v (.int .i64 ((k:Nat):Int))),(8, .v (.int .i64 (IntKind.i64.wrap (((k:Nat):Int) * ((k:Nat):Int)))))] [] ?_)))
 rw [nmul (kk_le (by omega))]
 refine xr 2 [(0, .v (.int .i64 ((m:Nat):Int))),(4, .v (.int .i64 ((r:Nat):Int))),(5, .v (.int .i64 ((k:Nat):Int))),(10, .v (.bool (decide (((k * k:Nat):Int)≤((m:Nat):Int)))))] [] ?_
 refine xe (sx_next ?_)
 refine sx_cond ((decide (((k * k:Nat):Int)≤((m:Nat):Int)))) (by kernel_rfl) (fun hb10=>?_) (fun hb10=>?_)
 ·have hle:=le_t hb10
  have hk1:=k_le hle (by omega)
  refine sx_skip (sx_next (sx_seq (sx_block (sx_block ?_))))
  refine SXc.weak [(0, .v (.int .i64 ((m:Nat):Int))),(4, .v (.int .i64 ((r:Nat):Int))),(5, .v (.int .i64 ((k:Nat):Int)))] [] (Ψ:=fun w=>True) (SameL.of (by kernel_rfl)) (by kernel_rfl) (fun w hΦ=>trivial) ?_
  refine sx_loop (fun nn ss ff=>∃ (m2 r2:Nat),ss=ofL [(0, .v (.int .i64 ((m2:Nat):Int))),(4, .v (.int .i64 ((r2:Nat):Int))),(5, .v (.int .i64 ((k:Nat):Int)))] []∧ff=(fun w=>True)∧(r2 * r2 * m2=N)∧(0 < m2)∧(m2≤1000000)∧(FreeTo k m2)∧nn=(0 + m2)) ((0 + m)) ⟨m,r,rfl,rfl,hmul,hm0,hmN,hF,rfl⟩ ?_
  rintro nn ss ff ⟨m2,r2,rfl,rfl,hmul2,hm2,hm2N,hF2,rfl⟩
  refine sx_seq (sx_seq (sx_region (xr 4 [(0, .v (.int .i64 ((m2:Nat):Int))),(4, .v (.int .i64 ((r2:Nat):Int))),(5, .v (.int .i64 ((k:Nat):Int))),(13, .v (.int .i64 ((m2:Nat):Int))),(16, .v (.int .i64 (IntKind.i64.wrap (((k:Nat):Int) * ((k:Nat):Int)))))] [] ?_)))
  rw [nmul (kk_le (by omega))]
  refine xl 17 (.int .i64 ((m2 % (k * k):Nat):Int)) (fun w hE hΦ=>run_rem (t:=3) (k:=3) (x:=.tmp 13) (y:=.tmp 16) (a:=m2) (b:=k * k) (by kernel_rfl) (by kernel_rfl) (by kernel_rfl) (by have:=kk4 hk2; omega)) ?_
  refine xr 1 [(0, .v (.int .i64 ((m2:Nat):Int))),(4, .v (.int .i64 ((r2:Nat):Int))),(5, .v (.int .i64 ((k:Nat):Int))),(18, .v (.bool ((((m2 % (k * k):Nat):Int):Int) == 0)))] [] ?_
  refine xe (sx_next ?_)
  refine sx_cond (((((m2 % (k * k):Nat):Int):Int) == 0)) (by kernel_rfl) (fun hb11=>?_) (fun hb11=>?_)
  ·have hd:=md_t hb11
   refine sx_skip (sx_next (sx_block (sx_seq (sx_region (xr 4 [(0, .v (.int .i64 ((m2:Nat):Int))),(4, .v (.int .i64 ((r2:Nat):Int))),(5, .v (.int .i64 ((k:Nat):Int))),(19, .v (.int .i64 ((m2:Nat):Int))),(22, .v (.int .i64 (IntKind.i64.wrap (((k:Nat):Int) * ((k:Nat):Int)))))] [] ?_)))))
   rw [nmul (kk_le (by omega))]
   refine xl 23 (.int .i64 ((m2 / (k * k):Nat):Int)) (fun w hE hΦ=>run_quo (t:=3) (k:=3) (x:=.tmp 19) (y:=.tmp 22) (a:=m2) (b:=k * k) (by kernel_rfl) (by kernel_rfl) (by kernel_rfl) (by have:=kk4 hk2; omega) (by omega)) ?_
   refine xr 1 [(0, .v (.int .i64 ((m2 / (k * k):Nat):Int))),(4, .v (.int .i64 ((r2:Nat):Int))),(5, .v (.int .i64 ((k:Nat):Int)))] [] ?_
   refine xe (sx_next (sx_region (xr 3 [(0, .v (.int .i64 ((m2 / (k * k):Nat):Int))),(4, .v (.int .i64 ((r2:Nat):Int))),(5, .v (.int .i64 ((k:Nat):Int))),(26, .v (.int .i64 (IntKind.i64.wrap (((r2:Nat):Int) * ((k:Nat):Int)))))] [] ?_)))
   rw [nmul (sq_rk (sq_r hmul2 hm2 hN) (by omega))]
   refine xr 1 [(0, .v (.int .i64 ((m2 / (k * k):Nat):Int))),(4, .v (.int .i64 ((r2 * k:Nat):Int))),(5, .v (.int .i64 ((k:Nat):Int)))] [] ?_
   refine xe (sx_out ?_)
   refine SXq.weak [(0, .v (.int .i64 (((m2 / (k * k)):Nat):Int))),(4, .v (.int .i64 (((r2 * k):Nat):Int))),(5, .v (.int .i64 ((k:Nat):Int)))] [] (Ψ:=fun w=>True) (SameL.of (by kernel_rfl)) (by kernel_rfl) (fun w hΦ=>trivial) ?_
   have hq:=sq_div hm2 hd (kk4 hk2)
   exact sx_round ((0 + (m2 / (k * k)))) (by have:=hq.2; omega) ⟨(m2 / (k * k)),(r2 * k),rfl,rfl,(sq_step hmul2 hd),hq.1,(by omega),(hF2.div (Nat.dvd_of_mod_eq_zero hd)),rfl⟩
  ·have hd:=md_f hb11
   refine sx_exit (sx_then_exit (sx_then_exit (sx_hit (sx_out (sx_next (sx_region (xr 2 [(0, .v (.int .i64 ((m2:Nat):Int))),(4, .v (.int .i64 ((r2:Nat):Int))),(5, .v (.int .i64 ((k:Nat):Int))),(12, .v (.int .i64 (IntKind.i64.wrap (((k:Nat):Int) + 1))))] [] ?_)))))))
   rw [ninc (by omega)]
   refine xr 1 [(0, .v (.int .i64 ((m2:Nat):Int))),(4, .v (.int .i64 ((r2:Nat):Int))),(5, .v (.int .i64 ((k + 1:Nat):Int)))] [] ?_
   refine xe ?_
   refine SXq.weak [(0, .v (.int .i64 ((m2:Nat):Int))),(4, .v (.int .i64 ((r2:Nat):Int))),(5, .v (.int .i64 (((k + 1):Nat):Int)))] [] (Ψ:=fun w=>True) (SameL.of (by kernel_rfl)) (by kernel_rfl) (fun w hΦ=>trivial) ?_
   exact sx_round ((2000 - (k + 1))) (by omega) ⟨m2,r2,(k + 1),rfl,rfl,hmul2,hm2,hm2N,(hF2.next (fun h=>hd (Nat.mod_eq_zero_of_dvd h))),(by omega),(by omega),rfl⟩
 ·have hle:=le_f hb10
  refine sx_exit (sx_then_exit (sx_then_exit (sx_hit (sx_next (sx_seq (sx_region (xr 4 [(2, .v (.int .i64 ((r:Nat):Int))),(3, .v (.int .i64 ((m:Nat):Int)))] [] ?_)))))))
  refine xe (sx_next (sx_ret ?_))
  refine sx_done (v:=.tuple #[.int .i64 ((r:Nat):Int), .int .i64 ((m:Nat):Int)]) (by kernel_rfl) (fun w' hE hΦ=>?_)
  obtain ⟨rfl,rfl⟩:=SqF.eq ⟨hmul,hS.pos,hF.free hm0 hle⟩ hS
  exact ⟨rfl,hE⟩
theorem squareFactor_int (d:Int) (R M:Nat) (w:World) (h0:0 < d) (h1:d≤1000000) (hS:SqF d.toNat R M):Calls Tryz.prog 95 #[.int .i64 d] w (RetV w (.tuple #[.int .i64 ((R:Nat):Int), .int .i64 ((M:Nat):Int)])):=by
 obtain ⟨n,rfl⟩:=Int.eq_ofNat_of_zero_le (show 0≤d by omega)
 exact squareFactor_any n R M w (by omega) hS
set_option maxRecDepth 100000 in
theorem SRead_any (a b:ByteArray) (d:Int) (w:World) (hg:Glob w) (L:(bytes a).length≤570∧(bytes b).length≤570) :
 Calls Tryz.prog 102 #[.agg #[.string a, .string b, .int .i64 d]] w (RetRd w (rdS (bytes a) (bytes b) d)):=by
 refine sx_enter (Φ:=fun w=>Glob w) Tryz.func102 rfl (by kernel_rfl) (fun w' hf=>hg.ext hf) ?_
 refine sx_seq (sx_region (xr 3 [(1, .p 1 0),(2, .p 2 0),(3, .v (.bool false))] [bV9 2 120 false none 0 0 false none 0 0 false none 0 0 false none 0 0 0,bS3 1 23 a b d] ?_))
 refine xe (sx_next (sx_seq (sx_region (xr 2 [(1, .p 1 0),(2, .p 2 0),(3, .v (.bool false)),(12, .v (.string a))] [bV9 2 120 false none 0 0 false none 0 0 false none 0 0 false none 0 0 0,bS3 1 23 a b d] ?_))))
 rcases opt_two (readF (bytes a)) with ha | ⟨qa,ha⟩
 ·refine xc 92 [.string a] 13 (fun x:ShQ=>.tuple #[shRat x, .bool false]) _ (fun w hE hΦ=>(Read_any a _ hΦ (ReadOk.of_len (by omega))).mono (fun _ _ h=>post_Read_none h ha)) (fun xx=>?_)
  obtain ⟨s10,A10,l10,c10,t10,B10,m10,d10⟩:=xx
  refine xr 6 [(1, .p 1 0),(2, .p 2 0),(3, .v (.bool false)),(4, .p 4 0),(5, .v (.bool false))] [bR4 4 116 s10 A10 l10 c10 t10 B10 m10 d10,bV9 2 120 false none 0 0 false none 0 0 false none 0 0 false none 0 0 0,bS3 1 23 a b d] ?_
  refine xe (sx_next (sx_seq (sx_region (xr 2 [(1, .p 1 0),(2, .p 2 0),(3, .v (.bool false)),(4, .p 4 0),(5, .v (.bool false)),(18, .v (.string b))] [bR4 4 116 s10 A10 l10 c10 t10 B10 m10 d10,bV9 2 120 false none 0 0 false none 0 0 false none 0 0 false none 0 0 0,bS3 1 23 a b d] ?_))))
  refine xc 92 [.string b] 19 (fun u0:Bool × ShQ=>.tuple #[shRat u0.2, .bool u0.1]) _ (fun w hE hΦ=>(Read_any b _ hΦ.1 (ReadOk.of_len (by omega))).mono (fun _ _ h=>post_Read_gen h)) (fun xx=>?_)
  obtain ⟨b12,s11,A11,l11,c11,t11,B11,m11,d11⟩:=xx
  refine xr 6 [(1, .p 1 0),(2, .p 2 0),(3, .v (.bool false)),(4, .p 4 0),(5, .v (.bool false)),(6, .p 6 0),(7, .v (.bool b12))] [bR4 6 116 s11 A11 l11 c11 t11 B11 m11 d11,bR4 4 116 s10 A10 l10 c10 t10 B10 m10 d10,bV9 2 120 false none 0 0 false none 0 0 false none 0 0 false none 0 0 0,bS3 1 23 a b d] ?_
  refine xe (sx_next (sx_seq (sx_seq (sx_region (xr 6 [(1, .p 1 0),(2, .p 2 0),(3, .v (.bool false)),(4, .p 4 0),(6, .p 6 0),(27, .v (.bool true))] [bR4 6 116 s11 A11 l11 c11 t11 B11 m11 d11,bR4 4 116 s10 A10 l10 c10 t10 B10 m10 d10,bV9 2 120 false none 0 0 false none 0 0 false none 0 0 false none 0 0 0,bS3 1 23 a b d] ?_)))))
  refine xe (sx_next (xa (sx_seq (sx_region (xr 3 [(1, .p 1 0),(2, .p 2 0),(3, .v (.bool false)),(4, .p 4 0),(6, .p 6 0)] [bR4 6 116 s11 A11 l11 c11 t11 B11 m11 d11,bR4 4 116 s10 A10 l10 c10 t10 B10 m10 d10,bV9 2 120 false none 0 0 false none 0 0 false none 0 0 false none 0 0 0,bS3 1 23 a b d] ?_)))))
  refine xe (sx_next (sx_ret (sx_then_ret ?_)))
  refine sx_done (v:=.tuple #[.agg #[.bool false, .slice none 0 0, .bool false, .slice none 0 0, .bool false, .slice none 0 0, .bool false, .slice none 0 0, .int .i64 0], .bool false]) (by kernel_rfl) (fun w' hE hΦ=>?_)
  exact ⟨_,_,_,rfl,(SdIs.of (RatIs.nil _) (RatIs.nil _)),hE,Or.inr ⟨rfl,rdS_no1 ha⟩⟩
 ·refine xc 92 [.string a] 13 (fun x:ShQ=>.tuple #[shRat x, .bool true]) _ (fun w hE hΦ=>(Read_any a _ hΦ (ReadOk.of_len (by omega))).mono (fun _ _ h=>post_Read_some h ha)) (fun xx=>?_)
  obtain ⟨s13,A13,l13,c13,t13,B13,m13,d13⟩:=xx
  refine xr 6 [(1, .p 1 0),(2, .p 2 0),(3, .v (.bool false)),(4, .p 4 0),(5, .v (.bool true))] [bR4 4 116 s13 A13 l13 c13 t13 B13 m13 d13,bV9 2 120 false none 0 0 false none 0 0 false none 0 0 false none 0 0 0,bS3 1 23 a b d] ?_
  refine xe (sx_next (sx_seq (sx_region (xr 2 [(1, .p 1 0),(2, .p 2 0),(3, .v (.bool false)),(4, .p 4 0),(5, .v (.bool true)),(18, .v (.string b))] [bR4 4 116 s13 A13 l13 c13 t13 B13 m13 d13,bV9 2 120 false none 0 0 false none 0 0 false none 0 0 false none 0 0 0,bS3 1 23 a b d] ?_))))
  rcases opt_two (readF (bytes b)) with hb | ⟨qb,hb⟩
  ·refine xc 92 [.string b] 19 (fun x:ShQ=>.tuple #[shRat x, .bool false]) _ (fun w hE hΦ=>(Read_any b _ hΦ.1 (ReadOk.of_len (by omega))).mono (fun _ _ h=>post_Read_none h hb)) (fun xx=>?_)
   obtain ⟨s14,A14,l14,c14,t14,B14,m14,d14⟩:=xx
   refine xr 6 [(1, .p 1 0),(2, .p 2 0),(3, .v (.bool false)),(4, .p 4 0),(5, .v (.bool true)),(6, .p 6 0),(7, .v (.bool false))] [bR4 6 116 s14 A14 l14 c14 t14 B14 m14 d14,bR4 4 116 s13 A13 l13 c13 t13 B13 m13 d13,bV9 2 120 false none 0 0 false none 0 0 false none 0 0 false none 0 0 0,bS3 1 23 a b d] ?_
   refine xe (sx_next (sx_seq (sx_seq (sx_region (xr 6 [(1, .p 1 0),(2, .p 2 0),(3, .v (.bool false)),(4, .p 4 0),(6, .p 6 0),(27, .v (.bool true))] [bR4 6 116 s14 A14 l14 c14 t14 B14 m14 d14,bR4 4 116 s13 A13 l13 c13 t13 B13 m13 d13,bV9 2 120 false none 0 0 false none 0 0 false none 0 0 false none 0 0 0,bS3 1 23 a b d] ?_)))))
   refine xe (sx_next (xa (sx_seq (sx_region (xr 3 [(1, .p 1 0),(2, .p 2 0),(3, .v (.bool false)),(4, .p 4 0),(6, .p 6 0)] [bR4 6 116 s14 A14 l14 c14 t14 B14 m14 d14,bR4 4 116 s13 A13 l13 c13 t13 B13 m13 d13,bV9 2 120 false none 0 0 false none 0 0 false none 0 0 false none 0 0 0,bS3 1 23 a b d] ?_)))))
   refine xe (sx_next (sx_ret (sx_then_ret ?_)))
   refine sx_done (v:=.tuple #[.agg #[.bool false, .slice none 0 0, .bool false, .slice none 0 0, .bool false, .slice none 0 0, .bool false, .slice none 0 0, .int .i64 0], .bool false]) (by kernel_rfl) (fun w' hE hΦ=>?_)
   exact ⟨_,_,_,rfl,(SdIs.of (RatIs.nil _) (RatIs.nil _)),hE,Or.inr ⟨rfl,rdS_no2 hb⟩⟩
  ·refine xc 92 [.string b] 19 (fun x:ShQ=>.tuple #[shRat x, .bool true]) _ (fun w hE hΦ=>(Read_any b _ hΦ.1 (ReadOk.of_len (by omega))).mono (fun _ _ h=>post_Read_some h hb)) (fun xx=>?_)
   obtain ⟨s15,A15,l15,c15,t15,B15,m15,d15⟩:=xx
   refine xr 6 [(1, .p 1 0),(2, .p 2 0),(3, .v (.bool false)),(4, .p 4 0),(5, .v (.bool true)),(6, .p 6 0),(7, .v (.bool true))] [bR4 6 116 s15 A15 l15 c15 t15 B15 m15 d15,bR4 4 116 s13 A13 l13 c13 t13 B13 m13 d13,bV9 2 120 false none 0 0 false none 0 0 false none 0 0 false none 0 0 0,bS3 1 23 a b d] ?_
   refine xe (sx_next (sx_seq (sx_seq (sx_region (xr 6 [(1, .p 1 0),(2, .p 2 0),(3, .v (.bool false)),(4, .p 4 0),(6, .p 6 0),(27, .v (.bool false))] [bR4 6 116 s15 A15 l15 c15 t15 B15 m15 d15,bR4 4 116 s13 A13 l13 c13 t13 B13 m13 d13,bV9 2 120 false none 0 0 false none 0 0 false none 0 0 false none 0 0 0,bS3 1 23 a b d] ?_)))))
   refine xe (sx_next (xb (sx_skip (sx_next (sx_seq (sx_seq (sx_region (xr 3 [(1, .p 1 0),(2, .p 2 0),(3, .v (.bool false)),(4, .p 4 0),(6, .p 6 0),(31, .v (.bool ((d:Int) == 1)))] [bR4 6 116 s15 A15 l15 c15 t15 B15 m15 d15,bR4 4 116 s13 A13 l13 c13 t13 B13 m13 d13,bV9 2 120 false none 0 0 false none 0 0 false none 0 0 false none 0 0 0,bS3 1 23 a b d] ?_))))))))
   refine xe (sx_next ?_)
   refine sx_cond (((d:Int) == 1)) (by kernel_rfl) (fun hb16=>?_) (fun hb16=>?_)
   ·refine sx_seq ?_
    refine sx_draw 6 (by kernel_rfl) (by kernel_rfl) follows_mixed' ?_
    refine xf 1 [(1, .p 1 0),(2, .p 2 0),(3, .v (.bool false)),(4, .p 4 0),(6, .p 6 0),eR4 32 s13 A13 l13 c13 t13 B13 m13 d13] [bR4 6 116 s15 A15 l15 c15 t15 B15 m15 d15,bR4 4 116 s13 A13 l13 c13 t13 B13 m13 d13,bV9 2 120 false none 0 0 false none 0 0 false none 0 0 false none 0 0 0,bS3 1 23 a b d] ?_
    refine xd 93 [vR4 s13 A13 l13 c13 t13 B13 m13 d13] 33 (shSd 1) _ (fun w hE hΦ=>(SRat_any _ qa _ hΦ.1.2).mono (fun _ _ h=>post_Sd h)) (fun xx=>?_)
    obtain ⟨⟨s17,A17,l17,c17,t17,B17,m17,d17⟩,⟨s18,A18,l18,c18,t18,B18,m18,d18⟩⟩:=xx
    refine xf 1 [(1, .p 1 0),(2, .p 2 0),(3, .v (.bool false)),(4, .p 4 0),(6, .p 6 0),eV9 33 s17 A17 l17 c17 t17 B17 m17 d17 s18 A18 l18 c18 t18 B18 m18 d18 1,eR4 34 s15 A15 l15 c15 t15 B15 m15 d15] [bR4 6 116 s15 A15 l15 c15 t15 B15 m15 d15,bR4 4 116 s13 A13 l13 c13 t13 B13 m13 d13,bV9 2 120 false none 0 0 false none 0 0 false none 0 0 false none 0 0 0,bS3 1 23 a b d] ?_
    by_cases hzqb:qb.num=0
    ·refine xd 192 [vR4 s15 A15 l15 c15 t15 B15 m15 d15] 35 (fun _:Unit=>.bool true) _ (fun w hE hΦ=>(QIsZero_any _ qb _ hΦ.1.2).mono (fun _ _ h=>post_val h (by rw [decide_eq_true hzqb]))) (fun xx=>?_)
     refine xf 2 [(1, .p 1 0),(2, .p 2 0),(3, .v (.bool true)),(4, .p 4 0),(6, .p 6 0)] [bV9 2 120 s17 A17 l17 c17 t17 B17 m17 d17 s18 A18 l18 c18 t18 B18 m18 d18 1,bR4 6 116 s15 A15 l15 c15 t15 B15 m15 d15,bR4 4 116 s13 A13 l13 c13 t13 B13 m13 d13,bV9 2 120 false none 0 0 false none 0 0 false none 0 0 false none 0 0 0,bS3 1 23 a b d] ?_
     refine xz (xe (sx_next (sx_ret (sx_then_ret ?_))))
     refine sx_done (v:=.tuple #[.agg #[.bool s17, .slice A17 l17 c17, .bool t17, .slice B17 m17 d17, .bool s18, .slice A18 l18 c18, .bool t18, .slice B18 m18 d18, .int .i64 1], .bool true]) (by kernel_rfl) (fun w' hE hΦ=>?_)
     exact ⟨_,_,_,rfl,(SdIs.of hΦ.1.2.1 hΦ.1.2.2),hE,Or.inl ⟨rfl,rd_one ha hb hb16 hzqb⟩⟩
    ·refine xd 192 [vR4 s15 A15 l15 c15 t15 B15 m15 d15] 35 (fun _:Unit=>.bool false) _ (fun w hE hΦ=>(QIsZero_any _ qb _ hΦ.1.2).mono (fun _ _ h=>post_val h (by rw [decide_eq_false hzqb]))) (fun xx=>?_)
     refine xf 2 [(1, .p 1 0),(2, .p 2 0),(3, .v (.bool false)),(4, .p 4 0),(6, .p 6 0)] [bV9 2 120 s17 A17 l17 c17 t17 B17 m17 d17 s18 A18 l18 c18 t18 B18 m18 d18 1,bR4 6 116 s15 A15 l15 c15 t15 B15 m15 d15,bR4 4 116 s13 A13 l13 c13 t13 B13 m13 d13,bV9 2 120 false none 0 0 false none 0 0 false none 0 0 false none 0 0 0,bS3 1 23 a b d] ?_
     refine xz (xe (sx_next (sx_ret (sx_then_ret ?_))))
     refine sx_done (v:=.tuple #[.agg #[.bool s17, .slice A17 l17 c17, .bool t17, .slice B17 m17 d17, .bool s18, .slice A18 l18 c18, .bool t18, .slice B18 m18 d18, .int .i64 1], .bool false]) (by kernel_rfl) (fun w' hE hΦ=>?_)
     exact ⟨_,_,_,rfl,(SdIs.of hΦ.1.2.1 hΦ.1.2.2),hE,Or.inr ⟨rfl,rd_one_no ha hb hb16 hzqb⟩⟩
   ·refine sx_skip (sx_next (sx_seq (sx_seq (sx_region (xr 4 [(1, .p 1 0),(2, .p 2 0),(3, .v (.bool false)),(4, .p 4 0),(6, .p 6 0),(39, .v (.bool (decide (d < 2))))] [bR4 6 116 s15 A15 l15 c15 t15 B15 m15 d15,bR4 4 116 s13 A13 l13 c13 t13 B13 m13 d13,bV9 2 120 false none 0 0 false none 0 0 false none 0 0 false none 0 0 0,bS3 1 23 a b d] ?_)))))
    rcases bool2 ((decide (d < 2))) with hb19 | hb19
    ·rw [hb19]
     have thb19:=of_decide_eq_true hb19
     refine xr 8 [(1, .p 1 0),(2, .p 2 0),(3, .v (.bool false)),(4, .p 4 0),(6, .p 6 0),(47, .v (.bool true))] [bR4 6 116 s15 A15 l15 c15 t15 B15 m15 d15,bR4 4 116 s13 A13 l13 c13 t13 B13 m13 d13,bV9 2 120 false none 0 0 false none 0 0 false none 0 0 false none 0 0 0,bS3 1 23 a b d] ?_
     refine xe (sx_next (xa (sx_seq (sx_region (xr 3 [(1, .p 1 0),(2, .p 2 0),(3, .v (.bool false)),(4, .p 4 0),(6, .p 6 0)] [bR4 6 116 s15 A15 l15 c15 t15 B15 m15 d15,bR4 4 116 s13 A13 l13 c13 t13 B13 m13 d13,bV9 2 120 false none 0 0 false none 0 0 false none 0 0 false none 0 0 0,bS3 1 23 a b d] ?_)))))
     refine xe (sx_next (sx_ret (sx_then_ret ?_)))
     refine sx_done (v:=.tuple #[.agg #[.bool false, .slice none 0 0, .bool false, .slice none 0 0, .bool false, .slice none 0 0, .bool false, .slice none 0 0, .int .i64 0], .bool false]) (by kernel_rfl) (fun w' hE hΦ=>?_)
     exact ⟨_,_,_,rfl,(SdIs.of (RatIs.nil _) (RatIs.nil _)),hE,Or.inr ⟨rfl,rd_out ha hb hb16 (by omega)⟩⟩
    ·rw [hb19]
     have thb19:=of_decide_eq_false hb19
     refine xr 5 [(1, .p 1 0),(2, .p 2 0),(3, .v (.bool false)),(4, .p 4 0),(6, .p 6 0),(44, .v (.bool (decide (d > 1000000))))] [bR4 6 116 s15 A15 l15 c15 t15 B15 m15 d15,bR4 4 116 s13 A13 l13 c13 t13 B13 m13 d13,bV9 2 120 false none 0 0 false none 0 0 false none 0 0 false none 0 0 0,bS3 1 23 a b d] ?_
     rcases bool2 ((decide (d > 1000000))) with hb20 | hb20
     ·rw [hb20]
      have thb20:=of_decide_eq_true hb20
      refine xr 3 [(1, .p 1 0),(2, .p 2 0),(3, .v (.bool false)),(4, .p 4 0),(6, .p 6 0),(47, .v (.bool true))] [bR4 6 116 s15 A15 l15 c15 t15 B15 m15 d15,bR4 4 116 s13 A13 l13 c13 t13 B13 m13 d13,bV9 2 120 false none 0 0 false none 0 0 false none 0 0 false none 0 0 0,bS3 1 23 a b d] ?_
      refine xe (sx_next (xa (sx_seq (sx_region (xr 3 [(1, .p 1 0),(2, .p 2 0),(3, .v (.bool false)),(4, .p 4 0),(6, .p 6 0)] [bR4 6 116 s15 A15 l15 c15 t15 B15 m15 d15,bR4 4 116 s13 A13 l13 c13 t13 B13 m13 d13,bV9 2 120 false none 0 0 false none 0 0 false none 0 0 false none 0 0 0,bS3 1 23 a b d] ?_)))))
      refine xe (sx_next (sx_ret (sx_then_ret ?_)))
      refine sx_done (v:=.tuple #[.agg #[.bool false, .slice none 0 0, .bool false, .slice none 0 0, .bool false, .slice none 0 0, .bool false, .slice none 0 0, .int .i64 0], .bool false]) (by kernel_rfl) (fun w' hE hΦ=>?_)
      exact ⟨_,_,_,rfl,(SdIs.of (RatIs.nil _) (RatIs.nil _)),hE,Or.inr ⟨rfl,rd_out ha hb hb16 (by omega)⟩⟩
     ·rw [hb20]
      have thb20:=of_decide_eq_false hb20
      refine xr 1 [(1, .p 1 0),(2, .p 2 0),(3, .v (.bool false)),(4, .p 4 0),(6, .p 6 0),(44, .v (.bool false)),eR4 45 s15 A15 l15 c15 t15 B15 m15 d15] [bR4 6 116 s15 A15 l15 c15 t15 B15 m15 d15,bR4 4 116 s13 A13 l13 c13 t13 B13 m13 d13,bV9 2 120 false none 0 0 false none 0 0 false none 0 0 false none 0 0 0,bS3 1 23 a b d] ?_
      by_cases hzqb:qb.num=0
      ·refine xc 192 [vR4 s15 A15 l15 c15 t15 B15 m15 d15] 46 (fun _:Unit=>.bool true) _ (fun w hE hΦ=>(QIsZero_any _ qb _ hΦ.2).mono (fun _ _ h=>post_val h (by rw [decide_eq_true hzqb]))) (fun xx=>?_)
       refine xr 1 [(1, .p 1 0),(2, .p 2 0),(3, .v (.bool false)),(4, .p 4 0),(6, .p 6 0),(47, .v (.bool true))] [bR4 6 116 s15 A15 l15 c15 t15 B15 m15 d15,bR4 4 116 s13 A13 l13 c13 t13 B13 m13 d13,bV9 2 120 false none 0 0 false none 0 0 false none 0 0 false none 0 0 0,bS3 1 23 a b d] ?_
       refine xe (sx_next (xa (sx_seq (sx_region (xr 3 [(1, .p 1 0),(2, .p 2 0),(3, .v (.bool false)),(4, .p 4 0),(6, .p 6 0)] [bR4 6 116 s15 A15 l15 c15 t15 B15 m15 d15,bR4 4 116 s13 A13 l13 c13 t13 B13 m13 d13,bV9 2 120 false none 0 0 false none 0 0 false none 0 0 false none 0 0 0,bS3 1 23 a b d] ?_)))))
       refine xe (sx_next (sx_ret (sx_then_ret ?_)))
       refine sx_done (v:=.tuple #[.agg #[.bool false, .slice none 0 0, .bool false, .slice none 0 0, .bool false, .slice none 0 0, .bool false, .slice none 0 0, .int .i64 0], .bool false]) (by kernel_rfl) (fun w' hE hΦ=>?_)
       exact ⟨_,_,_,rfl,(SdIs.of (RatIs.nil _) (RatIs.nil _)),hE,Or.inr ⟨rfl,rd_out ha hb hb16 (Or.inr (Or.inr (Or.inl hzqb)))⟩⟩
      ·refine xc 192 [vR4 s15 A15 l15 c15 t15 B15 m15 d15] 46 (fun _:Unit=>.bool false) _ (fun w hE hΦ=>(QIsZero_any _ qb _ hΦ.2).mono (fun _ _ h=>post_val h (by rw [decide_eq_false hzqb]))) (fun xx=>?_)
       refine xr 1 [(1, .p 1 0),(2, .p 2 0),(3, .v (.bool false)),(4, .p 4 0),(6, .p 6 0),(47, .v (.bool false))] [bR4 6 116 s15 A15 l15 c15 t15 B15 m15 d15,bR4 4 116 s13 A13 l13 c13 t13 B13 m13 d13,bV9 2 120 false none 0 0 false none 0 0 false none 0 0 false none 0 0 0,bS3 1 23 a b d] ?_
       refine xe (sx_next (xb (sx_skip (sx_next (sx_seq (sx_seq (sx_region (xr 2 [(1, .p 1 0),(2, .p 2 0),(3, .v (.bool false)),(4, .p 4 0),(6, .p 6 0),(51, .v (.int .i64 d))] [bR4 6 116 s15 A15 l15 c15 t15 B15 m15 d15,bR4 4 116 s13 A13 l13 c13 t13 B13 m13 d13,bV9 2 120 false none 0 0 false none 0 0 false none 0 0 false none 0 0 0,bS3 1 23 a b d] ?_))))))))
       obtain ⟨R,M,hS⟩:=sqf_exists _ (d).toNat (Nat.le_refl _) (by omega)
       refine xc 95 [.int .i64 d] 52 (fun _:Unit=>.tuple #[.int .i64 ((R:Nat):Int), .int .i64 ((M:Nat):Int)]) _ (fun w hE hΦ=>(squareFactor_int d R M _ (by omega) (by omega) hS).mono (fun _ _ h=>post_val h rfl)) (fun xx=>?_)
       refine xr 5 [(1, .p 1 0),(2, .p 2 0),(3, .v (.bool false)),(4, .p 4 0),(6, .p 6 0),(8, .v (.int .i64 ((R:Nat):Int)))] [bR4 6 116 s15 A15 l15 c15 t15 B15 m15 d15,bR4 4 116 s13 A13 l13 c13 t13 B13 m13 d13,bV9 2 120 false none 0 0 false none 0 0 false none 0 0 false none 0 0 0,bS3 1 23 a b d] ?_
       refine xe (sx_next (sx_seq (sx_region (xr 2 [(1, .p 1 0),(2, .p 2 0),(3, .v (.bool false)),(4, .p 4 0),(6, .p 6 0),(56, .v (.bool ((((R:Nat):Int):Int) != 1)))] [bR4 6 116 s15 A15 l15 c15 t15 B15 m15 d15,bR4 4 116 s13 A13 l13 c13 t13 B13 m13 d13,bV9 2 120 false none 0 0 false none 0 0 false none 0 0 false none 0 0 0,bS3 1 23 a b d] ?_))))
       refine xe (sx_next ?_)
       refine sx_cond (((((R:Nat):Int):Int) != 1)) (by kernel_rfl) (fun hb21=>?_) (fun hb21=>?_)
       ·refine sx_seq (sx_region (xr 3 [(1, .p 1 0),(2, .p 2 0),(3, .v (.bool false)),(4, .p 4 0),(6, .p 6 0)] [bR4 6 116 s15 A15 l15 c15 t15 B15 m15 d15,bR4 4 116 s13 A13 l13 c13 t13 B13 m13 d13,bV9 2 120 false none 0 0 false none 0 0 false none 0 0 false none 0 0 0,bS3 1 23 a b d] ?_))
        refine xe (sx_next (sx_ret (sx_then_ret ?_)))
        refine sx_done (v:=.tuple #[.agg #[.bool false, .slice none 0 0, .bool false, .slice none 0 0, .bool false, .slice none 0 0, .bool false, .slice none 0 0, .int .i64 0], .bool false]) (by kernel_rfl) (fun w' hE hΦ=>?_)
        exact ⟨_,_,_,rfl,(SdIs.of (RatIs.nil _) (RatIs.nil _)),hE,Or.inr ⟨rfl,rd_out ha hb hb16 (Or.inr (Or.inr (Or.inr (ne1_t hS hb21))))⟩⟩
       ·refine sx_skip (sx_next (sx_seq (sx_region (xr 7 [(2, .p 2 0),(3, .v (.bool true))] [bV9 2 120 s13 A13 l13 c13 t13 B13 m13 d13 s15 A15 l15 c15 t15 B15 m15 d15 d] ?_))))
        refine xe (sx_next (sx_ret ?_))
        refine sx_done (v:=.tuple #[.agg #[.bool s13, .slice A13 l13 c13, .bool t13, .slice B13 m13 d13, .bool s15, .slice A15 l15 c15, .bool t15, .slice B15 m15 d15, .int .i64 d], .bool true]) (by kernel_rfl) (fun w' hE hΦ=>?_)
        exact ⟨_,_,_,rfl,(SdIs.of hΦ.1.1.1.2 hΦ.1.1.2),hE,Or.inl ⟨rfl,rd_in ha hb (by omega) (by omega) hzqb (ne1_f hS hb21)⟩⟩
set_option maxRecDepth 100000 in
theorem SReadTwo_any (a b a' b':ByteArray) (d d':Int) (w:World) (hg:Glob w) (L:(bytes a).length≤570∧(bytes b).length≤570) (L':(bytes a').length≤570∧(bytes b').length≤570) :
 Calls Tryz.prog 115 #[.agg #[.string a, .string b, .int .i64 d], .agg #[.string a', .string b', .int .i64 d']] w (RetRd2 w (rdS (bytes a) (bytes b) d) (rdS (bytes a') (bytes b') d')):=by
 refine sx_enter (Φ:=fun w=>Glob w) Tryz.func115 rfl (by kernel_rfl) (fun w' hf=>hg.ext hf) ?_
 refine sx_seq (sx_region (xr 5 [(2, .p 2 0),(3, .p 3 0),(4, .p 4 0),(5, .p 5 0),(6, .v (.int .i64 0))] [bV9 5 120 false none 0 0 false none 0 0 false none 0 0 false none 0 0 0,bV9 4 120 false none 0 0 false none 0 0 false none 0 0 false none 0 0 0,bS3 3 23 a' b' d',bS3 2 23 a b d] ?_))
 refine xe (sx_next (sx_seq (sx_region (xr 1 [(3, .p 3 0),(4, .p 4 0),(5, .p 5 0),(6, .v (.int .i64 0)),eS3 12 a b d] [bV9 5 120 false none 0 0 false none 0 0 false none 0 0 false none 0 0 0,bV9 4 120 false none 0 0 false none 0 0 false none 0 0 false none 0 0 0,bS3 3 23 a' b' d'] ?_))))
 rcases opt_two (rdS (bytes a) (bytes b) d) with hx | ⟨x,hx⟩
 ·refine xc 102 [vS3 a b d] 13 (fun u0:Int × ShS=>.tuple #[shSd u0.1 u0.2, .bool false]) _ (fun w hE hΦ=>(SRead_any a b d _ hΦ L).mono (fun _ _ h=>post_Rd_none h hx)) (fun xx=>?_)
  obtain ⟨d12d,⟨s10,A10,l10,c10,t10,B10,m10,d10⟩,⟨s11,A11,l11,c11,t11,B11,m11,d11⟩⟩:=xx
  refine xr 6 [(3, .p 3 0),(4, .p 4 0),(5, .p 5 0),(6, .v (.int .i64 0)),(7, .p 7 0),(8, .v (.bool false))] [bV9 7 120 s10 A10 l10 c10 t10 B10 m10 d10 s11 A11 l11 c11 t11 B11 m11 d11 d12d,bV9 5 120 false none 0 0 false none 0 0 false none 0 0 false none 0 0 0,bV9 4 120 false none 0 0 false none 0 0 false none 0 0 false none 0 0 0,bS3 3 23 a' b' d'] ?_
  refine xe (sx_next (sx_seq (sx_region (xr 1 [(4, .p 4 0),(5, .p 5 0),(6, .v (.int .i64 0)),(7, .p 7 0),(8, .v (.bool false)),eS3 17 a' b' d'] [bV9 7 120 s10 A10 l10 c10 t10 B10 m10 d10 s11 A11 l11 c11 t11 B11 m11 d11 d12d,bV9 5 120 false none 0 0 false none 0 0 false none 0 0 false none 0 0 0,bV9 4 120 false none 0 0 false none 0 0 false none 0 0 false none 0 0 0] ?_))))
  refine xc 102 [vS3 a' b' d'] 18 (fun u0:Bool × Int × ShS=>.tuple #[shSd u0.2.1 u0.2.2, .bool u0.1]) _ (fun w hE hΦ=>(SRead_any a' b' d' _ hΦ.1 L').mono (fun _ _ h=>post_Rd_gen h)) (fun xx=>?_)
  obtain ⟨b15,d15d,⟨s13,A13,l13,c13,t13,B13,m13,d13⟩,⟨s14,A14,l14,c14,t14,B14,m14,d14⟩⟩:=xx
  refine xr 6 [(4, .p 4 0),(5, .p 5 0),(6, .v (.int .i64 0)),(7, .p 7 0),(8, .v (.bool false)),(9, .p 9 0),(10, .v (.bool b15))] [bV9 9 120 s13 A13 l13 c13 t13 B13 m13 d13 s14 A14 l14 c14 t14 B14 m14 d14 d15d,bV9 7 120 s10 A10 l10 c10 t10 B10 m10 d10 s11 A11 l11 c11 t11 B11 m11 d11 d12d,bV9 5 120 false none 0 0 false none 0 0 false none 0 0 false none 0 0 0,bV9 4 120 false none 0 0 false none 0 0 false none 0 0 false none 0 0 0] ?_
  refine xe (sx_next (sx_seq (sx_block (sx_seq (sx_region (xr 7 [(4, .p 4 0),(5, .p 5 0),(6, .v (.int .i64 0)),(7, .p 7 0),(9, .p 9 0),(21, .v (.bool true))] [bV9 9 120 s13 A13 l13 c13 t13 B13 m13 d13 s14 A14 l14 c14 t14 B14 m14 d14 d15d,bV9 7 120 s10 A10 l10 c10 t10 B10 m10 d10 s11 A11 l11 c11 t11 B11 m11 d11 d12d,bV9 5 120 false none 0 0 false none 0 0 false none 0 0 false none 0 0 0,bV9 4 120 false none 0 0 false none 0 0 false none 0 0 false none 0 0 0] ?_))))))
  refine xe (sx_next (xa (sx_seq (sx_region (xr 5 [(4, .p 4 0),(5, .p 5 0),(6, .v (.int .i64 1)),(7, .p 7 0),(9, .p 9 0)] [bV9 9 120 s13 A13 l13 c13 t13 B13 m13 d13 s14 A14 l14 c14 t14 B14 m14 d14 d15d,bV9 7 120 s10 A10 l10 c10 t10 B10 m10 d10 s11 A11 l11 c11 t11 B11 m11 d11 d12d,bV9 5 120 false none 0 0 false none 0 0 false none 0 0 false none 0 0 0,bV9 4 120 false none 0 0 false none 0 0 false none 0 0 false none 0 0 0] ?_)))))
  refine xe (sx_next (sx_ret (sx_in_ret (sx_then_ret ?_))))
  refine sx_done (v:=.tuple #[.agg #[.bool false, .slice none 0 0, .bool false, .slice none 0 0, .bool false, .slice none 0 0, .bool false, .slice none 0 0, .int .i64 0], .agg #[.bool false, .slice none 0 0, .bool false, .slice none 0 0, .bool false, .slice none 0 0, .bool false, .slice none 0 0, .int .i64 0], .int .i64 1]) (by kernel_rfl) (fun w' hE hΦ=>?_)
  exact Or.inl ⟨Or.inl hx,rfl,hE⟩
 ·refine xc 102 [vS3 a b d] 13 (fun u0:ShS=>.tuple #[shSd x.d u0, .bool true]) _ (fun w hE hΦ=>(SRead_any a b d _ hΦ L).mono (fun _ _ h=>post_Rd_some h hx)) (fun xx=>?_)
  obtain ⟨⟨s16,A16,l16,c16,t16,B16,m16,d16⟩,⟨s17,A17,l17,c17,t17,B17,m17,d17⟩⟩:=xx
  refine xr 6 [(3, .p 3 0),(4, .p 4 0),(5, .p 5 0),(6, .v (.int .i64 0)),(7, .p 7 0),(8, .v (.bool true))] [bV9 7 120 s16 A16 l16 c16 t16 B16 m16 d16 s17 A17 l17 c17 t17 B17 m17 d17 x.d,bV9 5 120 false none 0 0 false none 0 0 false none 0 0 false none 0 0 0,bV9 4 120 false none 0 0 false none 0 0 false none 0 0 false none 0 0 0,bS3 3 23 a' b' d'] ?_
  refine xe (sx_next (sx_seq (sx_region (xr 1 [(4, .p 4 0),(5, .p 5 0),(6, .v (.int .i64 0)),(7, .p 7 0),(8, .v (.bool true)),eS3 17 a' b' d'] [bV9 7 120 s16 A16 l16 c16 t16 B16 m16 d16 s17 A17 l17 c17 t17 B17 m17 d17 x.d,bV9 5 120 false none 0 0 false none 0 0 false none 0 0 false none 0 0 0,bV9 4 120 false none 0 0 false none 0 0 false none 0 0 false none 0 0 0] ?_))))
  rcases opt_two (rdS (bytes a') (bytes b') d') with hy | ⟨y,hy⟩
  ·refine xc 102 [vS3 a' b' d'] 18 (fun u0:Int × ShS=>.tuple #[shSd u0.1 u0.2, .bool false]) _ (fun w hE hΦ=>(SRead_any a' b' d' _ hΦ.1 L').mono (fun _ _ h=>post_Rd_none h hy)) (fun xx=>?_)
   obtain ⟨d20d,⟨s18,A18,l18,c18,t18,B18,m18,d18⟩,⟨s19,A19,l19,c19,t19,B19,m19,d19⟩⟩:=xx
   refine xr 6 [(4, .p 4 0),(5, .p 5 0),(6, .v (.int .i64 0)),(7, .p 7 0),(8, .v (.bool true)),(9, .p 9 0),(10, .v (.bool false))] [bV9 9 120 s18 A18 l18 c18 t18 B18 m18 d18 s19 A19 l19 c19 t19 B19 m19 d19 d20d,bV9 7 120 s16 A16 l16 c16 t16 B16 m16 d16 s17 A17 l17 c17 t17 B17 m17 d17 x.d,bV9 5 120 false none 0 0 false none 0 0 false none 0 0 false none 0 0 0,bV9 4 120 false none 0 0 false none 0 0 false none 0 0 false none 0 0 0] ?_
   refine xe (sx_next (sx_seq (sx_block (sx_seq (sx_region (xr 7 [(4, .p 4 0),(5, .p 5 0),(6, .v (.int .i64 0)),(7, .p 7 0),(9, .p 9 0),(21, .v (.bool true))] [bV9 9 120 s18 A18 l18 c18 t18 B18 m18 d18 s19 A19 l19 c19 t19 B19 m19 d19 d20d,bV9 7 120 s16 A16 l16 c16 t16 B16 m16 d16 s17 A17 l17 c17 t17 B17 m17 d17 x.d,bV9 5 120 false none 0 0 false none 0 0 false none 0 0 false none 0 0 0,bV9 4 120 false none 0 0 false none 0 0 false none 0 0 false none 0 0 0] ?_))))))
   refine xe (sx_next (xa (sx_seq (sx_region (xr 5 [(4, .p 4 0),(5, .p 5 0),(6, .v (.int .i64 1)),(7, .p 7 0),(9, .p 9 0)] [bV9 9 120 s18 A18 l18 c18 t18 B18 m18 d18 s19 A19 l19 c19 t19 B19 m19 d19 d20d,bV9 7 120 s16 A16 l16 c16 t16 B16 m16 d16 s17 A17 l17 c17 t17 B17 m17 d17 x.d,bV9 5 120 false none 0 0 false none 0 0 false none 0 0 false none 0 0 0,bV9 4 120 false none 0 0 false none 0 0 false none 0 0 false none 0 0 0] ?_)))))
   refine xe (sx_next (sx_ret (sx_in_ret (sx_then_ret ?_))))
   refine sx_done (v:=.tuple #[.agg #[.bool false, .slice none 0 0, .bool false, .slice none 0 0, .bool false, .slice none 0 0, .bool false, .slice none 0 0, .int .i64 0], .agg #[.bool false, .slice none 0 0, .bool false, .slice none 0 0, .bool false, .slice none 0 0, .bool false, .slice none 0 0, .int .i64 0], .int .i64 1]) (by kernel_rfl) (fun w' hE hΦ=>?_)
   exact Or.inl ⟨Or.inr hy,rfl,hE⟩
  ·refine xc 102 [vS3 a' b' d'] 18 (fun u0:ShS=>.tuple #[shSd y.d u0, .bool true]) _ (fun w hE hΦ=>(SRead_any a' b' d' _ hΦ.1 L').mono (fun _ _ h=>post_Rd_some h hy)) (fun xx=>?_)
   obtain ⟨⟨s21,A21,l21,c21,t21,B21,m21,d21⟩,⟨s22,A22,l22,c22,t22,B22,m22,d22⟩⟩:=xx
   refine xr 6 [(4, .p 4 0),(5, .p 5 0),(6, .v (.int .i64 0)),(7, .p 7 0),(8, .v (.bool true)),(9, .p 9 0),(10, .v (.bool true))] [bV9 9 120 s21 A21 l21 c21 t21 B21 m21 d21 s22 A22 l22 c22 t22 B22 m22 d22 y.d,bV9 7 120 s16 A16 l16 c16 t16 B16 m16 d16 s17 A17 l17 c17 t17 B17 m17 d17 x.d,bV9 5 120 false none 0 0 false none 0 0 false none 0 0 false none 0 0 0,bV9 4 120 false none 0 0 false none 0 0 false none 0 0 false none 0 0 0] ?_
   refine xe (sx_next (sx_seq (sx_block (sx_seq (sx_region (xr 7 [(4, .p 4 0),(5, .p 5 0),(6, .v (.int .i64 0)),(7, .p 7 0),(9, .p 9 0),(21, .v (.bool false))] [bV9 9 120 s21 A21 l21 c21 t21 B21 m21 d21 s22 A22 l22 c22 t22 B22 m22 d22 y.d,bV9 7 120 s16 A16 l16 c16 t16 B16 m16 d16 s17 A17 l17 c17 t17 B17 m17 d17 x.d,bV9 5 120 false none 0 0 false none 0 0 false none 0 0 false none 0 0 0,bV9 4 120 false none 0 0 false none 0 0 false none 0 0 false none 0 0 0] ?_))))))
   refine xe (sx_next (xb (sx_seq (sx_region (xr 4 [(4, .p 4 0),(5, .p 5 0),(6, .v (.int .i64 0)),(7, .p 7 0),(9, .p 9 0),(32, .v (.int .i64 x.d)),(34, .v (.int .i64 y.d))] [bV9 9 120 s21 A21 l21 c21 t21 B21 m21 d21 s22 A22 l22 c22 t22 B22 m22 d22 y.d,bV9 7 120 s16 A16 l16 c16 t16 B16 m16 d16 s17 A17 l17 c17 t17 B17 m17 d17 x.d,bV9 5 120 false none 0 0 false none 0 0 false none 0 0 false none 0 0 0,bV9 4 120 false none 0 0 false none 0 0 false none 0 0 false none 0 0 0] ?_)))))
   by_cases hB:Blg x.d y.d
   ·refine xc 185 [.int .i64 x.d, .int .i64 y.d] 35 (fun _:Unit=>.bool true) _ (fun w hE hΦ=>(Belong_any x.d y.d _).mono (fun _ _ h=>post_val h (by rw [blg_iff.2 hB]))) (fun xx=>?_)
    refine xr 2 [(4, .p 4 0),(5, .p 5 0),(6, .v (.int .i64 0)),(7, .p 7 0),(9, .p 9 0),(30, .v (.bool false))] [bV9 9 120 s21 A21 l21 c21 t21 B21 m21 d21 s22 A22 l22 c22 t22 B22 m22 d22 y.d,bV9 7 120 s16 A16 l16 c16 t16 B16 m16 d16 s17 A17 l17 c17 t17 B17 m17 d17 x.d,bV9 5 120 false none 0 0 false none 0 0 false none 0 0 false none 0 0 0,bV9 4 120 false none 0 0 false none 0 0 false none 0 0 false none 0 0 0] ?_
    refine xe (sx_next (xb (sx_skip (sx_out (sx_next (sx_seq ?_))))))
    refine sx_draw 5 (by kernel_rfl) (by kernel_rfl) follows_mixed' ?_
    refine xf 5 [(4, .p 4 0),(5, .p 5 0),(6, .v (.int .i64 0))] [bV9 5 120 s21 A21 l21 c21 t21 B21 m21 d21 s22 A22 l22 c22 t22 B22 m22 d22 y.d,bV9 4 120 s16 A16 l16 c16 t16 B16 m16 d16 s17 A17 l17 c17 t17 B17 m17 d17 x.d,bV9 9 120 s21 A21 l21 c21 t21 B21 m21 d21 s22 A22 l22 c22 t22 B22 m22 d22 y.d,bV9 7 120 s16 A16 l16 c16 t16 B16 m16 d16 s17 A17 l17 c17 t17 B17 m17 d17 x.d,bV9 5 120 false none 0 0 false none 0 0 false none 0 0 false none 0 0 0,bV9 4 120 false none 0 0 false none 0 0 false none 0 0 false none 0 0 0] ?_
    refine xz (xe (sx_next (sx_ret ?_)))
    refine sx_done (v:=.tuple #[.agg #[.bool s16, .slice A16 l16 c16, .bool t16, .slice B16 m16 d16, .bool s17, .slice A17 l17 c17, .bool t17, .slice B17 m17 d17, .int .i64 x.d], .agg #[.bool s21, .slice A21 l21 c21, .bool t21, .slice B21 m21 d21, .bool s22, .slice A22 l22 c22, .bool t22, .slice B22 m22 d22, .int .i64 y.d], .int .i64 0]) (by kernel_rfl) (fun w' hE hΦ=>?_)
    exact Or.inr (Or.inr ⟨_,_,_,_,hx,hy,hB,rfl,(SdIs.of hΦ.1.1.2.1 hΦ.1.1.2.2),(SdIs.of hΦ.1.2.1 hΦ.1.2.2),hE⟩)
   ·refine xc 185 [.int .i64 x.d, .int .i64 y.d] 35 (fun _:Unit=>.bool false) _ (fun w hE hΦ=>(Belong_any x.d y.d _).mono (fun _ _ h=>post_val h (by rw [blg_no hB]))) (fun xx=>?_)
    refine xr 2 [(4, .p 4 0),(5, .p 5 0),(6, .v (.int .i64 0)),(7, .p 7 0),(9, .p 9 0),(30, .v (.bool true))] [bV9 9 120 s21 A21 l21 c21 t21 B21 m21 d21 s22 A22 l22 c22 t22 B22 m22 d22 y.d,bV9 7 120 s16 A16 l16 c16 t16 B16 m16 d16 s17 A17 l17 c17 t17 B17 m17 d17 x.d,bV9 5 120 false none 0 0 false none 0 0 false none 0 0 false none 0 0 0,bV9 4 120 false none 0 0 false none 0 0 false none 0 0 false none 0 0 0] ?_
    refine xe (sx_next (xa (sx_seq (sx_region (xr 5 [(4, .p 4 0),(5, .p 5 0),(6, .v (.int .i64 9)),(7, .p 7 0),(9, .p 9 0)] [bV9 9 120 s21 A21 l21 c21 t21 B21 m21 d21 s22 A22 l22 c22 t22 B22 m22 d22 y.d,bV9 7 120 s16 A16 l16 c16 t16 B16 m16 d16 s17 A17 l17 c17 t17 B17 m17 d17 x.d,bV9 5 120 false none 0 0 false none 0 0 false none 0 0 false none 0 0 0,bV9 4 120 false none 0 0 false none 0 0 false none 0 0 false none 0 0 0] ?_)))))
    refine xe (sx_next (sx_ret (sx_in_ret (sx_then_ret ?_))))
    refine sx_done (v:=.tuple #[.agg #[.bool false, .slice none 0 0, .bool false, .slice none 0 0, .bool false, .slice none 0 0, .bool false, .slice none 0 0, .int .i64 0], .agg #[.bool false, .slice none 0 0, .bool false, .slice none 0 0, .bool false, .slice none 0 0, .bool false, .slice none 0 0, .int .i64 0], .int .i64 9]) (by kernel_rfl) (fun w' hE hΦ=>?_)
    exact Or.inr (Or.inl ⟨_,_,hx,hy,hB,rfl,hE⟩)
set_option maxRecDepth 100000 in
theorem SCombAdd_bad (a b a' b':ByteArray) (d d':Int) (w:World) (hg:Glob w) (L:(bytes a).length≤570∧(bytes b).length≤570) (L':(bytes a').length≤570∧(bytes b').length≤570) (hx:rdS (bytes a) (bytes b) d=none∨rdS (bytes a') (bytes b') d'=none) :
 Calls Tryz.prog 112 #[.agg #[.string a, .string b, .int .i64 d], .agg #[.string a', .string b', .int .i64 d'], .func (.func 114) #[] #[]] w (RetV w (opV (rdS (bytes a) (bytes b) d) (rdS (bytes a') (bytes b') d') (fun x y=>okS (x.plus y)) zS)):=by
 refine sx_enter (Φ:=fun w=>Glob w) Tryz.func112 rfl (by kernel_rfl) (fun w' hf=>hg.ext hf) ?_
 refine sx_seq (sx_region (xr 4 [(2, .v (.func (.func 114) #[] #[])),(3, .p 3 0),(4, .p 4 0),(6, .p 6 0),(7, .v (.int .i64 0))] [bS3 6 23 ⟨#[]⟩ ⟨#[]⟩ 0,bS3 4 23 a' b' d',bS3 3 23 a b d] ?_))
 refine xe (sx_next (sx_seq (sx_region (xr 2 [(2, .v (.func (.func 114) #[] #[])),(6, .p 6 0),(7, .v (.int .i64 0)),eS3 12 a b d,eS3 13 a' b' d'] [bS3 6 23 ⟨#[]⟩ ⟨#[]⟩ 0] ?_))))
 refine xc 115 [vS3 a b d,vS3 a' b' d'] 14 (fun _:Unit=>.tuple #[zV,zV, .int .i64 1]) _ (fun w hE hΦ=>(SReadTwo_any a b a' b' d d' _ hΦ L L').mono (fun _ _ h=>post_Rd2_bad h hx)) (fun xx=>?_)
 refine xr 9 [(2, .v (.func (.func 114) #[] #[])),(6, .p 6 0),(7, .v (.int .i64 0)),(8, .p 8 0),(9, .p 9 0),(10, .v (.int .i64 1))] [bV9 9 120 false none 0 0 false none 0 0 false none 0 0 false none 0 0 0,bV9 8 120 false none 0 0 false none 0 0 false none 0 0 false none 0 0 0,bS3 6 23 ⟨#[]⟩ ⟨#[]⟩ 0] ?_
 refine xe (sx_next (sx_seq (sx_seq (sx_region (xr 2 [(2, .v (.func (.func 114) #[] #[])),(6, .p 6 0),(7, .v (.int .i64 0)),(8, .p 8 0),(9, .p 9 0),(10, .v (.int .i64 1)),(19, .v (.bool true))] [bV9 9 120 false none 0 0 false none 0 0 false none 0 0 false none 0 0 0,bV9 8 120 false none 0 0 false none 0 0 false none 0 0 false none 0 0 0,bS3 6 23 ⟨#[]⟩ ⟨#[]⟩ 0] ?_)))))
 refine xe (sx_next (xa (sx_seq (sx_region (xr 4 [(2, .v (.func (.func 114) #[] #[])),(6, .p 6 0),(7, .v (.int .i64 1)),(8, .p 8 0),(9, .p 9 0)] [bV9 9 120 false none 0 0 false none 0 0 false none 0 0 false none 0 0 0,bV9 8 120 false none 0 0 false none 0 0 false none 0 0 false none 0 0 0,bS3 6 23 ⟨#[]⟩ ⟨#[]⟩ 0] ?_)))))
 refine xe (sx_next (sx_ret (sx_then_ret ?_)))
 refine sx_done (v:=.tuple #[.agg #[.string ⟨#[]⟩, .string ⟨#[]⟩, .int .i64 0], .int .i64 1]) (by kernel_rfl) (fun w' hE hΦ=>?_)
 exact ⟨by rw [opV_bad hx],hE⟩
set_option maxRecDepth 100000 in
theorem SCombAdd_no (a b a' b':ByteArray) (d d':Int) (w:World) (hg:Glob w) (L:(bytes a).length≤570∧(bytes b).length≤570) (L':(bytes a').length≤570∧(bytes b').length≤570) {x y:Sd} (hx:rdS (bytes a) (bytes b) d=some x) (hy:rdS (bytes a') (bytes b') d'=some y) (hB:¬ Blg x.d y.d) :
 Calls Tryz.prog 112 #[.agg #[.string a, .string b, .int .i64 d], .agg #[.string a', .string b', .int .i64 d'], .func (.func 114) #[] #[]] w (RetV w (opV (rdS (bytes a) (bytes b) d) (rdS (bytes a') (bytes b') d') (fun x y=>okS (x.plus y)) zS)):=by
 refine sx_enter (Φ:=fun w=>Glob w) Tryz.func112 rfl (by kernel_rfl) (fun w' hf=>hg.ext hf) ?_
 refine sx_seq (sx_region (xr 4 [(2, .v (.func (.func 114) #[] #[])),(3, .p 3 0),(4, .p 4 0),(6, .p 6 0),(7, .v (.int .i64 0))] [bS3 6 23 ⟨#[]⟩ ⟨#[]⟩ 0,bS3 4 23 a' b' d',bS3 3 23 a b d] ?_))
 refine xe (sx_next (sx_seq (sx_region (xr 2 [(2, .v (.func (.func 114) #[] #[])),(6, .p 6 0),(7, .v (.int .i64 0)),eS3 12 a b d,eS3 13 a' b' d'] [bS3 6 23 ⟨#[]⟩ ⟨#[]⟩ 0] ?_))))
 refine xc 115 [vS3 a b d,vS3 a' b' d'] 14 (fun _:Unit=>.tuple #[zV,zV, .int .i64 9]) _ (fun w hE hΦ=>(SReadTwo_any a b a' b' d d' _ hΦ L L').mono (fun _ _ h=>post_Rd2_no h hx hy hB)) (fun xx=>?_)
 refine xr 9 [(2, .v (.func (.func 114) #[] #[])),(6, .p 6 0),(7, .v (.int .i64 0)),(8, .p 8 0),(9, .p 9 0),(10, .v (.int .i64 9))] [bV9 9 120 false none 0 0 false none 0 0 false none 0 0 false none 0 0 0,bV9 8 120 false none 0 0 false none 0 0 false none 0 0 false none 0 0 0,bS3 6 23 ⟨#[]⟩ ⟨#[]⟩ 0] ?_
 refine xe (sx_next (sx_seq (sx_seq (sx_region (xr 2 [(2, .v (.func (.func 114) #[] #[])),(6, .p 6 0),(7, .v (.int .i64 0)),(8, .p 8 0),(9, .p 9 0),(10, .v (.int .i64 9)),(19, .v (.bool true))] [bV9 9 120 false none 0 0 false none 0 0 false none 0 0 false none 0 0 0,bV9 8 120 false none 0 0 false none 0 0 false none 0 0 false none 0 0 0,bS3 6 23 ⟨#[]⟩ ⟨#[]⟩ 0] ?_)))))
 refine xe (sx_next (xa (sx_seq (sx_region (xr 4 [(2, .v (.func (.func 114) #[] #[])),(6, .p 6 0),(7, .v (.int .i64 9)),(8, .p 8 0),(9, .p 9 0)] [bV9 9 120 false none 0 0 false none 0 0 false none 0 0 false none 0 0 0,bV9 8 120 false none 0 0 false none 0 0 false none 0 0 false none 0 0 0,bS3 6 23 ⟨#[]⟩ ⟨#[]⟩ 0] ?_)))))
 refine xe (sx_next (sx_ret (sx_then_ret ?_)))
 refine sx_done (v:=.tuple #[.agg #[.string ⟨#[]⟩, .string ⟨#[]⟩, .int .i64 0], .int .i64 9]) (by kernel_rfl) (fun w' hE hΦ=>?_)
 exact ⟨by rw [opV_no hx hy hB],hE⟩
set_option maxRecDepth 100000 in
theorem SCombAdd_ok (a b a' b':ByteArray) (d d':Int) (w:World) (hg:Glob w) (L:(bytes a).length≤570∧(bytes b).length≤570) (L':(bytes a').length≤570∧(bytes b').length≤570) {x y:Sd} (hx:rdS (bytes a) (bytes b) d=some x) (hy:rdS (bytes a') (bytes b') d'=some y) (hB:Blg x.d y.d) {j k:Nat} (Zx:∀ x,rdS (bytes a) (bytes b) d=some x→Sz x j) (Zy:∀ x,rdS (bytes a') (bytes b') d'=some x→Sz x k) (hj:j + k≤700) :
 Calls Tryz.prog 112 #[.agg #[.string a, .string b, .int .i64 d], .agg #[.string a', .string b', .int .i64 d'], .func (.func 114) #[] #[]] w (RetV w (opV (rdS (bytes a) (bytes b) d) (rdS (bytes a') (bytes b') d') (fun x y=>okS (x.plus y)) zS)):=by
 have zx:=Zx _ hx
 have zy:=Zy _ hy
 refine sx_enter (Φ:=fun w=>Glob w) Tryz.func112 rfl (by kernel_rfl) (fun w' hf=>hg.ext hf) ?_
 refine sx_seq (sx_region (xr 4 [(2, .v (.func (.func 114) #[] #[])),(3, .p 3 0),(4, .p 4 0),(6, .p 6 0),(7, .v (.int .i64 0))] [bS3 6 23 ⟨#[]⟩ ⟨#[]⟩ 0,bS3 4 23 a' b' d',bS3 3 23 a b d] ?_))
 refine xe (sx_next (sx_seq (sx_region (xr 2 [(2, .v (.func (.func 114) #[] #[])),(6, .p 6 0),(7, .v (.int .i64 0)),eS3 12 a b d,eS3 13 a' b' d'] [bS3 6 23 ⟨#[]⟩ ⟨#[]⟩ 0] ?_))))
 refine xc 115 [vS3 a b d,vS3 a' b' d'] 14 (fun u:ShS × ShS=>.tuple #[shSd x.d u.1,shSd y.d u.2, .int .i64 0]) _ (fun w hE hΦ=>(SReadTwo_any a b a' b' d d' _ hΦ L L').mono (fun _ _ h=>post_Rd2_ok h hx hy hB)) (fun xx=>?_)
 obtain ⟨⟨⟨s10,A10,l10,c10,t10,B10,m10,d10⟩,⟨s11,A11,l11,c11,t11,B11,m11,d11⟩⟩,⟨⟨s12,A12,l12,c12,t12,B12,m12,d12⟩,⟨s13,A13,l13,c13,t13,B13,m13,d13⟩⟩⟩:=xx
 refine xr 9 [(2, .v (.func (.func 114) #[] #[])),(6, .p 6 0),(7, .v (.int .i64 0)),(8, .p 8 0),(9, .p 9 0),(10, .v (.int .i64 0))] [bV9 9 120 s12 A12 l12 c12 t12 B12 m12 d12 s13 A13 l13 c13 t13 B13 m13 d13 y.d,bV9 8 120 s10 A10 l10 c10 t10 B10 m10 d10 s11 A11 l11 c11 t11 B11 m11 d11 x.d,bS3 6 23 ⟨#[]⟩ ⟨#[]⟩ 0] ?_
 refine xe (sx_next (sx_seq (sx_seq (sx_region (xr 2 [(2, .v (.func (.func 114) #[] #[])),(6, .p 6 0),(7, .v (.int .i64 0)),(8, .p 8 0),(9, .p 9 0),(10, .v (.int .i64 0)),(19, .v (.bool false))] [bV9 9 120 s12 A12 l12 c12 t12 B12 m12 d12 s13 A13 l13 c13 t13 B13 m13 d13 y.d,bV9 8 120 s10 A10 l10 c10 t10 B10 m10 d10 s11 A11 l11 c11 t11 B11 m11 d11 x.d,bS3 6 23 ⟨#[]⟩ ⟨#[]⟩ 0] ?_)))))
 refine xe (sx_next (xb (sx_skip (sx_next (sx_seq (sx_region (xr 3 [(6, .p 6 0),(7, .v (.int .i64 0)),(22, .v (.func (.func 114) #[] #[])),eV9 23 s10 A10 l10 c10 t10 B10 m10 d10 s11 A11 l11 c11 t11 B11 m11 d11 x.d,eV9 24 s12 A12 l12 c12 t12 B12 m12 d12 s13 A13 l13 c13 t13 B13 m13 d13 y.d] [bS3 6 23 ⟨#[]⟩ ⟨#[]⟩ 0] ?_)))))))
 refine xc 114 [vV9 s10 A10 l10 c10 t10 B10 m10 d10 s11 A11 l11 c11 t11 B11 m11 d11 x.d,vV9 s12 A12 l12 c12 t12 B12 m12 d12 s13 A13 l13 c13 t13 B13 m13 d13 y.d] 25 (shSd ((x.plus y).d)) _ (fun w hE hΦ=>(SPlus_any _ _ x y _ hΦ.1 (SdIs.of hΦ.2.1.1.1 hΦ.2.1.1.2) (SdIs.of hΦ.2.1.2 hΦ.2.2) zx zy (by omega)).mono (fun _ _ h=>post_Sd h)) (fun xx=>?_)
 obtain ⟨⟨s14,A14,l14,c14,t14,B14,m14,d14⟩,⟨s15,A15,l15,c15,t15,B15,m15,d15⟩⟩:=xx
 refine xr 0 [(6, .p 6 0),(7, .v (.int .i64 0)),(25, .v (.agg #[.bool s14, .slice A14 l14 c14, .bool t14, .slice B14 m14 d14, .bool s15, .slice A15 l15 c15, .bool t15, .slice B15 m15 d15, .int .i64 ((x.plus y).d)]))] [bS3 6 23 ⟨#[]⟩ ⟨#[]⟩ 0] ?_
 refine xc 94 [.agg #[.bool s14, .slice A14 l14 c14, .bool t14, .slice B14 m14 d14, .bool s15, .slice A15 l15 c15, .bool t15, .slice B15 m15 d15, .int .i64 ((x.plus y).d)]] 26 (fun _:Unit=>vS3 ⟨(ratText ((x.plus y).a)).toArray⟩ ⟨(ratText ((x.plus y).b)).toArray⟩ ((x.plus y).d)) _ (fun w hE hΦ=>(SWrite_any _ (x.plus y) _ hΦ.1.1 (SdIs.of hΦ.2.1 hΦ.2.2) (j:=(j + k + 1)) (zx.plus zy).a (zx.plus zy).b (by omega)).mono (fun _ _ h=>post_val h rfl)) (fun xx=>?_)
 refine xr 2 [(6, .p 6 0),(7, .v (.int .i64 0))] [bS3 6 23 ⟨(ratText ((x.plus y).a)).toArray⟩ ⟨(ratText ((x.plus y).b)).toArray⟩ ((x.plus y).d)] ?_
 refine xe (sx_next (sx_ret ?_))
 refine sx_done (v:=.tuple #[.agg #[.string ⟨(ratText ((x.plus y).a)).toArray⟩, .string ⟨(ratText ((x.plus y).b)).toArray⟩, .int .i64 ((x.plus y).d)], .int .i64 0]) (by kernel_rfl) (fun w' hE hΦ=>?_)
 exact ⟨by rw [opV_ok hx hy hB],hE⟩
set_option maxRecDepth 100000 in
theorem SAddT_bad (a b a' b':ByteArray) (d d':Int) (w:World) (hg:Glob w) (L:(bytes a).length≤570∧(bytes b).length≤570) (L':(bytes a').length≤570∧(bytes b').length≤570) (hx:rdS (bytes a) (bytes b) d=none∨rdS (bytes a') (bytes b') d'=none) :
 Calls Tryz.prog 32 #[.agg #[.string a, .string b, .int .i64 d], .agg #[.string a', .string b', .int .i64 d']] w (RetV w (opV (rdS (bytes a) (bytes b) d) (rdS (bytes a') (bytes b') d') (fun x y=>okS (x.plus y)) zS)):=by
 refine sx_enter (Φ:=fun w=>Glob w) Tryz.func32 rfl (by kernel_rfl) (fun w' hf=>hg.ext hf) ?_
 refine sx_seq (sx_region (xr 4 [(2, .p 2 0),(3, .p 3 0),(4, .p 4 0),(5, .v (.int .i64 0))] [bS3 4 23 ⟨#[]⟩ ⟨#[]⟩ 0,bS3 3 23 a' b' d',bS3 2 23 a b d] ?_))
 refine xe (sx_next (sx_seq (sx_region (xr 2 [(4, .p 4 0),(5, .v (.int .i64 0)),eS3 6 a b d,eS3 7 a' b' d'] [bS3 4 23 ⟨#[]⟩ ⟨#[]⟩ 0] ?_))))
 refine xc 112 [vS3 a b d,vS3 a' b' d', .func (.func 114) #[] #[]] 8 (fun _:Unit=>.tuple #[vS3 ⟨#[]⟩ ⟨#[]⟩ 0, .int .i64 1]) _ (fun w hE hΦ=>(SCombAdd_bad a b a' b' d d' _ hΦ L L' hx).mono (fun _ _ h=>post_val h (by rw [opV_bad hx]))) (fun xx=>?_)
 refine xr 4 [(4, .p 4 0),(5, .v (.int .i64 1))] [bS3 4 23 ⟨#[]⟩ ⟨#[]⟩ 0] ?_
 refine xe (sx_next (sx_ret ?_))
 refine sx_done (v:=.tuple #[.agg #[.string ⟨#[]⟩, .string ⟨#[]⟩, .int .i64 0], .int .i64 1]) (by kernel_rfl) (fun w' hE hΦ=>?_)
 exact ⟨by rw [opV_bad hx],hE⟩
set_option maxRecDepth 100000 in
theorem SAddT_no (a b a' b':ByteArray) (d d':Int) (w:World) (hg:Glob w) (L:(bytes a).length≤570∧(bytes b).length≤570) (L':(bytes a').length≤570∧(bytes b').length≤570) {x y:Sd} (hx:rdS (bytes a) (bytes b) d=some x) (hy:rdS (bytes a') (bytes b') d'=some y) (hB:¬ Blg x.d y.d) :
 Calls Tryz.prog 32 #[.agg #[.string a, .string b, .int .i64 d], .agg #[.string a', .string b', .int .i64 d']] w (RetV w (opV (rdS (bytes a) (bytes b) d) (rdS (bytes a') (bytes b') d') (fun x y=>okS (x.plus y)) zS)):=by
 refine sx_enter (Φ:=fun w=>Glob w) Tryz.func32 rfl (by kernel_rfl) (fun w' hf=>hg.ext hf) ?_
 refine sx_seq (sx_region (xr 4 [(2, .p 2 0),(3, .p 3 0),(4, .p 4 0),(5, .v (.int .i64 0))] [bS3 4 23 ⟨#[]⟩ ⟨#[]⟩ 0,bS3 3 23 a' b' d',bS3 2 23 a b d] ?_))
 refine xe (sx_next (sx_seq (sx_region (xr 2 [(4, .p 4 0),(5, .v (.int .i64 0)),eS3 6 a b d,eS3 7 a' b' d'] [bS3 4 23 ⟨#[]⟩ ⟨#[]⟩ 0] ?_))))
 refine xc 112 [vS3 a b d,vS3 a' b' d', .func (.func 114) #[] #[]] 8 (fun _:Unit=>.tuple #[vS3 ⟨#[]⟩ ⟨#[]⟩ 0, .int .i64 9]) _ (fun w hE hΦ=>(SCombAdd_no a b a' b' d d' _ hΦ L L' hx hy hB).mono (fun _ _ h=>post_val h (by rw [opV_no hx hy hB]))) (fun xx=>?_)
 refine xr 4 [(4, .p 4 0),(5, .v (.int .i64 9))] [bS3 4 23 ⟨#[]⟩ ⟨#[]⟩ 0] ?_
 refine xe (sx_next (sx_ret ?_))
 refine sx_done (v:=.tuple #[.agg #[.string ⟨#[]⟩, .string ⟨#[]⟩, .int .i64 0], .int .i64 9]) (by kernel_rfl) (fun w' hE hΦ=>?_)
 exact ⟨by rw [opV_no hx hy hB],hE⟩
set_option maxRecDepth 100000 in
theorem SAddT_ok (a b a' b':ByteArray) (d d':Int) (w:World) (hg:Glob w) (L:(bytes a).length≤570∧(bytes b).length≤570) (L':(bytes a').length≤570∧(bytes b').length≤570) {x y:Sd} (hx:rdS (bytes a) (bytes b) d=some x) (hy:rdS (bytes a') (bytes b') d'=some y) (hB:Blg x.d y.d) {j k:Nat} (Zx:∀ x,rdS (bytes a) (bytes b) d=some x→Sz x j) (Zy:∀ x,rdS (bytes a') (bytes b') d'=some x→Sz x k) (hj:j + k≤700) :
 Calls Tryz.prog 32 #[.agg #[.string a, .string b, .int .i64 d], .agg #[.string a', .string b', .int .i64 d']] w (RetV w (opV (rdS (bytes a) (bytes b) d) (rdS (bytes a') (bytes b') d') (fun x y=>okS (x.plus y)) zS)):=by
 have zx:=Zx _ hx
 have zy:=Zy _ hy
 refine sx_enter (Φ:=fun w=>Glob w) Tryz.func32 rfl (by kernel_rfl) (fun w' hf=>hg.ext hf) ?_
 refine sx_seq (sx_region (xr 4 [(2, .p 2 0),(3, .p 3 0),(4, .p 4 0),(5, .v (.int .i64 0))] [bS3 4 23 ⟨#[]⟩ ⟨#[]⟩ 0,bS3 3 23 a' b' d',bS3 2 23 a b d] ?_))
 refine xe (sx_next (sx_seq (sx_region (xr 2 [(4, .p 4 0),(5, .v (.int .i64 0)),eS3 6 a b d,eS3 7 a' b' d'] [bS3 4 23 ⟨#[]⟩ ⟨#[]⟩ 0] ?_))))
 refine xc 112 [vS3 a b d,vS3 a' b' d', .func (.func 114) #[] #[]] 8 (fun _:Unit=>.tuple #[.agg #[.string ⟨(ratText (x.plus y).a).toArray⟩, .string ⟨(ratText (x.plus y).b).toArray⟩, .int .i64 (x.plus y).d], .int .i64 0]) _ (fun w hE hΦ=>(SCombAdd_ok a b a' b' d d' _ hΦ L L' hx hy hB Zx Zy hj).mono (fun _ _ h=>post_val h (by rw [opV_ok hx hy hB]))) (fun xx=>?_)
 refine xr 4 [(4, .p 4 0),(5, .v (.int .i64 0))] [(4,23,[.v (.string ⟨(ratText (x.plus y).a).toArray⟩), .v (.string ⟨(ratText (x.plus y).b).toArray⟩), .v (.int .i64 (x.plus y).d)])] ?_
 refine xe (sx_next (sx_ret ?_))
 refine sx_done (v:=.tuple #[.agg #[.string ⟨(ratText (x.plus y).a).toArray⟩, .string ⟨(ratText (x.plus y).b).toArray⟩, .int .i64 (x.plus y).d], .int .i64 0]) (by kernel_rfl) (fun w' hE hΦ=>?_)
 exact ⟨by rw [opV_ok hx hy hB],hE⟩
theorem SAddT_any (a b a' b':ByteArray) (d d':Int) (w:World) (hg:Glob w) (L:(bytes a).length≤570∧(bytes b).length≤570) (L':(bytes a').length≤570∧(bytes b').length≤570) {j k:Nat} (Zx:∀ x,rdS (bytes a) (bytes b) d=some x→Sz x j) (Zy:∀ x,rdS (bytes a') (bytes b') d'=some x→Sz x k) (hj:j + k≤700) :
 Calls Tryz.prog 32 #[.agg #[.string a, .string b, .int .i64 d], .agg #[.string a', .string b', .int .i64 d']] w (RetV w (opV (rdS (bytes a) (bytes b) d) (rdS (bytes a') (bytes b') d') (fun x y=>okS (x.plus y)) zS)):=by
 rcases two_ways (rdS (bytes a) (bytes b) d) (rdS (bytes a') (bytes b') d') with hx | ⟨x,y,hx,hy,hB⟩ | ⟨x,y,hx,hy,hB⟩
 ·exact SAddT_bad a b a' b' d d' w hg L L' hx
 ·exact SAddT_no a b a' b' d d' w hg L L' hx hy hB
 ·exact SAddT_ok a b a' b' d d' w hg L L' hx hy hB Zx Zy hj
set_option maxRecDepth 100000 in
theorem SCombMul_bad (a b a' b':ByteArray) (d d':Int) (w:World) (hg:Glob w) (L:(bytes a).length≤570∧(bytes b).length≤570) (L':(bytes a').length≤570∧(bytes b').length≤570) (hx:rdS (bytes a) (bytes b) d=none∨rdS (bytes a') (bytes b') d'=none) :
 Calls Tryz.prog 112 #[.agg #[.string a, .string b, .int .i64 d], .agg #[.string a', .string b', .int .i64 d'], .func (.func 113) #[] #[]] w (RetV w (opV (rdS (bytes a) (bytes b) d) (rdS (bytes a') (bytes b') d') (fun x y=>okS (x.times y)) zS)):=by
 refine sx_enter (Φ:=fun w=>Glob w) Tryz.func112 rfl (by kernel_rfl) (fun w' hf=>hg.ext hf) ?_
 refine sx_seq (sx_region (xr 4 [(2, .v (.func (.func 113) #[] #[])),(3, .p 3 0),(4, .p 4 0),(6, .p 6 0),(7, .v (.int .i64 0))] [bS3 6 23 ⟨#[]⟩ ⟨#[]⟩ 0,bS3 4 23 a' b' d',bS3 3 23 a b d] ?_))
 refine xe (sx_next (sx_seq (sx_region (xr 2 [(2, .v (.func (.func 113) #[] #[])),(6, .p 6 0),(7, .v (.int .i64 0)),eS3 12 a b d,eS3 13 a' b' d'] [bS3 6 23 ⟨#[]⟩ ⟨#[]⟩ 0] ?_))))
 refine xc 115 [vS3 a b d,vS3 a' b' d'] 14 (fun _:Unit=>.tuple #[zV,zV, .int .i64 1]) _ (fun w hE hΦ=>(SReadTwo_any a b a' b' d d' _ hΦ L L').mono (fun _ _ h=>post_Rd2_bad h hx)) (fun xx=>?_)
 refine xr 9 [(2, .v (.func (.func 113) #[] #[])),(6, .p 6 0),(7, .v (.int .i64 0)),(8, .p 8 0),(9, .p 9 0),(10, .v (.int .i64 1))] [bV9 9 120 false none 0 0 false none 0 0 false none 0 0 false none 0 0 0,bV9 8 120 false none 0 0 false none 0 0 false none 0 0 false none 0 0 0,bS3 6 23 ⟨#[]⟩ ⟨#[]⟩ 0] ?_
 refine xe (sx_next (sx_seq (sx_seq (sx_region (xr 2 [(2, .v (.func (.func 113) #[] #[])),(6, .p 6 0),(7, .v (.int .i64 0)),(8, .p 8 0),(9, .p 9 0),(10, .v (.int .i64 1)),(19, .v (.bool true))] [bV9 9 120 false none 0 0 false none 0 0 false none 0 0 false none 0 0 0,bV9 8 120 false none 0 0 false none 0 0 false none 0 0 false none 0 0 0,bS3 6 23 ⟨#[]⟩ ⟨#[]⟩ 0] ?_)))))
 refine xe (sx_next (xa (sx_seq (sx_region (xr 4 [(2, .v (.func (.func 113) #[] #[])),(6, .p 6 0),(7, .v (.int .i64 1)),(8, .p 8 0),(9, .p 9 0)] [bV9 9 120 false none 0 0 false none 0 0 false none 0 0 false none 0 0 0,bV9 8 120 false none 0 0 false none 0 0 false none 0 0 false none 0 0 0,bS3 6 23 ⟨#[]⟩ ⟨#[]⟩ 0] ?_)))))
 refine xe (sx_next (sx_ret (sx_then_ret ?_)))
 refine sx_done (v:=.tuple #[.agg #[.string ⟨#[]⟩, .string ⟨#[]⟩, .int .i64 0], .int .i64 1]) (by kernel_rfl) (fun w' hE hΦ=>?_)
 exact ⟨by rw [opV_bad hx],hE⟩
set_option maxRecDepth 100000 in
theorem SCombMul_no (a b a' b':ByteArray) (d d':Int) (w:World) (hg:Glob w) (L:(bytes a).length≤570∧(bytes b).length≤570) (L':(bytes a').length≤570∧(bytes b').length≤570) {x y:Sd} (hx:rdS (bytes a) (bytes b) d=some x) (hy:rdS (bytes a') (bytes b') d'=some y) (hB:¬ Blg x.d y.d) :
 Calls Tryz.prog 112 #[.agg #[.string a, .string b, .int .i64 d], .agg #[.string a', .string b', .int .i64 d'], .func (.func 113) #[] #[]] w (RetV w (opV (rdS (bytes a) (bytes b) d) (rdS (bytes a') (bytes b') d') (fun x y=>okS (x.times y)) zS)):=by
 refine sx_enter (Φ:=fun w=>Glob w) Tryz.func112 rfl (by kernel_rfl) (fun w' hf=>hg.ext hf) ?_
 refine sx_seq (sx_region (xr 4 [(2, .v (.func (.func 113) #[] #[])),(3, .p 3 0),(4, .p 4 0),(6, .p 6 0),(7, .v (.int .i64 0))] [bS3 6 23 ⟨#[]⟩ ⟨#[]⟩ 0,bS3 4 23 a' b' d',bS3 3 23 a b d] ?_))
 refine xe (sx_next (sx_seq (sx_region (xr 2 [(2, .v (.func (.func 113) #[] #[])),(6, .p 6 0),(7, .v (.int .i64 0)),eS3 12 a b d,eS3 13 a' b' d'] [bS3 6 23 ⟨#[]⟩ ⟨#[]⟩ 0] ?_))))
 refine xc 115 [vS3 a b d,vS3 a' b' d'] 14 (fun _:Unit=>.tuple #[zV,zV, .int .i64 9]) _ (fun w hE hΦ=>(SReadTwo_any a b a' b' d d' _ hΦ L L').mono (fun _ _ h=>post_Rd2_no h hx hy hB)) (fun xx=>?_)
 refine xr 9 [(2, .v (.func (.func 113) #[] #[])),(6, .p 6 0),(7, .v (.int .i64 0)),(8, .p 8 0),(9, .p 9 0),(10, .v (.int .i64 9))] [bV9 9 120 false none 0 0 false none 0 0 false none 0 0 false none 0 0 0,bV9 8 120 false none 0 0 false none 0 0 false none 0 0 false none 0 0 0,bS3 6 23 ⟨#[]⟩ ⟨#[]⟩ 0] ?_
 refine xe (sx_next (sx_seq (sx_seq (sx_region (xr 2 [(2, .v (.func (.func 113) #[] #[])),(6, .p 6 0),(7, .v (.int .i64 0)),(8, .p 8 0),(9, .p 9 0),(10, .v (.int .i64 9)),(19, .v (.bool true))] [bV9 9 120 false none 0 0 false none 0 0 false none 0 0 false none 0 0 0,bV9 8 120 false none 0 0 false none 0 0 false none 0 0 false none 0 0 0,bS3 6 23 ⟨#[]⟩ ⟨#[]⟩ 0] ?_)))))
 refine xe (sx_next (xa (sx_seq (sx_region (xr 4 [(2, .v (.func (.func 113) #[] #[])),(6, .p 6 0),(7, .v (.int .i64 9)),(8, .p 8 0),(9, .p 9 0)] [bV9 9 120 false none 0 0 false none 0 0 false none 0 0 false none 0 0 0,bV9 8 120 false none 0 0 false none 0 0 false none 0 0 false none 0 0 0,bS3 6 23 ⟨#[]⟩ ⟨#[]⟩ 0] ?_)))))
 refine xe (sx_next (sx_ret (sx_then_ret ?_)))
 refine sx_done (v:=.tuple #[.agg #[.string ⟨#[]⟩, .string ⟨#[]⟩, .int .i64 0], .int .i64 9]) (by kernel_rfl) (fun w' hE hΦ=>?_)
 exact ⟨by rw [opV_no hx hy hB],hE⟩
set_option maxRecDepth 100000 in
theorem SCombMul_ok (a b a' b':ByteArray) (d d':Int) (w:World) (hg:Glob w) (L:(bytes a).length≤570∧(bytes b).length≤570) (L':(bytes a').length≤570∧(bytes b').length≤570) {x y:Sd} (hx:rdS (bytes a) (bytes b) d=some x) (hy:rdS (bytes a') (bytes b') d'=some y) (hB:Blg x.d y.d) {j k:Nat} (Zx:∀ x,rdS (bytes a) (bytes b) d=some x→Sz x j) (Zy:∀ x,rdS (bytes a') (bytes b') d'=some x→Sz x k) (hj:j + k≤350) :
 Calls Tryz.prog 112 #[.agg #[.string a, .string b, .int .i64 d], .agg #[.string a', .string b', .int .i64 d'], .func (.func 113) #[] #[]] w (RetV w (opV (rdS (bytes a) (bytes b) d) (rdS (bytes a') (bytes b') d') (fun x y=>okS (x.times y)) zS)):=by
 have zx:=Zx _ hx
 have zy:=Zy _ hy
 refine sx_enter (Φ:=fun w=>Glob w) Tryz.func112 rfl (by kernel_rfl) (fun w' hf=>hg.ext hf) ?_
 refine sx_seq (sx_region (xr 4 [(2, .v (.func (.func 113) #[] #[])),(3, .p 3 0),(4, .p 4 0),(6, .p 6 0),(7, .v (.int .i64 0))] [bS3 6 23 ⟨#[]⟩ ⟨#[]⟩ 0,bS3 4 23 a' b' d',bS3 3 23 a b d] ?_))
 refine xe (sx_next (sx_seq (sx_region (xr 2 [(2, .v (.func (.func 113) #[] #[])),(6, .p 6 0),(7, .v (.int .i64 0)),eS3 12 a b d,eS3 13 a' b' d'] [bS3 6 23 ⟨#[]⟩ ⟨#[]⟩ 0] ?_))))
 refine xc 115 [vS3 a b d,vS3 a' b' d'] 14 (fun u:ShS × ShS=>.tuple #[shSd x.d u.1,shSd y.d u.2, .int .i64 0]) _ (fun w hE hΦ=>(SReadTwo_any a b a' b' d d' _ hΦ L L').mono (fun _ _ h=>post_Rd2_ok h hx hy hB)) (fun xx=>?_)
 obtain ⟨⟨⟨s10,A10,l10,c10,t10,B10,m10,d10⟩,⟨s11,A11,l11,c11,t11,B11,m11,d11⟩⟩,⟨⟨s12,A12,l12,c12,t12,B12,m12,d12⟩,⟨s13,A13,l13,c13,t13,B13,m13,d13⟩⟩⟩:=xx
 refine xr 9 [(2, .v (.func (.func 113) #[] #[])),(6, .p 6 0),(7, .v (.int .i64 0)),(8, .p 8 0),(9, .p 9 0),(10, .v (.int .i64 0))] [bV9 9 120 s12 A12 l12 c12 t12 B12 m12 d12 s13 A13 l13 c13 t13 B13 m13 d13 y.d,bV9 8 120 s10 A10 l10 c10 t10 B10 m10 d10 s11 A11 l11 c11 t11 B11 m11 d11 x.d,bS3 6 23 ⟨#[]⟩ ⟨#[]⟩ 0] ?_
 refine xe (sx_next (sx_seq (sx_seq (sx_region (xr 2 [(2, .v (.func (.func 113) #[] #[])),(6, .p 6 0),(7, .v (.int .i64 0)),(8, .p 8 0),(9, .p 9 0),(10, .v (.int .i64 0)),(19, .v (.bool false))] [bV9 9 120 s12 A12 l12 c12 t12 B12 m12 d12 s13 A13 l13 c13 t13 B13 m13 d13 y.d,bV9 8 120 s10 A10 l10 c10 t10 B10 m10 d10 s11 A11 l11 c11 t11 B11 m11 d11 x.d,bS3 6 23 ⟨#[]⟩ ⟨#[]⟩ 0] ?_)))))
 refine xe (sx_next (xb (sx_skip (sx_next (sx_seq (sx_region (xr 3 [(6, .p 6 0),(7, .v (.int .i64 0)),(22, .v (.func (.func 113) #[] #[])),eV9 23 s10 A10 l10 c10 t10 B10 m10 d10 s11 A11 l11 c11 t11 B11 m11 d11 x.d,eV9 24 s12 A12 l12 c12 t12 B12 m12 d12 s13 A13 l13 c13 t13 B13 m13 d13 y.d] [bS3 6 23 ⟨#[]⟩ ⟨#[]⟩ 0] ?_)))))))
 refine xc 113 [vV9 s10 A10 l10 c10 t10 B10 m10 d10 s11 A11 l11 c11 t11 B11 m11 d11 x.d,vV9 s12 A12 l12 c12 t12 B12 m12 d12 s13 A13 l13 c13 t13 B13 m13 d13 y.d] 25 (shSd ((x.times y).d)) _ (fun w hE hΦ=>(STimes_any _ _ x y _ hΦ.1 (SdIs.of hΦ.2.1.1.1 hΦ.2.1.1.2) (SdIs.of hΦ.2.1.2 hΦ.2.2) zx zy (by omega)).mono (fun _ _ h=>post_Sd h)) (fun xx=>?_)
 obtain ⟨⟨s14,A14,l14,c14,t14,B14,m14,d14⟩,⟨s15,A15,l15,c15,t15,B15,m15,d15⟩⟩:=xx
 refine xr 0 [(6, .p 6 0),(7, .v (.int .i64 0)),(25, .v (.agg #[.bool s14, .slice A14 l14 c14, .bool t14, .slice B14 m14 d14, .bool s15, .slice A15 l15 c15, .bool t15, .slice B15 m15 d15, .int .i64 ((x.times y).d)]))] [bS3 6 23 ⟨#[]⟩ ⟨#[]⟩ 0] ?_
 refine xc 94 [.agg #[.bool s14, .slice A14 l14 c14, .bool t14, .slice B14 m14 d14, .bool s15, .slice A15 l15 c15, .bool t15, .slice B15 m15 d15, .int .i64 ((x.times y).d)]] 26 (fun _:Unit=>vS3 ⟨(ratText ((x.times y).a)).toArray⟩ ⟨(ratText ((x.times y).b)).toArray⟩ ((x.times y).d)) _ (fun w hE hΦ=>(SWrite_any _ (x.times y) _ hΦ.1.1 (SdIs.of hΦ.2.1 hΦ.2.2) (j:=(2 * (j + k) + 8)) (zx.times zy).a (zx.times zy).b (by omega)).mono (fun _ _ h=>post_val h rfl)) (fun xx=>?_)
 refine xr 2 [(6, .p 6 0),(7, .v (.int .i64 0))] [bS3 6 23 ⟨(ratText ((x.times y).a)).toArray⟩ ⟨(ratText ((x.times y).b)).toArray⟩ ((x.times y).d)] ?_
 refine xe (sx_next (sx_ret ?_))
 refine sx_done (v:=.tuple #[.agg #[.string ⟨(ratText ((x.times y).a)).toArray⟩, .string ⟨(ratText ((x.times y).b)).toArray⟩, .int .i64 ((x.times y).d)], .int .i64 0]) (by kernel_rfl) (fun w' hE hΦ=>?_)
 exact ⟨by rw [opV_ok hx hy hB],hE⟩
set_option maxRecDepth 100000 in
theorem SMulT_bad (a b a' b':ByteArray) (d d':Int) (w:World) (hg:Glob w) (L:(bytes a).length≤570∧(bytes b).length≤570) (L':(bytes a').length≤570∧(bytes b').length≤570) (hx:rdS (bytes a) (bytes b) d=none∨rdS (bytes a') (bytes b') d'=none) :
 Calls Tryz.prog 31 #[.agg #[.string a, .string b, .int .i64 d], .agg #[.string a', .string b', .int .i64 d']] w (RetV w (opV (rdS (bytes a) (bytes b) d) (rdS (bytes a') (bytes b') d') (fun x y=>okS (x.times y)) zS)):=by
 refine sx_enter (Φ:=fun w=>Glob w) Tryz.func31 rfl (by kernel_rfl) (fun w' hf=>hg.ext hf) ?_
 refine sx_seq (sx_region (xr 4 [(2, .p 2 0),(3, .p 3 0),(4, .p 4 0),(5, .v (.int .i64 0))] [bS3 4 23 ⟨#[]⟩ ⟨#[]⟩ 0,bS3 3 23 a' b' d',bS3 2 23 a b d] ?_))
 refine xe (sx_next (sx_seq (sx_region (xr 2 [(4, .p 4 0),(5, .v (.int .i64 0)),eS3 6 a b d,eS3 7 a' b' d'] [bS3 4 23 ⟨#[]⟩ ⟨#[]⟩ 0] ?_))))
 refine xc 112 [vS3 a b d,vS3 a' b' d', .func (.func 113) #[] #[]] 8 (fun _:Unit=>.tuple #[vS3 ⟨#[]⟩ ⟨#[]⟩ 0, .int .i64 1]) _ (fun w hE hΦ=>(SCombMul_bad a b a' b' d d' _ hΦ L L' hx).mono (fun _ _ h=>post_val h (by rw [opV_bad hx]))) (fun xx=>?_)
 refine xr 4 [(4, .p 4 0),(5, .v (.int .i64 1))] [bS3 4 23 ⟨#[]⟩ ⟨#[]⟩ 0] ?_
 refine xe (sx_next (sx_ret ?_))
 refine sx_done (v:=.tuple #[.agg #[.string ⟨#[]⟩, .string ⟨#[]⟩, .int .i64 0], .int .i64 1]) (by kernel_rfl) (fun w' hE hΦ=>?_)
 exact ⟨by rw [opV_bad hx],hE⟩
set_option maxRecDepth 100000 in
theorem SMulT_no (a b a' b':ByteArray) (d d':Int) (w:World) (hg:Glob w) (L:(bytes a).length≤570∧(bytes b).length≤570) (L':(bytes a').length≤570∧(bytes b').length≤570) {x y:Sd} (hx:rdS (bytes a) (bytes b) d=some x) (hy:rdS (bytes a') (bytes b') d'=some y) (hB:¬ Blg x.d y.d) :
 Calls Tryz.prog 31 #[.agg #[.string a, .string b, .int .i64 d], .agg #[.string a', .string b', .int .i64 d']] w (RetV w (opV (rdS (bytes a) (bytes b) d) (rdS (bytes a') (bytes b') d') (fun x y=>okS (x.times y)) zS)):=by
 refine sx_enter (Φ:=fun w=>Glob w) Tryz.func31 rfl (by kernel_rfl) (fun w' hf=>hg.ext hf) ?_
 refine sx_seq (sx_region (xr 4 [(2, .p 2 0),(3, .p 3 0),(4, .p 4 0),(5, .v (.int .i64 0))] [bS3 4 23 ⟨#[]⟩ ⟨#[]⟩ 0,bS3 3 23 a' b' d',bS3 2 23 a b d] ?_))
 refine xe (sx_next (sx_seq (sx_region (xr 2 [(4, .p 4 0),(5, .v (.int .i64 0)),eS3 6 a b d,eS3 7 a' b' d'] [bS3 4 23 ⟨#[]⟩ ⟨#[]⟩ 0] ?_))))
 refine xc 112 [vS3 a b d,vS3 a' b' d', .func (.func 113) #[] #[]] 8 (fun _:Unit=>.tuple #[vS3 ⟨#[]⟩ ⟨#[]⟩ 0, .int .i64 9]) _ (fun w hE hΦ=>(SCombMul_no a b a' b' d d' _ hΦ L L' hx hy hB).mono (fun _ _ h=>post_val h (by rw [opV_no hx hy hB]))) (fun xx=>?_)
 refine xr 4 [(4, .p 4 0),(5, .v (.int .i64 9))] [bS3 4 23 ⟨#[]⟩ ⟨#[]⟩ 0] ?_
 refine xe (sx_next (sx_ret ?_))
 refine sx_done (v:=.tuple #[.agg #[.string ⟨#[]⟩, .string ⟨#[]⟩, .int .i64 0], .int .i64 9]) (by kernel_rfl) (fun w' hE hΦ=>?_)
 exact ⟨by rw [opV_no hx hy hB],hE⟩
set_option maxRecDepth 100000 in
theorem SMulT_ok (a b a' b':ByteArray) (d d':Int) (w:World) (hg:Glob w) (L:(bytes a).length≤570∧(bytes b).length≤570) (L':(bytes a').length≤570∧(bytes b').length≤570) {x y:Sd} (hx:rdS (bytes a) (bytes b) d=some x) (hy:rdS (bytes a') (bytes b') d'=some y) (hB:Blg x.d y.d) {j k:Nat} (Zx:∀ x,rdS (bytes a) (bytes b) d=some x→Sz x j) (Zy:∀ x,rdS (bytes a') (bytes b') d'=some x→Sz x k) (hj:j + k≤350) :
 Calls Tryz.prog 31 #[.agg #[.string a, .string b, .int .i64 d], .agg #[.string a', .string b', .int .i64 d']] w (RetV w (opV (rdS (bytes a) (bytes b) d) (rdS (bytes a') (bytes b') d') (fun x y=>okS (x.times y)) zS)):=by
 have zx:=Zx _ hx
 have zy:=Zy _ hy
 refine sx_enter (Φ:=fun w=>Glob w) Tryz.func31 rfl (by kernel_rfl) (fun w' hf=>hg.ext hf) ?_
 refine sx_seq (sx_region (xr 4 [(2, .p 2 0),(3, .p 3 0),(4, .p 4 0),(5, .v (.int .i64 0))] [bS3 4 23 ⟨#[]⟩ ⟨#[]⟩ 0,bS3 3 23 a' b' d',bS3 2 23 a b d] ?_))
 refine xe (sx_next (sx_seq (sx_region (xr 2 [(4, .p 4 0),(5, .v (.int .i64 0)),eS3 6 a b d,eS3 7 a' b' d'] [bS3 4 23 ⟨#[]⟩ ⟨#[]⟩ 0] ?_))))
 refine xc 112 [vS3 a b d,vS3 a' b' d', .func (.func 113) #[] #[]] 8 (fun _:Unit=>.tuple #[.agg #[.string ⟨(ratText (x.times y).a).toArray⟩, .string ⟨(ratText (x.times y).b).toArray⟩, .int .i64 (x.times y).d], .int .i64 0]) _ (fun w hE hΦ=>(SCombMul_ok a b a' b' d d' _ hΦ L L' hx hy hB Zx Zy hj).mono (fun _ _ h=>post_val h (by rw [opV_ok hx hy hB]))) (fun xx=>?_)
 refine xr 4 [(4, .p 4 0),(5, .v (.int .i64 0))] [(4,23,[.v (.string ⟨(ratText (x.times y).a).toArray⟩), .v (.string ⟨(ratText (x.times y).b).toArray⟩), .v (.int .i64 (x.times y).d)])] ?_
 refine xe (sx_next (sx_ret ?_))
 refine sx_done (v:=.tuple #[.agg #[.string ⟨(ratText (x.times y).a).toArray⟩, .string ⟨(ratText (x.times y).b).toArray⟩, .int .i64 (x.times y).d], .int .i64 0]) (by kernel_rfl) (fun w' hE hΦ=>?_)
 exact ⟨by rw [opV_ok hx hy hB],hE⟩
theorem SMulT_any (a b a' b':ByteArray) (d d':Int) (w:World) (hg:Glob w) (L:(bytes a).length≤570∧(bytes b).length≤570) (L':(bytes a').length≤570∧(bytes b').length≤570) {j k:Nat} (Zx:∀ x,rdS (bytes a) (bytes b) d=some x→Sz x j) (Zy:∀ x,rdS (bytes a') (bytes b') d'=some x→Sz x k) (hj:j + k≤350) :
 Calls Tryz.prog 31 #[.agg #[.string a, .string b, .int .i64 d], .agg #[.string a', .string b', .int .i64 d']] w (RetV w (opV (rdS (bytes a) (bytes b) d) (rdS (bytes a') (bytes b') d') (fun x y=>okS (x.times y)) zS)):=by
 rcases two_ways (rdS (bytes a) (bytes b) d) (rdS (bytes a') (bytes b') d') with hx | ⟨x,y,hx,hy,hB⟩ | ⟨x,y,hx,hy,hB⟩
 ·exact SMulT_bad a b a' b' d d' w hg L L' hx
 ·exact SMulT_no a b a' b' d d' w hg L L' hx hy hB
 ·exact SMulT_ok a b a' b' d d' w hg L L' hx hy hB Zx Zy hj
set_option maxRecDepth 100000 in
theorem SDivT_ok (a b a' b':ByteArray) (d d':Int) (w:World) (hg:Glob w) (L:(bytes a).length≤570∧(bytes b).length≤570) (L':(bytes a').length≤570∧(bytes b').length≤570) {x y:Sd} (hx:rdS (bytes a) (bytes b) d=some x) (hy:rdS (bytes a') (bytes b') d'=some y) (hB:Blg x.d y.d) {j k:Nat} (Zx:∀ x,rdS (bytes a) (bytes b) d=some x→Sz x j) (Zy:∀ x,rdS (bytes a') (bytes b') d'=some x→Sz x k) (hj:2 * j + 6 * k≤700) :
 Calls Tryz.prog 33 #[.agg #[.string a, .string b, .int .i64 d], .agg #[.string a', .string b', .int .i64 d']] w (RetV w (opV (rdS (bytes a) (bytes b) d) (rdS (bytes a') (bytes b') d') divV zS)):=by
 have zx:=Zx _ hx
 have zy:=Zy _ hy
 refine sx_enter (Φ:=fun w=>Glob w) Tryz.func33 rfl (by kernel_rfl) (fun w' hf=>hg.ext hf) ?_
 refine sx_seq (sx_region (xr 4 [(2, .p 2 0),(3, .p 3 0),(4, .p 4 0),(5, .v (.int .i64 0))] [bS3 4 23 ⟨#[]⟩ ⟨#[]⟩ 0,bS3 3 23 a' b' d',bS3 2 23 a b d] ?_))
 refine xe (sx_next (sx_seq (sx_region (xr 2 [(4, .p 4 0),(5, .v (.int .i64 0)),eS3 10 a b d,eS3 11 a' b' d'] [bS3 4 23 ⟨#[]⟩ ⟨#[]⟩ 0] ?_))))
 refine xc 115 [vS3 a b d,vS3 a' b' d'] 12 (fun u:ShS × ShS=>.tuple #[shSd x.d u.1,shSd y.d u.2, .int .i64 0]) _ (fun w hE hΦ=>(SReadTwo_any a b a' b' d d' _ hΦ L L').mono (fun _ _ h=>post_Rd2_ok h hx hy hB)) (fun xx=>?_)
 obtain ⟨⟨⟨s10,A10,l10,c10,t10,B10,m10,d10⟩,⟨s11,A11,l11,c11,t11,B11,m11,d11⟩⟩,⟨⟨s12,A12,l12,c12,t12,B12,m12,d12⟩,⟨s13,A13,l13,c13,t13,B13,m13,d13⟩⟩⟩:=xx
 refine xr 9 [(4, .p 4 0),(5, .v (.int .i64 0)),(6, .p 6 0),(7, .p 7 0),(8, .v (.int .i64 0))] [bV9 7 120 s12 A12 l12 c12 t12 B12 m12 d12 s13 A13 l13 c13 t13 B13 m13 d13 y.d,bV9 6 120 s10 A10 l10 c10 t10 B10 m10 d10 s11 A11 l11 c11 t11 B11 m11 d11 x.d,bS3 4 23 ⟨#[]⟩ ⟨#[]⟩ 0] ?_
 refine xe (sx_next (sx_seq (sx_block (sx_seq (sx_region (xr 3 [(4, .p 4 0),(5, .v (.int .i64 0)),(6, .p 6 0),(7, .p 7 0),(8, .v (.int .i64 0)),(16, .v (.bool false))] [bV9 7 120 s12 A12 l12 c12 t12 B12 m12 d12 s13 A13 l13 c13 t13 B13 m13 d13 y.d,bV9 6 120 s10 A10 l10 c10 t10 B10 m10 d10 s11 A11 l11 c11 t11 B11 m11 d11 x.d,bS3 4 23 ⟨#[]⟩ ⟨#[]⟩ 0] ?_))))))
 refine xe (sx_next (xb (sx_seq (sx_region (xr 1 [(4, .p 4 0),(5, .v (.int .i64 0)),(6, .p 6 0),(7, .p 7 0),eV9 22 s12 A12 l12 c12 t12 B12 m12 d12 s13 A13 l13 c13 t13 B13 m13 d13 y.d] [bV9 7 120 s12 A12 l12 c12 t12 B12 m12 d12 s13 A13 l13 c13 t13 B13 m13 d13 y.d,bV9 6 120 s10 A10 l10 c10 t10 B10 m10 d10 s11 A11 l11 c11 t11 B11 m11 d11 x.d,bS3 4 23 ⟨#[]⟩ ⟨#[]⟩ 0] ?_)))))
 by_cases hZ:y.a=0∧y.b=0
 ·refine xc 116 [vV9 s12 A12 l12 c12 t12 B12 m12 d12 s13 A13 l13 c13 t13 B13 m13 d13 y.d] 23 (fun _:Unit=>.bool true) _ (fun w hE hΦ=>(SZero_any _ y _ (SdIs.of hΦ.2.1.2 hΦ.2.2)).mono (fun _ _ h=>post_val h (by rw [zero_t hZ]))) (fun xx=>?_)
  refine xr 1 [(4, .p 4 0),(5, .v (.int .i64 0)),(6, .p 6 0),(7, .p 7 0),(21, .v (.bool true))] [bV9 7 120 s12 A12 l12 c12 t12 B12 m12 d12 s13 A13 l13 c13 t13 B13 m13 d13 y.d,bV9 6 120 s10 A10 l10 c10 t10 B10 m10 d10 s11 A11 l11 c11 t11 B11 m11 d11 x.d,bS3 4 23 ⟨#[]⟩ ⟨#[]⟩ 0] ?_
  refine xe (sx_next (xa (sx_seq (sx_region (xr 3 [(4, .p 4 0),(5, .v (.int .i64 5)),(6, .p 6 0),(7, .p 7 0)] [bV9 7 120 s12 A12 l12 c12 t12 B12 m12 d12 s13 A13 l13 c13 t13 B13 m13 d13 y.d,bV9 6 120 s10 A10 l10 c10 t10 B10 m10 d10 s11 A11 l11 c11 t11 B11 m11 d11 x.d,bS3 4 23 ⟨#[]⟩ ⟨#[]⟩ 0] ?_)))))
  refine xe (sx_next (sx_ret (sx_in_ret (sx_then_ret ?_))))
  refine sx_done (v:=.tuple #[.agg #[.string ⟨#[]⟩, .string ⟨#[]⟩, .int .i64 0], .int .i64 5]) (by kernel_rfl) (fun w' hE hΦ=>?_)
  exact ⟨by rw [opV_ok hx hy hB]; unfold divV; rw [if_pos hZ],hE⟩
 ·refine xc 116 [vV9 s12 A12 l12 c12 t12 B12 m12 d12 s13 A13 l13 c13 t13 B13 m13 d13 y.d] 23 (fun _:Unit=>.bool false) _ (fun w hE hΦ=>(SZero_any _ y _ (SdIs.of hΦ.2.1.2 hΦ.2.2)).mono (fun _ _ h=>post_val h (by rw [zero_f hZ]))) (fun xx=>?_)
  refine xr 1 [(4, .p 4 0),(5, .v (.int .i64 0)),(6, .p 6 0),(7, .p 7 0),(21, .v (.bool false))] [bV9 7 120 s12 A12 l12 c12 t12 B12 m12 d12 s13 A13 l13 c13 t13 B13 m13 d13 y.d,bV9 6 120 s10 A10 l10 c10 t10 B10 m10 d10 s11 A11 l11 c11 t11 B11 m11 d11 x.d,bS3 4 23 ⟨#[]⟩ ⟨#[]⟩ 0] ?_
  refine xe (sx_next (xb (sx_skip (sx_out (sx_next (sx_seq (sx_region (xr 2 [(4, .p 4 0),(5, .v (.int .i64 0)),eV9 25 s10 A10 l10 c10 t10 B10 m10 d10 s11 A11 l11 c11 t11 B11 m11 d11 x.d,eV9 26 s12 A12 l12 c12 t12 B12 m12 d12 s13 A13 l13 c13 t13 B13 m13 d13 y.d] [bS3 4 23 ⟨#[]⟩ ⟨#[]⟩ 0] ?_))))))))
  refine xc 117 [vV9 s10 A10 l10 c10 t10 B10 m10 d10 s11 A11 l11 c11 t11 B11 m11 d11 x.d,vV9 s12 A12 l12 c12 t12 B12 m12 d12 s13 A13 l13 c13 t13 B13 m13 d13 y.d] 27 (shSd ((x.over y).d)) _ (fun w hE hΦ=>(SOver_any _ _ x y _ hΦ.1.1 (SdIs.of hΦ.1.2.1.1.1 hΦ.1.2.1.1.2) (SdIs.of hΦ.1.2.1.2 hΦ.1.2.2) zx zy (by omega) (by omega)).mono (fun _ _ h=>post_Sd h)) (fun xx=>?_)
  obtain ⟨⟨s14,A14,l14,c14,t14,B14,m14,d14⟩,⟨s15,A15,l15,c15,t15,B15,m15,d15⟩⟩:=xx
  refine xr 0 [(4, .p 4 0),(5, .v (.int .i64 0)),(27, .v (.agg #[.bool s14, .slice A14 l14 c14, .bool t14, .slice B14 m14 d14, .bool s15, .slice A15 l15 c15, .bool t15, .slice B15 m15 d15, .int .i64 ((x.over y).d)]))] [bS3 4 23 ⟨#[]⟩ ⟨#[]⟩ 0] ?_
  refine xc 94 [.agg #[.bool s14, .slice A14 l14 c14, .bool t14, .slice B14 m14 d14, .bool s15, .slice A15 l15 c15, .bool t15, .slice B15 m15 d15, .int .i64 ((x.over y).d)]] 28 (fun _:Unit=>vS3 ⟨(ratText ((x.over y).a)).toArray⟩ ⟨(ratText ((x.over y).b)).toArray⟩ ((x.over y).d)) _ (fun w hE hΦ=>(SWrite_any _ (x.over y) _ hΦ.1.1.1 (SdIs.of hΦ.2.1 hΦ.2.2) (j:=(2 * (j + k) + 8 + (4 * k + 8))) (zx.over zy).a (zx.over zy).b (by omega)).mono (fun _ _ h=>post_val h rfl)) (fun xx=>?_)
  refine xr 2 [(4, .p 4 0),(5, .v (.int .i64 0))] [bS3 4 23 ⟨(ratText ((x.over y).a)).toArray⟩ ⟨(ratText ((x.over y).b)).toArray⟩ ((x.over y).d)] ?_
  refine xe (sx_next (sx_ret ?_))
  refine sx_done (v:=.tuple #[.agg #[.string ⟨(ratText ((x.over y).a)).toArray⟩, .string ⟨(ratText ((x.over y).b)).toArray⟩, .int .i64 ((x.over y).d)], .int .i64 0]) (by kernel_rfl) (fun w' hE hΦ=>?_)
  exact ⟨by rw [opV_ok hx hy hB]; unfold divV; rw [if_neg hZ],hE⟩
set_option maxRecDepth 100000 in
theorem SConjT_ok (a b:ByteArray) (d:Int) (w:World) (hg:Glob w) (L:(bytes a).length≤570∧(bytes b).length≤570) {x:Sd} (hx:rdS (bytes a) (bytes b) d=some x) {j:Nat} (Zx:∀ x,rdS (bytes a) (bytes b) d=some x→Sz x j) (hj:j≤350) :
 Calls Tryz.prog 23 #[.agg #[.string a, .string b, .int .i64 d]] w (RetV w (opU (rdS (bytes a) (bytes b) d) (fun x=>okS x.conj) zS)):=by
 have zx:=Zx _ hx
 refine sx_enter (Φ:=fun w=>Glob w) Tryz.func23 rfl (by kernel_rfl) (fun w' hf=>hg.ext hf) ?_
 refine sx_seq (sx_region (xr 3 [(1, .p 1 0),(2, .p 2 0),(3, .v (.int .i64 0))] [bS3 2 23 ⟨#[]⟩ ⟨#[]⟩ 0,bS3 1 23 a b d] ?_))
 refine xe (sx_next (sx_seq (sx_region (xr 1 [(2, .p 2 0),(3, .v (.int .i64 0)),eS3 7 a b d] [bS3 2 23 ⟨#[]⟩ ⟨#[]⟩ 0] ?_))))
 refine xc 102 [vS3 a b d] 8 (fun u0:ShS=>.tuple #[shSd x.d u0, .bool true]) _ (fun w hE hΦ=>(SRead_any a b d _ hΦ L).mono (fun _ _ h=>post_Rd_some h hx)) (fun xx=>?_)
 obtain ⟨⟨s10,A10,l10,c10,t10,B10,m10,d10⟩,⟨s11,A11,l11,c11,t11,B11,m11,d11⟩⟩:=xx
 refine xr 6 [(2, .p 2 0),(3, .v (.int .i64 0)),(4, .p 4 0),(5, .v (.bool true))] [bV9 4 120 s10 A10 l10 c10 t10 B10 m10 d10 s11 A11 l11 c11 t11 B11 m11 d11 x.d,bS3 2 23 ⟨#[]⟩ ⟨#[]⟩ 0] ?_
 refine xe (sx_next (sx_seq (sx_seq (sx_region (xr 2 [(2, .p 2 0),(3, .v (.int .i64 0)),(4, .p 4 0),(12, .v (.bool false))] [bV9 4 120 s10 A10 l10 c10 t10 B10 m10 d10 s11 A11 l11 c11 t11 B11 m11 d11 x.d,bS3 2 23 ⟨#[]⟩ ⟨#[]⟩ 0] ?_)))))
 refine xe (sx_next (xb (sx_skip (sx_next (sx_seq (sx_region (xr 1 [(2, .p 2 0),(3, .v (.int .i64 0)),eV9 14 s10 A10 l10 c10 t10 B10 m10 d10 s11 A11 l11 c11 t11 B11 m11 d11 x.d] [bS3 2 23 ⟨#[]⟩ ⟨#[]⟩ 0] ?_)))))))
 refine xc 105 [vV9 s10 A10 l10 c10 t10 B10 m10 d10 s11 A11 l11 c11 t11 B11 m11 d11 x.d] 15 (shSd x.conj.d) _ (fun w hE hΦ=>(SConj_any _ x _ (SdIs.of hΦ.2.1 hΦ.2.2)).mono (fun _ _ h=>post_Sd h)) (fun xx=>?_)
 obtain ⟨⟨s12,A12,l12,c12,t12,B12,m12,d12⟩,⟨s13,A13,l13,c13,t13,B13,m13,d13⟩⟩:=xx
 refine xr 0 [(2, .p 2 0),(3, .v (.int .i64 0)),eV9 15 s12 A12 l12 c12 t12 B12 m12 d12 s13 A13 l13 c13 t13 B13 m13 d13 x.conj.d] [bS3 2 23 ⟨#[]⟩ ⟨#[]⟩ 0] ?_
 refine xc 94 [vV9 s12 A12 l12 c12 t12 B12 m12 d12 s13 A13 l13 c13 t13 B13 m13 d13 x.conj.d] 16 (fun _:Unit=>vS3 ⟨(ratText x.conj.a).toArray⟩ ⟨(ratText x.conj.b).toArray⟩ x.conj.d) _ (fun w hE hΦ=>(SWrite_any _ x.conj _ hΦ.1.1 (SdIs.of hΦ.2.1 hΦ.2.2) (j:=j) zx.conj.a zx.conj.b (by omega)).mono (fun _ _ h=>post_val h rfl)) (fun xx=>?_)
 refine xr 2 [(2, .p 2 0),(3, .v (.int .i64 0))] [bS3 2 23 ⟨(ratText x.conj.a).toArray⟩ ⟨(ratText x.conj.b).toArray⟩ x.conj.d] ?_
 refine xe (sx_next (sx_ret ?_))
 refine sx_done (v:=.tuple #[.agg #[.string ⟨(ratText x.conj.a).toArray⟩, .string ⟨(ratText x.conj.b).toArray⟩, .int .i64 x.conj.d], .int .i64 0]) (by kernel_rfl) (fun w' hE hΦ=>?_)
 exact ⟨by rw [opU_ok hx],hE⟩
set_option maxRecDepth 100000 in
theorem SNormT_bad (a b:ByteArray) (d:Int) (w:World) (hg:Glob w) (L:(bytes a).length≤570∧(bytes b).length≤570) (hx:rdS (bytes a) (bytes b) d=none) :
 Calls Tryz.prog 24 #[.agg #[.string a, .string b, .int .i64 d]] w (RetV w (opU (rdS (bytes a) (bytes b) d) (fun x=>.tuple #[.string ⟨(ratText x.norm).toArray⟩, .int .i64 0]) (.string ⟨#[]⟩))):=by
 refine sx_enter (Φ:=fun w=>Glob w) Tryz.func24 rfl (by kernel_rfl) (fun w' hf=>hg.ext hf) ?_
 refine sx_seq (sx_region (xr 3 [(1, .p 1 0),(2, .v (.string ⟨#[]⟩)),(3, .v (.int .i64 0))] [bS3 1 23 a b d] ?_))
 refine xe (sx_next (sx_seq (sx_region (xr 1 [(2, .v (.string ⟨#[]⟩)),(3, .v (.int .i64 0)),eS3 7 a b d] [] ?_))))
 refine xc 102 [vS3 a b d] 8 (fun u0:Int × ShS=>.tuple #[shSd u0.1 u0.2, .bool false]) _ (fun w hE hΦ=>(SRead_any a b d _ hΦ L).mono (fun _ _ h=>post_Rd_none h hx)) (fun xx=>?_)
 obtain ⟨d12d,⟨s10,A10,l10,c10,t10,B10,m10,d10⟩,⟨s11,A11,l11,c11,t11,B11,m11,d11⟩⟩:=xx
 refine xr 6 [(2, .v (.string ⟨#[]⟩)),(3, .v (.int .i64 0)),(4, .p 4 0),(5, .v (.bool false))] [bV9 4 120 s10 A10 l10 c10 t10 B10 m10 d10 s11 A11 l11 c11 t11 B11 m11 d11 d12d] ?_
 refine xe (sx_next (sx_seq (sx_seq (sx_region (xr 2 [(2, .v (.string ⟨#[]⟩)),(3, .v (.int .i64 0)),(4, .p 4 0),(12, .v (.bool true))] [bV9 4 120 s10 A10 l10 c10 t10 B10 m10 d10 s11 A11 l11 c11 t11 B11 m11 d11 d12d] ?_)))))
 refine xe (sx_next (xa (sx_seq (sx_region (xr 2 [(2, .v (.string ⟨#[]⟩)),(3, .v (.int .i64 1)),(4, .p 4 0)] [bV9 4 120 s10 A10 l10 c10 t10 B10 m10 d10 s11 A11 l11 c11 t11 B11 m11 d11 d12d] ?_)))))
 refine xe (sx_next (sx_ret (sx_then_ret ?_)))
 refine sx_done (v:=.tuple #[.string ⟨#[]⟩, .int .i64 1]) (by kernel_rfl) (fun w' hE hΦ=>?_)
 exact ⟨by rw [opU_bad hx],hE⟩
set_option maxRecDepth 100000 in
theorem SNormT_ok (a b:ByteArray) (d:Int) (w:World) (hg:Glob w) (L:(bytes a).length≤570∧(bytes b).length≤570) {x:Sd} (hx:rdS (bytes a) (bytes b) d=some x) {j:Nat} (Zx:∀ x,rdS (bytes a) (bytes b) d=some x→Sz x j) (hj:j≤170) :
 Calls Tryz.prog 24 #[.agg #[.string a, .string b, .int .i64 d]] w (RetV w (opU (rdS (bytes a) (bytes b) d) (fun x=>.tuple #[.string ⟨(ratText x.norm).toArray⟩, .int .i64 0]) (.string ⟨#[]⟩))):=by
 have zx:=Zx _ hx
 refine sx_enter (Φ:=fun w=>Glob w) Tryz.func24 rfl (by kernel_rfl) (fun w' hf=>hg.ext hf) ?_
 refine sx_seq (sx_region (xr 3 [(1, .p 1 0),(2, .v (.string ⟨#[]⟩)),(3, .v (.int .i64 0))] [bS3 1 23 a b d] ?_))
 refine xe (sx_next (sx_seq (sx_region (xr 1 [(2, .v (.string ⟨#[]⟩)),(3, .v (.int .i64 0)),eS3 7 a b d] [] ?_))))
 refine xc 102 [vS3 a b d] 8 (fun u0:ShS=>.tuple #[shSd x.d u0, .bool true]) _ (fun w hE hΦ=>(SRead_any a b d _ hΦ L).mono (fun _ _ h=>post_Rd_some h hx)) (fun xx=>?_)
 obtain ⟨⟨s10,A10,l10,c10,t10,B10,m10,d10⟩,⟨s11,A11,l11,c11,t11,B11,m11,d11⟩⟩:=xx
 refine xr 6 [(2, .v (.string ⟨#[]⟩)),(3, .v (.int .i64 0)),(4, .p 4 0),(5, .v (.bool true))] [bV9 4 120 s10 A10 l10 c10 t10 B10 m10 d10 s11 A11 l11 c11 t11 B11 m11 d11 x.d] ?_
 refine xe (sx_next (sx_seq (sx_seq (sx_region (xr 2 [(2, .v (.string ⟨#[]⟩)),(3, .v (.int .i64 0)),(4, .p 4 0),(12, .v (.bool false))] [bV9 4 120 s10 A10 l10 c10 t10 B10 m10 d10 s11 A11 l11 c11 t11 B11 m11 d11 x.d] ?_)))))
 refine xe (sx_next (xb (sx_skip (sx_next (sx_seq (sx_region (xr 1 [(2, .v (.string ⟨#[]⟩)),(3, .v (.int .i64 0)),eV9 13 s10 A10 l10 c10 t10 B10 m10 d10 s11 A11 l11 c11 t11 B11 m11 d11 x.d] [] ?_)))))))
 refine xc 106 [vV9 s10 A10 l10 c10 t10 B10 m10 d10 s11 A11 l11 c11 t11 B11 m11 d11 x.d] 14 shRat _ (fun w hE hΦ=>(SNorm_any _ x _ hΦ.1 (SdIs.of hΦ.2.1 hΦ.2.2) zx (by omega)).mono (fun _ _ h=>post_Rat h)) (fun xx=>?_)
 obtain ⟨s12,A12,l12,c12,t12,B12,m12,d12⟩:=xx
 refine xr 0 [(2, .v (.string ⟨#[]⟩)),(3, .v (.int .i64 0)),eR4 14 s12 A12 l12 c12 t12 B12 m12 d12] [] ?_
 refine xc 107 [vR4 s12 A12 l12 c12 t12 B12 m12 d12] 15 (fun _:Unit=>.string ⟨(ratText x.norm).toArray⟩) _ (fun w hE hΦ=>(RString_any _ x.norm _ hΦ.1.1 hΦ.2 (zx.norm.prt (by omega)).1 (zx.norm.prt (by omega)).2).mono (fun _ _ h=>post_val h rfl)) (fun xx=>?_)
 refine xr 2 [(2, .v (.string ⟨(ratText x.norm).toArray⟩)),(3, .v (.int .i64 0))] [] ?_
 refine xe (sx_next (sx_ret ?_))
 refine sx_done (v:=.tuple #[.string ⟨(ratText x.norm).toArray⟩, .int .i64 0]) (by kernel_rfl) (fun w' hE hΦ=>?_)
 exact ⟨by rw [opU_ok hx],hE⟩
theorem SNormT_any (a b:ByteArray) (d:Int) (w:World) (hg:Glob w) (L:(bytes a).length≤570∧(bytes b).length≤570) {j:Nat} (Zx:∀ x,rdS (bytes a) (bytes b) d=some x→Sz x j) (hj:j≤170) :
 Calls Tryz.prog 24 #[.agg #[.string a, .string b, .int .i64 d]] w (RetV w (opU (rdS (bytes a) (bytes b) d) (fun x=>.tuple #[.string ⟨(ratText x.norm).toArray⟩, .int .i64 0]) (.string ⟨#[]⟩))):=by
 rcases opt_two (rdS (bytes a) (bytes b) d) with hx | ⟨x,hx⟩
 ·exact SNormT_bad a b d w hg L hx
 ·exact SNormT_ok a b d w hg L hx Zx hj
set_option maxRecDepth 100000 in
theorem SSignT_ok (a b:ByteArray) (d:Int) (w:World) (hg:Glob w) (L:(bytes a).length≤570∧(bytes b).length≤570) {x:Sd} (hx:rdS (bytes a) (bytes b) d=some x) {j:Nat} (Zx:∀ x,rdS (bytes a) (bytes b) d=some x→Sz x j) (hj:j≤350) :
 Calls Tryz.prog 25 #[.agg #[.string a, .string b, .int .i64 d]] w (RetV w (opU (rdS (bytes a) (bytes b) d) (fun x=>.tuple #[.int .i64 x.sgn, .int .i64 0]) (.int .i64 0))):=by
 have zx:=Zx _ hx
 refine sx_enter (Φ:=fun w=>Glob w) Tryz.func25 rfl (by kernel_rfl) (fun w' hf=>hg.ext hf) ?_
 refine sx_seq (sx_region (xr 3 [(1, .p 1 0),(2, .v (.int .i64 0)),(3, .v (.int .i64 0))] [bS3 1 23 a b d] ?_))
 refine xe (sx_next (sx_seq (sx_region (xr 1 [(2, .v (.int .i64 0)),(3, .v (.int .i64 0)),eS3 7 a b d] [] ?_))))
 refine xc 102 [vS3 a b d] 8 (fun u0:ShS=>.tuple #[shSd x.d u0, .bool true]) _ (fun w hE hΦ=>(SRead_any a b d _ hΦ L).mono (fun _ _ h=>post_Rd_some h hx)) (fun xx=>?_)
 obtain ⟨⟨s10,A10,l10,c10,t10,B10,m10,d10⟩,⟨s11,A11,l11,c11,t11,B11,m11,d11⟩⟩:=xx
 refine xr 6 [(2, .v (.int .i64 0)),(3, .v (.int .i64 0)),(4, .p 4 0),(5, .v (.bool true))] [bV9 4 120 s10 A10 l10 c10 t10 B10 m10 d10 s11 A11 l11 c11 t11 B11 m11 d11 x.d] ?_
 refine xe (sx_next (sx_seq (sx_seq (sx_region (xr 2 [(2, .v (.int .i64 0)),(3, .v (.int .i64 0)),(4, .p 4 0),(12, .v (.bool false))] [bV9 4 120 s10 A10 l10 c10 t10 B10 m10 d10 s11 A11 l11 c11 t11 B11 m11 d11 x.d] ?_)))))
 refine xe (sx_next (xb (sx_skip (sx_next (sx_seq (sx_region (xr 1 [(2, .v (.int .i64 0)),(3, .v (.int .i64 0)),eV9 13 s10 A10 l10 c10 t10 B10 m10 d10 s11 A11 l11 c11 t11 B11 m11 d11 x.d] [] ?_)))))))
 refine xc 108 [vV9 s10 A10 l10 c10 t10 B10 m10 d10 s11 A11 l11 c11 t11 B11 m11 d11 x.d] 14 (fun _:Unit=>.int .i64 x.sgn) _ (fun w hE hΦ=>(SSign_any _ x _ hΦ.1 (SdIs.of hΦ.2.1 hΦ.2.2) zx (by omega)).mono (fun _ _ h=>post_val h rfl)) (fun xx=>?_)
 refine xr 2 [(2, .v (.int .i64 x.sgn)),(3, .v (.int .i64 0))] [] ?_
 refine xe (sx_next (sx_ret ?_))
 refine sx_done (v:=.tuple #[.int .i64 x.sgn, .int .i64 0]) (by kernel_rfl) (fun w' hE hΦ=>?_)
 exact ⟨by rw [opU_ok hx],hE⟩
end Go.Proofs.YtbgkofgoeoiciaaGreatDoor

namespace Go.Proofs.YtbgkofgoeoiciaaGreatDoor
open Go.RowKit
open Sd
section
variable {x y z:Sd}
theorem pair_in (hx:x.Ok) (hy:y.Ok) (hb:Blg x.d y.d):∃ D,Fld D∧∃ a b a' b',x=nv a b D∧y=nv a' b' D:=by
 obtain ⟨D,hD,e1,e2⟩:=two_in hx hy hb
 exact ⟨D,hD,_,_,_,_,e1,e2⟩
theorem trip_in (hx:x.Ok) (hy:y.Ok) (hz:z.Ok) (h1:Blg x.d y.d) (h2:Blg y.d z.d) (h3:Blg x.d z.d):∃ D,Fld D∧∃ a b a' b' a'' b'',x=nv a b D∧y=nv a' b' D∧z=nv a'' b'' D:=by
 obtain ⟨D,hD,e1,e2,e3⟩:=three_in hx hy hz h1 h2 h3
 exact ⟨D,hD,_,_,_,_,_,_,e1,e2,e3⟩
theorem one_in (hx:x.Ok):∃ D,Fld D∧∃ a b,x=nv a b D:=by
 obtain ⟨D,hD,h1,h2⟩:=hx.field
 exact ⟨D,hD,_,_,h2 D h1⟩
theorem add_eq (hx:x.Ok) (hy:y.Ok) (hb:Blg x.d y.d):(x.plus y).Ok∧x.rplus 1 y=x.plus y:=by
 obtain ⟨D,hD,a,b,a',b',rfl,rfl⟩:=pair_in hx hy hb
 rw [plus_nv hD,rplus_nv hD]
 exact ⟨hD.nv_ok _ _,nv_congr (by grind) (by grind)⟩
theorem mul_eq (hx:x.Ok) (hy:y.Ok) (hb:Blg x.d y.d):(x.times y).Ok∧x.rtimes y=x.times y:=by
 obtain ⟨D,hD,a,b,a',b',rfl,rfl⟩:=pair_in hx hy hb
 rw [times_nv hD,rtimes_nv hD]
 exact ⟨hD.nv_ok _ _,rfl⟩
theorem nv_z {D:Int} (_hD:Fld D) {a b:Rat}:((nv a b D).a=0∧(nv a b D).b=0) ↔ (a=0∧b=0):=by rw [nv_a,nv_b]
theorem one_field (hx:x.Ok):x.neg.Ok∧x.conj.Ok∧x.rnorm=x.norm∧x.rsgn=x.sgn:=by
 obtain ⟨D,hD,a,b,rfl⟩:=one_in hx
 rw [neg_nv hD,conj_nv hD,rnorm_nv hD,norm_nv hD,rsgn_nv hD]
 exact ⟨hD.nv_ok _ _,hD.nv_ok _ _,rfl,rfl⟩
theorem distr (hx:x.Ok) (hy:y.Ok) (hz:z.Ok) (h1:Blg x.d y.d) (h2:Blg y.d z.d) (h3:Blg x.d z.d) :
 Blg x.d (y.plus z).d∧Blg (x.times y).d (x.times z).d∧(x.times y).plus (x.times z)=x.times (y.plus z):=by
 obtain ⟨D,hD,a,b,a',b',a'',b'',rfl,rfl,rfl⟩:=trip_in hx hy hz h1 h2 h3
 rw [plus_nv hD,times_nv hD,times_nv hD,times_nv hD,plus_nv hD]
 exact ⟨blg_nv hD _ _ _ _,blg_nv hD _ _ _ _,nv_congr (by grind) (by grind)⟩
theorem sgn_times (hx:x.Ok) (hy:y.Ok) (hb:Blg x.d y.d):(x.times y).sgn=x.sgn * y.sgn:=by
 obtain ⟨D,hD,a,b,a',b',rfl,rfl⟩:=pair_in hx hy hb
 exact sgn_mul hD _ _ _ _
theorem sgn_is0 (hx:x.Ok):x.sgn=0 ↔ (x.a=0∧x.b=0):=by
 obtain ⟨D,hD,a,b,rfl⟩:=one_in hx
 rw [nv_z hD]
 have e0:nrm (0:Rat) 0 D=0:=by unfold nrm; grind
 constructor
 ·intro h
  rcases sgn_nv hD a b with ⟨k,e⟩ | ⟨k,e⟩ | ⟨k1,k2,_,_⟩
  ·rw [h] at e
   have ha:=sg3_zero.1 e.symm
   subst ha
   have:=Rat.mul_nonneg (rsq b) (Rat.le_of_lt (Rat.intCast_pos.2 (show 0 < D by have:=hD.two; omega)))
   unfold nrm at k; grind
  ·rw [h] at e
   have hb:=sg3_zero.1 e.symm
   subst hb
   have:=rsq a
   unfold nrm at k; grind
  ·exact ⟨k1,k2⟩
 ·rintro ⟨rfl,rfl⟩
  rcases sgn_nv hD 0 0 with ⟨k,e⟩ | ⟨k,e⟩ | ⟨_,_,_,e⟩
  ·rw [e0] at k; exact absurd k (by decide)
  ·rw [e0] at k; exact absurd k (by decide)
  ·exact e
theorem back (hx:x.Ok) (hy:y.Ok) (hb:Blg x.d y.d) (h0:¬ (y.a=0∧y.b=0)):Blg (x.times y).d y.d∧(x.times y).over y=x:=by
 obtain ⟨D,hD,a,b,a',b',rfl,rfl⟩:=pair_in hx hy hb
 rw [nv_z hD] at h0
 have hn:=nrm_nz hD.two hD.free h0
 rw [times_nv hD,over_nv hD]
 refine ⟨blg_nv hD _ _ _ _,nv_congr ?_ ?_⟩
 ·have h:=Rat.mul_inv_cancel _ hn
  generalize (nrm a' b' D)⁻¹=i at *
  unfold nrm at h
  grind
 ·have h:=Rat.mul_inv_cancel _ hn
  generalize (nrm a' b' D)⁻¹=i at *
  unfold nrm at h
  grind
theorem norm_times (hx:x.Ok) (hy:y.Ok) (hb:Blg x.d y.d):(x.times y).norm=x.norm * y.norm∧Blg x.conj.d y.conj.d∧x.conj.times y.conj=(x.times y).conj:=by
 obtain ⟨D,hD,a,b,a',b',rfl,rfl⟩:=pair_in hx hy hb
 rw [times_nv hD,norm_nv hD,norm_nv hD,norm_nv hD,conj_nv hD,conj_nv hD,conj_nv hD,times_nv hD]
 exact ⟨nrm_mul a b a' b',blg_nv hD _ _ _ _,nv_congr (by grind) (by grind)⟩
theorem sgn_norm (hx:x.Ok) (h:¬ x.norm.num.sign≤0):x.sgn=x.a.num.sign:=by
 obtain ⟨D,hD,a,b,rfl⟩:=one_in hx
 rw [norm_nv hD] at h
 rw [nv_a]
 have hp:0 < nrm a b D:=by
  rcases sg3_cases (nrm a b D) with ⟨_,e⟩ | ⟨_,e⟩ | ⟨k,_⟩
  ·unfold sg3 at e; omega
  ·unfold sg3 at e; omega
  ·exact k
 rcases sgn_nv hD a b with ⟨k,e⟩ | ⟨k,e⟩ | ⟨_,_,k,_⟩
 ·exact e
 ·exfalso; grind
 ·rw [k] at hp; exact absurd hp (by decide)
end
theorem rd_txt {z:Sd} (hz:z.Ok):rdS (ratText z.a) (ratText z.b) z.d=some z:=rdS_some (read_text _) (read_text _) hz
end Go.Proofs.YtbgkofgoeoiciaaGreatDoor

namespace Go.Proofs.YtbgkofgoeoiciaaGreatDoor
open Go.RowKit
open Sd
section
variable {x y:Sd} {j k:Nat}
end
theorem sign_le (z:Int) : -1≤z.sign∧z.sign≤1:=by
 rcases sign3 z with ⟨_,h⟩ | ⟨_,h⟩ | ⟨_,h⟩<;>rw [h]<;>decide
end Go.Proofs.YtbgkofgoeoiciaaGreatDoor

namespace Go.Proofs.YtbgkofgoeoiciaaGreatDoor
open Go.RowKit
end Go.Proofs.YtbgkofgoeoiciaaGreatDoor

namespace Go.Proofs.YtbgkofgoeoiciaaGreatDoor
open Go.RowKit
end Go.Proofs.YtbgkofgoeoiciaaGreatDoor

namespace Go.Proofs.YtbgkofgoeoiciaaGreatDoor
open Go.RowKit
end Go.Proofs.YtbgkofgoeoiciaaGreatDoor

namespace Go.Proofs.YtbgkofgoeoiciaaGreatDoor
open Go.RowKit
open Sd
structure TIs (a b:ByteArray) (d:Int) (x:Sd) (j:Nat):Prop where
 rd:rdS (bytes a) (bytes b) d=some x
 len:(bytes a).length≤570∧(bytes b).length≤570
 sz:Sz x j
abbrev tB (q:Rat):ByteArray:=⟨(ratText q).toArray⟩
theorem TIs.of {r:Sd} {j:Nat} (hr:r.Ok) (hz:Sz r j) (h1:1≤j) (hj:2 * j + 3≤570):TIs (tB r.a) (tB r.b) r.d r j:=by
 refine ⟨?_,?_,hz⟩
 ·rw [bytes_of,bytes_of]; exact rd_txt hr
 ·rw [bytes_of,bytes_of]; exact ⟨small_len h1 hz.a hj,small_len h1 hz.b hj⟩
theorem TIs.in {a b:ByteArray} {d:Int} {x:Sd} {k:Nat} (h:rdS (bytes a) (bytes b) d=some x) (ha:(bytes a).length≤k) (hb:(bytes b).length≤k) (h1:1≤k) (hk:k≤570):TIs a b d x k :=
 ⟨h,⟨Nat.le_trans ha hk,Nat.le_trans hb hk⟩,rdS_sz h ha hb h1⟩
theorem TIs.ok {a b:ByteArray} {d:Int} {x:Sd} {j:Nat} (h:TIs a b d x j):x.Ok:=(rdS_spec h.rd).2.2.2
theorem TIs.zz {a b:ByteArray} {d:Int} {x:Sd} {j:Nat} (h:TIs a b d x j):∀ y,rdS (bytes a) (bytes b) d=some y→Sz y j:=fun y hy=>by
 have:=h.rd.symm.trans hy; injection this with e; exact e ▸ h.sz
theorem toList_tB (q:Rat):(tB q).toList=ratText q:=Lib.toList_data _
theorem TIs.back {a b:ByteArray} {d:Int} {x:Sd} {j:Nat} (h:TIs a b d x j):((tB x.a).toList == a.toList && ((tB x.b).toList == b.toList && (x.d == d)))=true:=by
 obtain ⟨h1,h2,h3,_⟩:=rdS_spec h.rd
 have e1:=text_of_read h1
 have e2:=text_of_read h2
 rw [toList_tB,toList_tB,e1,e2,h3]
 simp [bytes,ByteArray.toList_eq]
section
variable {a b a' b':ByteArray} {d d':Int} {x y r:Sd} {j k:Nat} {w:World}
theorem lMul (hg:Glob w) (hx:TIs a b d x j) (hy:TIs a' b' d' y k) (hB:Blg x.d y.d) (hr:x.times y=r) (hj:j + k≤350) :
 Calls Tryz.prog 31 #[.agg #[.string a, .string b, .int .i64 d], .agg #[.string a', .string b', .int .i64 d']] w (RetV w (okS r)):=by
 have h:=SMulT_ok a b a' b' d d' w hg hx.len hy.len hx.rd hy.rd hB hx.zz hy.zz hj
 rw [opV_ok hx.rd hy.rd hB,hr] at h; exact h
theorem lAdd (hg:Glob w) (hx:TIs a b d x j) (hy:TIs a' b' d' y k) (hB:Blg x.d y.d) (hr:x.plus y=r) (hj:j + k≤700) :
 Calls Tryz.prog 32 #[.agg #[.string a, .string b, .int .i64 d], .agg #[.string a', .string b', .int .i64 d']] w (RetV w (okS r)):=by
 have h:=SAddT_ok a b a' b' d d' w hg hx.len hy.len hx.rd hy.rd hB hx.zz hy.zz hj
 rw [opV_ok hx.rd hy.rd hB,hr] at h; exact h
theorem lDiv (hg:Glob w) (hx:TIs a b d x j) (hy:TIs a' b' d' y k) (hB:Blg x.d y.d) (h0:¬ (y.a=0∧y.b=0)) (hr:x.over y=r) (hj:2 * j + 6 * k≤700) :
 Calls Tryz.prog 33 #[.agg #[.string a, .string b, .int .i64 d], .agg #[.string a', .string b', .int .i64 d']] w (RetV w (okS r)):=by
 have h:=SDivT_ok a b a' b' d d' w hg hx.len hy.len hx.rd hy.rd hB hx.zz hy.zz hj
 rw [opV_ok hx.rd hy.rd hB] at h; unfold divV at h; rw [if_neg h0,hr] at h; exact h
theorem lDiv0 (hg:Glob w) (hx:TIs a b d x j) (hy:TIs a' b' d' y k) (hB:Blg x.d y.d) (h0:y.a=0∧y.b=0) (hj:2 * j + 6 * k≤700) :
 Calls Tryz.prog 33 #[.agg #[.string a, .string b, .int .i64 d], .agg #[.string a', .string b', .int .i64 d']] w (RetV w (.tuple #[zS, .int .i64 5])):=by
 have h:=SDivT_ok a b a' b' d d' w hg hx.len hy.len hx.rd hy.rd hB hx.zz hy.zz hj
 rw [opV_ok hx.rd hy.rd hB] at h; unfold divV at h; rw [if_pos h0] at h; exact h
theorem lConj (hg:Glob w) (hx:TIs a b d x j) (hr:x.conj=r) (hj:j≤350):Calls Tryz.prog 23 #[.agg #[.string a, .string b, .int .i64 d]] w (RetV w (okS r)):=by
 have h:=SConjT_ok a b d w hg hx.len hx.rd hx.zz hj
 rw [opU_ok hx.rd,hr] at h; exact h
theorem lNorm {q:Rat} (hg:Glob w) (hx:TIs a b d x j) (hr:x.norm=q) (hj:j≤170):Calls Tryz.prog 24 #[.agg #[.string a, .string b, .int .i64 d]] w (RetV w (.tuple #[.string (tB q), .int .i64 0])):=by
 have h:=SNormT_ok a b d w hg hx.len hx.rd hx.zz hj
 rw [opU_ok hx.rd,hr] at h; exact h
theorem lSign {n:Int} (hg:Glob w) (hx:TIs a b d x j) (hr:x.sgn=n) (hj:j≤350):Calls Tryz.prog 25 #[.agg #[.string a, .string b, .int .i64 d]] w (RetV w (.tuple #[.int .i64 n, .int .i64 0])):=by
 have h:=SSignT_ok a b d w hg hx.len hx.rd hx.zz hj
 rw [opU_ok hx.rd,hr] at h; exact h
-- the reference
end
def cellsS (l:List (ByteArray × ByteArray × Int)):List Value:=l.flatMap fun p=>[.string p.1, .string p.2.1, .int .i64 p.2.2]
theorem cellsS_at:∀ (l:List (ByteArray × ByteArray × Int)) (i:Nat) (p:ByteArray × ByteArray × Int),l[i]? = some p→(cellsS l)[i * 3]? = some (.string p.1)∧(cellsS l)[i * 3 + 1]? = some (.string p.2.1)
 | [],i,p,h=>by simp at h
 | q :: l,0,p,h=>by
   simp at h; subst h
   exact ⟨rfl,rfl⟩
 | q :: l,i + 1,p,h=>by
   simp at h
   have:=cellsS_at l i p h
   simp only [cellsS,List.flatMap_cons,Nat.succ_mul] at this ⊢
   exact this
theorem srow_at {e:TypeId} {w:World} {g i:Nat} {l:List (ByteArray × ByteArray × Int)} {p:ByteArray × ByteArray × Int} (hB:Blk e w g (cellsS l).toArray) (hp:l[i]? = some p) :
 w.cell? ⟨g,i * 3,none⟩=some (.string p.1)∧w.cell? ⟨g,i * 3 + 1,none⟩=some (.string p.2.1):=by
 obtain ⟨h1,h2⟩:=cellsS_at l i p hp
 rw [hB.cell,hB.cell]
 exact ⟨by simpa using h1,by simpa using h2⟩
def okP (p:ByteArray × ByteArray × Int):Bool:=decide ((p.1.size:Int)≤40) && decide ((p.2.1.size:Int)≤40)
theorem okP_eq (p:ByteArray × ByteArray × Int):[p.1,p.2.1].all (fun s=>decide ((s.size:Int)≤40))=okP p:=by simp [okP]
theorem all_no {l:List (ByteArray × ByteArray × Int)} {i:Nat} {p:ByteArray × ByteArray × Int} (hp:l[i]? = some p) (h:okP p=false):l.all okP=false:=by
 rw [List.all_eq_false]; exact ⟨p,List.mem_of_getElem? hp,by rw [h]; decide⟩
theorem all_yes {l:List (ByteArray × ByteArray × Int)} {i:Nat} (h:∀ j p,j < i→l[j]? = some p→okP p=true) (hi:¬ i < l.length):l.all okP=true:=by
 rw [List.all_eq_true]
 intro p hp
 obtain ⟨j,hj,rfl⟩:=List.getElem_of_mem hp
 exact h j _ (by omega) (List.getElem?_eq_getElem hj)
theorem all_next {l:List (ByteArray × ByteArray × Int)} {i:Nat} {p:ByteArray × ByteArray × Int} (h:∀ j p,j < i→l[j]? = some p→okP p=true) (hp:l[i]? = some p) (hk:okP p=true):∀ j p,j < i + 1→l[j]? = some p→okP p=true:=fun j q hj hq=>by
 by_cases e:j=i
 ·subst e; rw [hp] at hq; injection hq with hq; subst hq; exact hk
 ·exact h j q (by omega) hq
end Go.Proofs.YtbgkofgoeoiciaaGreatDoor

namespace Go.Proofs.YtbgkofgoeoiciaaGreatDoor
open Go.RowKit
theorem okP_len {p:ByteArray × ByteArray × Int} (h:okP p=true):(bytes p.1).length≤40∧(bytes p.2.1).length≤40:=by
 unfold okP at h
 rw [Bool.and_eq_true,decide_eq_true_eq,decide_eq_true_eq] at h
 rw [bytes_length,bytes_length]; omega
section
variable {a b a' b' a'' b'':ByteArray} {d d' d'':Int}
theorem small_l2 (h:[(a,b,d),(a',b',d')].all okP=true):(bytes a).length≤40∧(bytes b).length≤40∧(bytes a').length≤40∧(bytes b').length≤40:=by
 simp only [List.all_cons,List.all_nil,Bool.and_true,Bool.and_eq_true] at h
 have h1:=okP_len h.1; have h2:=okP_len h.2
 exact ⟨h1.1,h1.2,h2.1,h2.2⟩
theorem small_l3 (h:[(a,b,d),(a',b',d'),(a'',b'',d'')].all okP=true):(bytes a).length≤40∧(bytes b).length≤40∧(bytes a').length≤40∧(bytes b').length≤40∧(bytes a'').length≤40∧(bytes b'').length≤40:=by
 simp only [List.all_cons,List.all_nil,Bool.and_true,Bool.and_eq_true] at h
 have h1:=okP_len h.1; have h2:=okP_len h.2.1; have h3:=okP_len h.2.2
 exact ⟨h1.1,h1.2,h2.1,h2.2,h3.1,h3.2⟩
end
theorem int_nself (x:Int):(x != x)=false:=by simp
theorem bne_f {n:Int} (h:((n:Int) != 0)=false):n=0:=by simpa using h
theorem k0_t {k:Int} (h:k=0):((k:Int) == 0)=true:=by subst h; rfl
theorem k0_f {k:Int} (h:¬ k=0):((k:Int) == 0)=false:=beq_eq_false_iff_ne.2 h
theorem sgn_rng (x:Sd) : -1≤x.sgn∧x.sgn≤1:=by
 have h1:=sign_le x.a.num; have h2:=sign_le x.b.num
 unfold Sd.sgn
 split
 ·exact h1
 ·split
  ·exact h2
  ·split
   ·exact h1
   ·exact h2
theorem sgn_wr {a b:Int} (ha : -1≤a∧a≤1) (hb : -1≤b∧b≤1):IntKind.i64.wrap (a * b)=a * b:=by
 have h1:a = -1∨a=0∨a=1:=by omega
 have h2:b = -1∨b=0∨b=1:=by omega
 rcases h1 with rfl | rfl | rfl<;>rcases h2 with rfl | rfl | rfl<;>decide
theorem blg_times {x y:Sd} (hx:x.Ok) (hy:y.Ok) (hb:Blg x.d y.d):Blg (x.times y).d y.d:=by
 obtain ⟨D,hD,a,b,a',b',rfl,rfl⟩:=pair_in hx hy hb
 rw [times_nv hD]; exact blg_nv hD _ _ _ _
theorem opV_sh2 (o o':Option Sd) (f:Sd→Sd→Sd):∃ p q k n,opV o o' (fun x y=>okS (f x y)) zS=.tuple #[.agg #[.string p, .string q, .int .i64 k], .int .i64 n]∧(n=0→∃ x y,o=some x∧o'=some y∧Blg x.d y.d):=by
 rcases two_ways o o' with h | ⟨x,y,h1,h2,h3⟩ | ⟨x,y,h1,h2,h3⟩
 ·exact ⟨_,_,_,1,opV_bad h,fun e=>by cases e⟩
 ·exact ⟨_,_,_,9,opV_no h1 h2 h3,fun e=>by cases e⟩
 ·exact ⟨_,_,_,0,opV_ok h1 h2 h3,fun _=>⟨x,y,h1,h2,h3⟩⟩
-- awake
theorem aw_sq:SqF (8:Int).toNat 2 2:=⟨by decide,by decide,two_field.free⟩
theorem aw_r0:readF [48]=some 0:=read_iff.2 (rt_whole (n:=0) (by decide) (by decide) (by decide))
theorem aw_r1:readF [49]=some 1:=read_iff.2 (rt_whole (n:=1) (by decide) (by decide) (by decide))
theorem aw_r3:readF [51]=some 3:=read_iff.2 (rt_whole (n:=3) (by decide) (by decide) (by decide))
theorem aw_r2n:readF [45,50]=some (-2):=read_iff.2 (rt_nwhole (n:=2) (by decide) (by decide) (by decide) (by decide))
theorem aw_tb0:(tB (0:Rat))=⟨#[48]⟩:=by show (⟨(ratText 0).toArray⟩:ByteArray)=_; rw [rt_whole (q:=0) (n:=0) (by decide) (by decide) (by decide)]; rfl
theorem aw_tb1:(tB (1:Rat))=⟨#[49]⟩:=by show (⟨(ratText 1).toArray⟩:ByteArray)=_; rw [rt_whole (q:=1) (n:=1) (by decide) (by decide) (by decide)]; rfl
theorem aw_tb2:(tB (2:Rat))=⟨#[50]⟩:=by show (⟨(ratText 2).toArray⟩:ByteArray)=_; rw [rt_whole (q:=2) (n:=2) (by decide) (by decide) (by decide)]; rfl
theorem aw_v2:okS ⟨2,0,1⟩=.tuple #[.agg #[.string ⟨#[50]⟩, .string ⟨#[48]⟩, .int .i64 1], .int .i64 0]:=by
 show Value.tuple #[.agg #[.string (tB 2), .string (tB 0), .int .i64 1], .int .i64 0]=_
 rw [aw_tb2,aw_tb0]
theorem aw_d1:Dq 1 1:=⟨by decide,by decide⟩
theorem aw_mk:okS (nv 1 (1 * ((2:Int):Rat)) 2)=.tuple #[.agg #[.string ⟨#[49]⟩, .string ⟨#[50]⟩, .int .i64 2], .int .i64 0]:=by
 have h:(1:Rat) * ((2:Int):Rat)=2:=by decide +kernel
 rw [h,nv_nz _ _ (by decide)]
 show Value.tuple #[.agg #[.string (tB 1), .string (tB 2), .int .i64 2], .int .i64 0]=_
 rw [aw_tb1,aw_tb2]
theorem aw_t1:TIs ⟨#[51]⟩ ⟨#[45,50]⟩ 2 ⟨3,-2,2⟩ 1:=by
 have h:rdS (bytes ⟨#[51]⟩) (bytes ⟨#[45,50]⟩) 2=some ⟨3,-2,2⟩:=rdS_some aw_r3 aw_r2n (Or.inr ⟨by decide,by decide,by decide,two_field.free⟩)
 exact ⟨h,by decide,⟨⟨by decide,by decide⟩,⟨by decide,by decide⟩,by decide,by decide⟩⟩
theorem aw_t2:TIs ⟨#[48]⟩ ⟨#[49]⟩ 2 ⟨0,1,2⟩ 1:=by
 have h:rdS (bytes ⟨#[48]⟩) (bytes ⟨#[49]⟩) 2=some ⟨0,1,2⟩:=rdS_some aw_r0 aw_r1 (Or.inr ⟨by decide,by decide,by decide,two_field.free⟩)
 exact ⟨h,by decide,⟨⟨by decide,by decide⟩,⟨by decide,by decide⟩,by decide,by decide⟩⟩
theorem aw_times:Sd.times ⟨0,1,2⟩ ⟨0,1,2⟩=⟨2,0,1⟩:=by
 have h1:(0:Rat) * 0 + 1 * 1 * ((max (2:Int) 2:Int):Rat)=2:=by decide +kernel
 have h2:(0:Rat) * 1 + 1 * 0=0:=by decide +kernel
 unfold Sd.times
 simp only []
 rw [h1,h2,nv_zero]
set_option maxRecDepth 100000 in
theorem small_any (gb n:Nat) (l:List (ByteArray × ByteArray × Int)) (w:World) (hB:Blk 23 w gb (cellsS l).toArray) (hl:l.length=n) (hn:n≤1000) (r:Bool) (hr:l.all okP=r) :
 Calls Tryz.prog 15 #[.slice (some ⟨gb,0,none⟩) n n] w (RetV w (.bool r)):=by
 refine sx_enter (Φ:=fun w=>Blk 23 w gb (cellsS l).toArray) Tryz.func15 rfl (by kernel_rfl) (fun w' hf=>hB.ext hf) ?_
 refine sx_seq (sx_region (xr 1 [eS1 0 (some ⟨gb,0,none⟩) n n,(2, .v (.bool false))] [] ?_))
 refine xe (sx_next (sx_seq (sx_seq (sx_region (xr 1 [eS1 0 (some ⟨gb,0,none⟩) n n,(2, .v (.bool false)),(3, .v (.int .i64 0))] [] ?_)))))
 refine xe (sx_next (sx_block ?_))
 refine SXc.weak [(0, .v (.slice (some ⟨gb,0,none⟩) n n)),(3, .v (.int .i64 ((0:Nat):Int)))] [] (Ψ:=fun w=>Blk 23 w gb (cellsS l).toArray) (SameL.of (by kernel_rfl)) (by kernel_rfl) (fun w hΦ=>hΦ) ?_
 refine sx_loop (fun nn ss ff=>∃ (i:Nat),ss=ofL [(0, .v (.slice (some ⟨gb,0,none⟩) n n)),(3, .v (.int .i64 ((i:Nat):Int)))] []∧ff=(fun w=>Blk 23 w gb (cellsS l).toArray)∧(i≤n)∧(∀ j p,j < i→l[j]? = some p→okP p=true)∧nn=(1 + n - i)) ((1 + n - 0)) ⟨0,rfl,rfl,(by omega),(fun j p hj=>by omega),rfl⟩ ?_
 rintro nn ss ff ⟨i,rfl,rfl,hi,hS,rfl⟩
 refine sx_seq (sx_seq (sx_region (xr 4 [eS1 0 (some ⟨gb,0,none⟩) n n,(3, .v (.int .i64 ((i:Nat):Int))),(7, .v (.bool (decide (((i:Nat):Int) < ((n:Nat):Int)))))] [] ?_)))
 refine xe (sx_next ?_)
 refine sx_cond ((decide (((i:Nat):Int) < ((n:Nat):Int)))) (by kernel_rfl) (fun hb10=>?_) (fun hb10=>?_)
 ·have hlt:i < n:=by have:=of_decide_eq_true hb10; omega
  obtain ⟨p,hp⟩:∃ p,l[i]? = some p:=⟨_,List.getElem?_eq_getElem (by omega)⟩
  refine sx_skip (sx_next (sx_seq (sx_block (sx_seq ?_))))
  refine sx_drawM 13 [0,0,3,7,15,0,0,96,224,480,1023,2047,4095] (by kernel_rfl) (by kernel_rfl) follows_mixed' ?_
  refine xf 2 [eS1 0 (some ⟨gb,0,none⟩) n n,(3, .v (.int .i64 ((i:Nat):Int))),eS1 10 (some ⟨gb,0,none⟩) n n,(11, .v (.int .i64 ((i:Nat):Int)))] [] ?_
  refine xm 12 (.pointer (some ⟨gb,i * 3,none⟩)) (fun w hΦ=>run_index (g:=gb) (len:=n) (cap:=n) (i:=i) (x:=.tmp 10) (ix:=.tmp 11) (e:=23) (t:=86) (by kernel_rfl) (by kernel_rfl) (by kernel_rfl) (by kernel_rfl) (by kernel_rfl) hlt) ?_
  refine xf 1 [eS1 0 (some ⟨gb,0,none⟩) n n,(3, .v (.int .i64 ((i:Nat):Int))),(13, .v (.pointer (some ⟨gb,i * 3,none⟩)))] [] ?_
  refine xm 14 (.string p.1) (fun w hΦ=>run_rowload (x:=.tmp 13) (t:=9) (g:=gb) (off:=i * 3) (by kernel_rfl) (by kernel_rfl) (by kernel_rfl) (srow_at hΦ hp).1) ?_
  refine xf 2 [eS1 0 (some ⟨gb,0,none⟩) n n,(3, .v (.int .i64 ((i:Nat):Int))),(14, .v (.string p.1)),eS1 15 (some ⟨gb,0,none⟩) n n,(16, .v (.int .i64 ((i:Nat):Int)))] [] ?_
  refine xm 17 (.pointer (some ⟨gb,i * 3,none⟩)) (fun w hΦ=>run_index (g:=gb) (len:=n) (cap:=n) (i:=i) (x:=.tmp 15) (ix:=.tmp 16) (e:=23) (t:=86) (by kernel_rfl) (by kernel_rfl) (by kernel_rfl) (by kernel_rfl) (by kernel_rfl) hlt) ?_
  refine xf 1 [eS1 0 (some ⟨gb,0,none⟩) n n,(3, .v (.int .i64 ((i:Nat):Int))),(14, .v (.string p.1)),(18, .v (.pointer (some ⟨gb,i * 3 + 1,none⟩)))] [] ?_
  refine xm 19 (.string p.2.1) (fun w hΦ=>run_rowload (x:=.tmp 18) (t:=9) (g:=gb) (off:=i * 3 + 1) (by kernel_rfl) (by kernel_rfl) (by kernel_rfl) (srow_at hΦ hp).2) ?_
  refine xf 0 [eS1 0 (some ⟨gb,0,none⟩) n n,(3, .v (.int .i64 ((i:Nat):Int))),(14, .v (.string p.1)),(19, .v (.string p.2.1))] [] ?_
  refine st_does 20 (fun zb:Nat=>.slice (some ⟨zb,0,none⟩) 2 2) (fun zb zw=>Blk 9 zw zb #[.string p.1, .string p.2.1]) (by kernel_rfl) (by kernel_rfl) (by kernel_rfl) (by kernel_rfl) (by kernel_rfl) (by kernel_rfl) (by kernel_rfl) (fun w hE hΦ=>does_bslice (t:=111) (e:=9) (n:=2) (sz:=1) (z:=.string ⟨#[]⟩) (parts:=#[(0,Operand.tmp 14),(1,Operand.tmp 19)]) (by kernel_rfl) (by kernel_rfl) (by kernel_rfl) (by kernel_rfl) (by kernel_rfl) (by kernel_rfl)) (fun b11=>?_)
  refine xf 0 [eS1 0 (some ⟨gb,0,none⟩) n n,(3, .v (.int .i64 ((i:Nat):Int))),eS1 20 (some ⟨b11,0,none⟩) 2 2] [] ?_
  obtain ⟨b,hb⟩:∃ b,okP p=b:=⟨_,rfl⟩
  refine xd 16 [.int .i64 40, .slice (some ⟨b11,0,none⟩) 2 2] 21 (fun _:Unit=>.bool b) _ (fun w hE hΦ=>(short2 hΦ.2 ((okP_eq p).trans hb)).mono (fun _ _ h=>post_val h rfl)) (fun xx=>?_)
  rcases b with _ | _
  ·refine xf 1 [eS1 0 (some ⟨gb,0,none⟩) n n,(3, .v (.int .i64 ((i:Nat):Int))),(22, .v (.bool true))] [] ?_
   refine xz (xe (sx_next (xa (sx_seq (sx_region (xr 1 [eS1 0 (some ⟨gb,0,none⟩) n n,(2, .v (.bool false)),(3, .v (.int .i64 ((i:Nat):Int)))] [] ?_))))))
   refine xe (sx_next (sx_ret (sx_in_ret (sx_then_ret (sx_then_ret (sx_in_ret (sx_then_ret ?_)))))))
   refine sx_done (v:=.bool false) (by kernel_rfl) (fun w' hE hΦ=>?_)
   exact ⟨by rw [← hr,all_no hp hb],hE⟩
  ·refine xf 1 [eS1 0 (some ⟨gb,0,none⟩) n n,(3, .v (.int .i64 ((i:Nat):Int))),(22, .v (.bool false))] [] ?_
   refine xz (xe (sx_next (xb (sx_skip (sx_out (sx_next (sx_region (xr 2 [eS1 0 (some ⟨gb,0,none⟩) n n,(3, .v (.int .i64 ((i:Nat):Int))),(9, .v (.int .i64 (IntKind.i64.wrap (((i:Nat):Int) + 1))))] [] ?_))))))))
   rw [ninc (by omega)]
   refine xr 1 [eS1 0 (some ⟨gb,0,none⟩) n n,(3, .v (.int .i64 ((i + 1:Nat):Int)))] [] ?_
   refine xe ?_
   refine SXq.weak [(0, .v (.slice (some ⟨gb,0,none⟩) n n)),(3, .v (.int .i64 (((i + 1):Nat):Int)))] [] (Ψ:=fun w=>Blk 23 w gb (cellsS l).toArray) (SameL.of (by kernel_rfl)) (by kernel_rfl) (fun w hΦ=>hΦ.1.1) ?_
   exact sx_round ((1 + n - (i + 1))) (by omega) ⟨(i + 1),rfl,rfl,(by omega),(all_next hS hp hb),rfl⟩
 ·have hge:¬ i < l.length:=by have:=of_decide_eq_false hb10; omega
  refine sx_exit (sx_then_exit (sx_then_exit (sx_hit (sx_next (sx_seq (sx_region (xr 1 [(2, .v (.bool true))] [] ?_)))))))
  refine xe (sx_next (sx_ret ?_))
  refine sx_done (v:=.bool true) (by kernel_rfl) (fun w' hE hΦ=>?_)
  exact ⟨by rw [← hr,all_yes hS hge],hE⟩
set_option maxRecDepth 100000 in
theorem aw_make (w:World) (hg:Glob w) :
 Calls Tryz.prog 18 #[.string ⟨#[49]⟩, .string ⟨#[49]⟩, .int .i64 8] w (RetV w (.tuple #[.agg #[.string ⟨#[49]⟩, .string ⟨#[50]⟩, .int .i64 2], .int .i64 0])):=by
 refine sx_enter (Φ:=fun w=>Glob w) Tryz.func18 rfl (by kernel_rfl) (fun w' hf=>hg.ext hf) ?_
 refine sx_seq (sx_region (xr 2 [(0, .v (.string ⟨#[49]⟩)),(1, .v (.string ⟨#[49]⟩)),(2, .v (.int .i64 8)),(6, .p 6 0),(7, .v (.int .i64 0))] [bS3 6 23 ⟨#[]⟩ ⟨#[]⟩ 0] ?_))
 refine xe (sx_next (sx_seq (sx_region (xr 1 [(1, .v (.string ⟨#[49]⟩)),(2, .v (.int .i64 8)),(6, .p 6 0),(7, .v (.int .i64 0)),(15, .v (.string ⟨#[49]⟩))] [bS3 6 23 ⟨#[]⟩ ⟨#[]⟩ 0] ?_))))
 refine xc 92 [.string ⟨#[49]⟩] 16 (fun x:ShQ=>.tuple #[shRat x, .bool true]) _ (fun w hE hΦ=>(Read_any ⟨#[49]⟩ _ hΦ (ReadOk.of_len (by decide))).mono (fun _ _ h=>post_Read_some h aw_r1)) (fun xx=>?_)
 obtain ⟨s10,A10,l10,c10,t10,B10,m10,d10⟩:=xx
 refine xr 6 [(1, .v (.string ⟨#[49]⟩)),(2, .v (.int .i64 8)),(6, .p 6 0),(7, .v (.int .i64 0)),(8, .p 8 0),(9, .v (.bool true))] [bR4 8 116 s10 A10 l10 c10 t10 B10 m10 d10,bS3 6 23 ⟨#[]⟩ ⟨#[]⟩ 0] ?_
 refine xe (sx_next (sx_seq (sx_region (xr 1 [(2, .v (.int .i64 8)),(6, .p 6 0),(7, .v (.int .i64 0)),(8, .p 8 0),(9, .v (.bool true)),(20, .v (.string ⟨#[49]⟩))] [bR4 8 116 s10 A10 l10 c10 t10 B10 m10 d10,bS3 6 23 ⟨#[]⟩ ⟨#[]⟩ 0] ?_))))
 refine xc 92 [.string ⟨#[49]⟩] 21 (fun x:ShQ=>.tuple #[shRat x, .bool true]) _ (fun w hE hΦ=>(Read_any ⟨#[49]⟩ _ hΦ.1 (ReadOk.of_len (by decide))).mono (fun _ _ h=>post_Read_some h aw_r1)) (fun xx=>?_)
 obtain ⟨s11,A11,l11,c11,t11,B11,m11,d11⟩:=xx
 refine xr 6 [(2, .v (.int .i64 8)),(6, .p 6 0),(7, .v (.int .i64 0)),(8, .p 8 0),(9, .v (.bool true)),(10, .p 10 0),(11, .v (.bool true))] [bR4 10 116 s11 A11 l11 c11 t11 B11 m11 d11,bR4 8 116 s10 A10 l10 c10 t10 B10 m10 d10,bS3 6 23 ⟨#[]⟩ ⟨#[]⟩ 0] ?_
 refine xe (sx_next (sx_seq (sx_block (sx_seq (sx_region (xr 7 [(2, .v (.int .i64 8)),(6, .p 6 0),(7, .v (.int .i64 0)),(8, .p 8 0),(10, .p 10 0),(24, .v (.bool false))] [bR4 10 116 s11 A11 l11 c11 t11 B11 m11 d11,bR4 8 116 s10 A10 l10 c10 t10 B10 m10 d10,bS3 6 23 ⟨#[]⟩ ⟨#[]⟩ 0] ?_))))))
 refine xe (sx_next (xb (sx_seq (sx_region (xr 7 [(2, .v (.int .i64 8)),(6, .p 6 0),(7, .v (.int .i64 0)),(8, .p 8 0),(10, .p 10 0),(32, .v (.bool false))] [bR4 10 116 s11 A11 l11 c11 t11 B11 m11 d11,bR4 8 116 s10 A10 l10 c10 t10 B10 m10 d10,bS3 6 23 ⟨#[]⟩ ⟨#[]⟩ 0] ?_)))))
 refine xe (sx_next (xb (sx_seq (sx_region (xr 3 [(2, .v (.int .i64 8)),(6, .p 6 0),(7, .v (.int .i64 0)),(8, .p 8 0),(10, .p 10 0),(40, .v (.bool false))] [bR4 10 116 s11 A11 l11 c11 t11 B11 m11 d11,bR4 8 116 s10 A10 l10 c10 t10 B10 m10 d10,bS3 6 23 ⟨#[]⟩ ⟨#[]⟩ 0] ?_)))))
 refine xe (sx_next (xb (sx_skip (sx_out (sx_next (sx_seq (sx_region (xr 1 [(6, .p 6 0),(7, .v (.int .i64 0)),(8, .p 8 0),(10, .p 10 0),(47, .v (.int .i64 8))] [bR4 10 116 s11 A11 l11 c11 t11 B11 m11 d11,bR4 8 116 s10 A10 l10 c10 t10 B10 m10 d10,bS3 6 23 ⟨#[]⟩ ⟨#[]⟩ 0] ?_))))))))
 refine xc 95 [.int .i64 8] 48 (fun _:Unit=>.tuple #[.int .i64 2, .int .i64 2]) _ (fun w hE hΦ=>(squareFactor_int 8 2 2 _ (by decide) (by decide) aw_sq).mono (fun _ _ h=>post_val h (rfl))) (fun xx=>?_)
 refine xr 5 [(6, .p 6 0),(7, .v (.int .i64 0)),(8, .p 8 0),(10, .p 10 0),(12, .v (.int .i64 2)),(13, .v (.int .i64 2))] [bR4 10 116 s11 A11 l11 c11 t11 B11 m11 d11,bR4 8 116 s10 A10 l10 c10 t10 B10 m10 d10,bS3 6 23 ⟨#[]⟩ ⟨#[]⟩ 0] ?_
 refine xe (sx_next (sx_seq ?_))
 refine sx_draw 5 (by kernel_rfl) (by kernel_rfl) follows_mixed' ?_
 refine xf 2 [(6, .p 6 0),(7, .v (.int .i64 0)),(8, .p 8 0),(10, .p 10 0),(13, .v (.int .i64 2)),eR4 51 s11 A11 l11 c11 t11 B11 m11 d11,(52, .v (.int .i64 2))] [bR4 10 116 s11 A11 l11 c11 t11 B11 m11 d11,bR4 8 116 s10 A10 l10 c10 t10 B10 m10 d10,bS3 6 23 ⟨#[]⟩ ⟨#[]⟩ 0] ?_
 refine xd 97 [.int .i64 2] 53 shRat _ (fun w hE hΦ=>(Small_any 2 _ (by decide) (by decide)).mono (fun _ _ h=>post_Rat h)) (fun xx=>?_)
 obtain ⟨s12,A12,l12,c12,t12,B12,m12,d12⟩:=xx
 refine xf 0 [(6, .p 6 0),(7, .v (.int .i64 0)),(8, .p 8 0),(10, .p 10 0),(13, .v (.int .i64 2)),eR4 51 s11 A11 l11 c11 t11 B11 m11 d11,eR4 53 s12 A12 l12 c12 t12 B12 m12 d12] [bR4 10 116 s11 A11 l11 c11 t11 B11 m11 d11,bR4 8 116 s10 A10 l10 c10 t10 B10 m10 d10,bS3 6 23 ⟨#[]⟩ ⟨#[]⟩ 0] ?_
 refine xd 96 [vR4 s11 A11 l11 c11 t11 B11 m11 d11,vR4 s12 A12 l12 c12 t12 B12 m12 d12] 54 shRat _ (fun w hE hΦ=>(QMul_any _ _ 1 (((2:Int):Rat)) _ hΦ.1.1.1.1 hΦ.1.1.2 hΦ.2 (aw_d1.fit (by omega)) ((Dq.int (d:=2) (k:=1) (by decide) (by decide)).fit (by omega))).mono (fun _ _ h=>post_Rat h)) (fun xx=>?_)
 obtain ⟨s13,A13,l13,c13,t13,B13,m13,d13⟩:=xx
 refine xf 1 [(6, .p 6 0),(7, .v (.int .i64 0)),(8, .p 8 0),(10, .p 10 0),(13, .v (.int .i64 2))] [bR4 10 116 s13 A13 l13 c13 t13 B13 m13 d13,bR4 10 116 s11 A11 l11 c11 t11 B11 m11 d11,bR4 8 116 s10 A10 l10 c10 t10 B10 m10 d10,bS3 6 23 ⟨#[]⟩ ⟨#[]⟩ 0] ?_
 refine xz (xe (sx_next (sx_seq (sx_seq (sx_region (xr 2 [(6, .p 6 0),(7, .v (.int .i64 0)),(8, .p 8 0),(10, .p 10 0),(13, .v (.int .i64 2)),(56, .v (.bool false))] [bR4 10 116 s13 A13 l13 c13 t13 B13 m13 d13,bR4 8 116 s10 A10 l10 c10 t10 B10 m10 d10,bS3 6 23 ⟨#[]⟩ ⟨#[]⟩ 0] ?_))))))
 refine xe (sx_next (xb (sx_skip (sx_next (sx_seq (sx_region (xr 3 [(6, .p 6 0),(7, .v (.int .i64 0)),eR4 62 s10 A10 l10 c10 t10 B10 m10 d10,eR4 63 s13 A13 l13 c13 t13 B13 m13 d13,(64, .v (.int .i64 2))] [bS3 6 23 ⟨#[]⟩ ⟨#[]⟩ 0] ?_)))))))
 refine xc 99 [vR4 s10 A10 l10 c10 t10 B10 m10 d10,vR4 s13 A13 l13 c13 t13 B13 m13 d13, .int .i64 2] 65 (shSd ((nv 1 (1 * (((2:Int):Rat))) 2).d)) _ (fun w hE hΦ=>(SNew_any _ _ 1 (1 * (((2:Int):Rat))) 2 _ hΦ.1.1.1.1.2 hΦ.2).mono (fun _ _ h=>post_Sd h)) (fun xx=>?_)
 obtain ⟨⟨s14,A14,l14,c14,t14,B14,m14,d14⟩,⟨s15,A15,l15,c15,t15,B15,m15,d15⟩⟩:=xx
 refine xr 0 [(6, .p 6 0),(7, .v (.int .i64 0)),(65, .v (.agg #[.bool s14, .slice A14 l14 c14, .bool t14, .slice B14 m14 d14, .bool s15, .slice A15 l15 c15, .bool t15, .slice B15 m15 d15, .int .i64 ((nv 1 (1 * (((2:Int):Rat))) 2).d)]))] [bS3 6 23 ⟨#[]⟩ ⟨#[]⟩ 0] ?_
 refine xc 94 [.agg #[.bool s14, .slice A14 l14 c14, .bool t14, .slice B14 m14 d14, .bool s15, .slice A15 l15 c15, .bool t15, .slice B15 m15 d15, .int .i64 ((nv 1 (1 * (((2:Int):Rat))) 2).d)]] 66 (fun _:Unit=>.agg #[.string ⟨(ratText ((nv 1 (1 * (((2:Int):Rat))) 2).a)).toArray⟩, .string ⟨(ratText ((nv 1 (1 * (((2:Int):Rat))) 2).b)).toArray⟩, .int .i64 ((nv 1 (1 * (((2:Int):Rat))) 2).d)]) _ (fun w hE hΦ=>(SWrite_any _ (nv 1 (1 * (((2:Int):Rat))) 2) _ hΦ.1.1.1.1.1.1 (SdIs.of hΦ.2.1 hΦ.2.2) (j:=2) (nv_sz (k:=2) (aw_d1.up (by decide)) (aw_d1.mul (Dq.int (d:=2) (k:=1) (by decide) (by decide))) (by decide) (by decide)).a (nv_sz (k:=2) (aw_d1.up (by decide)) (aw_d1.mul (Dq.int (d:=2) (k:=1) (by decide) (by decide))) (by decide) (by decide)).b (by omega)).mono (fun _ _ h=>post_val h rfl)) (fun xx=>?_)
 refine xr 2 [(6, .p 6 0),(7, .v (.int .i64 0))] [(6,23,[.v (.string ⟨(ratText ((nv 1 (1 * (((2:Int):Rat))) 2).a)).toArray⟩), .v (.string ⟨(ratText ((nv 1 (1 * (((2:Int):Rat))) 2).b)).toArray⟩), .v (.int .i64 ((nv 1 (1 * (((2:Int):Rat))) 2).d))])] ?_
 refine xe (sx_next (sx_ret ?_))
 refine sx_done (v:=.tuple #[.agg #[.string ⟨(ratText ((nv 1 (1 * (((2:Int):Rat))) 2).a)).toArray⟩, .string ⟨(ratText ((nv 1 (1 * (((2:Int):Rat))) 2).b)).toArray⟩, .int .i64 ((nv 1 (1 * (((2:Int):Rat))) 2).d)], .int .i64 0]) (by kernel_rfl) (fun w' hE hΦ=>?_)
 exact ⟨congrArg _ aw_mk,hE⟩
set_option maxRecDepth 100000 in
theorem awake11_any (w:World) (hg:Glob w) :
 Calls Tryz.prog 17 #[] w (RetV w (.bool true)):=by
 refine sx_enter (Φ:=fun w=>Glob w) Tryz.func17 rfl (by kernel_rfl) (fun w' hf=>hg.ext hf) ?_
 refine sx_seq (sx_region (xr 1 [(0, .v (.bool false))] [] ?_))
 refine xe (sx_next (sx_seq (sx_region ?_)))
 refine xc 18 [.string ⟨#[49]⟩, .string ⟨#[49]⟩, .int .i64 8] 8 (fun _:Unit=>.tuple #[vS3 ⟨#[49]⟩ ⟨#[50]⟩ 2, .int .i64 0]) _ (fun w hE hΦ=>(aw_make _ hΦ).mono (fun _ _ h=>post_val h (rfl))) (fun xx=>?_)
 refine xr 6 [(0, .v (.bool false)),(1, .p 1 0),(2, .v (.int .i64 0))] [bS3 1 23 ⟨#[49]⟩ ⟨#[50]⟩ 2] ?_
 refine xe (sx_next (sx_seq (sx_region (xr 1 [(0, .v (.bool false)),(1, .p 1 0),(2, .v (.int .i64 0)),eS3 12 ⟨#[51]⟩ ⟨#[45,50]⟩ 2] [bS3 1 23 ⟨#[49]⟩ ⟨#[50]⟩ 2] ?_))))
 refine xc 25 [vS3 ⟨#[51]⟩ ⟨#[45,50]⟩ 2] 13 (fun _:Unit=>.tuple #[.int .i64 1, .int .i64 0]) _ (fun w hE hΦ=>(lSign hΦ.1 aw_t1 (show Sd.sgn ⟨3,-2,2⟩=1 by decide +kernel) (by decide)).mono (fun _ _ h=>post_val h (rfl))) (fun xx=>?_)
 refine xr 5 [(0, .v (.bool false)),(1, .p 1 0),(2, .v (.int .i64 0)),(3, .v (.int .i64 1)),(4, .v (.int .i64 0))] [bS3 1 23 ⟨#[49]⟩ ⟨#[50]⟩ 2] ?_
 refine xe (sx_next (sx_seq (sx_region (xr 2 [(0, .v (.bool false)),(1, .p 1 0),(2, .v (.int .i64 0)),(3, .v (.int .i64 1)),(4, .v (.int .i64 0)),eS3 17 ⟨#[48]⟩ ⟨#[49]⟩ 2,eS3 18 ⟨#[48]⟩ ⟨#[49]⟩ 2] [bS3 1 23 ⟨#[49]⟩ ⟨#[50]⟩ 2] ?_))))
 refine xc 31 [vS3 ⟨#[48]⟩ ⟨#[49]⟩ 2,vS3 ⟨#[48]⟩ ⟨#[49]⟩ 2] 19 (fun _:Unit=>.tuple #[vS3 ⟨#[50]⟩ ⟨#[48]⟩ 1, .int .i64 0]) _ (fun w hE hΦ=>(lMul hΦ.1.1 aw_t2 aw_t2 (Or.inr (Or.inr rfl)) (show Sd.times ⟨0,1,2⟩ ⟨0,1,2⟩=⟨2,0,1⟩ from aw_times) (by decide)).mono (fun _ _ h=>post_val h (aw_v2))) (fun xx=>?_)
 refine xr 6 [(0, .v (.bool false)),(1, .p 1 0),(2, .v (.int .i64 0)),(3, .v (.int .i64 1)),(4, .v (.int .i64 0)),(5, .p 5 0),(6, .v (.int .i64 0))] [bS3 5 23 ⟨#[50]⟩ ⟨#[48]⟩ 1,bS3 1 23 ⟨#[49]⟩ ⟨#[50]⟩ 2] ?_
 refine xe (sx_next (sx_seq (sx_region (xr 13 [(0, .v (.bool false)),(3, .v (.int .i64 1)),(5, .p 5 0),(32, .v (.bool true)),eS3 33 ⟨#[49]⟩ ⟨#[50]⟩ 2,eS3 34 ⟨#[49]⟩ ⟨#[50]⟩ 2] [bS3 5 23 ⟨#[50]⟩ ⟨#[48]⟩ 1] ?_))))
 refine xl 35 (.bool true) (fun w hE hΦ=>run_eq3 ((Operand.tmp 33)) ((Operand.tmp 34)) 23 ⟨#[49]⟩ ⟨#[50]⟩ 2) ?_
 refine xr 8 [(0, .v (.bool false)),(41, .v (.bool true)),eS3 42 ⟨#[50]⟩ ⟨#[48]⟩ 1,eS3 43 ⟨#[50]⟩ ⟨#[48]⟩ 1] [] ?_
 refine xl 44 (.bool true) (fun w hE hΦ=>run_eq3 ((Operand.tmp 42)) ((Operand.tmp 43)) 23 ⟨#[50]⟩ ⟨#[48]⟩ 1) ?_
 refine xr 2 [(0, .v (.bool true))] [] ?_
 refine xe (sx_next (sx_ret ?_))
 refine sx_done (v:=.bool true) (by kernel_rfl) (fun w' hE hΦ=>?_)
 exact ⟨rfl,hE⟩
end Go.Proofs.YtbgkofgoeoiciaaGreatDoor
