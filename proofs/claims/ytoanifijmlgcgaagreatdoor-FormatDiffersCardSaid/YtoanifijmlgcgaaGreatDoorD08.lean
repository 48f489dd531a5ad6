/-
 My texts Glob, Text, Room, Dec, Pad, Sim, Sim1, Sim2, App2 put together.
-/
import Derived.Test.YtoanifijmlgcgaaGreatDoorD07
import Derived.Lib.AppendIntMem
import Derived.Shelf.Spec.TrailingZeros
import Derived.Test.YtoanifijmlgcgaaGreatDoorD01
import Derived.Test.YtoanifijmlgcgaaGreatDoorD03
import Derived.Lib.AppendStr
import Derived.Test.YtoanifijmlgcgaaGreatDoorD00
import Derived.Test.YtoanifijmlgcgaaGreatDoorD06
set_option maxRecDepth 100000
set_option maxHeartbeats 8000000
namespace Go.Proofs.YtoanifijmlgcgaaGreatDoor
open Go.RowKit
def db64:List Int:=Lib.deBruijn64tab.map fun n:Nat=>(n:Int)
def Glob (w : World) : Prop := Lib.TabIs Tryz.prog w "internal/strconv.uint64pow10" .u64 Lib.pow10Tab ∧ Lib.TabIs Tryz.prog w "math/bits.deBruijn64tab" .u8 db64
theorem Glob.ext {w w':World}(h:Glob w)(a:Ext w w'):Glob w':=⟨Lib.tabBelow_of_tabIs h.1 w' a.toBelow,Lib.tabBelow_of_tabIs h.2 w' a.toBelow⟩
theorem Glob.cell {w:World}(h:Glob w)(i:Nat)(hi:i<64):w.cell? ⟨6,i,none⟩=some (.int .u8 ((Lib.deBruijn64tab.getD i 0:Nat):Int)):=by
 have a:=h.2.cell (g:=6) (by kernel_rfl) i (by rw[db64,rW];exact hi)
 rw[a]
 have b:i<Lib.deBruijn64tab.length:=hi
 simp[db64,List.getElem?_eq_getElem b]
theorem ZdW:∀ (f t m:Nat),t<f→Lib.ctzFrom f (2^t*(2*m+1))=t
 | 0,t,m,h=>by omega
 | f+1,0,m,_=>by unfold Lib.ctzFrom;rw[tA (by omega)]
 | f+1,t+1,m,h=>by
  unfold Lib.ctzFrom
  have e:2^(t+1)*(2*m+1)=2*(2^t*(2*m+1)):=by rw[uW,uG (2^t) 2,uQ]
  rw[e,vP (by omega),sQ _ (by omega),ZdW f t m (by omega)]
  omega
theorem ZeS (x:Nat)(a:0<x)(b:x<W64):∃ t m,x=2^t*(2*m+1)∧t<64:=by
 rw[zM] at b
 obtain⟨m,c,d⟩:=Lib.ctzFrom_spec 64 x a (by omega)
 exact⟨_,m,c,d⟩
theorem ZjJ (x k a:Nat)(w:World)(d:((x:Int) == 0)=false)(b:IntKind.u64.wrap (bits BinOp.and IntKind.u64 (x:Int) (IntKind.u64.wrap (-(x:Int)))*285870213051353865)/288230376151711744=(a:Int))(hi:a<64)(f:k<64)(c:w.cell? ⟨6,a,none⟩=some (.int .u8 (k:Int))) :
 yA 334 #[.int .u64 (x:Int)] w fun e w'=>e=.returned (.int .i64 (k:Int))∧w=w':=by
 go_enter Tryz.func334,Tryz.ntmps334
 go_wp2_with (simp only[b])
 go_ret
 exact⟨rfl,rfl⟩
theorem Zdq (x t m:Nat)(w:World)(l:Glob w)(i:x=2^t*(2*m+1))(o:t<64)(c:x<W64) :
 yA 334 #[.int .u64 (x:Int)] w fun e w'=>e=.returned (.int .i64 (t:Int))∧w=w':=by
 rw[zM] at c
 have d:x≠0:=by
  rw[i];intro e
  rcases Nat.mul_eq_zero.1 e with e|e
  ·have:=uU (a:=2) (n:=t) (by omega);omega
  omega
 obtain⟨f,j⟩:=Lib.lowest_bit 64 x d c
 obtain⟨k,g⟩:=Lib.deBruijn64_at _ j
 have b:=l.cell _ k
 rw[g] at b
 have e:Lib.ctz 64 x=t:=by
  unfold Lib.ctz
  rw[vP d,i]
  exact ZdW 64 t m o
 have h:=ZjJ x _ _ w (by simp;omega) (Go.Proofs.tz64_key x _ c d f) k j b
 rw[e] at h
 exact h
theorem dN (x t y:Nat)(a:x%2=1):Nat.gcd x (2^t*y)=Nat.gcd x y:=by
 have h:Nat.Coprime x (2^t):=by
  refine Nat.Coprime.pow_right t ?_
  rw[Nat.coprime_comm,Nat.Coprime,qJ,a]
  simp
 exact h.symm.gcd_mul_left_cancel_right y
theorem Zho (a b x y:Nat)(d:x%2=1)(e:y%2=1):Nat.gcd (2^a*x) (2^b*y)=2^(min a b)*Nat.gcd x y:=by
 rcases Nat.le_total a b with h|h
 ·obtain⟨c,rfl⟩:∃ c,b=a+c:=⟨b-a,by omega⟩
  rw[uY h,vV,uQ,Nat.gcd_mul_left,dN x c y d]
 obtain⟨c,rfl⟩:∃ c,a=b+c:=⟨a-b,by omega⟩
 rw[Nat.min_eq_right h,vV,uQ,Nat.gcd_mul_left,tV,dN y c x e,tV]
theorem Znk (a b m n:Nat):∃ k,2^a*(2*m+1) ||| 2^b*(2*n+1)=2^(min a b)*(2*k+1):=by
 have d:∀ c p q:Nat,∃ k,(2*p+1) ||| (2^c*(2*q+1))=2*k+1:=by
  intro c p q
  refine⟨((2*p+1) ||| (2^c*(2*q+1)))/2,?_⟩
  have:((2*p+1) ||| (2^c*(2*q+1)))%2=1:=by
   simp
  omega
 have f:∀ a x y:Nat,2^a*x ||| 2^a*y=2^a*(x ||| y):=by
  intro a x y
  rw[uG _ x,uG _ y,uG _ (x ||| y),← sI,← sI,← sI,Nat.shiftLeft_or_distrib]
 rcases Nat.le_total a b with h|h
 ·obtain⟨c,rfl⟩:∃ c,b=a+c:=⟨b-a,by omega⟩
  obtain⟨k,e⟩:=d c m n
  exact⟨k,by rw[uY h,vV,uQ,f,e]⟩
 obtain⟨c,rfl⟩:∃ c,a=b+c:=⟨a-b,by omega⟩
 obtain⟨k,e⟩:=d c n m
 exact⟨k,by rw[Nat.min_eq_right h,vV,uQ,f,Nat.or_comm,e]⟩
theorem Zmh {x y:Nat}(a:x<W64)(b:y<W64):x ||| y<W64:=by
 rw[zM] at *
 exact Nat.or_lt_two_pow (n:=64) a b
theorem cL (x y g:Nat)(w:World)(hg:Glob w)(hx:x<W64)(hy:y<W64)(O:Nat.gcd x y=g) :
 yA 299 #[.int .u64 (x:Int),.int .u64 (y:Int)] w fun e w'=>e=.returned (.int .u64 (g:Int))∧w=w':=by
 have W:=zh O
 have v:=zh hx
 have L:=zh hy
 have A:=zh hg
 clear hg hx hy O
 by_cases h0:x=0
 ·subst h0
  have z:=dK (a:=0) (b:=y) v.out L.out
  have Y:Hid (y=g):=by have:=W.out;rw[Nat.gcd_zero_left] at this;exact this
  rw[Nat.zero_or] at z
  go_enter Tryz.func299,Tryz.ntmps299
  go_wp2
  go_ret
  exact⟨by rw[←Y.out];first|exact tC Ending.returned (tC (Value.int .u64) z)|rfl,rfl⟩
 have x0:((x:Int) == 0)=false:=by simp;omega
 by_cases P:y=0
 ·subst P
  have z:=dK (a:=x) (b:=0) v.out L.out
  have Y:Hid (x=g):=by have:=W.out;rw[rD] at this;exact this
  rw[Nat.or_zero] at z
  go_enter Tryz.func299,Tryz.ntmps299
  go_wp2
  go_ret
  exact⟨by rw[←Y.out];first|exact tC Ending.returned (tC (Value.int .u64) z)|rfl,rfl⟩
 have y0:((y:Int) == 0)=false:=by simp;omega
 obtain⟨a,m,c,ha⟩:=ZeS x (by omega) v.out
 obtain⟨b,n,B,hb⟩:=ZeS y (by omega) L.out
 obtain⟨k,Z⟩:=Znk a b m n
 have hm:min a b<64:=by omega
 obtain⟨s,es⟩:=yE (min a b)
 rw[es] at Z hm
 have z:=dK v.out L.out
 obtain⟨o,X⟩:=yE (x ||| y)
 rw[X] at z
 have Q:=zh (Zdq o s k w A.out (by rw[←X,← Z,← c,← B]) hm (by rw[←X];exact Zmh v.out L.out))
 have R:=zh (Zdq x a m w A.out c ha v.out)
 have M:=Zb2 x a
 have C:x/2^a=2*m+1:=by rw[c,sQ _ (uU (by omega))]
 rw[C] at M
 obtain⟨N,i⟩:=yE (2*m+1)
 rw[i] at M
 have S:Hid (N%2=1):=by unfold Hid;omega
 have a0:Hid (2^s*Nat.gcd N y=g):=by
  unfold Hid
  rw[←W.out,B,dN N b (2*n+1) (by omega),c,Zho a b _ _ (by omega) (by omega),es,i]
 have T:Hid (N<W64):=by
  have h2:N≤x:=by rw[←i,← C];exact vU _ _
  have:=v.out
  unfold Hid;omega
 have d0:a≤63:=by omega
 have e0:s≤63:=by omega
 clear c B Z es X C i ha hb hm h0 P
 go_enter Tryz.func299,Tryz.ntmps299
 go_wp2_with fail
 (with_reducible refine Q.out.mono ?_)
 rintro e w' ⟨rfl,rfl⟩
 go_wp2_with fail
 (with_reducible refine R.out.mono ?_)
 rintro e w' ⟨rfl,rfl⟩
 clear Q R
 go_wp2
 clear M z
 go_loop [0,1] (fun xv yv=>∃ p q:Nat,xv=.int .u64 (p:Int)∧yv=.int .u64 (q:Int)∧Hid (p<W64)∧Hid (q<W64)∧Hid (p%2=1)∧Hid (2^s*Nat.gcd p q=g)) (fun xv yv=>(intOf xv).toNat + (intOf yv).toNat)
 case atStart=>exact⟨N,y,rfl,rfl,T,L,S,a0⟩
 case round =>
  obtain⟨p,q,rfl,rfl,D,f,E,F⟩:=hrel
  by_cases G:q=0
  ·subst G
   have HP:Hid (p*2^s%W64=g):=by
    have P:=F.out
    rw[rD,uG] at P
    have h2:g≤x:=by rw[←W.out];exact Nat.gcd_le_left y (by have:=x0;simp at this;omega)
    rw[P]
    exact vI (uN h2 v.out)
   have q2:=aW p s
   rw[HP.out] at q2
   go_wp2
   go_ret
   exact⟨rfl,rfl⟩
  have q0:((q:Int) != 0)=true:=by simp;omega
  obtain⟨t,n,h,ht⟩:=ZeS q (by omega) f.out
  have HT:=zh (Zdq q t n w A.out h ht f.out)
  have M:=Zb2 q t
  have j:q/2^t=2*n+1:=by rw[h,sQ _ (uU (by omega))]
  rw[j] at M
  obtain⟨r,U⟩:=yE (2*n+1)
  rw[U] at M
  have H:r%2=1:=by omega
  have f0:r≤q:=by rw[←U,← j];exact vU _ _
  have l:Nat.gcd p q=Nat.gcd p r:=by rw[h,dN p t _ E.out,U]
  have g0:0<p:=by have:=E.out;omega
  have i0:t≤63:=by omega
  by_cases u:r<p
  ·have t1:=gV u
   have g1:IntKind.u64.wrap ((p:Int)-(r:Int))=((p-r:Nat):Int):=by
    rw[show (p:Int)-(r:Int)=((p-r:Nat):Int) by omega]
    exact xV _ (by have:=D.out;omega)
   obtain⟨d,I⟩:=yE (p-r)
   rw[I] at g1
   have J:Hid (2^s*Nat.gcd r d=g):=by
    unfold Hid
    rw[←F.out,l,← I,Nat.gcd_sub_self_right (by omega),tV]
   have b0:Hid (r<W64):=by have:=f.out;unfold Hid;omega
   have K:Hid (d<W64):=by have:=D.out;unfold Hid;omega
   have c0:=zh H
   have V:r+d<p+q:=by omega
   clear h j U H l I u G ht
   go_wp2_with (go_at_call 334;refine HT.out.mono ?_;rintro e w' ⟨rfl,rfl⟩)
   go_round
   case rel=>exact⟨r,d,rfl,rfl,b0,K,c0,J⟩
   case measure=>simp[intOf];omega
  have t1:=iP u
  have g1:IntKind.u64.wrap ((r:Int)-(p:Int))=((r-p:Nat):Int):=by
   rw[show (r:Int)-(p:Int)=((r-p:Nat):Int) by omega]
   exact xV _ (by have:=f.out;omega)
  obtain⟨d,I⟩:=yE (r-p)
  rw[I] at g1
  have J:Hid (2^s*Nat.gcd p d=g):=by
   unfold Hid
   rw[←F.out,l,← I,Nat.gcd_sub_self_right (by omega)]
  have K:Hid (d<W64):=by have:=f.out;unfold Hid;omega
  have V:p+d<p+q:=by omega
  clear h j U H l I u G ht
  go_wp2_with (go_at_call 334;refine HT.out.mono ?_;rintro e w' ⟨rfl,rfl⟩)
  go_round
  case rel=>exact⟨p,d,rfl,rfl,D,K,E,J⟩
  case measure=>simp[intOf];omega
end Go.Proofs.YtoanifijmlgcgaaGreatDoor
namespace Go.Proofs.YtoanifijmlgcgaaGreatDoor
open Go.RowKit Go.Sort
def nats (l:List UInt8):List Nat:=l.map UInt8.toNat
@[simp] theorem ZaU (l:List UInt8):(nats l).length=l.length:=by simp[nats]
theorem Zhp (a b:List UInt8):nats (a ++ b)=nats a ++ nats b:=by simp[nats]
abbrev TBuf (w:World) (A:Option Addr) (cap:Nat) (l:List UInt8):Prop:=Buf .u8 5 w A cap (nats l)
theorem ZlZ:(Tryz.prog.info? 5).map (fun i=>(i.zero,i.size,i.bytes))=some (some (.int .u8 0),1,1):=by kernel_rfl
end Go.Proofs.YtoanifijmlgcgaaGreatDoor
namespace Go.Proofs.YtoanifijmlgcgaaGreatDoor
open Go.RowKit Go.Sort
end Go.Proofs.YtoanifijmlgcgaaGreatDoor
namespace Go.Proofs.YtoanifijmlgcgaaGreatDoor
def lH (h:Nat):List UInt8:=if h=0 then [] else Lib.decDigits h
theorem Zgu:lH 0=[]:=rfl
theorem iQ {h:Nat}(a:0<h):lH h=Lib.decDigits h:=vP (by omega)
theorem lY (u:Nat):Lib.decDigits u≠[]:=by
 rw[Lib.decDigits];split<;>simp
theorem ZiS {h:Nat}(a:0<h):lH h≠[]:=by rw[iQ a];exact lY h
theorem Zhq {h:Nat}:0<(lH h).length↔0<h:=by
 constructor
 ·intro a
  rcases uJ h with e|e
  ·subst e;simp[lH] at a
  exact e
 intro b
 have:=ZiS b
 rcases uJ (lH h).length with e|e
 ·exact absurd (vZ.1 e) this
 exact e
theorem Zb3 {h c:Nat}(a:c<10)(b:0<h∨c≠0):lH (10*h+c)=lH h ++ [UInt8.ofNat (48+c)]:=by
 rcases uJ h with e|e
 ·subst e
  have:0<c:=by omega
  rw[Zgu,iQ (by omega),sS,vO,Lib.decDigits_one a];rfl
 rw[iQ (by omega),iQ e,Lib.decDigits,dif_neg (by omega),show (10*h+c)/10=h by omega,show (10*h+c)%10=c by omega]
def topE (H p k e:Nat):Nat:=H*10^e+p/10^(k-e)
theorem ZiT {H p k:Nat}(a:p<10^k):topE H p k 0=H:=by
 unfold topE;simp[tO a]
theorem Zk3 {H p k:Nat}:topE H p k k=H*10^k+p:=by
 unfold topE;simp
theorem ZjK {H p k e:Nat}(d:e<k):topE H p k (e+1)=10*topE H p k e+p/10^(k-1-e)%10:=by
 unfold topE
 have a:k-e=(k-1-e)+1:=by omega
 have b:k-(e+1)=k-1-e:=by omega
 rw[a,b,uW,uW,← rC]
 generalize p/10^(k-1-e)=q
 generalize 10^e=E
 have c:H*(E*10)=10*(H*E):=by rw[←uQ,uG]
 rw[c]
 omega
end Go.Proofs.YtoanifijmlgcgaaGreatDoor
namespace Go.Proofs.YtoanifijmlgcgaaGreatDoor
open Go.RowKit
theorem Zgv {p:Nat}(h:0<p):lH p=lH (p/10) ++ [UInt8.ofNat (48+p%10)]:=by
 have b:p=10*(p/10)+p%10:=by omega
 have a:=Zb3 (h:=p/10) (c:=p%10) (uP _ (by omega)) (by omega)
 rw[←b] at a
 exact a
theorem ZiU (k:Nat):∀ p,p<10^k→(lH p).length≤k:=by
 induction k with
 | zero=>intro p a;simp at a;subst a;simp[lH]
 | succ k ih =>
  intro p a
  rcases uJ p with h|h
  ·subst h;simp[lH]
  have b:p/10<10^k:=by rw[uW] at a;omega
  rw[Zgv h,uA]
  have:=ih _ b
  simp;omega
theorem ZgA {xs:List Nat}{k c b s:Nat}(d:xs.length=k+2)(dx:Dig W64 xs)(e:xs[k+1]?.getD 0=c)(f:xs[k]?.getD 0=b)(g:s≤63) :
 val W64 xs/(W64^k*2^(64-s))=c*2^s+b/2^(64-s):=by
 have a:=wH (dx.take k)
 rw[uL,uY (by omega)] at a
 rw[←rC,top2 d,e,f,vR,sM (uU zZ),tO a,tK,← kC g]
 rw[vR b,uQ,sM (uU (by omega)),uG (2^s)]
theorem Zk6 {xs:List Nat}{k b s:Nat}(d:xs.length=k+1)(dx:Dig W64 xs)(c:xs[k]?.getD 0=b) :
 val W64 xs/(W64^k*2^(64-s))=b/2^(64-s):=by
 have a:=wH (dx.take k)
 rw[uL,uY (by omega)] at a
 have:=zT (B:=W64) (xs:=xs) k (by omega)
 rw[uB (by omega),c] at this
 rw[←rC,this,vR,sM (uU zZ),tO a,tK]
def lI (u0 u1 v0 v1:Nat) (odd:Bool):Array Value:=#[.int .u64 (u0:Int),.int .u64 (u1:Int),.int .u64 (v0:Int),.int .u64 (v1:Int),.bool odd]
def dY (a b:Nat) (w:World) (e:Ending) (w':World):Prop :=
 ∃ (u0 u1 v0 v1:Nat) (odd:Bool),e=.returned (.agg (lI u0 u1 v0 v1 odd))∧u0<W64∧u1<W64∧v0<W64∧v1<W64∧ZcF a b odd u0 u1 v0 v1∧Ext w w'
theorem Zb4 (t:TypeId)(w:World)(m:Nat)(o:Obj)(cs:Array Value):Blk t (((w.alloc o).drewN m).alloc (.cells cs t)) (w.heap.size+1) cs:=by
 have h:=Blk.new ((w.alloc o).drewN m) t cs
 have e:((w.alloc o).drewN m).heap.size=w.heap.size+1:=by show (w.alloc o).heap.size=_;simp
 rw[e] at h
 exact h
def SimW (f s u0 u1 u2 v0 v1 v2:Nat):Prop:=f<W64∧s<W64∧u0<W64∧u1<W64∧u2<W64∧v0<W64∧v1<W64∧v2<W64
theorem iB.sum_le {A B a b:Nat}{c:Bool}{f s u0 u1 u2 v0 v1 v2:Nat}(h:iB A B a b c f s u0 u1 u2 v0 v1 v2)(d:1≤s):v1+v2≤A∧u1+u2≤B:=by
 obtain⟨_,e,g,_,_,i,_⟩:=h
 have j:1*v2≤f*v2:=uC _ (by omega)
 have k:1*v1≤s*v1:=uC _ d
 have l:1*u2≤f*u2:=uC _ (by omega)
 have m:1*u1≤s*u1:=uC _ d
 omega
theorem iB.new_le {A B a b:Nat}{c:Bool}{f s u0 u1 u2 v0 v1 v2:Nat}(h:iB A B a b c f s u0 u1 u2 v0 v1 v2)(d:1≤f):v2≤A∧u2≤B:=by
 obtain⟨_,e,g,_,_,i,_⟩:=h
 have j:1*v2≤f*v2:=uC _ d
 have k:1*u2≤f*u2:=uC _ d
 omega
theorem Zh5 {w wr:World}(h:Ext w wr)(a b c d e:Value):Ext w (((((wr.setCell ⟨w.heap.size+1,0,none⟩ a).setCell ⟨w.heap.size+1,1,none⟩ b).setCell ⟨w.heap.size+1,2,none⟩ c).setCell ⟨w.heap.size+1,3,none⟩ d).setCell ⟨w.heap.size+1,4,none⟩ e) :=
 ((((h.setCell (Or.inr (by simp)) _).setCell (Or.inr (by simp)) _).setCell (Or.inr (by simp)) _).setCell (Or.inr (by simp)) _).setCell (Or.inr (by simp)) _
theorem Za3 {A B a b:Nat}{c:Bool}{f s u0 u1 u2 v0 v1 v2:Nat}{w wr:World}{i j k l m:Value}(n:iB A B a b c f s u0 u1 u2 v0 v1 v2)(o:SimW f s u0 u1 u2 v0 v1 v2)(p:Blk 383 wr w.heap.size #[i,j,k,l,m])(Q:Ext w wr)(fn:Func)(e:Array Value)(g:fn.results=#[.cell 4 383])(q:e[4]? = some (.pointer (some ⟨w.heap.size,0,none⟩))) :
 bodyPost Tryz.prog fn (dY a b w) .ret ⟨e,[]⟩ (((((wr.setCell ⟨w.heap.size,0,none⟩ (.int .u64 (u0:Int))).setCell ⟨w.heap.size,1,none⟩ (.int .u64 (u1:Int))).setCell ⟨w.heap.size,2,none⟩ (.int .u64 (v0:Int))).setCell ⟨w.heap.size,3,none⟩ (.int .u64 (v1:Int))).setCell ⟨w.heap.size,4,none⟩ (.bool c)):=by
 have d:=((((p.set_ 0 (.int .u64 (u0:Int))).set_ 1 (.int .u64 (u1:Int))).set_ 2 (.int .u64 (v0:Int))).set_ 3 (.int .u64 (v1:Int))).set_ 4 (.bool c)
 have h:Ext w (((((wr.setCell ⟨w.heap.size,0,none⟩ (.int .u64 (u0:Int))).setCell ⟨w.heap.size,1,none⟩ (.int .u64 (u1:Int))).setCell ⟨w.heap.size,2,none⟩ (.int .u64 (v0:Int))).setCell ⟨w.heap.size,3,none⟩ (.int .u64 (v1:Int))).setCell ⟨w.heap.size,4,none⟩ (.bool c)) :=
  ((((Q.setCell (Or.inr (by simp)) _).setCell (Or.inr (by simp)) _).setCell (Or.inr (by simp)) _).setCell (Or.inr (by simp)) _).setCell (Or.inr (by simp)) _
 generalize (((((wr.setCell ⟨w.heap.size,0,none⟩ (.int .u64 (u0:Int))).setCell ⟨w.heap.size,1,none⟩ (.int .u64 (u1:Int))).setCell ⟨w.heap.size,2,none⟩ (.int .u64 (v0:Int))).setCell ⟨w.heap.size,3,none⟩ (.int .u64 (v1:Int))).setCell ⟨w.heap.size,4,none⟩ (.bool c))=wz at *
 have r:wz.cell? ⟨w.heap.size,0,none⟩=some (.int .u64 (u0:Int)):=d.cell 0
 have t:wz.cell? ⟨w.heap.size,1,none⟩=some (.int .u64 (u1:Int)):=d.cell 1
 have u:wz.cell? ⟨w.heap.size,2,none⟩=some (.int .u64 (v0:Int)):=d.cell 2
 have x:wz.cell? ⟨w.heap.size,3,none⟩=some (.int .u64 (v1:Int)):=d.cell 3
 have y:wz.cell? ⟨w.heap.size,4,none⟩=some (.bool c):=d.cell 4
 obtain⟨_,_,z,C,_,D,E,_⟩:=o
 exact bodyPost_ret (v:=.agg (lI u0 u1 v0 v1 c)) (by simp[results,g,q,go_sem,r,t,u,x,y,lI]) rfl ⟨u0,u1,v0,v1,c,rfl,z,C,D,E,n.2.2.2.2.2.2.2,h⟩
theorem ZgB (bA oA bB oB c c2 n u v s a1 a0 b1 b0 H1 L1 A H2 L2 B a b:Nat)(w:World)(hn:n≤4294967296)(e1:(n:Int)-1=(u:Int))(e2:(n:Int)-2=(v:Int))(w0:bA<w.heap.size)(x0:bB<w.heap.size)(J:w.cell? ⟨bA,oA+u,none⟩=some (.int .u64 (a1:Int)))(L:w.cell? ⟨bA,oA+v,none⟩=some (.int .u64 (a0:Int)))(M:w.cell? ⟨bB,oB+u,none⟩=some (.int .u64 (b1:Int)))(N:w.cell? ⟨bB,oB+v,none⟩=some (.int .u64 (b0:Int)))(O:a1<W64)(hs:64-(Lib.bitLen a1:Int)=s)(r0:s≤63)(p1:IntKind.u64.wrap ((a1:Int)*2^s)=(H1:Int))(p2:(a0:Int)/2^(64-s)=(L1:Int))(p3:bits .or .u64 (H1:Int) (L1:Int)=(A:Int))(p4:IntKind.u64.wrap ((b1:Int)*2^s)=(H2:Int))(p5:(b0:Int)/2^(64-s)=(L2:Int))(p6:bits .or .u64 (H2:Int) (L2:Int)=(B:Int))(K a' b':Nat)(ha:a=A*K+a')(hb:b=B*K+b')(P:a'<K)(Q:b'<K)(R:A<W64)(S:B≤A) :
 yA 294 #[.slice (some ⟨bA,oA,none⟩) n c,.slice (some ⟨bB,oB,none⟩) n c2] w (dY a b w):=by
 have HS:=zh hs
 have HA:=zh O
 have Ha:=zh ha
 have Hb:=zh hb
 have g0:=zh P
 have h0:=zh Q
 have j:=zh R
 have E:=zh S
 clear ha hb P Q R S
 have i1:(u:Int)<(n:Int):=by omega
 have i2:(v:Int)<(n:Int):=by omega
 have i3:u<n:=by omega
 have i4:v<n:=by omega
 have i5:u≤4294967296:=by omega
 have i6:v≤4294967296:=by omega
 clear hs O
 go_enter Tryz.func294,Tryz.ntmps294
 go_wp2_with (go_at_call 329;refine (aV _ _ HA.out).mono ?_;rintro e w' ⟨rfl,rfl⟩;rw[HS.out])
 have r1:IntKind.i64.wrap (u:Int)=(u:Int):=by rw[IntKind.wrap_i64];omega
 have r2:IntKind.i64.wrap (v:Int)=(v:Int):=by rw[IntKind.wrap_i64];omega
 have r3:IntKind.u64.wrap (64-(s:Int))=((64-s:Nat):Int):=by rw[IntKind.wrap_u64];omega
 go_quiet (fail)
 clear r1 r2 r3
 go_wp2
 have r1:IntKind.i64.wrap (u:Int)=(u:Int):=by rw[IntKind.wrap_i64];omega
 have r2:IntKind.i64.wrap (v:Int)=(v:Int):=by rw[IntKind.wrap_i64];omega
 have r3:IntKind.u64.wrap (64-(s:Int))=((64-s:Nat):Int):=by rw[IntKind.wrap_u64];omega
 go_quiet (fail)
 clear r1 r2 r3
 go_wp2
 clear p1 p2 p3 p4 p5 p6 J L M N
 go_loopw [7,8,10,11] (fun fv sv i0 j0 wr=>∃ (f s u0 x y v0 k i:Nat) (m:Bool),fv=.int .u64 (f:Int)∧sv=.int .u64 (s:Int)∧i0=.int .u64 (y:Int)∧j0=.int .u64 (i:Int)∧Hid (iB A B a b m f s u0 x y v0 k i)∧Hid (SimW f s u0 x y v0 k i)∧Hid (Blk 383 wr (w.heap.size+1) (lI u0 x v0 k m))∧Hid (∃ cs,cs.size=5∧Blk 383 wr w.heap.size cs)∧Hid (Ext w wr)) (fun fv sv _ _ _=>(intOf fv).toNat + (intOf sv).toNat)
 case atStart =>
  have h1:=aK
  have h2:=j.out
  have h3:=E.out
  exact⟨A,B,0,1,0,0,0,1,false,rfl,rfl,rfl,rfl,iB.start E.out,⟨by omega,by omega,by omega,by omega,by omega,by omega,by omega,by omega⟩,Zb4 _ w _ _ _,⟨_,rfl,((Blk.new w _ _).drewN _).alloc _⟩,(((Fr.refl _ _).alloc _).drewN _).alloc _⟩
 case round =>
  obtain⟨f,s',u0,x,y,v0,k,i,m,rfl,rfl,rfl,rfl,H,o,h,k0,hF⟩:=hrel
  have c0:=h.out.cell 0
  have c1:=h.out.cell 1
  have T:=h.out.cell 2
  have c3:=h.out.cell 3
  have c4:=h.out.cell 4
  have f0:=h.out.frozen 0
  have f1:=h.out.frozen 1
  have f2:=h.out.frozen 2
  have f3:=h.out.frozen 3
  have f4:=h.out.frozen 4
  simp only[lI] at c0 c1 T c3 c4
  simp at c0 c1 T c3 c4
  have U:∃ y0 y1 y2 y3 y4:Value,Blk 383 wr w.heap.size #[y0,y1,y2,y3,y4]:=by
   obtain⟨cs,h5,hB⟩:=k0.out
   obtain⟨l⟩:=cs
   match l,h5 with
   | [y0,y1,y2,y3,y4],_=>exact⟨y0,y1,y2,y3,y4,hB⟩
  obtain⟨y0,y1,y2,y3,y4,g⟩:=U
  have d0:wr.cell? ⟨w.heap.size,0,none⟩=some y0:=g.cell 0
  have d1:wr.cell? ⟨w.heap.size,1,none⟩=some y1:=g.cell 1
  have d2:wr.cell? ⟨w.heap.size,2,none⟩=some y2:=g.cell 2
  have d3:wr.cell? ⟨w.heap.size,3,none⟩=some y3:=g.cell 3
  have d4:wr.cell? ⟨w.heap.size,4,none⟩=some y4:=g.cell 4
  have z0:=g.frozen 0
  have z1:=g.frozen 1
  have z2:=g.frozen 2
  have z3:=g.frozen 3
  have z4:=g.frozen 4
  have F:=zh g
  clear g
  by_cases I:i≤s'
  ·have l0:decide (i≤s')=true:=by rw[vF];exact I
   have A0:1≤i:=H.out.2.2.2.2.1
   have B0:s'≤f:=H.out.2.2.2.2.2.1
   obtain⟨D,_⟩:=H.out.sum_le (by omega)
   have w1:IntKind.u64.wrap ((f:Int)-(s':Int))=((f-s':Nat):Int):=by
    rw[show (f:Int)-(s':Int)=((f-s':Nat):Int) by omega]
    exact xV _ (by have:=o.out.1;omega)
   have w2:=lR (a:=k) (b:=i) (by have:=j.out;omega)
   obtain⟨d,ed⟩:=yE (f-s')
   obtain⟨ee,G⟩:=yE (k+i)
   rw[ed] at w1
   rw[G] at w2
   by_cases g2:k+i+s'≤f
   ·have m0:decide (ee≤d)=true:=by rw[vF];omega
    have V:0<s':=by omega
    obtain⟨q,eq⟩:=yE (f/s')
    obtain⟨r,er⟩:=yE (f%s')
    have hq:f=q*s'+r:=by rw[←eq,← er,uG];exact (tG f s').symm
    have hr:r<s':=by rw[←er];exact uP _ V
    have W:1≤q:=by
     rcases uJ q with e|e
     ·rw[e,sU] at hq;omega
     exact e
    have p:=zh (H.out.step Ha.out Hb.out g0.out h0.out I g2 hq hr W)
    obtain⟨X,Y⟩:=p.out.new_le (by omega)
    have n0:B<W64:=by have:=j.out;have:=E.out;omega
    have w3:(f:Int)/(s':Int)=(q:Int):=by rw[←vY,eq]
    have w4:(f:Int)%(s':Int)=(r:Int):=by rw[←Int.natCast_emod,er]
    have C0:(f:Int).tmod (s':Int)=(r:Int):=by rw[tJ (by omega)];exact w4
    have D0:(f:Int).tdiv (s':Int)=(q:Int):=by rw[tF (by omega)];exact w3
    have o0:q≤f:=by rw[←eq];exact vU _ _
    have w5:IntKind.u64.wrap (q:Int)=(q:Int):=xV _ (by have:=o.out.1;omega)
    have w6:=iL (a:=q) (b:=y) (by omega)
    have w7:=iL (a:=q) (b:=i) (by have:=j.out;omega)
    obtain⟨m1,z⟩:=yE (q*y)
    obtain⟨m2,C⟩:=yE (q*i)
    rw[z] at w6
    rw[C] at w7
    rw[z,C] at p
    rw[C] at X
    rw[z] at Y
    have w8:=lR (a:=x) (b:=m1) (by omega)
    have w9:=lR (a:=k) (b:=m2) (by have:=j.out;omega)
    obtain⟨u3,Z⟩:=yE (x+m1)
    obtain⟨v3,e0⟩:=yE (k+m2)
    rw[Z] at w8 p
    rw[e0] at w9 p
    have s0:((s':Int) == 0)=false:=by simp;omega
    have E0:s'≠0:=by omega
    have p0:Hid (SimW s' r x y u3 k i v3):=by
     obtain⟨k1,k2,k3,k4,k5,k6,k7,k8⟩:=o.out
     have:=j.out
     exact⟨k2,by omega,k4,k5,by omega,k7,k8,by omega⟩
    have q0:=zh (((((h.out.set_ 0 (.int .u64 (x:Int))).set_ 1 (.int .u64 (y:Int))).set_ 2 (.int .u64 (k:Int))).set_ 3 (.int .u64 (i:Int))).set_ 4 (.bool (!m)))
    have t0:s'+r<f+s':=by omega
    clear eq er hq hr W X Y z C Z e0 ed G D I g2 V n0 o0
    go_wp2
    go_region
    all_goals
     go_wp2
     refine⟨⟨s',r,x,y,u3,k,i,v3,!m,rfl,rfl,rfl,rfl,p,p0,q0.out,⟨_,rfl,((((F.out.far (by simp) _).far (by simp) _).far (by simp) _).far (by simp) _).far (by simp) _⟩,(Zh5 hF.out _ _ _ _ _).drew⟩,?_⟩
     simp[intOf];omega
   have m0:decide (ee≤d)=false:=by rw[vA];omega
   have t:=zh (Za3 H.out o.out F.out hF.out)
   clear ed G D I g2
   go_wp2
   exact t.out _ _ rfl rfl
  have l0:decide (i≤s')=false:=by rw[vA];exact I
  have t:=zh (Za3 H.out o.out F.out hF.out)
  clear I
  go_wp2
  exact t.out _ _ rfl rfl
theorem ZgC (Z oA bB oB c c2 n n1 u s a1 a0 b0 H1 L1 A B a b:Nat)(w:World)(hn:n≤4294967296)(e1:(n:Int)-1=(n1:Int))(e2:(n:Int)-2=(u:Int))(t0:Z<w.heap.size)(w0:bB<w.heap.size)(I:w.cell? ⟨Z,oA+n1,none⟩=some (.int .u64 (a1:Int)))(J:w.cell? ⟨Z,oA+u,none⟩=some (.int .u64 (a0:Int)))(L:w.cell? ⟨bB,oB+u,none⟩=some (.int .u64 (b0:Int)))(M:a1<W64)(hs:64-(Lib.bitLen a1:Int)=s)(q0:s≤63)(p1:IntKind.u64.wrap ((a1:Int)*2^s)=(H1:Int))(p2:(a0:Int)/2^(64-s)=(L1:Int))(p3:bits .or .u64 (H1:Int) (L1:Int)=(A:Int))(p5:(b0:Int)/2^(64-s)=(B:Int))(K a' b':Nat)(ha:a=A*K+a')(hb:b=B*K+b')(N:a'<K)(O:b'<K)(P:A<W64)(Q:B≤A) :
 yA 294 #[.slice (some ⟨Z,oA,none⟩) n c,.slice (some ⟨bB,oB,none⟩) n1 c2] w (dY a b w):=by
 have HS:=zh hs
 have HA:=zh M
 have Ha:=zh ha
 have Hb:=zh hb
 have e0:=zh N
 have g0:=zh O
 have j:=zh P
 have D:=zh Q
 clear ha hb N O P Q
 have i1:(n1:Int)<(n:Int):=by omega
 have i2:(u:Int)<(n:Int):=by omega
 have i3:n1<n:=by omega
 have i4:u<n:=by omega
 have i5:n1≤4294967296:=by omega
 have i6:u≤4294967296:=by omega
 have i7:(u:Int)<(n1:Int):=by omega
 have i8:u<n1:=by omega
 have t1:((n1:Int) == (n:Int))=false:=by simp;omega
 clear hs M
 go_enter Tryz.func294,Tryz.ntmps294
 go_wp2_with (go_at_call 329;refine (aV _ _ HA.out).mono ?_;rintro e w' ⟨rfl,rfl⟩;rw[HS.out])
 have r1:IntKind.i64.wrap (n1:Int)=(n1:Int):=by rw[IntKind.wrap_i64];omega
 have r2:IntKind.i64.wrap (u:Int)=(u:Int):=by rw[IntKind.wrap_i64];omega
 have r3:IntKind.u64.wrap (64-(s:Int))=((64-s:Nat):Int):=by rw[IntKind.wrap_u64];omega
 go_quiet (fail)
 clear r1 r2
 go_wp2
 clear r3 p1 p2 p3 p5 I J L
 go_loopw [7,8,10,11] (fun fv sv h0 i0 wr=>∃ (f s u0 v x v0 k i:Nat) (m:Bool),fv=.int .u64 (f:Int)∧sv=.int .u64 (s:Int)∧h0=.int .u64 (x:Int)∧i0=.int .u64 (i:Int)∧Hid (iB A B a b m f s u0 v x v0 k i)∧Hid (SimW f s u0 v x v0 k i)∧Hid (Blk 383 wr (w.heap.size+1) (lI u0 v v0 k m))∧Hid (∃ cs,cs.size=5∧Blk 383 wr w.heap.size cs)∧Hid (Ext w wr)) (fun fv sv _ _ _=>(intOf fv).toNat + (intOf sv).toNat)
 case atStart =>
  have h1:=aK
  have h2:=j.out
  have h3:=D.out
  exact⟨A,B,0,1,0,0,0,1,false,rfl,rfl,rfl,rfl,iB.start D.out,⟨by omega,by omega,by omega,by omega,by omega,by omega,by omega,by omega⟩,Zb4 _ w _ _ _,⟨_,rfl,((Blk.new w _ _).drewN _).alloc _⟩,(((Fr.refl _ _).alloc _).drewN _).alloc _⟩
 case round =>
  obtain⟨f,s',u0,v,x,v0,k,i,m,rfl,rfl,rfl,rfl,G,o,h,j0,hF⟩:=hrel
  have c0:=h.out.cell 0
  have c1:=h.out.cell 1
  have R:=h.out.cell 2
  have c3:=h.out.cell 3
  have c4:=h.out.cell 4
  have f0:=h.out.frozen 0
  have f1:=h.out.frozen 1
  have f2:=h.out.frozen 2
  have f3:=h.out.frozen 3
  have f4:=h.out.frozen 4
  simp only[lI] at c0 c1 R c3 c4
  simp at c0 c1 R c3 c4
  have S:∃ y0 y1 y2 y3 y4:Value,Blk 383 wr w.heap.size #[y0,y1,y2,y3,y4]:=by
   obtain⟨cs,h5,hB⟩:=j0.out
   obtain⟨l⟩:=cs
   match l,h5 with
   | [y0,y1,y2,y3,y4],_=>exact⟨y0,y1,y2,y3,y4,hB⟩
  obtain⟨y0,y1,y2,y3,y4,g⟩:=S
  have d0:wr.cell? ⟨w.heap.size,0,none⟩=some y0:=g.cell 0
  have d1:wr.cell? ⟨w.heap.size,1,none⟩=some y1:=g.cell 1
  have d2:wr.cell? ⟨w.heap.size,2,none⟩=some y2:=g.cell 2
  have d3:wr.cell? ⟨w.heap.size,3,none⟩=some y3:=g.cell 3
  have d4:wr.cell? ⟨w.heap.size,4,none⟩=some y4:=g.cell 4
  have z0:=g.frozen 0
  have z1:=g.frozen 1
  have z2:=g.frozen 2
  have z3:=g.frozen 3
  have z4:=g.frozen 4
  have E:=zh g
  clear g
  by_cases H:i≤s'
  ·have k0:decide (i≤s')=true:=by rw[vF];exact H
   have x0:1≤i:=G.out.2.2.2.2.1
   have A0:s'≤f:=G.out.2.2.2.2.2.1
   obtain⟨C,_⟩:=G.out.sum_le (by omega)
   have w1:IntKind.u64.wrap ((f:Int)-(s':Int))=((f-s':Nat):Int):=by
    rw[show (f:Int)-(s':Int)=((f-s':Nat):Int) by omega]
    exact xV _ (by have:=o.out.1;omega)
   have w2:=lR (a:=k) (b:=i) (by have:=j.out;omega)
   obtain⟨d,ed⟩:=yE (f-s')
   obtain⟨ee,F⟩:=yE (k+i)
   rw[ed] at w1
   rw[F] at w2
   by_cases g2:k+i+s'≤f
   ·have l0:decide (ee≤d)=true:=by rw[vF];omega
    have T:0<s':=by omega
    obtain⟨q,eq⟩:=yE (f/s')
    obtain⟨r,er⟩:=yE (f%s')
    have hq:f=q*s'+r:=by rw[←eq,← er,uG];exact (tG f s').symm
    have hr:r<s':=by rw[←er];exact uP _ T
    have U:1≤q:=by
     rcases uJ q with e|e
     ·rw[e,sU] at hq;omega
     exact e
    have p:=zh (G.out.step Ha.out Hb.out e0.out g0.out H g2 hq hr U)
    obtain⟨V,W⟩:=p.out.new_le (by omega)
    have m0:B<W64:=by have:=j.out;have:=D.out;omega
    have w3:(f:Int)/(s':Int)=(q:Int):=by rw[←vY,eq]
    have w4:(f:Int)%(s':Int)=(r:Int):=by rw[←Int.natCast_emod,er]
    have B0:(f:Int).tmod (s':Int)=(r:Int):=by rw[tJ (by omega)];exact w4
    have C0:(f:Int).tdiv (s':Int)=(q:Int):=by rw[tF (by omega)];exact w3
    have n0:q≤f:=by rw[←eq];exact vU _ _
    have w5:IntKind.u64.wrap (q:Int)=(q:Int):=xV _ (by have:=o.out.1;omega)
    have w6:=iL (a:=q) (b:=x) (by omega)
    have w7:=iL (a:=q) (b:=i) (by have:=j.out;omega)
    obtain⟨m1,y⟩:=yE (q*x)
    obtain⟨m2,z⟩:=yE (q*i)
    rw[y] at w6
    rw[z] at w7
    rw[y,z] at p
    rw[z] at V
    rw[y] at W
    have w8:=lR (a:=v) (b:=m1) (by omega)
    have w9:=lR (a:=k) (b:=m2) (by have:=j.out;omega)
    obtain⟨u3,X⟩:=yE (v+m1)
    obtain⟨v3,Y⟩:=yE (k+m2)
    rw[X] at w8 p
    rw[Y] at w9 p
    have r0:((s':Int) == 0)=false:=by simp;omega
    have D0:s'≠0:=by omega
    have o0:Hid (SimW s' r v x u3 k i v3):=by
     obtain⟨k1,k2,k3,k4,k5,k6,k7,k8⟩:=o.out
     have:=j.out
     exact⟨k2,by omega,k4,k5,by omega,k7,k8,by omega⟩
    have p0:=zh (((((h.out.set_ 0 (.int .u64 (v:Int))).set_ 1 (.int .u64 (x:Int))).set_ 2 (.int .u64 (k:Int))).set_ 3 (.int .u64 (i:Int))).set_ 4 (.bool (!m)))
    have s0:s'+r<f+s':=by omega
    clear eq er hq hr U V W y z X Y ed F C H g2 T m0 n0
    go_wp2
    go_region
    all_goals
     go_wp2
     refine⟨⟨s',r,v,x,u3,k,i,v3,!m,rfl,rfl,rfl,rfl,p,o0,p0.out,⟨_,rfl,((((E.out.far (by simp) _).far (by simp) _).far (by simp) _).far (by simp) _).far (by simp) _⟩,(Zh5 hF.out _ _ _ _ _).drew⟩,?_⟩
     simp[intOf];omega
   have l0:decide (ee≤d)=false:=by rw[vA];omega
   have t:=zh (Za3 G.out o.out E.out hF.out)
   clear ed F C H g2
   go_wp2
   exact t.out _ _ rfl rfl
  have k0:decide (i≤s')=false:=by rw[vA];exact H
  have t:=zh (Za3 G.out o.out E.out hF.out)
  clear H
  go_wp2
  exact t.out _ _ rfl rfl
theorem Zf4 (t x c c2 n g h k s u F G H A a b:Nat)(O:Option Addr)(w:World)(hn:n≤4294967296)(e1:(n:Int)-1=(g:Int))(e2:(n:Int)-2=(h:Int))(hk:k<g)(P:t<w.heap.size)(i:w.cell? ⟨t,x+g,none⟩=some (.int .u64 (u:Int)))(j:w.cell? ⟨t,x+h,none⟩=some (.int .u64 (F:Int)))(m:u<W64)(I:64-(Lib.bitLen u:Int)=s)(J:s≤63)(Q:IntKind.u64.wrap ((u:Int)*2^s)=(G:Int))(R:(F:Int)/2^(64-s)=(H:Int))(S:bits .or .u64 (G:Int) (H:Int)=(A:Int))(o:A<W64) :
 yA 294 #[.slice (some ⟨t,x,none⟩) n c,.slice O k c2] w (dY a b w):=by
 have T:=zh I
 have U:=zh m
 have y:=zh o
 clear o
 have i1:(g:Int)<(n:Int):=by omega
 have i2:(h:Int)<(n:Int):=by omega
 have i3:g<n:=by omega
 have i4:h<n:=by omega
 have i5:g≤4294967296:=by omega
 have i6:h≤4294967296:=by omega
 have t1:((k:Int) == (n:Int))=false:=by simp;omega
 have t2:((k:Int) == (g:Int))=false:=by simp;omega
 clear I m
 go_enter Tryz.func294,Tryz.ntmps294
 go_wp2_with (go_at_call 329;refine (aV _ _ U.out).mono ?_;rintro e w' ⟨rfl,rfl⟩;rw[T.out])
 have V:IntKind.i64.wrap (g:Int)=(g:Int):=by rw[IntKind.wrap_i64];omega
 have W:IntKind.i64.wrap (h:Int)=(h:Int):=by rw[IntKind.wrap_i64];omega
 have X:IntKind.u64.wrap (64-(s:Int))=((64-s:Nat):Int):=by rw[IntKind.wrap_u64];omega
 go_quiet (fail)
 clear V W X
 go_wp2
 clear Q R S i j
 go_loopw [7,8,10,11] (fun Y Z z C wr=>Y=.int .u64 (A:Int)∧Z=.int .u64 0∧z=.int .u64 0∧C=.int .u64 1∧Hid (Blk 383 wr (w.heap.size+1) (lI 0 1 0 0 false))∧Hid (∃ v,v.size=5∧Blk 383 wr w.heap.size v)∧Hid (Ext w wr)) (fun _ _ _ _ _=>0)
 case atStart =>
  exact⟨rfl,rfl,rfl,rfl,Zb4 _ w _ _ _,⟨_,rfl,((Blk.new w _ _).drewN _).alloc _⟩,(((Fr.refl _ _).alloc _).drewN _).alloc _⟩
 case round =>
  obtain⟨rfl,rfl,rfl,rfl,f,D,hF⟩:=hrel
  have K:=f.out.cell 0
  have L:=f.out.cell 1
  have p:=f.out.cell 2
  have M:=f.out.cell 3
  have N:=f.out.cell 4
  simp only[lI] at K L p M N
  simp at K L p M N
  have q:∃ y0 y1 y2 y3 y4:Value,Blk 383 wr w.heap.size #[y0,y1,y2,y3,y4]:=by
   obtain⟨v,h5,hB⟩:=D.out
   obtain⟨l⟩:=v
   match l,h5 with
   | [y0,y1,y2,y3,y4],_=>exact⟨y0,y1,y2,y3,y4,hB⟩
  obtain⟨y0,y1,y2,y3,y4,d⟩:=q
  have d0:wr.cell? ⟨w.heap.size,0,none⟩=some y0:=d.cell 0
  have d1:wr.cell? ⟨w.heap.size,1,none⟩=some y1:=d.cell 1
  have d2:wr.cell? ⟨w.heap.size,2,none⟩=some y2:=d.cell 2
  have d3:wr.cell? ⟨w.heap.size,3,none⟩=some y3:=d.cell 3
  have d4:wr.cell? ⟨w.heap.size,4,none⟩=some y4:=d.cell 4
  have z0:=d.frozen 0
  have z1:=d.frozen 1
  have z2:=d.frozen 2
  have z3:=d.frozen 3
  have z4:=d.frozen 4
  have E:=aK
  have r:=zh (Za3 (A:=A) (B:=0) (a:=a) (b:=b) (iB.start (uM A)) ⟨y.out,by omega,by omega,by omega,by omega,by omega,by omega,by omega⟩ d hF.out)
  clear d E
  go_wp2
  exact r.out _ _ rfl rfl
theorem Zft {a b s:Nat}(d:a*2^s<W64)(f:b<W64)(j:s≤63) :
 IntKind.u64.wrap ((a:Int)*2^s)=((a*2^s:Nat):Int)∧(b:Int)/2^(64-s)=((b/2^(64-s):Nat):Int) ∧
 bits .or .u64 ((a*2^s:Nat):Int) ((b/2^(64-s):Nat):Int)=((a*2^s+b/2^(64-s):Nat):Int)∧a*2^s+b/2^(64-s)<W64:=by
 have h:b/2^(64-s)<2^s:=by
  apply sF
  rw[←vV,show 64-s+s=64 by omega]
  rw[zM] at f;exact f
 have c:a*2^s+b/2^(64-s)<W64:=by
  have k:a*2^s+2^s≤W64:=by
   have e:W64=2^(64-s)*2^s:=by rw[←vV,show 64-s+s=64 by omega,zM]
   rw[e] at d ⊢
   have i:a<2^(64-s):=sV d
   have g:(a+1)*2^s≤2^(64-s)*2^s:=uC _ i
   rw[uT,Nat.one_mul] at g
   exact g
  omega
 refine⟨?_,?_,?_,c⟩
 ·rw[aW,vI d]
 ·rw[vY];simp
 rw[dK d (by omega)]
 congr 1
 have:=tL h a
 rw[sI] at this
 exact this.symm
theorem Zb5 (v z A B:Nat)(xs b:List Nat)(w:World)(g:Own .u64 297 w v xs)(h:Own .u64 297 w z b)(F:Dig W64 xs)(C:Dig W64 b)(T:Trim xs)(hl:b.length≤xs.length)(h2:2≤b.length)(G:val W64 b≤val W64 xs)(hn:xs.length≤4294967296) :
 yA 294 #[.slice (some ⟨v,0,none⟩) xs.length A,.slice (some ⟨z,0,none⟩) b.length B] w (dY (val W64 xs) (val W64 b) w):=by
 obtain⟨k,H⟩:∃ k,xs.length=k+2:=⟨xs.length-2,by omega⟩
 obtain⟨a1,l⟩:=yE (xs[k+1]?.getD 0)
 obtain⟨t,p⟩:=yE (xs[k]?.getD 0)
 have m:a1<W64:=l ▸ F.getD zZ _
 have I:t<W64:=p ▸ F.getD zZ _
 have U:a1≠0:=l ▸ T (k+1) H
 have c:=g.cell (i:=k+1) (by omega)
 have d:=g.cell (i:=k) (by omega)
 rw[l] at c
 rw[p] at d
 have J:1≤Lib.bitLen a1∧Lib.bitLen a1≤64∧a1<2^Lib.bitLen a1:=by
  obtain⟨V,W,_,X⟩:=eB (by omega) m
  exact⟨V,W,X⟩
 obtain⟨s,hs⟩:=yE (64-Lib.bitLen a1)
 have a:s≤63:=by omega
 have Y:a1*2^s<W64:=by
  have P:a1*2^s<2^Lib.bitLen a1*2^s:=tE J.2.2 (uU (by omega))
  rw[←vV,show Lib.bitLen a1+s=64 by omega] at P
  rw[zM];exact P
 obtain⟨K,L,M,n⟩:=Zft Y I a
 have Q:=ZgA H F l p a
 have D:0<W64^k*2^(64-s):=rQ (uU zZ) (uU (by omega))
 have R:val W64 xs=(a1*2^s+t/2^(64-s))*(W64^k*2^(64-s))+val W64 xs%(W64^k*2^(64-s)):=by
  rw[←Q,uG];exact (tG _ _).symm
 have j:val W64 b/(W64^k*2^(64-s))≤a1*2^s+t/2^(64-s):=by rw[←Q];exact Nat.div_le_div_right G
 have E:val W64 b=val W64 b/(W64^k*2^(64-s))*(W64^k*2^(64-s))+val W64 b%(W64^k*2^(64-s)):=by
  rw[uG];exact (tG _ _).symm
 rw[H]
 rw[show (k+1:Nat)=0+(k+1) by omega] at c
 rw[show (k:Nat)=0+k by omega] at d
 rcases (by omega:b.length=k+2∨b.length=k+1∨b.length≤k) with u|u|u
 ·obtain⟨S,x⟩:=yE (b[k+1]?.getD 0)
  obtain⟨q,f⟩:=yE (b[k]?.getD 0)
  have y:q<W64:=f ▸ C.getD zZ _
  have o:=h.cell (i:=k+1) (by omega)
  have e:=h.cell (i:=k) (by omega)
  rw[x,show (k+1:Nat)=0+(k+1) by omega] at o
  rw[f,show (k:Nat)=0+k by omega] at e
  have r:=ZgA u C x f a
  rw[r] at E j
  have N:S*2^s<W64:=uN (uD (Nat.le_add_right _ _) j) n
  obtain⟨Z,O,p6,_⟩:=Zft N y a
  rw[u]
  exact ZgB v 0 z 0 A B (k+2) (k+1) k s a1 t S q _ _ _ _ _ _ _ _ w (by omega) (by omega) (by omega) g.lt h.lt c d o e m (by omega) a K L M Z O p6 _ _ _ R E (uP _ D) (uP _ D) n j
 ·obtain⟨q,f⟩:=yE (b[k]?.getD 0)
  have y:q<W64:=f ▸ C.getD zZ _
  have e:=h.cell (i:=k) (by omega)
  rw[f,show (k:Nat)=0+k by omega] at e
  have r:=Zk6 (s:=s) u C f
  have O:(q:Int)/2^(64-s)=((q/2^(64-s):Nat):Int):=by rw[vY];simp
  rw[r] at E j
  rw[u]
  exact ZgC v 0 z 0 A B (k+2) (k+1) k s a1 t q _ _ _ _ _ _ w (by omega) (by omega) (by omega) g.lt h.lt c d e m (by omega) a K L M O _ _ _ R E (uP _ D) (uP _ D) n j
 exact Zf4 v 0 A B (k+2) (k+1) k b.length s a1 t _ _ _ _ _ _ w (by omega) (by omega) (by omega) (by omega) g.lt c d m (by omega) a K L M n
def eP (bA bB n r0 r1:Nat) (w:World) (e:Ending) (w':World):Prop :=
 ∃ zs zt:List Nat,e=.returned (.tuple #[])∧Own .u64 297 w' bA zs∧Own .u64 297 w' bB zt∧val W64 zs=r0∧val W64 zt=r1∧Dig W64 zs∧Dig W64 zt∧zs.length=n∧zt.length=n ∧
   lA 297 bA w w'∧lA 297 bB w w'∧Fr (fun i=>i=bA∨i=bB) w w'
theorem Zd3 (g h n cA cB u0 u1 v0 v1 E F:Nat)(xs c:List Nat)(w:World)(ha:xs.length=n)(hb:c.length=n)(a:Own .u64 297 w g xs)(b:Own .u64 297 w h c)(G:g≠h)(da:Dig W64 xs)(db:Dig W64 c)(hn:n≤1099511627776)(H:u0<W64)(I:u1<W64)(J:v0<W64)(K:v1<W64)(h0:E+u0*val W64 xs=v0*val W64 c)(h1:F+v1*val W64 c=u1*val W64 xs)(l0:E<W64^n)(l1:F<W64^n) :
 yA 296 #[.agg (lI u0 u1 v0 v1 false),.slice (some ⟨g,0,none⟩) n cA,.slice (some ⟨h,0,none⟩) n cB] w (eP g h n E F w):=by
 have L:=zh H
 have M:=zh I
 have N:=zh J
 have O:=zh K
 have j:=zh da
 have l:=zh db
 have H0:=zh h0
 have H1:=zh h1
 have d0:Hid (E<W64^xs.length):=by unfold Hid;rw[ha];exact l0
 have e0:Hid (F<W64^c.length):=by unfold Hid;rw[hb];exact l1
 have f0:=zh ha
 have g0:=zh hb
 have i0:=zh a
 have j0:=zh b
 have A0:=a.lt
 have B0:=b.lt
 unfold lI
 clear ha hb a b da db H I J K h0 h1 l0 l1
 go_enter Tryz.func296,Tryz.ntmps296
 go_wp2
 generalize s:World.alloc w _=wb
 have k0:Hid (Blk 383 wb w.heap.size #[.int .u64 (u0:Int),.int .u64 (u1:Int),.int .u64 (v0:Int),.int .u64 (v1:Int),.bool false]):=s ▸ Blk.new _ _ _
 have P:Hid (Ext w wb):=s ▸ (Fr.refl _ _).alloc _
 clear s
 go_loopw [6,7,8,9,10,11,21] (fun pv qv rv tv bv lv iv wr=>∃ (k A B C D Q R:Nat) (S T:List Nat),k≤n∧pv=.int .u64 (A:Int)∧qv=.int .u64 (B:Int)∧rv=.int .u64 (C:Int)∧tv=.int .u64 (D:Int)∧bv=.int .u64 (Q:Int)∧lv=.int .u64 (R:Int)∧iv=.int .i64 (k:Int) ∧
  Hid (jA u0 v0 xs c xs k S A B Q)∧Hid (jA v1 u1 c xs c k T C D R)∧Hid (Own .u64 297 wr g S)∧Hid (Own .u64 297 wr h T)∧Hid (lA 297 g w wr)∧Hid (lA 297 h w wr)∧Hid (Fr (fun i=>i=g∨i=h) wb wr)) (fun _ _ _ _ _ _ iv _=>n-(intOf iv).toNat)
 case atStart=>exact⟨0,0,0,0,0,0,0,xs,c,uM _,rfl,rfl,rfl,rfl,rfl,rfl,rfl,jA.start j.out,jA.start l.out,i0.out.ext P.out,j0.out.ext P.out,(lA.refl _ _ _).fr P.out (fun f=>f),(lA.refl _ _ _).fr P.out (fun f=>f),Fr.refl _ _⟩
 case round =>
  obtain⟨k,A,B,C,D,Q,R,S,T,hk,rfl,rfl,rfl,rfl,rfl,rfl,rfl,q,r,a,b,t,u,hF⟩:=hrel
  have C0:=f0.out
  have D0:=g0.out
  by_cases E0:k<n
  ·have m:k<xs.length:=by omega
   have o:k<c.length:=by omega
   have m0:=q.out.1
   have n0:=r.out.1
   obtain⟨x,U⟩:=yE (xs[k]?.getD 0)
   obtain⟨y,V⟩:=yE (c[k]?.getD 0)
   have o0:=a.out.cell (i:=k) (by omega)
   have p0:=b.out.cell (i:=k) (by omega)
   rw[q.out.at,U] at o0
   rw[r.out.at,V] at p0
   have F0:=a.out.frozen k
   have G0:=b.out.frozen k
   have X:Hid (x<W64):=U ▸ j.out.getD zZ k
   have Y:Hid (y<W64):=V ▸ l.out.getD zZ k
   have q0:=zh (q.out.step L.out N.out m o m j.out l.out U V)
   have t0:=zh (r.out.step O.out M.out o m o l.out j.out V U)
   have Z:¬ (w.heap.size=g∨w.heap.size=h):=by omega
   have d:=k0.out.fr hF.out Z
   have s0:wr.cell? ⟨w.heap.size,0,none⟩=some (.int .u64 (u0:Int)):=d.cell 0
   have s1:wr.cell? ⟨w.heap.size,1,none⟩=some (.int .u64 (u1:Int)):=d.cell 1
   have s2:wr.cell? ⟨w.heap.size,2,none⟩=some (.int .u64 (v0:Int)):=d.cell 2
   have s3:wr.cell? ⟨w.heap.size,3,none⟩=some (.int .u64 (v1:Int)):=d.cell 3
   have s4:wr.cell? ⟨w.heap.size,4,none⟩=some (.bool false):=d.cell 4
   have w0:Q≤1:=q.out.2.2.2.2.2.1
   have x0:R≤1:=r.out.2.2.2.2.2.1
   have v:=zh (And.intro q.out.2.2.2.1 q.out.2.2.2.2.1)
   have z:=zh (And.intro r.out.2.2.2.1 r.out.2.2.2.2.1)
   have M1:=zh (fun W=>lK x u0 A W X.out L.out v.out.1)
   have M2:=zh (fun W=>lK y v0 B W Y.out N.out v.out.2)
   have M3:=zh (fun W=>lK y v1 C W Y.out O.out z.out.1)
   have M4:=zh (fun W=>lK x u1 D W X.out M.out z.out.2)
   generalize maLo x u0 A=p1 at *
   generalize maHi x u0 A=p2 at *
   generalize maLo y v0 B=q1 at *
   generalize maHi y v0 B=q2 at *
   generalize maLo y v1 C=r1' at *
   generalize maHi y v1 C=r2' at *
   generalize maLo x u1 D=t1 at *
   generalize maHi x u1 D=t2 at *
   have S1:=bK q1 p1 Q w0
   have S2:=bK t1 r1' R x0
   have y0:k<S.length:=by omega
   have z0:k<T.length:=by omega
   clear U V m o d m0 n0 v z
   go_wp2_with fail
   refine (M1.out _).mono ?_
   rintro e w' ⟨rfl,rfl⟩
   go_wp2_with fail
   refine (M2.out _).mono ?_
   rintro e w' ⟨rfl,rfl⟩
   go_wp2_with fail
   refine (M3.out _).mono ?_
   rintro e w' ⟨rfl,rfl⟩
   go_wp2_with fail
   refine (M4.out _).mono ?_
   rintro e w' ⟨rfl,rfl⟩
   go_wp2
   go_roundw
   case rel=>exact⟨k+1,p2,q2,r2',t2,_,_,_,_,by omega,rfl,rfl,rfl,rfl,rfl,rfl,by go_num,q0,t0,(a.out.set k _ y0).far (by simpa using G) _,(b.out.far (by simpa using fun e=>G e.symm) _).set k _ z0,(t.out.setCell _ _ _).setCell _ _ _,(u.out.setCell _ _ _).setCell _ _ _,(hF.out.setCell (p:=⟨g,k,none⟩) (Or.inl (Or.inl rfl)) _).setCell (p:=⟨h,k,none⟩) (Or.inl (Or.inr rfl)) _⟩
   case measure=>simp[intOf];omega
  obtain rfl:k=n:=by omega
  have a0:Hid (eP g h k E F w (.returned (.tuple #[])) wr):=by
   have e1:k=xs.length:=by omega
   have e2:k=c.length:=by omega
   have b0:=q.out
   have c0:=r.out
   rw[e1] at b0
   rw[e2] at c0
   have d1:=zh b0
   have d2:=zh c0
   have kA:=d1.out.done rfl (by omega) H0.out d0.out
   have kB:=d2.out.done rfl (by omega) H1.out e0.out
   exact⟨S,T,rfl,a.out,b.out,kA.1,kB.1,kA.2.1,kB.2.1,by omega,by omega,t.out,u.out,(P.out.mono (fun _ _ f=>f.elim)).trans ((hF.out.mono (fun _ _ f=>f)))⟩
  clear q r a b t u hF
  go_wp2
  go_end0
  exact a0.out
theorem Zfu (g h n cA cB u0 u1 v0 v1 E F:Nat)(xs c:List Nat)(w:World)(ha:xs.length=n)(hb:c.length=n)(a:Own .u64 297 w g xs)(b:Own .u64 297 w h c)(G:g≠h)(da:Dig W64 xs)(db:Dig W64 c)(hn:n≤1099511627776)(H:u0<W64)(I:u1<W64)(J:v0<W64)(K:v1<W64)(h0:E+v0*val W64 c=u0*val W64 xs)(h1:F+u1*val W64 xs=v1*val W64 c)(l0:E<W64^n)(l1:F<W64^n) :
 yA 296 #[.agg (lI u0 u1 v0 v1 true),.slice (some ⟨g,0,none⟩) n cA,.slice (some ⟨h,0,none⟩) n cB] w (eP g h n E F w):=by
 have L:=zh H
 have M:=zh I
 have N:=zh J
 have O:=zh K
 have j:=zh da
 have l:=zh db
 have H0:=zh h0
 have H1:=zh h1
 have d0:Hid (E<W64^xs.length):=by unfold Hid;rw[ha];exact l0
 have e0:Hid (F<W64^c.length):=by unfold Hid;rw[hb];exact l1
 have f0:=zh ha
 have g0:=zh hb
 have i0:=zh a
 have j0:=zh b
 have A0:=a.lt
 have B0:=b.lt
 unfold lI
 clear ha hb a b da db H I J K h0 h1 l0 l1
 go_enter Tryz.func296,Tryz.ntmps296
 go_wp2
 generalize s:World.alloc w _=wb
 have k0:Hid (Blk 383 wb w.heap.size #[.int .u64 (u0:Int),.int .u64 (u1:Int),.int .u64 (v0:Int),.int .u64 (v1:Int),.bool true]):=s ▸ Blk.new _ _ _
 have P:Hid (Ext w wb):=s ▸ (Fr.refl _ _).alloc _
 clear s
 go_loopw [6,7,8,9,10,11,21] (fun pv qv rv tv bv lv iv wr=>∃ (k A B C D Q R:Nat) (S T:List Nat),k≤n∧pv=.int .u64 (A:Int)∧qv=.int .u64 (B:Int)∧rv=.int .u64 (C:Int)∧tv=.int .u64 (D:Int)∧bv=.int .u64 (Q:Int)∧lv=.int .u64 (R:Int)∧iv=.int .i64 (k:Int) ∧
  Hid (jA v0 u0 c xs xs k S B A Q)∧Hid (jA u1 v1 xs c c k T D C R)∧Hid (Own .u64 297 wr g S)∧Hid (Own .u64 297 wr h T)∧Hid (lA 297 g w wr)∧Hid (lA 297 h w wr)∧Hid (Fr (fun i=>i=g∨i=h) wb wr)) (fun _ _ _ _ _ _ iv _=>n-(intOf iv).toNat)
 case atStart=>exact⟨0,0,0,0,0,0,0,xs,c,uM _,rfl,rfl,rfl,rfl,rfl,rfl,rfl,jA.start j.out,jA.start l.out,i0.out.ext P.out,j0.out.ext P.out,(lA.refl _ _ _).fr P.out (fun f=>f),(lA.refl _ _ _).fr P.out (fun f=>f),Fr.refl _ _⟩
 case round =>
  obtain⟨k,A,B,C,D,Q,R,S,T,hk,rfl,rfl,rfl,rfl,rfl,rfl,rfl,q,r,a,b,t,u,hF⟩:=hrel
  have C0:=f0.out
  have D0:=g0.out
  by_cases E0:k<n
  ·have m:k<xs.length:=by omega
   have o:k<c.length:=by omega
   have m0:=q.out.1
   have n0:=r.out.1
   obtain⟨x,U⟩:=yE (xs[k]?.getD 0)
   obtain⟨y,V⟩:=yE (c[k]?.getD 0)
   have o0:=a.out.cell (i:=k) (by omega)
   have p0:=b.out.cell (i:=k) (by omega)
   rw[q.out.at,U] at o0
   rw[r.out.at,V] at p0
   have F0:=a.out.frozen k
   have G0:=b.out.frozen k
   have X:Hid (x<W64):=U ▸ j.out.getD zZ k
   have Y:Hid (y<W64):=V ▸ l.out.getD zZ k
   have q0:=zh (q.out.step N.out L.out o m m l.out j.out V U)
   have t0:=zh (r.out.step M.out O.out m o o j.out l.out U V)
   have Z:¬ (w.heap.size=g∨w.heap.size=h):=by omega
   have d:=k0.out.fr hF.out Z
   have s0:wr.cell? ⟨w.heap.size,0,none⟩=some (.int .u64 (u0:Int)):=d.cell 0
   have s1:wr.cell? ⟨w.heap.size,1,none⟩=some (.int .u64 (u1:Int)):=d.cell 1
   have s2:wr.cell? ⟨w.heap.size,2,none⟩=some (.int .u64 (v0:Int)):=d.cell 2
   have s3:wr.cell? ⟨w.heap.size,3,none⟩=some (.int .u64 (v1:Int)):=d.cell 3
   have s4:wr.cell? ⟨w.heap.size,4,none⟩=some (.bool true):=d.cell 4
   have w0:Q≤1:=q.out.2.2.2.2.2.1
   have x0:R≤1:=r.out.2.2.2.2.2.1
   have v:=zh (And.intro q.out.2.2.2.1 q.out.2.2.2.2.1)
   have z:=zh (And.intro r.out.2.2.2.1 r.out.2.2.2.2.1)
   have M1:=zh (fun W=>lK x u0 A W X.out L.out v.out.2)
   have M2:=zh (fun W=>lK y v0 B W Y.out N.out v.out.1)
   have M3:=zh (fun W=>lK y v1 C W Y.out O.out z.out.2)
   have M4:=zh (fun W=>lK x u1 D W X.out M.out z.out.1)
   generalize maLo x u0 A=p1 at *
   generalize maHi x u0 A=p2 at *
   generalize maLo y v0 B=q1 at *
   generalize maHi y v0 B=q2 at *
   generalize maLo y v1 C=r1' at *
   generalize maHi y v1 C=r2' at *
   generalize maLo x u1 D=t1 at *
   generalize maHi x u1 D=t2 at *
   have S1:=bK p1 q1 Q w0
   have S2:=bK r1' t1 R x0
   have y0:k<S.length:=by omega
   have z0:k<T.length:=by omega
   clear U V m o d m0 n0 v z
   go_wp2_with fail
   refine (M1.out _).mono ?_
   rintro e w' ⟨rfl,rfl⟩
   go_wp2_with fail
   refine (M2.out _).mono ?_
   rintro e w' ⟨rfl,rfl⟩
   go_wp2_with fail
   refine (M3.out _).mono ?_
   rintro e w' ⟨rfl,rfl⟩
   go_wp2_with fail
   refine (M4.out _).mono ?_
   rintro e w' ⟨rfl,rfl⟩
   go_wp2
   go_roundw
   case rel=>exact⟨k+1,p2,q2,r2',t2,_,_,_,_,by omega,rfl,rfl,rfl,rfl,rfl,rfl,by go_num,q0,t0,(a.out.set k _ y0).far (by simpa using G) _,(b.out.far (by simpa using fun e=>G e.symm) _).set k _ z0,(t.out.setCell _ _ _).setCell _ _ _,(u.out.setCell _ _ _).setCell _ _ _,(hF.out.setCell (p:=⟨g,k,none⟩) (Or.inl (Or.inl rfl)) _).setCell (p:=⟨h,k,none⟩) (Or.inl (Or.inr rfl)) _⟩
   case measure=>simp[intOf];omega
  obtain rfl:k=n:=by omega
  have a0:Hid (eP g h k E F w (.returned (.tuple #[])) wr):=by
   have e1:k=xs.length:=by omega
   have e2:k=c.length:=by omega
   have b0:=q.out
   have c0:=r.out
   rw[e1] at b0
   rw[e2] at c0
   have d1:=zh b0
   have d2:=zh c0
   have kA:=d1.out.done (by omega) rfl H0.out d0.out
   have kB:=d2.out.done (by omega) rfl H1.out e0.out
   exact⟨S,T,rfl,a.out,b.out,kA.1,kB.1,kA.2.1,kB.2.1,by omega,by omega,t.out,u.out,(P.out.mono (fun _ _ f=>f.elim)).trans ((hF.out.mono (fun _ _ f=>f)))⟩
  clear q r a b t u hF
  go_wp2
  go_end0
  exact a0.out
end Go.Proofs.YtoanifijmlgcgaaGreatDoor
