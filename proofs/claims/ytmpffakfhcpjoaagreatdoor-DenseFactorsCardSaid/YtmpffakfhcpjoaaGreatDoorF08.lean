/-
 My texts.
-/
import Derived.Test.YtmpffakfhcpjoaaGreatDoorF07
import Derived.Lib.AppendIntMem
import Derived.Shelf.Spec.TrailingZeros
set_option maxRecDepth 100000
set_option maxHeartbeats 8000000
namespace Go.Proofs.YtmpffakfhcpjoaaGreatDoor
open Go.RowKit Tryz
def db64:List Int:=Lib.deBruijn64tab.map fun n:Nat=>(n:Int)
def Glob (w : World) : Prop := Lib.TabIs prog w "internal/strconv.uint64pow10" .u64 Lib.pow10Tab ∧ Lib.TabIs prog w "math/bits.deBruijn64tab" .u8 db64
theorem Glob.ext {w w':World}(h:Glob w)(a:Ext w w'):Glob w':=⟨Lib.tabBelow_of_tabIs h.1 w' a.toBelow,Lib.tabBelow_of_tabIs h.2 w' a.toBelow⟩
theorem Glob.cell {w:World}(h:Glob w)(i:Nat)(hi:i<64):w.cell? ⟨2,i,none⟩=some (.int .u8 ((Lib.deBruijn64tab.getD i 0:Nat):Int)):=by
 have a:=h.2.cell (g:=2) qK i (by rw[db64,vG];exact hi)
 rw[a]
 have b:i<Lib.deBruijn64tab.length:=hi
 simp[db64,uR b]
theorem Zge:∀ (f t m:Nat),t<f→Lib.ctzFrom f (2^t*(2*m+1))=t
 | 0,t,m,h=>qO
 | f+1,0,m,_=>by unfold Lib.ctzFrom;rw[uM qO]
 | f+1,t+1,m,h=>by
  unfold Lib.ctzFrom
  have e:2^(t+1)*(2*m+1)=2*(2^t*(2*m+1)):=by rw[uO,uG (2^t) 2,uH]
  rw[e,uI qO,pZ _ qO,Zge f t m qO]
  omega
theorem Zhu (x:Nat)(a:0<x)(b:x<W64):∃ t m,x=2^t*(2*m+1)∧t<64:=by
 rw[zN] at b
 obtain⟨m,c,d⟩:=Lib.ctzFrom_spec 64 x a qO
 exact⟨_,m,c,d⟩
theorem Zn9 (x k a:Nat)(w:World)(d:((x:Int) == 0)=false)(b:IntKind.u64.wrap (bits BinOp.and IntKind.u64 (x:Int) (IntKind.u64.wrap (-(x:Int)))*285870213051353865)/288230376151711744=(a:Int))(hi:a<64)(f:k<64)(c:w.cell? ⟨2,a,none⟩=some (.int .u8 (k:Int))) :
 Ζ 155 #[.int .u64 (x:Int)] w fun e w'=>e=.returned (.int .i64 (k:Int))∧w=w':=by
 go_enter func155,ntmps155
 go_wp2_with (simp only[b])
 go_ret
 exact⟨rfl,rfl⟩
theorem Zc9 (x t m:Nat)(w:World)(k:Glob w)(i:x=2^t*(2*m+1))(l:t<64)(c:x<W64) :
 Ζ 155 #[.int .u64 (x:Int)] w fun e w'=>e=.returned (.int .i64 (t:Int))∧w=w':=by
 rw[zN] at c
 have d:x≠0:=by
  rw[i];intro e
  rcases Nat.mul_eq_zero.1 e with e|e
  ·have:=uZ (a:=2) (n:=t) qO;omega
  omega
 obtain⟨f,j⟩:=Lib.lowest_bit 64 x d c
 obtain⟨hi,g⟩:=Lib.deBruijn64_at _ j
 have b:=k.cell _ hi
 rw[g] at b
 have e:Lib.ctz 64 x=t:=by
  unfold Lib.ctz
  rw[uI d,i]
  exact Zge 64 t m l
 have h:=Zn9 x _ _ w (by simp;omega) (Go.Proofs.tz64_key x _ c d f) hi j b
 rw[e] at h
 exact h
theorem aY (x t y:Nat)(a:x%2=1):Nat.gcd x (2^t*y)=Nat.gcd x y:=by
 have h:Nat.Coprime x (2^t):=by
  refine Nat.Coprime.pow_right t ?_
  rw[Nat.coprime_comm,Nat.Coprime,oG,a]
  simp
 exact h.symm.gcd_mul_left_cancel_right y
theorem ZkQ (a b x y:Nat)(d:x%2=1)(e:y%2=1):Nat.gcd (2^a*x) (2^b*y)=2^(min a b)*Nat.gcd x y:=by
 rcases nU a b with h|h
 ·obtain⟨c,rfl⟩:∃ c,b=a+c:=⟨b-a,qO⟩
  rw[uY h,uU,uH,Nat.gcd_mul_left,aY x c y d]
 obtain⟨c,rfl⟩:∃ c,a=b+c:=⟨a-b,qO⟩
 rw[Nat.min_eq_right h,uU,uH,Nat.gcd_mul_left,sP,aY y c x e,sP]
theorem ZtJ (a b m n:Nat):∃ k,2^a*(2*m+1) ||| 2^b*(2*n+1)=2^(min a b)*(2*k+1):=by
 have d:∀ c p q:Nat,∃ k,(2*p+1) ||| (2^c*(2*q+1))=2*k+1:=by
  intro c p q
  refine⟨((2*p+1) ||| (2^c*(2*q+1)))/2,?_⟩
  have:((2*p+1) ||| (2^c*(2*q+1)))%2=1:=by
   simp
  omega
 have f:∀ a x y:Nat,2^a*x ||| 2^a*y=2^a*(x ||| y):=by
  intro a x y
  rw[uG _ x,uG _ y,uG _ (x ||| y),← rL,← rL,← rL,Nat.shiftLeft_or_distrib]
 rcases nU a b with h|h
 ·obtain⟨c,rfl⟩:∃ c,b=a+c:=⟨b-a,qO⟩
  obtain⟨k,e⟩:=d c m n
  exact⟨k,by rw[uY h,uU,uH,f,e]⟩
 obtain⟨c,rfl⟩:∃ c,a=b+c:=⟨a-b,qO⟩
 obtain⟨k,e⟩:=d c n m
 exact⟨k,by rw[Nat.min_eq_right h,uU,uH,f,Nat.or_comm,e]⟩
theorem Zsa {x y:Nat}(a:x<W64)(b:y<W64):x ||| y<W64:=by
 rw[zN] at *
 exact Nat.or_lt_two_pow (n:=64) a b
theorem ZaD (x y g:Nat)(w:World)(hg:Glob w)(hx:x<W64)(hy:y<W64)(O:Nat.gcd x y=g) :
 Ζ 146 #[.int .u64 (x:Int),.int .u64 (y:Int)] w fun e w'=>e=.returned (.int .u64 (g:Int))∧w=w':=by
 have W:=zh O
 have v:=zh hx
 have L:=zh hy
 have A:=zh hg
 clear hg hx hy O
 by_cases h0:x=0
 ·subst h0
  have z:=bP (a:=0) (b:=y) v.out L.out
  have Y:Hid (y=g):=by have:=W.out;rw[Nat.gcd_zero_left] at this;exact this
  rw[Nat.zero_or] at z
  go_enter func146,ntmps146
  go_wp2
  go_ret
  exact⟨by rw[←Y.out];first|exact vP Ending.returned (vP (Value.int .u64) z)|rfl,rfl⟩
 have x0:((x:Int) == 0)=false:=by simp;omega
 by_cases P:y=0
 ·subst P
  have z:=bP (a:=x) (b:=0) v.out L.out
  have Y:Hid (x=g):=by have:=W.out;rw[qX] at this;exact this
  rw[Nat.or_zero] at z
  go_enter func146,ntmps146
  go_wp2
  go_ret
  exact⟨by rw[←Y.out];first|exact vP Ending.returned (vP (Value.int .u64) z)|rfl,rfl⟩
 have y0:((y:Int) == 0)=false:=by simp;omega
 obtain⟨a,m,c,ha⟩:=Zhu x qO v.out
 obtain⟨b,n,B,hb⟩:=Zhu y qO L.out
 obtain⟨k,Z⟩:=ZtJ a b m n
 have hm:min a b<64:=qO
 obtain⟨s,es⟩:=yE (min a b)
 rw[es] at Z hm
 have z:=bP v.out L.out
 obtain⟨o,X⟩:=yE (x ||| y)
 rw[X] at z
 have Q:=zh (Zc9 o s k w A.out (by rw[←X,← Z,← c,← B]) hm (by rw[←X];exact Zsa v.out L.out))
 have R:=zh (Zc9 x a m w A.out c ha v.out)
 have M:=ZcD x a
 have C:x/2^a=2*m+1:=by rw[c,pZ _ (uZ qO)]
 rw[C] at M
 obtain⟨N,i⟩:=yE (2*m+1)
 rw[i] at M
 have S:Hid (N%2=1):=by unfold Hid;omega
 have a0:Hid (2^s*Nat.gcd N y=g):=by
  unfold Hid
  rw[←W.out,B,aY N b (2*n+1) qO,c,ZkQ a b _ _ qO qO,es,i]
 have T:Hid (N<W64):=by
  have h2:N≤x:=by rw[←i,← C];exact vJ _ _
  have:=v.out
  unfold Hid;omega
 have d0:a≤63:=qO
 have e0:s≤63:=qO
 clear c B Z es X C i ha hb hm h0 P
 go_enter func146,ntmps146
 go_wp2_with fail
 (with_reducible refine Q.out.mono ?_)
 rintro e w' ⟨rfl,rfl⟩
 go_wp2_with fail
 (with_reducible refine R.out.mono ?_)
 rintro e w' ⟨rfl,rfl⟩
 clear Q R
 go_wp2
 clear M z
 go_loop [0,1] (fun xv yv=>∃ p q:Nat,xv=.int .u64 (p:Int)∧yv=.int .u64 (q:Int)∧Hid (p<W64)∧Hid (q<W64)∧Hid (p%2=1)∧Hid (2^s*Nat.gcd p q=g)) (fun xv yv=>(intOf xv).toNat + (intOf yv).toNat)
 case atStart=>exact⟨N,y,rfl,rfl,T,L,S,a0⟩
 case round =>
  obtain⟨p,q,rfl,rfl,D,f,E,F⟩:=hrel
  by_cases G:q=0
  ·subst G
   have HP:Hid (p*2^s%W64=g):=by
    have P:=F.out
    rw[qX,uG] at P
    have h2:g≤x:=by rw[←W.out];exact Nat.gcd_le_left y (by have:=x0;simp at this;omega)
    rw[P]
    exact vL (vA h2 v.out)
   have q2:=Zam p s
   rw[HP.out] at q2
   go_wp2
   go_ret
   exact⟨rfl,rfl⟩
  have q0:((q:Int) != 0)=true:=by simp;omega
  obtain⟨t,n,h,ht⟩:=Zhu q qO f.out
  have HT:=zh (Zc9 q t n w A.out h ht f.out)
  have M:=ZcD q t
  have j:q/2^t=2*n+1:=by rw[h,pZ _ (uZ qO)]
  rw[j] at M
  obtain⟨r,U⟩:=yE (2*n+1)
  rw[U] at M
  have H:r%2=1:=qO
  have f0:r≤q:=by rw[←U,← j];exact vJ _ _
  have l:Nat.gcd p q=Nat.gcd p r:=by rw[h,aY p t _ E.out,U]
  have g0:0<p:=by have:=E.out;omega
  have i0:t≤63:=qO
  by_cases u:r<p
  ·have t1:=dX u
   have g1:IntKind.u64.wrap ((p:Int)-(r:Int))=((p-r:Nat):Int):=by
    rw[show (p:Int)-(r:Int)=((p-r:Nat):Int) by omega]
    exact wK _ (by have:=D.out;omega)
   obtain⟨d,I⟩:=yE (p-r)
   rw[I] at g1
   have J:Hid (2^s*Nat.gcd r d=g):=by
    unfold Hid
    rw[←F.out,l,← I,Nat.gcd_sub_self_right qO,sP]
   have b0:Hid (r<W64):=by have:=f.out;unfold Hid;omega
   have K:Hid (d<W64):=by have:=D.out;unfold Hid;omega
   have c0:=zh H
   have V:r+d<p+q:=qO
   clear h j U H l I u G ht
   go_wp2_with (go_at_call 155;refine HT.out.mono ?_;rintro e w' ⟨rfl,rfl⟩)
   go_round
   case rel=>exact⟨r,d,rfl,rfl,b0,K,c0,J⟩
   case measure=>simp[intOf];omega
  have t1:=eA u
  have g1:IntKind.u64.wrap ((r:Int)-(p:Int))=((r-p:Nat):Int):=by
   rw[show (r:Int)-(p:Int)=((r-p:Nat):Int) by omega]
   exact wK _ (by have:=f.out;omega)
  obtain⟨d,I⟩:=yE (r-p)
  rw[I] at g1
  have J:Hid (2^s*Nat.gcd p d=g):=by
   unfold Hid
   rw[←F.out,l,← I,Nat.gcd_sub_self_right qO]
  have K:Hid (d<W64):=by have:=f.out;unfold Hid;omega
  have V:p+d<p+q:=qO
  clear h j U H l I u G ht
  go_wp2_with (go_at_call 155;refine HT.out.mono ?_;rintro e w' ⟨rfl,rfl⟩)
  go_round
  case rel=>exact⟨p,d,rfl,rfl,D,K,E,J⟩
  case measure=>simp[intOf];omega
section
open Go.RowKit Go.Sort
def nats (l:List UInt8):List Nat:=l.map UInt8.toNat
@[simp] theorem Zcv (l:List UInt8):(nats l).length=l.length:=by simp[nats]
theorem ZkR (a b:List UInt8):nats (a ++ b)=nats a ++ nats b:=by simp[nats]
abbrev TBuf (w:World) (A:Option Addr) (cap:Nat) (l:List UInt8):Prop:=Buf .u8 5 w A cap (nats l)
theorem ZrI:(prog.info? 5).map (fun i=>(i.zero,i.size,i.bytes))=some (some (.int .u8 0),1,1):=qK
theorem Zjk (u:Nat)(b:u<W64):(Lib.decDigits u).length≤20:=by
 rw[zN] at b
 rw[Lib.decDigits_length]
 rcases uJ u with a|a
 ·subst a;rw[Lib.nDigits_small qO];omega
 have:=Lib.numDigits_eq u a b;split at this<;>omega
end
end Go.Proofs.YtmpffakfhcpjoaaGreatDoor
namespace Go.Proofs.YtmpffakfhcpjoaaGreatDoor
def wV (h:Nat):List UInt8:=if h=0 then [] else Lib.decDigits h
theorem Zjl:wV 0=[]:=rfl
theorem jQ {h:Nat}(a:0<h):wV h=Lib.decDigits h:=uI qO
theorem lP (u:Nat):Lib.decDigits u≠[]:=by
 rw[Lib.decDigits];split<;>simp
theorem ZmW {h:Nat}(a:0<h):wV h≠[]:=by rw[jQ a];exact lP h
theorem ZkS {h:Nat}:0<(wV h).length↔0<h:=by
 constructor
 ·intro a
  rcases uJ h with e|e
  ·subst e;simp[wV] at a
  exact e
 intro b
 have:=ZmW b
 rcases uJ (wV h).length with e|e
 ·exact absurd (tI.1 e) this
 exact e
theorem ZbE {h c:Nat}(a:c<10)(b:0<h∨c≠0):wV (10*h+c)=wV h ++ [UInt8.ofNat (48+c)]:=by
 rcases uJ h with e|e
 ·subst e
  have:0<c:=qO
  rw[Zjl,jQ qO,tX,vZ,Lib.decDigits_one a];rfl
 rw[jQ qO,jQ e,Lib.decDigits,dif_neg qO,show (10*h+c)/10=h by omega,show (10*h+c)%10=c by omega]
def topE (H p k e:Nat):Nat:=H*10^e+p/10^(k-e)
theorem ZmX {H p k:Nat}(a:p<10^k):topE H p k 0=H:=by
 unfold topE;simp[tV a]
theorem Zqg {H p k:Nat}:topE H p k k=H*10^k+p:=by
 unfold topE;simp
theorem Zob {H p k e:Nat}(d:e<k):topE H p k (e+1)=10*topE H p k e+p/10^(k-1-e)%10:=by
 unfold topE
 have a:k-e=(k-1-e)+1:=qO
 have b:k-(e+1)=k-1-e:=qO
 rw[a,b,uO,uO,← sV]
 generalize p/10^(k-1-e)=q
 generalize 10^e=E
 have c:H*(E*10)=10*(H*E):=by rw[←uH,uG]
 rw[c]
 omega
end Go.Proofs.YtmpffakfhcpjoaaGreatDoor
namespace Go.Proofs.YtmpffakfhcpjoaaGreatDoor
open Go.RowKit Tryz
def padT (x:Nat):Nat→List UInt8
 | 0=>[]
 | k+1=>padT (x/10) k ++ [UInt8.ofNat (48+x%10)]
theorem Zh8 (k:Nat):padT 0 k=List.replicate k 48:=by
 induction k with
 | zero=>rfl
 | succ k ih=>rw[padT,Nat.zero_div,ih,oR];rfl
theorem ZiQ {H:Nat}(b:0<H)(k:Nat):∀ p,p<10^k→wV (H*10^k+p)=wV H ++ padT p k:=by
 induction k with
 | zero=>intro p a;simp at a;subst a;simp[padT]
 | succ k ih =>
  intro p a
  have c:p/10<10^k:=by rw[uO] at a;omega
  have d:H*10^(k+1)+p=10*(H*10^k+p/10)+p%10:=by
   rw[uO,← uH];omega
  have e:0<H*10^k:=sK b (uZ qO)
  rw[d,ZbE (uP _ qO) (Or.inl qO),ih _ c,padT,tD]
theorem Zd7 {p:Nat}(h:0<p):wV p=wV (p/10) ++ [UInt8.ofNat (48+p%10)]:=by
 have b:p=10*(p/10)+p%10:=qO
 have a:=ZbE (h:=p/10) (c:=p%10) (uP _ qO) qO
 rw[←b] at a
 exact a
theorem ZmY (k:Nat):∀ p,p<10^k→(wV p).length≤k:=by
 induction k with
 | zero=>intro p a;simp at a;subst a;simp[wV]
 | succ k ih =>
  intro p a
  rcases uJ p with h|h
  ·subst h;simp[wV]
  have b:p/10<10^k:=by rw[uO] at a;omega
  rw[Zd7 h,vE]
  have:=ih _ b
  simp;omega
theorem Zsb (k:Nat):∀ p,p<10^k→padT p k=List.replicate (k-(wV p).length) 48 ++ wV p:=by
 induction k with
 | zero=>intro p a;simp at a;subst a;rfl
 | succ k ih =>
  intro p a
  rcases uJ p with h|h
  ·subst h;rw[Zh8];simp[wV]
  have b:p/10<10^k:=by rw[uO] at a;omega
  rw[padT,ih _ b,Zd7 h,vE,← tD]
  congr 2
  congr 1
  simp only[rV];omega
theorem Zqh {k p:Nat}(b:0<k)(a:p<10^k):padT p k=List.replicate (k-(Lib.decDigits p).length) 48 ++ Lib.decDigits p:=by
 rcases uJ p with h|h
 ·subst h
  rw[Zh8,Lib.decDigits_one qO]
  show _=_ ++ [48]
  rw[←oR]
  congr 1;simp;omega
 rw[Zsb k p a,jQ h]
theorem Zjp {xs:qN}{k c b s:Nat}(d:xs.length=k+2)(dx:Dig W64 xs)(e:xs[k+1]?.getD 0=c)(f:xs[k]?.getD 0=b)(g:s≤63) :
 val W64 xs/(W64^k*2^(64-s))=c*2^s+b/2^(64-s):=by
 have a:=wF (dx.take k)
 rw[uN,uY qO] at a
 rw[←sV,top2 d,e,f,vW,rK (uZ zK),tV a,tP,← jI g]
 rw[vW b,uH,rK (uZ qO),uG (2^s)]
theorem Zqk {xs:qN}{k b s:Nat}(d:xs.length=k+1)(dx:Dig W64 xs)(c:xs[k]?.getD 0=b) :
 val W64 xs/(W64^k*2^(64-s))=b/2^(64-s):=by
 have a:=wF (dx.take k)
 rw[uN,uY qO] at a
 have:=zV (B:=W64) (xs:=xs) k qO
 rw[uB qO,c] at this
 rw[←sV,this,vW,rK (uZ zK),tV a,tP]
def kD (u0 u1 v0 v1:Nat) (odd:Bool):Array Value:=#[.int .u64 (u0:Int),.int .u64 (u1:Int),.int .u64 (v0:Int),.int .u64 (v1:Int),.bool odd]
def Zan (a b:Nat) (w:World) (e:Ending) (w':World):Prop :=
 ∃ (u0 u1 v0 v1:Nat) (odd:Bool),e=.returned (.agg (kD u0 u1 v0 v1 odd))∧u0<W64∧u1<W64∧v0<W64∧v1<W64∧ZeY a b odd u0 u1 v0 v1∧Ext w w'
theorem Zd8 (t:TypeId)(w:World)(m:Nat)(o:Obj)(cs:Array Value):Blk t (((w.alloc o).drewN m).alloc (.cells cs t)) (w.heap.size+1) cs:=by
 have h:=Blk.new ((w.alloc o).drewN m) t cs
 have e:((w.alloc o).drewN m).heap.size=w.heap.size+1:=by show (w.alloc o).heap.size=_;simp
 rw[e] at h
 exact h
def SimW (f s u0 u1 u2 v0 v1 v2:Nat):Prop:=f<W64∧s<W64∧u0<W64∧u1<W64∧u2<W64∧v0<W64∧v1<W64∧v2<W64
theorem fC.sum_le {A B a b:Nat}{c:Bool}{f s u0 u1 u2 v0 v1 v2:Nat}(h:fC A B a b c f s u0 u1 u2 v0 v1 v2)(d:1≤s):v1+v2≤A∧u1+u2≤B:=by
 obtain⟨_,e,g,_,_,i,_⟩:=h
 have j:1*v2≤f*v2:=uE _ qO
 have k:1*v1≤s*v1:=uE _ d
 have l:1*u2≤f*u2:=uE _ qO
 have e4:1*u1≤s*u1:=uE _ d
 omega
theorem fC.new_le {A B a b:Nat}{c:Bool}{f s u0 u1 u2 v0 v1 v2:Nat}(h:fC A B a b c f s u0 u1 u2 v0 v1 v2)(d:1≤f):v2≤A∧u2≤B:=by
 obtain⟨_,e,g,_,_,i,_⟩:=h
 have j:1*v2≤f*v2:=uE _ d
 have k:1*u2≤f*u2:=uE _ d
 omega
theorem ZlH {w wr:World}(h:Ext w wr)(a b c d e:Value):Ext w (((((wr.setCell ⟨w.heap.size+1,0,none⟩ a).setCell ⟨w.heap.size+1,1,none⟩ b).setCell ⟨w.heap.size+1,2,none⟩ c).setCell ⟨w.heap.size+1,3,none⟩ d).setCell ⟨w.heap.size+1,4,none⟩ e) :=
 ((((h.setCell (Or.inr qS) _).setCell (Or.inr qS) _).setCell (Or.inr qS) _).setCell (Or.inr qS) _).setCell (Or.inr qS) _
theorem ZcH {A B a b:Nat}{c:Bool}{f s u0 u1 u2 v0 v1 v2:Nat}{w wr:World}{i j k l m:Value}(n:fC A B a b c f s u0 u1 u2 v0 v1 v2)(o:SimW f s u0 u1 u2 v0 v1 v2)(p:Blk 205 wr w.heap.size #[i,j,k,l,m])(Q:Ext w wr)(fn:Func)(e:Array Value)(g:fn.results=#[.cell 4 205])(q:e[4]? = some (.pointer (some ⟨w.heap.size,0,none⟩))) :
 bodyPost prog fn (Zan a b w) .ret ⟨e,[]⟩ (((((wr.setCell ⟨w.heap.size,0,none⟩ (.int .u64 (u0:Int))).setCell ⟨w.heap.size,1,none⟩ (.int .u64 (u1:Int))).setCell ⟨w.heap.size,2,none⟩ (.int .u64 (v0:Int))).setCell ⟨w.heap.size,3,none⟩ (.int .u64 (v1:Int))).setCell ⟨w.heap.size,4,none⟩ (.bool c)):=by
 have d:=((((p.set_ 0 (.int .u64 (u0:Int))).set_ 1 (.int .u64 (u1:Int))).set_ 2 (.int .u64 (v0:Int))).set_ 3 (.int .u64 (v1:Int))).set_ 4 (.bool c)
 have h:Ext w (((((wr.setCell ⟨w.heap.size,0,none⟩ (.int .u64 (u0:Int))).setCell ⟨w.heap.size,1,none⟩ (.int .u64 (u1:Int))).setCell ⟨w.heap.size,2,none⟩ (.int .u64 (v0:Int))).setCell ⟨w.heap.size,3,none⟩ (.int .u64 (v1:Int))).setCell ⟨w.heap.size,4,none⟩ (.bool c)) :=
  ((((Q.setCell (Or.inr qS) _).setCell (Or.inr qS) _).setCell (Or.inr qS) _).setCell (Or.inr qS) _).setCell (Or.inr qS) _
 generalize (((((wr.setCell ⟨w.heap.size,0,none⟩ (.int .u64 (u0:Int))).setCell ⟨w.heap.size,1,none⟩ (.int .u64 (u1:Int))).setCell ⟨w.heap.size,2,none⟩ (.int .u64 (v0:Int))).setCell ⟨w.heap.size,3,none⟩ (.int .u64 (v1:Int))).setCell ⟨w.heap.size,4,none⟩ (.bool c))=wz at *
 have r:wz.cell? ⟨w.heap.size,0,none⟩=some (.int .u64 (u0:Int)):=d.cell 0
 have t:wz.cell? ⟨w.heap.size,1,none⟩=some (.int .u64 (u1:Int)):=d.cell 1
 have u:wz.cell? ⟨w.heap.size,2,none⟩=some (.int .u64 (v0:Int)):=d.cell 2
 have x:wz.cell? ⟨w.heap.size,3,none⟩=some (.int .u64 (v1:Int)):=d.cell 3
 have y:wz.cell? ⟨w.heap.size,4,none⟩=some (.bool c):=d.cell 4
 obtain⟨_,_,z,C,_,D,E,_⟩:=o
 exact bodyPost_ret (v:=.agg (kD u0 u1 v0 v1 c)) (by simp[results,g,q,go_sem,r,t,u,x,y,kD]) rfl ⟨u0,u1,v0,v1,c,rfl,z,C,D,E,n.2.2.2.2.2.2.2,h⟩
theorem Zjq (bA oA bB oB c c2 n u v s a1 a0 b1 b0 H1 L1 A H2 L2 B a b:Nat)(w:World)(hn:n≤4294967296)(e1:(n:Int)-1=(u:Int))(e2:(n:Int)-2=(v:Int))(w0:bA<w.heap.size)(x0:bB<w.heap.size)(J:w.cell? ⟨bA,oA+u,none⟩=some (.int .u64 (a1:Int)))(L:w.cell? ⟨bA,oA+v,none⟩=some (.int .u64 (a0:Int)))(M:w.cell? ⟨bB,oB+u,none⟩=some (.int .u64 (b1:Int)))(N:w.cell? ⟨bB,oB+v,none⟩=some (.int .u64 (b0:Int)))(O:a1<W64)(hs:64-(Lib.bitLen a1:Int)=s)(r0:s≤63)(p1:IntKind.u64.wrap ((a1:Int)*2^s)=(H1:Int))(p2:(a0:Int)/2^(64-s)=(L1:Int))(p3:bits .or .u64 (H1:Int) (L1:Int)=(A:Int))(p4:IntKind.u64.wrap ((b1:Int)*2^s)=(H2:Int))(p5:(b0:Int)/2^(64-s)=(L2:Int))(p6:bits .or .u64 (H2:Int) (L2:Int)=(B:Int))(K a' b':Nat)(ha:a=A*K+a')(hb:b=B*K+b')(P:a'<K)(Q:b'<K)(R:A<W64)(S:B≤A) :
 Ζ 141 #[.slice (some ⟨bA,oA,none⟩) n c,.slice (some ⟨bB,oB,none⟩) n c2] w (Zan a b w):=by
 have HS:=zh hs
 have HA:=zh O
 have Ha:=zh ha
 have Hb:=zh hb
 have g0:=zh P
 have h0:=zh Q
 have j:=zh R
 have E:=zh S
 clear ha hb P Q R S
 have i1:(u:Int)<(n:Int):=qO
 have i2:(v:Int)<(n:Int):=qO
 have i3:u<n:=qO
 have i4:v<n:=qO
 have i5:u≤4294967296:=qO
 have i6:v≤4294967296:=qO
 clear hs O
 go_enter func141,ntmps141
 go_wp2_with (go_at_call 149;refine (Zal _ _ HA.out).mono ?_;rintro e w' ⟨rfl,rfl⟩;rw[HS.out])
 have r1:IntKind.i64.wrap (u:Int)=(u:Int):=by rw[IntKind.wrap_i64];omega
 have r2:IntKind.i64.wrap (v:Int)=(v:Int):=by rw[IntKind.wrap_i64];omega
 have r3:IntKind.u64.wrap (64-(s:Int))=((64-s:Nat):Int):=by rw[IntKind.wrap_u64];omega
 go_quiet (fail)
 clear r1 r2 r3
 go_wp2
 have r1:IntKind.i64.wrap (u:Int)=(u:Int):=by rw[IntKind.wrap_i64];omega
 have r2:IntKind.i64.wrap (v:Int)=(v:Int):=by rw[IntKind.wrap_i64];omega
 have r3:IntKind.u64.wrap (64-(s:Int))=((64-s:Nat):Int):=by rw[IntKind.wrap_u64];omega
 go_quiet (fail)
 clear r1 r2 r3
 go_wp2
 clear p1 p2 p3 p4 p5 p6 J L M N
 go_loopw [7,8,10,11] (fun fv sv i0 j0 wr=>∃ (f s u0 x y v0 k i:Nat) (m:Bool),fv=.int .u64 (f:Int)∧sv=.int .u64 (s:Int)∧i0=.int .u64 (y:Int)∧j0=.int .u64 (i:Int)∧Hid (fC A B a b m f s u0 x y v0 k i)∧Hid (SimW f s u0 x y v0 k i)∧Hid (Blk 205 wr (w.heap.size+1) (kD u0 x v0 k m))∧Hid (∃ cs,cs.size=5∧Blk 205 wr w.heap.size cs)∧Hid (Ext w wr)) (fun fv sv _ _ _=>(intOf fv).toNat + (intOf sv).toNat)
 case atStart =>
  have h1:=eJ
  have h2:=j.out
  have h3:=E.out
  exact⟨A,B,0,1,0,0,0,1,false,rfl,rfl,rfl,rfl,fC.start E.out,⟨qO,qO,qO,qO,qO,qO,qO,qO⟩,Zd8 _ w _ _ _,⟨_,rfl,((Blk.new w _ _).drewN _).alloc _⟩,(((Fr.refl _ _).alloc _).drewN _).alloc _⟩
 case round =>
  obtain⟨f,s',u0,x,y,v0,k,i,m,rfl,rfl,rfl,rfl,H,o,h,k0,hF⟩:=hrel
  have c0:=h.out.cell 0
  have c1:=h.out.cell 1
  have T:=h.out.cell 2
  have c3:=h.out.cell 3
  have c4:=h.out.cell 4
  have f0:=h.out.frozen 0
  have f1:=h.out.frozen 1
  have f2:=h.out.frozen 2
  have f3:=h.out.frozen 3
  have f4:=h.out.frozen 4
  simp only[kD] at c0 c1 T c3 c4
  simp at c0 c1 T c3 c4
  have U:∃ y0 y1 y2 y3 y4:Value,Blk 205 wr w.heap.size #[y0,y1,y2,y3,y4]:=by
   obtain⟨cs,h5,hB⟩:=k0.out
   obtain⟨l⟩:=cs
   match l,h5 with
   | [y0,y1,y2,y3,y4],_=>exact⟨y0,y1,y2,y3,y4,hB⟩
  obtain⟨y0,y1,y2,y3,y4,g⟩:=U
  have d0:wr.cell? ⟨w.heap.size,0,none⟩=some y0:=g.cell 0
  have d1:wr.cell? ⟨w.heap.size,1,none⟩=some y1:=g.cell 1
  have d2:wr.cell? ⟨w.heap.size,2,none⟩=some y2:=g.cell 2
  have d3:wr.cell? ⟨w.heap.size,3,none⟩=some y3:=g.cell 3
  have d4:wr.cell? ⟨w.heap.size,4,none⟩=some y4:=g.cell 4
  have z0:=g.frozen 0
  have z1:=g.frozen 1
  have z2:=g.frozen 2
  have z3:=g.frozen 3
  have z4:=g.frozen 4
  have F:=zh g
  clear g
  by_cases I:i≤s'
  ·have l0:decide (i≤s')=true:=by rw[tE];exact I
   have A0:1≤i:=H.out.2.2.2.2.1
   have B0:s'≤f:=H.out.2.2.2.2.2.1
   obtain⟨D,_⟩:=H.out.sum_le qO
   have w1:IntKind.u64.wrap ((f:Int)-(s':Int))=((f-s':Nat):Int):=by
    rw[show (f:Int)-(s':Int)=((f-s':Nat):Int) by omega]
    exact wK _ (by have:=o.out.1;omega)
   have w2:=kY (a:=k) (b:=i) (by have:=j.out;omega)
   obtain⟨d,ed⟩:=yE (f-s')
   obtain⟨ee,G⟩:=yE (k+i)
   rw[ed] at w1
   rw[G] at w2
   by_cases g2:k+i+s'≤f
   ·have m0:decide (ee≤d)=true:=by rw[tE];omega
    have V:0<s':=qO
    obtain⟨q,eq⟩:=yE (f/s')
    obtain⟨r,er⟩:=yE (f%s')
    have hq:f=q*s'+r:=by rw[←eq,← er,uG];exact (vX f s').symm
    have hr:r<s':=by rw[←er];exact uP _ V
    have W:1≤q:=by
     rcases uJ q with e|e
     ·rw[e,sD] at hq;omega
     exact e
    have p:=zh (H.out.step Ha.out Hb.out g0.out h0.out I g2 hq hr W)
    obtain⟨X,Y⟩:=p.out.new_le qO
    have n0:B<W64:=by have:=j.out;have:=E.out;omega
    have w3:(f:Int)/(s':Int)=(q:Int):=by rw[←tR,eq]
    have w4:(f:Int)%(s':Int)=(r:Int):=by rw[←mE,er]
    have C0:(f:Int).tmod (s':Int)=(r:Int):=by rw[sE qO];exact w4
    have D0:(f:Int).tdiv (s':Int)=(q:Int):=by rw[rB qO];exact w3
    have o0:q≤f:=by rw[←eq];exact vJ _ _
    have w5:IntKind.u64.wrap (q:Int)=(q:Int):=wK _ (by have:=o.out.1;omega)
    have w6:=fK (a:=q) (b:=y) qO
    have w7:=fK (a:=q) (b:=i) (by have:=j.out;omega)
    obtain⟨m1,z⟩:=yE (q*y)
    obtain⟨m2,C⟩:=yE (q*i)
    rw[z] at w6
    rw[C] at w7
    rw[z,C] at p
    rw[C] at X
    rw[z] at Y
    have w8:=kY (a:=x) (b:=m1) qO
    have w9:=kY (a:=k) (b:=m2) (by have:=j.out;omega)
    obtain⟨u3,Z⟩:=yE (x+m1)
    obtain⟨v3,e0⟩:=yE (k+m2)
    rw[Z] at w8 p
    rw[e0] at w9 p
    have s0:((s':Int) == 0)=false:=by simp;omega
    have E0:s'≠0:=qO
    have p0:Hid (SimW s' r x y u3 k i v3):=by
     obtain⟨k1,k2,k3,k4,k5,k6,k7,k8⟩:=o.out
     have:=j.out
     exact⟨k2,qO,k4,k5,qO,k7,k8,qO⟩
    have q0:=zh (((((h.out.set_ 0 (.int .u64 (x:Int))).set_ 1 (.int .u64 (y:Int))).set_ 2 (.int .u64 (k:Int))).set_ 3 (.int .u64 (i:Int))).set_ 4 (.bool (!m)))
    have t0:s'+r<f+s':=qO
    clear eq er hq hr W X Y z C Z e0 ed G D I g2 V n0 o0
    go_wp2
    go_region
    all_goals
     go_wp2
     refine⟨⟨s',r,x,y,u3,k,i,v3,!m,rfl,rfl,rfl,rfl,p,p0,q0.out,⟨_,rfl,((((F.out.far qS _).far qS _).far qS _).far qS _).far qS _⟩,(ZlH hF.out _ _ _ _ _).drew⟩,?_⟩
     simp[intOf];omega
   have m0:decide (ee≤d)=false:=by rw[vH];omega
   have t:=zh (ZcH H.out o.out F.out hF.out)
   clear ed G D I g2
   go_wp2
   exact t.out _ _ rfl rfl
  have l0:decide (i≤s')=false:=by rw[vH];exact I
  have t:=zh (ZcH H.out o.out F.out hF.out)
  clear I
  go_wp2
  exact t.out _ _ rfl rfl
theorem Zjr (Z oA bB oB c c2 n n1 u s a1 a0 b0 H1 L1 A B a b:Nat)(w:World)(hn:n≤4294967296)(e1:(n:Int)-1=(n1:Int))(e2:(n:Int)-2=(u:Int))(t0:Z<w.heap.size)(w0:bB<w.heap.size)(I:w.cell? ⟨Z,oA+n1,none⟩=some (.int .u64 (a1:Int)))(J:w.cell? ⟨Z,oA+u,none⟩=some (.int .u64 (a0:Int)))(L:w.cell? ⟨bB,oB+u,none⟩=some (.int .u64 (b0:Int)))(M:a1<W64)(hs:64-(Lib.bitLen a1:Int)=s)(q0:s≤63)(p1:IntKind.u64.wrap ((a1:Int)*2^s)=(H1:Int))(p2:(a0:Int)/2^(64-s)=(L1:Int))(p3:bits .or .u64 (H1:Int) (L1:Int)=(A:Int))(p5:(b0:Int)/2^(64-s)=(B:Int))(K a' b':Nat)(ha:a=A*K+a')(hb:b=B*K+b')(N:a'<K)(O:b'<K)(P:A<W64)(Q:B≤A) :
 Ζ 141 #[.slice (some ⟨Z,oA,none⟩) n c,.slice (some ⟨bB,oB,none⟩) n1 c2] w (Zan a b w):=by
 have HS:=zh hs
 have HA:=zh M
 have Ha:=zh ha
 have Hb:=zh hb
 have e0:=zh N
 have g0:=zh O
 have j:=zh P
 have D:=zh Q
 clear ha hb N O P Q
 have i1:(n1:Int)<(n:Int):=qO
 have i2:(u:Int)<(n:Int):=qO
 have i3:n1<n:=qO
 have i4:u<n:=qO
 have i5:n1≤4294967296:=qO
 have i6:u≤4294967296:=qO
 have i7:(u:Int)<(n1:Int):=qO
 have i8:u<n1:=qO
 have t1:((n1:Int) == (n:Int))=false:=by simp;omega
 clear hs M
 go_enter func141,ntmps141
 go_wp2_with (go_at_call 149;refine (Zal _ _ HA.out).mono ?_;rintro e w' ⟨rfl,rfl⟩;rw[HS.out])
 have r1:IntKind.i64.wrap (n1:Int)=(n1:Int):=by rw[IntKind.wrap_i64];omega
 have r2:IntKind.i64.wrap (u:Int)=(u:Int):=by rw[IntKind.wrap_i64];omega
 have r3:IntKind.u64.wrap (64-(s:Int))=((64-s:Nat):Int):=by rw[IntKind.wrap_u64];omega
 go_quiet (fail)
 clear r1 r2
 go_wp2
 clear r3 p1 p2 p3 p5 I J L
 go_loopw [7,8,10,11] (fun fv sv h0 i0 wr=>∃ (f s u0 v x v0 k i:Nat) (m:Bool),fv=.int .u64 (f:Int)∧sv=.int .u64 (s:Int)∧h0=.int .u64 (x:Int)∧i0=.int .u64 (i:Int)∧Hid (fC A B a b m f s u0 v x v0 k i)∧Hid (SimW f s u0 v x v0 k i)∧Hid (Blk 205 wr (w.heap.size+1) (kD u0 v v0 k m))∧Hid (∃ cs,cs.size=5∧Blk 205 wr w.heap.size cs)∧Hid (Ext w wr)) (fun fv sv _ _ _=>(intOf fv).toNat + (intOf sv).toNat)
 case atStart =>
  have h1:=eJ
  have h2:=j.out
  have h3:=D.out
  exact⟨A,B,0,1,0,0,0,1,false,rfl,rfl,rfl,rfl,fC.start D.out,⟨qO,qO,qO,qO,qO,qO,qO,qO⟩,Zd8 _ w _ _ _,⟨_,rfl,((Blk.new w _ _).drewN _).alloc _⟩,(((Fr.refl _ _).alloc _).drewN _).alloc _⟩
 case round =>
  obtain⟨f,s',u0,v,x,v0,k,i,m,rfl,rfl,rfl,rfl,G,o,h,j0,hF⟩:=hrel
  have c0:=h.out.cell 0
  have c1:=h.out.cell 1
  have R:=h.out.cell 2
  have c3:=h.out.cell 3
  have c4:=h.out.cell 4
  have f0:=h.out.frozen 0
  have f1:=h.out.frozen 1
  have f2:=h.out.frozen 2
  have f3:=h.out.frozen 3
  have f4:=h.out.frozen 4
  simp only[kD] at c0 c1 R c3 c4
  simp at c0 c1 R c3 c4
  have S:∃ y0 y1 y2 y3 y4:Value,Blk 205 wr w.heap.size #[y0,y1,y2,y3,y4]:=by
   obtain⟨cs,h5,hB⟩:=j0.out
   obtain⟨l⟩:=cs
   match l,h5 with
   | [y0,y1,y2,y3,y4],_=>exact⟨y0,y1,y2,y3,y4,hB⟩
  obtain⟨y0,y1,y2,y3,y4,g⟩:=S
  have d0:wr.cell? ⟨w.heap.size,0,none⟩=some y0:=g.cell 0
  have d1:wr.cell? ⟨w.heap.size,1,none⟩=some y1:=g.cell 1
  have d2:wr.cell? ⟨w.heap.size,2,none⟩=some y2:=g.cell 2
  have d3:wr.cell? ⟨w.heap.size,3,none⟩=some y3:=g.cell 3
  have d4:wr.cell? ⟨w.heap.size,4,none⟩=some y4:=g.cell 4
  have z0:=g.frozen 0
  have z1:=g.frozen 1
  have z2:=g.frozen 2
  have z3:=g.frozen 3
  have z4:=g.frozen 4
  have E:=zh g
  clear g
  by_cases H:i≤s'
  ·have k0:decide (i≤s')=true:=by rw[tE];exact H
   have x0:1≤i:=G.out.2.2.2.2.1
   have A0:s'≤f:=G.out.2.2.2.2.2.1
   obtain⟨C,_⟩:=G.out.sum_le qO
   have w1:IntKind.u64.wrap ((f:Int)-(s':Int))=((f-s':Nat):Int):=by
    rw[show (f:Int)-(s':Int)=((f-s':Nat):Int) by omega]
    exact wK _ (by have:=o.out.1;omega)
   have w2:=kY (a:=k) (b:=i) (by have:=j.out;omega)
   obtain⟨d,ed⟩:=yE (f-s')
   obtain⟨ee,F⟩:=yE (k+i)
   rw[ed] at w1
   rw[F] at w2
   by_cases g2:k+i+s'≤f
   ·have l0:decide (ee≤d)=true:=by rw[tE];omega
    have T:0<s':=qO
    obtain⟨q,eq⟩:=yE (f/s')
    obtain⟨r,er⟩:=yE (f%s')
    have hq:f=q*s'+r:=by rw[←eq,← er,uG];exact (vX f s').symm
    have hr:r<s':=by rw[←er];exact uP _ T
    have U:1≤q:=by
     rcases uJ q with e|e
     ·rw[e,sD] at hq;omega
     exact e
    have p:=zh (G.out.step Ha.out Hb.out e0.out g0.out H g2 hq hr U)
    obtain⟨V,W⟩:=p.out.new_le qO
    have m0:B<W64:=by have:=j.out;have:=D.out;omega
    have w3:(f:Int)/(s':Int)=(q:Int):=by rw[←tR,eq]
    have w4:(f:Int)%(s':Int)=(r:Int):=by rw[←mE,er]
    have B0:(f:Int).tmod (s':Int)=(r:Int):=by rw[sE qO];exact w4
    have C0:(f:Int).tdiv (s':Int)=(q:Int):=by rw[rB qO];exact w3
    have n0:q≤f:=by rw[←eq];exact vJ _ _
    have w5:IntKind.u64.wrap (q:Int)=(q:Int):=wK _ (by have:=o.out.1;omega)
    have w6:=fK (a:=q) (b:=x) qO
    have w7:=fK (a:=q) (b:=i) (by have:=j.out;omega)
    obtain⟨m1,y⟩:=yE (q*x)
    obtain⟨m2,z⟩:=yE (q*i)
    rw[y] at w6
    rw[z] at w7
    rw[y,z] at p
    rw[z] at V
    rw[y] at W
    have w8:=kY (a:=v) (b:=m1) qO
    have w9:=kY (a:=k) (b:=m2) (by have:=j.out;omega)
    obtain⟨u3,X⟩:=yE (v+m1)
    obtain⟨v3,Y⟩:=yE (k+m2)
    rw[X] at w8 p
    rw[Y] at w9 p
    have r0:((s':Int) == 0)=false:=by simp;omega
    have D0:s'≠0:=qO
    have o0:Hid (SimW s' r v x u3 k i v3):=by
     obtain⟨k1,k2,k3,k4,k5,k6,k7,k8⟩:=o.out
     have:=j.out
     exact⟨k2,qO,k4,k5,qO,k7,k8,qO⟩
    have p0:=zh (((((h.out.set_ 0 (.int .u64 (v:Int))).set_ 1 (.int .u64 (x:Int))).set_ 2 (.int .u64 (k:Int))).set_ 3 (.int .u64 (i:Int))).set_ 4 (.bool (!m)))
    have s0:s'+r<f+s':=qO
    clear eq er hq hr U V W y z X Y ed F C H g2 T m0 n0
    go_wp2
    go_region
    all_goals
     go_wp2
     refine⟨⟨s',r,v,x,u3,k,i,v3,!m,rfl,rfl,rfl,rfl,p,o0,p0.out,⟨_,rfl,((((E.out.far qS _).far qS _).far qS _).far qS _).far qS _⟩,(ZlH hF.out _ _ _ _ _).drew⟩,?_⟩
     simp[intOf];omega
   have l0:decide (ee≤d)=false:=by rw[vH];omega
   have t:=zh (ZcH G.out o.out E.out hF.out)
   clear ed F C H g2
   go_wp2
   exact t.out _ _ rfl rfl
  have k0:decide (i≤s')=false:=by rw[vH];exact H
  have t:=zh (ZcH G.out o.out E.out hF.out)
  clear H
  go_wp2
  exact t.out _ _ rfl rfl
theorem ZiS (t x c c2 n g h k s u F G H A a b:Nat)(O:qA)(w:World)(hn:n≤4294967296)(e1:(n:Int)-1=(g:Int))(e2:(n:Int)-2=(h:Int))(hk:k<g)(P:t<w.heap.size)(i:w.cell? ⟨t,x+g,none⟩=some (.int .u64 (u:Int)))(j:w.cell? ⟨t,x+h,none⟩=some (.int .u64 (F:Int)))(m:u<W64)(I:64-(Lib.bitLen u:Int)=s)(J:s≤63)(Q:IntKind.u64.wrap ((u:Int)*2^s)=(G:Int))(p2:(F:Int)/2^(64-s)=(H:Int))(R:bits .or .u64 (G:Int) (H:Int)=(A:Int))(o:A<W64) :
 Ζ 141 #[.slice (some ⟨t,x,none⟩) n c,.slice O k c2] w (Zan a b w):=by
 have S:=zh I
 have T:=zh m
 have y:=zh o
 clear o
 have i1:(g:Int)<(n:Int):=qO
 have i2:(h:Int)<(n:Int):=qO
 have i3:g<n:=qO
 have i4:h<n:=qO
 have i5:g≤4294967296:=qO
 have i6:h≤4294967296:=qO
 have t1:((k:Int) == (n:Int))=false:=by simp;omega
 have t2:((k:Int) == (g:Int))=false:=by simp;omega
 clear I m
 go_enter func141,ntmps141
 go_wp2_with (go_at_call 149;refine (Zal _ _ T.out).mono ?_;rintro e w' ⟨rfl,rfl⟩;rw[S.out])
 have U:IntKind.i64.wrap (g:Int)=(g:Int):=by rw[IntKind.wrap_i64];omega
 have r2:IntKind.i64.wrap (h:Int)=(h:Int):=by rw[IntKind.wrap_i64];omega
 have V:IntKind.u64.wrap (64-(s:Int))=((64-s:Nat):Int):=by rw[IntKind.wrap_u64];omega
 go_quiet (fail)
 clear U r2 V
 go_wp2
 clear Q p2 R i j
 go_loopw [7,8,10,11] (fun fv W z C wr=>fv=.int .u64 (A:Int)∧W=.int .u64 0∧z=.int .u64 0∧C=.int .u64 1∧Hid (Blk 205 wr (w.heap.size+1) (kD 0 1 0 0 false))∧Hid (∃ v,v.size=5∧Blk 205 wr w.heap.size v)∧Hid (Ext w wr)) (fun _ _ _ _ _=>0)
 case atStart =>
  exact⟨rfl,rfl,rfl,rfl,Zd8 _ w _ _ _,⟨_,rfl,((Blk.new w _ _).drewN _).alloc _⟩,(((Fr.refl _ _).alloc _).drewN _).alloc _⟩
 case round =>
  obtain⟨rfl,rfl,rfl,rfl,f,D,X⟩:=hrel
  have K:=f.out.cell 0
  have L:=f.out.cell 1
  have p:=f.out.cell 2
  have M:=f.out.cell 3
  have N:=f.out.cell 4
  simp only[kD] at K L p M N
  simp at K L p M N
  have q:∃ y0 y1 y2 y3 y4:Value,Blk 205 wr w.heap.size #[y0,y1,y2,y3,y4]:=by
   obtain⟨v,Y,Z⟩:=D.out
   obtain⟨l⟩:=v
   match l,Y with
   | [y0,y1,y2,y3,y4],_=>exact⟨y0,y1,y2,y3,y4,Z⟩
  obtain⟨y0,y1,y2,y3,y4,d⟩:=q
  have d0:wr.cell? ⟨w.heap.size,0,none⟩=some y0:=d.cell 0
  have d1:wr.cell? ⟨w.heap.size,1,none⟩=some y1:=d.cell 1
  have d2:wr.cell? ⟨w.heap.size,2,none⟩=some y2:=d.cell 2
  have d3:wr.cell? ⟨w.heap.size,3,none⟩=some y3:=d.cell 3
  have d4:wr.cell? ⟨w.heap.size,4,none⟩=some y4:=d.cell 4
  have z0:=d.frozen 0
  have z1:=d.frozen 1
  have z2:=d.frozen 2
  have z3:=d.frozen 3
  have z4:=d.frozen 4
  have E:=eJ
  have r:=zh (ZcH (A:=A) (B:=0) (a:=a) (b:=b) (fC.start (vS A)) ⟨y.out,qO,qO,qO,qO,qO,qO,qO⟩ d X.out)
  clear d E
  go_wp2
  exact r.out _ _ rfl rfl
theorem Zia {a b s:Nat}(d:a*2^s<W64)(f:b<W64)(j:s≤63) :
 IntKind.u64.wrap ((a:Int)*2^s)=((a*2^s:Nat):Int)∧(b:Int)/2^(64-s)=((b/2^(64-s):Nat):Int) ∧
 bits .or .u64 ((a*2^s:Nat):Int) ((b/2^(64-s):Nat):Int)=((a*2^s+b/2^(64-s):Nat):Int)∧a*2^s+b/2^(64-s)<W64:=by
 have h:b/2^(64-s)<2^s:=by
  apply sW
  rw[←uU,show 64-s+s=64 by omega]
  rw[zN] at f;exact f
 have c:a*2^s+b/2^(64-s)<W64:=by
  have k:a*2^s+2^s≤W64:=by
   have e:W64=2^(64-s)*2^s:=by rw[←uU,show 64-s+s=64 by omega,zN]
   rw[e] at d ⊢
   have i:a<2^(64-s):=qC d
   have g:(a+1)*2^s≤2^(64-s)*2^s:=uE _ i
   rw[uW,qH] at g
   exact g
  omega
 refine⟨?_,?_,?_,c⟩
 ·rw[Zam,vL d]
 ·rw[tR];simp
 rw[bP d qO]
 congr 1
 have:=sQ h a
 rw[rL] at this
 exact this.symm
theorem Zd9 (u y z A:Nat)(xs ys:qN)(w:World)(f:Own .u64 84 w u xs)(g:Own .u64 84 w y ys)(E:Dig W64 xs)(B:Dig W64 ys)(R:Trim xs)(Z:ys.length≤xs.length)(h2:2≤ys.length)(F:val W64 ys≤val W64 xs)(hn:xs.length≤4294967296) :
 Ζ 141 #[.slice (some ⟨u,0,none⟩) xs.length z,.slice (some ⟨y,0,none⟩) ys.length A] w (Zan (val W64 xs) (val W64 ys) w):=by
 obtain⟨k,G⟩:∃ k,xs.length=k+2:=⟨xs.length-2,qO⟩
 obtain⟨a1,j⟩:=yE (xs[k+1]?.getD 0)
 obtain⟨r,o⟩:=yE (xs[k]?.getD 0)
 have l:a1<W64:=j ▸ E.getD zK _
 have H:r<W64:=o ▸ E.getD zK _
 have S:a1≠0:=j ▸ R (k+1) G
 have b:=f.cell (i:=k+1) qO
 have c:=f.cell (i:=k) qO
 rw[j] at b
 rw[o] at c
 have I:1≤Lib.bitLen a1∧Lib.bitLen a1≤64∧a1<2^Lib.bitLen a1:=by
  obtain⟨T,U,_,V⟩:=dS qO l
  exact⟨T,U,V⟩
 obtain⟨s,hs⟩:=yE (64-Lib.bitLen a1)
 have a:s≤63:=qO
 have W:a1*2^s<W64:=by
  have N:a1*2^s<2^Lib.bitLen a1*2^s:=tS I.2.2 (uZ qO)
  rw[←uU,show Lib.bitLen a1+s=64 by omega] at N
  rw[zN];exact N
 obtain⟨J,p2,K,m⟩:=Zia W H a
 have O:=Zjp G E j o a
 have C:0<W64^k*2^(64-s):=sK (uZ zK) (uZ qO)
 have P:val W64 xs=(a1*2^s+r/2^(64-s))*(W64^k*2^(64-s))+val W64 xs%(W64^k*2^(64-s)):=by
  rw[←O,uG];exact (vX _ _).symm
 have h:val W64 ys/(W64^k*2^(64-s))≤a1*2^s+r/2^(64-s):=by rw[←O];exact Nat.div_le_div_right F
 have D:val W64 ys=val W64 ys/(W64^k*2^(64-s))*(W64^k*2^(64-s))+val W64 ys%(W64^k*2^(64-s)):=by
  rw[uG];exact (vX _ _).symm
 rw[G]
 rw[show (k+1:Nat)=0+(k+1) by omega] at b
 rw[show (k:Nat)=0+k by omega] at c
 rcases (by omega:ys.length=k+2∨ys.length=k+1∨ys.length≤k) with t|t|t
 ·obtain⟨Q,v⟩:=yE (ys[k+1]?.getD 0)
  obtain⟨p,e⟩:=yE (ys[k]?.getD 0)
  have x:p<W64:=e ▸ B.getD zK _
  have n:=g.cell (i:=k+1) qO
  have d:=g.cell (i:=k) qO
  rw[v,show (k+1:Nat)=0+(k+1) by omega] at n
  rw[e,show (k:Nat)=0+k by omega] at d
  have q:=Zjp t B v e a
  rw[q] at D h
  have L:Q*2^s<W64:=vA (uA (Nat.le_add_right _ _) h) m
  obtain⟨X,M,Y,_⟩:=Zia L x a
  rw[t]
  exact Zjq u 0 y 0 z A (k+2) (k+1) k s a1 r Q p _ _ _ _ _ _ _ _ w qO qO qO f.lt g.lt b c n d l qO a J p2 K X M Y _ _ _ P D (uP _ C) (uP _ C) m h
 ·obtain⟨p,e⟩:=yE (ys[k]?.getD 0)
  have x:p<W64:=e ▸ B.getD zK _
  have d:=g.cell (i:=k) qO
  rw[e,show (k:Nat)=0+k by omega] at d
  have q:=Zqk (s:=s) t B e
  have M:(p:Int)/2^(64-s)=((p/2^(64-s):Nat):Int):=by rw[tR];simp
  rw[q] at D h
  rw[t]
  exact Zjr u 0 y 0 z A (k+2) (k+1) k s a1 r p _ _ _ _ _ _ w qO qO qO f.lt g.lt b c d l qO a J p2 K M _ _ _ P D (uP _ C) (uP _ C) m h
 exact ZiS u 0 z A (k+2) (k+1) k ys.length s a1 r _ _ _ _ _ _ w qO qO qO qO f.lt b c l qO a J p2 K m
def aI (bA bB n r0 r1:Nat) (w:World) (e:Ending) (w':World):Prop :=
 ∃ zs zt:List Nat,e=.returned (.tuple #[])∧Own .u64 84 w' bA zs∧Own .u64 84 w' bB zt∧val W64 zs=r0∧val W64 zt=r1∧Dig W64 zs∧Dig W64 zt∧zs.length=n∧zt.length=n ∧
   lT 84 bA w w'∧lT 84 bB w w'∧Fr (fun i=>i=bA∨i=bB) w w'
theorem Zgk (d g n cA cB u0 u1 v0 v1 r0 D:Nat)(xs ys:qN)(w:World)(ha:xs.length=n)(Z:ys.length=n)(a:Own .u64 84 w d xs)(b:Own .u64 84 w g ys)(E:d≠g)(da:Dig W64 xs)(db:Dig W64 ys)(hn:n≤1099511627776)(F:u0<W64)(G:u1<W64)(H:v0<W64)(I:v1<W64)(h0:r0+u0*val W64 xs=v0*val W64 ys)(h1:D+v1*val W64 ys=u1*val W64 xs)(l0:r0<W64^n)(l1:D<W64^n) :
 Ζ 143 #[.agg (kD u0 u1 v0 v1 false),.slice (some ⟨d,0,none⟩) n cA,.slice (some ⟨g,0,none⟩) n cB] w (aI d g n r0 D w):=by
 have J:=zh F
 have K:=zh G
 have L:=zh H
 have M:=zh I
 have h:=zh da
 have j:=zh db
 have H0:=zh h0
 have H1:=zh h1
 have a0:Hid (r0<W64^xs.length):=by unfold Hid;rw[ha];exact l0
 have b0:Hid (D<W64^ys.length):=by unfold Hid;rw[Z];exact l1
 have c0:=zh ha
 have d0:=zh Z
 have e0:=zh a
 have f0:=zh b
 have x0:=a.lt
 have y0:=b.lt
 unfold kD
 clear ha Z a b da db F G H I h0 h1 l0 l1
 go_enter func143,ntmps143
 go_wp2
 generalize r:World.alloc w _=wb
 have g0:Hid (Blk 205 wb w.heap.size #[.int .u64 (u0:Int),.int .u64 (u1:Int),.int .u64 (v0:Int),.int .u64 (v1:Int),.bool false]):=r ▸ Blk.new _ _ _
 have N:Hid (Ext w wb):=r ▸ (Fr.refl _ _).alloc _
 clear r
 go_loopw [6,7,8,9,10,11,21] (fun pv qv rv tv bv lv iv wr=>∃ (k z A B C O lo:Nat) (P zt:List Nat),k≤n∧pv=.int .u64 (z:Int)∧qv=.int .u64 (A:Int)∧rv=.int .u64 (B:Int)∧tv=.int .u64 (C:Int)∧bv=.int .u64 (O:Int)∧lv=.int .u64 (lo:Int)∧iv=.int .i64 (k:Int) ∧
  Hid (iR u0 v0 xs ys xs k P z A O)∧Hid (iR v1 u1 ys xs ys k zt B C lo)∧Hid (Own .u64 84 wr d P)∧Hid (Own .u64 84 wr g zt)∧Hid (lT 84 d w wr)∧Hid (lT 84 g w wr)∧Hid (Fr (fun i=>i=d∨i=g) wb wr)) (fun _ _ _ _ _ _ iv _=>n-(intOf iv).toNat)
 case atStart=>exact⟨0,0,0,0,0,0,0,xs,ys,vS _,rfl,rfl,rfl,rfl,rfl,rfl,rfl,iR.start h.out,iR.start j.out,e0.out.ext N.out,f0.out.ext N.out,(lT.refl _ _ _).fr N.out (fun f=>f),(lT.refl _ _ _).fr N.out (fun f=>f),Fr.refl _ _⟩
 case round =>
  obtain⟨k,z,A,B,C,O,lo,P,zt,hk,rfl,rfl,rfl,rfl,rfl,rfl,rfl,o,q,a,b,s,t,Y⟩:=hrel
  have z0:=c0.out
  have A0:=d0.out
  by_cases B0:k<n
  ·have l:k<xs.length:=qO
   have m:k<ys.length:=qO
   have i0:=o.out.1
   have j0:=q.out.1
   obtain⟨x,ex⟩:=yE (xs[k]?.getD 0)
   obtain⟨y,Q⟩:=yE (ys[k]?.getD 0)
   have k0:=a.out.cell (i:=k) qO
   have m0:=b.out.cell (i:=k) qO
   rw[o.out.at,ex] at k0
   rw[q.out.at,Q] at m0
   have C0:=a.out.frozen k
   have D0:=b.out.frozen k
   have R:Hid (x<W64):=ex ▸ h.out.getD zK k
   have S:Hid (y<W64):=Q ▸ j.out.getD zK k
   have n0:=zh (o.out.step J.out L.out l m l h.out j.out ex Q)
   have o0:=zh (q.out.step M.out K.out m l m j.out h.out Q ex)
   have T:¬ (w.heap.size=d∨w.heap.size=g):=qO
   have c:=g0.out.fr Y.out T
   have s0:wr.cell? ⟨w.heap.size,0,none⟩=some (.int .u64 (u0:Int)):=c.cell 0
   have s1:wr.cell? ⟨w.heap.size,1,none⟩=some (.int .u64 (u1:Int)):=c.cell 1
   have s2:wr.cell? ⟨w.heap.size,2,none⟩=some (.int .u64 (v0:Int)):=c.cell 2
   have s3:wr.cell? ⟨w.heap.size,3,none⟩=some (.int .u64 (v1:Int)):=c.cell 3
   have s4:wr.cell? ⟨w.heap.size,4,none⟩=some (.bool false):=c.cell 4
   have p0:O≤1:=o.out.2.2.2.2.2.1
   have q0:lo≤1:=q.out.2.2.2.2.2.1
   have u:=zh (And.intro o.out.2.2.2.1 o.out.2.2.2.2.1)
   have v:=zh (And.intro q.out.2.2.2.1 q.out.2.2.2.2.1)
   have M1:=zh (fun W=>kP x u0 z W R.out J.out u.out.1)
   have M2:=zh (fun W=>kP y v0 A W S.out L.out u.out.2)
   have M3:=zh (fun W=>kP y v1 B W S.out M.out v.out.1)
   have M4:=zh (fun W=>kP x u1 C W R.out K.out v.out.2)
   generalize maLo x u0 z=p1 at *
   generalize maHi x u0 z=p2 at *
   generalize maLo y v0 A=q1 at *
   generalize maHi y v0 A=q2 at *
   generalize maLo y v1 B=r1' at *
   generalize maHi y v1 B=r2' at *
   generalize maLo x u1 C=t1 at *
   generalize maHi x u1 C=t2 at *
   have S1:=fR q1 p1 O p0
   have S2:=fR t1 r1' lo q0
   have t0:k<P.length:=qO
   have w0:k<zt.length:=qO
   clear ex Q l m c i0 j0 u v
   go_wp2_with fail
   refine (M1.out _).mono ?_
   rintro e w' ⟨rfl,rfl⟩
   go_wp2_with fail
   refine (M2.out _).mono ?_
   rintro e w' ⟨rfl,rfl⟩
   go_wp2_with fail
   refine (M3.out _).mono ?_
   rintro e w' ⟨rfl,rfl⟩
   go_wp2_with fail
   refine (M4.out _).mono ?_
   rintro e w' ⟨rfl,rfl⟩
   go_wp2
   go_roundw
   case rel=>exact⟨k+1,p2,q2,r2',t2,_,_,_,_,qO,rfl,rfl,rfl,rfl,rfl,rfl,by go_num,n0,o0,(a.out.set k _ t0).far (by simpa using E) _,(b.out.far (by simpa using fun e=>E e.symm) _).set k _ w0,(s.out.setCell _ _ _).setCell _ _ _,(t.out.setCell _ _ _).setCell _ _ _,(Y.out.setCell (p:=⟨d,k,none⟩) (Or.inl (Or.inl rfl)) _).setCell (p:=⟨g,k,none⟩) (Or.inl (Or.inr rfl)) _⟩
   case measure=>simp[intOf];omega
  obtain rfl:k=n:=qO
  have U:Hid (aI d g k r0 D w (.returned (.tuple #[])) wr):=by
   have e1:k=xs.length:=qO
   have e2:k=ys.length:=qO
   have V:=o.out
   have X:=q.out
   rw[e1] at V
   rw[e2] at X
   have d1:=zh V
   have d2:=zh X
   have kA:=d1.out.done rfl qO H0.out a0.out
   have kB:=d2.out.done rfl qO H1.out b0.out
   exact⟨P,zt,rfl,a.out,b.out,kA.1,kB.1,kA.2.1,kB.2.1,qO,qO,s.out,t.out,(N.out.mono (fun _ _ f=>f.elim)).trans ((Y.out.mono (fun _ _ f=>f)))⟩
  clear o q a b s t Y
  go_wp2
  go_end0
  exact U.out
theorem Zib (d g n cA cB u0 u1 v0 v1 r0 D:Nat)(xs ys:qN)(w:World)(ha:xs.length=n)(Z:ys.length=n)(a:Own .u64 84 w d xs)(b:Own .u64 84 w g ys)(E:d≠g)(da:Dig W64 xs)(db:Dig W64 ys)(hn:n≤1099511627776)(F:u0<W64)(G:u1<W64)(H:v0<W64)(I:v1<W64)(h0:r0+v0*val W64 ys=u0*val W64 xs)(h1:D+u1*val W64 xs=v1*val W64 ys)(l0:r0<W64^n)(l1:D<W64^n) :
 Ζ 143 #[.agg (kD u0 u1 v0 v1 true),.slice (some ⟨d,0,none⟩) n cA,.slice (some ⟨g,0,none⟩) n cB] w (aI d g n r0 D w):=by
 have J:=zh F
 have K:=zh G
 have L:=zh H
 have M:=zh I
 have h:=zh da
 have j:=zh db
 have H0:=zh h0
 have H1:=zh h1
 have a0:Hid (r0<W64^xs.length):=by unfold Hid;rw[ha];exact l0
 have b0:Hid (D<W64^ys.length):=by unfold Hid;rw[Z];exact l1
 have c0:=zh ha
 have d0:=zh Z
 have e0:=zh a
 have f0:=zh b
 have x0:=a.lt
 have y0:=b.lt
 unfold kD
 clear ha Z a b da db F G H I h0 h1 l0 l1
 go_enter func143,ntmps143
 go_wp2
 generalize r:World.alloc w _=wb
 have g0:Hid (Blk 205 wb w.heap.size #[.int .u64 (u0:Int),.int .u64 (u1:Int),.int .u64 (v0:Int),.int .u64 (v1:Int),.bool true]):=r ▸ Blk.new _ _ _
 have N:Hid (Ext w wb):=r ▸ (Fr.refl _ _).alloc _
 clear r
 go_loopw [6,7,8,9,10,11,21] (fun pv qv rv tv bv lv iv wr=>∃ (k z A B C O lo:Nat) (P zt:List Nat),k≤n∧pv=.int .u64 (z:Int)∧qv=.int .u64 (A:Int)∧rv=.int .u64 (B:Int)∧tv=.int .u64 (C:Int)∧bv=.int .u64 (O:Int)∧lv=.int .u64 (lo:Int)∧iv=.int .i64 (k:Int) ∧
  Hid (iR v0 u0 ys xs xs k P A z O)∧Hid (iR u1 v1 xs ys ys k zt C B lo)∧Hid (Own .u64 84 wr d P)∧Hid (Own .u64 84 wr g zt)∧Hid (lT 84 d w wr)∧Hid (lT 84 g w wr)∧Hid (Fr (fun i=>i=d∨i=g) wb wr)) (fun _ _ _ _ _ _ iv _=>n-(intOf iv).toNat)
 case atStart=>exact⟨0,0,0,0,0,0,0,xs,ys,vS _,rfl,rfl,rfl,rfl,rfl,rfl,rfl,iR.start h.out,iR.start j.out,e0.out.ext N.out,f0.out.ext N.out,(lT.refl _ _ _).fr N.out (fun f=>f),(lT.refl _ _ _).fr N.out (fun f=>f),Fr.refl _ _⟩
 case round =>
  obtain⟨k,z,A,B,C,O,lo,P,zt,hk,rfl,rfl,rfl,rfl,rfl,rfl,rfl,o,q,a,b,s,t,Y⟩:=hrel
  have z0:=c0.out
  have A0:=d0.out
  by_cases B0:k<n
  ·have l:k<xs.length:=qO
   have m:k<ys.length:=qO
   have i0:=o.out.1
   have j0:=q.out.1
   obtain⟨x,ex⟩:=yE (xs[k]?.getD 0)
   obtain⟨y,Q⟩:=yE (ys[k]?.getD 0)
   have k0:=a.out.cell (i:=k) qO
   have m0:=b.out.cell (i:=k) qO
   rw[o.out.at,ex] at k0
   rw[q.out.at,Q] at m0
   have C0:=a.out.frozen k
   have D0:=b.out.frozen k
   have R:Hid (x<W64):=ex ▸ h.out.getD zK k
   have S:Hid (y<W64):=Q ▸ j.out.getD zK k
   have n0:=zh (o.out.step L.out J.out m l l j.out h.out Q ex)
   have o0:=zh (q.out.step K.out M.out l m m h.out j.out ex Q)
   have T:¬ (w.heap.size=d∨w.heap.size=g):=qO
   have c:=g0.out.fr Y.out T
   have s0:wr.cell? ⟨w.heap.size,0,none⟩=some (.int .u64 (u0:Int)):=c.cell 0
   have s1:wr.cell? ⟨w.heap.size,1,none⟩=some (.int .u64 (u1:Int)):=c.cell 1
   have s2:wr.cell? ⟨w.heap.size,2,none⟩=some (.int .u64 (v0:Int)):=c.cell 2
   have s3:wr.cell? ⟨w.heap.size,3,none⟩=some (.int .u64 (v1:Int)):=c.cell 3
   have s4:wr.cell? ⟨w.heap.size,4,none⟩=some (.bool true):=c.cell 4
   have p0:O≤1:=o.out.2.2.2.2.2.1
   have q0:lo≤1:=q.out.2.2.2.2.2.1
   have u:=zh (And.intro o.out.2.2.2.1 o.out.2.2.2.2.1)
   have v:=zh (And.intro q.out.2.2.2.1 q.out.2.2.2.2.1)
   have M1:=zh (fun W=>kP x u0 z W R.out J.out u.out.2)
   have M2:=zh (fun W=>kP y v0 A W S.out L.out u.out.1)
   have M3:=zh (fun W=>kP y v1 B W S.out M.out v.out.2)
   have M4:=zh (fun W=>kP x u1 C W R.out K.out v.out.1)
   generalize maLo x u0 z=p1 at *
   generalize maHi x u0 z=p2 at *
   generalize maLo y v0 A=q1 at *
   generalize maHi y v0 A=q2 at *
   generalize maLo y v1 B=r1' at *
   generalize maHi y v1 B=r2' at *
   generalize maLo x u1 C=t1 at *
   generalize maHi x u1 C=t2 at *
   have S1:=fR p1 q1 O p0
   have S2:=fR r1' t1 lo q0
   have t0:k<P.length:=qO
   have w0:k<zt.length:=qO
   clear ex Q l m c i0 j0 u v
   go_wp2_with fail
   refine (M1.out _).mono ?_
   rintro e w' ⟨rfl,rfl⟩
   go_wp2_with fail
   refine (M2.out _).mono ?_
   rintro e w' ⟨rfl,rfl⟩
   go_wp2_with fail
   refine (M3.out _).mono ?_
   rintro e w' ⟨rfl,rfl⟩
   go_wp2_with fail
   refine (M4.out _).mono ?_
   rintro e w' ⟨rfl,rfl⟩
   go_wp2
   go_roundw
   case rel=>exact⟨k+1,p2,q2,r2',t2,_,_,_,_,qO,rfl,rfl,rfl,rfl,rfl,rfl,by go_num,n0,o0,(a.out.set k _ t0).far (by simpa using E) _,(b.out.far (by simpa using fun e=>E e.symm) _).set k _ w0,(s.out.setCell _ _ _).setCell _ _ _,(t.out.setCell _ _ _).setCell _ _ _,(Y.out.setCell (p:=⟨d,k,none⟩) (Or.inl (Or.inl rfl)) _).setCell (p:=⟨g,k,none⟩) (Or.inl (Or.inr rfl)) _⟩
   case measure=>simp[intOf];omega
  obtain rfl:k=n:=qO
  have U:Hid (aI d g k r0 D w (.returned (.tuple #[])) wr):=by
   have e1:k=xs.length:=qO
   have e2:k=ys.length:=qO
   have V:=o.out
   have X:=q.out
   rw[e1] at V
   rw[e2] at X
   have d1:=zh V
   have d2:=zh X
   have kA:=d1.out.done qO rfl H0.out a0.out
   have kB:=d2.out.done qO rfl H1.out b0.out
   exact⟨P,zt,rfl,a.out,b.out,kA.1,kB.1,kA.2.1,kB.2.1,qO,qO,s.out,t.out,(N.out.mono (fun _ _ f=>f.elim)).trans ((Y.out.mono (fun _ _ f=>f)))⟩
  clear o q a b s t Y
  go_wp2
  go_end0
  exact U.out
end Go.Proofs.YtmpffakfhcpjoaaGreatDoor
