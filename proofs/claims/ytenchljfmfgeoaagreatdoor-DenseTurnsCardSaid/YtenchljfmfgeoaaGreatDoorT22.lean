/-
 My texts FlD, Fp, Nsh, Ro, Rg, Nss, Rb, Rnd, Rn0 put together.
-/
import Derived.Test.YtenchljfmfgeoaaGreatDoorT19
import Derived.Test.YtenchljfmfgeoaaGreatDoorT08
import Derived.Test.YtenchljfmfgeoaaGreatDoorT11
import Derived.Test.YtenchljfmfgeoaaGreatDoorT15
import Derived.Test.YtenchljfmfgeoaaGreatDoorT07
set_option maxRecDepth 100000
set_option maxHeartbeats 8000000
namespace Go.Proofs.YtenchljfmfgeoaaGreatDoor
open Go.RowKit Tryz
def chV:List Nat→Nat
 | []=>0
 | c :: cs=>c+10^19*chV cs
theorem ZbK (c:Nat):∀ a:List Nat,chV (a ++ [c])=chV a+(10^19)^a.length*c
 | []=>by simp[chV]
 | d :: a=>by
  show d+10^19*chV (a ++ [c])=d+10^19*chV a+(10^19)^(a.length+1)*c
  rw[ZbK c a,uN (m:=a.length) (n:=10^19),uK,← uH,uF (10^19) ((10^19)^a.length),sE]
structure ChR (n:Nat) (cs:List Nat) (r:Nat):Prop where
 eq:n=chV cs+(10^19)^cs.length*r
 lt:∀ c∈cs,c<10^19
 top:r=0→cs≠[]→∃ l c,cs=l ++ [c]∧0<c
theorem ChR.start (n:Nat):ChR n [] n:=⟨by simp[chV],fun c h=>by simp at h,fun _ h=>absurd rfl h⟩
theorem ChR.step {n r:Nat}{cs:qN}(h:ChR n cs r)(e:0<r):ChR n (cs ++ [r%10^19]) (r/10^19):=by
 refine⟨?_,fun c b=>?_,fun d _=>⟨cs,_,rfl,?_⟩⟩
 ·rw[ZbK,uU,sQ,uN (m:=cs.length) (n:=10^19),uH,sE,← uK,rD]
  exact h.eq
 ·rcases sD.1 b with a|a
  ·exact h.lt c a
  rw[sV.1 a];exact uP _ qD
 have a:=rD r (10^19)
 rw[d,tD,tB] at a
 omega
theorem Ziv {cs:qN}(h:∃ l c,cs=l ++ [c]∧0<c):0<chV cs:=by
 obtain⟨l,c,rfl,a⟩:=h
 rw[ZbK]
 have:=tZ (vE (n:=l.length) (show 0<10^19 by decide)) a
 omega
theorem Zg4 {cs:qN}{i:Nat}(hi:i<cs.length)(h:∃ l c,cs=l ++ [c]∧0<c):∃ l c,cs.drop i=l ++ [c]∧0<c:=by
 obtain⟨l,c,rfl,a⟩:=h
 rw[uU,sQ] at hi
 exact⟨l.drop i,c,List.drop_append_of_le_length qO,a⟩
theorem Zmo {cs:qN}{i c:Nat}(hi:i<cs.length)(a:cs[i]?.getD 0=c)(d:∀ c∈cs,c<10^19)(e:∃ l c,cs=l ++ [c]∧0<c) :
 xX (chV (cs.drop i))=if i+1<cs.length then xX (chV (cs.drop (i+1))) ++ (List.replicate (19-(Lib.decDigits c).length) 48 ++ Lib.decDigits c) else Lib.decDigits c:=by
 have f:cs.drop i=c :: cs.drop (i+1):=by
  rw[sB hi]
  rw[uO hi] at a
  simp only[pF] at a
  rw[a]
 have b:c<10^19:=by
  rw[uO hi] at a
  simp only[pF] at a
  rw[←a];exact d _ (tT hi)
 rw[f]
 show xX (c+10^19*chV (cs.drop (i+1)))=_
 by_cases h:i+1<cs.length
 ·rw[uS h,tC,uF,ZfH (Ziv (Zg4 h e)) 19 c b,ZlJ qO b]
 rw[uL h,vG qO]
 show xX (c+10^19*0)=_
 have g:=Ziv (Zg4 hi e)
 rw[f,vG qO] at g
 rw[tD,tB]
 exact kI (by simp[chV] at g;omega)
theorem Zg8 (t:ByteArray)(v:Nat)(w:World)(b:(bytes t).all zW=true)(a:zM (bytes t)=v)(g:t.size≠0)(k:t.size≤1099511627776)(c:v<18446744073709551616) :
 yA 160 #[.string t,.int .i64 10,.int .i64 64] w fun e w'=>e=.returned (.tuple #[.int .u64 (v:Int),.nilIface])∧Ext w w':=by
 have d:Lib.parseUint10 0 t.data.toList=.ok v:=by
  have h:=pu10 (bytes t) 0 b (by rw[sM,vU,a];exact c)
  rw[sM,vU,a] at h
  exact h
 have h:=Tryz.internal_strconv_ParseUint_10_b64 t g qO w
 rw[d] at h
 have f:yA 196 #[.string t,.int .i64 10,.int .i64 64] w fun e w'=>e=.returned (.tuple #[.int .u64 (v:Int),.nilIface])∧Ext w w':=by
  refine h.mono ?_
  rintro e w' ⟨rfl,rfl⟩
  exact⟨rfl,rfl,rfl,rfl,by rw[Lib.bytesWorld_size];omega,fun i hi _=>Lib.bytesWorld_at_old _ _ _ i hi⟩
 have H:=zh f
 clear h f d b a c
 go_enter func160,ntmps160
 go_wp2_with fail
 refine H.out.mono ?_
 rintro e w' ⟨rfl,Q⟩
 have j:=zh Q
 clear Q
 go_wp2
 go_ret2
 exact⟨rfl,j.out⟩
def ZjF (w wr:World) (T:Nat) (d:ByteArray) (A:Option Addr) (cap:Nat) (xs:List Nat):Prop :=
 Buf .u64 141 wr A cap xs∧PaR T (bytes d) xs∧Ext w wr∧∀ b,xF A b→w.heap.size≤b
theorem ZbM (d:ByteArray)(w:World)(T:Nat)(hd:(bytes d).all zW=true)(hT:zM (bytes d)=T)(hw:wl T≤1048576)(hl:d.size≤1099511627776) :
 yA 111 #[.string d] w (wM w T):=by
 have HS:=zh (PaR.start hd hT)
 clear hd hT
 have ha:=aP
 go_enter func111,ntmps111
 go_wp2
 go_loopw [0,3] (fun v0 v3 wr=>∃ (d:ByteArray) (A:Option Addr) (f:Nat) (j:List Nat),v0=.string d∧v3=.slice A j.length f∧d.size≤1099511627776∧Hid (ZjF w wr T d A f j)) (fun v0 _ _=>match v0 with | .string d=>d.size | _=>0)
 case atStart=>exact⟨d,none,0,[],rfl,rfl,hl,Buf.nil,HS.out,Fr.refl _ _,fun b t=>by obtain⟨a,ha,_⟩:=t;cases ha⟩
 case round =>
  obtain⟨d,A,f,j,rfl,rfl,hl,B⟩:=hrel
  by_cases t0:0<d.size
  ·have u0:=B.out.2.1.len
   obtain⟨n,hn⟩:=yE d.size
   obtain⟨z,hz⟩:=yE ((n-1)%19)
   have w0:z≤18:=qO
   have c0:z+1≤n:=by have:=oH (n-1) 19;omega
   have e1:((n:Int)-1)%19=(z:Int):=qO
   have y0:(1:Int)≤(n:Int):=qO
   have z0:(0:Int)≤(n:Int)-1:=qO
   have A0:((z:Int)+1)≤(n:Int):=qO
   have B0:((z:Int)+1).toNat=z+1:=qO
   have I:(bytes d).length=n:=by rw[zS];exact hn
   have J:(d.extract 0 (z+1)).size=z+1:=by rw[rP];omega
   have K:bytes (d.extract 0 (z+1))=(bytes d).take (z+1):=by rw[kE];simp
   obtain⟨c,hc⟩:=yE (zM ((bytes d).take (z+1)))
   have d0:=B.out.2.1.chunk (z:=z) qO (by rw[I];exact hz)
   rw[hc] at d0
   have P:∀ W,yA 160 #[.string (d.extract 0 (z+1)),.int .i64 10,.int .i64 64] W fun e w'=>e=.returned (.tuple #[.int .u64 (c:Int),.nilIface])∧Ext W w':=fun W =>
    Zg8 _ c W (by
     rw[K,uY];intro x hx
     exact uY.1 B.out.2.1.all _ (tY hx)) (by rw[K];exact hc) (by rw[J];omega) (by rw[J];omega) qO
   have Q:bytes (d.extract (z+1) d.size)=(bytes d).drop (z+1):=by
    rw[kE,uD (by rw[vY,zS];exact uG _)]
   have C:(d.extract (z+1) d.size).size=d.size-(z+1):=by rw[rP];omega
   have e0:=zh Q
   have D:=zh C
   have f0:=zh P
   have g0:Hid (((bytes d).length-1)%19=z):=by unfold Hid;rw[I];exact hz
   have i0:Hid (0<(bytes d).length):=by unfold Hid;omega
   have Hc:=zh hc
   have Hn:=zh hn
   clear Q C P K J I hc hz
   go_wp2_with fail
   refine (f0.out _).mono ?_
   rintro e wB ⟨rfl,E⟩
   have HX:=zh E
   clear E
   have C0:z+1≤d.size:=by rw[Hn.out];exact c0
   clear hn
   go_wp2_with fail
   have j0:=zh B.out.1
   have HP:=zh B.out.2.1
   have k0:=zh B.out.2.2.1
   have u:=zh B.out.2.2.2
   have F:(d.extract (z+1) d.size).size≤1099511627776:=by rw[D.out];omega
   have l:Hid ((d.extract (z+1) d.size).size<d.size):=by rw[Hid,D.out];omega
   have o:Hid (∀ m q,jL j 10000000000000000000 c j.length m q→PaR T (bytes (d.extract (z+1) d.size)) (if q=0 then m else m ++ [q])):=by
    intro m q G
    rw[e0.out]
    exact HP.out.step i0.out g0.out (by rw[Hc.out];exact G)
   generalize d.extract (z+1) d.size=d2 at *
   have l0:Hid (c<W64):=by unfold Hid;rw[zR];omega
   have L:Hid (10000000000000000000<W64):=by unfold Hid;rw[zR];omega
   go_loopw [5,32] (fun v9 m0 wx=>∃ (k q:Nat) (m:List Nat),k≤j.length∧m0=.int .i64 (k:Int)∧v9=.int .u64 (q:Int)∧Hid (jL j 10000000000000000000 c k m q)∧Hid (Buf .u64 141 wx A f m)∧Hid (Fr (xF A) wB wx)) (fun _ v _=>j.length-(intOf v).toNat)
   case atStart=>exact⟨0,c,j,qO,rfl,rfl,jL.start HP.out.dig l0.out,j0.out.ext HX.out,Fr.refl _ _⟩
   case round =>
    obtain⟨k,q,m,hk,rfl,rfl,G,hB,hF⟩:=hrel
    have g:m.length=j.length:=G.out.1
    by_cases n0:k<j.length
    ·obtain⟨b,rfl,R,hC,S,U⟩:=hB.out.open_ (by intro e;rw[e] at g;simp at g;omega)
     obtain⟨y,hy⟩:=yE (m[k]?.getD 0)
     have M:=R.cell (i:=k) qO
     rw[hy] at M
     have x0:=R.frozen k
     have V:Hid (y<W64):=hy ▸ G.out.2.2.1.getD zI k
     have o0:=zh (G.out.step n0 hy L.out)
     have X:=fun v=>Buf.set_ R hC S U k v qO
     have p0:=zh X
     have q0:=zh G.out.2.2.2.1
     have HW:Hid (IntKind.u64.wrap ((xV y 10000000000000000000:Int)+(xD (zT y 10000000000000000000) q 0:Int))=(maHi y 10000000000000000000 q:Int)):=by
      have h:=ZaZ V.out L.out q0.out
      unfold Hid maHi at *
      rw[←rE,lW _ h]
     have r0:=R.lt
     have r:=zh g
     clear R hC S U hy X g
     go_wp2_with (go_at_call 161;refine (bF _ _ V.out L.out _).mono ?_;rintro e w' ⟨rfl,rfl⟩)
     go_roundw
     case rel=>exact⟨k+1,_,_,qO,by go_num,by rw[HW.out],o0.out,p0.out _,hF.out.setCell (p:=⟨b,k,none⟩) (Or.inl ⟨_,rfl,rfl⟩) _⟩
     case measure=>simp[intOf];omega
    obtain rfl:k=j.length:=qO
    have N:Hid (Ext w wr):=(k0.out.trans HX.out).next hF.out (fun i hi t=>by have:=u.out i t;omega)
    by_cases hq:q=0
    ·subst hq
     have O:=o.out m 0 G.out
     rw[uS rfl] at O
     have s:Hid (ZjF w wr T d2 A f m):=⟨hB.out,O,N.out,u.out⟩
     have r:=zh g
     clear O g
     go_wp2
     go_roundw
     case rel=>exact⟨d2,A,f,m,rfl,by rw[r.out],F,s.out⟩
     case measure=>exact l.out
    have D0:(0:Int)<(q:Int):=qO
    have O:=o.out m q G.out
    rw[uL hq] at O
    have Y:=zh O
    have r:=zh g
    have s0:Hid (zF .u64 (wr.alloc (.cells #[.int .u64 (q:Int)] 141)) (some ⟨wr.heap.size,0,none⟩) [q]):=(Own.new wr 141 .u64 [q] []).shows0
    clear O g hq
    go_wp2_with (at_builtin;refine Hid.out ?_)
    refine zh ?_
    refine wR rfl _ _ _ rfl _ .u64 8 underlying107 gS A (some ⟨wr.heap.size,0,none⟩) j.length 1 f 1 rfl rfl m [q] r.out rfl (hB.out.ext ((Fr.refl _ _).alloc _)) s0.out (by simp only[maxLen];omega) qO ?_
    intro A1 H w2 Z a0 b0
    have s:Hid (ZjF w w2 T d2 A1 H (m ++ [q])):=by
     refine⟨Z,Y.out,?_,?_⟩
     ·exact (N.out.alloc _).next a0 (fun i hi t=>by have:=u.out i t;omega)
     intro b t
     rcases b0 b t with h|h
     ·exact u.out b h
     have:=N.out.size;simp at h;omega
    clear Z a0 b0
    go_wp2
    go_roundw
    case rel=>exact⟨d2,A1,H,m ++ [q],rfl,by rw[uU,r.out];rfl,F,s.out⟩
    case measure=>exact l.out
  have h0:d.size=0:=qO
  obtain⟨h1,h2,h3,h4⟩:=B.out
  have hN:Hid (wM w T (.returned (.slice A j.length f)) wr):=by
   refine⟨_,rfl,?_,h3⟩
   have t:bytes d=[]:=rL (by rw[zS];exact h0)
   rw[t] at h2
   exact⟨A,j,f,rfl,h1.len,h1.shows,h2.dig,h2.trim,h2.done⟩
  clear h1 h2 h3 h4
  go_wp2
  go_ret
  exact hN.out
/-! ### Newton's step -/
theorem ZiA {x r:Nat}(a:0<r)(k:0<x):x<((r+x/r)/2^1+1)*((r+x/r)/2^1+1)∧0<(r+x/r)/2^1:=by
 obtain⟨q,c⟩:=yE (x/r)
 have f:=vQ x r
 have l:=uP x a
 rw[c] at f ⊢
 obtain⟨m,g⟩:=yE ((r+q)/2^1)
 rw[g]
 have i:r+q≤2*m+1:=qO
 have j:x<r*(q+1):=by rw[uK,tP];omega
 have n:4*(r*(q+1))≤(r+q+1)*(r+q+1):=by
  rcases Nat.le_total r (q+1) with h|h
  ·obtain⟨d,b⟩:=pR h
   have e:r+q+1=r+(r+d):=qO
   rw[e,b]
   simp only[uK,vC]
   have:=vK (d*d)
   rw[uF d r];omega
  obtain⟨d,b⟩:=pR h
  have e:r+q+1=(q+1+d)+(q+1):=qO
  rw[e,b]
  generalize q+1=p
  simp only[uK,vC]
  have:=vK (d*d)
  rw[uF d p];omega
 have o:(r+q+1)*(r+q+1)≤(2*(m+1))*(2*(m+1)):=uZ qO qO
 have s:(2*(m+1))*(2*(m+1))=4*((m+1)*(m+1)):=by
  rw[rM]
 refine⟨qO,?_⟩
 rcases uJ m with e|e
 ·exfalso
  subst e
  have:r=1:=qO
  subst this
  have:q=0:=qO
  subst this
  omega
 exact e
theorem ZoD {x r r0:Nat}(h:¬ (r+x/r)/2^1<r)(c:x<(r+1)*(r+1))(d:r0*r0≤x)(e:x<(r0+1)*(r0+1)):r=r0:=by
 have b:r≤x/r:=qO
 have f:r*r≤x:=by
  have:=qG x r
  have:=uE r b
  omega
 rcases qB r r0 with a|a|a
 ·have:=uZ (show r+1≤r0 by omega) (show r+1≤r0 by omega);omega
 ·exact a
 have:=uZ (show r0+1≤r by omega) (show r0+1≤r by omega);omega
theorem Zhb {x k:Nat}(h:x<2^k):x<(1*2^((k+1)/2)+1)*(1*2^((k+1)/2)+1)∧0<1*2^((k+1)/2):=by
 rw[rK]
 have b:2^k≤2^((k+1)/2)*2^((k+1)/2):=by rw[←uT];exact uW qO qO
 have a:=vE (n:=(k+1)/2) (show 0<2 by omega)
 refine⟨?_,a⟩
 have:=uZ (Nat.le_succ (2^((k+1)/2))) (Nat.le_succ (2^((k+1)/2)))
 simp only[pI] at this
 omega
theorem Zo1 {k m:Nat}(h:k≤64*m):wl (1*2^((k+1)/2))≤m+1:=by
 rw[rK]
 refine lR.2 ?_
 rw[zR,show (18446744073709551616:Nat)=2^64 from rfl,← rZ]
 exact Nat.pow_lt_pow_right qO qO
theorem Zk9 {q r:Nat}{w w':World}{e:Ending}(h:ZaW w q r e w'):lQ (fun x:ShN×ShN=>.tuple #[xC x.1,xC x.2]) (fun x w=>zD w (xC x.1) q∧zD w (xC x.2) r) w e w':=by
 obtain⟨u,v,rfl,a,b,Q⟩:=h
 obtain⟨A,l,c,rfl⟩:=a.slice
 obtain⟨g,i,j,rfl⟩:=b.slice
 exact⟨((A,l,c),(g,i,j)),rfl,Q,boxn Q (fun S k d f=>⟨a.nrb d f,b.nrb d f⟩)⟩
theorem rw1 {k:Nat}(h:k≤100000):IntKind.i64.wrap ((k:Int)+1)=((k+1:Nat):Int):=by rw[IntKind.wrap_i64];omega
section
variable {a b:Value} {x r k:Nat} {w:World}
end
inductive RootIs (p:Rat):ByteArray→Bool→Prop
 | neg (h:p.num<0):RootIs p ⟨#[]⟩ false
 | no1 (n d:Nat) (h0:0≤p.num) (hn1:n*n≤p.num.natAbs) (hn2:p.num.natAbs<(n+1)*(n+1)) (hd1:d*d≤(p.den:Int).natAbs) (hd2:(p.den:Int).natAbs<(d+1)*(d+1)) (h:¬ n*n=p.num.natAbs):RootIs p ⟨#[]⟩ false
 | no2 (n d:Nat) (h0:0≤p.num) (hn1:n*n≤p.num.natAbs) (hn2:p.num.natAbs<(n+1)*(n+1)) (hd1:d*d≤(p.den:Int).natAbs) (hd2:(p.den:Int).natAbs<(d+1)*(d+1)) (hnn:n*n=p.num.natAbs) (h:¬ d*d=(p.den:Int).natAbs):RootIs p ⟨#[]⟩ false
 | yes (n d:Nat) (Q:Rat) (h0:0≤p.num) (hn1:n*n≤p.num.natAbs) (hn2:p.num.natAbs<(n+1)*(n+1)) (hd1:d*d≤(p.den:Int).natAbs) (hd2:(p.den:Int).natAbs<(d+1)*(d+1)) (hnn:n*n=p.num.natAbs) (hdd:d*d=(p.den:Int).natAbs) (hQn:Q.num=(n:Int)) (hQd:(Q.den:Int)=(d:Int)):RootIs p ⟨(xI Q).toArray⟩ true
/-! ### the search for the exponent -/
theorem ZnY (n d bits:Nat):rndK n d bits=rk0 n d bits∨rndK n d bits=rk0 n d bits+1:=by
 unfold rndK;split
 ·exact Or.inl rfl
 exact Or.inr rfl
theorem ZnZ {n d bits:Nat}{k:Int}(a:k=rk0 n d bits∨k=rndK n d bits):(blen n:Int)-blen d-bits≤k∧k≤(blen n:Int)-blen d-bits+1:=by
 have h:=ZnY n d bits
 unfold rk0 at *
 omega
/-! ### the nearest integer -/
/-! ### roots -/
end Go.Proofs.YtenchljfmfgeoaaGreatDoor
