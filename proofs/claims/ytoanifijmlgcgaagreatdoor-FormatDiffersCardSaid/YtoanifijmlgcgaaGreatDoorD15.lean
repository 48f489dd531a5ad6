/-
 My texts Parse, Parse2, Rat, Read, Rq, Short, Short2 put together.
-/
import Derived.Test.YtoanifijmlgcgaaGreatDoorD11
import Derived.Test.YtoanifijmlgcgaaGreatDoorD06
import Derived.Lib.ConvBytes
import Derived.Deep.DeepCutAuto
import Derived.Test.YtoanifijmlgcgaaGreatDoorD00
import Derived.Test.YtoanifijmlgcgaaGreatDoorD05
set_option maxRecDepth 100000
set_option maxHeartbeats 8000000
namespace Go.Proofs.YtoanifijmlgcgaaGreatDoor
open Go.RowKit
def zL (l:List UInt8):Nat:=l.foldl (fun n c=>10*n+(c.toNat-48)) 0
theorem ZaW (l:List UInt8)(c:UInt8):zL (l ++ [c])=10*zL l+(c.toNat-48):=by simp[zL]
theorem ZbI (a b:List UInt8):zL (a ++ b)=zL a*10^b.length+zL b:=by
 have d:∀ (b:List UInt8) (n:Nat),b.foldl (fun n c=>10*n+(c.toNat-48)) n=n*10^b.length+b.foldl (fun n c=>10*n+(c.toNat-48)) 0:=by
  intro b
  induction b with
  | nil=>intro n;simp
  | cons c b ih =>
   intro n
   simp only[List.foldl_cons,vM]
   rw[ih,ih (10*0+(c.toNat-48)),uW,sS,vO,uT,tR]
   congr 1
   rw[uG (10^b.length) 10,← uQ,uG n 10]
 unfold zL
 rw[List.foldl_append,d]
theorem Zaf {c:UInt8}(h:xH c=true):48≤c.toNat∧c.toNat-48≤9:=by
 unfold xH at h
 simp at h
 omega
theorem Zc9 (c:UInt8)(l:List UInt8):zL (c :: l)=(c.toNat-48)*10^l.length+zL l:=by
 have:=ZbI [c] l
 simpa [zL] using this
theorem gF:∀ (l:List UInt8),l.all xH=true→zL l<10^l.length
 | [],_=>by simp[zL]
 | c :: l,h=>by
  rw[sZ,vG] at h
  have b:=gF l h.2
  have a:=Zaf h.1
  have d:(c.toNat-48)*10^l.length≤9*10^l.length:=uC _ a.2
  rw[Zc9,vM,uW]
  omega
def gN (xs:List Nat) (y q k:Nat) (m:List Nat) (c:Nat):Prop :=
 m.length=xs.length∧m.drop k=xs.drop k∧Dig W64 m∧c<W64∧val W64 (m.take k)+W64^k*c=val W64 (xs.take k)*y+q
theorem gN.start {xs:List Nat}{y q:Nat}(h:Dig W64 xs)(a:q<W64):gN xs y q 0 xs q:=⟨rfl,rfl,h,a,by simp⟩
theorem gN.at {xs m:List Nat}{y q k c:Nat}(h:gN xs y q k m c):m[k]?.getD 0=xs[k]?.getD 0:=by
 have:=tC (fun l=>l[0]?.getD 0) h.2.1
 simpa [List.getElem?_drop] using this
theorem gN.step {xs m:List Nat}{y q k c z:Nat}(h:gN xs y q k m c)(d:k<xs.length)(a:m[k]?.getD 0=z)(e:y<W64):gN xs y q (k+1) (m.set k (maLo z y c)) (maHi z y c):=by
 have f:xs[k]?.getD 0=z:=h.at.symm.trans a
 obtain⟨g,i,b,j,o⟩:=h
 refine⟨by simpa using g,?_,b.set k (ZeW _ _ _),ZcH (a ▸ b.getD zZ k) e j,?_⟩
 ·rw[tU (by omega),← tH,← tH,i]
 rw[xU _ _ _ _ (by omega),zT k d,f,uW]
 have l:=ZcG z y c
 have n:=tC (W64^k * ·) l
 simp only[uS] at n
 rw[uT,uQ,uQ]
 omega
theorem gN.done {xs m:List Nat}{y q c:Nat}(h:gN xs y q xs.length m c):val W64 m+W64^xs.length*c=val W64 xs*y+q:=by
 obtain⟨b,d,e,f,a⟩:=h
 rwa [uB (by omega),uB (by omega)] at a
theorem Zi6 {m:List Nat}(b:Dig W64 m)(h:∀ k,m.length=k+1→W64^k≤val W64 m):Trim m:=by
 intro k c d
 have a:=h k c
 rw[xQ (xs:=m) k,xR k (by omega),d,vN (by omega:m.length≤k+1)] at a
 have e:=wH (b.take k)
 rw[uL,uY (by omega)] at e
 simp at a
 omega
theorem gN.zero {xs m:List Nat}{y q:Nat}(h:gN xs y q xs.length m 0)(b:Trim xs)(c:1≤y):Trim m∧val W64 m=val W64 xs*y+q:=by
 have a:=h.done
 simp at a
 refine⟨Zi6 h.2.2.1 (fun k d=>?_),a⟩
 have e:=ZdP (B:=W64) b (k:=k) (by rw[←h.1];exact d)
 have f:val W64 xs*1≤val W64 xs*y:=uK _ c
 omega
theorem gN.more {xs m:List Nat}{y q c:Nat}(h:gN xs y q xs.length m c)(a:c≠0):Trim (m ++ [c])∧Dig W64 (m ++ [c])∧val W64 (m ++ [c])=val W64 xs*y+q:=by
 refine⟨?_,h.2.2.1.append (Dig.nil.cons h.2.2.2.1),?_⟩
 ·intro k b
  have:k=m.length:=by simp at b;omega
  subst this
  simpa using a
 rw[kL,h.1,gH,eM,sS,tK]
 exact h.done
theorem Buf.open_ {k:IntKind}{e:TypeId}{w:World}{A:Option Addr}{cap:Nat}{xs:List Nat}(h:Buf k e w A cap xs)(a:xs≠[]):∃ b,A=some ⟨b,0,none⟩∧Own k e w b xs∧iG e w b cap∧xs.length≤cap∧cap≤maxLen:=by
 rcases h with ⟨_,h,_⟩|h
 ·exact absurd h a
 exact h
theorem Buf.set_ {k:IntKind}{e:TypeId}{w:World}{b cap:Nat}{xs:List Nat}(h:Own k e w b xs)(a:iG e w b cap)(c:xs.length≤cap)(d:cap≤maxLen)(i v:Nat)(hi:i<xs.length):Buf k e (w.setCell ⟨b,i,none⟩ (.int k (v:Int))) (some ⟨b,0,none⟩) cap (xs.set i v) :=
 Or.inr ⟨b,rfl,h.set i v hi,a.setCell b i _,by simpa using c,d⟩
def Zel (w wr:World) (T:Nat) (d:ByteArray) (A:Option Addr) (cap:Nat) (xs:List Nat):Prop :=
 Buf .u64 297 wr A cap xs∧Dig W64 xs∧Trim xs∧val W64 xs*10^d.size+zL (bytes d)=T∧(bytes d).all xH=true∧Ext w wr∧∀ b,xJ A b→w.heap.size≤b
theorem Zel.len {w wr:World}{T:Nat}{d:ByteArray}{A:Option Addr}{cap:Nat}{xs:List Nat}(h:Zel w wr T d A cap xs):xs.length≤wl T:=by
 obtain⟨_,a,b,c,_⟩:=h
 rw[wK a b]
 apply aL
 have:val W64 xs*1≤val W64 xs*10^d.size:=uK _ (uU (by omega))
 omega
theorem ZnW {n:Nat}(h:n≤19):10^n≤10000000000000000000:=by
 have:10^n≤10^19:=vS (by omega) h
 exact this
theorem Zem (d:ByteArray)(w:World)(T:Nat)(hd:(bytes d).all xH=true)(hT:zL (bytes d)=T)(hw:wl T≤1048576)(hl:d.size≤1099511627776) :
 yA 327 #[.string d] w (jN w T):=by
 have HD:=zh hd
 have HT:=zh hT
 clear hd hT
 have R0:=fun (w:World) (s:ByteArray)=>Lib.run_convert_string_bytes (P:=Tryz.prog) w 9 99 5 s Tryz.underlying9 Tryz.underlying99 Tryz.underlying5
 go_enter Tryz.func327,Tryz.ntmps327
 go_wp2
 go_loopw [0,3] (fun v0 v3 wr=>∃ (d:ByteArray) (A:Option Addr) (f:Nat) (l:List Nat),v0=.string d∧v3=.slice A l.length f∧d.size≤1099511627776∧Hid (Zel w wr T d A f l)) (fun v0 _ _=>match v0 with | .string d=>d.size | _=>0)
 case atStart=>exact⟨d,none,0,[],rfl,rfl,hl,Buf.nil,Dig.nil,Trim.nil,by simpa using HT.out,HD.out,Fr.refl _ _,fun b M=>by obtain⟨a,ha,_⟩:=M;cases ha⟩
 case round =>
  obtain⟨d,A,f,l,rfl,rfl,hl,o⟩:=hrel
  by_cases M0:0<d.size
  ·have Y:=o.out.len
   obtain⟨n,hn⟩:=yE d.size
   obtain⟨z,hz⟩:=yE ((n-1)%19)
   have N0:z≤18:=by omega
   have u0:z+1≤n:=by have:=Nat.mod_le (n-1) 19;omega
   have e1:((n:Int)-1)%19=(z:Int):=by omega
   have S0:(1:Int)≤(n:Int):=by omega
   have T0:(0:Int)≤(n:Int)-1:=by omega
   have U0:((z:Int)+1)≤(n:Int):=by omega
   have V0:((z:Int)+1).toNat=z+1:=by omega
   go_wp2_with fail
   have w0:(d.extract 0 (z+1)).size=z+1:=by rw[qN];omega
   have Z:bytes (d.extract 0 (z+1))=(bytes d).take (z+1):=by rw[gS];simp
   have G:Ext wr (Lib.bytesWorld wr 5 (d.extract 0 (z+1))):=⟨rfl,rfl,rfl,by rw[Lib.bytesWorld_size];omega,fun i hi _=>Lib.bytesWorld_at_old _ _ _ i hi⟩
   have H:∀ j,j<z+1→(Lib.bytesWorld wr 5 (d.extract 0 (z+1))).cell? ⟨wr.heap.size,j,none⟩=some (.int .u8 ((bytes d).getD j 0).toNat):=fun j hj=>by
    rw[Lib.bytesWorld_cell _ _ _ j (by omega)]
    have:(d.extract 0 (z+1)).data.toList=(bytes d).take (z+1):=Z
    rw[this]
    simp[List.getElem?_take_of_lt hj]
   have O0:wr.heap.size<(Lib.bytesWorld wr 5 (d.extract 0 (z+1))).heap.size:=by rw[Lib.bytesWorld_size];omega
   generalize Lib.bytesWorld wr 5 (d.extract 0 (z+1))=wB at *
   have HX:=zh G
   have HC:=zh H
   have Hn:=zh hn
   have Hz:=zh hz
   have x0:Hid ((bytes d).length=n):=by unfold Hid;rw[xG];exact hn
   clear G H w0 Z hn hz
   go_loop [5,6,25] (fun v5 v6 y0=>∃ j c p:Nat,j≤z+1∧y0=.int .i64 (j:Int)∧v5=.int .u64 (c:Int)∧v6=.int .u64 (p:Int)∧c<p∧p≤10000000000000000000∧Hid (c=zL ((bytes d).take j)∧p=10^j)) (fun _ _ v=>z+1-(intOf v).toNat)
   case atStart=>exact⟨0,0,1,by omega,rfl,rfl,rfl,by omega,by omega,by unfold Hid;simp[zL]⟩
   case round =>
    obtain⟨j,c,p,hj,rfl,rfl,rfl,W0,hp,hJ⟩:=hrel
    by_cases N:j<z+1
    ·have X0:=HC.out j N
     have r:j<(bytes d).length:=by rw[x0.out];omega
     have a0:=Zaf (c:=(bytes d).getD j 0) (by
      rw[List.getD_eq_getElem?_getD,List.getElem?_eq_getElem r]
      exact vC.1 o.out.2.2.2.2.1 _ (tY r))
     have z0:Hid (zL ((bytes d).take (j+1))=10*zL ((bytes d).take j)+(((bytes d).getD j 0).toNat-48)):=by
      unfold Hid
      rw[vE r,ZaW,List.getD_eq_getElem?_getD,List.getElem?_eq_getElem r]
      rfl
     have b0:Hid (zL ((bytes d).take (j+1))<10^(j+1)):=by
      have h:=gF ((bytes d).take (j+1)) (by
       rw[vC];intro x hx
       exact vC.1 o.out.2.2.2.2.1 _ (sD hx))
      rw[uL,uY (by omega)] at h
      exact h
     have t:=ZnW (n:=j+1) (by omega)
     rw[uW,← hJ.out.2] at t
     generalize ((bytes d).getD j 0).toNat=x at *
     have f1:IntKind.u64.wrap (10*(c:Int))=((10*c:Nat):Int):=by
      rw[show 10*(c:Int)=((10*c:Nat):Int) by omega];exact xV _ (by rw[zM];omega)
     have f2:IntKind.u8.wrap ((x:Int)-48)=((x-48:Nat):Int):=by
      rw[show (x:Int)-48=((x-48:Nat):Int) by omega,IntKind.wrap_u8];omega
     have f3:IntKind.u64.wrap ((x-48:Nat):Int)=((x-48:Nat):Int):=xV _ (by rw[zM];omega)
     have f4:IntKind.u64.wrap (((10*c:Nat):Int)+((x-48:Nat):Int))=((10*c+(x-48):Nat):Int):=lR (by rw[zM];omega)
     have f5:IntKind.u64.wrap ((p:Int)*10)=((p*10:Nat):Int):=by
      rw[show (p:Int)*10=((p*10:Nat):Int) by omega];exact xV _ (by rw[zM];omega)
     obtain⟨c1,c0⟩:=yE (10*c)
     obtain⟨y,O⟩:=yE (x-48)
     obtain⟨c2,d0⟩:=yE (c1+y)
     obtain⟨p2,e0⟩:=yE (p*10)
     have HN:Hid (c2=zL ((bytes d).take (j+1))∧p2=10^(j+1)):=by
      unfold Hid
      rw[z0.out,← hJ.out.1,uW,← hJ.out.2]
      omega
     have f0:c2<p2:=by rw[HN.out.1,HN.out.2];exact b0.out
     rw[c0] at f1 f4
     rw[O] at f2 f3 f4
     rw[d0] at f4
     rw[e0] at f5 t
     have Y0:wr.heap.size≠wB.heap.size:=by omega
     clear c0 O d0 e0 a0 r
     go_wp2
     go_round
     case rel=>exact⟨j+1,c2,p2,by omega,by go_num,rfl,rfl,f0,t,HN.out⟩
     case measure=>simp[intOf];omega
    obtain rfl:j=z+1:=by omega
    have Z0:z+1≤d.size:=by rw[Hn.out];exact u0
    have g0:bytes (d.extract (z+1) d.size)=(bytes d).drop (z+1):=by
     rw[gS,uB (by rw[vJ,xG];exact uR _)]
    have I:(d.extract (z+1) d.size).size=d.size-(z+1):=by rw[qN];omega
    have i0:=zh g0
    have u:=zh I
    clear g0 I
    go_wp2_with fail
    have A0:=zh o.out.1
    have j0:=zh o.out.2.1
    have R:=zh o.out.2.2.1
    have k0:Hid (∀ m,val W64 m=val W64 l*p+c→val W64 m*10^(d.extract (z+1) d.size).size+zL (bytes (d.extract (z+1) d.size))=T):=by
     intro m hm
     rw[hm,u.out,i0.out,← o.out.2.2.2.1]
     have S:bytes d=(bytes d).take (z+1) ++ (bytes d).drop (z+1):=(tT _ _).symm
     conv=>rhs;rw[S,ZbI,← hJ.out.1]
     rw[vJ,xG,hJ.out.2,uT,uQ,← vV,tR]
     congr 3
     omega
    have J:Hid ((bytes (d.extract (z+1) d.size)).all xH=true):=by
     unfold Hid
     rw[i0.out,vC]
     intro x hx
     exact vC.1 o.out.2.2.2.2.1 _ (sP hx)
    have B0:=zh o.out.2.2.2.2.2.1
    have F:=zh o.out.2.2.2.2.2.2
    have K:(d.extract (z+1) d.size).size≤1099511627776:=by rw[u.out];omega
    have B:Hid ((d.extract (z+1) d.size).size<d.size):=by rw[Hid,u.out];omega
    generalize d.extract (z+1) d.size=d2 at *
    have a1:=Y
    have C0:Hid (c<W64):=by unfold Hid;rw[zM];omega
    have l0:Hid (p<W64):=by unfold Hid;rw[zM];omega
    have D0:Hid (1≤p):=by unfold Hid;omega
    go_loopw [9,44] (fun v9 E0 wx=>∃ (k q:Nat) (m:List Nat),k≤l.length∧E0=.int .i64 (k:Int)∧v9=.int .u64 (q:Int)∧Hid (gN l p c k m q)∧Hid (Buf .u64 297 wx A f m)∧Hid (Fr (xJ A) wB wx)) (fun _ v _=>l.length-(intOf v).toNat)
    case atStart=>exact⟨0,c,l,by omega,rfl,rfl,gN.start j0.out C0.out,A0.out.ext HX.out,Fr.refl _ _⟩
    case round =>
     obtain⟨k,q,m,hk,rfl,rfl,U,X,hF⟩:=hrel
     have g:m.length=l.length:=U.out.1
     by_cases N:k<l.length
     ·obtain⟨b,rfl,hO,hC,m0,n0⟩:=X.out.open_ (by intro e;rw[e] at g;simp at g;omega)
      obtain⟨y,O⟩:=yE (m[k]?.getD 0)
      have V:=hO.cell (i:=k) (by omega)
      rw[O] at V
      have P0:=hO.frozen k
      have F0:Hid (y<W64):=O ▸ U.out.2.2.1.getD zZ k
      have G0:=zh (U.out.step N O l0.out)
      have o0:=fun v=>Buf.set_ hO hC m0 n0 k v (by omega)
      have H0:=zh o0
      have I0:=zh U.out.2.2.2.1
      have J0:=hO.lt
      have Q0:b≠wr.heap.size:=by omega
      have C:=zh g
      clear hO hC m0 n0 O o0 g
      go_wp2_with (go_at_call 332;refine (lK y p q _ F0.out l0.out I0.out).mono ?_;rintro e w' ⟨rfl,rfl⟩)
      go_roundw
      case rel=>exact⟨k+1,_,_,by omega,by go_num,rfl,G0.out,H0.out _,hF.out.setCell (p:=⟨b,k,none⟩) (Or.inl ⟨_,rfl,rfl⟩) _⟩
      case measure=>simp[intOf];omega
     obtain rfl:k=l.length:=by omega
     have W:Hid (Ext w wr):=(B0.out.trans HX.out).next hF.out (fun i hi M=>by have:=F.out i M;omega)
     by_cases hq:q=0
     ·subst hq
      obtain⟨S,h2⟩:=U.out.zero R.out D0.out
      have D:Hid (Zel w wr T d2 A f m):=⟨X.out,U.out.2.2.1,S,k0.out m h2,J.out,W.out,F.out⟩
      have C:=zh g
      clear S h2 g
      go_wp2
      go_roundw
      case rel=>exact⟨d2,A,f,m,rfl,by rw[C.out],K,D.out⟩
      case measure=>exact B.out
     have b1:((q:Int) != 0)=true:=by simp;omega
     obtain⟨S,h2,h3⟩:=U.out.more hq
     have E:Hid (Trim (m ++ [q])∧Dig W64 (m ++ [q])∧val W64 (m ++ [q])=val W64 l*p+c):=⟨S,h2,h3⟩
     have C:=zh g
     have K0:Hid (zV .u64 (wr.alloc (.cells #[.int .u64 (q:Int)] 297)) (some ⟨wr.heap.size,0,none⟩) [q]):=(Own.new wr 297 .u64 [q] []).shows0
     clear S h2 h3 g hq
     go_wp2_with (at_builtin;refine Hid.out ?_)
     refine zh ?_
     refine lC rfl _ _ _ rfl _ .u64 8 Tryz.underlying255 dG A (some ⟨wr.heap.size,0,none⟩) l.length 1 f 1 rfl rfl m [q] C.out rfl (X.out.ext ((Fr.refl _ _).alloc _)) K0.out (by simp only[maxLen];omega) (by omega) ?_
     intro A1 L w2 p0 q0 r0
     have D:Hid (Zel w w2 T d2 A1 L (m ++ [q])):=by
      refine⟨p0,E.out.2.1,E.out.1,k0.out _ E.out.2.2,J.out,?_,?_⟩
      ·exact (W.out.alloc _).next q0 (fun i hi M=>by have:=F.out i M;omega)
      intro b M
      rcases r0 b M with h|h
      ·exact F.out b h
      have:=W.out.size;simp at h;omega
     clear p0 q0 r0
     go_wp2
     go_roundw
     case rel=>exact⟨d2,A1,L,m ++ [q],rfl,by rw[uA,C.out];rfl,K,D.out⟩
     case measure=>exact B.out
  have h0:d.size=0:=by omega
  obtain⟨X,hD,s0,hV,_,Q,hN⟩:=o.out
  have t0:bytes d=[]:=vZ.1 (by rw[xG];exact h0)
  rw[h0,t0,Nat.pow_zero,Nat.mul_one] at hV
  have HB:=zh X
  have L0:=zh hD
  have R:=zh s0
  have HV:Hid (val W64 l=T):=by unfold Hid;rw[←hV];rfl
  have HE:=zh Q
  clear X hD s0 hV Q hN h0 t0
  go_wp2
  go_ret
  exact⟨_,rfl,⟨A,l,f,rfl,HB.out.len,HB.out.shows,L0.out,R.out,HV.out⟩,HE.out⟩
theorem Ze4 (d:ByteArray)(w:World)(T:Nat)(a:(bytes d).all xH=true)(b:zL (bytes d)=T)(g:wl T≤1048576)(h:d.size≤1099511627776) :
 yA 291 #[.string d,.slice none 0 0] w (jN w T):=by
 have i:=zh a
 have j:=zh b
 clear a b
 go_enter Tryz.func291,Tryz.ntmps291
 go_wp2
 go_loop [5] (fun v=>v=.int .i64 (-1)) (fun _=>0)
 case atStart=>rfl
 case round =>
  subst hrel
  go_wp2_with fail
  refine (Zem d _ T i.out j.out g h).mono ?_
  rintro e m ⟨n,rfl,c,f⟩
  have k:=zh c
  have l:=zh f
  clear c f
  go_wp2
  go_ret
  exact⟨_,rfl,k.out,l.out⟩
theorem Zag {n k m:Nat}(h:n<10^k)(a:k≤m):wl n≤m:=by
 rw[fE]
 have b:10^k≤W64^k:=rM (by rw[zM];omega) k
 have c:W64^k≤W64^m:=vS zZ a
 exact uX h (uD b c)
def dS (n:Nat):Prop:=n≤570
theorem Ze5 (d:ByteArray)(w:World)(a:(bytes d).all xH=true)(g:dS d.size) :
 yA 262 #[.string d] w (jN w (zL (bytes d))):=by
 unfold dS at g
 have h:wl (zL (bytes d))≤1048576:=Zag (by have:=gF (bytes d) a;rw[xG] at this;exact this) (by omega)
 generalize b:zL (bytes d)=T at *
 have i:=zh a
 have j:=zh b
 clear a b
 go_enter Tryz.func262,Tryz.ntmps262
 go_wp2_with fail
 refine (Ze4 d _ T i.out j.out h (by omega)).mono ?_
 rintro e m ⟨n,rfl,c,f⟩
 have k:=zh c
 have l:=zh f
 clear c f
 go_wp2
 go_ret
 exact⟨_,rfl,k.out,l.out⟩
theorem Zah (d:ByteArray)(w:World)(i:(bytes d).all xH=true)(j:dS d.size) :
 yA 212 #[.string d] w (Zd0 w (zL (bytes d):Int)):=by
 generalize k:zL (bytes d)=T
 have l:=zh i
 have m:=zh j
 have n:=zh k
 clear i k j
 go_enter Tryz.func212,Tryz.ntmps212
 go_wp2_with fail
 generalize a:World.alloc w _=wb
 have f:Hid (Blk 257 wb w.heap.size #[.bool false,.slice none 0 0]):=a ▸ Blk.new _ _ _
 have o:Hid (Ext w wb):=a ▸ (Fr.refl _ _).alloc _
 clear a
 refine (Ze5 d _ l.out m.out).mono ?_
 rw[n.out]
 rintro e p ⟨q,rfl,b,c⟩
 obtain⟨r,s,t,rfl⟩:=b.slice
 obtain⟨u,v,x,y⟩:=(f.out.ext c).cell2
 have g:=zh b
 have h:=zh c
 clear b c
 go_wp2
 exact ZeU (neg:=false) rfl rfl (by omega) o.out f.out h.out g.out rfl rfl
def Ze6 (cs:Array Value):Prop:=∀ (i:Nat) (k:Int),cs[i]? ≠ some (.int .u64 k)
theorem jK {s t:Bool}{A B:Option Addr}{l c l' a:Nat}:Ze6 #[.bool s,.slice A l c,.bool t,.slice B l' a]:=by
 intro i k;rcases i with _|_|_|_|i<;>simp
theorem zY.other {t:TypeId}{w w':World}{r n:Nat}{u:Value}{cs:Array Value}(h:zY w u n)(d:Blk t w r cs)(f:Ze6 cs)(j:Fr (fun i=>i=r) w w'):zY w' u n:=by
 obtain⟨k,xs,l,m,o,c,p⟩:=h
 refine⟨k,xs,l,m,o,?_,p⟩
 cases xs with
 | nil=>exact zV.nil
 | cons x xs =>
  refine c.fr j (fun y b q e=>?_)
  obtain⟨g,s,v,_,a⟩:=c.at (i:=0) (by simp)
  rw[v] at b
  injection b with b
  subst b
  simp at e
  subst e
  rw[d.cell] at a
  exact f _ _ a
theorem lB.other {t:TypeId}{w w':World}{r:Nat}{v:Value}{z:Int}{cs:Array Value}(h:lB w v z)(a:Blk t w r cs)(b:Ze6 cs)(c:Fr (fun i=>i=r) w w'):lB w' v z:=by
 obtain⟨d,u,n,e,f,g⟩:=h
 exact⟨d,u,n,e,f.other a b c,g⟩
theorem Blk.cell4 {t:TypeId}{w:World}{g:Nat}{x y z u:Value}(h:Blk t w g #[x,y,z,u]):w.cell? ⟨g,0,none⟩=some x∧w.cell? ⟨g,1,none⟩=some y∧w.cell? ⟨g,2,none⟩=some z∧w.cell? ⟨g,3,none⟩=some u∧w.frozen? ⟨g,0,none⟩=false∧w.frozen? ⟨g,1,none⟩=false∧w.frozen? ⟨g,2,none⟩=false∧w.frozen? ⟨g,3,none⟩=false :=
 ⟨h.cell 0,h.cell 1,h.cell 2,h.cell 3,h.frozen 0,h.frozen 1,h.frozen 2,h.frozen 3⟩
def denF (q:Rat):Int:=if q.den=1 then 0 else (q.den:Int)
def xO (w:World) (v:Value) (q:Rat):Prop:=∃ (s t:Bool) (A B:Option Addr) (l c l' c':Nat),v=.agg #[.bool s,.slice A l c,.bool t,.slice B l' c']∧lB w (.agg #[.bool s,.slice A l c]) q.num∧lB w (.agg #[.bool t,.slice B l' c']) (denF q)
theorem xO.ext {w w':World}{v:Value}{q:Rat}(h:xO w v q)(a:Ext w w'):xO w' v q:=by
 obtain⟨s,t,A,B,l,c,b,d,e,f,g⟩:=h
 exact⟨s,t,A,B,l,c,b,d,e,f.ext a,g.ext a⟩
theorem lB.zero (w:World):lB w (.agg #[.bool false,.slice none 0 0]) 0:=⟨false,_,0,rfl,zY.zero w,fun _=>rfl,rfl⟩
theorem xO.zero (w:World):xO w (.agg #[.bool false,.slice none 0 0,.bool false,.slice none 0 0]) 0:=⟨_,_,_,_,_,_,_,_,rfl,lB.zero w,lB.zero w⟩
def xI (l:List UInt8):Option Rat :=
 match lE l with
 | (_,_,_,false)=>none
 | (neg,num,den,true) =>
  if den=[] then some ((sg neg (zL num):Int):Rat)
  else if Nat.gcd (zL num) (zL den)=1 then some (mkRat (sg neg (zL num)) (zL den)) else none
def Za9 (w:World) (l:List UInt8) (e:Ending) (w':World):Prop :=
 ∃ v ok,e=.returned (.tuple #[v,.bool ok])∧Ext w w'∧((ok=true∧∃ q,xI l=some q∧xO w' v q)∨(ok=false∧xI l=none∧xO w' v 0))
theorem kU {p:UInt8→Bool}(l:List UInt8):(l.takeWhile p).all p=true:=by
 induction l with
 | nil=>rfl
 | cons x l ih =>
  rw[List.takeWhile_cons]
  split
  ·rename_i h;simp[h]
  rfl
theorem eE {l num den:List UInt8}{neg c:Bool}(h:lE l=(neg,num,den,c)):num.all xH=true∧den.all xH=true∧num.length+den.length≤l.length:=by
 have d:(lM l).2.length≤l.length:=by unfold lM;split<;>simp
 have a:((lM l).2.takeWhile xH).length+((lM l).2.dropWhile xH).length=(lM l).2.length:=by
  rw[←uA,rK]
 have b:=(List.takeWhile_sublist xH (l:=((lM l).2.dropWhile xH).tail)).length_le
 have e:((lM l).2.dropWhile xH).tail.length≤((lM l).2.dropWhile xH).length:=by simp
 unfold lE at h
 simp only[] at h
 split at h
 ·injection h with _ h;injection h with h1 h;injection h with h2 _;subst h1 h2
  exact⟨kU _,rfl,by simp;omega⟩
 split at h
 ·injection h with _ h;injection h with h1 h;injection h with h2 _;subst h1 h2
  exact⟨kU _,rfl,by simp;omega⟩
 split at h
 ·injection h with _ h;injection h with h1 h;injection h with h2 _;subst h1 h2
  exact⟨kU _,rfl,by simp;omega⟩
 split at h
 ·injection h with _ h;injection h with h1 h;injection h with h2 _;subst h1 h2
  exact⟨kU _,rfl,by simp;omega⟩
 injection h with _ h;injection h with h1 h;injection h with h2 _;subst h1 h2
 exact⟨kU _,kU _,by omega⟩
theorem Zbl {l:List UInt8}(g:l.all xH=true)(h:l≠[])(f:l.head? ≠ some 48):1≤zL l∧(2≤zL l∨l=[49]):=by
 cases l with
 | nil=>exact absurd rfl h
 | cons c l =>
  rw[sZ,vG] at g
  have k:=Zaf g.1
  have m:c.toNat≠48:=fun e=>f (by simp;exact UInt8.toNat.inj e)
  rw[Zc9]
  have i:1≤10^l.length:=uU (by omega)
  have j:1*10^l.length≤(c.toNat-48)*10^l.length:=uC _ (by omega)
  refine⟨by omega,?_⟩
  cases l with
  | nil =>
   by_cases e:c.toNat=49
   ·right;rw[UInt8.toNat.inj (a:=c) (b:=49) e]
   left;simp[zL];omega
  | cons d l =>
   left
   rw[vM,uW] at j ⊢
   have i:1≤10^l.length:=uU (by omega)
   omega
theorem Zen {l num den:List UInt8}{neg:Bool}(h:lE l=(neg,num,den,true)):(den≠[]→2≤zL den)∧(zL num=0→neg=false∧den=[]):=by
 have b:=eE h
 unfold lE at h
 simp only[] at h
 split at h
 ·rename_i f
  injection h with h0 h;injection h with h1 h;injection h with h2 h3;subst h0 h1 h2
  simp at h3
  exact⟨fun h=>absurd rfl h,fun _=>⟨h3.1,rfl⟩⟩
 rename_i g
 split at h
 ·injection h with _ h;injection h with h1 h;injection h with h2 h3;cases h3
 rename_i d
 have a:zL ((lM l).2.takeWhile xH)≠0:=by
  have:=(Zbl (kU (p:=xH) (lM l).2) (fun e=>d (Or.inl e)) (fun e=>d (Or.inr e))).1
  omega
 split at h
 ·injection h with _ h;injection h with h1 h;injection h with h2 _;subst h1 h2
  exact⟨fun h=>absurd rfl h,fun e=>absurd e a⟩
 split at h
 ·injection h with _ h;injection h with h1 h;injection h with h2 h3;cases h3
 injection h with _ h;injection h with h1 h;injection h with h2 h3;subst h1
 rw[h2] at h3
 simp at h3
 refine⟨fun c=>?_,fun e=>absurd e a⟩
 rcases (Zbl b.2.1 c h3.1.2).2 with h|h
 ·exact h
 exact absurd h h3.2
theorem Blk.one {t:TypeId}{w wb:World}{x:Array Value}(h:w.alloc (.cells x t)=wb):Blk t wb w.heap.size x∧Ext w wb:=by
 subst h
 exact⟨Blk.new _ _ _,(Fr.refl _ _).alloc _⟩
theorem eI {fn:Func}{a:Array Value}{w wz:World}{r:Nat}{b:Bool}{s t:Bool}{A B:Option Addr}{l c l' e:Nat}{L:List UInt8}(d:fn.results=#[.cell 2 259,.tmp 3])(f:a[2]? = some (.pointer (some ⟨r,0,none⟩)))(g:a[3]? = some (.bool b))(h:Blk 259 wz r #[.bool s,.slice A l c,.bool t,.slice B l' e])(Q:Ext w wz)(i:(b=true∧∃ q,xI L=some q∧xO wz (.agg #[.bool s,.slice A l c,.bool t,.slice B l' e]) q)∨(b=false∧xI L=none∧xO wz (.agg #[.bool s,.slice A l c,.bool t,.slice B l' e]) 0)) :
 bodyPost Tryz.prog fn (Za9 w L) .ret ⟨a,[]⟩ wz:=by
 obtain⟨j,k,m,n,_⟩:=h.cell4
 exact bodyPost_ret (v:=.tuple #[.agg #[.bool s,.slice A l c,.bool t,.slice B l' e],.bool b]) (by simp[results,d,f,g,go_sem,j,k,m,n]) rfl ⟨_,b,rfl,Q,i⟩
theorem Fr.set4 {w:World}{r:Nat}(a b c d:Value):Fr (fun i=>i=r) w ((((w.setCell ⟨r,0,none⟩ a).setCell ⟨r,1,none⟩ b).setCell ⟨r,2,none⟩ c).setCell ⟨r,3,none⟩ d) :=
 ((((Fr.refl (fun i=>i=r) w).setCell (p:=⟨r,0,none⟩) (Or.inl rfl) _).setCell (p:=⟨r,1,none⟩) (Or.inl rfl) _).setCell (p:=⟨r,2,none⟩) (Or.inl rfl) _).setCell (p:=⟨r,3,none⟩) (Or.inl rfl) _
theorem Fr.set2 {w:World}{r i j:Nat}(a b:Value):Fr (fun k=>k=r) w ((w.setCell ⟨r,i,none⟩ a).setCell ⟨r,j,none⟩ b) :=
 ((Fr.refl (fun k=>k=r) w).setCell (p:=⟨r,i,none⟩) (Or.inl rfl) _).setCell (p:=⟨r,j,none⟩) (Or.inl rfl) _
theorem Fr.local_ {w a w2:World}{r:Nat}(Q:Ext w a)(b:Fr (fun i=>i=r) a w2)(c:w.heap.size≤r):Ext w w2:=Q.next b (fun i d e=>by omega)
theorem Blk.put4 {t:TypeId}{w:World}{r:Nat}{x y z u:Value}(h:Blk t w r #[x,y,z,u])(a b c d:Value):Blk t ((((w.setCell ⟨r,0,none⟩ a).setCell ⟨r,1,none⟩ b).setCell ⟨r,2,none⟩ c).setCell ⟨r,3,none⟩ d) r #[a,b,c,d] :=
 (((h.set_ 0 a).set_ 1 b).set_ 2 c).set_ 3 d
def fY (l:List UInt8):Prop:=l.length≤570∧∀ neg num den,lE l=(neg,num,den,true)→den≠[]→Zbg (sg neg (zL num)) (zL den:Int)
theorem ZfE (z:Int):((z:Int):Rat).num=z∧denF ((z:Int):Rat)=0:=by
 refine⟨rfl,?_⟩
 unfold denF
 rw[tA (show ((z:Int):Rat).den=1 from rfl)]
theorem Zda {z:Int}{d:Nat}(c:2≤d)(a:Nat.gcd z.natAbs d=1):(mkRat z d).num=z∧denF (mkRat z d)=(d:Int):=by
 have b:mkRat z d=⟨z,d,by omega,a⟩:=by
  rw[←Rat.normalize_eq_mkRat (by omega)]
  exact Rat.normalize_eq_mk' z d (by omega) a
 rw[b]
 refine⟨rfl,?_⟩
 unfold denF
 simp
 omega
theorem eJ (s:ByteArray)(w:World)(hg:Glob w)(q0:fY (bytes s)):yA 231 #[.string s] w (Za9 w (bytes s)):=by
 have hs:s.size≤570:=by have:=q0.1;rw[xG] at this;exact this
 have HG:=zh hg
 have HO:=zh q0
 clear hg q0
 go_enter Tryz.func231,Tryz.ntmps231
 go_wp2_with fail
 generalize j:World.alloc w _=wb
 obtain⟨B0,C0⟩:=Blk.one j
 have D0:=zh B0
 have E0:=zh C0
 clear j B0 C0
 refine (Zj6 s _ (by omega)).mono ?_
 rintro e w1 ⟨neg,t,d,ok,rfl,F0,r0⟩
 have D:=zh F0
 have a0:=zh (D0.out.ext r0)
 have s0:=zh (E0.out.trans r0)
 clear F0 r0 D0 E0
 cases ok with
 | false =>
  have hR:Hid (xI (bytes s)=none):=by unfold Hid xI;rw[D.out]
  obtain⟨x0,x1,x2,x3,x4,x5,x6,x7⟩:=a0.out.cell4
  have n1:=a0.out.lt
  go_wp2
  have Z0:=(a0.out.put4 (.bool false) (.slice none 0 0) (.bool false) (.slice none 0 0)).alloc (.cells #[.bool neg,.string t,.string d] 309)
  exact eI rfl rfl rfl Z0 ((Fr.local_ s0.out (Fr.set4 _ _ _ _) (by omega)).alloc _) (Or.inr ⟨rfl,hR.out,xO.zero _⟩)
 | true =>
  obtain⟨G0,H0,I0⟩:=eE D.out
  rw[xG,xG,xG] at I0
  have t0:=zh G0
  have i0:=zh H0
  obtain⟨J0,K0⟩:=Zen D.out
  have L0:=zh J0
  have o1:=zh K0
  have M0:dS t.size:=by unfold dS;omega
  have N0:dS d.size:=by unfold dS;omega
  have u0:=zh M0
  have j0:=zh N0
  clear G0 H0 I0 J0 K0 M0 N0
  go_wp2_with fail
  generalize j:World.alloc w1 _=wf
  obtain⟨O0,v0⟩:=Blk.one j
  have P0:=zh O0
  have Q0:=zh (a0.out.ext v0)
  have R0:=zh (s0.out.trans v0)
  have p1:w.heap.size<w1.heap.size:=a0.out.lt
  generalize w1.heap.size=F at *
  clear j O0 v0 a0 s0
  refine (Zah t _ t0.out u0.out).mono ?_
  rintro e w2 ⟨u,rfl,hI,k0⟩
  obtain⟨s1,A1,l1,c1,rfl⟩:=hI.shape
  have B:=zh (Q0.out.ext k0)
  have z:=zh (P0.out.ext k0)
  have l0:=zh (R0.out.trans k0)
  have HI:=zh hI
  obtain⟨y0,y1,y2,y3,y4,y5⟩:=z.out.cell3
  have k1:=z.out.lt
  clear hI k0 Q0 P0 R0
  by_cases hd:bytes d=[]
  ·have a1:d.toList.isEmpty=true:=by rw[Lib.toList_data,show d.data.toList=[] from hd];rfl
   obtain⟨x0,x1,x2,x3,x4,x5,x6,x7⟩:=B.out.cell4
   have q1:=B.out.lt
   have S0:Hid (xI (bytes s)=some ((sg neg (zL (bytes t)):Int):Rat)):=by
    unfold Hid xI;rw[D.out];simp only[];rw[tA hd]
   clear hd
   cases neg with
   | false =>
    go_wp2
    have b1:=(B.out.put4 (.bool s1) (.slice A1 l1 c1) (.bool false) (.slice none 0 0)).alloc (.cells #[.bool s1,.slice A1 l1 c1,.bool false,.slice none 0 0] 259)
    refine eI rfl rfl rfl b1 ((Fr.local_ l0.out (Fr.set4 _ _ _ _) (by omega)).alloc _) (Or.inl ⟨rfl,_,S0.out,_,_,_,_,_,_,_,_,rfl,?_,?_⟩)
    ·exact (HI.out.other B.out jK (Fr.set4 _ _ _ _)).ext ((Fr.refl _ _).alloc _)
    rw[(ZfE _).2];exact lB.zero _
   | true =>
    clear x0 x1 x2 x3 x4 x5 x6 x7
    go_wp2_with fail
    generalize j:World.alloc w2 _=wx
    obtain⟨E,i⟩:=Blk.one j
    have L:=zh E
    have M:=zh (B.out.ext i)
    have N:=zh (HI.out.ext i)
    have O:=zh (l0.out.trans i)
    have T0:=zh (z.out.ext i)
    have d1:F<w2.heap.size:=z.out.lt
    generalize w2.heap.size=X at *
    clear j E i
    refine (Zh4 _ _ _ N.out).mono ?_
    rintro e w3 ⟨u3,rfl,P,n⟩
    obtain⟨s3,A3,l3,c3,rfl⟩:=P.shape
    have G:=zh (M.out.ext n)
    have o:=zh (L.out.ext n)
    have y:=zh (O.out.trans n)
    have Y:=zh (T0.out.ext n)
    have n0:Hid (lB w3 (.agg #[.bool s3,.slice A3 l3 c3]) (sg true (zL (bytes t)))):=P
    obtain⟨y0,y1,y2,y3,y4,y5⟩:=Y.out.cell3
    obtain⟨m0,m1,m2,m3,m4,m5,m6,m7⟩:=o.out.cell4
    obtain⟨x0,x1,x2,x3,x4,x5,x6,x7⟩:=G.out.cell4
    clear P n
    go_wp2
    have c:Fr (fun k=>k=X) w3 ((w3.setCell ⟨X,0,none⟩ (.bool s3)).setCell ⟨X,1,none⟩ (.slice A3 l3 c3)):=Fr.set2 _ _
    have o0:=G.out.fr c (by omega)
    refine eI rfl rfl rfl (o0.put4 _ _ _ _) (Fr.local_ (Fr.local_ y.out c (by omega)) (Fr.set4 _ _ _ _) (by omega)) (Or.inl ⟨rfl,_,S0.out,_,_,_,_,_,_,_,_,rfl,?_,?_⟩)
    ·exact (n0.out.other o.out jK c).other o0 jK (Fr.set4 _ _ _ _)
    rw[(ZfE _).2];exact lB.zero _
  have a1:d.toList.isEmpty=false:=(aO hd).2.2
  have A:=zh hd
  clear hd
  cases neg with
  | false =>
   have Q:Hid ((Nat.gcd (sg false (zL (bytes t))).natAbs (zL (bytes d))=1→xI (bytes s)=some (mkRat (sg false (zL (bytes t))) (zL (bytes d))))∧(¬ Nat.gcd (sg false (zL (bytes t))).natAbs (zL (bytes d))=1→xI (bytes s)=none)):=by
    have e:(sg false (zL (bytes t))).natAbs=zL (bytes t):=by simp[sg]
    rw[e]
    unfold Hid xI
    rw[D.out]
    simp only[]
    rw[vP A.out]
    exact⟨fun h=>tA h,fun h=>vP h⟩
   have b0:Hid (Fits (sg false (zL (bytes t)))):=by
    have e:(sg false (zL (bytes t))).natAbs=zL (bytes t):=by simp[sg]
    unfold Hid Fits
    rw[e]
    refine Zag (gF _ t0.out) ?_
    have:=u0.out;unfold dS at this;rw[xG];omega
   have w0:Hid (Fits (zL (bytes d):Int)):=by
    unfold Hid Fits
    rw[vT]
    refine Zag (gF _ i0.out) ?_
    have:=j0.out;unfold dS at this;rw[xG];omega
   have c0:Hid (Zbg (sg false (zL (bytes t))) (zL (bytes d):Int)):=HO.out.2 _ _ _ D.out A.out
   obtain⟨Z,hZ⟩:=yE (sg false (zL (bytes t)))
   rw[hZ] at Q b0 c0
   have e1:Hid (lB w2 (.agg #[.bool s1,.slice A1 l1 c1]) Z):=hZ ▸ HI.out
   clear hZ HI
   go_wp2_with fail
   generalize j:World.alloc w2 _=wx
   obtain⟨E,i⟩:=Blk.one j
   have L:=zh E
   have M:=zh (B.out.ext i)
   have N:=zh (e1.out.ext i)
   have O:=zh (l0.out.trans i)
   have f1:w.heap.size<w2.heap.size:=B.out.lt
   generalize w2.heap.size=X at *
   obtain⟨s2,g1⟩:∃ s2,s2=s1:=⟨_,rfl⟩
   obtain⟨A2,h1⟩:∃ A2,A2=A1:=⟨_,rfl⟩
   obtain⟨l2,i1⟩:∃ l2,l2=l1:=⟨_,rfl⟩
   obtain⟨c2,j1⟩:∃ c2,c2=c1:=⟨_,rfl⟩
   subst g1 h1 i1 j1
   clear j E i
   refine (Zah d _ i0.out j0.out).mono ?_
   rintro e w4 ⟨u4,rfl,R,p⟩
   obtain⟨s4,A4,l4,c4,rfl⟩:=R.shape
   have H:=zh (M.out.ext p)
   have f:=zh (L.out.ext p)
   have I:=zh (N.out.ext p)
   have y:=zh (O.out.trans p)
   have d0:=zh R
   clear R p M L N O
   obtain⟨m0,m1,m2,m3,m4,m5,m6,m7⟩:=f.out.cell4
   go_wp2_with fail
   generalize S:World.setCell (World.setCell w4 _ _) _ _=w5
   have c:Fr (fun k=>k=X) w4 w5:=S ▸ Fr.set2 _ _
   have J:Hid (Blk 259 w5 X #[.bool s2,.slice A2 l2 c2,.bool s4,.slice A4 l4 c4]):=S ▸ (f.out.set_ 2 _).set_ 3 _
   have K:=zh (H.out.fr c (by omega))
   have q:=zh (I.out.other f.out jK c)
   have T:=zh (d0.out.other f.out jK c)
   have U:=zh (Fr.local_ y.out c (by omega))
   clear S c m0 m1 m2 m3 m4 m5 m6 m7 f H I d0 y
   refine (Zh6 _ _ Z (zL (bytes d):Int) _ (HG.out.ext U.out) q.out T.out b0.out w0.out c0.out).mono ?_
   rintro e w6 ⟨u6,rfl,V,m⟩
   obtain⟨s6,A6,l6,c6,rfl⟩:=V.shape
   have l:=zh (K.out.ext m)
   have r:=zh (J.out.ext m)
   have v:=zh (q.out.ext m)
   have x:=zh (T.out.ext m)
   have C:=zh (U.out.trans m)
   have z0:=zh V
   clear V m K J q T U
   go_wp2_with fail
   refine (Zfs _ _ _ z0.out).mono ?_
   by_cases g:((Int.gcd Z (zL (bytes d):Int):Nat):Int)=1
   ·rw[uI g]
    rintro e w7 ⟨rfl,b⟩
    have a:=zh (l.out.ext b)
    have e0:=zh (r.out.ext b)
    have f0:=zh (v.out.ext b)
    have g0:=zh (x.out.ext b)
    have W:=zh (C.out.trans b)
    have HQ:Hid (xI (bytes s)=some (mkRat Z (zL (bytes d)))∧(mkRat Z (zL (bytes d))).num=Z∧denF (mkRat Z (zL (bytes d)))=(zL (bytes d):Int)):=by
     have h0:Nat.gcd Z.natAbs (zL (bytes d))=1:=by
      have:Int.gcd Z (zL (bytes d):Int)=1:=by omega
      exact this
     refine⟨Q.out.1 h0,Zda (L0.out A.out) h0⟩
    clear g b l r v x C
    obtain⟨x0,x1,x2,x3,x4,x5,x6,x7⟩:=a.out.cell4
    obtain⟨m0,m1,m2,m3,m4,m5,m6,m7⟩:=e0.out.cell4
    go_wp2
    refine eI rfl rfl rfl (a.out.put4 _ _ _ _) (Fr.local_ W.out (Fr.set4 _ _ _ _) (by omega)) (Or.inl ⟨rfl,_,HQ.out.1,_,_,_,_,_,_,_,_,rfl,?_,?_⟩)
    ·rw[HQ.out.2.1];exact f0.out.other a.out jK (Fr.set4 _ _ _ _)
    rw[HQ.out.2.2];exact g0.out.other a.out jK (Fr.set4 _ _ _ _)
   rw[uH g]
   rintro e w7 ⟨rfl,b⟩
   have a:=zh (l.out.ext b)
   have W:=zh (C.out.trans b)
   have HQ:Hid (xI (bytes s)=none):=Q.out.2 (fun h=>g (by have:Int.gcd Z (zL (bytes d):Int)=1:=h;omega))
   clear g b l r v x C
   obtain⟨x0,x1,x2,x3,x4,x5,x6,x7⟩:=a.out.cell4
   go_wp2
   exact eI rfl rfl rfl (a.out.put4 _ _ _ _) (Fr.local_ W.out (Fr.set4 _ _ _ _) (by omega)) (Or.inr ⟨rfl,HQ.out,xO.zero _⟩)
  | true =>
   have Q:Hid ((Nat.gcd (sg true (zL (bytes t))).natAbs (zL (bytes d))=1→xI (bytes s)=some (mkRat (sg true (zL (bytes t))) (zL (bytes d))))∧(¬ Nat.gcd (sg true (zL (bytes t))).natAbs (zL (bytes d))=1→xI (bytes s)=none)):=by
    have e:(sg true (zL (bytes t))).natAbs=zL (bytes t):=by simp[sg]
    rw[e]
    unfold Hid xI
    rw[D.out]
    simp only[]
    rw[vP A.out]
    exact⟨fun h=>tA h,fun h=>vP h⟩
   have b0:Hid (Fits (sg true (zL (bytes t)))):=by
    have e:(sg true (zL (bytes t))).natAbs=zL (bytes t):=by simp[sg]
    unfold Hid Fits
    rw[e]
    refine Zag (gF _ t0.out) ?_
    have:=u0.out;unfold dS at this;rw[xG];omega
   have w0:Hid (Fits (zL (bytes d):Int)):=by
    unfold Hid Fits
    rw[vT]
    refine Zag (gF _ i0.out) ?_
    have:=j0.out;unfold dS at this;rw[xG];omega
   have c0:Hid (Zbg (sg true (zL (bytes t))) (zL (bytes d):Int)):=HO.out.2 _ _ _ D.out A.out
   obtain⟨Z,hZ⟩:=yE (sg true (zL (bytes t)))
   rw[hZ] at Q b0 c0
   go_wp2_with fail
   generalize j:World.alloc w2 _=wn
   obtain⟨E,i⟩:=Blk.one j
   have U0:=zh E
   have V0:=zh (B.out.ext i)
   have W0:=zh (HI.out.ext i)
   have X0:=zh (l0.out.trans i)
   have Y0:=zh (z.out.ext i)
   have f1:w.heap.size<w2.heap.size:=B.out.lt
   have d1:F<w2.heap.size:=z.out.lt
   generalize w2.heap.size=X at *
   clear j E i
   refine (Zh4 _ _ _ W0.out).mono ?_
   rintro e w3 ⟨u3,rfl,P,n⟩
   obtain⟨s2,A2,l2,c2,rfl⟩:=P.shape
   have p0:lB w3 (.agg #[.bool s2,.slice A2 l2 c2]) Z:=by rw[←hZ];exact P
   have G:=zh (V0.out.ext n)
   have o:=zh (U0.out.ext n)
   have Y:=zh (Y0.out.ext n)
   have y:=zh (X0.out.trans n)
   have n0:=zh p0
   obtain⟨y0,y1,y2,y3,y4,y5⟩:=Y.out.cell3
   obtain⟨m0,m1,m2,m3,m4,m5,m6,m7⟩:=o.out.cell4
   clear P p0 n hZ
   go_wp2_with fail
   generalize A0:World.setCell (World.setCell w3 _ _) _ _=wx
   have c:Fr (fun k=>k=X) w3 wx:=A0 ▸ Fr.set2 _ _
   have L:Hid (Blk 259 wx X #[.bool s2,.slice A2 l2 c2,.bool false,.slice none 0 0]):=A0 ▸ (o.out.set_ 0 _).set_ 1 _
   have M:=zh (G.out.fr c (by omega))
   have N:=zh (n0.out.other o.out jK c)
   have O:=zh (Fr.local_ y.out c (by omega))
   clear A0 c m0 m1 m2 m3 m4 m5 m6 m7 y0 y1 y2 y3 y4 y5 o G n0 y Y
   refine (Zah d _ i0.out j0.out).mono ?_
   rintro e w4 ⟨u4,rfl,R,p⟩
   obtain⟨s4,A4,l4,c4,rfl⟩:=R.shape
   have H:=zh (M.out.ext p)
   have f:=zh (L.out.ext p)
   have I:=zh (N.out.ext p)
   have y:=zh (O.out.trans p)
   have d0:=zh R
   clear R p M L N O
   obtain⟨m0,m1,m2,m3,m4,m5,m6,m7⟩:=f.out.cell4
   go_wp2_with fail
   generalize S:World.setCell (World.setCell w4 _ _) _ _=w5
   have c:Fr (fun k=>k=X) w4 w5:=S ▸ Fr.set2 _ _
   have J:Hid (Blk 259 w5 X #[.bool s2,.slice A2 l2 c2,.bool s4,.slice A4 l4 c4]):=S ▸ (f.out.set_ 2 _).set_ 3 _
   have K:=zh (H.out.fr c (by omega))
   have q:=zh (I.out.other f.out jK c)
   have T:=zh (d0.out.other f.out jK c)
   have U:=zh (Fr.local_ y.out c (by omega))
   clear S c m0 m1 m2 m3 m4 m5 m6 m7 f H I d0 y
   refine (Zh6 _ _ Z (zL (bytes d):Int) _ (HG.out.ext U.out) q.out T.out b0.out w0.out c0.out).mono ?_
   rintro e w6 ⟨u6,rfl,V,m⟩
   obtain⟨s6,A6,l6,c6,rfl⟩:=V.shape
   have l:=zh (K.out.ext m)
   have r:=zh (J.out.ext m)
   have v:=zh (q.out.ext m)
   have x:=zh (T.out.ext m)
   have C:=zh (U.out.trans m)
   have z0:=zh V
   clear V m K J q T U
   go_wp2_with fail
   refine (Zfs _ _ _ z0.out).mono ?_
   by_cases g:((Int.gcd Z (zL (bytes d):Int):Nat):Int)=1
   ·rw[uI g]
    rintro e w7 ⟨rfl,b⟩
    have a:=zh (l.out.ext b)
    have e0:=zh (r.out.ext b)
    have f0:=zh (v.out.ext b)
    have g0:=zh (x.out.ext b)
    have W:=zh (C.out.trans b)
    have HQ:Hid (xI (bytes s)=some (mkRat Z (zL (bytes d)))∧(mkRat Z (zL (bytes d))).num=Z∧denF (mkRat Z (zL (bytes d)))=(zL (bytes d):Int)):=by
     have h0:Nat.gcd Z.natAbs (zL (bytes d))=1:=by
      have:Int.gcd Z (zL (bytes d):Int)=1:=by omega
      exact this
     refine⟨Q.out.1 h0,Zda (L0.out A.out) h0⟩
    clear g b l r v x C
    obtain⟨x0,x1,x2,x3,x4,x5,x6,x7⟩:=a.out.cell4
    obtain⟨m0,m1,m2,m3,m4,m5,m6,m7⟩:=e0.out.cell4
    go_wp2
    refine eI rfl rfl rfl (a.out.put4 _ _ _ _) (Fr.local_ W.out (Fr.set4 _ _ _ _) (by omega)) (Or.inl ⟨rfl,_,HQ.out.1,_,_,_,_,_,_,_,_,rfl,?_,?_⟩)
    ·rw[HQ.out.2.1];exact f0.out.other a.out jK (Fr.set4 _ _ _ _)
    rw[HQ.out.2.2];exact g0.out.other a.out jK (Fr.set4 _ _ _ _)
   rw[uH g]
   rintro e w7 ⟨rfl,b⟩
   have a:=zh (l.out.ext b)
   have W:=zh (C.out.trans b)
   have HQ:Hid (xI (bytes s)=none):=Q.out.2 (fun h=>g (by have:Int.gcd Z (zL (bytes d):Int)=1:=h;omega))
   clear g b l r v x C
   obtain⟨x0,x1,x2,x3,x4,x5,x6,x7⟩:=a.out.cell4
   go_wp2
   exact eI rfl rfl rfl (a.out.put4 _ _ _ _) (Fr.local_ W.out (Fr.set4 _ _ _ _) (by omega)) (Or.inr ⟨rfl,HQ.out,xO.zero _⟩)
end Go.Proofs.YtoanifijmlgcgaaGreatDoor
namespace Go.Proofs.YtoanifijmlgcgaaGreatDoor
theorem kF {q:Rat}(h:q.den=1):denF q=0:=by unfold denF;rw[tA h]
theorem iT {q:Rat}(h:¬ q.den=1):denF q=(q.den:Int):=by unfold denF;rw[vP h]
theorem denI (q:Rat):((q.den:Nat):Int)≠0:=by have:=q.den_nz;omega
theorem Zao (p q:Rat):Rat.divInt (p.num*q.den+q.num*p.den) (p.den*q.den)=p+q:=by
 have h:=Rat.divInt_add_divInt p.num q.num (denI p) (denI q)
 rw[rE,rE] at h
 exact h.symm
theorem Zap (p q:Rat):Rat.divInt (p.num*q.num) (p.den*q.den)=p*q:=by
 have h:=Rat.divInt_mul_divInt p.num q.num (d₁:=p.den) (d₂:=q.den)
 rw[rE,rE] at h
 exact h.symm
theorem ZaI {p:Rat}(a:p.den=1):p=(p.num:Rat):=by
 apply Rat.ext<;>simp[a]
theorem ZbL {p q:Rat}(a:p.den=1)(b:q.den=1):(p+q).num=p.num+q.num∧(p+q).den=1:=by
 have e:p+q=((p.num+q.num:Int):Rat):=by rw[Rat.intCast_add,← ZaI a,← ZaI b]
 rw[e]
 exact⟨rfl,rfl⟩
theorem ZbM {p q:Rat}(a:p.den=1)(b:q.den=1):(p*q).num=p.num*q.num∧(p*q).den=1:=by
 have e:p*q=((p.num*q.num:Int):Rat):=by rw[Rat.intCast_mul,← ZaI a,← ZaI b]
 rw[e]
 exact⟨rfl,rfl⟩
theorem ZdA (q:Rat):(-q).num = -q.num:=rfl
theorem ZdB (q:Rat):(-q).den=q.den:=rfl
theorem Zlm (q:Rat):denF (-q)=denF q:=by unfold denF;rw[ZdB]
end Go.Proofs.YtoanifijmlgcgaaGreatDoor
namespace Go.Proofs.YtoanifijmlgcgaaGreatDoor
open Go.RowKit
end Go.Proofs.YtoanifijmlgcgaaGreatDoor
