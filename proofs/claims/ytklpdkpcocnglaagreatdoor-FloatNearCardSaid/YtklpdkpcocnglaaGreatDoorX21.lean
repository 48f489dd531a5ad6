/-
 My texts Fp put together.
-/
import Derived.Test.YtklpdkpcocnglaaGreatDoorX20
import Derived.Test.YtklpdkpcocnglaaGreatDoorX11
import Derived.Test.YtklpdkpcocnglaaGreatDoorX16
set_option maxRecDepth 100000
set_option maxHeartbeats 8000000
namespace Go.Proofs.YtklpdkpcocnglaaGreatDoor
open Go.RowKit
theorem Zka (t:ByteArray)(v:Nat)(w:World)(b:(bytes t).all zU=true)(a:zH (bytes t)=v)(g:t.size≠0)(l:t.size≤1099511627776)(c:v<18446744073709551616) :
 yA 144 #[.string t,.int .i64 10,.int .i64 64] w fun e w'=>e=.returned (.tuple #[.int .u64 (v:Int),.nilIface])∧Ext w w':=by
 have d:Lib.parseUint10 0 t.data.toList=.ok v:=by
  have h:=pu10 (bytes t) 0 b (by rw[sI,sC,a];exact c)
  rw[sI,sC,a] at h
  exact h
 have h:=Tryz.internal_strconv_ParseUint_10_b64 t g (by omega) w
 rw[d] at h
 have f:yA 176 #[.string t,.int .i64 10,.int .i64 64] w fun e w'=>e=.returned (.tuple #[.int .u64 (v:Int),.nilIface])∧Ext w w':=by
  refine h.mono ?_
  rintro e w' ⟨rfl,rfl⟩
  exact⟨rfl,rfl,rfl,rfl,by rw[Lib.bytesWorld_size];omega,fun i j _=>Lib.bytesWorld_at_old _ _ _ i j⟩
 have H:=zh f
 clear h f d b a c
 go_enter Tryz.func144,Tryz.ntmps144
 go_wp2_with fail
 refine H.out.mono ?_
 rintro e w' ⟨rfl,Q⟩
 have k:=zh Q
 clear Q
 go_wp2
 go_ret2
 exact⟨rfl,k.out⟩
def Zm0 (w wr:World) (T:Nat) (d:ByteArray) (A:Option Addr) (cap:Nat) (xs:List Nat):Prop :=
 Buf .u64 94 wr A cap xs∧PaR T (bytes d) xs∧Ext w wr∧∀ b,xP A b→w.heap.size≤b
theorem Zdw (d:ByteArray)(w:World)(T:Nat)(hd:(bytes d).all zU=true)(hT:zH (bytes d)=T)(hw:wl T≤1048576)(hl:d.size≤1099511627776) :
 yA 100 #[.string d] w (wW w T):=by
 have HS:=zh (PaR.start hd hT)
 clear hd hT
 have ha:=Zbz
 go_enter Tryz.func100,Tryz.ntmps100
 go_wp2
 go_loopw [0,3] (fun v0 v3 wr=>∃ (d:ByteArray) (A:Option Addr) (f:Nat) (j:List Nat),v0=.string d∧v3=.slice A j.length f∧d.size≤1099511627776∧Hid (Zm0 w wr T d A f j)) (fun v0 _ _=>match v0 with | .string d=>d.size | _=>0)
 case atStart=>exact⟨d,none,0,[],rfl,rfl,hl,Buf.nil,HS.out,Fr.refl _ _,fun b t=>by obtain⟨a,ha,_⟩:=t;cases ha⟩
 case round =>
  obtain⟨d,A,f,j,rfl,rfl,hl,B⟩:=hrel
  by_cases t0:0<d.size
  ·have u0:=B.out.2.1.len
   obtain⟨n,hn⟩:=yE d.size
   obtain⟨z,hz⟩:=yE ((n-1)%19)
   have w0:z≤18:=by omega
   have c0:z+1≤n:=by have:=oG (n-1) 19;omega
   have e1:((n:Int)-1)%19=(z:Int):=by omega
   have y0:(1:Int)≤(n:Int):=by omega
   have z0:(0:Int)≤(n:Int)-1:=by omega
   have A0:((z:Int)+1)≤(n:Int):=by omega
   have B0:((z:Int)+1).toNat=z+1:=by omega
   have I:(bytes d).length=n:=by rw[zP];exact hn
   have J:(d.extract 0 (z+1)).size=z+1:=by rw[rE];omega
   have K:bytes (d.extract 0 (z+1))=(bytes d).take (z+1):=by rw[lX];simp
   obtain⟨c,hc⟩:=yE (zH ((bytes d).take (z+1)))
   have d0:=B.out.2.1.chunk (z:=z) (by omega) (by rw[I];exact hz)
   rw[hc] at d0
   have P:∀ W,yA 144 #[.string (d.extract 0 (z+1)),.int .i64 10,.int .i64 64] W fun e w'=>e=.returned (.tuple #[.int .u64 (c:Int),.nilIface])∧Ext W w':=fun W =>
    Zka _ c W (by
     rw[K,vR];intro x hx
     exact vR.1 B.out.2.1.all _ (rU hx)) (by rw[K];exact hc) (by rw[J];omega) (by rw[J];omega) (by omega)
   have Q:bytes (d.extract (z+1) d.size)=(bytes d).drop (z+1):=by
    rw[lX,uA (by rw[vZ,zP];exact uM _)]
   have C:(d.extract (z+1) d.size).size=d.size-(z+1):=by rw[rE];omega
   have e0:=zh Q
   have D:=zh C
   have f0:=zh P
   have g0:Hid (((bytes d).length-1)%19=z):=by unfold Hid;rw[I];exact hz
   have i0:Hid (0<(bytes d).length):=by unfold Hid;omega
   have Hc:=zh hc
   have Hn:=zh hn
   clear Q C P K J I hc hz
   go_wp2_with fail
   refine (f0.out _).mono ?_
   rintro e wB ⟨rfl,E⟩
   have HX:=zh E
   clear E
   have C0:z+1≤d.size:=by rw[Hn.out];exact c0
   clear hn
   go_wp2_with fail
   have j0:=zh B.out.1
   have HP:=zh B.out.2.1
   have k0:=zh B.out.2.2.1
   have u:=zh B.out.2.2.2
   have F:(d.extract (z+1) d.size).size≤1099511627776:=by rw[D.out];omega
   have l:Hid ((d.extract (z+1) d.size).size<d.size):=by rw[Hid,D.out];omega
   have o:Hid (∀ m q,gC j 10000000000000000000 c j.length m q→PaR T (bytes (d.extract (z+1) d.size)) (if q=0 then m else m ++ [q])):=by
    intro m q G
    rw[e0.out]
    exact HP.out.step i0.out g0.out (by rw[Hc.out];exact G)
   generalize d.extract (z+1) d.size=d2 at *
   have l0:Hid (c<W64):=by unfold Hid;rw[zO];omega
   have L:Hid (10000000000000000000<W64):=by unfold Hid;rw[zO];omega
   go_loopw [5,32] (fun v9 m0 wx=>∃ (k q:Nat) (m:List Nat),k≤j.length∧m0=.int .i64 (k:Int)∧v9=.int .u64 (q:Int)∧Hid (gC j 10000000000000000000 c k m q)∧Hid (Buf .u64 94 wx A f m)∧Hid (Fr (xP A) wB wx)) (fun _ v _=>j.length-(intOf v).toNat)
   case atStart=>exact⟨0,c,j,by omega,rfl,rfl,gC.start HP.out.dig l0.out,j0.out.ext HX.out,Fr.refl _ _⟩
   case round =>
    obtain⟨k,q,m,hk,rfl,rfl,G,hB,hF⟩:=hrel
    have g:m.length=j.length:=G.out.1
    by_cases n0:k<j.length
    ·obtain⟨b,rfl,R,hC,S,U⟩:=hB.out.open_ (by intro e;rw[e] at g;simp at g;omega)
     obtain⟨y,hy⟩:=yE (m[k]?.getD 0)
     have M:=R.cell (i:=k) (by omega)
     rw[hy] at M
     have x0:=R.frozen k
     have V:Hid (y<W64):=hy ▸ G.out.2.2.1.getD zM k
     have o0:=zh (G.out.step n0 hy L.out)
     have X:=fun v=>Buf.set_ R hC S U k v (by omega)
     have p0:=zh X
     have q0:=zh G.out.2.2.2.1
     have HW:Hid (IntKind.u64.wrap ((wI y 10000000000000000000:Int)+(xO (xE y 10000000000000000000) q 0:Int))=(maHi y 10000000000000000000 q:Int)):=by
      have h:=ZcA V.out L.out q0.out
      unfold Hid maHi at *
      rw[←sX,wE _ h]
     have r0:=R.lt
     have r:=zh g
     clear R hC S U hy X g
     go_wp2_with (go_at_call 145;refine (ZaO _ _ V.out L.out _).mono ?_;rintro e w' ⟨rfl,rfl⟩)
     go_roundw
     case rel=>exact⟨k+1,_,_,by omega,by go_num,by rw[HW.out],o0.out,p0.out _,hF.out.setCell (p:=⟨b,k,none⟩) (Or.inl ⟨_,rfl,rfl⟩) _⟩
     case measure=>simp[intOf];omega
    obtain rfl:k=j.length:=by omega
    have N:Hid (Ext w wr):=(k0.out.trans HX.out).next hF.out (fun i hi t=>by have:=u.out i t;omega)
    by_cases hq:q=0
    ·subst hq
     have O:=o.out m 0 G.out
     rw[uL rfl] at O
     have s:Hid (Zm0 w wr T d2 A f m):=⟨hB.out,O,N.out,u.out⟩
     have r:=zh g
     clear O g
     go_wp2
     go_roundw
     case rel=>exact⟨d2,A,f,m,rfl,by rw[r.out],F,s.out⟩
     case measure=>exact l.out
    have D0:(0:Int)<(q:Int):=by omega
    have O:=o.out m q G.out
    rw[uJ hq] at O
    have Y:=zh O
    have r:=zh g
    have s0:Hid (zF .u64 (wr.alloc (.cells #[.int .u64 (q:Int)] 94)) (some ⟨wr.heap.size,0,none⟩) [q]):=(Own.new wr 94 .u64 [q] []).shows0
    clear O g hq
    go_wp2_with (at_builtin;refine Hid.out ?_)
    refine zh ?_
    refine wT rfl _ _ _ rfl _ .u64 8 Tryz.underlying77 dB A (some ⟨wr.heap.size,0,none⟩) j.length 1 f 1 rfl rfl m [q] r.out rfl (hB.out.ext ((Fr.refl _ _).alloc _)) s0.out (by simp only[maxLen];omega) (by omega) ?_
    intro A1 H w2 Z a0 b0
    have s:Hid (Zm0 w w2 T d2 A1 H (m ++ [q])):=by
     refine⟨Z,Y.out,?_,?_⟩
     ·exact (N.out.alloc _).next a0 (fun i hi t=>by have:=u.out i t;omega)
     intro b t
     rcases b0 b t with h|h
     ·exact u.out b h
     have:=N.out.size;simp at h;omega
    clear Z a0 b0
    go_wp2
    go_roundw
    case rel=>exact⟨d2,A1,H,m ++ [q],rfl,by rw[vH,r.out];rfl,F,s.out⟩
    case measure=>exact l.out
  have h0:d.size=0:=by omega
  obtain⟨h1,h2,h3,h4⟩:=B.out
  have hN:Hid (wW w T (.returned (.slice A j.length f)) wr):=by
   refine⟨_,rfl,?_,h3⟩
   have t:bytes d=[]:=qO (by rw[zP];exact h0)
   rw[t] at h2
   exact⟨A,j,f,rfl,h1.len,h1.shows,h2.dig,h2.trim,h2.done⟩
  clear h1 h2 h3 h4
  go_wp2
  go_ret
  exact hN.out
end Go.Proofs.YtklpdkpcocnglaaGreatDoor
