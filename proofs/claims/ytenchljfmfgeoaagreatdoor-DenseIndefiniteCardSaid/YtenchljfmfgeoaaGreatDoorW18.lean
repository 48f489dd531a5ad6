/-
 My texts.
-/
import Derived.Test.YtenchljfmfgeoaaGreatDoorW17
set_option maxRecDepth 100000
set_option maxHeartbeats 8000000
namespace Go.Proofs.YtenchljfmfgeoaaGreatDoor
open Go.RowKit Tryz
def eC (n:Nat) (xs:List Nat) (m:Nat):Prop:=Dig 1000000000 xs∧n=val 1000000000 xs+1000000000^xs.length*m
theorem eC.start (n:Nat):eC n [] n:=⟨Dig.nil,qS⟩
theorem eC.step {n m:Nat}{xs:qN}(h:eC n xs m):eC n (xs ++ [m%1000000000]) (m/1000000000):=by
 obtain⟨a,b⟩:=h
 refine⟨a.append (Dig.nil.cons (uM _ qO)),?_⟩
 rw[kN,uY,rJ,uN,tZ,uG,← uK,gC,eJ,tR,tD,sB]
 exact b
theorem eC.len {n m C:Nat}{xs:qN}(h:eC n xs m)(b:0<m)(c:n<1000000000^C):xs.length<C:=by
 obtain⟨_,d⟩:=h
 rcases vL xs.length C with a|a
 ·exact a
 have e:1000000000^C≤1000000000^xs.length:=uW qO a
 have f:1000000000^xs.length*1≤1000000000^xs.length*m:=uJ _ b
 generalize 1000000000^xs.length=P at *
 generalize 1000000000^C=Q at *
 omega
theorem ZoR {n C:Nat}(a:n<1000000000^C):ml n≤C:=fV.2 (uS a (rI (by rw[xB];omega) _))
theorem zV.len {w:World}{A:qA}{l c n:Nat}(h:zV w (.slice A l c) n):l=ml n:=by
 obtain⟨f,g,i,a,j,k,b,d,e⟩:=h
 injection a with e1 e2 e3
 rw[e2,kT b d,e]
theorem ZcM (b:Nat):¬ xM none b:=fun c=>by obtain⟨a,ha,_⟩:=c;cases ha
theorem Zql {a:Nat}(h:a<4294967296):(a:Int)%4294967296=(a:Int):=qO
def dive (e:Nat):Nat:=100000000/10^e
theorem Znk:dive 0=100000000:=by simp[dive]
theorem Znl:dive 9=0:=qD
theorem ZdY (e:Nat):dive e/10=dive (e+1):=by unfold dive;rw[sM,uN]
theorem ZkG {e:Nat}(h:e<9):dive e=10^(9-1-e):=by
 have:e=0∨e=1∨e=2∨e=3∨e=4∨e=5∨e=6∨e=7∨e=8:=qO
 rcases this with rfl|rfl|rfl|rfl|rfl|rfl|rfl|rfl|rfl<;>decide
theorem Zqm (e:Nat):dive e≤100000000:=vG _ _
theorem ZoS {e:Nat}(h:e<9):0<dive e:=by rw[ZkG h];exact uU qO
def ZkH (C:Nat) (w wr:World) (n m:Nat) (xs:List Nat) (A:Option Addr) (cap:Nat) (mv:Value):Prop :=
 eC n xs m∧Buf .u32 143 wr A cap xs∧zV wr mv m∧Ext w wr∧ml m≤ml n∧(∀ b,xM A b→w.heap.size≤b)∧xs.length≤C
theorem zV.fr {S:Nat→Prop}{w w':World}{v:Value}{n:Nat}(h:zV w v n)(d:Fr S w w')(e:∀ A l c,v=.slice A l c→0<l→∀ a,A=some a→¬ S a.block):zV w' v n:=by
 obtain⟨A,xs,c,b,f,g,i⟩:=h
 refine⟨A,xs,c,b,f,?_,i⟩
 cases xs with
 | nil=>exact zD.nil
 | cons x xs=>exact g.fr d (fun a j _=>e A _ c b qS a j)
def ZaB (w wr:World) (xs:List Nat) (A:Option Addr) (cap h t:Nat) (A3:Option Addr) (cap3:Nat):Prop :=
 Buf .u32 143 wr A cap xs∧TBuf wr A3 cap3 (wN h)∧(wN h).length=t∧Ext w wr∧(∀ b,xM A b→w.heap.size≤b)∧(∀ b,xM A3 b→w.heap.size≤b)∧(∀ b,xM A b→¬ xM A3 b)
theorem ZiM {w wr w2:World}{xs:qN}{A:qA}{cap h g t c:Nat}{d j:qA}{e cap4:Nat}{o:Obj}(s:ZaB w wr xs A cap h t d e)(l:wN g=wN h ++ [UInt8.ofNat (48+c)])(z:c<10)(u:Buf .u8 5 w2 j cap4 (nats (wN h) ++ [48+c]))(v:Fr (xM d) (wr.alloc o) w2)(m:∀ b,xM j b→xM d b∨b=(wr.alloc o).heap.size):ZaB w w2 xs A cap g (t+1) j cap4:=by
 obtain⟨n,B,x,p,y,q,r⟩:=s
 have f:Fr (xM d) wr w2:=((Fr.refl (xM d) wr).alloc o).trans (v.mono (fun _ _ h=>h))
 refine⟨n.fr f r,?_,by rw[l];simp[x],p.next f (fun i hi a=>by have:=q i a;omega),y,?_,?_⟩
 ·show Buf _ _ _ _ _ (nats (wN g))
  rw[l,Zjt]
  have:nats [UInt8.ofNat (48+c)]=[48+c]:=by
   simp[nats];omega
  rw[this];exact u
 ·intro b a
  rcases m b a with h|h
  ·exact q b h
  have:=p.size;simp at h;omega
 intro b a k
 rcases m b k with h|h
 ·exact r b a h
 have:=n.lt a;simp at h;omega
theorem ZlN (s:Bool)(A0:qA)(l0 c0:Nat)(n:Nat)(w:World)(hN:zV w (.slice A0 l0 c0) n)(h0:0<n)(C:Nat)(hn:n<1000000000^C)(hC:C≤15637498706141) :
 yA 113 #[.agg #[.bool s,.slice A0 l0 c0]] w (RetV w (.string ⟨(Lib.decDigits n).toArray⟩)):=by
 have HN:=zh hN
 have H0:=zh h0
 have Hn:=zh hn
 have o0:Hid (C≤15637498706141):=hC
 have E0:Hid (ml n≤17592186044416):=by have:=ZoR hn;unfold Hid;omega
 have V0:((l0:Int) == 0)=false:=by
  obtain⟨A,o,c,h1,h2,h3,h4,h5,h6⟩:=hN
  injection h1 with e1 e2 e3
  subst e2
  have k1:=kT h4 h5
  rw[h6] at k1
  have k2:=ZfM h0
  simp
  intro e
  rw[e] at k1
  simp at k1
  omega
 clear hN h0 hn hC
 go_enter func113,ntmps113
 go_wp2
 obtain⟨wb,Z⟩:=yE (w.alloc (.cells #[.bool s,.slice A0 l0 c0] 57))
 rw[Z]
 have p0:Hid (Ext w wb):=Z ▸ (Fr.refl _ _).alloc _
 clear Z
 go_loopw [3,4,5,6] (fun pv mv _ _ wr=>∃ (o:List Nat) (m:Nat) (A:Option Addr) (u:Nat) (A1:Option Addr) (l c:Nat),pv=.slice A o.length u∧mv=.slice A1 l c∧Hid (ZkH C w wr n m o A u (.slice A1 l c))) (fun pv _ _ _ _=>match pv with | .slice _ k _=>C-k | _=>0)
 case atStart=>exact⟨[],n,none,0,A0,l0,c0,rfl,rfl,eC.start n,Buf.nil,HN.out.ext p0.out,p0.out,uH _,fun b I=>(ZcM b I).elim,qS⟩
 case round =>
  obtain⟨o,m,A,u,A1,l,c,rfl,rfl,g⟩:=hrel
  have hl:=g.out.2.2.1.len
  by_cases hm:0<m
  ·have G:=g.out.1.len hm Hn.out
   have W0:0<l:=by rw[hl];exact ZfM hm
   have F0:=E0.out
   have G0:=o0.out
   have I0:ml m≤17592186044416:=by have:=g.out.2.2.2.2.1;omega
   have HD:=zh (ZdC _ m 1000000000 wr g.out.2.2.1 I0 qO (by rw[xB];omega))
   obtain⟨k2,ek⟩:=yE C
   rw[ek] at G
   have X0:k2≤15637498706141:=qO
   clear F0 G0
   have hr:=uM m (y:=1000000000) qO
   have T:=zh g.out.1.step
   have q0:ml (m/1000000000)≤ml m:=ZaI (vG _ _)
   have r0:Hid (ml (m/1000000000)≤ml n):=uC q0 g.out.2.2.2.2.1
   obtain⟨r,er⟩:=yE (m%1000000000)
   obtain⟨m2,em⟩:=yE (m/1000000000)
   rw[er] at T
   rw[em] at T r0
   clear hl q0 hr
   go_wp2_with fail
   refine HD.out.mono ?_
   rintro e w1 ⟨l2,c2,rfl,a0,s0⟩
   rw[er]
   rw[em] at a0
   have t0:=zh a0
   have b0:=zh s0
   clear HD a0 s0 er em
   go_wp2_with (at_builtin;refine Hid.out ?_)
   refine zh ?_
   have E:Hid (zD .u32 (w1.alloc (.cells #[.int .u32 (r:Int)] 143)) (some ⟨w1.heap.size,0,none⟩) [r]):=(Own.new w1 143 .u32 [r] []).shows0
   have u0:Hid (Buf .u32 143 w1 A u o):=g.out.2.1.ext b0.out
   refine wY rfl _ _ _ rfl _ .u32 4 underlying55 bW A (some ⟨w1.heap.size,0,none⟩) o.length 1 u 1 rfl rfl o [r] rfl rfl (u0.out.ext ((Fr.refl _ _).alloc _)) E.out (by simp only[maxLen];omega) qO ?_
   intro A2 W w2 v0 d0 w0
   have v:Hid (ZkH C w w2 n m2 (o ++ [r]) A2 W (.slice (some ⟨wr.heap.size,0,none⟩) l2 c2)):=by
    have X:=g.out.2.2.2.2.2.1
    have x0:Ext w w1:=g.out.2.2.2.1.trans b0.out
    refine⟨T.out,v0,(t0.out.ext ((Fr.refl _ _).alloc _)).fr d0 ?_,(x0.alloc _).next d0 (fun i hi I=>by have:=X i I;omega),r0.out,?_,by rw[uY,rJ];omega⟩
    ·intro A' l' F e _ a ha I
     injection e with e1 e2 e3
     rw[←e1] at ha
     injection ha with ha
     subst ha
     have:wr.heap.size<wr.heap.size:=g.out.2.1.lt I
     omega
    intro b I
    rcases w0 b I with h|h
    ·exact X b h
    have:=x0.size;simp at h;omega
   clear v0 d0 w0 E u0 t0 b0 T g
   have J0:=zh ek
   clear ek
   go_wp2
   go_roundw
   case rel=>exact⟨o ++ [r],m2,A2,W,_,l2,c2,by rw[uY];rfl,rfl,v⟩
   case measure =>
    simp
    rw[J0.out]
    omega
  obtain rfl:m=0:=qO
  obtain⟨hC,hB,hM,Q,_,hA,K0⟩:=g.out
  have U0:o.length≤15637498706141:=by have:=o0.out;omega
  obtain rfl:l=0:=by rw[hl];rfl
  have HC:Hid (Dig 1000000000 o∧n=val 1000000000 o):=by
   obtain⟨c1,c2⟩:=hC
   exact⟨c1,by simpa using c2⟩
  have HB:=zh hB
  have HE:=zh Q
  have HA:=zh hA
  clear hC hB hM Q hA g hl hm K0
  go_wp2
  obtain⟨wo,rfl⟩:∃ wo:World,wo=wr:=⟨_,rfl⟩
  go_loopw [7,8,9,10] (fun ov iv _ _ wr=>∃ (k t:Nat) (B:Option Addr) (d:Nat),k≤o.length∧iv=.int .i64 ((k:Int)-1)∧ov=.slice B t d∧t≤9*(o.length-k)∧Hid (ZaB w wr o A u (val 1000000000 (o.drop k)) t B d)) (fun _ iv _ _ _=>(intOf iv+1).toNat)
  case atStart=>exact⟨o.length,0,none,0,uH _,rfl,rfl,qO,HB.out,by rw[List.drop_length];exact Buf.nil,by rw[List.drop_length];rfl,HE.out,HA.out,fun b I=>(ZcM b I).elim,fun b _ I=>ZcM b I⟩
  case round =>
   obtain⟨k,t,B,d,hk,rfl,rfl,ht,g⟩:=hrel
   by_cases Y0:0<k
   ·obtain⟨k,rfl⟩:∃ j,k=j+1:=⟨k-1,qO⟩
    have hi:((k+1:Nat):Int)-1=(k:Int):=qO
    rw[hi]
    clear hi
    have y0:k<o.length:=qO
    obtain⟨p,ep⟩:=yE (o[k]?.getD 0)
    have hp:p<1000000000:=ep ▸ HC.out.1.getD qO k
    obtain⟨H,eH⟩:=yE (val 1000000000 (o.drop (k+1)))
    have e0:Hid (topE H p 9 9=val 1000000000 (o.drop k)):=by
     unfold Hid
     rw[Zoa,xT k y0,ep,eH,uF]
     omega
    have HP:=zh ep
    rw[eH] at g
    have z0:Hid (ZaB w wr o A u (topE H p 9 0) t B d):=by rw[Zld qO];exact g
    have L0:((100000000:Nat):Int)=((dive 0:Nat):Int):=by rw[Znk]
    clear ep eH g
    go_wp2
    obtain⟨Z0,rfl⟩:∃ wo:World,wo=wr:=⟨_,rfl⟩
    obtain⟨T0,eT⟩:=yE (9*(o.length-(k+1)))
    rw[eT] at ht
    go_loopw [7,9,10] (fun ov dv _ wr=>∃ (e t:Nat) (B:Option Addr) (d:Nat),e≤9∧dv=.int .u32 (dive e:Nat)∧ov=.slice B t d∧t≤T0+e∧Hid (ZaB w wr o A u (topE H p 9 e) t B d)) (fun _ dv _ _=>(intOf dv).toNat)
    case atStart=>exact⟨0,t,B,d,qO,by rw[←L0];rfl,rfl,qO,z0⟩
    case round =>
     clear ht z0
     obtain⟨e,t,B,d,he,rfl,rfl,ht,g⟩:=hrel
     by_cases f0:e<9
     ·have M0:=ZoS f0
      have N0:=Zqm e
      have a1:T0≤140737488355260:=qO
      obtain⟨b2,J,hA,_,O0⟩:=g.out.1.shows.at y0
      rw[HP.out] at O0
      have f:=zh (Zmm (H:=H) (p:=p) (k:=9) f0)
      rw[←ZkG f0] at f
      have x:p/dive e%10<10:=uM _ qO
      have q1:(p:Int).tdiv (dive e:Int)=((p/dive e:Nat):Int):=by rw[sY qO];rfl
      have B0:(p:Int)/(dive e:Int)=((p/dive e:Nat):Int):=rfl
      have q2:((p/dive e:Nat):Int).tmod 10=((p/dive e%10:Nat):Int):=by rw[sD (Int.natCast_nonneg _)];rfl
      have g0:((p/dive e:Nat):Int)%10=((p/dive e%10:Nat):Int):=rfl
      have i0:p/dive e≤p:=vG _ _
      have q3:((p/dive e:Nat):Int)%4294967296=((p/dive e:Nat):Int):=Zql (vE i0 qO)
      have q5:(dive e:Int).tdiv 10=((dive (e+1):Nat):Int):=by rw[sY qO,← ZdY];rfl
      have C0:(dive e:Int)/10=((dive (e+1):Nat):Int):=by rw[←ZdY];rfl
      have K:dive (e+1)<dive e:=by rw[←ZdY];omega
      have q6:((dive (e+1):Nat):Int)%4294967296=((dive (e+1):Nat):Int):=qO
      obtain⟨D,eD⟩:=yE (dive e)
      obtain⟨D2,j0⟩:=yE (dive (e+1))
      have k0:=zh j0
      rw[eD] at M0 N0 f x q1 B0 q2 g0 i0 q3 q5 C0 K ⊢
      rw[j0] at q5 C0 K q6
      obtain⟨q,eq⟩:=yE (p/D)
      rw[eq] at q1 B0 q2 g0 f x q3 i0
      obtain⟨F,ec⟩:=yE (q%10)
      rw[ec] at q2 g0 f x
      have G:(0<t)↔0<topE H p 9 e:=by rw[←g.out.2.2.1];exact Zju
      have q7:((48:Int)+(F:Int))%4294967296=((48+F:Nat):Int):=qO
      have q8:((48+F:Nat):Int)%256=((48+F:Nat):Int):=qO
      subst hA
      clear eD j0 eq ec
      by_cases m0:0<t∨F≠0
      ·have L:=g.out.2.2.1
       have M:=zh (ZaX (h:=topE H p 9 e) x qO)
       rw[←f.out] at M
       have E:Hid (zD .u8 (wr.alloc (.cells #[.int .u8 (48+(F:Int))] 5)) (some ⟨wr.heap.size,0,none⟩) [48+F]):=(Own.new wr 5 .u8 [48+F] []).shows0
       have U:Hid (TBuf wr B d (wN (topE H p 9 e))):=g.out.2.1
       have Y:(decide (0<t) || ((48+F:Nat):Int) != 48)=true:=by
        rcases m0 with h|h
        ·simp[h]
        have:(((48+F:Nat):Int) != 48)=true:=by simp;omega
        rw[this,Bool.or_true]
       have N:=zh L
       have V:=zh g.out
       clear G L f g
       by_cases b1:0<t
       ·clear m0 Y
        go_wp2_with (at_builtin;refine Hid.out ?_)
        refine zh ?_
        refine wY rfl _ _ _ rfl _ .u8 1 underlying191 Zpp B (some ⟨wr.heap.size,0,none⟩) t 1 d 1 rfl rfl (nats (wN (topE H p 9 e))) [48+F] (by rw[ZbL];exact N.out) rfl (U.out.ext ((Fr.refl _ _).alloc _)) E.out (by simp only[maxLen];omega) qO ?_
        intro A4 z w2 O R S
        have v:Hid (ZaB w w2 o (some ⟨b2,J,none⟩) u (topE H p 9 (e+1)) (t+1) A4 z):=ZiM V.out M.out x O R S
        clear O R S E U V M
        go_wp2
        go_roundw
        case rel=>exact⟨e+1,t+1,A4,z,qO,by rw[k0.out],rfl,qO,v⟩
        case measure=>simp[intOf];omega
       have d1:(((48+F:Nat):Int) != 48)=true:=by simp;omega
       clear m0 Y
       go_wp2_with (at_builtin;refine Hid.out ?_)
       refine zh ?_
       refine wY rfl _ _ _ rfl _ .u8 1 underlying191 Zpp B (some ⟨wr.heap.size,0,none⟩) t 1 d 1 rfl rfl (nats (wN (topE H p 9 e))) [48+F] (by rw[ZbL];exact N.out) rfl (U.out.ext ((Fr.refl _ _).alloc _)) E.out (by simp only[maxLen];omega) qO ?_
       intro A4 z w2 O R S
       have v:Hid (ZaB w w2 o (some ⟨b2,J,none⟩) u (topE H p 9 (e+1)) (t+1) A4 z):=ZiM V.out M.out x O R S
       clear O R S E U V M
       go_wp2
       go_roundw
       case rel=>exact⟨e+1,t+1,A4,z,qO,by rw[k0.out],rfl,qO,v⟩
       case measure=>simp[intOf];omega
      obtain rfl:t=0:=qO
      obtain rfl:F=0:=qO
      have v:Hid (ZaB w wr o (some ⟨b2,J,none⟩) u (topE H p 9 (e+1)) 0 B d):=by
       have h0:topE H p 9 e=0:=qO
       unfold Hid
       rw[f.out,h0]
       have:=g.out
       rw[h0] at this
       exact this
      clear g G f
      go_wp2
      go_roundw
      case rel=>exact⟨e+1,0,B,d,qO,by rw[k0.out],rfl,qO,v⟩
      case measure=>simp[intOf];omega
     obtain rfl:e=9:=qO
     have P0:Hid (ZaB w wr o A u (val 1000000000 (o.drop k)) t B d):=by
      rw[←e0.out];exact g
     have Q0:t≤9*(o.length-k):=qO
     rw[Znl]
     clear g
     go_wp2
     go_roundw
     case rel=>exact⟨k,t,B,d,qO,by go_num,rfl,Q0,P0⟩
     case measure=>simp[intOf]
   obtain rfl:k=0:=qO
   obtain⟨_,n0,_,D0,_,_,_⟩:=g.out
   rw[tW,← HC.out.2,jG H0.out] at n0
   have K:(Lib.decDigits n).length=t:=by
    have:=g.out.2.2.1
    rwa [tW,← HC.out.2,jG H0.out] at this
   obtain⟨b,rfl,hc⟩:=TBuf.bytes n0 (kE n)
   have R0:=run_convert_bytes_back (P:=prog) wr 191 9 5 ⟨b,0,none⟩ d (Lib.decDigits n) underlying191 underlying5 underlying9 hc
   rw[K] at R0
   have S0:=zh D0
   generalize Lib.decDigits n=txt at *
   clear n0 D0 hc g K
   go_wp2
   go_ret
   exact⟨rfl,S0.out⟩
theorem ZjY (s:Bool)(b:qA)(c0:Nat)(w:World) :
 yA 113 #[.agg #[.bool s,.slice b 0 c0]] w (RetV w (.string ⟨(Lib.decDigits 0).toArray⟩)):=by
 have a:Lib.decDigits 0=[48]:=Lib.decDigits_one qO
 have c:=zh a
 clear a
 go_enter func113,ntmps113
 go_wp2
 go_ret
 exact⟨by rw[c.out];rfl,(Fr.refl _ _).alloc _⟩
theorem ZjZ (s:Bool)(a:qA)(b c0:Nat)(n:Nat)(w:World)(c:zV w (.slice a b c0) n)(C:Nat)(e:n<1000000000^C)(f:C≤15637498706141) :
 yA 113 #[.agg #[.bool s,.slice a b c0]] w (RetV w (.string ⟨(Lib.decDigits n).toArray⟩)):=by
 rcases uI n with h|h
 ·subst h
  have d:=c.len
  rw[Zgw] at d
  subst d
  exact ZjY s a c0 w
 exact ZlN s a b c0 n w c h C e f
theorem Zcb (a b:List UInt8):(⟨a.toArray⟩:ByteArray) ++ ⟨b.toArray⟩=⟨(a ++ b).toArray⟩:=by
 apply ByteArray.ext
 simp
theorem ZaO {n j:Nat}(h:n<10^j∧j≤140737488355000):(Lib.decDigits n).length≤140737488355000:=by
 rcases uI n with e|e
 ·rw[e,Lib.decDigits_one qO];simp
 have:=Zle _ _ h.1
 rw[jG e] at this
 omega
theorem dL (s:Bool)(a:qA)(b c0:Nat)(n:Nat)(w:World)(c:zV w (.slice a b c0) n){j:Nat}(h:n<10^j∧j≤140737488355000) :
 yA 113 #[.agg #[.bool s,.slice a b c0]] w (RetV w (.string ⟨(Lib.decDigits n).toArray⟩)):=by
 refine ZjZ s a b c0 n w c ((j+8)/9) ?_ (by have:=h.2;omega)
 refine uS h.1 ?_
 rw[show (1000000000:Nat)=10^9 by decide,← qR]
 exact uW qO qO
theorem ZiN {n k:Nat}(h:ml n≤k):n<10^(10*k):=by
 refine uS (ZfL n) (uC (uW zX h) ?_)
 rw[qR]
 exact rI (by rw[xB];decide) _
theorem ZhL (a:Value)(q:Rat)(w:World)(ha:zU w a q)(j k:Nat)(B:q.num.natAbs<10^j∧j≤140737488355000)(_:q.den<10^k∧k≤140737488355000)(x:q.num<0)(y:q.den=1) :
 yA 66 #[a] w (RetV w (.string ⟨(xK q).toArray⟩)):=by
 obtain⟨C,t,u,v,t1,H,D,I,rfl⟩:=ha.shp
 have F2:Hid (zU w (.agg #[.bool C,.slice t u v,.bool t1,.slice H D I]) (q)):=ha
 clear ha
 obtain rfl:C=true:=F2.out.num.sneg x
 have E:Hid (q.num.natAbs<10^j∧j≤140737488355000):=B
 obtain rfl:D=0:=F2.out.den.len0 (jC y)
 have F:Hid (xK q=45 :: Lib.decDigits q.num.natAbs):=by unfold Hid xK Lib.itoa;rw[uQ y,uQ x]
 obtain⟨J,g⟩:=yE (xK q)
 rw[g] at F ⊢
 clear x y B g
 go_enter func66,ntmps66
 go_wp2_with fail
 generalize h:World.alloc w _=w4
 obtain⟨c,d⟩:=fP h
 clear h
 have B3:=zh c
 clear c
 replace F2:=zh (F2.out.ext d)
 have HE:=zh d
 clear d
 have F5:Hid (zZ w4 (.agg #[.bool true,.slice t u v]) ((q).num)):=F2.out.num
 have F8:Hid (zV w4 (.slice t u v) (((q).num).natAbs)):=F5.out.mag
 refine (dL true t u v _ _ F8.out E.out).mono ?_
 obtain⟨G,b⟩:=yE (Lib.decDigits (((q).num).natAbs))
 rw[b];have z:G.length≤140737488355000:=by rw[←b];exact ZaO E.out
 have A:=zh b;clear b
 rintro e K ⟨rfl,f⟩
 replace B3:=zh (B3.out.ext f)
 replace F2:=zh (F2.out.ext f)
 replace F5:=zh (F5.out.ext f)
 replace F8:=zh (F8.out.ext f)
 replace HE:=zh (HE.out.trans f)
 clear f
 obtain⟨i,l,m,n,o,p,r,s⟩:=B3.out.cell4
 go_wp2
 clear i l m n o p r s
 go_ret
 refine⟨?_,HE.out⟩
 rw[F.out,A.out]
 show Ending.returned (.string ((⟨#[45]⟩:ByteArray) ++ ⟨G.toArray⟩))=_
 simp only[Zcb]
 rfl
theorem ZhM (a:Value)(q:Rat)(w:World)(ha:zU w a q)(j k:Nat)(N:q.num.natAbs<10^j∧j≤140737488355000)(O:q.den<10^k∧k≤140737488355000)(P:q.num<0)(s:¬ q.den=1) :
 yA 66 #[a] w (RetV w (.string ⟨(xK q).toArray⟩)):=by
 obtain⟨Q,F,G,H,t1,I,m1,J,rfl⟩:=ha.shp
 have F2:Hid (zU w (.agg #[.bool Q,.slice F G H,.bool t1,.slice I m1 J]) (q)):=ha
 clear ha
 obtain rfl:Q=true:=F2.out.num.sneg P
 have R:Hid (q.num.natAbs<10^j∧j≤140737488355000):=N
 have Y:0<m1:=F2.out.den.lenp (aK s)
 have W:decide ((0:Int)<(m1:Int))=true:=by rw[tF];omega
 have S:Hid ((denF q).natAbs<10^k∧k≤140737488355000):=by unfold Hid;rw[fH s,sZ];exact O
 have T:Hid (xK q=(45 :: Lib.decDigits q.num.natAbs) ++ (47 :: Lib.decDigits (denF q).natAbs)):=by
  unfold Hid xK
  rw[uL s,fH s,sZ,Lib.itoa_nonneg]
  unfold Lib.itoa
  rw[uQ (show q.num<0 by omega)]
  simp
 obtain⟨Z,t⟩:=yE (xK q)
 rw[t] at T ⊢
 clear P s N O t
 go_enter func66,ntmps66
 go_wp2_with fail
 generalize u:World.alloc w _=w4
 obtain⟨f,g⟩:=fP u
 clear u
 have B3:=zh f
 clear f
 replace F2:=zh (F2.out.ext g)
 have HE:=zh g
 clear g
 have F5:Hid (zZ w4 (.agg #[.bool true,.slice F G H]) ((q).num)):=F2.out.num
 have F8:Hid (zV w4 (.slice F G H) (((q).num).natAbs)):=F5.out.mag
 refine (dL true F G H _ _ F8.out R.out).mono ?_
 obtain⟨U,d⟩:=yE (Lib.decDigits (((q).num).natAbs))
 rw[d];have L:U.length≤140737488355000:=by rw[←d];exact ZaO R.out
 have M:=zh d;clear d
 rintro e V ⟨rfl,b⟩
 replace B3:=zh (B3.out.ext b)
 replace F2:=zh (F2.out.ext b)
 replace F5:=zh (F5.out.ext b)
 replace F8:=zh (F8.out.ext b)
 replace HE:=zh (HE.out.trans b)
 clear b
 obtain⟨v,x,y,z,A,B,C,D⟩:=B3.out.cell4
 go_wp2_with fail
 clear v x y z A B C D
 have F10:Hid (zZ V (.agg #[.bool t1,.slice I m1 J]) (denF (q))):=F2.out.den
 have F13:Hid (zV V (.slice I m1 J) ((denF (q)).natAbs)):=F10.out.mag
 refine (dL t1 I m1 J _ _ F13.out S.out).mono ?_
 obtain⟨t12,c⟩:=yE (Lib.decDigits ((denF (q)).natAbs))
 rw[c];have K:t12.length≤140737488355000:=by rw[←c];exact ZaO S.out
 have E:=zh c;clear c
 rintro e X ⟨rfl,b⟩
 replace B3:=zh (B3.out.ext b)
 replace F2:=zh (F2.out.ext b)
 replace F5:=zh (F5.out.ext b)
 replace F8:=zh (F8.out.ext b)
 replace F10:=zh (F10.out.ext b)
 replace F13:=zh (F13.out.ext b)
 replace HE:=zh (HE.out.trans b)
 clear b
 obtain⟨h,i,l,m,n,o,p,r⟩:=B3.out.cell4
 go_wp2
 clear h i l m n o p r
 go_ret
 refine⟨?_,HE.out⟩
 rw[T.out,M.out,E.out]
 show Ending.returned (.string (((⟨#[45]⟩:ByteArray) ++ ⟨U.toArray⟩) ++ ((⟨#[47]⟩:ByteArray) ++ ⟨t12.toArray⟩)))=_
 simp only[Zcb]
 rfl
theorem ZhN (a:Value)(q:Rat)(w:World)(ha:zU w a q)(j k:Nat)(A:q.num.natAbs<10^j∧j≤140737488355000)(_:q.den<10^k∧k≤140737488355000)(B:0≤q.num)(x:q.den=1) :
 yA 66 #[a] w (RetV w (.string ⟨(xK q).toArray⟩)):=by
 obtain⟨C,t,u,v,t1,H,D,I,rfl⟩:=ha.shp
 have F2:Hid (zU w (.agg #[.bool C,.slice t u v,.bool t1,.slice H D I]) (q)):=ha
 clear ha
 obtain rfl:C=false:=F2.out.num.spos B
 have E:Hid (q.num.natAbs<10^j∧j≤140737488355000):=A
 obtain rfl:D=0:=F2.out.den.len0 (jC x)
 have F:Hid (xK q=Lib.decDigits q.num.natAbs):=by unfold Hid xK Lib.itoa;rw[uQ x,uL (show ¬ q.num<0 by omega)];rw[show q.num.toNat=q.num.natAbs by omega]
 obtain⟨J,g⟩:=yE (xK q)
 rw[g] at F ⊢
 clear B x A g
 go_enter func66,ntmps66
 go_wp2_with fail
 generalize h:World.alloc w _=w4
 obtain⟨c,d⟩:=fP h
 clear h
 have B3:=zh c
 clear c
 replace F2:=zh (F2.out.ext d)
 have HE:=zh d
 clear d
 have F5:Hid (zZ w4 (.agg #[.bool false,.slice t u v]) ((q).num)):=F2.out.num
 have F8:Hid (zV w4 (.slice t u v) (((q).num).natAbs)):=F5.out.mag
 refine (dL false t u v _ _ F8.out E.out).mono ?_
 obtain⟨G,b⟩:=yE (Lib.decDigits (((q).num).natAbs))
 rw[b];have y:G.length≤140737488355000:=by rw[←b];exact ZaO E.out
 have z:=zh b;clear b
 rintro e K ⟨rfl,f⟩
 replace B3:=zh (B3.out.ext f)
 replace F2:=zh (F2.out.ext f)
 replace F5:=zh (F5.out.ext f)
 replace F8:=zh (F8.out.ext f)
 replace HE:=zh (HE.out.trans f)
 clear f
 obtain⟨i,l,m,n,o,p,r,s⟩:=B3.out.cell4
 go_wp2
 clear i l m n o p r s
 go_ret
 refine⟨?_,HE.out⟩
 rw[F.out,z.out]
 show Ending.returned (.string (⟨G.toArray⟩:ByteArray))=_
 rfl
theorem ZhO (a:Value)(q:Rat)(w:World)(ha:zU w a q)(j k:Nat)(N:q.num.natAbs<10^j∧j≤140737488355000)(O:q.den<10^k∧k≤140737488355000)(P:0≤q.num)(s:¬ q.den=1) :
 yA 66 #[a] w (RetV w (.string ⟨(xK q).toArray⟩)):=by
 obtain⟨Q,F,G,H,t1,I,m1,J,rfl⟩:=ha.shp
 have F2:Hid (zU w (.agg #[.bool Q,.slice F G H,.bool t1,.slice I m1 J]) (q)):=ha
 clear ha
 obtain rfl:Q=false:=F2.out.num.spos P
 have R:Hid (q.num.natAbs<10^j∧j≤140737488355000):=N
 have Y:0<m1:=F2.out.den.lenp (aK s)
 have W:decide ((0:Int)<(m1:Int))=true:=by rw[tF];omega
 have S:Hid ((denF q).natAbs<10^k∧k≤140737488355000):=by unfold Hid;rw[fH s,sZ];exact O
 have T:Hid (xK q=(Lib.decDigits q.num.natAbs) ++ (47 :: Lib.decDigits (denF q).natAbs)):=by
  unfold Hid xK
  rw[uL s,fH s,sZ,Lib.itoa_nonneg]
  unfold Lib.itoa
  rw[uL (show ¬ q.num<0 by omega)]
  rw[show q.num.toNat=q.num.natAbs by omega]
  simp
 obtain⟨Z,t⟩:=yE (xK q)
 rw[t] at T ⊢
 clear P s N O t
 go_enter func66,ntmps66
 go_wp2_with fail
 generalize u:World.alloc w _=w4
 obtain⟨f,g⟩:=fP u
 clear u
 have B3:=zh f
 clear f
 replace F2:=zh (F2.out.ext g)
 have HE:=zh g
 clear g
 have F5:Hid (zZ w4 (.agg #[.bool false,.slice F G H]) ((q).num)):=F2.out.num
 have F8:Hid (zV w4 (.slice F G H) (((q).num).natAbs)):=F5.out.mag
 refine (dL false F G H _ _ F8.out R.out).mono ?_
 obtain⟨U,d⟩:=yE (Lib.decDigits (((q).num).natAbs))
 rw[d];have L:U.length≤140737488355000:=by rw[←d];exact ZaO R.out
 have M:=zh d;clear d
 rintro e V ⟨rfl,b⟩
 replace B3:=zh (B3.out.ext b)
 replace F2:=zh (F2.out.ext b)
 replace F5:=zh (F5.out.ext b)
 replace F8:=zh (F8.out.ext b)
 replace HE:=zh (HE.out.trans b)
 clear b
 obtain⟨v,x,y,z,A,B,C,D⟩:=B3.out.cell4
 go_wp2_with fail
 clear v x y z A B C D
 have F10:Hid (zZ V (.agg #[.bool t1,.slice I m1 J]) (denF (q))):=F2.out.den
 have F13:Hid (zV V (.slice I m1 J) ((denF (q)).natAbs)):=F10.out.mag
 refine (dL t1 I m1 J _ _ F13.out S.out).mono ?_
 obtain⟨t12,c⟩:=yE (Lib.decDigits ((denF (q)).natAbs))
 rw[c];have K:t12.length≤140737488355000:=by rw[←c];exact ZaO S.out
 have E:=zh c;clear c
 rintro e X ⟨rfl,b⟩
 replace B3:=zh (B3.out.ext b)
 replace F2:=zh (F2.out.ext b)
 replace F5:=zh (F5.out.ext b)
 replace F8:=zh (F8.out.ext b)
 replace F10:=zh (F10.out.ext b)
 replace F13:=zh (F13.out.ext b)
 replace HE:=zh (HE.out.trans b)
 clear b
 obtain⟨h,i,l,m,n,o,p,r⟩:=B3.out.cell4
 go_wp2
 clear h i l m n o p r
 go_ret
 refine⟨?_,HE.out⟩
 rw[T.out,M.out,E.out]
 show Ending.returned (.string ((⟨U.toArray⟩:ByteArray) ++ ((⟨#[47]⟩:ByteArray) ++ ⟨t12.toArray⟩)))=_
 simp only[Zcb]
 rfl
theorem ZlO (a:Value)(q:Rat)(w:World)(ha:zU w a q)(j k:Nat)(c:q.num.natAbs<10^j∧j≤140737488355000)(d:q.den<10^k∧k≤140737488355000):yA 66 #[a] w (RetV w (.string ⟨(xK q).toArray⟩)):=by
 by_cases e:q.num<0
 ·by_cases b:q.den=1
  ·exact ZhL a q w ha j k c d e b
  exact ZhM a q w ha j k c d e b
 by_cases b:q.den=1
 ·exact ZhN a q w ha j k c d qO b
 exact ZhO a q w ha j k c d qO b
theorem Znm (a:Value)(q:Rat)(w:World)(ha:zU w a q)(b:ml q.num.natAbs≤65536)(c:ml q.den≤65536):yA 66 #[a] w (RetV w (.string ⟨(xK q).toArray⟩)) :=
 ZlO a q w ha _ _ ⟨ZiN b,qO⟩ ⟨ZiN c,qO⟩
theorem Zga {n k:Nat}(h:n<10^k):ml n≤k:=fV.2 (uS h (rI (by rw[xB];omega) _))
def lF (c:UInt8):Bool:=c != 47
theorem ZdZ {l:List UInt8}(h:l.all xD=true):l.all lF=true:=by
 rw[vF] at *
 intro x a
 have:=h x a
 unfold lF
 simp
 rintro rfl
 exact absurd this qD
theorem Znn {t:ByteArray}{p:Nat}(a:p=((bytes t).takeWhile lF).length):bytes (t.extract 0 p)=(bytes t).takeWhile lF∧bytes (t.extract (p+1) t.size)=(bytes t).drop (p+1):=by
 rw[kZ,kZ]
 refine⟨?_,?_⟩
 ·rw[tW,Nat.sub_zero,a]
  have:=List.takeWhile_prefix lF (l:=bytes t)
  exact (List.prefix_iff_eq_take.1 this).symm
 rw[uA (by rw[tN,zW];exact uH _)]
theorem ZoT {s:ByteArray}(h:¬ bytes s=[]):∃ c,(bytes s).head? = some c∧s[0]? = some c:=by
 obtain⟨a,_⟩:=aJ h
 exact⟨s[0],Zak a,by simp[a]⟩
theorem ZoU {s:ByteArray}(h:¬ bytes s=[]):1≤s.size:=(aJ h).1
theorem ZbP:∀ l:List UInt8,Lib.indexByte l 47=if (l.takeWhile lF).length<l.length then ((l.takeWhile lF).length:Int) else -1
 | []=>by simp[Lib.indexByte]
 | b :: l=>by
  have e:=ZbP l
  unfold Lib.indexByte
  by_cases a:b=47
  ·subst a;simp[lF]
  have f:(b == (47:UInt8))=false:=by simpa using a
  have g:lF b=true:=by simp[lF,a]
  rw[f,e]
  simp only[oC,g,sL,if_true,pD,if_false]
  generalize (l.takeWhile lF).length=k
  generalize l.length=n
  by_cases d:k<n
  ·have c:k+1<n+1:=qO
   have h:((k:Int) == -1)=false:=qS
   rw[uQ c,uQ d]
   simp only[h,pD,if_false]
   omega
  have c:¬ k+1<n+1:=qO
  rw[uL c,uL d]
  rfl
theorem Zru {s:ByteArray}(h:bytes s=[47]):(0:Int)=Lib.indexByte (bytes s) 47:=by rw[h];rfl
theorem Zqn {s:ByteArray}(h:bytes s=[47]):((⟨#[47]⟩:ByteArray).toList == s.toList)=true:=by
 rw[Lib.toList_data,Lib.toList_data,show s.data.toList=[47] from h];rfl
theorem Zqo {s:ByteArray}(h:¬ bytes s=[47]):((⟨#[47]⟩:ByteArray).toList == s.toList)=false:=by
 rw[Lib.toList_data,Lib.toList_data];exact qB.2 (fun e=>h e.symm)
theorem Zqp {p:Nat}(h:p≤1000000):IntKind.i64.wrap (((p:Nat):Int)+((⟨#[47]⟩:ByteArray).size:Int))=((p+1:Nat):Int):=by
 rw[show (((⟨#[47]⟩:ByteArray).size:Nat):Int)=1 from rfl,IntKind.wrap_i64];omega
theorem ZkI (z:Int):(Lib.itoa z).all lF=true:=by
 rcases nF z 0 with h|h
 ·rw[ZcK h,pH,ZdZ (gS _)];rfl
 rw[show z=((z.toNat:Nat):Int) by omega,fI];exact ZdZ (gS _)
theorem Zhs {l:List UInt8}{q:Rat}(h:wX l=some q)(a:q.den=1):l=Lib.itoa q.num∧l.length≤(l.takeWhile lF).length:=by
 have b:xK q=l:=bZ h
 have e:l=Lib.itoa q.num:=by rw[←b];unfold xK;rw[uQ a]
 refine⟨e,?_⟩
 have:=ZkI q.num
 rw[←e] at this
 rw[(cG this).1]
 exact uH _
theorem Zno {l:List UInt8}{q:Rat}(h:wX l=some q)(b:¬ q.den=1):l.takeWhile lF=Lib.itoa q.num∧l.drop ((l.takeWhile lF).length+1)=Lib.itoa (q.den:Int)∧(l.takeWhile lF).length<l.length:=by
 have d:xK q=l:=bZ h
 have e:l=Lib.itoa q.num ++ 47 :: Lib.itoa (q.den:Int):=by rw[←d];unfold xK;rw[uL b];simp
 obtain⟨a,f⟩:=Zca (p:=lF) (r:=Lib.itoa (q.den:Int)) (c:=47) (ZkI q.num) qD
 rw[←e] at a f
 refine⟨a,?_,?_⟩
 ·rw[a,e,← vU,List.drop_left];rfl
 rw[a,e];simp
theorem ZlP:Ending.returned (.tuple #[.string ⟨#[48]⟩,.string ⟨#[49]⟩])=Ending.returned (.tuple #[.string ⟨(Lib.itoa (0:Rat).num).toArray⟩,.string ⟨(Lib.itoa ((0:Rat).den:Int)).toArray⟩]):=by
 rw[show (0:Rat).num=((0:Nat):Int) from rfl,show ((0:Rat).den:Int)=((1:Nat):Int) from rfl,aN qD,aN qD];rfl
theorem Zj0 (s:ByteArray):Ending.returned (.tuple #[.string s,.string ⟨#[49]⟩])=Ending.returned (.tuple #[.string ⟨(bytes s).toArray⟩,.string ⟨(Lib.itoa ((1:Nat):Int)).toArray⟩]):=by
 rw[aN qD];rfl
theorem Znp (s:ByteArray)(w:World):yA 245 #[.string s,.int .u8 (((47:UInt8).toNat:Nat):Int)] w (RetV w (.int .i64 (Lib.indexByte (bytes s) 47))):=by
 refine (Tryz.stringslite_IndexByte s (((47:UInt8).toNat:Nat):Int) w).mono ?_
 rintro e w' ⟨rfl,rfl⟩
 exact⟨rfl,Fr.refl _ _⟩
theorem Zcc (s:ByteArray)(w:World) :
 yA 219 #[.string s,.string ⟨#[47]⟩] w (RetV w (.int .i64 (Lib.indexByte (bytes s) 47))):=by
 refine zQ (Φ:=fun w=>True) func219 rfl qK (fun w' d=>trivial) ?_
 refine yY (xr 1 [yT 0 s,yT 1 ⟨#[47]⟩,yJ 4 0] [] ?_)
 refine yZ (yY (xr 2 [yT 0 s,yT 1 ⟨#[47]⟩,yJ 4 0,yJ 15 ((⟨#[47]⟩:ByteArray).size:Int)] [] ?_))
 rw[(show (((⟨#[47]⟩:ByteArray).size:Nat):Int)=1 from rfl)]
 refine xr 1 [yT 0 s,yT 1 ⟨#[47]⟩,yJ 4 0,yJ 5 1] [] ?_
 refine yZ (zC (zP (zC ?_)))
 by_cases a:bytes s=[47]
 ·refine zB (xr 6 [yT 0 s,yT 1 ⟨#[47]⟩,yJ 4 0,yJ 5 1,yB 19 false,yB 22 ((⟨#[47]⟩:ByteArray).toList == (s:ByteArray).toList)] [] ?_)
  rw[Zqn a]
  refine xr 2 [yT 0 s,yT 1 ⟨#[47]⟩,yJ 4 0,yJ 5 1,yB 16 true] [] ?_
  refine yZ (xa (yY (xr 1 [yT 0 s,yT 1 ⟨#[47]⟩,yJ 4 0,yJ 5 1] [] ?_)))
  refine yZ (zG (wO (zM ?_)))
  refine yR (yI 0) fun w' R Q=>?_
  exact⟨by rw[←Zru a],R⟩
 refine zB (xr 6 [yT 0 s,yT 1 ⟨#[47]⟩,yJ 4 0,yJ 5 1,yB 19 false,yB 22 ((⟨#[47]⟩:ByteArray).toList == (s:ByteArray).toList)] [] ?_)
 rw[Zqo a]
 refine xr 2 [yT 0 s,yT 1 ⟨#[47]⟩,yJ 4 0,yJ 5 1,yB 16 false] [] ?_
 refine yZ (xb (yY (xr 3 [yT 0 s,yT 1 ⟨#[47]⟩,yJ 4 0,yJ 5 1,yB 24 true] [] ?_)))
 refine yZ (xa (yY (xr 2 [yT 0 s,yT 1 ⟨#[47]⟩,yJ 4 0,yJ 5 1,yT 27 s,yT 28 ⟨#[47]⟩] [] ?_)))
 refine yK 29 (.int .u8 (((47:UInt8).toNat:Nat):Int)) (fun w R Q=>cC (c:=47) (b:=⟨#[47]⟩) (t:=9) (x:=.tmp 28) (k:=0) (i:=.const (yI 0)) qK qK qK (by rfl) (by rfl)) ?_
 refine xr 0 [yT 0 s,yT 1 ⟨#[47]⟩,yJ 4 0,yJ 5 1,yT 27 s,(29,.v (.int .u8 (((47:UInt8).toNat:Nat):Int)))] [] ?_
 refine xc 245 [.string s,.int .u8 (((47:UInt8).toNat:Nat):Int)] 30 (fun _:Unit=>yI (Lib.indexByte (bytes s) 47)) _ (fun w R Q=>yN (Znp s _)) fun e=>?_
 refine xr 1 [yT 0 s,yT 1 ⟨#[47]⟩,yJ 4 (Lib.indexByte (bytes s) 47),yJ 5 1] [] ?_
 refine yZ (zG (wO (zM ?_)))
 refine yR (yI (Lib.indexByte (bytes s) 47)) fun w' R Q=>?_
 exact⟨rfl,R⟩
theorem ZiO (s x y:ByteArray)(p:Nat)(w:World)(f:s.size≤100000)(c:p=((bytes s).takeWhile lF).length)(b:p<s.size)(d:s.extract 0 p=x)(e:s.extract (p+1) s.size=y) :
 yA 193 #[.string s,.string ⟨#[47]⟩] w (RetV w (.tuple #[.string x,.string y,.bool true])):=by
 have a:((bytes s).takeWhile lF).length<(bytes s).length:=by rw[←c,zW];exact b
 refine zQ (Φ:=fun w=>True) func193 rfl qK (fun w' g=>trivial) ?_
 refine yY (xr 3 [yT 0 s,yT 1 ⟨#[47]⟩,yT 4 ⟨#[]⟩,yT 5 ⟨#[]⟩,yB 6 false] [] ?_)
 refine yZ (zC (yY (xr 2 [yT 0 s,yT 1 ⟨#[47]⟩,yT 4 ⟨#[]⟩,yT 5 ⟨#[]⟩,yB 6 false,yT 8 s,yT 9 ⟨#[47]⟩] [] ?_)))
 refine xc 219 [.string s,.string ⟨#[47]⟩] 10 (fun _:Unit=>yI (p:Int)) _ (fun w R Q=>(Zcc s _).mono (fun _ _ h=>zK h (by rw[ZbP,uQ a,← c]))) fun i=>?_
 refine xr 1 [yT 0 s,yT 1 ⟨#[47]⟩,yT 4 ⟨#[]⟩,yT 5 ⟨#[]⟩,yB 6 false,yJ 7 (p:Int)] [] ?_
 refine yZ (yY (xr 2 [yT 0 s,yT 1 ⟨#[47]⟩,yT 4 ⟨#[]⟩,yT 5 ⟨#[]⟩,yB 6 false,yJ 7 (p:Int),yB 12 (decide ((p:Int)≥0))] [] ?_))
 rw[(show decide ((p:Int)≥0)=true from vS qO)]
 refine xr 0 [yT 0 s,yT 1 ⟨#[47]⟩,yT 4 ⟨#[]⟩,yT 5 ⟨#[]⟩,yB 6 false,yJ 7 (p:Int),yB 12 true] [] ?_
 refine yZ (xa (zC ?_))
 refine yO 12 zO ?_
 refine xf 2 [yT 0 s,yT 1 ⟨#[47]⟩,yT 4 ⟨#[]⟩,yT 5 ⟨#[]⟩,yB 6 false,yJ 7 (p:Int),yT 13 s,yJ 14 (p:Int)] [] ?_
 refine ZaH 15 (.string x) qK qK qK qK qK qK (fun w Q=>ZdK 0 p (t:=9) (x:=.tmp 13) (lo:=none) (hi:=(some (Operand.tmp 14))) qK qK qK (Or.inl ⟨rfl,rfl⟩) (Or.inr qK) qO qO d) ?_
 refine xf 5 [yT 0 s,yT 4 ⟨#[]⟩,yT 5 ⟨#[]⟩,yB 6 false,yT 15 x,yT 16 s,yJ 20 (IntKind.i64.wrap ((p:Int)+((⟨#[47]⟩:ByteArray).size:Int)))] [] ?_
 rw[Zqp (p:=p) qO]
 refine ZaH 21 (.string y) qK qK qK qK qK qK (fun w Q=>ZdK (p+1) _ (t:=9) (x:=.tmp 16) (lo:=(some (Operand.tmp 20))) (hi:=none) qK qK qK (Or.inr qK) (Or.inl ⟨rfl,rfl⟩) qO (uH _) e) ?_
 refine xf 3 [yT 0 s,yT 4 x,yT 5 y,yB 6 true] [] ?_
 refine xz (yZ (zG (zM ?_)))
 refine yR (.tuple #[.string x,.string y,.bool true]) fun w' R Q=>?_
 exact⟨rfl,R⟩
theorem Zj1 (s:ByteArray)(w:World)(a:¬ ((bytes s).takeWhile lF).length<(bytes s).length) :
 yA 193 #[.string s,.string ⟨#[47]⟩] w (RetV w (.tuple #[.string s,.string ⟨#[]⟩,.bool false])):=by
 refine zQ (Φ:=fun w=>True) func193 rfl qK (fun w' b=>trivial) ?_
 refine yY (xr 3 [yT 0 s,yT 1 ⟨#[47]⟩,yT 4 ⟨#[]⟩,yT 5 ⟨#[]⟩,yB 6 false] [] ?_)
 refine yZ (zC (yY (xr 2 [yT 0 s,yT 1 ⟨#[47]⟩,yT 4 ⟨#[]⟩,yT 5 ⟨#[]⟩,yB 6 false,yT 8 s,yT 9 ⟨#[47]⟩] [] ?_)))
 refine xc 219 [.string s,.string ⟨#[47]⟩] 10 (fun _:Unit=>yI (-1)) _ (fun w R Q=>(Zcc s _).mono (fun _ _ h=>zK h (by rw[ZbP,uL a]))) fun c=>?_
 refine xr 1 [yT 0 s,yT 1 ⟨#[47]⟩,yT 4 ⟨#[]⟩,yT 5 ⟨#[]⟩,yB 6 false,yJ 7 (-1)] [] ?_
 refine yZ (yY (xr 2 [yT 0 s,yT 1 ⟨#[47]⟩,yT 4 ⟨#[]⟩,yT 5 ⟨#[]⟩,yB 6 false,yJ 7 (-1),yB 12 false] [] ?_))
 refine yZ (xb (zI (zA (yY (xr 4 [yT 4 s,yT 5 ⟨#[]⟩,yB 6 false] [] ?_)))))
 refine yZ (zG ?_)
 refine yR (.tuple #[.string s,.string ⟨#[]⟩,.bool false]) fun w' R Q=>?_
 exact⟨rfl,R⟩
theorem ZlQ (s x y:ByteArray)(p:Nat)(w:World)(b:s.size≤100000)(c:p=((bytes s).takeWhile lF).length)(a:p<s.size)(d:s.extract 0 p=x)(e:s.extract (p+1) s.size=y) :
 yA 157 #[.string s,.string ⟨#[47]⟩] w (RetV w (.tuple #[.string x,.string y,.bool true])):=by
 refine zQ (Φ:=fun w=>True) func157 rfl qK (fun w' f=>trivial) ?_
 refine yY (xr 3 [yT 0 s,yT 1 ⟨#[47]⟩,yT 4 ⟨#[]⟩,yT 5 ⟨#[]⟩,yB 6 false] [] ?_)
 refine yZ (yY (xr 2 [yT 4 ⟨#[]⟩,yT 5 ⟨#[]⟩,yB 6 false,yT 7 s,yT 8 ⟨#[47]⟩] [] ?_))
 refine xc 193 [.string s,.string ⟨#[47]⟩] 9 (fun _:Unit=>.tuple #[.string x,.string y,.bool true]) _ (fun w R Q=>yN (ZiO s x y p _ b c a d e)) fun g=>?_
 refine xr 6 [yT 4 x,yT 5 y,yB 6 true] [] ?_
 refine yZ (zG ?_)
 refine yR (.tuple #[.string x,.string y,.bool true]) fun w' R Q=>?_
 exact⟨rfl,R⟩
theorem Znq (s:ByteArray)(w:World)(a:¬ ((bytes s).takeWhile lF).length<(bytes s).length) :
 yA 157 #[.string s,.string ⟨#[47]⟩] w (RetV w (.tuple #[.string s,.string ⟨#[]⟩,.bool false])):=by
 refine zQ (Φ:=fun w=>True) func157 rfl qK (fun w' b=>trivial) ?_
 refine yY (xr 3 [yT 0 s,yT 1 ⟨#[47]⟩,yT 4 ⟨#[]⟩,yT 5 ⟨#[]⟩,yB 6 false] [] ?_)
 refine yZ (yY (xr 2 [yT 4 ⟨#[]⟩,yT 5 ⟨#[]⟩,yB 6 false,yT 7 s,yT 8 ⟨#[47]⟩] [] ?_))
 refine xc 193 [.string s,.string ⟨#[47]⟩] 9 (fun _:Unit=>.tuple #[.string s,.string ⟨#[]⟩,.bool false]) _ (fun w R Q=>yN (Zj1 s _ a)) fun c=>?_
 refine xr 6 [yT 4 s,yT 5 ⟨#[]⟩,yB 6 false] [] ?_
 refine yZ (zG ?_)
 refine yR (.tuple #[.string s,.string ⟨#[]⟩,.bool false]) fun w' R Q=>?_
 exact⟨rfl,R⟩
theorem ZlR (s:ByteArray)(w:World)(n:Glob w)(i:(bytes s).length≤570) :
 yA 109 #[.string s] w (RetV w (.tuple #[.string ⟨(Lib.itoa (valF (bytes s)).num).toArray⟩,.string ⟨(Lib.itoa ((valF (bytes s)).den:Int)).toArray⟩])):=by
 refine zQ (Φ:=fun w=>Glob w) func109 rfl qK (fun w' o=>n.ext o) ?_
 refine yY (xr 2 [yT 0 s,yT 2 ⟨#[]⟩,yT 3 ⟨#[]⟩] [] ?_)
 refine yZ (zC (yY (xr 1 [yT 0 s,yT 2 ⟨#[]⟩,yT 3 ⟨#[]⟩,yT 7 s] [] ?_)))
 by_cases b:(wX (bytes s)).isSome=true
 ·obtain⟨q,c⟩:=sV.1 b
  have d:=bG c
  refine xc 61 [.string s] 8 (fun _:Unit=>.bool true) _ (fun w R Q=>(bI s _ Q i).mono (fun _ _ h=>zK h (by rw[b]))) fun f=>?_
  refine xr 1 [yT 0 s,yT 2 ⟨#[]⟩,yT 3 ⟨#[]⟩,yB 9 false] [] ?_
  refine yZ (xb (zI (zA (yY (xr 1 [yT 2 ⟨#[]⟩,yT 3 ⟨#[]⟩,yT 11 s] [] ?_)))))
  by_cases a:q.den=1
  ·refine xc 157 [.string s,.string ⟨#[47]⟩] 12 (fun _:Unit=>.tuple #[.string s,.string ⟨#[]⟩,.bool false]) _ (fun w R Q=>yN (Znq s _ (by have:=(Zhs c a).2;omega))) fun f=>?_
   refine xr 7 [yT 2 ⟨#[]⟩,yT 3 ⟨#[]⟩,yT 4 s,yT 5 ⟨#[]⟩,yB 6 false] [] ?_
   refine yZ (zC (yY (xr 2 [yT 2 ⟨#[]⟩,yT 3 ⟨#[]⟩,yT 4 s,yT 5 ⟨#[]⟩,yB 17 true] [] ?_)))
   refine yZ (xa (yY (xr 3 [yT 2 s,yT 3 ⟨#[49]⟩,yT 4 s,yT 5 ⟨#[]⟩] [] ?_)))
   refine yZ (zG (zM ?_))
   refine yR (.tuple #[.string s,.string ⟨#[49]⟩]) fun w' R Q=>?_
   exact⟨by rw[d,a,← (Zhs c a).1];exact Zj0 s,R⟩
  obtain⟨r,j,k⟩:=Zno c a
  obtain⟨p,e⟩:∃ p,p=((bytes s).takeWhile lF).length:=⟨_,rfl⟩
  rw[←e] at j k
  have g:p<s.size:=by rw[←zW];exact k
  obtain⟨x,l⟩:=yE (s.extract 0 p)
  obtain⟨y,m⟩:=yE (s.extract (p+1) s.size)
  have t:x=⟨(Lib.itoa (q.num)).toArray⟩:=ZgJ (by rw[←l,(Znn e).1,r,gI])
  have u:y=⟨(Lib.itoa (q.den:Int)).toArray⟩:=ZgJ (by rw[←m,(Znn e).2,j,gI])
  refine xc 157 [.string s,.string ⟨#[47]⟩] 12 (fun _:Unit=>.tuple #[.string x,.string y,.bool true]) _ (fun w R Q=>yN (ZlQ s x y p _ (by rw[←zW];omega) e g l m)) fun f=>?_
  refine xr 7 [yT 2 ⟨#[]⟩,yT 3 ⟨#[]⟩,yT 4 x,yT 5 y,yB 6 true] [] ?_
  refine yZ (zC (yY (xr 2 [yT 2 ⟨#[]⟩,yT 3 ⟨#[]⟩,yT 4 x,yT 5 y,yB 17 false] [] ?_)))
  refine yZ (xb (zI (zA (yY (xr 4 [yT 2 x,yT 3 y] [] ?_)))))
  refine yZ (zG ?_)
  refine yR (.tuple #[.string x,.string y]) fun w' R Q=>?_
  exact⟨by rw[d,t,u],R⟩
 have d:valF (bytes s)=0:=Zna (by cases h:wX (bytes s) with|none=>rfl|some q=>rw[h] at b;exact absurd rfl b)
 refine xc 61 [.string s] 8 (fun _:Unit=>.bool false) _ (fun w R Q=>(bI s _ Q i).mono (fun _ _ h=>zK h (by rw[qW.2 b]))) fun f=>?_
 refine xr 1 [yT 0 s,yT 2 ⟨#[]⟩,yT 3 ⟨#[]⟩,yB 9 true] [] ?_
 refine yZ (xa (yY (xr 2 [yT 0 s,yT 2 ⟨#[48]⟩,yT 3 ⟨#[49]⟩] [] ?_)))
 refine yZ (zG (zM ?_))
 refine yR (.tuple #[.string ⟨#[48]⟩,.string ⟨#[49]⟩]) fun w' R Q=>?_
 exact⟨by rw[d];exact ZlP,R⟩
def ZkJ (s:ByteArray) (w:World) (e:Ending) (w':World):Prop:=∃ (r:ByteArray) (neg:Bool),e=.returned (.tuple #[.bool neg,.string r])∧xH (bytes s)=(neg,bytes r)∧Ext w w'
def Zgb (x:ByteArray×Bool):Value:=.tuple #[.bool x.2,.string x.1]
theorem Zd0 {s:ByteArray}{w w':World}{e:Ending}(h:ZkJ s w e w'):lQ Zgb (fun x _=>xH (bytes s)=(x.2,bytes x.1)) w e w':=by
 obtain⟨r,neg,rfl,h,Q⟩:=h
 exact⟨(r,neg),rfl,Q,BoxN.pure h⟩
theorem ZoV {t:ByteArray}{i:Nat}{c:UInt8}(d:((bytes t).take i).all xD=true)(hc:t[i]? = some c)(e:¬ (c.toNat:Int)<48)(f:¬ (c.toNat:Int)>57):((bytes t).take (i+1)).all xD=true:=by
 have hi:i<t.size:=by
  rcases vL i t.size with b|b
  ·exact b
  rw[getElem?_neg t i qO] at hc;cases hc
 have a:t[i]=c:=by
  rw[getElem?_pos t i hi] at hc
  injection hc
 rw[Zbm _ _ hi,pH,d,a]
 have:xD c=true:=by unfold xD;simp;omega
 simp[this]
theorem ZkK {t:ByteArray}{i:Nat}{c:UInt8}(hc:t[i]? = some c)(h:(c.toNat:Int)<48∨(c.toNat:Int)>57):¬ (bytes t).all xD=true:=by
 have hi:i<t.size:=by
  rcases vL i t.size with b|b
  ·exact b
  rw[getElem?_neg t i qO] at hc;cases hc
 have a:t[i]=c:=by
  rw[getElem?_pos t i hi] at hc
  injection hc
 intro d
 have e:t[i]∈bytes t:=by
  rw[←Ze8 t hi];exact sK _
 have:=dF (vF.1 d _ e)
 rw[a] at this
 unfold xD at *
 have f:=vF.1 d _ e
 rw[a] at f
 simp at f
 omega
section
variable {s r:ByteArray} {neg:Bool} {x:Int}
theorem ZrY (h:bytes s=[48]):fvB (bytes s) x=(x == 0):=by unfold fvB;rw[uQ h];rfl
theorem Zcd (h:¬ bytes s=[48])(b:xH (bytes s)=(neg,bytes r))(a:bytes r=[]∨(bytes r).head? = some 48∨¬ okE x∨¬ (bytes r).all xD=true):fvB (bytes s) x=false:=by
 unfold fvB
 rw[uL h,b]
 refine uZ ?_
 rintro⟨c,d,e,f,_⟩
 rcases a with a|a|a|a
 ·exact c a
 ·exact d a
 ·exact a e
 exact a f
theorem Zqq {c c0:UInt8}(h:¬ bytes s=[48])(i:xH (bytes s)=(neg,bytes r))(b:r[0]? = some c0)(o:¬ (c0.toNat:Int)=48)(p:¬ x < -1048576)(t:¬ x>1048576)(f:(bytes r).all xD=true){k:Nat}(u:r.size=k+1)(d:r[k]? = some c):fvB (bytes s) x=(((c.toNat % 2:Nat):Int) == 1):=by
 have e:bytes r=(bytes r).take k ++ [c]:=by
  have a:k<r.size:=qO
  have:=Zbm r k a
  rw[uA (by rw[zW];omega)] at this
  rw[getElem?_pos r k a] at d
  injection d with d
  rw[d] at this
  exact this
 have g:zN (bytes r)%2=c.toNat % 2:=by
  rw[e] at f ⊢
  exact ZoQ f
 have j:(bytes r).head? = some c0:=by
  have a:0<r.size:=qO
  rw[getElem?_pos r 0 a] at b
  injection b with b
  rw[←b];exact Zak a
 unfold fvB
 rw[uL h,i]
 have l:c0.toNat≠48:=qO
 show decide _=decide _
 refine pC.2 ⟨fun q=>?_,fun q=>⟨?_,?_,⟨qO,qO⟩,f,?_⟩⟩
 ·have:=q.2.2.2.2
  show ((c.toNat % 2:Nat):Int)=1
  rw[g] at this;omega
 ·intro m
  have n:bytes r=[]:=m
  have:(bytes r).length=0:=by rw[n];rfl
  rw[zW] at this;omega
 ·rw[j];intro e;injection e with e;exact l (by rw[e];rfl)
 have v:((c.toNat % 2:Nat):Int)=1:=q
 show zN (bytes r)%2=1
 rw[g];omega
end
theorem ZoW {P:Program}{o:Oper}{ρ:Operand→Value}{w:World}{t k:TypeId}{x y:Operand}{c:UInt8}(a:o.op=Op.binOp .and t x y k)(b:ρ x=.int .u8 (c.toNat:Int))(d:ρ y=.int .u8 1):(execOp ρ o).run P w=.ok (.value (.int .u8 ((c.toNat % 2:Nat):Int))) w:=by
 have h:bits .and .u8 (c.toNat:Int) 1=((c.toNat % 2:Nat):Int):=by
  have f:=c.toNat_lt
  have e:(BitVec.ofInt 8 (c.toNat:Int)).toNat=c.toNat:=by
   rw[BitVec.ofInt_natCast,BitVec.toNat_ofNat];exact vC qO
  show IntKind.u8.wrap ((BitVec.ofInt 8 (c.toNat:Int) &&& BitVec.ofInt 8 1).toNat:Int)=_
  rw[BitVec.toNat_and,e,show (BitVec.ofInt 8 1).toNat=1 from rfl,Nat.and_one_is_mod,IntKind.wrap_u8];omega
 rw[←h]
 simp only[execOp,a,b,d,eqGuard,binOp]
 rfl
theorem Zd1 (s:ByteArray)(w:World) :
 yA 70 #[.string s] w (ZkJ s w):=by
 refine zQ (Φ:=fun w=>True) func70 rfl qK (fun w' a=>trivial) ?_
 refine yY (xr 2 [yT 0 s,yB 2 false,yT 3 ⟨#[]⟩] [] ?_)
 refine yZ (yY (xr 1 [yB 2 false,yT 3 ⟨#[]⟩,yT 7 s] [] ?_))
 refine xc 120 [.string s,.string ⟨#[45]⟩] 8 (fun x:ByteArray×Bool=>.tuple #[.string x.1,.bool x.2]) _ (fun w R Q=>yM ZlM (ZdH s _)) fun⟨r,neg⟩=>?_
 refine xr 5 [yB 2 false,yT 3 ⟨#[]⟩,yT 4 r,yB 5 neg] [] ?_
 refine yZ (yY (xr 4 [yB 2 neg,yT 3 r] [] ?_))
 refine yZ (zG ?_)
 refine yR (.tuple #[.bool neg,.string r]) fun w' R Q=>?_
 exact⟨r,neg,rfl,Q.2,R⟩
theorem ZcN (s:ByteArray)(x:Int)(w:World)(S:(bytes s).length≤1000000) :
 yA 44 #[yS s x] w (RetV w (.bool (fvB (bytes s) x))):=by
 refine zQ (Φ:=fun w=>True) func44 rfl qK (fun w' T=>trivial) ?_
 refine yY (xq 2 [(1,.p 1 0),yB 2 false] [yG 1 76 s x] ?_)
 refine yZ (zC (zC ?_))
 by_cases a:bytes s=[48]
 ·refine zB (xq 3 [yB 8 ((s:ByteArray).toList == (⟨#[48]⟩:ByteArray).toList)] [] ?_)
  rw[ZkE a]
  refine yZ (xa (yY (xq 4 [yB 2 ((x:Int) == 0)] [] ?_)))
  refine yZ (zG (zM ?_))
  refine yR (.bool ((x:Int) == 0)) fun w' R Q=>?_
  exact⟨by rw[ZrY a],R⟩
 refine zB (xq 3 [yB 8 ((s:ByteArray).toList == (⟨#[48]⟩:ByteArray).toList)] [] ?_)
 rw[ZkF a]
 refine yZ (xb (zI (zA (yY (xq 2 [yT 14 s] [] ?_)))))
 refine xqc 70 [.string s] 15 Zgb _ (fun w R Q=>yM Zd0 (Zd1 s _)) fun⟨r,neg⟩=>?_
 refine xq 5 [yT 4 r] [] ?_
 refine yZ (zC (zC ?_))
 refine SXc.know (p:=xH (bytes s)=(neg,bytes r)) (fun w _ Q=>Q.2) fun l=>?_
 have L:r.size≤1000000:=by have:=Zha l;rw[zW] at this;omega
 by_cases B:bytes r=[]
 ·refine zB (xq 2 [yB 19 ((r:ByteArray).toList == (⟨#[]⟩:ByteArray).toList)] [] ?_)
  rw[ZkB B]
  refine xq 15 [yB 34 true] [] ?_
  refine yZ (xa (yY (xq 1 [yB 2 false] [] ?_)))
  refine yZ (zG (zM ?_))
  refine yR (.bool false) fun w' R Q=>?_
  exact⟨by rw[Zcd a l (Or.inl B)],R⟩
 obtain⟨C,M,D⟩:=ZoT B
 have N:=ZoU B
 refine zB (xq 2 [yB 19 ((r:ByteArray).toList == (⟨#[]⟩:ByteArray).toList)] [] ?_)
 rw[ZkC B]
 refine xq 2 [yB 20 false,yT 21 r] [] ?_
 refine xqk 22 (.int .u8 (C.toNat:Int)) (fun w R Q=>cC (t:=9) (x:=.tmp 21) (k:=0) (i:=.const (yI 0)) qK qK qK (by rfl) D) ?_
 refine xq 3 [yB 25 (((C.toNat:Int):Int) == 48)] [] ?_
 rcases bl2 ((((C.toNat:Int):Int) == 48)) with b|b
 ·rw[b]
  have n:=sN.1 b
  refine xq 9 [yB 34 true] [] ?_
  refine yZ (xa (yY (xq 1 [yB 2 false] [] ?_)))
  refine yZ (zG (zM ?_))
  refine yR (.bool false) fun w' R Q=>?_
  exact⟨by rw[Zcd a l (Or.inr (Or.inl (by rw[M,show C=48 from UInt8.toNat_inj.1 (by show C.toNat=48;omega)])))],R⟩
 rw[b]
 have n:=lJ b
 refine xq 5 [yB 30 (decide (x<(-1048576)))] [] ?_
 rcases bl2 ((decide (x<(-1048576)))) with d|d
 ·rw[d]
  have o:=uB d
  refine xq 4 [yB 34 true] [] ?_
  refine yZ (xa (yY (xq 1 [yB 2 false] [] ?_)))
  refine yZ (zG (zM ?_))
  refine yR (.bool false) fun w' R Q=>?_
  exact⟨by rw[Zcd a l (Or.inr (Or.inr (Or.inl (by rintro⟨O,P⟩;omega))))],R⟩
 rw[d]
 have o:=uD d
 refine xq 4 [yB 34 (decide (x>1048576))] [] ?_
 refine xe (zA ?_)
 refine yQ ((decide (x>1048576))) (fun f=>?_) fun f=>?_
 ·have q:=uB f
  refine yY (xq 1 [yB 2 false] [] ?_)
  refine yZ (zG (zM ?_))
  refine yR (.bool false) fun w' R Q=>?_
  exact⟨by rw[Zcd a l (Or.inr (Or.inr (Or.inl (by rintro⟨O,P⟩;omega))))],R⟩
 have q:=uD f
 refine zI (zA (zC (yY (xq 3 [yJ 36 ((r).size:Int),yJ 37 0] [] ?_))))
 refine yZ (zP ?_)
 refine yC [yB 2 false,yT 4 r,yJ 36 ((r).size:Int),yJ 37 ((0:Nat):Int)] [] (fun w=>True) (fun w Q=>trivial) ?_
 refine xU (fun H I J=>∃ (k:Nat),I=ofL [yB 2 false,yT 4 r,yJ 36 ((r).size:Int),yJ 37 (k:Int)] []∧J=(fun w=>True)∧(k≤r.size)∧(((bytes r).take k).all xD=true)∧H=(r.size-k)) ((r.size-0)) ⟨0,rfl,rfl,(vQ _),rfl,rfl⟩ ?_
 rintro H I J ⟨k,rfl,rfl,U,K,rfl⟩
 refine yY (xq 1 [yB 38 (decide ((k:Int)<((r).size:Int)))] [] ?_)
 refine yZ (zC ?_)
 refine yQ ((decide ((k:Int)<((r).size:Int)))) (fun g=>?_) fun g=>?_
 ·have u:=uB g
  have E:k<r.size:=qO
  obtain⟨c,m⟩:∃ c,r[k]? = some c:=⟨r[k],by simp[E]⟩
  refine zI (zA (zC (zP (yY (xq 2 [yJ 5 (k:Int)] [] ?_)))))
  refine yZ (yY (xq 2 [yT 40 r,yJ 41 (k:Int)] [] ?_))
  refine xqk 42 (.int .u8 (c.toNat:Int)) (fun w R Q=>cC (t:=9) (x:=.tmp 40) (k:=k) (i:=.tmp 41) qK qK qK qK m) ?_
  refine xq 2 [yB 44 (decide ((c.toNat:Int)<48))] [] ?_
  rcases bl2 ((decide ((c.toNat:Int)<48))) with e|e
  ·rw[e]
   have v:=uB e
   refine xq 5 [yB 49 true] [] ?_
   refine yZ (xa (yY (xq 1 [yB 2 false] [] ?_)))
   refine yZ (zG (wO (zM (zM (wO (zM ?_))))))
   refine yR (.bool false) fun w' R Q=>?_
   exact⟨by rw[Zcd a l (Or.inr (Or.inr (Or.inr (ZkK m qO))))],R⟩
  rw[e]
  have v:=uD e
  refine xq 2 [yT 45 r,yJ 46 (k:Int)] [] ?_
  refine xqk 47 (.int .u8 (c.toNat:Int)) (fun w R Q=>cC (t:=9) (x:=.tmp 45) (k:=k) (i:=.tmp 46) qK qK qK qK m) ?_
  refine xq 2 [yB 49 (decide ((c.toNat:Int)>57))] [] ?_
  refine xe (zA ?_)
  refine yQ ((decide ((c.toNat:Int)>57))) (fun j=>?_) fun j=>?_
  ·have z:=uB j
   refine yY (xq 1 [yB 2 false] [] ?_)
   refine yZ (zG (wO (zM (zM (wO (zM ?_))))))
   refine yR (.bool false) fun w' R Q=>?_
   exact⟨by rw[Zcd a l (Or.inr (Or.inr (Or.inr (ZkK m qO))))],R⟩
  have z:=uD j
  refine zI (xR (zA (zB (xq 1 [yJ 50 (IntKind.i64.wrap ((k:Int)+1))] [] ?_))))
  rw[yW ((k:Int)+1) (((k+1:Nat):Int)) qO]
  refine xq 1 [yJ 37 ((k+1:Nat):Int)] [] ?_
  refine xe ?_
  refine yP [yB 2 false,yT 4 r,yJ 36 ((r).size:Int),yJ 37 (((k+1):Nat):Int)] [] (fun w=>True) (fun w Q=>trivial) ?_
  exact xG ((r.size-(k+1))) qO ⟨(k+1),rfl,rfl,E,(ZoV K m qO qO),rfl⟩
 have u:=uD g
 have F:(bytes r).all xD=true:=by have h:=K;rw[uA (by rw[zW];omega)] at h;exact h
 refine xO (zH (zH (xY (zA (zC ?_)))))
 obtain⟨A,G⟩:∃ A,r.size=A+1:=⟨r.size-1,qO⟩
 obtain⟨c,m⟩:∃ c,r[A]? = some c:=⟨r[A],by simp[G]⟩
 refine zB (xq 4 [yT 51 r,yJ 54 (IntKind.i64.wrap (((r).size:Int)-1))] [] ?_)
 rw[yW ((r.size:Int)-1) ((A:Int)) qO]
 refine xqk 55 (.int .u8 (c.toNat:Int)) (fun w R Q=>cC (t:=9) (x:=.tmp 51) (k:=A) (i:=.tmp 54) qK qK qK qK m) ?_
 refine xqk 56 (.int .u8 ((c.toNat % 2:Nat):Int)) (fun w R Q=>ZoW (t:=5) (k:=5) (x:=.tmp 55) (y:=.const (.int .u8 1)) qK qK qK) ?_
 refine xq 2 [yB 2 ((((c.toNat % 2:Nat):Int):Int) == 1)] [] ?_
 refine yZ (zG ?_)
 refine yR (.bool ((((c.toNat % 2:Nat):Int):Int) == 1)) fun w' R Q=>?_
 exact⟨by rw[Zqq a l D qO qO qO F G m],R⟩
theorem ZeU (b:Int)(w:World) :
 yA 62 #[.int .i64 b] w (RetV w (.bool (decide (8≤b∧b≤1024)))):=by
 refine zQ (Φ:=fun w=>True) func62 rfl qK (fun w' d=>trivial) ?_
 refine yY (xq 1 [yB 2 false] [] ?_)
 refine yZ (yY (xq 3 [yB 5 (decide (b≥8))] [] ?_))
 rcases bl2 ((decide (b≥8))) with a|a
 ·rw[a]
  have c:=uB a
  refine xq 4 [yB 2 (decide (b≤1024))] [] ?_
  refine yZ (zG ?_)
  refine yR (.bool (decide (b≤1024))) fun w' R Q=>?_
  exact⟨vK (fun b=>Ending.returned (Value.bool b)) (pC.2 ⟨fun h=>⟨qO,h⟩,fun h=>h.2⟩),R⟩
 rw[a]
 have c:=uD a
 refine xq 4 [yB 2 false] [] ?_
 refine yZ (zG ?_)
 refine yR (.bool false) fun w' R Q=>?_
 exact⟨by rw[uZ (p:=8≤b∧b≤1024) qO],R⟩
section
open Go.RowKit Go.Sort
def Za7 (w:World) (l:List UInt8) (e:Ending) (w':World):Prop:=e=.returned (.string ⟨l.toArray⟩)∧Ext w w'
theorem Zdj (u:Nat)(w:World)(a:u<100) :
 yA 176 #[.int .u64 (u:Int),.int .i64 10] w (Za7 w (Lib.decDigits u)):=by
 have b:(u:Int)<100:=qO
 go_enter func176,ntmps176
 go_wp2_with (go_at_call 201;refine (Tryz.internal_strconv_small u a _).mono ?_;rintro e w' ⟨rfl,rfl⟩)
 go_ret
 exact⟨rfl,Fr.refl _ _⟩
theorem ZeF (u i:Nat)(w:World)(v:Glob w)(C:100≤u)(a:u<18446744073709551616)(c:Lib.nDigits u=i) :
 yA 176 #[.int .u64 (u:Int),.int .i64 10] w (Za7 w (Lib.decDigits u)):=by
 have n:=Zh6 u (by rw[zL];exact a)
 have g:=Lib.decDigits_length u
 rw[c] at g
 rw[g] at n
 have o:prog.arrayLen 247=24:=by simp[Program.arrayLen,underlying247]
 have z:∀ W,(Instr.sliceAt 247 (.pointer (some ⟨w.heap.size,0,none⟩)) none (some (.int .i64 (i:Int))) none).run prog W=.ok (.slice (some ⟨w.heap.size,0,none⟩) i 24) W:=fun W=>by
  rw[run_sliceAt_array_h W 247 ⟨w.heap.size,0,none⟩ (by simp[Program.arrayLen,Program.elem,underlying247]) .i64 (i:Int) qO (by rw[o];omega)]
  go_simp
 have l:=Lib.holds_zero0 w 247 i qO
 have d:=Tryz.internal_strconv_formatBase10 w.heap.size 0 24 u (Array.replicate i 0) (w.alloc (.cells Lib.zeros24 247)) l (by rw[pQ,← c];exact Lib.lt_pow_nDigits u) a (by rw[pQ];omega)
 have f:=Tryz.internal_strconv_numDigits u qO a (w.alloc (.cells Lib.zeros24 247)) (Lib.tabIs_alloc v.1 _)
 rw[pQ] at d
 rw[c] at f
 have q:=zh l
 have x:=zh g
 have r:=zh c
 have D:(100:Int)≤(u:Int):=qO
 clear l o g c v
 go_enter func176,ntmps176
 go_wp2_with (go_at_call 202;refine f.mono ?_;rintro e w' ⟨rfl,rfl⟩)
 go_at_call 203
 refine d.mono ?_
 rintro e w' ⟨rfl,k,E,m,rfl,p⟩
 have s:(convert 191 9 (.slice (some ⟨w.heap.size,0,none⟩) i 24)).run prog ((putRow (fun (b:UInt8)=>Value.int .u8 (b.toNat:Int)) (w.alloc (.cells Lib.zeros24 247)) w.heap.size 0 m).drewN k)=.ok (.string ⟨(Lib.decDigits u).toArray⟩) ((putRow (fun (b:UInt8)=>Value.int .u8 (b.toNat:Int)) (w.alloc (.cells Lib.zeros24 247)) w.heap.size 0 m).drewN k):=by
  have h:=run_convert_bytes_back (P:=prog) ((putRow (fun (b:UInt8)=>Value.int .u8 (b.toNat:Int)) (w.alloc (.cells Lib.zeros24 247)) w.heap.size 0 m).drewN k) 191 9 5 ⟨w.heap.size,0,none⟩ 24 (Lib.decDigits u) underlying191 underlying5 underlying9 (fun j t=>by
   rw[Lib.row_is_numeral (by rw[r.out];exact p) j t,Lib.add_plain,World.cell?_drewN]
   exact cell?_putRow (fun (b:UInt8)=>Value.int .u8 (b.toNat:Int)) _ w.heap.size 0 _ m q.out (by rw[p.size,pQ]) j (by rw[p.size];rw[x.out] at t;exact t))
  rw[x.out] at h
  exact h
 obtain⟨A,y⟩:=Lib.fin_at w (.cells Lib.zeros24 247) m k 0
 have Q:Ext w ((putRow (fun (b:UInt8)=>Value.int .u8 (b.toNat:Int)) (w.alloc (.cells Lib.zeros24 247)) w.heap.size 0 m).drewN k):=by
  rw[y];exact Fr.ofBelow (Lib.below_grow _ w (uH _) k A)
 generalize (putRow (fun (b:UInt8)=>Value.int .u8 (b.toNat:Int)) (w.alloc (.cells Lib.zeros24 247)) w.heap.size 0 m).drewN k=w1 at Q s ⊢
 have B:=zh Q
 clear Q y p d f
 go_wp2
 go_ret
 exact⟨rfl,B.out⟩
theorem ZgK (u:Nat)(w:World)(b:Glob w)(a:u<W64) :
 yA 148 #[.int .u64 (u:Int),.int .i64 10] w (Za7 w (Lib.decDigits u)):=by
 have h:yA 176 #[.int .u64 (u:Int),.int .i64 10] w (Za7 w (Lib.decDigits u)):=by
  rcases vL u 100 with h|h
  ·exact Zdj u w h
  exact ZeF u _ w b h (by rw[zL] at a;exact a) rfl
 have H:=zh h
 clear h b a
 go_enter func148,ntmps148
 go_wp2_with fail
 refine H.out.mono ?_
 rintro e w' ⟨rfl,Q⟩
 have c:=zh Q
 clear Q
 go_wp2
 go_ret
 exact⟨rfl,c.out⟩
end
def chV:List Nat→Nat
 | []=>0
 | c :: cs=>c+10^19*chV cs
theorem ZcP (c:Nat):∀ a:List Nat,chV (a ++ [c])=chV a+(10^19)^a.length*c
 | []=>by simp[chV]
 | d :: a=>by
  show d+10^19*chV (a ++ [c])=d+10^19*chV a+(10^19)^(a.length+1)*c
  rw[ZcP c a,uN (m:=a.length) (n:=10^19),uK,← uG,uF (10^19) ((10^19)^a.length),tZ]
structure ChR (n:Nat) (cs:List Nat) (r:Nat):Prop where
 eq:n=chV cs+(10^19)^cs.length*r
 lt:∀ c∈cs,c<10^19
 top:r=0→cs≠[]→∃ l c,cs=l ++ [c]∧0<c
theorem ChR.start (n:Nat):ChR n [] n:=⟨by simp[chV],fun c h=>by simp at h,fun _ h=>absurd rfl h⟩
theorem ChR.step {n r:Nat}{cs:qN}(h:ChR n cs r)(e:0<r):ChR n (cs ++ [r%10^19]) (r/10^19):=by
 refine⟨?_,fun c b=>?_,fun d _=>⟨cs,_,rfl,?_⟩⟩
 ·rw[ZcP,uY,rJ,uN (m:=cs.length) (n:=10^19),uG,tZ,← uK,sB]
  exact h.eq
 ·rcases rA.1 b with a|a
  ·exact h.lt c a
  rw[sE.1 a];exact uM _ qD
 have a:=sB r (10^19)
 rw[d,tR,tD] at a
 omega
theorem ZkL {cs:qN}(h:∃ l c,cs=l ++ [c]∧0<c):0<chV cs:=by
 obtain⟨l,c,rfl,a⟩:=h
 rw[ZcP]
 have:=sH (uU (n:=l.length) (show 0<10^19 by decide)) a
 omega
theorem ZiR {cs:qN}{i:Nat}(hi:i<cs.length)(h:∃ l c,cs=l ++ [c]∧0<c):∃ l c,cs.drop i=l ++ [c]∧0<c:=by
 obtain⟨l,c,rfl,a⟩:=h
 rw[uY,rJ] at hi
 exact⟨l.drop i,c,List.drop_append_of_le_length qO,a⟩
theorem ZoX {cs:qN}{i c:Nat}(hi:i<cs.length)(a:cs[i]?.getD 0=c)(d:∀ c∈cs,c<10^19)(e:∃ l c,cs=l ++ [c]∧0<c) :
 wN (chV (cs.drop i))=if i+1<cs.length then wN (chV (cs.drop (i+1))) ++ (List.replicate (19-(Lib.decDigits c).length) 48 ++ Lib.decDigits c) else Lib.decDigits c:=by
 have f:cs.drop i=c :: cs.drop (i+1):=by
  rw[tO hi]
  rw[uO hi] at a
  simp only[rT] at a
  rw[a]
 have b:c<10^19:=by
  rw[uO hi] at a
  simp only[rT] at a
  rw[←a];exact d _ (sK hi)
 rw[f]
 show wN (c+10^19*chV (cs.drop (i+1)))=_
 by_cases h:i+1<cs.length
 ·rw[uQ h,vR,uF,ZhD (ZkL (ZiR h e)) 19 c b,Zob qO b]
 rw[uL h,uX qO]
 show wN (c+10^19*0)=_
 have g:=ZkL (ZiR hi e)
 rw[f,uX qO] at g
 rw[tR,tD]
 exact jG (by simp[chV] at g;omega)
theorem ZiV (t:ByteArray)(v:Nat)(w:World)(b:(bytes t).all xD=true)(a:zN (bytes t)=v)(g:t.size≠0)(k:t.size≤1099511627776)(c:v<18446744073709551616) :
 yA 160 #[.string t,.int .i64 10,.int .i64 64] w fun e w'=>e=.returned (.tuple #[.int .u64 (v:Int),.nilIface])∧Ext w w':=by
 have d:Lib.parseUint10 0 t.data.toList=.ok v:=by
  have h:=pu10 (bytes t) 0 b (by rw[tY,vW,a];exact c)
  rw[tY,vW,a] at h
  exact h
 have h:=Tryz.internal_strconv_ParseUint_10_b64 t g qO w
 rw[d] at h
 have f:yA 196 #[.string t,.int .i64 10,.int .i64 64] w fun e w'=>e=.returned (.tuple #[.int .u64 (v:Int),.nilIface])∧Ext w w':=by
  refine h.mono ?_
  rintro e w' ⟨rfl,rfl⟩
  exact⟨rfl,rfl,rfl,rfl,by rw[Lib.bytesWorld_size];omega,fun i hi _=>Lib.bytesWorld_at_old _ _ _ i hi⟩
 have H:=zh f
 clear h f d b a c
 go_enter func160,ntmps160
 go_wp2_with fail
 refine H.out.mono ?_
 rintro e w' ⟨rfl,Q⟩
 have j:=zh Q
 clear Q
 go_wp2
 go_ret2
 exact⟨rfl,j.out⟩
def ZlS (w wr:World) (T:Nat) (d:ByteArray) (A:Option Addr) (cap:Nat) (xs:List Nat):Prop :=
 Buf .u64 141 wr A cap xs∧PaR T (bytes d) xs∧Ext w wr∧∀ b,xM A b→w.heap.size≤b
theorem ZcR (d:ByteArray)(w:World)(T:Nat)(hd:(bytes d).all xD=true)(hT:zN (bytes d)=T)(hw:wl T≤1048576)(hl:d.size≤1099511627776) :
 yA 111 #[.string d] w (lA w T):=by
 have HS:=zh (PaR.start hd hT)
 clear hd hT
 have ha:=ZaU
 go_enter func111,ntmps111
 go_wp2
 go_loopw [0,3] (fun v0 v3 wr=>∃ (d:ByteArray) (A:Option Addr) (f:Nat) (j:List Nat),v0=.string d∧v3=.slice A j.length f∧d.size≤1099511627776∧Hid (ZlS w wr T d A f j)) (fun v0 _ _=>match v0 with | .string d=>d.size | _=>0)
 case atStart=>exact⟨d,none,0,[],rfl,rfl,hl,Buf.nil,HS.out,Fr.refl _ _,fun b t=>by obtain⟨a,ha,_⟩:=t;cases ha⟩
 case round =>
  obtain⟨d,A,f,j,rfl,rfl,hl,B⟩:=hrel
  by_cases t0:0<d.size
  ·have u0:=B.out.2.1.len
   obtain⟨n,hn⟩:=yE d.size
   obtain⟨z,hz⟩:=yE ((n-1)%19)
   have w0:z≤18:=qO
   have c0:z+1≤n:=by have:=nH (n-1) 19;omega
   have e1:((n:Int)-1)%19=(z:Int):=qO
   have y0:(1:Int)≤(n:Int):=qO
   have z0:(0:Int)≤(n:Int)-1:=qO
   have A0:((z:Int)+1)≤(n:Int):=qO
   have B0:((z:Int)+1).toNat=z+1:=qO
   have I:(bytes d).length=n:=by rw[zW];exact hn
   have J:(d.extract 0 (z+1)).size=z+1:=by rw[qE];omega
   have K:bytes (d.extract 0 (z+1))=(bytes d).take (z+1):=by rw[kZ];simp
   obtain⟨c,hc⟩:=yE (zN ((bytes d).take (z+1)))
   have d0:=B.out.2.1.chunk (z:=z) qO (by rw[I];exact hz)
   rw[hc] at d0
   have P:∀ W,yA 160 #[.string (d.extract 0 (z+1)),.int .i64 10,.int .i64 64] W fun e w'=>e=.returned (.tuple #[.int .u64 (c:Int),.nilIface])∧Ext W w':=fun W =>
    ZiV _ c W (by
     rw[K,vF];intro x hx
     exact vF.1 B.out.2.1.all _ (sQ hx)) (by rw[K];exact hc) (by rw[J];omega) (by rw[J];omega) qO
   have Q:bytes (d.extract (z+1) d.size)=(bytes d).drop (z+1):=by
    rw[kZ,uA (by rw[tN,zW];exact uH _)]
   have C:(d.extract (z+1) d.size).size=d.size-(z+1):=by rw[qE];omega
   have e0:=zh Q
   have D:=zh C
   have f0:=zh P
   have g0:Hid (((bytes d).length-1)%19=z):=by unfold Hid;rw[I];exact hz
   have i0:Hid (0<(bytes d).length):=by unfold Hid;omega
   have Hc:=zh hc
   have Hn:=zh hn
   clear Q C P K J I hc hz
   go_wp2_with fail
   refine (f0.out _).mono ?_
   rintro e wB ⟨rfl,E⟩
   have HX:=zh E
   clear E
   have C0:z+1≤d.size:=by rw[Hn.out];exact c0
   clear hn
   go_wp2_with fail
   have j0:=zh B.out.1
   have HP:=zh B.out.2.1
   have k0:=zh B.out.2.2.1
   have u:=zh B.out.2.2.2
   have F:(d.extract (z+1) d.size).size≤1099511627776:=by rw[D.out];omega
   have l:Hid ((d.extract (z+1) d.size).size<d.size):=by rw[Hid,D.out];omega
   have o:Hid (∀ m q,iN j 10000000000000000000 c j.length m q→PaR T (bytes (d.extract (z+1) d.size)) (if q=0 then m else m ++ [q])):=by
    intro m q G
    rw[e0.out]
    exact HP.out.step i0.out g0.out (by rw[Hc.out];exact G)
   generalize d.extract (z+1) d.size=d2 at *
   have l0:Hid (c<W64):=by unfold Hid;rw[zL];omega
   have L:Hid (10000000000000000000<W64):=by unfold Hid;rw[zL];omega
   go_loopw [5,32] (fun v9 m0 wx=>∃ (k q:Nat) (m:List Nat),k≤j.length∧m0=.int .i64 (k:Int)∧v9=.int .u64 (q:Int)∧Hid (iN j 10000000000000000000 c k m q)∧Hid (Buf .u64 141 wx A f m)∧Hid (Fr (xM A) wB wx)) (fun _ v _=>j.length-(intOf v).toNat)
   case atStart=>exact⟨0,c,j,qO,rfl,rfl,iN.start HP.out.dig l0.out,j0.out.ext HX.out,Fr.refl _ _⟩
   case round =>
    obtain⟨k,q,m,hk,rfl,rfl,G,hB,hF⟩:=hrel
    have g:m.length=j.length:=G.out.1
    by_cases n0:k<j.length
    ·obtain⟨b,rfl,R,hC,S,U⟩:=hB.out.open_ (by intro e;rw[e] at g;simp at g;omega)
     obtain⟨y,hy⟩:=yE (m[k]?.getD 0)
     have M:=R.cell (i:=k) qO
     rw[hy] at M
     have x0:=R.frozen k
     have V:Hid (y<W64):=hy ▸ G.out.2.2.1.getD zJ k
     have o0:=zh (G.out.step n0 hy L.out)
     have X:=fun v=>Buf.set_ R hC S U k v qO
     have p0:=zh X
     have q0:=zh G.out.2.2.2.1
     have HW:Hid (IntKind.u64.wrap ((wJ y 10000000000000000000:Int)+(xL (xA y 10000000000000000000) q 0:Int))=(maHi y 10000000000000000000 q:Int)):=by
      have h:=Zb1 V.out L.out q0.out
      unfold Hid maHi at *
      rw[←rL,wH _ h]
     have r0:=R.lt
     have r:=zh g
     clear R hC S U hy X g
     go_wp2_with (go_at_call 161;refine (Zag _ _ V.out L.out _).mono ?_;rintro e w' ⟨rfl,rfl⟩)
     go_roundw
     case rel=>exact⟨k+1,_,_,qO,by go_num,by rw[HW.out],o0.out,p0.out _,hF.out.setCell (p:=⟨b,k,none⟩) (Or.inl ⟨_,rfl,rfl⟩) _⟩
     case measure=>simp[intOf];omega
    obtain rfl:k=j.length:=qO
    have N:Hid (Ext w wr):=(k0.out.trans HX.out).next hF.out (fun i hi t=>by have:=u.out i t;omega)
    by_cases hq:q=0
    ·subst hq
     have O:=o.out m 0 G.out
     rw[uQ rfl] at O
     have s:Hid (ZlS w wr T d2 A f m):=⟨hB.out,O,N.out,u.out⟩
     have r:=zh g
     clear O g
     go_wp2
     go_roundw
     case rel=>exact⟨d2,A,f,m,rfl,by rw[r.out],F,s.out⟩
     case measure=>exact l.out
    have D0:(0:Int)<(q:Int):=qO
    have O:=o.out m q G.out
    rw[uL hq] at O
    have Y:=zh O
    have r:=zh g
    have s0:Hid (zD .u64 (wr.alloc (.cells #[.int .u64 (q:Int)] 141)) (some ⟨wr.heap.size,0,none⟩) [q]):=(Own.new wr 141 .u64 [q] []).shows0
    clear O g hq
    go_wp2_with (at_builtin;refine Hid.out ?_)
    refine zh ?_
    refine wY rfl _ _ _ rfl _ .u64 8 underlying107 eF A (some ⟨wr.heap.size,0,none⟩) j.length 1 f 1 rfl rfl m [q] r.out rfl (hB.out.ext ((Fr.refl _ _).alloc _)) s0.out (by simp only[maxLen];omega) qO ?_
    intro A1 H w2 Z a0 b0
    have s:Hid (ZlS w w2 T d2 A1 H (m ++ [q])):=by
     refine⟨Z,Y.out,?_,?_⟩
     ·exact (N.out.alloc _).next a0 (fun i hi t=>by have:=u.out i t;omega)
     intro b t
     rcases b0 b t with h|h
     ·exact u.out b h
     have:=N.out.size;simp at h;omega
    clear Z a0 b0
    go_wp2
    go_roundw
    case rel=>exact⟨d2,A1,H,m ++ [q],rfl,by rw[uY,r.out];rfl,F,s.out⟩
    case measure=>exact l.out
  have h0:d.size=0:=qO
  obtain⟨h1,h2,h3,h4⟩:=B.out
  have hN:Hid (lA w T (.returned (.slice A j.length f)) wr):=by
   refine⟨_,rfl,?_,h3⟩
   have t:bytes d=[]:=rY (by rw[zW];exact h0)
   rw[t] at h2
   exact⟨A,j,f,rfl,h1.len,h1.shows,h2.dig,h2.trim,h2.done⟩
  clear h1 h2 h3 h4
  go_wp2
  go_ret
  exact hN.out
theorem ZkP {x r:Nat}(a:0<r)(k:0<x):x<((r+x/r)/2^1+1)*((r+x/r)/2^1+1)∧0<(r+x/r)/2^1:=by
 obtain⟨q,c⟩:=yE (x/r)
 have f:=vX x r
 have l:=uM x a
 rw[c] at f ⊢
 obtain⟨m,g⟩:=yE ((r+q)/2^1)
 rw[g]
 have i:r+q≤2*m+1:=qO
 have j:x<r*(q+1):=by rw[uK,tU];omega
 have n:4*(r*(q+1))≤(r+q+1)*(r+q+1):=by
  rcases Nat.le_total r (q+1) with h|h
  ·obtain⟨d,b⟩:=oM h
   have e:r+q+1=r+(r+d):=qO
   rw[e,b]
   simp only[uK,uT]
   have:=vQ (d*d)
   rw[uF d r];omega
  obtain⟨d,b⟩:=oM h
  have e:r+q+1=(q+1+d)+(q+1):=qO
  rw[e,b]
  generalize q+1=p
  simp only[uK,uT]
  have:=vQ (d*d)
  rw[uF d p];omega
 have o:(r+q+1)*(r+q+1)≤(2*(m+1))*(2*(m+1)):=vO qO qO
 have s:(2*(m+1))*(2*(m+1))=4*((m+1)*(m+1)):=by
  rw[rX]
 refine⟨qO,?_⟩
 rcases uI m with e|e
 ·exfalso
  subst e
  have:r=1:=qO
  subst this
  have:q=0:=qO
  subst this
  omega
 exact e
theorem Zrv {x r r0:Nat}(h:¬ (r+x/r)/2^1<r)(c:x<(r+1)*(r+1))(d:r0*r0≤x)(e:x<(r0+1)*(r0+1)):r=r0:=by
 have b:r≤x/r:=qO
 have f:r*r≤x:=by
  have:=qY x r
  have:=uE r b
  omega
 rcases qU r r0 with a|a|a
 ·have:=vO (show r+1≤r0 by omega) (show r+1≤r0 by omega);omega
 ·exact a
 have:=vO (show r0+1≤r by omega) (show r0+1≤r by omega);omega
theorem ZiY {x k:Nat}(h:x<2^k):x<(1*2^((k+1)/2)+1)*(1*2^((k+1)/2)+1)∧0<1*2^((k+1)/2):=by
 rw[rO]
 have b:2^k≤2^((k+1)/2)*2^((k+1)/2):=by rw[←uR];exact uW qO qO
 have a:=uU (n:=(k+1)/2) (show 0<2 by omega)
 refine⟨?_,a⟩
 have:=vO (Nat.le_succ (2^((k+1)/2))) (Nat.le_succ (2^((k+1)/2)))
 simp only[pZ] at this
 omega
theorem ZrZ {k m:Nat}(h:k≤64*m):wl (1*2^((k+1)/2))≤m+1:=by
 rw[rO]
 refine kD.2 ?_
 rw[zL,show (18446744073709551616:Nat)=2^64 from rfl,← qR]
 exact Nat.pow_lt_pow_right qO qO
theorem Znw {q r:Nat}{w w':World}{e:Ending}(h:ZbX w q r e w'):lQ (fun x:ShN×ShN=>.tuple #[xI x.1,xI x.2]) (fun x w=>zF w (xI x.1) q∧zF w (xI x.2) r) w e w':=by
 obtain⟨u,v,rfl,a,b,Q⟩:=h
 obtain⟨A,l,c,rfl⟩:=a.slice
 obtain⟨g,i,j,rfl⟩:=b.slice
 exact⟨((A,l,c),(g,i,j)),rfl,Q,boxn Q (fun S k d f=>⟨a.nrb d f,b.nrb d f⟩)⟩
theorem rw1 {k:Nat}(h:k≤100000):IntKind.i64.wrap ((k:Int)+1)=((k+1:Nat):Int):=by rw[IntKind.wrap_i64];omega
inductive RootIs (p:Rat):ByteArray→Bool→Prop
 | neg (h:p.num<0):RootIs p ⟨#[]⟩ false
 | no1 (n d:Nat) (h0:0≤p.num) (hn1:n*n≤p.num.natAbs) (hn2:p.num.natAbs<(n+1)*(n+1)) (hd1:d*d≤(p.den:Int).natAbs) (hd2:(p.den:Int).natAbs<(d+1)*(d+1)) (h:¬ n*n=p.num.natAbs):RootIs p ⟨#[]⟩ false
 | no2 (n d:Nat) (h0:0≤p.num) (hn1:n*n≤p.num.natAbs) (hn2:p.num.natAbs<(n+1)*(n+1)) (hd1:d*d≤(p.den:Int).natAbs) (hd2:(p.den:Int).natAbs<(d+1)*(d+1)) (hnn:n*n=p.num.natAbs) (h:¬ d*d=(p.den:Int).natAbs):RootIs p ⟨#[]⟩ false
 | yes (n d:Nat) (Q:Rat) (h0:0≤p.num) (hn1:n*n≤p.num.natAbs) (hn2:p.num.natAbs<(n+1)*(n+1)) (hd1:d*d≤(p.den:Int).natAbs) (hd2:(p.den:Int).natAbs<(d+1)*(d+1)) (hnn:n*n=p.num.natAbs) (hdd:d*d=(p.den:Int).natAbs) (hQn:Q.num=(n:Int)) (hQd:(Q.den:Int)=(d:Int)):RootIs p ⟨(xK Q).toArray⟩ true
def frz (b g:Nat):AV→AV
 | .v x=>.v x
 | .p b' off=>bif Nat.beq b' b then .v (.pointer (some ⟨g,off,none⟩)) else .p b' off
theorem ZiZ (L:Nat→Nat)(b:Nat)(x:AV):(frz b (L b) x).conc L=x.conc L:=by
 cases x with
 | v x=>rfl
 | p b' off =>
  show (bif Nat.beq b' b then AV.v (.pointer (some ⟨L b,off,none⟩)) else .p b' off).conc L=_
  cases h:Nat.beq b' b with
  | true =>
   have e:=oT h
   subst e
   rfl
  | false=>rfl
section
variable {N:Nat} {S0:Nat→Prop} {w0:World} {s:St} {Φ:World→Prop} {P:Program} {Q:Exit→Act→World→Prop}
theorem SXc.freeze {c:Code}(b:Nat)(t:TypeId)(cs:List Value)(k:Nat→SlL)(j:BlL)(z:s.bl b=some (t,cs.map .v))(E:∀ g,(k g).map (fun q=>(s.sl q.1).map (frz b g))=(k g).map (fun q=>some q.2))(F:j.map (fun q=>s.bl q.1)=j.map (fun q=>some q.2))(G:j.all (fun q => !(Nat.beq q.1 b))=true)(H:∀ g,wfB (k g) j=true)(h:∀ g,SXc P N S0 w0 Q c (ofL (k g) j) (fun w=>Φ w∧Blk t w g cs.toArray)):SXc P N S0 w0 Q c s Φ:=by
 intro L a w hi
 refine h (L b) L a w ?_
 have m:=H (L b)
 unfold wfB at m
 rw[sA] at m
 have r:∀ i x,(ofL (k (L b)) j).bl i=some x→s.bl i=some x:=fun i x o=>iL (f:=fun q:Nat × TypeId×List AV=>s.bl q.1) (g:=fun q=>some q.2) F (lP o)
 have A:∀ i x,(ofL (k (L b)) j).bl i=some x→i≠b:=fun i x o e=>by
  have:=vF.1 G _ (lP o)
  simp[e] at this
 have l:∀ i,((ofL (k (L b)) j).bl i).isSome=true→(s.bl i).isSome=true∧i≠b:=fun i u=>by
  obtain⟨q,e⟩:=sV.1 u
  exact⟨by rw[r i q e];rfl,A i q e⟩
 have n:(s.bl b).isSome=true:=by rw[z];rfl
 have I:=hi.mem.blk b t _ z
 refine⟨hi.size,hi.df,fun i x o=>?_,⟨fun c t cs e=>hi.mem.blk c t cs (r c _ e),fun c d p J=>hi.mem.inj c d (l c p).1 (l d J).1,fun c p=>hi.mem.old c (l c p).1,hi.mem.ext,fun i c B e=>?_,fun c t cs e x o=>⟨(hi.mem.cel c t cs (r c _ e) x o).1,fun d B K=>?_⟩⟩,fun w' C=>⟨hi.box w' (C.mono (fun i _ u=>?_)),?_⟩⟩
 ·have D:=iL (f:=fun q:Nat × AV=>(s.sl q.1).map (frz b (L b))) (g:=fun q=>some q.2) (E (L b)) (lP o)
  simp only at D
  obtain⟨y,M,e⟩:=vI.1 D
  have:=hi.sl i y M
  rw[this,← e,ZiZ]
 ·exact vF.1 m.1 _ (lP e)
 ·have:=vF.1 (vF.1 m.2 _ (lP e)) x o
  rw[K] at this
  exact this
 ·obtain⟨c,p,e⟩:=u
  exact⟨c,(l c p).1,e⟩
 have:Blk t w (L b) cs.toArray:=by simpa [pW,Function.comp_def,AV.conc] using I
 refine this.fr C fun⟨c,p,e⟩=>?_
 exact (l c p).2 (hi.mem.inj c b (l c p).1 n e)
end
section
variable {N:Nat} {S0:Nat→Prop} {w0:World} {s:St} {Φ Ψ:World→Prop} {L:Nat→Nat} {a:Act} {w:World} {P:Program} {ops:Array Oper} {Q:Exit→Act→World→Prop}
theorem ZgO {i:Nat}{t bt:TypeId}{x y:Operand}{cs:List Value}(b off:Nat)(v:Value)(Ψ:World→Prop)(p:∀ w,Φ w→Blk bt w b cs.toArray)(l:off<cs.length)(d:w0.heap.size≤b∨S0 b)(r:v.oneCell'=true)(k:v.cells.toList=[v])(u:∀ w w',Φ w→Fr (fun i=>i=b) w w'→Ψ w')(K:SXi P N S0 w0 ops Q (i+1) s (fun w=>Ψ w∧Blk bt w b (cs.set off v).toArray))(m:Nat.blt i ops.size=true:=by kernel_rfl)(z:s.wantB ops (opAt ops i)=some true:=by kernel_rfl)(A:(opAt ops i).op=.store t x y:=by kernel_rfl)(B:(opAt ops i).dst=none:=by kernel_rfl)(C:(teOf P t).map (fun e=>e.size)=some 1:=by kernel_rfl)(D:s.eval x=some (.v (.pointer (some ⟨b,off,none⟩))):=by kernel_rfl)(E:s.eval y=some (.v v):=by kernel_rfl):SXi P N S0 w0 ops Q i s Φ:=by
 unfold SXi
 rw[jN m]
 intro L a w hi
 refine wpList_step fun W F=>?_
 rw[uQ (hi.want z)]
 obtain⟨X,n,G⟩:=vI.1 C
 have q:=p w hi.box.self
 obtain⟨w',H,f,I⟩:=dS (P:=P) n (g:=b) (bt:=bt) (off:=off) (cur:=cs) (v:=v) q (by rw[k];exact G.symm) (by rw[k];simp;omega) (fun c o=>by rw[k] at o;simp at o;rw[o];exact r)
 rw[k,ZfX _ _ _ l] at f
 unfold Oper.wp
 have J:=hi.eval D
 have M:=hi.eval E
 have h:(execOp a.eval (opAt ops i)).run P w=.ok .skip w':=by simp only[execOp,A,Sem.run_bind,J,M,AV.conc,H,Result.andThen_ok,Sem.run_pure]
 rw[h,Oper.upon_skip,B]
 refine F _ _ (K L _ _ (hi.eff I (hi.notOwn (c:=cs[off]'l) (j:=off) (fun w R=>by have:=(p w R).cell off;rw[this];simp[l])) d q.lt (fun O S T U V=>⟨u O S T U,V.trans f⟩)))
end
section
variable {N:Nat} {S0:Nat→Prop} {w0:World} {s:St} {Φ Ψ:World→Prop} {L:Nat→Nat} {a:Act} {w:World} {P:Program} {ops:Array Oper} {Q:Exit→Act→World→Prop}
theorem Zqu {i:Nat}{t bt:TypeId}{x y:Operand}{cs new:List Value}(b off:Nat)(v:Value)(Ψ:World→Prop)(o:∀ w,Φ w→Blk bt w b cs.toArray)(r:off+new.length≤cs.length)(X:0<new.length)(d:w0.heap.size≤b∨S0 b)(u:∀ c,c∈new→c.oneCell'=true)(l:v.cells.toList=new)(z:∀ w w',Φ w→Fr (fun i=>i=b) w w'→Ψ w')(K:SXi P N S0 w0 ops Q (i+1) s (fun w=>Ψ w∧Blk bt w b (lE cs off new).toArray))(m:Nat.blt i ops.size=true:=by kernel_rfl)(A:s.wantB ops (opAt ops i)=some true:=by kernel_rfl)(B:(opAt ops i).op=.store t x y:=by kernel_rfl)(C:(opAt ops i).dst=none:=by kernel_rfl)(D:(teOf P t).map (fun e=>e.size)=some new.length:=by kernel_rfl)(E:s.eval x=some (.v (.pointer (some ⟨b,off,none⟩))):=by kernel_rfl)(F:s.eval y=some (.v v):=by kernel_rfl):SXi P N S0 w0 ops Q i s Φ:=by
 unfold SXi
 rw[jN m]
 intro L a w hi
 refine wpList_step fun Y G=>?_
 rw[uQ (hi.want A)]
 obtain⟨Z,n,H⟩:=vI.1 D
 have p:=o w hi.box.self
 obtain⟨w',I,f,J⟩:=dS (P:=P) n (g:=b) (bt:=bt) (off:=off) (cur:=cs) (v:=v) p (by rw[l];exact H.symm) (by rw[l];exact r) (fun c q=>by rw[l] at q;exact u c q)
 rw[l] at f
 unfold Oper.wp
 have M:=hi.eval E
 have O:=hi.eval F
 have h:(execOp a.eval (opAt ops i)).run P w=.ok .skip w':=by simp only[execOp,B,Sem.run_bind,M,O,AV.conc,I,Result.andThen_ok,Sem.run_pure]
 rw[h,Oper.upon_skip,C]
 have k:off<cs.length:=qO
 refine G _ _ (K L _ _ (hi.eff J (hi.notOwn (c:=cs[off]'k) (j:=off) (fun w R=>by have:=(o w R).cell off;rw[this];simp[k])) d p.lt (fun S T U V W=>⟨z S T U V,W.trans f⟩)))
theorem Zny {c:Code}{sl:SlL}{tmps:Array Value}(m:tmps.size=N)(k:sl.map (fun q=>tmps[q.1]?.map AV.v)=sl.map (fun q=>some q.2))(R:Box (fun _=>False) w Φ)(h:SXc P N S0 w Q c (ofL sl []) Φ):c.wp P Q { tmps:=tmps,defers:=[] } w:=by
 refine h (fun _=>0) _ w ⟨m,rfl,fun i x n=>?_,⟨fun b t o e=>(by cases e),fun b c e=>(by cases e),fun b e=>(by cases e),Fr.refl _ _,fun i b off e=>?_,fun b t o e=>(by cases e)⟩,?_⟩
 ·have d:=iL (f:=fun q:Nat × AV=>tmps[q.1]?.map AV.v) (g:=fun q=>some q.2) k (lP n)
  obtain⟨v,l,rfl⟩:=vI.1 d
  exact l
 ·have d:=iL (f:=fun q:Nat × AV=>tmps[q.1]?.map AV.v) (g:=fun q=>some q.2) k (lP e)
  obtain⟨v,l,e'⟩:=vI.1 d
  cases e'
 intro w' j
 exact R w' (j.mono (fun i _ p=>by obtain⟨b,e,_⟩:=p;cases e))
end
section
variable {N:Nat} {S0:Nat→Prop} {w0:World} {s:St} {Φ Ψ:World→Prop} {L:Nat→Nat} {a:Act} {w:World} {P:Program} {ops:Array Oper} {Q:Exit→Act→World→Prop}
theorem SXc.freezeN {c:Code}(b:Nat)(t:TypeId)(cs:List Value)(k:Nat→SlL)(j:BlL)(r:s.bl b=some (t,cs.map .v))(E:∀ g,(k g).map (fun q=>(s.sl q.1).map (frz b g))=(k g).map (fun q=>some q.2))(F:j.map (fun q=>s.bl q.1)=j.map (fun q=>some q.2))(G:j.all (fun q => !(Nat.beq q.1 b))=true)(H:∀ g,wfB (k g) j=true)(h:∀ g,(w0.heap.size≤g∨S0 g)→SXc P N S0 w0 Q c (ofL (k g) j) (fun w=>Φ w∧Blk t w g cs.toArray)):SXc P N S0 w0 Q c s Φ:=by
 intro L a w hi
 refine h (L b) (hi.mem.old b (by rw[r];rfl)) L a w ?_
 have m:=H (L b)
 unfold wfB at m
 rw[sA] at m
 have u:∀ i x,(ofL (k (L b)) j).bl i=some x→s.bl i=some x:=fun i x o=>iL (f:=fun q:Nat × TypeId×List AV=>s.bl q.1) (g:=fun q=>some q.2) F (lP o)
 have A:∀ i x,(ofL (k (L b)) j).bl i=some x→i≠b:=fun i x o e=>by
  have:=vF.1 G _ (lP o)
  simp[e] at this
 have l:∀ i,((ofL (k (L b)) j).bl i).isSome=true→(s.bl i).isSome=true∧i≠b:=fun i z=>by
  obtain⟨q,e⟩:=sV.1 z
  exact⟨by rw[u i q e];rfl,A i q e⟩
 have n:(s.bl b).isSome=true:=by rw[r];rfl
 have I:=hi.mem.blk b t _ r
 refine⟨hi.size,hi.df,fun i x o=>?_,⟨fun c t cs e=>hi.mem.blk c t cs (u c _ e),fun c d p J=>hi.mem.inj c d (l c p).1 (l d J).1,fun c p=>hi.mem.old c (l c p).1,hi.mem.ext,fun i c B e=>?_,fun c t cs e x o=>⟨(hi.mem.cel c t cs (u c _ e) x o).1,fun d B K=>?_⟩⟩,fun w' C=>⟨hi.box w' (C.mono (fun i _ z=>?_)),?_⟩⟩
 ·have D:=iL (f:=fun q:Nat × AV=>(s.sl q.1).map (frz b (L b))) (g:=fun q=>some q.2) (E (L b)) (lP o)
  simp only at D
  obtain⟨y,M,e⟩:=vI.1 D
  have:=hi.sl i y M
  rw[this,← e,ZiZ]
 ·exact vF.1 m.1 _ (lP e)
 ·have:=vF.1 (vF.1 m.2 _ (lP e)) x o
  rw[K] at this
  exact this
 ·obtain⟨c,p,e⟩:=z
  exact⟨c,(l c p).1,e⟩
 have:Blk t w (L b) cs.toArray:=by simpa [pW,Function.comp_def,AV.conc] using I
 refine this.fr C fun⟨c,p,e⟩=>?_
 exact (l c p).2 (hi.mem.inj c b (l c p).1 n e)
end
structure TermR where
 coef:ByteArray
 A:Option Addr
 cap:Nat
 exps:List Int
instance:Inhabited TermR:=⟨⟨⟨#[]⟩,none,0,[]⟩⟩
section
variable {P:Program} {o:Oper} {ρ:Operand→Value} {w:World} {t e:TypeId} {x ix:Operand}
theorem xQ {A:qA}{len cap i sz:Nat}(hA:A≠none)(h:i<len)(c:o.op=Op.indexAddr t x ix:=by kernel_rfl)(d:P.underlying t=some (.slice e):=by kernel_rfl)(f:(P.info? e).map (fun i=>i.size)=some sz:=by kernel_rfl)(g:ρ x=.slice A len cap:=by kernel_rfl)(hi:ρ ix=.int .i64 (i:Int):=by kernel_rfl):(execOp ρ o).run P w=.ok (.value (atA A (i*sz))) w:=by
 obtain⟨j,b,k⟩:=vI.1 f
 obtain⟨a,rfl⟩:∃ a,A=some a:=by cases A;exact absurd rfl hA;exact⟨_,rfl⟩
 have l:(0:Int)≤(i:Int)∧(i:Int)<(len:Int):=qO
 simp[execOp,c,Instr.indexAt,asIntOf,underlying,d,g,hi,h,sizeOf,typeInfo,b,k,Result.andThen,atA]
theorem ZkQ {bt:TypeId}{g:Nat}{cs:List Value}(b:Blk bt w g cs.toArray)(c:o.op=Op.load t x:=by kernel_rfl)(d:ρ x=.pointer (some ⟨g,0,none⟩):=by kernel_rfl)(ha:(teOf P t).map (fun e=>(e.agg,e.size))=some (true,cs.length):=by kernel_rfl) :
 (execOp ρ o).run P w=.ok (.value (.agg cs.toArray)) w:=by
 obtain⟨f,a,h⟩:=vI.1 ha
 injection h with ha hn
 have:=bV (P:=P) (w:=w) a (g:=g) (off:=0) (cs:=cs) hn.symm (fun i hi=>by rw[vW,b.cell];simp[hi]) ha
 simp only[execOp,c,d,Sem.run_bind,this,Result.andThen_ok,Sem.run_pure]
end
end Go.Proofs.YtenchljfmfgeoaaGreatDoor
