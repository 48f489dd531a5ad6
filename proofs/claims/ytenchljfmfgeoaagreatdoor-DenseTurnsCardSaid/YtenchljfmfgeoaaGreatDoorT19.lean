/-
 My texts Fnd, FlS, FlN, Nu, Nq, Nv, Nad, CrtM, Fermat, DecR, RStr, Frac, Rt, FlT, Reduce, Whole, Ra, Reduce2, Ts, Ai, Fs, Cmp, Tx, Sign, Dc, Len, Vl, PaM, Pa, Px, Gq, Nf, Num6, Num7, Nt, Nd, Len2, Nrd, RdK, Nm, Pt, Nw, Fu put together.
-/
import Derived.Test.YtenchljfmfgeoaaGreatDoorT15
import Derived.Test.YtenchljfmfgeoaaGreatDoorT07
import Derived.Test.YtenchljfmfgeoaaGreatDoorT06
import Derived.Test.YtenchljfmfgeoaaGreatDoorT11
import Derived.Test.YtenchljfmfgeoaaGreatDoorT08
import Derived.Test.YtenchljfmfgeoaaGreatDoorT10
import Derived.Test.YtenchljfmfgeoaaGreatDoorT02
import Derived.Lib.Bytealg
set_option maxRecDepth 100000
set_option maxHeartbeats 8000000
namespace Go.Proofs.YtenchljfmfgeoaaGreatDoor
open Go.RowKit Tryz
/-! ### Clone -/
theorem ZnI (w:World)(a:qA)(n c:Nat):(binOp .eql 107 (.slice a n c) (.slice none 0 0)).run prog w=.ok (.bool a.isNone) w :=
 Lib.run_eql_slice_nil w 107 141 a n c 0 0 underlying107
theorem Zjm (A:qA)(xs:qN)(n c:Nat)(w:World)(p:xs.length=n)(q:zF .u64 w A xs)(C:n≤4294967296) :
 yA 145 #[.slice A n c] w (Zgd w xs):=by
 have r:=zh q
 have s:=zh p
 clear q p
 have t:=ZnI
 cases A with
 | none =>
  have x:Hid (xs=[]):=by
   rcases xs with _|⟨y,D⟩
   ·rfl
   obtain⟨b,z,h,_⟩:=r.out qS;cases h
  go_enter func145,ntmps145
  go_wp2
  go_ret
  rw[x.out]
  exact⟨none,0,rfl,Buf.nil,Fr.refl _ _,fun b d=>by obtain⟨a,ha,_⟩:=d;cases ha⟩
 | some ad =>
  go_enter func145,ntmps145
  go_wp2_with (
   at_builtin
   refine wR rfl _ _ _ rfl _ .u64 8 underlying107 gS (some ⟨w.heap.size,0,none⟩) (some ad) 0 n 0 c rfl rfl [] xs rfl s.out ?_ (r.out.alloc _) (by simp only[maxLen];omega) qO ?_
   ·exact Or.inr ⟨_,rfl,Own.new w _ _ [] [],⟨#[],heap_alloc_new w _,rfl⟩,uG _,by simp only[maxLen];omega⟩
   intro B e E f g j
   have k:=zh f
   have l:=zh g
   have o:=zh j
   clear f g j)
  go_ret
  refine⟨B,e,?_,by simpa using k.out,?_,?_⟩
  ·rw[s.out];simp
  ·refine ((Fr.refl (fun _=>False) w).alloc _).next l.out fun i hi d=>?_
   obtain⟨a,ha,d⟩:=d
   injection ha with ha
   subst ha
   simp at d;omega
  intro b d
  rcases o.out b d with ⟨a,ha,h⟩|h
  ·injection ha with ha;subst ha;simp at h;omega
  simp at h;omega
theorem Zej (A:qA)(xs:qN)(c:Nat)(w:World)(f:zF .u64 w A xs)(g:xs.length≤4294967296)(d:0<xs.length) :
 yA 145 #[.slice A xs.length c] w (fun i w'=>∃ b c,i=.returned (.slice (some ⟨b,0,none⟩) xs.length c)∧w.heap.size≤b∧xs.length≤c∧Ext w w'∧Own .u64 141 w' b xs):=by
 refine (Zjm A xs xs.length c w rfl f g).mono ?_
 rintro e w' ⟨p,a,rfl,j,Q,k⟩
 rcases j with ⟨_,h,_⟩|⟨b,rfl,l,_,o,_⟩
 ·rw[h] at d;simp at d
 exact⟨b,a,rfl,k b ⟨_,rfl,rfl⟩,o,Q,l⟩
/-! ### compare,of numbers -/
/-! ### the long division -/
def OvR (N V n L k:Nat) (zs qs:List Nat):Prop:=zs.length=n∧Dig W64 zs∧qs.length=L∧Dig W64 qs∧val W64 zs+V*(W64^k*val W64 (qs.drop k))=N∧val W64 zs<V*W64^k
theorem OvR.start {N V n L:Nat}{zs:qN}(c:zs.length=n)(d:Dig W64 zs)(b:val W64 zs=N)(a:N<V*W64^L):OvR N V n L L zs (List.replicate L 0) :=
 ⟨c,d,qS,Dig.replicate zI _,by rw[vG qS];simpa using b,by rw[b];exact a⟩
theorem Zl8 {o n:Nat}{zs:qN}(c:o+n+1≤zs.length)(h:val W64 zs<W64^(o+n+1)):val W64 zs=val W64 (zs.take o)+W64^o*win o n zs∧val W64 (zs.drop (o+n+1))=0:=by
 have a:=wA (B:=W64) (xs:=zs) (o+n+1)
 rw[vA c] at a
 have b:val W64 (zs.drop (o+n+1))=0:=by
  refine Nat.eq_zero_of_not_pos fun d=>?_
  have:=uI (W64^(o+n+1)) d
  omega
 rw[b,tD,tB,cI qO] at a
 exact⟨a,b⟩
theorem OvR.ready {N V n L j m:Nat}{zs a:qN}(h:OvR N V n L (j+1) zs a)(b:V<W64^m)(i:j+m+1≤n):val W64 zs=val W64 (zs.take j)+W64^j*win j m zs∧val W64 (zs.drop (j+m+1))=0∧win j m zs<W64*V:=by
 obtain⟨k,l,o,p,q,c⟩:=h
 have d:val W64 zs<W64^(j+m+1):=by
  refine uQ c ?_
  rw[show j+m+1=m+(j+1) by omega,uT W64 m]
  exact uE _ (pS b)
 obtain⟨f,g⟩:=Zl8 qO d
 refine⟨f,g,?_⟩
 have:W64^j*win j m zs<W64^j*(W64*V):=by
  have e:V*W64^(j+1)=W64^j*(W64*V):=by rw[uN,uF V,uH]
  omega
 exact sN this
theorem OvR.step {N V n L j m:Nat}{zs b a:qN}(h:OvR N V n L (j+1) zs b)(f:V<W64^m)(c:0<V)(g:j+m+1≤n)(i:j<L)(k:WinR j m zs a)(l:win j m a=win j m zs%V) :
 OvR N V n L j a (b.set j (win j m zs/V)):=by
 obtain⟨H,o,p⟩:=h.ready f g
 obtain⟨q,r,s,t,x,I⟩:=h
 obtain⟨y,z,A,C⟩:=k
 have D:win j m zs/V<W64:=by rw[vO c];exact p
 have d:=wA (B:=W64) (xs:=a) (j+m+1)
 rw[C,o,tD,tB,cI qO,A,l] at d
 have e:=vQ (win j m zs) V
 have J:W64^j*win j m zs=V*(W64^j*(win j m zs/V))+W64^j*(win j m zs%V):=by
  conv=>lhs;rw[←e]
  rw[uK,tE]
 refine⟨y.trans q,z,by simpa using s,t.set j D,?_,?_⟩
 ·have E:(b.set j (win j m zs/V))[j]?.getD 0=win j m zs/V:=by rw[sL qO];rfl
  rw[xO j (by simp;omega),E,vZ qO,d]
  rw[uN] at x
  have K:V*(W64^j*(win j m zs/V+W64*val W64 (b.drop (j+1))))=V*(W64^j*(win j m zs/V))+V*(W64^j*W64*val W64 (b.drop (j+1))):=by
   rw[uK (W64^j),uK V,uH (W64^j)]
  omega
 rw[d]
 have F:=wL (r.take j)
 rw[uM,vA qO] at F
 have G:=uI (W64^j) (uP (win j m zs) c)
 rw[Nat.mul_succ] at G
 rw[uF V]
 omega
theorem OvR.done {N V n L:Nat}{zs b:qN}(h:OvR N V n L 0 zs b)(d:0<V):val W64 b=N/V∧val W64 zs=N%V:=by
 obtain⟨e,f,g,i,c,a⟩:=h
 rw[vT,tP] at a
 rw[vT,rK,tX] at c
 rw[←c]
 rw[Nat.add_mul_div_left _ _ d,tJ a,rH,vL a]
 exact⟨qO,rfl⟩
theorem Zot {ys:qN}{k t:Nat}(d:Dig W64 ys)(e:ys.length=k+1)(f:Trim ys)(a:ys[k]?.getD 0=t):wl (val W64 ys*2^(64-blen t))=ys.length:=by
 have g:0<t:=sC (by rw[←a];exact f k e)
 have i:=Zdc d e f a
 have b:t<2^64:=by have:=a ▸ d.getD zI k;rw[zR] at this;exact this
 have j:=xM.2 b
 have c:0<val W64 ys:=by have:=xA (B:=W64) k (show k<ys.length by omega);rw[uD qO,a] at this;have:=uI (W64^k) g;have:=vE (n:=k) zI;omega
 have l:blen (val W64 ys*2^(64-blen t))=64*(k+1):=by rw[bL c,i];omega
 have o:wl (val W64 ys*2^(64-blen t))≤k+1:=lR.2 (by rw[fU];exact xM.1 qO)
 have p:¬ wl (val W64 ys*2^(64-blen t))≤k:=fun h=>by
  have:=lR.1 h
  rw[fU] at this
  have:=xM.2 this
  omega
 omega
theorem ZoZ {xs ys:qN}{s:Nat}(a:Dig W64 xs)(b:Trim ys)(g:0<ys.length)(h:ys.length≤xs.length):val W64 xs*2^s<val W64 ys*2^s*W64^(xs.length-ys.length+1):=by
 obtain⟨k,c⟩:∃ k,ys.length=k+1:=⟨ys.length-1,qO⟩
 have d:=wL a
 have e:=Zb4 (B:=W64) b c
 have f:W64^xs.length≤val W64 ys*W64^(xs.length-ys.length+1):=by
  rw[show xs.length=k+(xs.length-ys.length+1) by omega,uT]
  rw[show k+(xs.length-ys.length+1)-ys.length+1=xs.length-ys.length+1 by omega]
  exact uE _ e
 rw[Nat.mul_right_comm]
 exact (qC (p2 s)).2 (uQ d f)
theorem Zl9 {ws:qN}{n:Nat}(b:Dig W64 ws)(c:ws.length≤n):let a:=ws.take n ++ (List.replicate n 0).drop ws.length;a.length=n∧Dig W64 a∧val W64 a=val W64 ws:=by
 intro a
 have e:a=ws ++ List.replicate (n-ws.length) 0:=by show ws.take n ++ (List.replicate n 0).drop ws.length=_;rw[uD c,List.drop_replicate]
 rw[e]
 exact⟨by simp;omega,b.append (Dig.replicate zI _),by rw[kJ,iF];simp⟩
theorem Zou {xs:qN}{s:Nat}(a:Dig W64 xs)(b:s≤64):wl (val W64 xs*2^s)≤xs.length+1:=lR.2 (by
 have c:=wL a
 rw[uN]
 have d:2^s≤W64:=by rw[zR];exact uW (n:=2) qD b
 exact uQ ((qC (p2 s)).2 c) (uI _ d))
theorem Zov {x y s:Nat}:x*2^s%(y*2^s)/2^s=x%y:=by rw[rU,qM _ (p2 s)]
theorem Zow {x y s:Nat}:x*2^s/(y*2^s)=x/y:=qX _ _ (p2 s)
theorem Zat {b n c v:Nat}{xs:qN}{w:World}(a:Own .u64 141 w b xs)(f:Dig W64 xs)(g:xs.length=n)(h:val W64 xs=v)(i:n≤1099511627776)(d:n≤c):yA 144 #[.slice (some ⟨b,0,none⟩) n c] w (wM w v):=by
 subst g h
 refine (Zcr _ xs _ w a.shows0 i d).mono ?_
 rintro e w' ⟨rfl,Q⟩
 exact⟨_,rfl,(zD.of_own a f d).ext Q,Q⟩
theorem ZnJ {ys:qN}{y:Nat}(h:ys.length=1)(e:ys[0]?.getD 0=y):val W64 ys=y:=by
 obtain⟨z,rfl⟩:=List.length_eq_one_iff.1 h
 simp at e
 simp[e]
theorem Blk.own1 {w:World}{b r:Nat}(h:Blk 141 w b #[.int .u64 ((r:Nat):Int)]):Own .u64 141 w b [r]:=⟨[],qS,h⟩
/-! ### of numbers -/
section
variable {u v:Value} {m n:Nat} {w:World}
theorem kT (f:zD w u m)(g:zD w v n)(a:wl m≤4294967296)(b:wl n≤4294967296):yA 135 #[u,v] w (wM w (m+n)):=by
 obtain⟨A,h,c,rfl,s,i,d,j,rfl⟩:=f
 obtain⟨k,l,o,rfl,p,q,e,r,rfl⟩:=g
 rw[←xH d j] at a
 rw[←xH e r] at b
 exact Zkw A k h l c o w i q a b d e
theorem bW (g:zD w u m)(h:zD w v n)(d:wl m≤4294967296)(a:n≤m):yA 137 #[u,v] w (wM w (m-n)):=by
 obtain⟨A,i,c,rfl,t,j,e,k,rfl⟩:=g
 obtain⟨l,o,p,rfl,q,r,f,s,rfl⟩:=h
 have b:=wE a
 rw[←xH e k] at d b
 rw[←xH f s] at b
 exact Zjg A l i o c p w j r d qO e f b a
theorem Zbz (f:zD w u m)(g:zD w v n)(a:wl m≤4294967296)(b:wl n≤4294967296):yA 143 #[u,v] w (wM w (m*n)):=by
 obtain⟨A,h,c,rfl,s,i,d,j,rfl⟩:=f
 obtain⟨k,l,o,rfl,p,q,e,r,rfl⟩:=g
 rw[←xH d j] at a
 rw[←xH e r] at b
 exact Zjh A k h l c o w i q a b d e
theorem kO (k:Nat)(b:zD w u m)(d:wl m≤4294967296)(f:k≤274877906944):yA 101 #[u,.int .i64 ((k:Nat):Int)] w (wM w (m*2^k)):=by
 have a:=b
 obtain⟨A,g,c,rfl,j,h,e,i,rfl⟩:=b
 rw[←xH e i] at d
 exact Zny A g c k w a h d e f
theorem jR (k:Nat)(b:zD w u m)(d:wl m≤4294967296)(f:k≤274877906944):yA 140 #[u,.int .i64 ((k:Nat):Int)] w (wM w (m/2^k)):=by
 have a:=b
 obtain⟨A,g,c,rfl,j,h,e,i,rfl⟩:=b
 rw[←xH e i] at d
 exact Zkx A g c k w a h d e f
theorem lY (e:zD w u m)(a:wl m≤4294967296):yA 139 #[u] w (RetV w (.int .i64 ((blen m:Nat):Int))):=by
 obtain⟨A,f,c,rfl,h,g,b,d,rfl⟩:=e
 rw[←xH b d] at a
 exact ZhG A f c w g a b d
theorem bX (d:Glob w)(e:zD w u m)(a:wl m≤4294967296)(f:0<m):yA 171 #[u] w (RetV w (.int .i64 ((tzn m:Nat):Int))):=by
 obtain⟨A,g,c,rfl,j,h,b,i,rfl⟩:=e
 rw[←xH b i] at a
 exact Zjl A g c w h a b d f
theorem cJ (i:Nat)(a:zD w u m)(hi:i≤274877906944):yA 170 #[u,.int .i64 ((i:Nat):Int)] w (RetV w (.bool (decide (m/2^i%2=1)))):=by
 obtain⟨A,b,c,rfl,f,d,e,g,rfl⟩:=a
 exact Zl6 A b c w d e i hi
theorem gH (e:zD w u m)(f:zD w v n)(a:wl m≤4294967296):yA 136 #[u,v] w (RetV w (.int .i64 (cmpI ((m:Nat):Int) ((n:Nat):Int)))):=by
 obtain⟨A,g,c,rfl,r,h,b,d,rfl⟩:=e
 obtain⟨i,j,k,rfl,l,o,p,q,rfl⟩:=f
 rw[←xH b d] at a
 exact ZgO A i g j c k w h o a b p d q
end
theorem ZkE (A f:qA)(xs ys:qN)(c q:Nat)(w:World)(hX:zF .u64 w A xs)(hY:zF .u64 w f ys)(hl:xs.length≤4294967295)(E0:ys.length≤4294967296)(hx:Dig W64 xs)(hy:Dig W64 ys)(hN:zD w (.slice A xs.length c) (val W64 xs))(hM:zD w (.slice f ys.length q) (val W64 ys))(tx:Trim xs)(ty:Trim ys)(f0:0<val W64 ys) :
 yA 158 #[.slice A xs.length c,.slice f ys.length q] w (ZaW w (val W64 xs/val W64 ys) (val W64 xs%val W64 ys)):=by
 have hw:wl (val W64 xs)≤4294967296:=by rw[←xH hx tx];omega
 have F0:wl (val W64 ys)≤4294967296:=by rw[←xH hy ty];exact E0
 refine zQ (Φ:=fun w=>(((zD w (.slice A xs.length c) (val W64 xs)∧zF .u64 w A xs)∧zD w (.slice f ys.length q) (val W64 ys))∧zF .u64 w f ys)) func158 rfl qK (fun w' hf=>⟨⟨⟨hN.ext hf,hX.ext hf⟩,hM.ext hf⟩,hY.ext hf⟩) ?_
 refine yY (xq 2 [eS1 4 none 0 0,eS1 5 none 0 0] [] ?_)
 refine yZ (zC (yY (xq 2 [eS1 13 A xs.length c,eS1 14 f ys.length q] [] ?_)))
 refine xqc 136 [.slice A xs.length c,.slice f ys.length q] 15 (fun _:Unit=>yI (cmpI ((val W64 xs:Nat):Int) ((val W64 ys:Nat):Int))) _ (fun w R Q=>yN (gH Q.1.1.1 Q.1.2 hw)) fun xx=>?_
 refine xq 1 [(16,.v (.bool (decide ((cmpI ((val W64 xs:Nat):Int) ((val W64 ys:Nat):Int))<0))))] [] ?_
 refine xe (zA ?_)
 refine yQ ((decide ((cmpI ((val W64 xs:Nat):Int) ((val W64 ys:Nat):Int))<0))) (fun G=>?_) fun G=>?_
 ·have P:=fI.1 (uA G)
  refine yY (xq 3 [eS1 4 none 0 0,eS1 5 A xs.length c] [] ?_)
  refine yZ (zG (zK ?_))
  refine yR (.tuple #[.slice none 0 0,.slice A xs.length c]) fun w' R Q=>?_
  exact⟨_,_,rfl,by rw[tJ P];exact zD.zero _,by rw[vL P];exact Q.1.1.1.1,R⟩
 have G0:val W64 ys≤val W64 xs:=Nat.le_of_not_lt (fun h'=>uB G (fI.2 h'))
 have N0:ys.length≤xs.length:=by have:=wE G0;rwa [←xH hy ty,← xH hx tx] at this
 have O0:0<ys.length:=sO.2 (fun e=>by rw[e] at f0;simp at f0)
 refine zJ (zA (zC (yY (xq 3 [yB 20 ((((ys.length:Nat):Int):Int) == 1)] [] ?_))))
 refine xe (zA ?_)
 refine yQ (((((ys.length:Nat):Int):Int) == 1)) (fun H=>?_) fun H=>?_
 ·have V:=tG.1 H
  refine yY (xq 1 [eS1 21 A xs.length c] [] ?_)
  refine ZlV 145 [.slice A xs.length c] (d:=22) (k:=.u64) (e:=141) xs (fun w R Q=>Zej A xs c w Q.1.1.1.2 qO qO) fun r cc g0 L0 _=>?_
  refine xr 1 [eS1 0 A xs.length c,eS1 1 f ys.length q,eS1 4 none 0 0,eS1 5 none 0 0,eS1 6 (yL r) xs.length cc] [] ?_
  refine yZ (yY (xq 2 [eS1 23 (yL r) xs.length cc,eS1 24 f ys.length q] [] ?_))
  refine xqk 25 (atA f 0) (fun w R Q=>xW (t:=107) (e:=141) (x:=.tmp 24) (ix:=(Operand.const (Value.int IntKind.i64 0))) (len:=ys.length) (cap:=q) (i:=0) (((Q.1).self.1.2).ne (j:=0) qO) qO) ?_
  obtain⟨B,D⟩:=yE (ys[0]?.getD 0)
  refine xqk 26 (yX (B:Int)) (fun w R Q=>by rw[←D];exact wV (t:=141) (x:=.tmp 25) ((Q.1).self.1.2) (j:=0) qO) ?_
  have h0:=ZnJ qO D
  refine Zbv (xs:=xs) (α:=List Nat) 146 [.slice (yL r) xs.length cc, yX (B:Int)] (d:=27) (fun x=>yX ((val W64 xs%B:Nat):Int)) (fun x=>x.length=xs.length∧Dig W64 x∧val W64 x=val W64 xs/B) (fun x=>x) r (fun x w=>(Box (fun j=>r≤j) w (fun w=>((((zD w (.slice A xs.length c) (val W64 xs)∧zF .u64 w A (xs))∧zD w (.slice f ys.length q) (val W64 ys))∧zF .u64 w f (ys))∧True))∧Own .u64 141 w r (x))) (fun w Q=>Q.2) qO (Or.inl g0) (fun w R Q=>Zas r _ _ _ _ Q.2 qO hx qO (by rw[←D];exact hy.getD zI _)) (fun x w w' hp Q N W=>⟨((Q.1).fr (N.mono (fun _ _ e=>by rw[e];exact uG _))),W⟩) fun x I=>?_
  obtain⟨M0,rfl⟩:∃ y,y=x:=⟨_,rfl⟩
  refine xr 1 [eS1 0 A xs.length c,eS1 1 f ys.length q,eS1 4 none 0 0,eS1 5 none 0 0,eS1 6 (yL r) xs.length cc,yU 7 ((val W64 xs%B:Nat):Int)] [] ?_
  refine yZ (yY (xq 1 [eS1 28 (yL r) xs.length cc] [] ?_))
  refine xqc 144 [.slice (yL r) xs.length cc] 29 xC _ (fun w R Q=>yM zV (Zat Q.2 I.2.1 I.1 I.2.2 qO qO)) fun⟨X,Y,Z⟩=>?_
  refine xq 1 [yU 30 ((val W64 xs%B:Nat):Int)] [] ?_
  refine yD (d:=31) (fun zb:Nat=>.slice (yL zb) 1 1) (fun zb zw=>Blk 141 zw zb #[yX ((val W64 xs%B:Nat):Int)]) (fun w R Q=>lN (t:=107) (e:=141) (n:=1) (sz:=1) (z:=yX 0) (parts:=#[(0,Operand.tmp 30)]) qK qK qK qK qK qK) fun i0=>?_
  refine xr 0 [eS1 0 A xs.length c,eS1 1 f ys.length q,eS1 4 none 0 0,eS1 5 none 0 0,eS1 29 X Y Z,eS1 31 (yL i0) 1 1] [] ?_
  refine xqc 144 [.slice (yL i0) 1 1] 32 xC _ (fun w R Q=>yM zV (Zat (Q.2).own1 (Dig.nil.cons (qJ (uP _ qO) (by rw[←D];exact hy.getD zI _))) (show [val W64 xs%B].length=1 from rfl) (show val W64 [val W64 xs%B]=val W64 xs%B by simp) qO qO)) fun⟨j0,k0,l0⟩=>?_
  refine xq 2 [eS1 4 X Y Z,eS1 5 j0 k0 l0] [] ?_
  refine yZ (zG (zK ?_))
  refine yR (.tuple #[.slice X Y Z,.slice j0 k0 l0]) fun w' R Q=>?_
  exact⟨_,_,rfl,by rw[h0];exact Q.1.1.2,by rw[h0];exact Q.2,R⟩
 have V:=wF H
 refine zJ (zA (yY (xq 4 [eS1 33 f ys.length q,yJ 36 (IntKind.i64.wrap (((ys.length:Nat):Int)-1))] [] ?_)))
 rw[yW (((ys.length:Nat):Int)-1) (((ys.length-1:Nat):Int)) qO]
 refine xqk 37 (atA f (ys.length-1)) (fun w R Q=>xW (t:=107) (e:=141) (x:=.tmp 33) (ix:=.tmp 36) (len:=ys.length) (cap:=q) (i:=ys.length-1) ((Q.1.2).ne (j:=ys.length-1) qO) qO) ?_
 obtain⟨m0,J⟩:=yE (ys[ys.length-1]?.getD 0)
 refine xqk 38 (yX (m0:Int)) (fun w R Q=>by rw[←J];exact wV (t:=141) (x:=.tmp 37) (Q.1.2) (j:=ys.length-1) qO) ?_
 obtain⟨t,rfl⟩:∃ t,t=m0:=⟨_,rfl⟩
 refine xqc 194 [yX (t:Int)] 39 (fun _:Unit=>yI ((64-blen t:Nat):Int)) _ (fun w R Q=>yN (Zjk t _ (by rw[←J];exact hy.getD zI _))) fun xx=>?_
 refine xq 1 [yJ 8 ((64-blen t:Nat):Int)] [] ?_
 refine yZ (yY (xq 2 [eS1 40 f ys.length q,yJ 41 ((64-blen t:Nat):Int)] [] ?_))
 refine xqc 101 [.slice f ys.length q, yI ((64-blen t:Nat):Int)] 42 xC _ (fun w R Q=>yM zV (kO (64-blen t) Q.1.1.1.2 F0 qO)) fun⟨g,n0,o⟩=>?_
 refine xq 1 [eS1 9 g n0 o] [] ?_
 refine yZ (zC ?_)
 refine SXc.know (p:=n0=(wds (val W64 ys*2^(64-blen t))).length∧(wds (val W64 ys*2^(64-blen t))).length≤o) (fun w _ Q=>(Q.2).lens) fun O=>?_
 obtain⟨dd,C⟩:∃ dd,dd=wds (val W64 ys*2^(64-blen t)):=⟨_,rfl⟩
 rw[←C] at O
 obtain⟨rfl,P0⟩:=O
 have a0:Dig W64 dd:=by rw[C];exact (gQ _).1
 have o0:Trim dd:=by rw[C];exact Zdv _
 have b0:val W64 dd=val W64 ys*2^(64-blen t):=by rw[C];exact (gQ _).2
 have c0:dd.length=ys.length:=by rw[C,Zib];exact Zot (k:=ys.length-1) hy qO ty J
 have K:0<val W64 dd:=dK o0 zI (fun e=>by rw[e] at c0;simp at c0;omega)
 have p0:=wL a0
 refine zB (xq 3 [yJ 45 (IntKind.i64.wrap (((xs.length:Nat):Int)+1))] [] ?_)
 rw[yW (((xs.length:Nat):Int)+1) (((xs.length+1:Nat):Int)) qO]
 refine Zbw (d:=46) (t:=107) (e:=141) (k:=.u64) (kl:=.i64) (kc:=.i64) (l:=.tmp 45) (c:=.tmp 45) (xs.length+1) 8 qO qD fun b S q0=>?_
 have hA:∀ a,g=some a→a.block≠b:=fun a ha=>Nat.ne_of_lt (q0 a.block (fun w Q=>(Q.2).shows.lt (by rw[←C,c0];omega) ha))
 refine xr 1 [eS1 0 A xs.length c,eS1 1 f ys.length q,eS1 4 none 0 0,eS1 5 none 0 0,yJ 8 ((64-blen t:Nat):Int),eS1 9 g dd.length o,eS1 10 (yL b) (xs.length+1) (xs.length+1)] [] ?_
 refine yZ (yY (xq 3 [eS1 47 (yL b) (xs.length+1) (xs.length+1),eS1 48 A xs.length c,yJ 49 ((64-blen t:Nat):Int)] [] ?_))
 refine xqc 101 [.slice A xs.length c, yI ((64-blen t:Nat):Int)] 50 xC _ (fun w R Q=>yM zV (kO (64-blen t) (Q.1).self.1.1.1.1.1.1 hw qO)) fun⟨H0,r0,s0⟩=>?_
 refine SXi.know (p:=r0=(wds (val W64 xs*2^(64-blen t))).length∧(wds (val W64 xs*2^(64-blen t))).length≤s0) (fun w _ Q=>(Q.2).lens) fun O=>?_
 have T:=Zou (s:=64-blen t) hx qO
 rw[←Zib] at T
 obtain⟨t0,u0,d0⟩:=Zl9 (n:=xs.length+1) (gQ (val W64 xs*2^(64-blen t))).1 T
 rw[(gQ _).2] at d0
 obtain⟨zz,v0⟩:=yE ((wds (val W64 xs*2^(64-blen t))).take (xs.length+1) ++ (List.replicate (xs.length+1) 0).drop (wds (val W64 xs*2^(64-blen t))).length)
 rw[v0] at t0 u0 d0
 refine Znu (d:=51) (dx:=Operand.tmp 47) (sx:=Operand.tmp 50) (dT:=107) (sT:=107) (e:=141) (k:=.u64) (sp:=H0) (mid:=List.replicate (xs.length+1) 0) (ys:=wds (val W64 xs*2^(64-blen t))) (n:=xs.length+1) (m:=r0) (dc:=xs.length+1) (sc:=s0) b (fun w=>((Box (fun j=>b≤j) w (fun w=>((((((zD w (.slice A xs.length c) (val W64 xs)∧zF .u64 w A (xs))∧zD w (.slice f ys.length q) (val W64 ys))∧zF .u64 w f (ys))∧True)∧True)∧zD w (.slice g dd.length o) (val W64 ys*2^(64-blen t))))∧Own .u64 141 w b (zz))∧True)) qS O.1.symm qS (fun w Q=>Q.1.2) (fun w Q=>(Q.2).shows) (Or.inl S) (fun w w' Q N W=>⟨⟨((Q.1.1).fr (N.mono (fun _ _ e=>by rw[e];exact uG _))),(by rw[←v0];rwa [rJ] at W)⟩,trivial⟩) ?_
 refine xr 0 [eS1 0 A xs.length c,eS1 1 f ys.length q,eS1 4 none 0 0,eS1 5 none 0 0,yJ 8 ((64-blen t:Nat):Int),eS1 9 g dd.length o,eS1 10 (yL b) (xs.length+1) (xs.length+1)] [] ?_
 refine yZ (yY (xq 5 [yJ 56 (IntKind.i64.wrap (((xs.length:Nat):Int)-((ys.length:Nat):Int)))] [] ?_))
 rw[yW (((xs.length:Nat):Int)-((ys.length:Nat):Int)) (((xs.length-(ys.length):Nat):Int)) qO]
 refine xq 1 [(57,.v (yI (IntKind.i64.wrap (((xs.length-(ys.length):Nat):Int)+1))))] [] ?_
 rw[show IntKind.i64.wrap ((((xs.length-(ys.length):Nat):Int)+1))=((xs.length-(ys.length)+1:Nat):Int) by rw[IntKind.wrap_i64];omega]
 refine Zbw (d:=58) (t:=107) (e:=141) (k:=.u64) (kl:=.i64) (kc:=.i64) (l:=.tmp 57) (c:=.tmp 57) (xs.length-(ys.length)+1) 8 qO qD fun r22 w0 x0=>?_
 have Q0:b<r22:=x0 b (fun w Q=>(Q.1.2).lt)
 refine xr 1 [eS1 1 f ys.length q,eS1 4 none 0 0,eS1 5 none 0 0,yJ 8 ((64-blen t:Nat):Int),eS1 9 g dd.length o,eS1 10 (yL b) (xs.length+1) (xs.length+1),eS1 11 (yL r22) (xs.length-(ys.length)+1) (xs.length-(ys.length)+1)] [] ?_
 refine yZ (zC (yY (xq 3 [(61,.v (yI (IntKind.i64.wrap (((xs.length-(ys.length)+1:Nat):Int)-1))))] [] ?_)))
 rw[yW (((xs.length-ys.length+1:Nat):Int)-1) (((xs.length-ys.length+1:Nat):Int)-1) qO]
 refine xq 1 [yJ 12 (((xs.length-ys.length+1:Nat):Int)-1)] [] ?_
 refine yZ (zO ?_)
 refine SXc.weak [eS1 1 f ys.length q,eS1 4 none 0 0,eS1 5 none 0 0,yJ 8 ((64-blen t:Nat):Int),eS1 9 g dd.length o,eS1 10 (yL b) (xs.length+1) (xs.length+1),eS1 11 (yL r22) (xs.length-(ys.length)+1) (xs.length-(ys.length)+1),yJ 12 ((((xs.length-ys.length+1):Nat):Int)-1)] [] (Ψ:=fun w=>((Box (fun j=>b≤j) w (fun w=>((((((zD w (.slice A xs.length c) (val W64 xs)∧zF .u64 w A (xs))∧zD w (.slice f ys.length q) (val W64 ys))∧zF .u64 w f (ys))∧True)∧True)∧zD w (.slice g dd.length o) (val W64 ys*2^(64-blen t))))∧Own .u64 141 w b (zz))∧Own .u64 141 w r22 ((List.replicate (xs.length-(ys.length)+1) 0)))) (zU.of qK) qK (fun w Q=>⟨⟨(Q.1).self.1.1,(Q.1).self.1.2⟩,Q.2⟩) ?_
 refine xQ (fun nn ss ff=>∃ (k:Nat) (E qs:List Nat),ss=ofL [eS1 1 f ys.length q,eS1 4 none 0 0,eS1 5 none 0 0,yJ 8 ((64-blen t:Nat):Int),eS1 9 g dd.length o,eS1 10 (yL b) (xs.length+1) (xs.length+1),eS1 11 (yL r22) (xs.length-(ys.length)+1) (xs.length-(ys.length)+1),yJ 12 ((k:Int)-1)] []∧ff=(fun w=>((Box (fun j=>b≤j) w (fun w=>((((((zD w (.slice A xs.length c) (val W64 xs)∧zF .u64 w A (xs))∧zD w (.slice f ys.length q) (val W64 ys))∧zF .u64 w f (ys))∧True)∧True)∧zD w (.slice g dd.length o) (val W64 ys*2^(64-blen t))))∧Own .u64 141 w b (E))∧Own .u64 141 w r22 (qs)))∧(OvR (val W64 xs*2^(64-blen t)) (val W64 dd) (xs.length+1) (xs.length-ys.length+1) k E qs)∧(k≤xs.length-ys.length+1)∧nn=(1+k)) ((1+(xs.length-ys.length+1))) ⟨(xs.length-ys.length+1),zz,(List.replicate (xs.length-(ys.length)+1) 0),rfl,rfl,(OvR.start t0 u0 d0 (by rw[b0];exact ZoZ hx ty qO qO)),uG _,rfl⟩ ?_
 rintro nn ss ff ⟨k,E,qs,rfl,rfl,F,hk,rfl⟩
 refine zC (yY (xq 2 [(63,.v (.bool (decide (((k:Int)-1)≥0))))] [] ?_))
 refine xe (zA ?_)
 refine yQ ((decide (((k:Int)-1)≥0))) (fun L=>?_) fun L=>?_
 ·have e0:=uA L
  obtain⟨j,rfl⟩:∃ j,k=j+1:=⟨k-1,qO⟩
  rw[show ((((j+1):Nat):Int)-1)=(j:Int) by omega]
  refine zJ (zA (zC (zO (zB (xq 8 [eS1 66 (yL r22) (xs.length-(ys.length)+1) (xs.length-(ys.length)+1),yJ 67 (j:Int),eS1 68 (yL b) (xs.length+1) (xs.length+1),yJ 69 (j:Int),yJ 73 (IntKind.i64.wrap ((j:Int)+((ys.length:Nat):Int)))] [] ?_)))))
  rw[yW ((j:Int)+((ys.length:Nat):Int)) (((j+(ys.length):Nat):Int)) qO]
  refine xq 1 [(74,.v (yI (IntKind.i64.wrap (((j+(ys.length):Nat):Int)+1))))] [] ?_
  rw[show IntKind.i64.wrap ((((j+(ys.length):Nat):Int)+1))=((j+(ys.length)+1:Nat):Int) by rw[IntKind.wrap_i64];omega]
  refine xqk 75 (.slice (some ⟨b,j,none⟩) (dd.length+1) (xs.length+1-j)) (fun w R Q=>ZlW (t:=107) (e:=141) (x:=.tmp 68) (len:=(xs.length+1)) (cap:=(xs.length+1)) (l:=j) (h:=j+(ys.length)+1) (n:=dd.length+1) (m:=xs.length+1-j) (lo:=.tmp 69) (hi:=.tmp 74) qO qO qO qO qO) ?_
  refine xq 1 [eS1 76 g dd.length o] [] ?_
  refine Zbv (xs:=E) (α:=List Nat) 195 [.slice (some ⟨b,j,none⟩) (dd.length+1) (xs.length+1-j),.slice g dd.length o] (d:=77) (fun x=>yX ((win j dd.length E/val W64 dd:Nat):Int)) (fun x=>WinR j dd.length E x∧win j dd.length x=win j dd.length E%val W64 dd) (fun x=>x) b (fun x w=>((Box (fun j=>b≤j) w (fun w=>((((((zD w (.slice A xs.length c) (val W64 xs)∧zF .u64 w A (xs))∧zD w (.slice f ys.length q) (val W64 ys))∧zF .u64 w f (ys))∧True)∧True)∧zD w (.slice g dd.length o) (val W64 ys*2^(64-blen t))))∧Own .u64 141 w b (x))∧Own .u64 141 w r22 (qs))) (fun w Q=>Q.1.2) (by have:=F.1;omega) (Or.inl S) (fun w R Q=>Zei b _ j E dd _ _ _ Q.1.2 (by rw[C];exact ((Q.1.1).self.2).shows) hA (by rw[F.1];omega) (by rw[F.1];omega) F.2.1 a0 qO K (F.ready p0 qO).2.2) (fun x w w' hp Q N W=>⟨⟨((Q.1.1).fr (N.mono (fun _ _ e=>by rw[e];exact uG _))),W⟩,((Q.2).fr N (show ¬ (r22=b) by omega))⟩) fun x U=>?_
  obtain⟨M,rfl⟩:∃ y,y=x:=⟨_,rfl⟩
  have HS:=F.step p0 K qO qO U.1 U.2
  have R0:=F.2.2.1
  refine xr 0 [eS1 1 f ys.length q,eS1 4 none 0 0,eS1 5 none 0 0,yJ 8 ((64-blen t:Nat):Int),eS1 9 g dd.length o,eS1 10 (yL b) (xs.length+1) (xs.length+1),eS1 11 (yL r22) (xs.length-(ys.length)+1) (xs.length-(ys.length)+1),yJ 12 (j:Int),eS1 66 (yL r22) (xs.length-(ys.length)+1) (xs.length-(ys.length)+1),yJ 67 (j:Int),yU 77 ((win j dd.length E/val W64 dd:Nat):Int)] [] ?_
  refine xqk 78 (.pointer (some ⟨r22,j,none⟩)) (fun w R Q=>lT (t:=107) (e:=141) (x:=.tmp 66) (ix:=.tmp 67) (len:=(xs.length-(ys.length)+1)) (cap:=(xs.length-(ys.length)+1)) (i:=j) qO) ?_
  refine jD (t:=141) (x:=.tmp 78) (y:=.tmp 77) r22 (j) (win j dd.length E/val W64 dd) (fun w=>((Box (fun j=>b≤j) w (fun w=>((((((zD w (.slice A xs.length c) (val W64 xs)∧zF .u64 w A (xs))∧zD w (.slice f ys.length q) (val W64 ys))∧zF .u64 w f (ys))∧True)∧True)∧zD w (.slice g dd.length o) (val W64 ys*2^(64-blen t))))∧Own .u64 141 w b (M))∧Own .u64 141 w r22 ((qs).set (j) (win j dd.length E/val W64 dd)))) (fun w Q=>Q.2) qO (Or.inl w0) (fun w w' Q N W=>⟨⟨((Q.1.1).fr (N.mono (fun _ _ e=>by rw[e];omega))),((Q.1.2).fr N (show ¬ (b=r22) by omega))⟩,W⟩) ?_
  refine xe (xN (zA (zB (xq 2 [yJ 65 (IntKind.i64.wrap ((j:Int)-1))] [] ?_))))
  rw[yW ((j:Int)-1) ((j:Int)-1) qO]
  refine xq 1 [yJ 12 ((j:Int)-1)] [] ?_
  refine xe ?_
  refine SXq.weak [eS1 1 f ys.length q,eS1 4 none 0 0,eS1 5 none 0 0,yJ 8 ((64-blen t:Nat):Int),eS1 9 g dd.length o,eS1 10 (yL b) (xs.length+1) (xs.length+1),eS1 11 (yL r22) (xs.length-(ys.length)+1) (xs.length-(ys.length)+1),yJ 12 ((j:Int)-1)] [] (Ψ:=fun w=>((Box (fun j=>b≤j) w (fun w=>((((((zD w (.slice A xs.length c) (val W64 xs)∧zF .u64 w A (xs))∧zD w (.slice f ys.length q) (val W64 ys))∧zF .u64 w f (ys))∧True)∧True)∧zD w (.slice g dd.length o) (val W64 ys*2^(64-blen t))))∧Own .u64 141 w b (M))∧Own .u64 141 w r22 (((qs).set (j) (win j dd.length E/val W64 dd))))) (zU.of qK) qK (fun w Q=>⟨⟨Q.1.1,Q.1.2⟩,Q.2⟩) ?_
  exact xE ((1+j)) qO ⟨j,M,((qs).set (j) (win j dd.length E/val W64 dd)),rfl,rfl,HS,qO,rfl⟩
 have e0:=uB L
 obtain rfl:k=0:=qO
 refine xL (zH (zH (xT (zA (yY (xq 1 [eS1 79 (yL r22) (xs.length-(ys.length)+1) (xs.length-(ys.length)+1)] [] ?_))))))
 refine xqc 144 [.slice (yL r22) (xs.length-(ys.length)+1) (xs.length-(ys.length)+1)] 80 xC _ (fun w R Q=>yM zV (Zat Q.2 F.2.2.2.1 F.2.2.1 ((F.done K).1.trans (by rw[b0,Zow])) qO qO)) fun⟨y0,z0,A0⟩=>?_
 refine xq 1 [eS1 81 (yL b) (xs.length+1) (xs.length+1)] [] ?_
 refine xqc 144 [.slice (yL b) (xs.length+1) (xs.length+1)] 82 xC _ (fun w R Q=>yM zV (Zat Q.1.1.2 F.2.1 F.1 (F.done K).2 qO qO)) fun⟨I0,J0,K0⟩=>?_
 refine xq 1 [yJ 83 ((64-blen t:Nat):Int)] [] ?_
 refine xqc 140 [.slice I0 J0 K0, yI ((64-blen t:Nat):Int)] 84 xC _ (fun w R Q=>(jR (64-blen t) Q.2 (uC (wE (pS (uP _ K))) (by rw[←xH a0 o0];omega)) qO).mono (fun _ _ h=>zV (by rw[show (val W64 xs*2^(64-blen t)%val W64 dd)/2^(64-blen t)=val W64 xs%val W64 ys by rw[b0,Zov]] at h;exact h))) fun⟨B0,C0,D0⟩=>?_
 refine xq 2 [eS1 4 y0 z0 A0,eS1 5 B0 C0 D0] [] ?_
 refine yZ (zG ?_)
 refine yR (.tuple #[.slice y0 z0 A0,.slice B0 C0 D0]) fun w' R Q=>?_
 exact⟨_,_,rfl,Q.1.1.2,Q.2,R⟩
end Go.Proofs.YtenchljfmfgeoaaGreatDoor
namespace Go.Proofs.YtenchljfmfgeoaaGreatDoor
def isq (n:Nat):Nat:=if h:n=0 then 0 else let r:=2*isq (n/4);if (r+1)*(r+1)≤n then r+1 else r
termination_by n
decreasing_by omega
theorem eQ:∀ n,isq n*isq n≤n∧n<(isq n+1)*(isq n+1):=by
 intro n
 induction n using Nat.strongRecOn with
 | ind n ih =>
  by_cases h:n=0
  ·subst h;rw[isq];simp
  obtain⟨d,e⟩:=ih (n/4) qO
  rw[isq,dif_neg h]
  generalize isq (n/4)=r at *
  simp only
  have b:2*r*(2*r)=4*(r*r):=by rw[rM]
  have c:(2*r+1+1)*(2*r+1+1)=4*((r+1)*(r+1)):=by
   rw[show 2*r+1+1=2*(r+1) by omega,rM]
  split
  ·rename_i a
   refine⟨a,?_⟩
   rw[c];omega
  rename_i a
  refine⟨?_,qO⟩
  rw[b];omega
theorem Zek {n r:Nat}(a:r*r≤n)(b:n<(r+1)*(r+1)):isq n=r:=by
 obtain⟨c,d⟩:=eQ n
 rcases qB (isq n) r with h|h|h
 ·have:=uZ (show isq n+1≤r by omega) (show isq n+1≤r by omega);omega
 ·exact h
 have:=uZ (show r+1≤isq n by omega) (show r+1≤isq n by omega);omega
theorem pow4 (j:Nat):2^(2*j)=2^j*2^j:=by rw[←uT];congr 1;omega
theorem Zik (n j:Nat):isq (n/2^(2*j))=isq n/2^j:=by
 obtain⟨a,b⟩:=eQ n
 generalize isq n=r at *
 have c:=vQ r (2^j)
 have d:=uP r (p2 j)
 refine Zek ?_ ?_
 ·rw[rV (p2 _),pow4,rM]
  have:r/2^j*2^j≤r:=qG _ _
  exact uC (uZ this this) a
 rw[vO (p2 _),pow4,rM]
 have:r+1≤(r/2^j+1)*2^j:=by rw[vC,rK,uF];omega
 exact uQ b (uZ this this)
theorem Zma {n b:Nat}(d:2*b+2≤blen n)(c:blen n≤2*b+3):b+1≤blen (isq n)∧blen (isq n)≤b+2:=by
 obtain⟨e,f⟩:=eQ n
 have l:=iI.1 (show 2*b+1<blen n by omega)
 have u:=xM.1 c
 generalize isq n=r at *
 have g:b<blen r:=by
  refine rQ fun h=>?_
  have:=xM.1 h
  have a:=uZ (show r+1≤2^b by omega) (show r+1≤2^b by omega)
  rw[←pow4] at a
  have:2^(2*b)≤2^(2*b+1):=uW qD qO
  omega
 refine⟨qO,xM.2 (rQ fun h=>?_)⟩
 have a:=uZ h h
 rw[←pow4] at a
 have:2^(2*b+3)≤2^(2*(b+2)):=uW qD qO
 omega
theorem ZkF (q j:Nat)(m:Bool):iQ q j m=iQ (q/2^j) 0 (decide (q%2^j≠0∨m=true)):=by
 unfold iQ
 simp only[vT,rG,Nat.mod_one,vU,Nat.pow_one,ne_eq,not_true_eq_false,false_or,sH]
 rw[tO,← uN]
 have e:(¬ q%2^j=0∨q/2^(j+1)%2=1∨m=true)↔(q/2^(j+1)%2=1∨¬ q%2^j=0∨m=true):=by
  constructor
  ·rintro (h|h|h);exact Or.inr (Or.inl h);exact Or.inl h;exact Or.inr (Or.inr h)
  rintro (h|h|h);exact Or.inr (Or.inl h);exact Or.inl h;exact Or.inr (Or.inr h)
 simp only[pI,e]
def jI (M:Nat) (s:Int):Bool:=decide (s<0∨isq (fq M 1 (-s))*isq (fq M 1 (-s))≠fq M 1 (-s))
theorem aH (M:Nat)(s:Nat):fq M 1 (-(s:Int))=M*2^s:=by
 unfold fq fa fb
 rw[show (- -(s:Int)).toNat=s by omega,show (-(s:Int)).toNat=0 by omega];simp
theorem Zjn {M:Nat}(i:M%2=1)(s:Int)(j:Nat):jI M (s-2*j)=decide (isq (fq M 1 (-s))%2^j≠0∨jI M s=true):=by
 unfold jI
 have k:fq M 1 (-(s-2*j))=fq M 1 (-s)/2^(2*j):=by rw[←bM];congr 1;omega
 rw[k,Zik]
 simp only[sH]
 rw[qI]
 constructor
 ·intro h
  refine tH fun a=>?_
  have l:isq (fq M 1 (-s))%2^j=0:=tH fun h=>a (Or.inl h)
  have d:0≤s:=tH fun h=>a (Or.inr (Or.inl qO))
  have b:isq (fq M 1 (-s))*isq (fq M 1 (-s))=fq M 1 (-s):=tH fun h=>a (Or.inr (Or.inr h))
  obtain⟨t,rfl⟩:=uV d
  rw[aH] at *
  generalize isq (M*2^t)=r at *
  obtain⟨q,rfl⟩:=Nat.dvd_of_mod_eq_zero l
  rw[qH _ (p2 j)] at h
  have e:M*2^t=(q*q)*2^(2*j):=by rw[←b,pow4];simp only[uH,uF,tE]
  rcases h with h|h
  ·have c:0<q:=by
    rcases uJ q with f|f
    ·subst f
     have:0<M*2^t:=tZ qO (p2 t)
     simp at b;omega
    exact f
   have m:=Za9 i t
   rw[e,Za8 (tZ c c)] at m
   omega
  rw[e,qM _ (p2 _)] at h
  exact h rfl
 intro h
 refine tH fun a=>?_
 have d:0≤s-2*j:=tH fun h=>a (Or.inl qO)
 have b:isq (fq M 1 (-s))/2^j*(isq (fq M 1 (-s))/2^j)=fq M 1 (-s)/2^(2*j):=tH fun h=>a (Or.inr h)
 obtain⟨t,p⟩:=uV d
 obtain rfl:s=((t+2*j:Nat):Int):=qO
 rw[aH] at *
 have n:M*2^(t+2*j)/2^(2*j)=M*2^t:=by rw[uT,← uH,qM _ (p2 _)]
 rw[n] at b
 obtain⟨q,c⟩:=yE (isq (M*2^(t+2*j))/2^j)
 rw[c] at b
 have g:M*2^(t+2*j)=q*2^j*(q*2^j):=by
  rw[rM,b,← pow4,uT,uH]
 have o:isq (M*2^(t+2*j))=q*2^j:=Zek (by rw[←g];exact uG _) (by
  rw[g];have:=Nat.mul_lt_mul'' (oD (q*2^j)) (oD (q*2^j));exact this)
 rw[o] at h
 rcases h with h|h|h
 ·exact h (Nat.mul_mod_left _ _)
 ·omega
 exact h g.symm
def sqK (M:Nat) (E:Int) (bits:Nat):Int:=((blen M:Int)+E-1)/2-((bits:Int)-1)
def sqM (M:Nat) (E:Int) (bits:Nat):Nat:=iQ (isq (fq M 1 (-(E-2*sqK M E bits+2)))) 0 (jI M (E-2*sqK M E bits+2))
theorem ZbA {M:Nat}(h:0<M)(s:Int)(c:0≤(blen M:Int)+s):(blen (fq M 1 (-s)):Int)=blen M+s:=by
 rcases Int.le_total 0 s with a|a
 ·obtain⟨t,rfl⟩:=uV a
  rw[aH,bL h];omega
 obtain⟨t,b⟩:=uV (show 0 ≤ -s by omega)
 have:=bM M 1 0 t
 rw[Int.zero_add] at this
 rw[b,this,dE]
 have e:fq M 1 0=M:=by unfold fq fa fb;simp
 rw[e];omega
theorem Zmb {M:Nat}(k:M%2=1)(E:Int){bits:Nat}(u:0<bits)(s:Int)(v:(E-s)%2=0)(w:(2*bits+2:Int)≤blen M+s)(x:(blen M:Int)+s≤2*bits+3) :
 let r:=isq (fq M 1 (-s));let j:=blen r-bits-1
 blen r=bits+(j+1)∧(E-s)/2+(j+1:Nat)=sqK M E bits∧sqM M E bits=iQ r j (jI M s):=by
 intro r j
 have d:0<M:=qO
 have e:=ZbA d s qO
 obtain⟨y,z⟩:=Zma (b:=bits) (n:=fq M 1 (-s)) qO qO
 have l:blen r=bits+(j+1):=by show blen (isq (fq M 1 (-s)))=bits+(blen (isq (fq M 1 (-s)))-bits-1+1);omega
 have f:j≤1:=by show blen (isq (fq M 1 (-s)))-bits-1≤1;omega
 -- the exponent
 obtain⟨g,h⟩:=eQ (fq M 1 (-s))
 have m:isq (fq M 1 (-s))=r:=rfl
 rw[m] at g h
 have a:=iI.1 (show bits+j<blen r by omega)
 have c:=xM.1 (show blen r≤bits+j+1 by omega)
 have o:2^(2*(bits+j))≤fq M 1 (-s):=by rw[pow4];exact uC (uZ a a) g
 have p:fq M 1 (-s)<2^(2*(bits+j+1)):=by rw[pow4];exact uQ h (uZ c c)
 have A:=iI.2 o
 have B:=xM.2 p
 have i:(E-s)/2+(j+1:Nat)=sqK M E bits:=by unfold sqK;omega
 refine⟨l,i,?_⟩
 unfold sqM
 have q:E-2*sqK M E bits+2=s-2*(j:Int):=by rw[←i];omega
 have t:fq M 1 (-(s-2*(j:Int)))=fq M 1 (-s)/2^(2*j):=by rw[←bM];congr 1;omega
 rw[q,t,Zik,ZkF r j,Zjn k]
structure FR where
 s:Bool
 m:Nat
 e:Int
 err:Int
def Zf4:FR:=⟨false,0,0,0⟩
def errR (k:Int):FR:=⟨false,0,0,k⟩
def okE (e:Int):Prop := -1048576≤e∧e≤1048576
instance (e:Int):Decidable (okE e):=inferInstanceAs (Decidable (_∧_))
def xU (s:Bool) (n:Nat) (e:Int):FR:=if n=0 then Zf4 else if okE (e+tzn n) then ⟨s,oddM n,e+tzn n,0⟩ else errR 2
theorem ZkG {n:Nat}(s:Bool)(h:0<n)(j:Nat)(e:Int):xU s (n*2^j) e=xU s n (e+j):=by
 unfold xU
 have a:=tZ h (p2 j)
 rw[uL (show ¬ n*2^j=0 by omega),uL (show ¬ n=0 by omega),Za8 h,Zl3 h]
 have:e+((tzn n+j:Nat):Int)=e+j+tzn n:=qO
 rw[this]
def wO (s:Bool) (n:Nat) (e:Int) (bits:Nat) (more:Bool):FR :=
 if blen n≤bits then xU s n e else xU s (iQ n (blen n-bits-1) more) (e+(blen n-bits:Nat))
def wK (s:Bool) (n d:Nat) (e:Int) (bits:Nat):FR:=if n=0 then Zf4 else xU s (rndM n d bits) (e+rndK n d bits)
theorem Zde (s:Bool)(e:Int)(bits:Nat)(more:Bool):wO s 0 e bits more=Zf4:=by
 unfold wO;rw[uS (by rw[gL];omega)];rfl
theorem jM (s:Bool)(d:Nat)(e:Int)(bits:Nat):wK s 0 d e bits=Zf4:=rfl
theorem lZ (s:Bool)(n:Nat)(e:Int){bits:Nat}(f:0<bits):wO s n e bits false=wK s n 1 e bits:=by
 rcases uJ n with rfl|b
 ·rw[Zde,jM]
 unfold wO wK
 rw[uL (show ¬ n=0 by omega)]
 split
 ·rename_i h
  obtain⟨c,a⟩:=Znz b f h
  rw[c,a,ZkG s b]
  congr 1;omega
 rename_i h
 obtain⟨j,g⟩:∃ j,blen n=bits+(j+1):=⟨blen n-bits-1,qO⟩
 have i:fq n 1 0=n:=by unfold fq fa fb;simp
 have k:fa n 0%fb 1 0=0:=by unfold fb;simp[Nat.mod_one]
 obtain⟨c,a⟩:=Zct b (d:=1) qD f 0 j (by rw[i];exact g)
 rw[i,k] at a
 rw[c,a,g,show bits+(j+1)-bits-1=j by omega,show bits+(j+1)-bits=j+1 by omega,Int.zero_add]
 rfl
theorem ZhH (s:Bool){n d:Nat}(e:Int){bits:Nat}(a:0<n)(b:0<d)(c:0<bits) :
 wO s (fq n d (rk0 n d bits-1)) (e+(rk0 n d bits-1)) bits (decide (fa n (rk0 n d bits-1)%fb d (rk0 n d bits-1)≠0))=wK s n d e bits:=by
 obtain⟨h,i⟩:=ZgM a b c
 have f:=bM n d (rk0 n d bits-1) 1
 rw[show rk0 n d bits-1+(1:Nat)=rk0 n d bits by omega] at f
 rw[f,dE] at h i
 generalize o:rk0 n d bits-1=k at *
 obtain⟨j,g⟩:∃ j,blen (fq n d k)=bits+(j+1):=⟨blen (fq n d k)-bits-1,qO⟩
 obtain⟨l,m⟩:=Zct a b c k j g
 unfold wO wK
 rw[uL qO,uL qO,l,m,g,show bits+(j+1)-bits-1=j by omega,show bits+(j+1)-bits=j+1 by omega,Int.add_assoc]
def addR (sx:Bool) (xm:Nat) (xe:Int) (sy:Bool) (ym:Nat) (ye:Int) (bits:Nat):FR :=
 wK (decide (sg sx (xm*2^(xe-min xe ye).toNat)+sg sy (ym*2^(ye-min xe ye).toNat)<0)) (sg sx (xm*2^(xe-min xe ye).toNat)+sg sy (ym*2^(ye-min xe ye).toNat)).natAbs 1 (min xe ye) bits
theorem Zfo (sx:Bool)(b:Nat)(xe:Int)(c:Bool)(ym:Nat)(a:Int)(bits:Nat):addR sx b xe c ym a bits=addR c ym a sx b xe bits:=by
 unfold addR;rw[Int.min_comm a xe,Int.add_comm]
theorem Zfp {a s r:Nat}(c:Bool)(e:Int){bits:Nat}(d:0<bits)(ha:bits+1≤blen a)(b:0<r)(f:r<2^s) :
 wK c (a*2^s+r) 1 e bits=xU c (iQ a (blen a-bits-1) true) (e+s+(blen a:Int)-bits):=by
 obtain⟨g,h⟩:=ZnA d ha b f
 unfold wK
 rw[uL qO,g,h]
 congr 1;omega
theorem ZkH {s t:Bool}{a b:Nat}(h:b<a):decide (sg s a+sg t b<0)=s∧(sg s a+sg t b).natAbs=(if s=t then a+b else a-b):=by
 cases s<;>cases t<;>simp[sg]<;>omega
theorem Zjo (sx:Bool){a:Nat}(xe:Int)(b:Bool){ym:Nat}(c:Int){bits:Nat}(k:0<bits)(m:0<a)(l:0<ym){f:Int}(C:f≤xe)(D:f≤blen a+xe-bits-2)(F:blen ym+c≤f) :
 addR sx a xe b ym c bits=addR sx a xe b 1 (f-1) bits:=by
 have n:=eP l
 have d:∀ (s r:Nat) (E:Int),E=f-s→0<r→r<2^s→wK (decide (sg sx (a*2^(xe-E).toNat)+sg b r<0)) (sg sx (a*2^(xe-E).toNat)+sg b r).natAbs 1 E bits =
  xU sx (iQ (if sx=b then a*2^(xe-f).toNat else a*2^(xe-f).toNat-1) (blen (if sx=b then a*2^(xe-f).toNat else a*2^(xe-f).toNat-1)-bits-1) true) (f+(blen (if sx=b then a*2^(xe-f).toNat else a*2^(xe-f).toNat-1):Int)-bits):=by
  intro s r E Q h o
  have i:a*2^(xe-E).toNat=a*2^(xe-f).toNat*2^s:=by
   rw[uH,← uT];congr 2;omega
  have G:bits+2≤blen (a*2^(xe-f).toNat):=by rw[bL m];omega
  rw[i]
  generalize a*2^(xe-f).toNat=X at *
  have p:=iI.1 (show bits+1<blen X by omega)
  have H:2^bits*2=2^(bits+1):=(uN ..).symm
  have q:=p2 bits
  have u:=p2 s
  have j:1≤X:=qO
  have v:2^s≤X*2^s:=by have:=uE (2^s) j;omega
  obtain⟨w,x⟩:=ZkH (s:=sx) (t:=b) (show r<X*2^s by omega)
  rw[w,x]
  by_cases e:sx=b
  ·rw[uS e,uS e,Zfp sx E k qO h o]
   congr 1;omega
  rw[uL e,uL e]
  have y:X*2^s-r=(X-1)*2^s+(2^s-r):=by rw[Nat.sub_mul,rK];omega
  have g:bits+1≤blen (X-1):=iI.2 qO
  rw[y,Zfp sx E k g qO qO]
  congr 1;omega
 have z:c<f:=qO
 obtain⟨s,e⟩:=uV (show 0≤f-c by omega)
 have A:=d s ym c qO l (uQ (iH ym) (uW qD qO))
 have B:=d 1 1 (f-1) qO qD qD
 unfold addR
 rw[show min xe c=c by omega,show min xe (f-1)=f-1 by omega,show (c-c).toNat=0 by omega,show (f-1-(f-1)).toNat=0 by omega]
 simp only[vT,tP]
 rw[A,B]
def Zau (m:Nat) (e:Int) (bits:Nat):FR:=xU false (sqM m e bits) (sqK m e bits)
theorem bD {m:Nat}(a:m%2=1)(e:Int){bits:Nat}(b:0<bits)(s:Int)(c:(e-s)%2=0)(d:(2*bits+2:Int)≤blen m+s)(f:(blen m:Int)+s≤2*bits+3) :
 wO false (isq (fq m 1 (-s))) ((e-s)/2) bits (jI m s)=Zau m e bits:=by
 obtain⟨i,g,h⟩:=Zmb a e b s c d f
 unfold wO Zau
 rw[uL qO,h,← g]
 congr 1;omega
end Go.Proofs.YtenchljfmfgeoaaGreatDoor
namespace Go.Proofs.YtenchljfmfgeoaaGreatDoor
open Go.RowKit Tryz
def shNb (r:FR) (x:ShN):Value:=.tuple #[yV r.s x.1 x.2.1 x.2.2 r.e,.int .i64 r.err]
def xJ (w:World) (r:FR) (e:Ending) (w':World):Prop:=∃ x:ShN,e=.returned (shNb r x)∧zD w' (xC x) r.m∧Ext w w'
theorem xP {w w':World}{e:Ending}{r:FR}(h:xJ w r e w'):lQ (shNb r) (fun x w=>zD w (xC x) r.m) w e w':=by
 obtain⟨x,rfl,a,Q⟩:=h
 exact⟨x,rfl,Q,boxn Q (fun S b c d=>a.nrb c d)⟩
theorem Zjp (s:Bool)(e:Int):xU s 0 e=⟨false,0,0,0⟩:=rfl
theorem Zmc {n:Nat}(s:Bool){e:Int}(a:0<n)(b:¬ e+tzn n < -1048576)(c:¬ e+tzn n>1048576):xU s n e=⟨s,oddM n,e+tzn n,0⟩:=by
 unfold xU
 rw[uL qO,uS ⟨qO,qO⟩]
theorem Zfq {n:Nat}(s:Bool){e:Int}(a:0<n)(h:e+tzn n < -1048576∨e+tzn n>1048576):xU s n e=⟨false,0,0,2⟩:=by
 unfold xU
 rw[uL qO,uL (by rintro⟨b,c⟩;omega)];rfl
theorem gI (n:Nat):blen n≤64*wl n:=by
 rw[xM,rZ]
 have:=ZcK n
 rwa [zR] at this
theorem Zox {n:Nat}(h:wl n≤4294967296):tzn n≤274877906944:=by
 rcases uJ n with rfl|a
 ·rw[tzn,dif_pos (Or.inl rfl)];omega
 obtain⟨c,b⟩:=jH a
 have d:blen n=blen (oddM n)+tzn n:=by
  have:=bL (show 0<oddM n by omega) (tzn n)
  rwa [←b] at this
 have:=gI n
 omega
theorem Zel {n:Nat}(h:wl n≤4294967296):blen n≤274877906944:=by have:=gI n;omega
theorem ZbB {s:Bool}{n bits:Nat}{e:Int}{m:Bool}(h:blen n≤bits):wO s n e bits m=xU s n e:=by unfold wO;rw[uS h]
theorem iR {s:Bool}{n bits j:Nat}{e:Int}{m:Bool}(h:blen n=bits+(j+1))(a:n/2^j%2=1)(b:tzn n<j∨n/2^(j+1)%2=1∨m=true)(c:0<n) :
 wO s n e bits m=xU s (n/2^(j+1)+1) (e+((j+1:Nat):Int)):=by
 unfold wO iQ
 rw[uL qO,h,show bits+(j+1)-bits-1=j by omega,show bits+(j+1)-bits=j+1 by omega,uS ⟨a,by rw[←ZkA c];exact b⟩]
theorem gY {s:Bool}{n bits j:Nat}{e:Int}{m:Bool}(h:blen n=bits+(j+1))(a:0<n)(b:¬ (n/2^j%2=1∧(tzn n<j∨n/2^(j+1)%2=1∨m=true))) :
 wO s n e bits m=xU s (n/2^(j+1)) (e+((j+1:Nat):Int)):=by
 unfold wO iQ
 rw[uL qO,h,show bits+(j+1)-bits-1=j by omega,show bits+(j+1)-bits=j+1 by omega,uL (by rw[←ZkA a];exact b)]
theorem Zoy:Trim [1]:=by
 intro k a
 have:k=0:=by simp at a;omega
 subst this
 simp
theorem wl_1:wl 1≤4294967296:=uC (dM.2 (by rw[zR];decide)) qD
theorem iK {w:World}{b:Nat}(h:Blk 141 w b #[.int .u64 1]):zD w (.slice (some ⟨b,0,none⟩) 1 1) 1 :=
 ⟨_,[1],1,rfl,uG _,(Blk.own1 (r:=1) h).shows0,Dig.nil.cons (by rw[zR];decide),Zoy,rfl⟩
def ZbC (w:World) (Q:Nat) (v:Value):Prop:=Q<w.heap.size∧w.cell? ⟨Q,0,none⟩=some v
theorem ZbC.ext {w w':World}{Q:Nat}{v:Value}(h:ZbC w Q v)(a:Ext w w'):ZbC w' Q v:=⟨uQ h.1 a.size,(a.cell (p:=⟨Q,0,none⟩) h.1 (fun f=>f)).trans h.2⟩
theorem ZkI (Q:Nat)(A:qA)(l c:Nat)(w:World)(h:ZbC w Q (.slice A l c)):yA 159 #[.pointer (some ⟨Q,0,none⟩)] w (RetV w (.bool (decide (0<l)))):=by
 have a:=h.2
 go_enter func159,ntmps159
 go_wp2
 go_ret
 exact⟨vF Ending.returned (vF Value.bool (qI.2 qO)),Fr.refl _ _⟩
theorem ZkJ (w:World):yA 133 #[] w (RetV w (.bool false)):=by
 go_enter func133,ntmps133
 go_wp2
 go_ret
 exact⟨rfl,Fr.refl _ _⟩
theorem lL (s:Bool)(A:qA)(l c n:Nat)(e:Int)(w:World)(t:Glob w)(q:zD w (.slice A l c) n)(o:wl n≤4294967296)(u : -1152921504606846976≤e)(x:e≤1152921504606846976) :
 yA 138 #[.bool s,.slice A l c,.int .i64 e] w (xJ w (xU s n e)):=by
 refine zQ (Φ:=fun w=>(Glob w∧zD w (.slice A l c) (n))) func138 rfl qK (fun w' r=>⟨t.ext r,q.ext r⟩) ?_
 refine zC ?_
 have y:=q.len0
 have z:=Zox o
 have B:=@wX n
 refine zB (xq 2 [(6,.p 6 0),yJ 7 0] [yF 6 109 false none 0 0 0] ?_)
 refine yZ (zC (yY (xq 3 [yB 11 (((l:Int):Int) == 0)] [] ?_)))
 refine xe (zA ?_)
 refine yQ ((((l:Int):Int) == 0)) (fun b=>?_) fun b=>?_
 ·have f:=tG.1 b
  have m:n=0:=qO
  refine yY (xq 3 [yJ 7 0] [] ?_)
  refine yZ (zG (zK ?_))
  refine yR (.tuple #[yV false none 0 0 0, yI 0]) fun w' R Q=>?_
  rw[m,Zjp]
  exact⟨(none,0,0),rfl,zD.zero _,R⟩
 have f:=wF b
 have m:0<n:=qO
 refine zJ (zA (yY (xq 1 [eS1 13 A l c] [] ?_)))
 refine xqc 171 [.slice A l c] 14 (fun _:Unit=>yI ((tzn n:Nat):Int)) _ (fun w R Q=>yN (bX Q.1 Q.2 o m)) fun C=>?_
 refine xq 1 [yJ 8 ((tzn n:Nat):Int)] [] ?_
 refine yZ (yY (xq 3 [yJ 17 (IntKind.i64.wrap (e+((tzn n:Nat):Int)))] [] ?_))
 rw[yW (e+((tzn n:Nat):Int)) (e+((tzn n:Nat):Int)) qO]
 refine xq 1 [yJ 2 (e+((tzn n:Nat):Int))] [] ?_
 refine yZ (zC (yY (xq 3 [(20,.v (.bool (decide ((e+((tzn n:Nat):Int))<(-1048576)))))] [] ?_)))
 rcases bl2 ((decide ((e+((tzn n:Nat):Int))<(-1048576)))) with a|a
 ·rw[a]
  have g:=uA a
  refine xq 3 [yB 23 true] [] ?_
  refine yZ (xa (yY (xq 3 [yJ 7 2] [] ?_)))
  refine yZ (zG (zK ?_))
  refine yR (.tuple #[yV false none 0 0 0, yI 2]) fun w' R Q=>?_
  rw[Zfq s m qO]
  exact⟨(none,0,0),rfl,zD.zero _,R⟩
 rw[a]
 have g:=uB a
 refine xq 3 [(23,.v (.bool (decide ((e+((tzn n:Nat):Int))>1048576))))] [] ?_
 refine xe (zA ?_)
 refine yQ ((decide ((e+((tzn n:Nat):Int))>1048576))) (fun d=>?_) fun d=>?_
 ·have h:=uA d
  refine yY (xq 3 [yJ 7 2] [] ?_)
  refine yZ (zG (zK ?_))
  refine yR (.tuple #[yV false none 0 0 0, yI 2]) fun w' R Q=>?_
  rw[Zfq s m qO]
  exact⟨(none,0,0),rfl,zD.zero _,R⟩
 have h:=uB d
 refine zJ (zA (yY (xq 3 [yB 25 s,eS1 26 A l c,yJ 27 ((tzn n:Nat):Int)] [] ?_)))
 refine xqc 140 [.slice A l c, yI ((tzn n:Nat):Int)] 28 xC _ (fun w R Q=>yM zV (jR (tzn n) Q.1.2 o qO)) fun⟨i,j,k⟩=>?_
 refine xq 4 [yJ 7 0] [yF 6 109 s i j k (e+((tzn n:Nat):Int))] ?_
 refine yZ (zG ?_)
 refine yR (.tuple #[yV s i j k (e+((tzn n:Nat):Int)), yI 0]) fun w' R Q=>?_
 rw[Zmc s m qO qO]
 exact⟨(i,j,k),rfl,Q.2,R⟩
theorem jN (s:Bool)(A:qA)(l c n:Nat)(e:Int)(bits:Nat)(w:World)(hg:Glob w)(hN:zD w (.slice A l c) n)(E:wl n≤4294967296)(y0 : -576460752303423488≤e)(z0:e≤576460752303423488)(hb:bits≤4294967296) :
 yA 132 #[.bool s,.slice A l c,.int .i64 e,.int .i64 ((bits:Nat):Int),.func (.func 133) #[] #[]] w (xJ w (wO s n e bits false)):=by
 refine zQ (Φ:=fun w=>(Glob w∧zD w (.slice A l c) (n))) func132 rfl qK (fun w' hf=>⟨hg.ext hf,hN.ext hf⟩) ?_
 refine zC ?_
 have A0:=Zel E
 by_cases F:blen n≤bits
 ·obtain⟨k,hk⟩:∃ k,bits=blen n+k:=⟨bits-blen n,qO⟩
  refine zB (xq 2 [(10,.p 10 0),yJ 11 0] [yF 10 109 false none 0 0 0] ?_)
  refine yZ (yY (xq 1 [eS1 14 A l c] [] ?_))
  refine xqc 139 [.slice A l c] 15 (fun _:Unit=>yI ((blen n:Nat):Int)) _ (fun w R Q=>yN (lY Q.2 E)) fun xx=>?_
  refine xq 2 [yJ 17 (IntKind.i64.wrap (((blen n:Nat):Int)-(bits:Int)))] [] ?_
  rw[show IntKind.i64.wrap (((blen n:Nat):Int)-(bits:Int)) = -(k:Int) by rw[IntKind.wrap_i64];omega]
  refine xq 1 [yJ 12 (-(k:Int))] [] ?_
  refine yZ (zC (yY (xq 2 [(19,.v (.bool (decide ((-(k:Int))≤0))))] [] ?_)))
  rw[show decide (-(k:Int)≤0)=true from vR qO]
  refine yZ (xa (yY (xq 3 [yB 20 s,eS1 21 A l c,yJ 22 e] [] ?_)))
  obtain⟨g,G⟩:=yE (xU s (n) (e))
  refine xqc 138 [.bool s,.slice A l c, yI e] 23 (shNb g) _ (fun w R Q=>yM xP ((show Calls _ _ _ _ (xJ w g) by rw[←G];exact lL s _ _ _ _ _ _ Q.1.1 Q.1.2 E qO qO))) fun⟨L,M,N⟩=>?_
  refine xq 4 [yJ 11 g.err] [yF 10 109 g.s L M N g.e] ?_
  refine yZ (zG (zK ?_))
  refine yR (.tuple #[yV g.s L M N g.e, yI g.err]) fun w' R Q=>?_
  rw[ZbB F,G]
  exact⟨(L,M,N),rfl,Q.2,R⟩
 obtain⟨j,hj⟩:∃ j,blen n=bits+(j+1):=⟨blen n-bits-1,qO⟩
 have O:0<n:=sC (fun e=>by rw[e,gL] at F;omega)
 have B:wl (n/2^(j+1))≤4294967296:=uC (wE (vN _ _)) E
 have P:wl (n/2^(j+1)+1)≤4294967296:=uC (wE (qQ O (Nat.one_lt_two_pow qO))) E
 obtain⟨b1,S⟩:=yE (decide (n/2^j%2=1))
 obtain⟨b2,T⟩:=yE (decide (n/2^(j+1)/2^0%2=1))
 obtain⟨b3,U⟩:=yE false
 refine zB (xq 2 [(10,.p 10 0),yJ 11 0] [yF 10 109 false none 0 0 0] ?_)
 refine yZ (yY (xq 1 [eS1 14 A l c] [] ?_))
 refine xqc 139 [.slice A l c] 15 (fun _:Unit=>yI ((blen n:Nat):Int)) _ (fun w R Q=>yN (lY Q.2 E)) fun xx=>?_
 refine xq 2 [yJ 17 (IntKind.i64.wrap (((blen n:Nat):Int)-(bits:Int)))] [] ?_
 rw[yW (((blen n:Nat):Int)-(bits:Int)) (((j+1:Nat):Int)) qO]
 refine xq 1 [yJ 12 ((j+1:Nat):Int)] [] ?_
 refine yZ (zC (yY (xq 2 [yB 19 (decide (((j+1:Nat):Int)≤0))] [] ?_)))
 rw[show decide (((j+1:Nat):Int)≤0)=false from uX qO]
 refine yZ (xb (zJ (zA (yY (xq 2 [eS1 26 A l c,yJ 27 ((j+1:Nat):Int)] [] ?_)))))
 refine xqc 140 [.slice A l c, yI ((j+1:Nat):Int)] 28 xC _ (fun w R Q=>yM zV (jR (j+1) Q.1.2 E qO)) fun⟨a,b,f⟩=>?_
 refine xq 1 [eS1 13 a b f] [] ?_
 refine yZ (zC (yY (xq 3 [eS1 29 A l c,yJ 31 (IntKind.i64.wrap (((j+1:Nat):Int)-1))] [] ?_)))
 rw[yW (((j+1:Nat):Int)-1) ((j:Int)) qO]
 refine xqc 170 [.slice A l c, yI (j:Int)] 32 (fun _:Unit=>.bool b1) _ (fun w R Q=>yN ((show Calls _ _ _ _ (RetV w (.bool b1)) by rw[←S];exact cJ (j) Q.1.1.2 qO))) fun xx=>?_
 refine xq 1 [yB 33 b1] [] ?_
 rcases bl2 (b1) with i|i
 ·rw[i]
  have k1:=uA (S.trans i)
  refine xq 1 [eS1 34 A l c] [] ?_
  refine xqc 171 [.slice A l c] 35 (fun _:Unit=>yI ((tzn n:Nat):Int)) _ (fun w R Q=>yN (bX Q.1.1.1.1 Q.1.1.1.2 E O)) fun xx=>?_
  refine xq 2 [yJ 37 (IntKind.i64.wrap (((j+1:Nat):Int)-1))] [] ?_
  rw[yW (((j+1:Nat):Int)-1) ((j:Int)) qO]
  refine xq 2 [yB 39 (decide (((tzn n:Nat):Int)<(j:Int)))] [] ?_
  rcases bl2 ((decide (((tzn n:Nat):Int)<(j:Int)))) with m|m
  ·rw[m]
   have V:=uA m
   have k4:tzn n<j:=qO
   refine xr 8 [yB 0 s,yJ 2 e,(10,.p 10 0),yJ 11 0,yJ 12 ((j+1:Nat):Int),eS1 13 a b f,yB 47 true] [yF 10 109 false none 0 0 0] ?_
   refine yZ (xa (zB (xq 1 [eS1 48 a b f] [] ?_)))
   refine yD (d:=49) (fun C:Nat=>.slice (yL C) 1 1) (fun C zw=>Blk 141 zw C #[yX 1]) (fun w R Q=>lN (t:=107) (e:=141) (n:=1) (sz:=1) (z:=yX 0) (parts:=#[(0,Operand.const (Value.int IntKind.u64 1))]) qK qK qK qK qK qK) fun v0=>?_
   refine xr 0 [yB 0 s,yJ 2 e,(10,.p 10 0),yJ 11 0,yJ 12 ((j+1:Nat):Int),eS1 13 a b f,eS1 48 a b f,eS1 49 (yL v0) 1 1] [yF 10 109 false none 0 0 0] ?_
   refine xqc 135 [.slice a b f,.slice (yL v0) 1 1] 50 xC _ (fun w R Q=>yM zV (kT Q.1.1.1.2 (iK Q.2) B wl_1)) fun⟨W,X,Y⟩=>?_
   refine xq 1 [eS1 13 W X Y] [] ?_
   refine yZ (yY (xq 5 [yB 51 s,eS1 52 W X Y,yJ 55 (IntKind.i64.wrap (e+((j+1:Nat):Int)))] [] ?_))
   rw[yW (e+((j+1:Nat):Int)) (e+((j+1:Nat):Int)) qO]
   obtain⟨o,H⟩:=yE (xU s (n/2^(j+1)+1) ((e+((j+1:Nat):Int))))
   refine xqc 138 [.bool s,.slice W X Y, yI (e+((j+1:Nat):Int))] 56 (shNb o) _ (fun w R Q=>yM xP ((show Calls _ _ _ _ (xJ w o) by rw[←H];exact lL s _ _ _ _ _ _ Q.1.1.1.1.1.1.1 Q.2 P qO qO))) fun⟨Z,a0,b0⟩=>?_
   refine xq 4 [yJ 11 o.err] [yF 10 109 o.s Z a0 b0 o.e] ?_
   refine yZ (zG ?_)
   refine yR (.tuple #[yV o.s Z a0 b0 o.e, yI o.err]) fun w' R Q=>?_
   rw[iR hj k1 (Or.inl k4) O,H]
   exact⟨(Z,a0,b0),rfl,Q.2,R⟩
  rw[m]
  have V:=uB m
  have k4:¬ tzn n<j:=qO
  refine xr 1 [yB 0 s,yJ 2 e,(4,.v (.func (.func 133) #[] #[])),(10,.p 10 0),yJ 11 0,yJ 12 ((j+1:Nat):Int),eS1 13 a b f,yB 33 true,yB 39 false,eS1 40 a b f] [yF 10 109 false none 0 0 0] ?_
  refine xqc 170 [.slice a b f, yI 0] 41 (fun _:Unit=>.bool b2) _ (fun w R Q=>yN ((show Calls _ _ _ _ (RetV w (.bool b2)) by rw[←T];exact cJ (0) Q.1.1.2 qO))) fun xx=>?_
  refine xq 2 [yB 43 b2] [] ?_
  rcases bl2 (b2) with q|q
  ·rw[q]
   have k2:=uA (T.trans q)
   rw[vT,rG] at k2
   refine xq 4 [yB 47 true] [] ?_
   refine yZ (xa (zB (xq 1 [eS1 48 a b f] [] ?_)))
   refine yD (d:=49) (fun C:Nat=>.slice (yL C) 1 1) (fun C zw=>Blk 141 zw C #[yX 1]) (fun w R Q=>lN (t:=107) (e:=141) (n:=1) (sz:=1) (z:=yX 0) (parts:=#[(0,Operand.const (Value.int IntKind.u64 1))]) qK qK qK qK qK qK) fun w0=>?_
   refine xr 0 [yB 0 s,yJ 2 e,(10,.p 10 0),yJ 11 0,yJ 12 ((j+1:Nat):Int),eS1 13 a b f,eS1 48 a b f,eS1 49 (yL w0) 1 1] [yF 10 109 false none 0 0 0] ?_
   refine xqc 135 [.slice a b f,.slice (yL w0) 1 1] 50 xC _ (fun w R Q=>yM zV (kT Q.1.1.1.1.2 (iK Q.2) B wl_1)) fun⟨c0,d0,e0⟩=>?_
   refine xq 1 [eS1 13 c0 d0 e0] [] ?_
   refine yZ (yY (xq 5 [yB 51 s,eS1 52 c0 d0 e0,yJ 55 (IntKind.i64.wrap (e+((j+1:Nat):Int)))] [] ?_))
   rw[yW (e+((j+1:Nat):Int)) (e+((j+1:Nat):Int)) qO]
   obtain⟨r,I⟩:=yE (xU s (n/2^(j+1)+1) ((e+((j+1:Nat):Int))))
   refine xqc 138 [.bool s,.slice c0 d0 e0, yI (e+((j+1:Nat):Int))] 56 (shNb r) _ (fun w R Q=>yM xP ((show Calls _ _ _ _ (xJ w r) by rw[←I];exact lL s _ _ _ _ _ _ Q.1.1.1.1.1.1.1.1 Q.2 P qO qO))) fun⟨f0,g0,i0⟩=>?_
   refine xq 4 [yJ 11 r.err] [yF 10 109 r.s f0 g0 i0 r.e] ?_
   refine yZ (zG ?_)
   refine yR (.tuple #[yV r.s f0 g0 i0 r.e, yI r.err]) fun w' R Q=>?_
   rw[iR hj k1 (Or.inr (Or.inl k2)) O,I]
   exact⟨(f0,g0,i0),rfl,Q.2,R⟩
  rw[q]
  have k2:=uB (T.trans q)
  rw[vT,rG] at k2
  refine xq 1 [(44,.v (.func (.func 133) #[] #[]))] [] ?_
  refine xqc 133 [] 45 (fun _:Unit=>.bool b3) _ (fun w R Q=>yN ((show Calls _ _ _ _ (RetV w (.bool b3)) by rw[←U];exact ZkJ _))) fun xx=>?_
  refine xq 2 [yB 47 b3] [] ?_
  refine xe (zA ?_)
  refine yQ (b3) (fun D=>?_) fun D=>?_
  ·have k3:=U.trans D
   refine zB (xq 1 [eS1 48 a b f] [] ?_)
   refine yD (d:=49) (fun C:Nat=>.slice (yL C) 1 1) (fun C zw=>Blk 141 zw C #[yX 1]) (fun w R Q=>lN (t:=107) (e:=141) (n:=1) (sz:=1) (z:=yX 0) (parts:=#[(0,Operand.const (Value.int IntKind.u64 1))]) qK qK qK qK qK qK) fun x0=>?_
   refine xr 0 [yB 0 s,yJ 2 e,(10,.p 10 0),yJ 11 0,yJ 12 ((j+1:Nat):Int),eS1 13 a b f,eS1 48 a b f,eS1 49 (yL x0) 1 1] [yF 10 109 false none 0 0 0] ?_
   refine xqc 135 [.slice a b f,.slice (yL x0) 1 1] 50 xC _ (fun w R Q=>yM zV (kT Q.1.1.1.1.1.2 (iK Q.2) B wl_1)) fun⟨j0,k0,l0⟩=>?_
   refine xq 1 [eS1 13 j0 k0 l0] [] ?_
   refine yZ (yY (xq 5 [yB 51 s,eS1 52 j0 k0 l0,yJ 55 (IntKind.i64.wrap (e+((j+1:Nat):Int)))] [] ?_))
   rw[yW (e+((j+1:Nat):Int)) (e+((j+1:Nat):Int)) qO]
   obtain⟨u,J⟩:=yE (xU s (n/2^(j+1)+1) ((e+((j+1:Nat):Int))))
   refine xqc 138 [.bool s,.slice j0 k0 l0, yI (e+((j+1:Nat):Int))] 56 (shNb u) _ (fun w R Q=>yM xP ((show Calls _ _ _ _ (xJ w u) by rw[←J];exact lL s _ _ _ _ _ _ Q.1.1.1.1.1.1.1.1.1 Q.2 P qO qO))) fun⟨m0,n0,o0⟩=>?_
   refine xq 4 [yJ 11 u.err] [yF 10 109 u.s m0 n0 o0 u.e] ?_
   refine yZ (zG ?_)
   refine yR (.tuple #[yV u.s m0 n0 o0 u.e, yI u.err]) fun w' R Q=>?_
   rw[iR hj k1 (Or.inr (Or.inr k3)) O,J]
   exact⟨(m0,n0,o0),rfl,Q.2,R⟩
  have k3:=U.trans D
  refine zJ (zA (yY (xq 5 [yB 51 s,eS1 52 a b f,yJ 55 (IntKind.i64.wrap (e+((j+1:Nat):Int)))] [] ?_)))
  rw[yW (e+((j+1:Nat):Int)) (e+((j+1:Nat):Int)) qO]
  obtain⟨x,hr25⟩:=yE (xU s (n/2^(j+1)) ((e+((j+1:Nat):Int))))
  refine xqc 138 [.bool s,.slice a b f, yI (e+((j+1:Nat):Int))] 56 (shNb x) _ (fun w R Q=>yM xP ((show Calls _ _ _ _ (xJ w x) by rw[←hr25];exact lL s _ _ _ _ _ _ Q.1.1.1.1.1.1.1 Q.1.1.1.1.2 B qO qO))) fun⟨p0,q0,r0⟩=>?_
  refine xq 4 [yJ 11 x.err] [yF 10 109 x.s p0 q0 r0 x.e] ?_
  refine yZ (zG ?_)
  refine yR (.tuple #[yV x.s p0 q0 r0 x.e, yI x.err]) fun w' R Q=>?_
  rw[gY hj O (fun h=>by rcases h.2 with h|h|h;exact k4 h;exact k2 h;rw[k3] at h;cases h),hr25]
  exact⟨(p0,q0,r0),rfl,Q.2,R⟩
 rw[i]
 have k1:=uB (S.trans i)
 refine xq 14 [yB 47 false] [] ?_
 refine yZ (xb (zJ (zA (yY (xq 5 [yB 51 s,eS1 52 a b f,yJ 55 (IntKind.i64.wrap (e+((j+1:Nat):Int)))] [] ?_)))))
 rw[yW (e+((j+1:Nat):Int)) (e+((j+1:Nat):Int)) qO]
 obtain⟨y,K⟩:=yE (xU s (n/2^(j+1)) ((e+((j+1:Nat):Int))))
 refine xqc 138 [.bool s,.slice a b f, yI (e+((j+1:Nat):Int))] 56 (shNb y) _ (fun w R Q=>yM xP ((show Calls _ _ _ _ (xJ w y) by rw[←K];exact lL s _ _ _ _ _ _ Q.1.1.1.1 Q.1.2 B qO qO))) fun⟨s0,t0,u0⟩=>?_
 refine xq 4 [yJ 11 y.err] [yF 10 109 y.s s0 t0 u0 y.e] ?_
 refine yZ (zG ?_)
 refine yR (.tuple #[yV y.s s0 t0 u0 y.e, yI y.err]) fun w' R Q=>?_
 rw[gY hj O (fun h=>k1 h.1),K]
 exact⟨(s0,t0,u0),rfl,Q.2,R⟩
theorem Zjq (s:Bool)(A:qA)(l c n:Nat)(e:Int)(bits:Nat)(Q:Nat)(A2:qA)(l2 c2:Nat)(w:World)(hg:Glob w)(hN:zD w (.slice A l c) n)(E:wl n≤4294967296)(z0 : -576460752303423488≤e)(A0:e≤576460752303423488)(hb:bits≤4294967296)(hQ:ZbC w Q (.slice A2 l2 c2)) :
 yA 132 #[.bool s,.slice A l c,.int .i64 e,.int .i64 ((bits:Nat):Int),.func (.func 159) #[] #[.pointer (some ⟨Q,0,none⟩)]] w (xJ w (wO s n e bits (decide (0<l2)))):=by
 refine zQ (Φ:=fun w=>((Glob w∧zD w (.slice A l c) (n))∧ZbC w Q (.slice A2 l2 c2))) func132 rfl qK (fun w' hf=>⟨⟨hg.ext hf,hN.ext hf⟩,hQ.ext hf⟩) ?_
 refine zC ?_
 have B0:=Zel E
 by_cases F:blen n≤bits
 ·obtain⟨k,hk⟩:∃ k,bits=blen n+k:=⟨bits-blen n,qO⟩
  refine zB (xq 2 [(10,.p 10 0),yJ 11 0] [yF 10 109 false none 0 0 0] ?_)
  refine yZ (yY (xq 1 [eS1 14 A l c] [] ?_))
  refine xqc 139 [.slice A l c] 15 (fun _:Unit=>yI ((blen n:Nat):Int)) _ (fun w S R=>(lY R.1.2 E).mono (fun _ _ h=>zL h rfl)) fun xx=>?_
  refine xq 2 [yJ 17 (IntKind.i64.wrap (((blen n:Nat):Int)-(bits:Int)))] [] ?_
  rw[show IntKind.i64.wrap (((blen n:Nat):Int)-(bits:Int)) = -(k:Int) by rw[IntKind.wrap_i64];omega]
  refine xq 1 [yJ 12 (-(k:Int))] [] ?_
  refine yZ (zC (yY (xq 2 [(19,.v (.bool (decide ((-(k:Int))≤0))))] [] ?_)))
  rw[show decide (-(k:Int)≤0)=true from vR qO]
  refine yZ (xa (yY (xq 3 [yB 20 s,eS1 21 A l c,yJ 22 e] [] ?_)))
  obtain⟨g,G⟩:=yE (xU s (n) (e))
  refine xqc 138 [.bool s,.slice A l c, yI e] 23 (shNb g) _ (fun w S R=>((show Calls _ _ _ _ (xJ w g) by rw[←G];exact lL s _ _ _ _ _ _ R.1.1.1 R.1.1.2 E qO qO)).mono (fun _ _=>xP)) fun⟨L,M,N⟩=>?_
  refine xq 4 [yJ 11 g.err] [yF 10 109 g.s L M N g.e] ?_
  refine yZ (zG (zK ?_))
  refine yR (.tuple #[yV g.s L M N g.e, yI g.err]) fun w' S R=>?_
  rw[ZbB F,G]
  exact⟨(L,M,N),rfl,R.2,S⟩
 obtain⟨j,hj⟩:∃ j,blen n=bits+(j+1):=⟨blen n-bits-1,qO⟩
 have O:0<n:=sC (fun e=>by rw[e,gL] at F;omega)
 have B:wl (n/2^(j+1))≤4294967296:=uC (wE (vN _ _)) E
 have P:wl (n/2^(j+1)+1)≤4294967296:=uC (wE (qQ O (Nat.one_lt_two_pow qO))) E
 obtain⟨b1,T⟩:=yE (decide (n/2^j%2=1))
 obtain⟨b2,U⟩:=yE (decide (n/2^(j+1)/2^0%2=1))
 obtain⟨b3,V⟩:=yE (decide (0<l2))
 refine zB (xq 2 [(10,.p 10 0),yJ 11 0] [yF 10 109 false none 0 0 0] ?_)
 refine yZ (yY (xq 1 [eS1 14 A l c] [] ?_))
 refine xqc 139 [.slice A l c] 15 (fun _:Unit=>yI ((blen n:Nat):Int)) _ (fun w S R=>(lY R.1.2 E).mono (fun _ _ h=>zL h rfl)) fun xx=>?_
 refine xq 2 [yJ 17 (IntKind.i64.wrap (((blen n:Nat):Int)-(bits:Int)))] [] ?_
 rw[yW (((blen n:Nat):Int)-(bits:Int)) (((j+1:Nat):Int)) qO]
 refine xq 1 [yJ 12 ((j+1:Nat):Int)] [] ?_
 refine yZ (zC (yY (xq 2 [yB 19 (decide (((j+1:Nat):Int)≤0))] [] ?_)))
 rw[show decide (((j+1:Nat):Int)≤0)=false from uX qO]
 refine yZ (xb (zJ (zA (yY (xq 2 [eS1 26 A l c,yJ 27 ((j+1:Nat):Int)] [] ?_)))))
 refine xqc 140 [.slice A l c, yI ((j+1:Nat):Int)] 28 xC _ (fun w S R=>(jR (j+1) R.1.1.2 E qO).mono (fun _ _=>zV)) fun⟨a,b,f⟩=>?_
 refine xq 1 [eS1 13 a b f] [] ?_
 refine yZ (zC (yY (xq 3 [eS1 29 A l c,yJ 31 (IntKind.i64.wrap (((j+1:Nat):Int)-1))] [] ?_)))
 rw[yW (((j+1:Nat):Int)-1) ((j:Int)) qO]
 refine xqc 170 [.slice A l c, yI (j:Int)] 32 (fun _:Unit=>.bool b1) _ (fun w S R=>((show Calls _ _ _ _ (RetV w (.bool b1)) by rw[←T];exact cJ (j) R.1.1.1.2 qO)).mono (fun _ _ h=>zL h rfl)) fun xx=>?_
 refine xq 1 [yB 33 b1] [] ?_
 rcases bl2 (b1) with i|i
 ·rw[i]
  have k1:=uA (T.trans i)
  refine xq 1 [eS1 34 A l c] [] ?_
  refine xqc 171 [.slice A l c] 35 (fun _:Unit=>yI ((tzn n:Nat):Int)) _ (fun w S R=>(bX R.1.1.1.1.1 R.1.1.1.1.2 E O).mono (fun _ _ h=>zL h rfl)) fun xx=>?_
  refine xq 2 [yJ 37 (IntKind.i64.wrap (((j+1:Nat):Int)-1))] [] ?_
  rw[yW (((j+1:Nat):Int)-1) ((j:Int)) qO]
  refine xq 2 [yB 39 (decide (((tzn n:Nat):Int)<(j:Int)))] [] ?_
  rcases bl2 ((decide (((tzn n:Nat):Int)<(j:Int)))) with m|m
  ·rw[m]
   have W:=uA m
   have k4:tzn n<j:=qO
   refine xr 8 [yB 0 s,yJ 2 e,(10,.p 10 0),yJ 11 0,yJ 12 ((j+1:Nat):Int),eS1 13 a b f,yB 47 true] [yF 10 109 false none 0 0 0] ?_
   refine yZ (xa (zB (xq 1 [eS1 48 a b f] [] ?_)))
   refine yD (d:=49) (fun C:Nat=>.slice (yL C) 1 1) (fun C zw=>Blk 141 zw C #[yX 1]) (fun w S R=>lN (t:=107) (e:=141) (n:=1) (sz:=1) (z:=yX 0) (parts:=#[(0,Operand.const (Value.int IntKind.u64 1))]) qK qK qK qK qK qK) fun w0=>?_
   refine xr 0 [yB 0 s,yJ 2 e,(10,.p 10 0),yJ 11 0,yJ 12 ((j+1:Nat):Int),eS1 13 a b f,eS1 48 a b f,eS1 49 (yL w0) 1 1] [yF 10 109 false none 0 0 0] ?_
   refine xqc 135 [.slice a b f,.slice (yL w0) 1 1] 50 xC _ (fun w S R=>(kT R.1.1.1.2 (iK R.2) B wl_1).mono (fun _ _=>zV)) fun⟨X,Y,Z⟩=>?_
   refine xq 1 [eS1 13 X Y Z] [] ?_
   refine yZ (yY (xq 5 [yB 51 s,eS1 52 X Y Z,yJ 55 (IntKind.i64.wrap (e+((j+1:Nat):Int)))] [] ?_))
   rw[yW (e+((j+1:Nat):Int)) (e+((j+1:Nat):Int)) qO]
   obtain⟨o,H⟩:=yE (xU s (n/2^(j+1)+1) ((e+((j+1:Nat):Int))))
   refine xqc 138 [.bool s,.slice X Y Z, yI (e+((j+1:Nat):Int))] 56 (shNb o) _ (fun w S R=>((show Calls _ _ _ _ (xJ w o) by rw[←H];exact lL s _ _ _ _ _ _ R.1.1.1.1.1.1.1.1 R.2 P qO qO)).mono (fun _ _=>xP)) fun⟨a0,b0,c0⟩=>?_
   refine xq 4 [yJ 11 o.err] [yF 10 109 o.s a0 b0 c0 o.e] ?_
   refine yZ (zG ?_)
   refine yR (.tuple #[yV o.s a0 b0 c0 o.e, yI o.err]) fun w' S R=>?_
   rw[iR hj k1 (Or.inl k4) O,H]
   exact⟨(a0,b0,c0),rfl,R.2,S⟩
  rw[m]
  have W:=uB m
  have k4:¬ tzn n<j:=qO
  refine xr 1 [yB 0 s,yJ 2 e,(4,.v (.func (.func 159) #[] #[.pointer (yL Q)])),(10,.p 10 0),yJ 11 0,yJ 12 ((j+1:Nat):Int),eS1 13 a b f,yB 33 true,yB 39 false,eS1 40 a b f] [yF 10 109 false none 0 0 0] ?_
  refine xqc 170 [.slice a b f, yI 0] 41 (fun _:Unit=>.bool b2) _ (fun w S R=>((show Calls _ _ _ _ (RetV w (.bool b2)) by rw[←U];exact cJ (0) R.1.1.2 qO)).mono (fun _ _ h=>zL h rfl)) fun xx=>?_
  refine xq 2 [yB 43 b2] [] ?_
  rcases bl2 (b2) with q|q
  ·rw[q]
   have k2:=uA (U.trans q)
   rw[vT,rG] at k2
   refine xq 4 [yB 47 true] [] ?_
   refine yZ (xa (zB (xq 1 [eS1 48 a b f] [] ?_)))
   refine yD (d:=49) (fun C:Nat=>.slice (yL C) 1 1) (fun C zw=>Blk 141 zw C #[yX 1]) (fun w S R=>lN (t:=107) (e:=141) (n:=1) (sz:=1) (z:=yX 0) (parts:=#[(0,Operand.const (Value.int IntKind.u64 1))]) qK qK qK qK qK qK) fun x0=>?_
   refine xr 0 [yB 0 s,yJ 2 e,(10,.p 10 0),yJ 11 0,yJ 12 ((j+1:Nat):Int),eS1 13 a b f,eS1 48 a b f,eS1 49 (yL x0) 1 1] [yF 10 109 false none 0 0 0] ?_
   refine xqc 135 [.slice a b f,.slice (yL x0) 1 1] 50 xC _ (fun w S R=>(kT R.1.1.1.1.2 (iK R.2) B wl_1).mono (fun _ _=>zV)) fun⟨d0,e0,f0⟩=>?_
   refine xq 1 [eS1 13 d0 e0 f0] [] ?_
   refine yZ (yY (xq 5 [yB 51 s,eS1 52 d0 e0 f0,yJ 55 (IntKind.i64.wrap (e+((j+1:Nat):Int)))] [] ?_))
   rw[yW (e+((j+1:Nat):Int)) (e+((j+1:Nat):Int)) qO]
   obtain⟨r,I⟩:=yE (xU s (n/2^(j+1)+1) ((e+((j+1:Nat):Int))))
   refine xqc 138 [.bool s,.slice d0 e0 f0, yI (e+((j+1:Nat):Int))] 56 (shNb r) _ (fun w S R=>((show Calls _ _ _ _ (xJ w r) by rw[←I];exact lL s _ _ _ _ _ _ R.1.1.1.1.1.1.1.1.1 R.2 P qO qO)).mono (fun _ _=>xP)) fun⟨g0,i0,j0⟩=>?_
   refine xq 4 [yJ 11 r.err] [yF 10 109 r.s g0 i0 j0 r.e] ?_
   refine yZ (zG ?_)
   refine yR (.tuple #[yV r.s g0 i0 j0 r.e, yI r.err]) fun w' S R=>?_
   rw[iR hj k1 (Or.inr (Or.inl k2)) O,I]
   exact⟨(g0,i0,j0),rfl,R.2,S⟩
  rw[q]
  have k2:=uB (U.trans q)
  rw[vT,rG] at k2
  refine xq 1 [(44,.v (.func (.func 159) #[] #[.pointer (yL Q)]))] [] ?_
  refine xqc 159 [.pointer (yL Q)] 45 (fun _:Unit=>.bool b3) _ (fun w S R=>((show Calls _ _ _ _ (RetV w (.bool b3)) by rw[←V];exact ZkI Q A2 l2 c2 _ R.1.1.1.1.1.2)).mono (fun _ _ h=>zL h rfl)) fun xx=>?_
  refine xq 2 [yB 47 b3] [] ?_
  refine xe (zA ?_)
  refine yQ (b3) (fun D=>?_) fun D=>?_
  ·have k3:=V.trans D
   refine zB (xq 1 [eS1 48 a b f] [] ?_)
   refine yD (d:=49) (fun C:Nat=>.slice (yL C) 1 1) (fun C zw=>Blk 141 zw C #[yX 1]) (fun w S R=>lN (t:=107) (e:=141) (n:=1) (sz:=1) (z:=yX 0) (parts:=#[(0,Operand.const (Value.int IntKind.u64 1))]) qK qK qK qK qK qK) fun y0=>?_
   refine xr 0 [yB 0 s,yJ 2 e,(10,.p 10 0),yJ 11 0,yJ 12 ((j+1:Nat):Int),eS1 13 a b f,eS1 48 a b f,eS1 49 (yL y0) 1 1] [yF 10 109 false none 0 0 0] ?_
   refine xqc 135 [.slice a b f,.slice (yL y0) 1 1] 50 xC _ (fun w S R=>(kT R.1.1.1.1.1.2 (iK R.2) B wl_1).mono (fun _ _=>zV)) fun⟨k0,l0,m0⟩=>?_
   refine xq 1 [eS1 13 k0 l0 m0] [] ?_
   refine yZ (yY (xq 5 [yB 51 s,eS1 52 k0 l0 m0,yJ 55 (IntKind.i64.wrap (e+((j+1:Nat):Int)))] [] ?_))
   rw[yW (e+((j+1:Nat):Int)) (e+((j+1:Nat):Int)) qO]
   obtain⟨u,J⟩:=yE (xU s (n/2^(j+1)+1) ((e+((j+1:Nat):Int))))
   refine xqc 138 [.bool s,.slice k0 l0 m0, yI (e+((j+1:Nat):Int))] 56 (shNb u) _ (fun w S R=>((show Calls _ _ _ _ (xJ w u) by rw[←J];exact lL s _ _ _ _ _ _ R.1.1.1.1.1.1.1.1.1.1 R.2 P qO qO)).mono (fun _ _=>xP)) fun⟨n0,o0,p0⟩=>?_
   refine xq 4 [yJ 11 u.err] [yF 10 109 u.s n0 o0 p0 u.e] ?_
   refine yZ (zG ?_)
   refine yR (.tuple #[yV u.s n0 o0 p0 u.e, yI u.err]) fun w' S R=>?_
   rw[iR hj k1 (Or.inr (Or.inr k3)) O,J]
   exact⟨(n0,o0,p0),rfl,R.2,S⟩
  have k3:=V.trans D
  refine zJ (zA (yY (xq 5 [yB 51 s,eS1 52 a b f,yJ 55 (IntKind.i64.wrap (e+((j+1:Nat):Int)))] [] ?_)))
  rw[yW (e+((j+1:Nat):Int)) (e+((j+1:Nat):Int)) qO]
  obtain⟨x,hr25⟩:=yE (xU s (n/2^(j+1)) ((e+((j+1:Nat):Int))))
  refine xqc 138 [.bool s,.slice a b f, yI (e+((j+1:Nat):Int))] 56 (shNb x) _ (fun w S R=>((show Calls _ _ _ _ (xJ w x) by rw[←hr25];exact lL s _ _ _ _ _ _ R.1.1.1.1.1.1.1.1 R.1.1.1.1.2 B qO qO)).mono (fun _ _=>xP)) fun⟨q0,r0,s0⟩=>?_
  refine xq 4 [yJ 11 x.err] [yF 10 109 x.s q0 r0 s0 x.e] ?_
  refine yZ (zG ?_)
  refine yR (.tuple #[yV x.s q0 r0 s0 x.e, yI x.err]) fun w' S R=>?_
  rw[gY hj O (fun h=>by rcases h.2 with h|h|h;exact k4 h;exact k2 h;rw[k3] at h;cases h),hr25]
  exact⟨(q0,r0,s0),rfl,R.2,S⟩
 rw[i]
 have k1:=uB (T.trans i)
 refine xq 14 [yB 47 false] [] ?_
 refine yZ (xb (zJ (zA (yY (xq 5 [yB 51 s,eS1 52 a b f,yJ 55 (IntKind.i64.wrap (e+((j+1:Nat):Int)))] [] ?_)))))
 rw[yW (e+((j+1:Nat):Int)) (e+((j+1:Nat):Int)) qO]
 obtain⟨y,K⟩:=yE (xU s (n/2^(j+1)) ((e+((j+1:Nat):Int))))
 refine xqc 138 [.bool s,.slice a b f, yI (e+((j+1:Nat):Int))] 56 (shNb y) _ (fun w S R=>((show Calls _ _ _ _ (xJ w y) by rw[←K];exact lL s _ _ _ _ _ _ R.1.1.1.1.1 R.1.2 B qO qO)).mono (fun _ _=>xP)) fun⟨t0,u0,v0⟩=>?_
 refine xq 4 [yJ 11 y.err] [yF 10 109 y.s t0 u0 v0 y.e] ?_
 refine yZ (zG ?_)
 refine yR (.tuple #[yV y.s t0 u0 v0 y.e, yI y.err]) fun w' S R=>?_
 rw[gY hj O (fun h=>k1 h.1),K]
 exact⟨(t0,u0,v0),rfl,R.2,S⟩
theorem Zfr {u v:Value}{m n:Nat}{w:World}(d:zD w u m)(e:zD w v n)(f:wl m≤4294967295)(g:wl n≤4294967296)(l:0<n):yA 158 #[u,v] w (ZaW w (m/n) (m%n)):=by
 have a:=d
 have b:=e
 obtain⟨A,o,c,rfl,y,p,h,i,rfl⟩:=d
 obtain⟨q,r,s,rfl,t,x,j,k,rfl⟩:=e
 rw[←xH h i] at f
 rw[←xH j k] at g
 exact ZkE A q o r c s w p x f g h j a b i k l
theorem Zmd {s:Bool}{A:qA}{l c:Nat}{e:Int}:Zh9 #[.bool s,.slice A l c,.int .i64 e]:=by
 intro i k;rcases i with _|_|_|i<;>simp
theorem Blk.cell3n {t:TypeId}{w:World}{g:Nat}{x y z:Value}(h:Blk t w g #[x,y,z]):w.cell? ⟨g,0,none⟩=some x∧w.cell? ⟨g,1,none⟩=some y∧w.cell? ⟨g,2,none⟩=some z∧w.frozen? ⟨g,0,none⟩=false∧w.frozen? ⟨g,1,none⟩=false∧w.frozen? ⟨g,2,none⟩=false :=
 ⟨h.cell 0,h.cell 1,h.cell 2,h.frozen 0,h.frozen 1,h.frozen 2⟩
theorem Zoz {fn:Func}{t q:Tmp}{a:Array Value}{w g b:World}{r:Nat}{x:FR}{A y:qA}{l c z c0:Nat}{s0:Bool}{B:Int}(d:fn.results=#[.cell t 109,.tmp q])(C:a[t]? = some (.pointer (some ⟨r,0,none⟩)))(h:a[q]? = some (.int .i64 x.err))(j:w.heap.size≤r)(D:Ext w g)(E:Blk 109 g r #[.bool s0,.slice y z c0,.int .i64 B])(u:Ext g b)(F:zD b (.slice A l c) x.m) :
 bodyPost prog fn (xJ w x) .ret ⟨a,[]⟩ (((b.setCell ⟨r,0,none⟩ (.bool x.s)).setCell ⟨r,1,none⟩ (.slice A l c)).setCell ⟨r,2,none⟩ (.int .i64 x.e)):=by
 have f:=E.ext u
 have k:Blk 109 (((b.setCell ⟨r,0,none⟩ (.bool x.s)).setCell ⟨r,1,none⟩ (.slice A l c)).setCell ⟨r,2,none⟩ (.int .i64 x.e)) r #[.bool x.s,.slice A l c,.int .i64 x.e]:=((f.set_ 0 _).set_ 1 _).set_ 2 _
 obtain⟨G,H,I,_⟩:=k.cell3n
 have J:Fr (fun i=>i=r) b (((b.setCell ⟨r,0,none⟩ (.bool x.s)).setCell ⟨r,1,none⟩ (.slice A l c)).setCell ⟨r,2,none⟩ (.int .i64 x.e)):=(((show Fr (fun i=>i=r) b b from Fr.refl _ _).setCell (p:=⟨r,0,none⟩) (Or.inl rfl) _).setCell (p:=⟨r,1,none⟩) (Or.inl rfl) _).setCell (p:=⟨r,2,none⟩) (Or.inl rfl) _
 have n:=F.other f Zmd J
 have o:Ext w (((b.setCell ⟨r,0,none⟩ (.bool x.s)).setCell ⟨r,1,none⟩ (.slice A l c)).setCell ⟨r,2,none⟩ (.int .i64 x.e)):=(((D.trans u).setCell (p:=⟨r,0,none⟩) (Or.inr j) _).setCell (p:=⟨r,1,none⟩) (Or.inr j) _).setCell (p:=⟨r,2,none⟩) (Or.inr j) _
 generalize ((b.setCell ⟨r,0,none⟩ (.bool x.s)).setCell ⟨r,1,none⟩ (.slice A l c)).setCell ⟨r,2,none⟩ (.int .i64 x.e)=W at *
 exact bodyPost_ret (v:=shNb x (A,l,c)) (by simp[results,d,C,h,go_sem,G,H,I,shNb]) rfl ⟨(A,l,c),rfl,n,o⟩
theorem aZ {a b:Nat}(h:a<64*b):wl (2^a)≤b:=lR.2 (by rw[show W64=2^64 by rw[zR],← rZ];exact Nat.pow_lt_pow_right qD h)
theorem Zcw (s:Bool)(A:qA)(l c n:Nat)(B:qA)(m d k:Nat)(e:Int)(bits:Nat)(w:World)(hg:Glob w)(hN:zD w (.slice A l c) n)(hK:zD w (.slice B m d) k)(h0:wl n≤1000000)(i0:wl k≤1000000)(D:0<k)(j0 : -288230376151711744≤e)(k0:e≤288230376151711744)(P:0<bits)(hb:bits≤1000000) :
 yA 110 #[.bool s,.slice A l c,.slice B m d,.int .i64 e,.int .i64 ((bits:Nat):Int)] w (xJ w (wK s n k e bits)):=by
 have l0:=gI n
 have m0:=gI k
 obtain⟨a1,E⟩:∃ a,a=(rk0 n k bits-1).toNat:=⟨_,rfl⟩
 obtain⟨a2,j⟩:∃ a,a=(-(rk0 n k bits-1)).toNat:=⟨_,rfl⟩
 obtain⟨b,Q⟩:∃ x:Int,x=(bits:Int)+1+(blen k:Nat)-(blen n:Nat):=⟨_,rfl⟩
 have f:rk0 n k bits-1 = -b:=by unfold rk0;omega
 rw[f] at E j
 rw[Int.neg_neg] at j
 have n0 : -100000000≤b:=qO
 have o0:b≤100000000:=qO
 have F:fa n (rk0 n k bits-1)=n*2^a2:=by unfold fa;rw[f,Int.neg_neg,← j]
 have G:fb k (rk0 n k bits-1)=k*2^a1:=by unfold fb;rw[f,← E]
 have p0:wl (n*2^a2)≤4000000:=by
  refine uC (bG _ _) ?_
  have:wl (2^a2)≤2000001:=aZ qO
  omega
 have q0:wl (k*2^a1)≤4000000:=by
  refine uC (bG _ _) ?_
  have:wl (2^a1)≤2000001:=aZ qO
  omega
 have r0:(if (0:Int)>b then (0:Int) else b)=(a2:Int):=by split<;>omega
 have s0:(if (0:Int) > -b then (0:Int) else -b)=(a1:Int):=by split<;>omega
 have HG:=zh hg
 have HN:=zh hN
 have HK:=zh hK
 clear hg hN hK
 obtain⟨x,R⟩:=yE (wK s n k e bits)
 rw[R]
 have HX:=zh R
 clear R
 go_enter func110,ntmps110
 go_wp2_with fail
 refine (lY (HK.out.ext ((Fr.refl _ _).alloc _)) qO).mono ?_
 rintro H w1 ⟨rfl,o⟩
 have I:Hid (Ext w w1):=((Fr.refl _ _).alloc _).trans o
 have S:Hid (Blk 109 w1 w.heap.size #[.bool false,.slice none 0 0,.int .i64 0]):=(show Blk 109 (w.alloc (.cells #[.bool false,.slice none 0 0,.int .i64 0] 109)) w.heap.size #[.bool false,.slice none 0 0,.int .i64 0] from heap_alloc_new w _).ext o
 clear o
 go_wp2_with fail
 refine (lY (HN.out.ext I.out) qO).mono ?_
 rintro H w2 ⟨rfl,p⟩
 have J:=zh (I.out.trans p)
 have T:=zh (S.out.ext p)
 clear p
 go_wp2_with fail
 rw[show max ((bits:Int)+1+(blen k:Nat)-(blen n:Nat)) 0=(a2:Int) by omega]
 refine (kO a2 (HN.out.ext J.out) qO qO).mono ?_
 rintro H w3 ⟨v3,rfl,q,r⟩
 obtain⟨A3,l3,c3,rfl⟩:=q.slice
 have K:=zh (J.out.trans r)
 have U:=zh (T.out.ext r)
 have V:=zh q
 clear q r
 go_wp2_with fail
 rw[show max (-((bits:Int)+1+(blen k:Nat)-(blen n:Nat))) 0=(a1:Int) by omega]
 refine (kO a1 (HK.out.ext K.out) qO qO).mono ?_
 rintro H w4 ⟨v4,rfl,t,g⟩
 obtain⟨A4,l4,c4,rfl⟩:=t.slice
 have W:=zh (K.out.trans g)
 have X:=zh (U.out.ext g)
 have L:=zh (V.out.ext g)
 have Y:=zh t
 clear t g
 go_wp2_with fail
 refine (Zfr L.out Y.out qO qO (tZ D (p2 a1))).mono ?_
 rintro H Z ⟨v5,v6,rfl,u,v,y⟩
 obtain⟨A5,l5,c5,rfl⟩:=u.slice
 obtain⟨A6,O,c6,rfl⟩:=v.slice
 have M:=zh (W.out.trans y)
 have a0:=zh (X.out.ext y)
 have b0:=zh u
 have c0:=zh v
 clear u v y
 go_wp2_with fail
 have i:ZbC (Z.alloc (.cells #[.slice A6 O c6] 107)) Z.heap.size (.slice A6 O c6):=⟨qS,by rw[Lib.cell_of_heap (heap_alloc_new Z _)];rfl⟩
 have d0:wl (n*2^a2/(k*2^a1))≤4294967296:=uC (wE (vN _ _)) qO
 refine (Zjq s A5 l5 c5 _ _ bits _ A6 O c6 _ (HG.out.ext (M.out.alloc _)) (b0.out.ext ((Fr.refl _ _).alloc _)) d0 qO qO qO i).mono ?_
 rintro H w6 ⟨⟨A7,l7,c7⟩,rfl,z,C⟩
 have hr:wO s (n*2^a2/(k*2^a1)) (e-((bits:Int)+1+(blen k:Nat)-(blen n:Nat))) bits (decide (0<O))=x:=by
  rw[←HX.out,← Q]
  rcases uJ n with rfl|hn
  ·rw[sM,Nat.zero_div,Zde,jM]
  have h:=ZhH s (n:=n) (d:=k) e (bits:=bits) hn D P
  have hq:fq n k (rk0 n k bits-1)=n*2^a2/(k*2^a1):=by unfold fq;rw[F,G]
  rw[hq,F,G,f] at h
  rw[←h,show e + -b=e-b by omega]
  congr 1
  have e0:=c0.out.len0
  exact qI.2 (by rw[e0];have:=@wX (n*2^a2%(k*2^a1));omega)
 rw[hr] at z
 rw[hr]
 clear hr
 have f0:=zh z
 have g0:Hid (Ext w w6):=(M.out.alloc _).trans C
 have N:=zh ((a0.out.ext ((Fr.refl _ _).alloc _)).ext C)
 obtain⟨z0,z1,z2,z3,z4,z5⟩:=N.out.cell3n
 clear z C i
 simp only[shNb]
 go_wp2
 exact Zoz rfl rfl rfl (uG _) g0.out N.out (Fr.refl _ _) f0.out
theorem ZeO {a b:Int}:(if b<a then b else a)=min a b:=qO
def fQ (s:Bool) (m:Nat) (e k:Int):FR:=if m=0 then ⟨s,m,e,0⟩ else if k < -2097152∨k>2097152 then ⟨false,0,0,2⟩ else xU s m (e+k)
def ZbD (s:Bool) (m n:Nat) (e:Int) (bits:Nat):FR:=if n=0 then ⟨false,0,0,5⟩ else wK s m n e bits
def sumR (sx:Bool) (xm:Nat) (xe:Int) (sy:Bool) (ym:Nat) (ye:Int) (bits:Nat):FR :=
 if xm=0 then wK sy ym 1 ye bits else if ym=0 then wK sx xm 1 xe bits else addR sx xm xe sy ym ye bits
theorem Zav {n a:Nat}(c:wl n≤1000000)(ha:a≤100000000):wl (n*2^a)≤4000000:=by
 have:=bG n (2^a)
 have:wl (2^a)≤2000001:=aZ qO
 omega
section
variable {s t:Bool} {a b bits:Nat} {low:Int}
theorem Zfs (ha:0<a)(h:s=t):wK (decide (sg s a+sg t b<0)) (sg s a+sg t b).natAbs 1 low bits=wK s (a+b) 1 low bits:=by
 subst h
 have c:decide (sg s a+sg s b<0)=s:=by cases s<;>simp[sg]<;>omega
 have d:(sg s a+sg s b).natAbs=a+b:=by cases s<;>simp[sg]<;>omega
 rw[c,d]
theorem Zem (h:¬ s=t)(f:b≤a):wK (decide (sg s a+sg t b<0)) (sg s a+sg t b).natAbs 1 low bits=wK s (a-b) 1 low bits:=by
 have c:(sg s a+sg t b).natAbs=a-b:=by cases s<;>cases t<;>simp[sg] at h ⊢<;>omega
 rw[c]
 by_cases e:a-b=0
 ·rw[e,jM,jM]
 have d:decide (sg s a+sg t b<0)=s:=by cases s<;>cases t<;>simp[sg] at h ⊢<;>omega
 rw[d]
theorem Zdf (h:¬ s=t)(e:a<b):wK (decide (sg s a+sg t b<0)) (sg s a+sg t b).natAbs 1 low bits=wK t (b-a) 1 low bits:=by
 have c:(sg s a+sg t b).natAbs=b-a:=by cases s<;>cases t<;>simp[sg] at h ⊢<;>omega
 rw[c]
 have d:decide (sg s a+sg t b<0)=t:=by cases s<;>cases t<;>simp[sg] at h ⊢<;>omega
 rw[d]
end
theorem ZgR {sx:Bool}{c:Nat}{xe:Int}{d:Bool}{ym:Nat}{e:Int}{bits u1 f:Nat}{low:Int}(g:min xe e=low)(h:xe-low=u1)(i:e-low=f) :
 addR sx c xe d ym e bits=wK (decide (sg sx (c*2^u1)+sg d (ym*2^f)<0)) (sg sx (c*2^u1)+sg d (ym*2^f)).natAbs 1 low bits:=by
 unfold addR
 rw[g,h,i]
 rfl
theorem aI {a b:Nat}:cmpI a b≥0↔b≤a:=by
 have:=@fI a b
 omega
theorem Zaw (s:Bool)(A:qA)(l c x:Nat)(e:Int)(w:World)(f:zD w (.slice A l c) x)(d:wl x≤4294967296)(g : -1152921504606846976≤e)(h:e≤1152921504606846976) :
 yA 134 #[yV s A l c e] w (RetV w (.int .i64 (((blen x:Nat):Int)+e))):=by
 refine zQ (Φ:=fun w=>zD w (.slice A l c) (x)) func134 rfl qK (fun w' i=>f.ext i) ?_
 refine zC ?_
 have j:=Zel d
 refine zB (xq 2 [(1,.p 1 0),yJ 2 0] [yF 1 109 s A l c e] ?_)
 refine yZ (zC ?_)
 refine yO 7 zN ?_
 refine xqg 2 [eS1 4 A l c] ?_
 refine xqd 139 [.slice A l c] 5 (fun _:Unit=>yI ((blen x:Nat):Int)) _ (fun w R Q=>yN (lY Q d)) fun k=>?_
 refine xqg 3 [yJ 8 (IntKind.i64.wrap (((blen x:Nat):Int)+e))] ?_
 rw[yW (((blen x:Nat):Int)+e) (((blen x:Nat):Int)+e) qO]
 refine xqg 1 [yJ 2 (((blen x:Nat):Int)+e)] ?_
 refine xz (yZ (zG ?_))
 refine yR (yI (((blen x:Nat):Int)+e)) fun w' R Q=>?_
 exact⟨rfl,R⟩
theorem ZhI (s:Bool)(A:qA)(l c x:Nat)(e:Int)(k:Int)(w:World)(z:Glob w)(v:zD w (.slice A l c) x)(B:wl x≤100000)(C : -1073741824≤e)(D:e≤1073741824) :
 yA 92 #[yV s A l c e,.int .i64 k] w (xJ w (fQ s x e k)):=by
 refine zQ (Φ:=fun w=>(Glob w∧zD w (.slice A l c) (x))) func92 rfl qK (fun w' y=>⟨z.ext y,v.ext y⟩) ?_
 refine zC ?_
 have E:=v.len0
 have F:=@wX x
 refine zB (xq 3 [(2,.p 2 0),(4,.p 4 0),yJ 5 0] [yF 4 109 false none 0 0 0,yF 2 109 s A l c e] ?_)
 refine yZ (zC (yY (xq 4 [yB 9 (((l:Int):Int) == 0)] [] ?_)))
 refine xe (zA ?_)
 refine yQ ((((l:Int):Int) == 0)) (fun g=>?_) fun g=>?_
 ·have j:=tG.1 g
  have u:x=0:=qO
  refine yY (xq 3 [yJ 5 0] [yF 4 109 s A l c e] ?_)
  refine yZ (zG (zK ?_))
  refine yR (.tuple #[yV s A l c e, yI 0]) fun w' R Q=>?_
  rw[show fQ s x e k=⟨s,x,e,0⟩ from uS u]
  exact⟨(A,l,c),rfl,Q.2,R⟩
 have j:=wF g
 have u:¬ x=0:=qO
 refine zJ (zA (zC (yY (xq 3 [yB 13 (decide (k<(-2097152)))] [] ?_))))
 rcases bl2 ((decide (k<(-2097152)))) with d|d
 ·rw[d]
  have m:=uA d
  refine xq 3 [yB 16 true] [] ?_
  refine yZ (xa (yY (xq 3 [yJ 5 2] [] ?_)))
  refine yZ (zG (zK ?_))
  refine yR (.tuple #[yV false none 0 0 0, yI 2]) fun w' R Q=>?_
  rw[show fQ s x e k=⟨false,0,0,2⟩ by unfold fQ;rw[uL u,uS qO]]
  exact⟨(none,0,0),rfl,zD.zero _,R⟩
 rw[d]
 have m:=uB d
 refine xq 3 [yB 16 (decide (k>2097152))] [] ?_
 refine xe (zA ?_)
 refine yQ ((decide (k>2097152))) (fun h=>?_) fun h=>?_
 ·have n:=uA h
  refine yY (xq 3 [yJ 5 2] [] ?_)
  refine yZ (zG (zK ?_))
  refine yR (.tuple #[yV false none 0 0 0, yI 2]) fun w' R Q=>?_
  rw[show fQ s x e k=⟨false,0,0,2⟩ by unfold fQ;rw[uL u,uS qO]]
  exact⟨(none,0,0),rfl,zD.zero _,R⟩
 have n:=uB h
 refine zJ (zA (yY (xq 8 [yB 19 s,eS1 21 A l c,yJ 25 (IntKind.i64.wrap (e+k))] [] ?_)))
 rw[yW (e+k) (e+k) qO]
 obtain⟨f,i⟩:=yE (xU s x ((e+k)))
 refine xqc 138 [.bool s,.slice A l c, yI (e+k)] 26 (shNb f) _ (fun w R Q=>yM xP ((show Calls _ _ _ _ (xJ w f) by rw[←i];exact lL s _ _ _ _ _ _ Q.1 Q.2 qO qO qO))) fun⟨o,q,r⟩=>?_
 refine xq 4 [yJ 5 f.err] [yF 4 109 f.s o q r f.e] ?_
 refine yZ (zG ?_)
 refine yR (.tuple #[yV f.s o q r f.e, yI f.err]) fun w' R Q=>?_
 rw[show fQ s x e k=xU s x (e+k) by unfold fQ;rw[uL u,uL qO],i]
 exact⟨(o,q,r),rfl,Q.2,R⟩
theorem Zft (s:Bool)(A:qA)(l c x:Nat)(e:Int)(t:Bool)(B:qA)(m d y:Nat)(f:Int)(bits:Nat)(C:0<bits)(W:bits≤4096)(w:World)(J:Glob w)(H:zD w (.slice A l c) x)(K:wl x≤100000)(L : -1073741824≤e)(M:e≤1073741824)(I:zD w (.slice B m d) y)(N:wl y≤100000)(O : -1073741824≤f)(P:f≤1073741824) :
 yA 130 #[yV s A l c e, yV t B m d f,.int .i64 ((bits:Nat):Int)] w (xJ w (wK (s != t) (x*y) 1 (e+f) bits)):=by
 refine zQ (Φ:=fun w=>((Glob w∧zD w (.slice A l c) (x))∧zD w (.slice B m d) (y))) func130 rfl qK (fun w' D=>⟨⟨J.ext D,H.ext D⟩,I.ext D⟩) ?_
 refine zC ?_
 have S:=H.len0
 have T:=I.len0
 have U:=@wX x
 have V:=@wX y
 refine zB (xq 4 [(3,.p 3 0),(4,.p 4 0),(6,.p 6 0),yJ 7 0] [yF 6 109 false none 0 0 0,yF 4 109 t B m d f,yF 3 109 s A l c e] ?_)
 refine yZ (zC (yY (xq 5 [yB 12 (((l:Int):Int) == 0)] [] ?_)))
 rcases bl2 ((((l:Int):Int) == 0)) with h|h
 ·rw[h]
  have q:=tG.1 h
  have u:x=0:=qO
  refine xq 5 [yB 17 true] [] ?_
  refine yZ (xa (yY (xq 3 [yJ 7 0] [] ?_)))
  refine yZ (zG (zK ?_))
  refine yR (.tuple #[yV false none 0 0 0, yI 0]) fun w' R Q=>?_
  rw[u,sM,jM]
  exact⟨(none,0,0),rfl,zD.zero _,R⟩
 rw[h]
 have q:=wF h
 have u:¬ x=0:=qO
 refine xq 5 [yB 17 (((m:Int):Int) == 0)] [] ?_
 refine xe (zA ?_)
 refine yQ ((((m:Int):Int) == 0)) (fun i=>?_) fun i=>?_
 ·have r:=tG.1 i
  have z:y=0:=qO
  refine yY (xq 3 [yJ 7 0] [] ?_)
  refine yZ (zG (zK ?_))
  refine yR (.tuple #[yV false none 0 0 0, yI 0]) fun w' R Q=>?_
  rw[z,tD,jM]
  exact⟨(none,0,0),rfl,zD.zero _,R⟩
 have r:=wF i
 have z:¬ y=0:=qO
 refine zJ (zA (zC ?_))
 refine yO 19 zN ?_
 refine xqg 9 [yB 23 (s != t),eS1 25 A l c,eS1 27 B m d] ?_
 refine xqd 143 [.slice A l c,.slice B m d] 28 xC _ (fun w R Q=>yM zV (Zbz Q.1.2 Q.2 qO qO)) fun⟨E,F,G⟩=>?_
 refine xqg 5 [yJ 33 (IntKind.i64.wrap (e+f))] ?_
 rw[yW (e+f) (e+f) qO]
 refine xqg 1 [yJ 34 (bits:Int)] ?_
 obtain⟨g,o⟩:=yE (wO ((s != t)) (x*y) ((e+f)) bits false)
 refine xqd 132 [.bool (s != t),.slice E F G, yI (e+f), yI (bits:Int),.func (.func 133) #[] #[]] 35 (shNb g) _ (fun w R Q=>yM xP ((show Calls _ _ _ _ (xJ w g) by rw[←o];exact jN ((s != t)) _ _ _ _ ((e+f)) _ _ Q.1.1.1 Q.2 (by have:=bG x y;omega) qO qO qO))) fun⟨j,k,n⟩=>?_
 refine xqg 2 [(36,.v (yV g.s j k n g.e)),yJ 37 g.err] ?_
 refine xz (xq 2 [yJ 7 g.err] [yF 6 109 g.s j k n g.e] ?_)
 refine yZ (zG ?_)
 refine yR (.tuple #[yV g.s j k n g.e, yI g.err]) fun w' R Q=>?_
 rw[←lZ _ _ _ C,o]
 exact⟨(j,k,n),rfl,Q.2,R⟩
theorem ZkK (s:Bool)(A:qA)(l c x:Nat)(e:Int)(t:Bool)(B:qA)(m d y:Nat)(f:Int)(bits:Nat)(r:0<bits)(N:bits≤4096)(w:World)(C:Glob w)(v:zD w (.slice A l c) x)(D:wl x≤100000)(E : -1073741824≤e)(F:e≤1073741824)(z:zD w (.slice B m d) y)(G:wl y≤100000)(H : -1073741824≤f)(I:f≤1073741824) :
 yA 96 #[yV s A l c e, yV t B m d f,.int .i64 ((bits:Nat):Int)] w (xJ w (ZbD (s != t) x y (e-f) bits)):=by
 refine zQ (Φ:=fun w=>((Glob w∧zD w (.slice A l c) (x))∧zD w (.slice B m d) (y))) func96 rfl qK (fun w' u=>⟨⟨C.ext u,v.ext u⟩,z.ext u⟩) ?_
 refine zC ?_
 have J:=v.len0
 have K:=z.len0
 have L:=@wX x
 have M:=@wX y
 refine zB (xq 4 [(3,.p 3 0),(4,.p 4 0),(6,.p 6 0),yJ 7 0] [yF 6 109 false none 0 0 0,yF 4 109 t B m d f,yF 3 109 s A l c e] ?_)
 refine yZ (zC (yY (xq 4 [yB 11 (((m:Int):Int) == 0)] [] ?_)))
 refine xe (zA ?_)
 refine yQ ((((m:Int):Int) == 0)) (fun h=>?_) fun h=>?_
 ·have j:=tG.1 h
  have k:y=0:=qO
  refine yY (xq 3 [yJ 7 5] [] ?_)
  refine yZ (zG (zK ?_))
  refine yR (.tuple #[yV false none 0 0 0, yI 5]) fun w' R Q=>?_
  rw[show ZbD (s != t) x y (e-f) bits=⟨false,0,0,5⟩ from uS k]
  exact⟨(none,0,0),rfl,zD.zero _,R⟩
 have j:=wF h
 have k:¬ y=0:=qO
 refine zJ (zA (yY (xq 14 [yB 17 (s != t),eS1 19 A l c,eS1 21 B m d,yJ 26 (IntKind.i64.wrap (e-f))] [] ?_)))
 rw[yW (e-f) (e-f) qO]
 refine xq 1 [yJ 27 (bits:Int)] [] ?_
 obtain⟨g,i⟩:=yE (wK (s != t) x y ((e-f)) bits)
 refine xqc 110 [.bool (s != t),.slice A l c,.slice B m d, yI (e-f), yI (bits:Int)] 28 (shNb g) _ (fun w R Q=>yM xP ((show Calls _ _ _ _ (xJ w g) by rw[←i];exact Zcw (s != t) _ _ _ x _ _ _ y _ bits _ Q.1.1 Q.1.2 Q.2 qO qO qO qO qO r qO))) fun⟨n,o,q⟩=>?_
 refine xq 4 [yJ 7 g.err] [yF 6 109 g.s n o q g.e] ?_
 refine yZ (zG ?_)
 refine yR (.tuple #[yV g.s n o q g.e, yI g.err]) fun w' R Q=>?_
 rw[show ZbD (s != t) x y (e-f) bits=wK (s != t) x y (e-f) bits from uL k,i]
 exact⟨(n,o,q),rfl,Q.2,R⟩
theorem Zax (s:Bool)(A:qA)(l c x:Nat)(e:Int)(t:Bool)(B:qA)(m d y:Nat)(f:Int)(bits:Nat)(H:0<bits)(hb:bits≤4096)(w:World)(hg:Glob w)(hX:zD w (.slice A l c) x)(E1:wl x≤100000)(F1 : -1073741824≤e)(G1:e≤1073741824)(hY:zD w (.slice B m d) y)(H1:wl y≤100000)(I1 : -1073741824≤f)(J1:f≤1073741824) :
 yA 91 #[yV s A l c e, yV t B m d f,.int .i64 ((bits:Nat):Int)] w (xJ w (sumR s x e t y f bits)):=by
 refine zQ (Φ:=fun w=>((Glob w∧zD w (.slice A l c) (x))∧zD w (.slice B m d) (y))) func91 rfl qK (fun w' hf=>⟨⟨hg.ext hf,hX.ext hf⟩,hY.ext hf⟩) ?_
 refine zC ?_
 have K1:=hX.len0
 have L1:=hY.len0
 have M1:=@wX x
 have N1:=@wX y
 have O1:=gI x
 have R1:=gI y
 refine zB (xq 4 [(3,.p 3 0),(4,.p 4 0),(6,.p 6 0),yJ 7 0] [yF 6 109 false none 0 0 0,yF 4 109 t B m d f,yF 3 109 s A l c e] ?_)
 refine yZ (zC (yY (xq 4 [yB 15 (((l:Int):Int) == 0)] [] ?_)))
 refine xe (zA ?_)
 refine yQ ((((l:Int):Int) == 0)) (fun b0=>?_) fun b0=>?_
 ·have N0:=tG.1 b0
  have O0:x=0:=qO
  refine zB (xq 4 [] [yF 4 109 s A l c e,yF 3 109 t B m d f] ?_)
  refine yZ (zC (yY (xq 4 [yB 21 (((l:Int):Int) == 0)] [] ?_)))
  rw[b0]
  refine yZ (xa (yY (xq 7 [yB 23 t,eS1 25 B m d,yJ 27 f,yJ 28 (bits:Int)] [] ?_)))
  obtain⟨X,E0⟩:=yE (wO t (y) (f) bits false)
  refine xqc 132 [.bool t,.slice B m d, yI f, yI (bits:Int),.func (.func 133) #[] #[]] 29 (shNb X) _ (fun w R Q=>yM xP ((show Calls _ _ _ _ (xJ w X) by rw[←E0];exact jN t _ _ _ _ f _ _ Q.1.1 Q.2 qO qO qO qO))) fun⟨P0,Q0,R0⟩=>?_
  refine xq 4 [yJ 7 X.err] [yF 6 109 X.s P0 Q0 R0 X.e] ?_
  refine yZ (zG (zK ?_))
  refine yR (.tuple #[yV X.s P0 Q0 R0 X.e, yI X.err]) fun w' R Q=>?_
  rw[show sumR s x e t y f bits=wK t y 1 f bits from uS O0,← lZ _ _ _ H,E0]
  exact⟨(P0,Q0,R0),rfl,Q.2,R⟩
 have N0:=wF b0
 have O0:¬ x=0:=qO
 refine zJ (zA (zC (yY (xq 4 [yB 21 (((m:Int):Int) == 0)] [] ?_))))
 refine xe (zA ?_)
 refine yQ ((((m:Int):Int) == 0)) (fun e0=>?_) fun e0=>?_
 ·have S0:=tG.1 e0
  have g1:y=0:=qO
  refine yY (xq 7 [yB 23 s,eS1 25 A l c,yJ 27 e,yJ 28 (bits:Int)] [] ?_)
  obtain⟨Y,F0⟩:=yE (wO s (x) (e) bits false)
  refine xqc 132 [.bool s,.slice A l c, yI e, yI (bits:Int),.func (.func 133) #[] #[]] 29 (shNb Y) _ (fun w R Q=>yM xP ((show Calls _ _ _ _ (xJ w Y) by rw[←F0];exact jN s _ _ _ _ e _ _ Q.1.1 Q.1.2 qO qO qO qO))) fun⟨T0,U0,V0⟩=>?_
  refine xq 4 [yJ 7 Y.err] [yF 6 109 Y.s T0 U0 V0 Y.e] ?_
  refine yZ (zG (zK ?_))
  refine yR (.tuple #[yV Y.s T0 U0 V0 Y.e, yI Y.err]) fun w' R Q=>?_
  rw[show sumR s x e t y f bits=wK s x 1 e bits by unfold sumR;rw[uL O0,uS g1],← lZ _ _ _ H,F0]
  exact⟨(T0,U0,V0),rfl,Q.2,R⟩
 have S0:=wF e0
 have g1:¬ y=0:=qO
 refine zJ (zA ?_)
 refine ZgF (fun ss ff=>∃ (j:Bool) (P1:Option Addr) (pl pc p:Nat) (i:Int) (o:Bool) (Q1:Option Addr) (ql qc q:Nat) (k:Int),ss=ofL [yJ 2 (bits:Int),(3,.p 3 0),(4,.p 4 0),(6,.p 6 0),yJ 7 0] [yF 6 109 false none 0 0 0,yF 3 109 j P1 pl pc i,yF 4 109 o Q1 ql qc k]∧ff=(fun w=>((Glob w∧zD w (.slice P1 pl pc) (p))∧zD w (.slice Q1 ql qc) (q)))∧(0<p)∧(0<q)∧(wl p≤100000)∧(wl q≤100000)∧(-1073741824≤i)∧(i≤1073741824)∧(-1073741824≤k)∧(k≤1073741824)∧(((blen q:Nat):Int)+k≤((blen p:Nat):Int)+i)∧(addR s x e t y f bits=addR j p i o q k bits)) ?_ ?_
 ·refine zC ?_
  refine yO 5 zN ?_
  refine xqg 1 [(32,.v (yV s A l c e))] ?_
  refine xqd 134 [yV s A l c e] 33 (fun _:Unit=>yI (((blen x:Nat):Int)+e)) _ (fun w R Q=>yN (Zaw _ _ _ _ _ _ _ Q.1.2 qO qO qO)) fun xx=>?_
  refine xqg 1 [(34,.v (yV t B m d f))] ?_
  refine xqd 134 [yV t B m d f] 35 (fun _:Unit=>yI (((blen y:Nat):Int)+f)) _ (fun w R Q=>yN (Zaw _ _ _ _ _ _ _ Q.1.2 qO qO qO)) fun xx=>?_
  refine xqg 1 [(36,.v (.bool (decide ((((blen x:Nat):Int)+e)<(((blen y:Nat):Int)+f)))))] ?_
  refine xz (xe (zA ?_))
  refine yQ ((decide ((((blen x:Nat):Int)+e)<(((blen y:Nat):Int)+f)))) (fun f0=>?_) fun f0=>?_
  ·have W0:=uA f0
   refine zB (xq 4 [] [yF 4 109 s A l c e,yF 3 109 t B m d f] ?_)
   refine xe ?_
   refine yP [yJ 2 (bits:Int),(3,.p 3 0),(4,.p 4 0),(6,.p 6 0),yJ 7 0] [yF 6 109 false none 0 0 0,yF 3 109 t B m d f,yF 4 109 s A l c e] (fun w=>((Glob w∧zD w (.slice B m d) (y))∧zD w (.slice A l c) (x))) (fun w Q=>⟨⟨Q.1.1.1.1,Q.1.1.2⟩,Q.1.1.1.2⟩) ?_
   exact fX ⟨t,B,m,d,y,f,s,A,l,c,x,e,rfl,rfl,qO,qO,qO,qO,qO,qO,qO,qO,qO,(Zfo _ _ _ _ _ _ _)⟩
  have W0:=uB f0
  refine zJ ?_
  refine yP [yJ 2 (bits:Int),(3,.p 3 0),(4,.p 4 0),(6,.p 6 0),yJ 7 0] [yF 6 109 false none 0 0 0,yF 3 109 s A l c e,yF 4 109 t B m d f] (fun w=>((Glob w∧zD w (.slice A l c) (x))∧zD w (.slice B m d) (y))) (fun w Q=>⟨⟨Q.1.1.1.1,Q.1.1.1.2⟩,Q.1.1.2⟩) ?_
  exact fX ⟨s,A,l,c,x,e,t,B,m,d,y,f,rfl,rfl,qO,qO,qO,qO,qO,qO,qO,qO,qO,rfl⟩
 rintro ss ff ⟨j,P1,pl,pc,p,i,o,Q1,ql,qc,q,k,rfl,rfl,l0,h1,S1,T1,U1,V1,W1,X1,D1,G0⟩
 refine zC (zC ?_)
 have Y1:=gI p
 have Z1:=gI q
 have a2:=eP l0
 have b2:=eP h1
 obtain⟨z,hz⟩:=yE (min i (((blen p:Nat):Int)+i-(bits:Int)-2))
 refine yO 9 zN ?_
 refine xqg 3 [yJ 40 i,(41,.v (yV j P1 pl pc i))] ?_
 refine xqd 134 [yV j P1 pl pc i] 42 (fun _:Unit=>yI (((blen p:Nat):Int)+i)) _ (fun w R Q=>yN (Zaw _ _ _ _ _ _ _ Q.1.2 qO qO qO)) fun xx=>?_
 refine xqg 2 [(44,.v (yI (IntKind.i64.wrap ((((blen p:Nat):Int)+i)-(bits:Int)))))] ?_
 rw[yW (((blen p:Nat):Int)+i-(bits:Int)) (((blen p:Nat):Int)+i-(bits:Int)) qO]
 refine xqg 1 [(45,.v (yI (IntKind.i64.wrap ((((blen p:Nat):Int)+i-(bits:Int))-2))))] ?_
 rw[yW (((blen p:Nat):Int)+i-(bits:Int)-2) (((blen p:Nat):Int)+i-(bits:Int)-2) qO]
 refine xqg 1 [yJ 46 (if (((blen p:Nat):Int)+i-(bits:Int)-2)<i then (((blen p:Nat):Int)+i-(bits:Int)-2) else i)] ?_
 rw[(show (if ((blen p:Nat):Int)+i-(bits:Int)-2<i then ((blen p:Nat):Int)+i-(bits:Int)-2 else i)=z from ZeO.trans hz)]
 refine xqg 1 [yJ 8 z] ?_
 refine xz (yZ (yY (xq 1 [(47,.v (yV o Q1 ql qc k))] [] ?_)))
 refine xqc 134 [yV o Q1 ql qc k] 48 (fun _:Unit=>yI (((blen q:Nat):Int)+k)) _ (fun w R Q=>yN (Zaw _ _ _ _ _ _ _ Q.1.2 qO qO qO)) fun xx=>?_
 refine xq 2 [(50,.v (.bool (decide ((((blen q:Nat):Int)+k)≤z))))] [] ?_
 refine xe (zA ?_)
 refine yQ ((decide ((((blen q:Nat):Int)+k)≤z))) (fun g0=>?_) fun g0=>?_
 ·have X0:=uA g0
  refine zB (xq 2 [yB 52 o] [] ?_)
  refine yD (d:=53) (fun zb:Nat=>.slice (yL zb) 1 1) (fun zb zw=>Blk 141 zw zb #[yX 1]) (fun w R Q=>lN (t:=107) (e:=141) (n:=1) (sz:=1) (z:=yX 0) (parts:=#[(0,Operand.const (Value.int IntKind.u64 1))]) qK qK qK qK qK qK) fun h0=>?_
  refine xr 2 [yJ 2 (bits:Int),(3,.p 3 0),(4,.p 4 0),(6,.p 6 0),yJ 7 0,yB 52 o,eS1 53 (yL h0) 1 1,yJ 55 (IntKind.i64.wrap (z-1))] [yF 6 109 false none 0 0 0,yF 3 109 j P1 pl pc i,yF 4 109 o Q1 ql qc k] ?_
  rw[yW (z-1) (z-1) qO]
  refine xq 2 [] [yF 4 109 o (yL h0) 1 1 (z-1)] ?_
  refine yZ (zC ?_)
  obtain⟨g,Z⟩:=yE (min i (z-1))
  obtain⟨u1,Y0⟩:∃ u:Nat,i-g=u:=uV qO
  obtain⟨u2,Z0⟩:∃ u:Nat,(z-1)-g=u:=uV qO
  have hS:addR s x e t y f bits=addR j p i o 1 (z-1) bits:=G0.trans (Zjo _ _ _ _ H l0 h1 qO qO qO)
  rw[ZgR Z Y0 Z0] at hS
  have a1:u1≤100000000:=qO
  have b1:u2≤100000000:=qO
  have i1 : -4294967296≤g:=qO
  have j1:g≤4294967296:=qO
  obtain⟨a,ha⟩:=yE (p*2^u1)
  obtain⟨b,a0⟩:=yE (1*2^u2)
  have c1:wl a≤4000000:=by rw[←ha];exact Zav qO a1
  have d1:wl b≤4000000:=by rw[←a0];exact Zav (uC (dM.2 (by rw[zR];decide)) qD) b1
  have e1:0<a:=by rw[←ha];exact tZ l0 (p2 u1)
  rw[ha,a0] at hS
  refine zB (xq 5 [yJ 61 (if (z-1)<i then (z-1) else i)] [] ?_)
  rw[(show (if (z-1)<i then (z-1) else i)=g from ZeO.trans Z)]
  refine xq 1 [yJ 9 g] [] ?_
  refine yZ (zC ?_)
  refine SXc.weak [yJ 2 (bits:Int),(3,.p 3 0),(4,.p 4 0),(6,.p 6 0),yJ 7 0,yJ 9 g] [yF 4 109 o (yL h0) 1 1 (z-1),yF 6 109 false none 0 0 0,yF 3 109 j P1 pl pc i] (zU.of qK) qK (fun _ h=>h) ?_
  refine yO 16 zN ?_
  refine xqg 6 [eS1 63 P1 pl pc,yJ 67 (IntKind.i64.wrap (i-g))] ?_
  rw[yW (i-g) ((u1:Int)) qO]
  refine xqd 101 [.slice P1 pl pc, yI (u1:Int)] 68 xC _ (fun w R Q=>(kO u1 Q.1.1.1.1.2 qO qO).mono (fun _ _ h=>zV (by rw[ha] at h;exact h))) fun⟨I,J,K⟩=>?_
  refine xqg 6 [eS1 70 (yL h0) 1 1,yJ 74 (IntKind.i64.wrap ((z-1)-g))] ?_
  rw[yW ((z-1)-g) ((u2:Int)) qO]
  refine xqd 101 [.slice (yL h0) 1 1, yI (u2:Int)] 75 xC _ (fun w R Q=>(kO u2 (iK Q.1.2) wl_1 qO).mono (fun _ _ h=>zV (by rw[a0] at h;exact h))) fun⟨L,M,N⟩=>?_
  refine xqg 2 [eS1 10 I J K,eS1 11 L M N] ?_
  refine xz (yZ (zC (zO (yY (xq 6 [yB 76 (j == o)] [] ?_)))))
  refine xe (zA ?_)
  refine yQ ((j == o)) (fun c0=>?_) fun c0=>?_
  ·have O:j=o:=eq_of_beq c0
   refine zC ?_
   refine yO 10 zN ?_
   refine xqg 4 [yB 83 j,eS1 84 I J K,eS1 85 L M N] ?_
   refine xqd 135 [.slice I J K,.slice L M N] 86 xC _ (fun w R Q=>yM zV (kT Q.1.2 Q.2 qO qO)) fun⟨k1,l1,m1⟩=>?_
   refine xqg 2 [yJ 87 g,yJ 88 (bits:Int)] ?_
   obtain⟨r,H0⟩:=yE (wO j (a+b) (g) bits false)
   refine xqd 132 [.bool j,.slice k1 l1 m1, yI g, yI (bits:Int),.func (.func 133) #[] #[]] 89 (shNb r) _ (fun w R Q=>yM xP ((show Calls _ _ _ _ (xJ w r) by rw[←H0];exact jN j _ _ _ _ g _ _ Q.1.1.1.1.1.1.1.1 Q.2 (by have:=Zgc c1 d1;omega) qO qO qO))) fun⟨m0,n0,o0⟩=>?_
   refine xqg 2 [(90,.v (yV r.s m0 n0 o0 r.e)),yJ 91 r.err] ?_
   refine xz (xq 2 [yJ 7 r.err] [yF 6 109 r.s m0 n0 o0 r.e] ?_)
   refine yZ (zG (xY (zK ?_)))
   refine yR (.tuple #[yV r.s m0 n0 o0 r.e, yI r.err]) fun w' R Q=>?_
   rw[show sumR s x e t y f bits=addR s x e t y f bits by unfold sumR;rw[uL qO,uL qO],hS]
   rw[Zfs e1 O,← lZ _ _ _ H,H0]
   exact⟨(m0,n0,o0),rfl,Q.2,R⟩
  have O:¬ j=o:=fun e'=>by rw[e'] at c0;simp at c0
  refine yY (xq 2 [eS1 93 I J K,eS1 94 L M N] [] ?_)
  refine xqc 136 [.slice I J K,.slice L M N] 95 (fun _:Unit=>yI (cmpI (a:Int) (b:Int))) _ (fun w R Q=>yN (gH Q.1.2 Q.2 qO)) fun xx=>?_
  refine xq 2 [(92,.v (.bool (decide ((cmpI (a:Int) (b:Int))≥0))))] [] ?_
  refine xe (zA ?_)
  refine yQ ((decide ((cmpI (a:Int) (b:Int))≥0))) (fun i0=>?_) fun i0=>?_
  ·have j0:b≤a:=by have:=aI.1 (uA i0);omega
   refine zC ?_
   refine yO 10 zN ?_
   refine xqg 4 [yB 98 j,eS1 99 I J K,eS1 100 L M N] ?_
   refine xqd 137 [.slice I J K,.slice L M N] 101 xC _ (fun w R Q=>yM zV (bW Q.1.1.2 Q.1.2 qO j0)) fun⟨n1,o1,p1⟩=>?_
   refine xqg 2 [yJ 102 g,yJ 103 (bits:Int)] ?_
   obtain⟨C,I0⟩:=yE (wO j (a-b) (g) bits false)
   refine xqd 132 [.bool j,.slice n1 o1 p1, yI g, yI (bits:Int),.func (.func 133) #[] #[]] 104 (shNb C) _ (fun w R Q=>yM xP ((show Calls _ _ _ _ (xJ w C) by rw[←I0];exact jN j _ _ _ _ g _ _ Q.1.1.1.1.1.1.1.1.1 Q.2 (uC (wE (Nat.sub_le _ _)) qO) qO qO qO))) fun⟨p0,q0,r0⟩=>?_
   refine xqg 2 [(105,.v (yV C.s p0 q0 r0 C.e)),yJ 106 C.err] ?_
   refine xz (xq 2 [yJ 7 C.err] [yF 6 109 C.s p0 q0 r0 C.e] ?_)
   refine yZ (zG (xY (zK ?_)))
   refine yR (.tuple #[yV C.s p0 q0 r0 C.e, yI C.err]) fun w' R Q=>?_
   rw[show sumR s x e t y f bits=addR s x e t y f bits by unfold sumR;rw[uL qO,uL qO],hS]
   rw[Zem O j0,← lZ _ _ _ H,I0]
   exact⟨(p0,q0,r0),rfl,Q.2,R⟩
  have f1:a<b:=by have:=mt aI.2 (uB i0);omega
  refine zJ (xN (zA (zC ?_)))
  refine yO 10 zN ?_
  refine xqg 4 [yB 108 o,eS1 109 L M N,eS1 110 I J K] ?_
  refine xqd 137 [.slice L M N,.slice I J K] 111 xC _ (fun w R Q=>yM zV (bW Q.1.2 Q.1.1.2 qO qO)) fun⟨q1,r1,s1⟩=>?_
  refine xqg 2 [yJ 112 g,yJ 113 (bits:Int)] ?_
  obtain⟨D,J0⟩:=yE (wO o (b-a) (g) bits false)
  refine xqd 132 [.bool o,.slice q1 r1 s1, yI g, yI (bits:Int),.func (.func 133) #[] #[]] 114 (shNb D) _ (fun w R Q=>yM xP ((show Calls _ _ _ _ (xJ w D) by rw[←J0];exact jN o _ _ _ _ g _ _ Q.1.1.1.1.1.1.1.1.1 Q.2 (uC (wE (Nat.sub_le _ _)) qO) qO qO qO))) fun⟨s0,t0,u0⟩=>?_
  refine xqg 2 [(115,.v (yV D.s s0 t0 u0 D.e)),yJ 116 D.err] ?_
  refine xz (xq 2 [yJ 7 D.err] [yF 6 109 D.s s0 t0 u0 D.e] ?_)
  refine yZ (zG ?_)
  refine yR (.tuple #[yV D.s s0 t0 u0 D.e, yI D.err]) fun w' R Q=>?_
  rw[show sumR s x e t y f bits=addR s x e t y f bits by unfold sumR;rw[uL qO,uL qO],hS]
  rw[Zdf O f1,← lZ _ _ _ H,J0]
  exact⟨(s0,t0,u0),rfl,Q.2,R⟩
 have X0:=uB g0
 refine zJ (zA (zC ?_))
 obtain⟨g,Z⟩:=yE (min i k)
 obtain⟨u1,Y0⟩:∃ u:Nat,i-g=u:=uV qO
 obtain⟨u2,Z0⟩:∃ u:Nat,k-g=u:=uV qO
 have hS:=G0
 rw[ZgR Z Y0 Z0] at hS
 have a1:u1≤100000000:=qO
 have b1:u2≤100000000:=qO
 have i1 : -4294967296≤g:=qO
 have j1:g≤4294967296:=qO
 obtain⟨a,ha⟩:=yE (p*2^u1)
 obtain⟨b,a0⟩:=yE (q*2^u2)
 have c1:wl a≤4000000:=by rw[←ha];exact Zav qO a1
 have d1:wl b≤4000000:=by rw[←a0];exact Zav qO b1
 have e1:0<a:=by rw[←ha];exact tZ l0 (p2 u1)
 rw[ha,a0] at hS
 refine zB (xq 5 [yJ 61 (if k<i then k else i)] [] ?_)
 rw[(show (if k<i then k else i)=g from ZeO.trans Z)]
 refine xq 1 [yJ 9 g] [] ?_
 refine yZ (zC ?_)
 refine SXc.weak [yJ 2 (bits:Int),(3,.p 3 0),(4,.p 4 0),(6,.p 6 0),yJ 7 0,yJ 9 g] [yF 6 109 false none 0 0 0,yF 3 109 j P1 pl pc i,yF 4 109 o Q1 ql qc k] (zU.of qK) qK (fun _ h=>h) ?_
 refine yO 16 zN ?_
 refine xqg 6 [eS1 63 P1 pl pc,yJ 67 (IntKind.i64.wrap (i-g))] ?_
 rw[yW (i-g) ((u1:Int)) qO]
 refine xqd 101 [.slice P1 pl pc, yI (u1:Int)] 68 xC _ (fun w R Q=>(kO u1 Q.1.1.1.2 qO qO).mono (fun _ _ h=>zV (by rw[ha] at h;exact h))) fun⟨P,S,T⟩=>?_
 refine xqg 6 [eS1 70 Q1 ql qc,yJ 74 (IntKind.i64.wrap (k-g))] ?_
 rw[yW (k-g) ((u2:Int)) qO]
 refine xqd 101 [.slice Q1 ql qc, yI (u2:Int)] 75 xC _ (fun w R Q=>(kO u2 Q.1.1.1.2 qO qO).mono (fun _ _ h=>zV (by rw[a0] at h;exact h))) fun⟨U,V,W⟩=>?_
 refine xqg 2 [eS1 10 P S T,eS1 11 U V W] ?_
 refine xz (yZ (zC (zO (yY (xq 6 [yB 76 (j == o)] [] ?_)))))
 refine xe (zA ?_)
 refine yQ ((j == o)) (fun d0=>?_) fun d0=>?_
 ·have O:j=o:=eq_of_beq d0
  refine zC ?_
  refine yO 10 zN ?_
  refine xqg 4 [yB 83 j,eS1 84 P S T,eS1 85 U V W] ?_
  refine xqd 135 [.slice P S T,.slice U V W] 86 xC _ (fun w R Q=>yM zV (kT Q.1.2 Q.2 qO qO)) fun⟨t1,v1,w1⟩=>?_
  refine xqg 2 [yJ 87 g,yJ 88 (bits:Int)] ?_
  obtain⟨E,K0⟩:=yE (wO j (a+b) (g) bits false)
  refine xqd 132 [.bool j,.slice t1 v1 w1, yI g, yI (bits:Int),.func (.func 133) #[] #[]] 89 (shNb E) _ (fun w R Q=>yM xP ((show Calls _ _ _ _ (xJ w E) by rw[←K0];exact jN j _ _ _ _ g _ _ Q.1.1.1.1.1.1.1 Q.2 (by have:=Zgc c1 d1;omega) qO qO qO))) fun⟨v0,w0,x0⟩=>?_
  refine xqg 2 [(90,.v (yV E.s v0 w0 x0 E.e)),yJ 91 E.err] ?_
  refine xz (xq 2 [yJ 7 E.err] [yF 6 109 E.s v0 w0 x0 E.e] ?_)
  refine yZ (zG (xY (zK ?_)))
  refine yR (.tuple #[yV E.s v0 w0 x0 E.e, yI E.err]) fun w' R Q=>?_
  rw[show sumR s x e t y f bits=addR s x e t y f bits by unfold sumR;rw[uL qO,uL qO],hS]
  rw[Zfs e1 O,← lZ _ _ _ H,K0]
  exact⟨(v0,w0,x0),rfl,Q.2,R⟩
 have O:¬ j=o:=fun e'=>by rw[e'] at d0;simp at d0
 refine yY (xq 2 [eS1 93 P S T,eS1 94 U V W] [] ?_)
 refine xqc 136 [.slice P S T,.slice U V W] 95 (fun _:Unit=>yI (cmpI (a:Int) (b:Int))) _ (fun w R Q=>yN (gH Q.1.2 Q.2 qO)) fun xx=>?_
 refine xq 2 [(92,.v (.bool (decide ((cmpI (a:Int) (b:Int))≥0))))] [] ?_
 refine xe (zA ?_)
 refine yQ ((decide ((cmpI (a:Int) (b:Int))≥0))) (fun k0=>?_) fun k0=>?_
 ·have j0:b≤a:=by have:=aI.1 (uA k0);omega
  refine zC ?_
  refine yO 10 zN ?_
  refine xqg 4 [yB 98 j,eS1 99 P S T,eS1 100 U V W] ?_
  refine xqd 137 [.slice P S T,.slice U V W] 101 xC _ (fun w R Q=>yM zV (bW Q.1.1.2 Q.1.2 qO j0)) fun⟨x1,y1,z1⟩=>?_
  refine xqg 2 [yJ 102 g,yJ 103 (bits:Int)] ?_
  obtain⟨F,L0⟩:=yE (wO j (a-b) (g) bits false)
  refine xqd 132 [.bool j,.slice x1 y1 z1, yI g, yI (bits:Int),.func (.func 133) #[] #[]] 104 (shNb F) _ (fun w R Q=>yM xP ((show Calls _ _ _ _ (xJ w F) by rw[←L0];exact jN j _ _ _ _ g _ _ Q.1.1.1.1.1.1.1.1 Q.2 (uC (wE (Nat.sub_le _ _)) qO) qO qO qO))) fun⟨y0,z0,A0⟩=>?_
  refine xqg 2 [(105,.v (yV F.s y0 z0 A0 F.e)),yJ 106 F.err] ?_
  refine xz (xq 2 [yJ 7 F.err] [yF 6 109 F.s y0 z0 A0 F.e] ?_)
  refine yZ (zG (xY (zK ?_)))
  refine yR (.tuple #[yV F.s y0 z0 A0 F.e, yI F.err]) fun w' R Q=>?_
  rw[show sumR s x e t y f bits=addR s x e t y f bits by unfold sumR;rw[uL qO,uL qO],hS]
  rw[Zem O j0,← lZ _ _ _ H,L0]
  exact⟨(y0,z0,A0),rfl,Q.2,R⟩
 have f1:a<b:=by have:=mt aI.2 (uB k0);omega
 refine zJ (xN (zA (zC ?_)))
 refine yO 10 zN ?_
 refine xqg 4 [yB 108 o,eS1 109 U V W,eS1 110 P S T] ?_
 refine xqd 137 [.slice U V W,.slice P S T] 111 xC _ (fun w R Q=>yM zV (bW Q.1.2 Q.1.1.2 qO qO)) fun⟨A1,B1,C1⟩=>?_
 refine xqg 2 [yJ 112 g,yJ 113 (bits:Int)] ?_
 obtain⟨G,M0⟩:=yE (wO o (b-a) (g) bits false)
 refine xqd 132 [.bool o,.slice A1 B1 C1, yI g, yI (bits:Int),.func (.func 133) #[] #[]] 114 (shNb G) _ (fun w R Q=>yM xP ((show Calls _ _ _ _ (xJ w G) by rw[←M0];exact jN o _ _ _ _ g _ _ Q.1.1.1.1.1.1.1.1 Q.2 (uC (wE (Nat.sub_le _ _)) qO) qO qO qO))) fun⟨B0,C0,D0⟩=>?_
 refine xqg 2 [(115,.v (yV G.s B0 C0 D0 G.e)),yJ 116 G.err] ?_
 refine xz (xq 2 [yJ 7 G.err] [yF 6 109 G.s B0 C0 D0 G.e] ?_)
 refine yZ (zG ?_)
 refine yR (.tuple #[yV G.s B0 C0 D0 G.e, yI G.err]) fun w' R Q=>?_
 rw[show sumR s x e t y f bits=addR s x e t y f bits by unfold sumR;rw[uL qO,uL qO],hS]
 rw[Zdf O f1,← lZ _ _ _ H,M0]
 exact⟨(B0,C0,D0),rfl,Q.2,R⟩
theorem ZcV {x:Int}(h:0≤x):Lib.itoa x=Lib.decDigits x.natAbs:=by
 unfold Lib.itoa
 rw[uL qO]
 congr 1;omega
theorem ZbE {n:Nat}(h:10≤n):Lib.decDigits n=Lib.decDigits (n/10) ++ [UInt8.ofNat (48+n%10)]:=by
 rw[Lib.decDigits,dif_neg qO]
theorem gJ {n:Nat}(h:n<10):Lib.decDigits n=[UInt8.ofNat (48+n)]:=Lib.decDigits_one h
theorem bE {n:Nat}(h:n<10):(UInt8.ofNat (48+n)).toNat=48+n:=by
 rw[UInt8.toNat_ofNat'];omega
theorem Zdg {n:Nat}(h:n<10):zW (UInt8.ofNat (48+n))=true:=by
 unfold zW;rw[bE h];simp;omega
theorem iM:∀ n,(Lib.decDigits n).all zW=true:=by
 intro n
 induction n using Nat.strongRecOn with
 | _ n ih =>
  rcases vM n 10 with h|h
  ·rw[gJ h,sR,Zdg h];rfl
  rw[ZbE h,qT,ih (n/10) qO,sR,Zdg (uP n (by omega:0<10))];rfl
theorem gK:∀ n,zM (Lib.decDigits n)=n:=by
 intro n
 induction n using Nat.strongRecOn with
 | _ n ih =>
  rcases vM n 10 with h|h
  ·rw[gJ h];simp only[zM,List.foldl_cons,List.foldl_nil];rw[bE h];omega
  rw[ZbE h,eF,ih (n/10) qO,bE (uP n (by omega:0<10))];omega
theorem eR:∀ n,0<n→(Lib.decDigits n).head? ≠ some 48:=by
 intro n
 induction n using Nat.strongRecOn with
 | _ n ih =>
  intro b
  rcases vM n 10 with h|h
  ·rw[gJ h]
   intro e
   simp only[List.head?_cons,Option.some.injEq] at e
   have:=vF UInt8.toNat e
   rw[bE h] at this
   simp at this;omega
  have a:=ih (n/10) qO qO
  rw[ZbE h,List.head?_append]
  cases hc:(Lib.decDigits (n/10)).head? with
  | none=>exact absurd (pV.1 hc) (lS _)
  | some c=>rw[hc] at a;exact a
theorem eL {p:UInt8→Bool}{l:List UInt8}(h:l.all p=true):l.takeWhile p=l∧l.dropWhile p=[]:=by
 induction l with
 | nil=>exact⟨rfl,rfl⟩
 | cons x xs ih =>
  simp only[sR,tK] at h
  obtain⟨a,b⟩:=ih h.2
  rw[pJ,List.dropWhile_cons,h.1]
  simp[a,b]
theorem Zjr {l:List UInt8}(h:l.all zW=true):xB l=(false,l):=by
 unfold xB
 rw[uL]
 intro e
 cases l with
 | nil=>cases e
 | cons x xs =>
  simp only[List.head?_cons,Option.some.injEq] at e
  subst e
  simp only[sR,tK] at h
  exact absurd h.1 qD
theorem ZkM (n:Nat):wH (Lib.decDigits n)=(false,Lib.decDigits n,[],true):=by
 obtain⟨c,d⟩:=eL (iM n)
 unfold wH
 rw[Zjr (iM n)]
 simp only[]
 rw[c,d]
 rcases uJ n with a|a
 ·subst a;rw[gJ qO];rfl
 have b:Lib.decDigits n≠[48]:=fun e=>eR n a (by rw[e];rfl)
 rw[uL b,uL (fun e=>e.elim (lS n) (eR n a)),uS rfl]
theorem ZkN {n:Nat}(h:0<n):wH ([45] ++ Lib.decDigits n)=(true,Lib.decDigits n,[],true):=by
 obtain⟨b,c⟩:=eL (iM n)
 unfold wH
 have e:xB ([45] ++ Lib.decDigits n)=(true,Lib.decDigits n):=rfl
 rw[e]
 simp only[]
 rw[b,c]
 have a:Lib.decDigits n≠[48]:=fun e=>eR n h (by rw[e];rfl)
 rw[uL a,uL (fun e=>e.elim (lS n) (eR n h)),uS rfl]
theorem ZbF {z:Int}(h:z<0):Lib.itoa z=[45] ++ Lib.decDigits z.natAbs:=by
 unfold Lib.itoa
 rw[uS h]
 rfl
theorem Zjs (z:Int):wH (Lib.itoa z)=(decide (z<0),Lib.decDigits z.natAbs,[],true):=by
 by_cases h:z<0
 ·rw[ZbF h,ZkN qO,vR h]
 rw[ZcV qO,ZkM,uX h]
theorem ZkO (z:Int):wJ (Lib.itoa z)=some (z:Rat):=by
 unfold wJ
 rw[Zjs]
 simp only[]
 rw[uS trivial,gK]
 congr 2
 unfold sg
 split
 ·rename_i h;have:=uA h;omega
 rename_i h;have:¬ z<0:=fun k=>h (vR k);omega
def xI (q:Rat):List UInt8:=if q.den=1 then Lib.itoa q.num else Lib.itoa q.num ++ [47] ++ Lib.itoa (q.den:Int)
theorem Zme {x y:Int}(c:0<y):(Rat.divInt x y).num=x.tdiv (Int.gcd x y:Int)∧((Rat.divInt x y).den:Int)=y.tdiv (Int.gcd x y:Int):=by
 have a:(Int.gcd x y:Int)∣x:=Int.gcd_dvd_left _ _
 have b:(Int.gcd x y:Int)∣y:=Int.gcd_dvd_right _ _
 rw[Rat.num_divInt,Rat.den_divInt,uL qO,Int.sign_eq_one_of_pos c,Int.one_mul,Int.gcd_comm y x,Int.tdiv_eq_ediv_of_dvd a,Int.tdiv_eq_ediv_of_dvd b]
 refine⟨rfl,?_⟩
 rw[vW]
 congr 1
 omega
theorem ZgV {x y:Int}(a:0<y)(h:((Int.gcd x y:Nat):Int)=1):(Rat.divInt x y).num=x∧((Rat.divInt x y).den:Int)=y:=by
 have:=Zme (x:=x) a
 rwa [h,Int.tdiv_one,Int.tdiv_one] at this
theorem Zen {c:UInt8}(h:zW c=true):UInt8.ofNat (48+(c.toNat-48))=c:=by
 have:=fN h
 apply UInt8.toNat.inj
 rw[UInt8.toNat_ofNat']
 have:=c.toNat_lt
 omega
theorem ZgW:∀ (k:Nat) (l:List UInt8),l.length=k→l.all zW=true→l≠[]→l.head? ≠ some 48→Lib.decDigits (zM l)=l:=by
 intro k
 induction k with
 | zero=>intro l d _ g;exact absurd (tN.1 d) g
 | succ k ih =>
  intro l d f g b
  obtain⟨l',c,rfl⟩:∃ l' c,l=l' ++ [c]:=by
   rcases List.eq_nil_or_concat l with h|⟨l',c,h⟩
   ·exact absurd h g
   exact⟨l',c,by simpa using h⟩
  rw[qT,tK] at f
  have i:zW c=true:=by simpa using f.2
  have m:=fN i
  rw[eF]
  by_cases a:l'=[]
  ·subst a
   have e:zM []=0:=rfl
   rw[e,tD,vU,gJ qO,Zen i];rfl
  have j:l'.head? ≠ some 48:=by
   rw[List.head?_append] at b
   cases hx:l'.head? with
   | none=>exact absurd (pV.1 hx) a
   | some x=>rw[hx] at b;exact b
  have n:=ih l' (by simp at d;exact d) f.1 a j
  have o:=(Zbt f.1 a j).1
  rw[ZbE qO,show (10*zM l'+(c.toNat-48))/10=zM l' by omega,show (10*zM l'+(c.toNat-48))%10=c.toNat-48 by omega,n,Zen i]
theorem ZhJ (n:Nat):(Lib.decDigits n).head? ≠ some 45:=by
 intro e
 cases h:Lib.decDigits n with
 | nil=>exact lS n h
 | cons x xs =>
  rw[h] at e
  simp only[List.head?_cons,Option.some.injEq] at e
  subst e
  have:=iM n
  rw[h] at this
  simp only[sR,tK] at this
  exact absurd this.1 qD
theorem Zbb {p:UInt8→Bool}{l r:List UInt8}{c:UInt8}(h:l.all p=true)(a:p c=false):(l ++ c :: r).takeWhile p=l∧(l ++ c :: r).dropWhile p=c :: r:=by
 induction l with
 | nil=>simp[a]
 | cons x xs ih =>
  simp only[sR,tK] at h
  obtain⟨b,d⟩:=ih h.2
  rw[List.cons_append,pJ,List.dropWhile_cons,h.1]
  simp[b,d]
theorem Zdh (z:Int)(r:List UInt8):xB (Lib.itoa z ++ r)=(decide (z<0),Lib.decDigits z.natAbs ++ r):=by
 by_cases h:z<0
 ·rw[ZbF h,vR h]
  unfold xB
  rw[uS qS]
  rfl
 rw[ZcV qO,uX h]
 unfold xB
 rw[uL]
 intro e
 rw[List.head?_append] at e
 cases hx:(Lib.decDigits z.natAbs).head? with
 | none=>exact absurd (pV.1 hx) (lS _)
 | some c =>
  rw[hx] at e
  exact ZhJ _ (hx.trans e)
theorem ZkP (z:Int):sg (decide (z<0)) z.natAbs=z:=by
 unfold sg
 split
 ·rename_i h;have:=uA h;omega
 rename_i h;have:¬ z<0:=fun k=>h (vR k);omega
theorem Zjt {q:Rat}(h:q.den=1):((q.num:Int):Rat)=q:=by
 apply Rat.ext<;>simp[h]
theorem ZoA {q:Rat}(h:q.den≠1):q.num≠0:=by
 intro e
 have:=q.reduced
 rw[e] at this
 simp[Nat.Coprime] at this
 exact h this
theorem iY (n:Nat):Lib.itoa (n:Int)=Lib.decDigits n:=by
 rw[ZcV qO,sU]
theorem Zju {q:Rat}(h:q.den≠1):wH (xI q)=(decide (q.num<0),Lib.decDigits q.num.natAbs,Lib.decDigits q.den,true):=by
 have l:=ZoA h
 have m:=q.den_nz
 unfold xI
 rw[uL h,iY,vS]
 unfold wH
 rw[Zdh]
 simp only[]
 obtain⟨g,i⟩:=Zbb (p:=zW) (r:=Lib.decDigits q.den) (c:=47) (iM q.num.natAbs) qD
 have e:Lib.decDigits q.num.natAbs ++ ([47] ++ Lib.decDigits q.den)=Lib.decDigits q.num.natAbs ++ 47 :: Lib.decDigits q.den:=rfl
 rw[e,g,i]
 have f:=eR q.num.natAbs qO
 rw[uL (fun e=>f (by rw[e];rfl)),uL (fun e=>e.elim (lS _) f),uL qS,uL qS]
 simp only[List.tail_cons]
 obtain⟨j,k⟩:=eL (iM q.den)
 rw[j,k]
 have a:=eR q.den qO
 have b:Lib.decDigits q.den≠[49]:=fun e=>by
  have:=gK q.den
  rw[e] at this
  exact h (by rw[←this];rfl)
 have d:=lS q.den
 simp[a,b,d]
theorem ZkQ (q:Rat):wJ (xI q)=some q:=by
 by_cases h:q.den=1
 ·unfold xI
  rw[uS h,ZkO,Zjt h]
 unfold wJ
 rw[Zju h]
 simp only[]
 rw[uL (lS _),gK,gK,uS q.reduced,ZkP,Rat.mkRat_self]
theorem Zfu {neg:Bool}{a:Nat}(h:a=0→neg=false):(sg neg a<0↔neg=true)∧(sg neg a).natAbs=a:=by
 cases neg with
 | false=>simp[sg]
 | true =>
  have:a≠0:=fun e=>by cases h e
  simp[sg];omega
theorem aK {neg:Bool}{a:Nat}(h:a=0→neg=false):Lib.itoa (sg neg a)=(if neg then [45] else []) ++ Lib.decDigits a:=by
 obtain⟨c,b⟩:=Zfu h
 cases neg with
 | false=>rw[ZcV (by simp[sg]),b];rfl
 | true=>rw[ZbF (c.2 rfl),b];rfl
theorem Zdi {l r:List UInt8}{neg:Bool}(h:xB l=(neg,r)):l=(if neg then [45] else []) ++ r:=by
 unfold xB at h
 split at h
 ·rename_i hh
  injection h with h1 h2
  subst h1 h2
  cases l with
  | nil=>cases hh
  | cons x xs=>simp at hh;subst hh;rfl
 injection h with h1 h2
 subst h1 h2
 rfl
theorem dU {l:List UInt8}{q:Rat}(h:wJ l=some q):xI q=l:=by
 unfold wJ at h
 cases hs:wH l with
 | mk neg r =>
  obtain⟨num,den,ok⟩:=r
  rw[hs] at h
  cases ok with
  | false=>cases h
  | true =>
   simp only[] at h
   have k:=eK hs
   obtain⟨A,m⟩:=Zeb hs
   cases hu:xB l with
   | mk neg' t =>
    have j:=Zdi hu
    have a:t.takeWhile zW ++ t.dropWhile zW=t:=qF
    unfold wH at hs
    rw[hu] at hs
    simp only[] at hs
    split at hs
    ·-- zero
     rename_i f
     injection hs with e1 hs;injection hs with e2 hs;injection hs with e3 e4
     subst e1 e2 e3
     simp at e4
     rw[uS rfl,f] at h
     have B:zM [48]=0:=rfl
     rw[B] at h
     injection h with h
     rw[e4.1] at h j
     rw[←h,j,← a,f,e4.2]
     simp only[sg]
     unfold xI
     rw[uS qS]
     have:Lib.itoa ((0:Nat):Int)=[48]:=by rw[iY,gJ qO];rfl
     simpa using this
    split at hs
    ·injection hs with _ hs;injection hs with _ hs;injection hs with _ hs;cases hs
    rename_i z
    have n:t.takeWhile zW≠[]:=fun e=>z (Or.inl e)
    have o:(t.takeWhile zW).head? ≠ some 48:=fun e=>z (Or.inr e)
    have g:=ZgW _ _ rfl (kR (p:=zW) t) n o
    split at hs
    ·rename_i s
     injection hs with e1 hs;injection hs with e2 hs;injection hs with e3 _
     subst e1 e2 e3
     rw[uS rfl] at h
     injection h with h
     rw[←h]
     unfold xI
     rw[uS qS]
     have i:(((sg neg' (zM (t.takeWhile zW)):Int)):Rat).num=sg neg' (zM (t.takeWhile zW)):=rfl
     rw[i,aK (fun e=>(m e).1),g,j]
     rw[s,qR] at a
     rw[a]
    split at hs
    ·injection hs with _ hs;injection hs with _ hs;injection hs with _ hs;cases hs
    rename_i s b
    injection hs with e1 hs;injection hs with e2 hs;injection hs with e3 e4
    subst e1 e2
    rw[e3] at e4
    simp at e4
    obtain⟨⟨⟨u,v⟩,C⟩,E⟩:=e4
    rw[uL v] at h
    split at h
    ·rename_i D
     injection h with h
     have F:=A v
     have w:q.num=sg neg' (zM (t.takeWhile zW))∧q.den=zM den:=by
      have:=ZgV (x:=sg neg' (zM (t.takeWhile zW))) (y:=(zM den:Int)) qO (by
       unfold Int.gcd
       rw[(Zfu (fun e=>(m e).1)).2,sU,D];rfl)
      rw[Rat.divInt_ofNat,h] at this
      exact⟨this.1,by have:=this.2;omega⟩
     unfold xI
     rw[uL (by rw[w.2];omega),w.1,w.2,aK (fun e=>(m e).1),g,iY,ZgW _ _ rfl k.2.1 v C,j]
     have d:t.dropWhile zW=47 :: den:=by
      cases hx:t.dropWhile zW with
      | nil=>exact absurd hx s
      | cons c r =>
       rw[hx] at b u e3
       simp at b u e3
       subst b
       have:=qF (p:=zW) (l:=r)
       rw[e3,u,qR] at this
       rw[this]
     rw[d] at a
     rw[vS,vS]
     congr 1
    cases h
theorem ZbG {l:List UInt8}{q:Rat}:wJ l=some q↔xI q=l :=
 ⟨dU,fun h=>by rw[←h];exact ZkQ q⟩
def fvB (s:List UInt8) (e:Int):Bool :=
 if s=[48] then decide (e=0)
 else decide ((xB s).2≠[]∧(xB s).2.head? ≠ some 48∧okE e∧(xB s).2.all zW=true∧zM (xB s).2%2=1)
def flM (s:List UInt8):Int:=sg (xB s).1 (zM (xB s).2)
theorem Zay:Lib.itoa 0=[48]:=by
 rw[show (0:Int)=((0:Nat):Int) from rfl,iY,gJ qO];rfl
theorem ZgX:flM [48]=0:=qD
theorem ZoB {neg:Bool}{a:Nat}(h:a%2=1):sg neg a%2=1:=by unfold sg;split<;>omega
theorem ZnK {s:List UInt8}{e:Int}(h:fvB s e=true):s=Lib.itoa (flM s)∧((flM s=0∧e=0)∨(flM s%2=1∧okE e)):=by
 unfold fvB at h
 by_cases a:s=[48]
 ·rw[uS a] at h
  subst a
  rw[ZgX]
  exact⟨Zay.symm,Or.inl ⟨rfl,uA h⟩⟩
 rw[uL a] at h
 obtain⟨b,c,d,f,g⟩:=uA h
 unfold flM
 refine⟨?_,Or.inr ⟨ZoB g,d⟩⟩
 rw[aK (fun h=>qO),ZgW _ _ rfl f b c]
 exact Zdi rfl
theorem eG (z:Int):xB (Lib.itoa z)=(decide (z<0),Lib.decDigits z.natAbs):=by
 have:=Zdh z []
 rwa [qR,qR] at this
theorem Zmf (z:Int):flM (Lib.itoa z)=z:=by
 unfold flM;rw[eG,gK];exact ZkP z
theorem Zil (z e:Int):fvB (Lib.itoa z) e=decide ((z=0∧e=0)∨(z%2=1∧okE e)):=by
 unfold fvB
 by_cases a:z=0
 ·subst a
  rw[Zay,uS rfl]
  by_cases b:e=0
  ·subst b;rfl
  rw[uX b]
  symm
  exact uX (fun h=>by rcases h with h|h<;>omega)
 have c:¬ Lib.itoa z=[48]:=fun h=>a (by rw[←Zmf z,h,ZgX])
 rw[uL c,eG]
 refine qI.2 ⟨fun⟨_,_,d,_,f⟩=>Or.inr ⟨?_,d⟩,fun h=>?_⟩
 ·rw[gK] at f;omega
 rcases h with ⟨h,_⟩|⟨i,g⟩
 ·exact absurd h a
 exact⟨lS _,eR _ qO,g,iM _,by rw[gK];omega⟩
theorem Zmg {l:List UInt8}{c:UInt8}(h:(l ++ [c]).all zW=true):zM (l ++ [c])%2=c.toNat % 2:=by
 rw[eF]
 have a:zW c=true:=by rw[qT] at h;simp at h;exact h.2
 have:=fN a
 omega
noncomputable def valF (l:List UInt8):Rat:=(wJ l).getD 0
theorem ZkR {l:List UInt8}(b:l.all zW=true)(f:l.length≤570):wl (zM l)≤30:=by
 rw[lR]
 have c:=jC l b
 obtain⟨k,d⟩:∃ k,k=30:=⟨_,rfl⟩
 have a:10^l.length≤10^(19*k):=uW qO qO
 rw[←d]
 rw[rZ] at a
 have e:(10^19)^k≤W64^k:=rC (by rw[zR];decide) k
 exact uQ c (uC a e)
theorem Zeo:∀ (k u:Nat),1≤k→u<10^k→Lib.nDigits u≤k
 | 0,_,h,_=>qO
 | k+1,u,_,h=>by
  by_cases a:u<10
  ·rw[Lib.nDigits_small a];omega
  rw[Lib.nDigits_big a]
  have b:1≤k:=by
   rcases uJ k with e|e
   ·subst e;simp at h;omega
   exact e
  have c:u/10<10^k:=by
   rw[uN] at h
   exact sJ (by rw[uF];exact h)
  have:=Zeo k (u/10) b c
  omega
theorem ZnL {z:Int}{k:Nat}(a:1≤k)(h:z.natAbs<10^k):(Lib.itoa z).length≤k+1:=by
 have b:=Zeo k z.natAbs a h
 have e:0≤z→z.toNat=z.natAbs:=fun h=>qO
 unfold Lib.itoa
 split
 ·simp only[tU,Lib.decDigits_length]
  omega
 rename_i c
 rw[Lib.decDigits_length]
 first
  | omega
  | (rw[e qO];omega)
theorem ZkS {l:List UInt8}(h:wJ l=none):valF l=0:=by unfold valF;rw[h];rfl
theorem bN {l:List UInt8}{q:Rat}(h:wJ l=some q):valF l=q:=by unfold valF;rw[h];rfl
theorem iB (l:List UInt8):bytes ⟨l.toArray⟩=l:=by simp[bytes]
section
variable {s t:ByteArray} {p q r:Rat} {w:World}
end
theorem Zjw {w w':World}{e:Ending}{l:List UInt8}(h:Zdz w l e w'):lQ (fun x:Int×Int×Bool=>.tuple #[.agg #[.int .i64 x.1,.int .i64 x.2.1],.bool x.2.2]) (fun x _=>aL l x.1 x.2.1 x.2.2) w e w':=by
 obtain⟨a,b,c,rfl,d,Q⟩:=h
 exact⟨(a,b,c),rfl,Q,BoxN.pure d⟩
abbrev ShSp:=Bool×ByteArray×ByteArray×Bool
theorem Zjx {w w':World}{e:Ending}{s:ByteArray}(h:Zdt s w e w'):lQ (fun x:ShSp=>.tuple #[.agg #[.bool x.1,.string x.2.1,.string x.2.2.1],.bool x.2.2.2]) (fun x _=>wH (bytes s)=(x.1,bytes x.2.1,bytes x.2.2.1,x.2.2.2)) w e w':=by
 obtain⟨neg,t,d,a,rfl,b,Q⟩:=h
 exact⟨(neg,t,d,a),rfl,Q,BoxN.pure b⟩
theorem Zim {x:ByteArray}(h:bytes x=[]):(x.toList == (⟨#[]⟩:ByteArray).toList)=true:=by
 rw[Lib.toList_data,Lib.toList_data,show x.data.toList=[] from h];rfl
theorem Zin {x:ByteArray}(h:¬ bytes x=[]):(x.toList == (⟨#[]⟩:ByteArray).toList)=false:=by
 rw[Lib.toList_data,Lib.toList_data]
 exact sP.2 h
theorem ZkU {l:List UInt8}{neg:Bool}{t d:List UInt8}(h:wH l=(neg,t,d,false)):wJ l=none:=by unfold wJ;rw[h]
theorem ZkV {l:List UInt8}{neg:Bool}{t d:List UInt8}(h:wH l=(neg,t,d,true))(a:d=[]):(wJ l).isSome=true:=by unfold wJ;rw[h];simp[a]
theorem ZkW {l:List UInt8}{neg:Bool}{t d:List UInt8}(h:wH l=(neg,t,d,true))(b:¬ d=[]):(wJ l).isSome=decide (((Int.gcd (zM t:Int) (zM d:Int):Nat):Int)=1):=by
 unfold wJ
 rw[h]
 have e:Int.gcd (zM t:Int) (zM d:Int)=Nat.gcd (zM t) (zM d):=rfl
 rw[e]
 simp only[uL b]
 by_cases a:Nat.gcd (zM t) (zM d)=1
 ·rw[uS a,a];rfl
 rw[uL a];simp;omega
theorem Zjy {l:List UInt8}{a b:Int}(h:aL l a b true):(wJ l).isSome=true:=by
 rcases h with ⟨_,q,h,_⟩|⟨h,_⟩
 ·rw[h];rfl
 cases h
theorem dH (s:ByteArray)(w:World)(H:Glob w)(I:(bytes s).length≤570) :
 yA 61 #[.string s] w (RetV w (.bool (wJ (bytes s)).isSome)):=by
 have l:s.size≤1099511627776:=by rw[zS] at I;omega
 refine zQ (Φ:=fun w=>Glob w) func61 rfl qK (fun w' J=>H.ext J) ?_
 refine yY (xr 1 [yT 0 s,yB 2 false] [] ?_)
 refine yZ (zC (yY (xr 1 [yT 0 s,yB 2 false,yT 8 s] [] ?_)))
 refine xc 103 [.string s] 9 (fun x:Int×Int×Bool=>.tuple #[.agg #[yI x.1, yI x.2.1],.bool x.2.2]) _ (fun w R Q=>yM Zjw (ZfO s _ l)) fun⟨L,M,B⟩=>?_
 rcases B with _|_
 ·refine xr 6 [yT 0 s,yB 2 false,yB 4 false] [] ?_
  refine yZ (yY (xr 1 [yT 0 s,yB 2 false,yB 12 false] [] ?_))
  refine yZ (xb (zJ (zA (yY (xr 1 [yB 2 false,yT 14 s] [] ?_)))))
  refine xc 104 [.string s] 15 (fun x:ShSp=>.tuple #[.agg #[.bool x.1,.string x.2.1,.string x.2.2.1],.bool x.2.2.2]) _ (fun w R Q=>yM Zjx (Zfk s _ l)) fun⟨a,c,b,C⟩=>?_
  rcases C with _|_
  ·refine xr 6 [yB 2 false,(5,.p 5 0),yB 6 false] [(5,156,[.v (.bool a),.v (.string c),.v (.string b)])] ?_
   refine yZ (zC (zC ?_))
   refine SXc.know (p:=wH (bytes s)=(a,bytes c,bytes b,false)) (fun w _ Q=>Q.2) fun m=>?_
   refine zB (xr 7 [yB 2 false,(5,.p 5 0),yB 6 false,yB 24 true] [(5,156,[.v (.bool a),.v (.string c),.v (.string b)])] ?_)
   refine yZ (xa (yY (xr 2 [yB 2 false,(5,.p 5 0)] [(5,156,[.v (.bool a),.v (.string c),.v (.string b)])] ?_)))
   refine yZ (zG (zK ?_))
   refine yR (.bool false) fun w' R Q=>?_
   exact⟨by rw[ZkU m];rfl,R⟩
  refine xr 6 [yB 2 false,(5,.p 5 0),yB 6 true] [(5,156,[.v (.bool a),.v (.string c),.v (.string b)])] ?_
  refine yZ (zC (zC ?_))
  refine SXc.know (p:=wH (bytes s)=(a,bytes c,bytes b,true)) (fun w _ Q=>Q.2) fun m=>?_
  by_cases A:bytes b=[]
  ·refine zB (xr 6 [yB 2 false,(5,.p 5 0),yB 6 true,yB 20 false,yB 23 ((b:ByteArray).toList == (⟨#[]⟩:ByteArray).toList)] [(5,156,[.v (.bool a),.v (.string c),.v (.string b)])] ?_)
   rw[Zim A]
   refine xr 1 [yB 2 false,(5,.p 5 0),yB 6 true,yB 24 true] [(5,156,[.v (.bool a),.v (.string c),.v (.string b)])] ?_
   refine yZ (xa (yY (xr 2 [yB 2 true,(5,.p 5 0)] [(5,156,[.v (.bool a),.v (.string c),.v (.string b)])] ?_)))
   refine yZ (zG (zK ?_))
   refine yR (.bool true) fun w' R Q=>?_
   exact⟨by rw[ZkV m A],R⟩
  refine zB (xr 6 [yB 2 false,(5,.p 5 0),yB 6 true,yB 20 false,yB 23 ((b:ByteArray).toList == (⟨#[]⟩:ByteArray).toList)] [(5,156,[.v (.bool a),.v (.string c),.v (.string b)])] ?_)
  rw[Zin A]
  refine xr 1 [yB 2 false,(5,.p 5 0),yB 6 true,yB 24 false] [(5,156,[.v (.bool a),.v (.string c),.v (.string b)])] ?_
  refine yZ (xb (zJ (zA (zC ?_))))
  obtain⟨d,e,K⟩:=eK m
  have f:Zbs c.size:=by unfold Zbs;rw[←zS];omega
  have g:Zbs b.size:=by unfold Zbs;rw[←zS];omega
  have D:wl ((zM (bytes c):Nat):Int).natAbs≤79:=by rw[sU];exact uC (ZkR d qO) qD
  have E:wl ((zM (bytes b):Nat):Int).natAbs≤79:=by rw[sU];exact uC (ZkR e qO) qD
  have F:Fits ((zM (bytes c):Nat):Int):=by unfold Fits;omega
  have G:Fits ((zM (bytes b):Nat):Int):=by unfold Fits;omega
  refine yO 9 zN ?_
  refine xf 2 [yB 2 false,(5,.p 5 0),yT 27 c] [(5,156,[.v (.bool a),.v (.string c),.v (.string b)])] ?_
  refine xd 105 [.string c] 28 Zaq _ (fun w R Q=>yM Zdu (Zcm c _ d f)) fun⟨h,i,j,k⟩=>?_
  refine xf 2 [yB 2 false,eI2 28 h i j k,yT 30 b] [(5,156,[.v (.bool a),.v (.string c),.v (.string b)])] ?_
  refine xd 105 [.string b] 31 Zaq _ (fun w R Q=>yM Zdu (Zcm b _ e g)) fun⟨n,o,q,r⟩=>?_
  refine xf 0 [yB 2 false,eI2 28 h i j k,eI2 31 n o q r] [(5,156,[.v (.bool a),.v (.string c),.v (.string b)])] ?_
  refine xd 106 [vI2 h i j k,vI2 n o q r] 32 Zaq _ (fun w R Q=>yM Zdu (Znk _ _ ((zM (bytes c):Int)) ((zM (bytes b):Int)) _ Q.1.1.1.1 Q.1.2 Q.2 F G (ZfZ.words D E))) fun⟨t,u,y,z⟩=>?_
  refine xf 0 [yB 2 false,eI2 32 t u y z] [(5,156,[.v (.bool a),.v (.string c),.v (.string b)])] ?_
  refine xd 107 [vI2 t u y z] 33 (fun _:Unit=>.bool (decide ((((Int.gcd ((zM (bytes c):Int)) ((zM (bytes b):Int)):Nat):Int))=1))) _ (fun w R Q=>yN (Zkg _ (((Int.gcd ((zM (bytes c):Int)) ((zM (bytes b):Int)):Nat):Int)) _ Q.2)) fun N=>?_
  refine xf 1 [(2,.v (.bool (decide ((((Int.gcd ((zM (bytes c):Int)) ((zM (bytes b):Int)):Nat):Int))=1))))] [(5,156,[.v (.bool a),.v (.string c),.v (.string b)])] ?_
  refine xz (yZ (zG ?_))
  refine zE (v:=.bool (decide ((((Int.gcd ((zM (bytes c):Int)) ((zM (bytes b):Int)):Nat):Int))=1))) qK fun w' R Q=>?_
  exact⟨by rw[ZkW m A],R⟩
 refine xr 6 [yT 0 s,yB 2 false,yB 4 true] [] ?_
 refine yZ (yY (xr 1 [yT 0 s,yB 2 false,yB 12 true] [] ?_))
 refine yZ (xa (yY (xr 1 [yT 0 s,yB 2 true] [] ?_)))
 refine yZ (zG (zK ?_))
 refine yR (.bool true) fun w' R Q=>?_
 exact⟨by rw[Zjy Q.2],R⟩
section
variable {l r a t b:List UInt8} {neg:Bool} {c:UInt8}
end
/-! ### wT of small numbers -/
theorem cK {n:Nat}(h:n<10):Lib.itoa (n:Int)=[UInt8.ofNat (48+n)]:=by
 unfold Lib.itoa
 rw[uL qO,pT,Lib.decDigits,dif_pos h]
theorem eS {q:Rat}{n:Nat}(h:n<10)(d:q.num=(n:Int))(e:q.den=1):xI q=[UInt8.ofNat (48+n)]:=by
 unfold xI;rw[uS e,d,cK h]
theorem ZnM {q:Rat}{n d:Nat}(h:n<10)(e:d<10)(f:q.num=(n:Int))(g:q.den=d)(i:d≠1):xI q=[UInt8.ofNat (48+n),47,UInt8.ofNat (48+d)]:=by
 unfold xI;rw[g,uL i,f,cK h,cK e];rfl
theorem t1:xI (mkRat 1 1)=[49]:=eS (n:=1) qD qD qD
theorem t3:xI (mkRat 3 1)=[51]:=eS (n:=3) qD qD qD
theorem t12:xI (mkRat 1 2)=[49,47,50]:=ZnM (n:=1) (d:=2) qD qD qD qD qD
section
variable {w w':World} {e:Ending} {s:ByteArray}
theorem Zjz (h:ZgD s w e w'):lQ (fun x:ByteArray×Bool=>.tuple #[.string x.1,.bool x.2]) (fun x _=>xB (bytes s)=(x.2,bytes x.1)) w e w':=by
 obtain⟨r,neg,rfl,h,rfl⟩:=h
 exact⟨(r,neg),rfl,Fr.refl _ _,BoxN.pure h⟩
end
theorem ZeP {a b:ByteArray}(h:bytes a=bytes b):a=b:=by
 cases a with|mk a=>cases b with|mk b=>simp only[bytes] at h;rw[Array.toList_inj.1 h]
def e4:Nat:=400
theorem Zio {s:ByteArray}(h:bytes s=[48]):(s.toList == (⟨#[48]⟩:ByteArray).toList)=true:=by
 rw[Lib.toList_data,Lib.toList_data,show s.data.toList=[48] from h];rfl
theorem Zip {s:ByteArray}(h:¬ bytes s=[48]):(s.toList == (⟨#[48]⟩:ByteArray).toList)=false:=by
 rw[Lib.toList_data,Lib.toList_data];exact sP.2 h
theorem zt:xI 0=[48]:=eS (n:=0) qD qD qD
theorem eI {P:Program}{o:Oper}{ρ:Operand→Value}{w:World}{t:TypeId}{x i:Operand}{b:ByteArray}{k:Nat}{c:UInt8}(a:o.op=Op.index t x i)(d:P.underlying t=some .string)(e:ρ x=.string b)(hi:ρ i=.int .i64 (k:Int))(f:b[k]? = some c):(execOp ρ o).run P w=.ok (.value (.int .u8 (c.toNat:Int))) w:=by
 simp[execOp,a,Instr.index,asIntOf,underlying,d,e,hi,f,Result.andThen]
def gR (n:Nat) (xs:List Nat) (m:Nat):Prop:=Dig 1000000000 xs∧n=val 1000000000 xs+1000000000^xs.length*m
theorem gR.start (n:Nat):gR n [] n:=⟨Dig.nil,qS⟩
theorem gR.step {n m:Nat}{xs:qN}(h:gR n xs m):gR n (xs ++ [m%1000000000]) (m/1000000000):=by
 obtain⟨a,b⟩:=h
 refine⟨a.append (Dig.nil.cons (uP _ qO)),?_⟩
 rw[kJ,uU,sQ,uN,sE,uH,← uK,iT,gV,tD,tB,rD]
 exact b
theorem gR.len {n m C:Nat}{xs:qN}(h:gR n xs m)(b:0<m)(c:n<1000000000^C):xs.length<C:=by
 obtain⟨_,d⟩:=h
 rcases vM xs.length C with a|a
 ·exact a
 have e:1000000000^C≤1000000000^xs.length:=uW qO a
 have f:1000000000^xs.length*1≤1000000000^xs.length*m:=uI _ b
 generalize 1000000000^xs.length=P at *
 generalize 1000000000^C=Q at *
 omega
theorem Zmh {n C:Nat}(a:n<1000000000^C):ml n≤C:=dD.2 (uQ a (rC (by rw[jZ];omega) _))
theorem wC.len {w:World}{A:qA}{l c n:Nat}(h:wC w (.slice A l c) n):l=ml n:=by
 obtain⟨f,g,i,a,j,k,b,d,e⟩:=h
 injection a with e1 e2 e3
 rw[e2,Zd7 b d,e]
theorem ZbH (b:Nat):¬ xF none b:=fun c=>by obtain⟨a,ha,_⟩:=c;cases ha
theorem ZnN {a:Nat}(h:a<4294967296):(a:Int)%4294967296=(a:Int):=qO
def dive (e:Nat):Nat:=100000000/10^e
theorem ZkX:dive 0=100000000:=by simp[dive]
theorem ZkY:dive 9=0:=qD
theorem Zcx (e:Nat):dive e/10=dive (e+1):=by unfold dive;rw[tO,uN]
theorem Ziq {e:Nat}(h:e<9):dive e=10^(9-1-e):=by
 have:e=0∨e=1∨e=2∨e=3∨e=4∨e=5∨e=6∨e=7∨e=8:=qO
 rcases this with rfl|rfl|rfl|rfl|rfl|rfl|rfl|rfl|rfl<;>decide
theorem ZnO (e:Nat):dive e≤100000000:=vN _ _
theorem Zmi {e:Nat}(h:e<9):0<dive e:=by rw[Ziq h];exact vE qO
def Zir (C:Nat) (w wr:World) (n m:Nat) (xs:List Nat) (A:Option Addr) (cap:Nat) (mv:Value):Prop :=
 gR n xs m∧Buf .u32 143 wr A cap xs∧wC wr mv m∧Ext w wr∧ml m≤ml n∧(∀ b,xF A b→w.heap.size≤b)∧xs.length≤C
theorem wC.fr {S:Nat→Prop}{w w':World}{v:Value}{n:Nat}(h:wC w v n)(d:Fr S w w')(e:∀ A l c,v=.slice A l c→0<l→∀ a,A=some a→¬ S a.block):wC w' v n:=by
 obtain⟨A,xs,c,b,f,g,i⟩:=h
 refine⟨A,xs,c,b,f,?_,i⟩
 cases xs with
 | nil=>exact zF.nil
 | cons x xs=>exact g.fr d (fun a j _=>e A _ c b qS a j)
def bZ (w wr:World) (xs:List Nat) (A:Option Addr) (cap h t:Nat) (A3:Option Addr) (cap3:Nat):Prop :=
 Buf .u32 143 wr A cap xs∧TBuf wr A3 cap3 (xX h)∧(xX h).length=t∧Ext w wr∧(∀ b,xF A b→w.heap.size≤b)∧(∀ b,xF A3 b→w.heap.size≤b)∧(∀ b,xF A b→¬ xF A3 b)
theorem ZgZ {w wr w2:World}{xs:qN}{A:qA}{cap h g t c:Nat}{d j:qA}{e cap4:Nat}{o:Obj}(s:bZ w wr xs A cap h t d e)(l:xX g=xX h ++ [UInt8.ofNat (48+c)])(z:c<10)(u:Buf .u8 5 w2 j cap4 (nats (xX h) ++ [48+c]))(v:Fr (xF d) (wr.alloc o) w2)(m:∀ b,xF j b→xF d b∨b=(wr.alloc o).heap.size):bZ w w2 xs A cap g (t+1) j cap4:=by
 obtain⟨n,B,x,p,y,q,r⟩:=s
 have f:Fr (xF d) wr w2:=((Fr.refl (xF d) wr).alloc o).trans (v.mono (fun _ _ h=>h))
 refine⟨n.fr f r,?_,by rw[l];simp[x],p.next f (fun i hi a=>by have:=q i a;omega),y,?_,?_⟩
 ·show Buf _ _ _ _ _ (nats (xX g))
  rw[l,Zhv]
  have:nats [UInt8.ofNat (48+c)]=[48+c]:=by
   simp[nats];omega
  rw[this];exact u
 ·intro b a
  rcases m b a with h|h
  ·exact q b h
  have:=p.size;simp at h;omega
 intro b a k
 rcases m b k with h|h
 ·exact r b a h
 have:=n.lt a;simp at h;omega
theorem ZjA (s:Bool)(A0:qA)(l0 c0:Nat)(n:Nat)(w:World)(hN:wC w (.slice A0 l0 c0) n)(h0:0<n)(C:Nat)(hn:n<1000000000^C)(hC:C≤15637498706141) :
 yA 113 #[.agg #[.bool s,.slice A0 l0 c0]] w (RetV w (.string ⟨(Lib.decDigits n).toArray⟩)):=by
 have HN:=zh hN
 have H0:=zh h0
 have Hn:=zh hn
 have o0:Hid (C≤15637498706141):=hC
 have E0:Hid (ml n≤17592186044416):=by have:=Zmh hn;unfold Hid;omega
 have V0:((l0:Int) == 0)=false:=by
  obtain⟨A,o,c,h1,h2,h3,h4,h5,h6⟩:=hN
  injection h1 with e1 e2 e3
  subst e2
  have k1:=Zd7 h4 h5
  rw[h6] at k1
  have k2:=Zgy h0
  simp
  intro e
  rw[e] at k1
  simp at k1
  omega
 clear hN h0 hn hC
 go_enter func113,ntmps113
 go_wp2
 obtain⟨wb,Z⟩:=yE (w.alloc (.cells #[.bool s,.slice A0 l0 c0] 57))
 rw[Z]
 have p0:Hid (Ext w wb):=Z ▸ (Fr.refl _ _).alloc _
 clear Z
 go_loopw [3,4,5,6] (fun pv mv _ _ wr=>∃ (o:List Nat) (m:Nat) (A:Option Addr) (u:Nat) (A1:Option Addr) (l c:Nat),pv=.slice A o.length u∧mv=.slice A1 l c∧Hid (Zir C w wr n m o A u (.slice A1 l c))) (fun pv _ _ _ _=>match pv with | .slice _ k _=>C-k | _=>0)
 case atStart=>exact⟨[],n,none,0,A0,l0,c0,rfl,rfl,gR.start n,Buf.nil,HN.out.ext p0.out,p0.out,uG _,fun b I=>(ZbH b I).elim,qS⟩
 case round =>
  obtain⟨o,m,A,u,A1,l,c,rfl,rfl,g⟩:=hrel
  have hl:=g.out.2.2.1.len
  by_cases hm:0<m
  ·have G:=g.out.1.len hm Hn.out
   have W0:0<l:=by rw[hl];exact Zgy hm
   have F0:=E0.out
   have G0:=o0.out
   have I0:ml m≤17592186044416:=by have:=g.out.2.2.2.2.1;omega
   have HD:=zh (Zgz _ m 1000000000 wr g.out.2.2.1 I0 qO (by rw[jZ];omega))
   obtain⟨k2,ek⟩:=yE C
   rw[ek] at G
   have X0:k2≤15637498706141:=qO
   clear F0 G0
   have hr:=uP m (y:=1000000000) qO
   have T:=zh g.out.1.step
   have q0:ml (m/1000000000)≤ml m:=Znq (vN _ _)
   have r0:Hid (ml (m/1000000000)≤ml n):=uC q0 g.out.2.2.2.2.1
   obtain⟨r,er⟩:=yE (m%1000000000)
   obtain⟨m2,em⟩:=yE (m/1000000000)
   rw[er] at T
   rw[em] at T r0
   clear hl q0 hr
   go_wp2_with fail
   refine HD.out.mono ?_
   rintro e w1 ⟨l2,c2,rfl,a0,s0⟩
   rw[er]
   rw[em] at a0
   have t0:=zh a0
   have b0:=zh s0
   clear HD a0 s0 er em
   go_wp2_with (at_builtin;refine Hid.out ?_)
   refine zh ?_
   have E:Hid (zF .u32 (w1.alloc (.cells #[.int .u32 (r:Int)] 143)) (some ⟨w1.heap.size,0,none⟩) [r]):=(Own.new w1 143 .u32 [r] []).shows0
   have u0:Hid (Buf .u32 143 w1 A u o):=g.out.2.1.ext b0.out
   refine wR rfl _ _ _ rfl _ .u32 4 underlying55 Zks A (some ⟨w1.heap.size,0,none⟩) o.length 1 u 1 rfl rfl o [r] rfl rfl (u0.out.ext ((Fr.refl _ _).alloc _)) E.out (by simp only[maxLen];omega) qO ?_
   intro A2 W w2 v0 d0 w0
   have v:Hid (Zir C w w2 n m2 (o ++ [r]) A2 W (.slice (some ⟨wr.heap.size,0,none⟩) l2 c2)):=by
    have X:=g.out.2.2.2.2.2.1
    have x0:Ext w w1:=g.out.2.2.2.1.trans b0.out
    refine⟨T.out,v0,(t0.out.ext ((Fr.refl _ _).alloc _)).fr d0 ?_,(x0.alloc _).next d0 (fun i hi I=>by have:=X i I;omega),r0.out,?_,by rw[uU,sQ];omega⟩
    ·intro A' l' F e _ a ha I
     injection e with e1 e2 e3
     rw[←e1] at ha
     injection ha with ha
     subst ha
     have:wr.heap.size<wr.heap.size:=g.out.2.1.lt I
     omega
    intro b I
    rcases w0 b I with h|h
    ·exact X b h
    have:=x0.size;simp at h;omega
   clear v0 d0 w0 E u0 t0 b0 T g
   have J0:=zh ek
   clear ek
   go_wp2
   go_roundw
   case rel=>exact⟨o ++ [r],m2,A2,W,_,l2,c2,by rw[uU];rfl,rfl,v⟩
   case measure =>
    simp
    rw[J0.out]
    omega
  obtain rfl:m=0:=qO
  obtain⟨hC,hB,hM,Q,_,hA,K0⟩:=g.out
  have U0:o.length≤15637498706141:=by have:=o0.out;omega
  obtain rfl:l=0:=by rw[hl];rfl
  have HC:Hid (Dig 1000000000 o∧n=val 1000000000 o):=by
   obtain⟨c1,c2⟩:=hC
   exact⟨c1,by simpa using c2⟩
  have HB:=zh hB
  have HE:=zh Q
  have HA:=zh hA
  clear hC hB hM Q hA g hl hm K0
  go_wp2
  obtain⟨wo,rfl⟩:∃ wo:World,wo=wr:=⟨_,rfl⟩
  go_loopw [7,8,9,10] (fun ov iv _ _ wr=>∃ (k t:Nat) (B:Option Addr) (d:Nat),k≤o.length∧iv=.int .i64 ((k:Int)-1)∧ov=.slice B t d∧t≤9*(o.length-k)∧Hid (bZ w wr o A u (val 1000000000 (o.drop k)) t B d)) (fun _ iv _ _ _=>(intOf iv+1).toNat)
  case atStart=>exact⟨o.length,0,none,0,uG _,rfl,rfl,qO,HB.out,by rw[List.drop_length];exact Buf.nil,by rw[List.drop_length];rfl,HE.out,HA.out,fun b I=>(ZbH b I).elim,fun b _ I=>ZbH b I⟩
  case round =>
   obtain⟨k,t,B,d,hk,rfl,rfl,ht,g⟩:=hrel
   by_cases Y0:0<k
   ·obtain⟨k,rfl⟩:∃ j,k=j+1:=⟨k-1,qO⟩
    have hi:((k+1:Nat):Int)-1=(k:Int):=qO
    rw[hi]
    clear hi
    have y0:k<o.length:=qO
    obtain⟨p,ep⟩:=yE (o[k]?.getD 0)
    have hp:p<1000000000:=ep ▸ HC.out.1.getD qO k
    obtain⟨H,eH⟩:=yE (val 1000000000 (o.drop (k+1)))
    have e0:Hid (topE H p 9 9=val 1000000000 (o.drop k)):=by
     unfold Hid
     rw[ZlI,xO k y0,ep,eH,uF]
     omega
    have HP:=zh ep
    rw[eH] at g
    have z0:Hid (bZ w wr o A u (topE H p 9 0) t B d):=by rw[Zi0 qO];exact g
    have L0:((100000000:Nat):Int)=((dive 0:Nat):Int):=by rw[ZkX]
    clear ep eH g
    go_wp2
    obtain⟨Z0,rfl⟩:∃ wo:World,wo=wr:=⟨_,rfl⟩
    obtain⟨T0,eT⟩:=yE (9*(o.length-(k+1)))
    rw[eT] at ht
    go_loopw [7,9,10] (fun ov dv _ wr=>∃ (e t:Nat) (B:Option Addr) (d:Nat),e≤9∧dv=.int .u32 (dive e:Nat)∧ov=.slice B t d∧t≤T0+e∧Hid (bZ w wr o A u (topE H p 9 e) t B d)) (fun _ dv _ _=>(intOf dv).toNat)
    case atStart=>exact⟨0,t,B,d,qO,by rw[←L0];rfl,rfl,qO,z0⟩
    case round =>
     clear ht z0
     obtain⟨e,t,B,d,he,rfl,rfl,ht,g⟩:=hrel
     by_cases f0:e<9
     ·have M0:=Zmi f0
      have N0:=ZnO e
      have a1:T0≤140737488355260:=qO
      obtain⟨b2,J,hA,_,O0⟩:=g.out.1.shows.at y0
      rw[HP.out] at O0
      have f:=zh (Zka (H:=H) (p:=p) (k:=9) f0)
      rw[←Ziq f0] at f
      have x:p/dive e%10<10:=uP _ qO
      have q1:(p:Int).tdiv (dive e:Int)=((p/dive e:Nat):Int):=by rw[sY qO];rfl
      have B0:(p:Int)/(dive e:Int)=((p/dive e:Nat):Int):=rfl
      have q2:((p/dive e:Nat):Int).tmod 10=((p/dive e%10:Nat):Int):=by rw[sK (Int.natCast_nonneg _)];rfl
      have g0:((p/dive e:Nat):Int)%10=((p/dive e%10:Nat):Int):=rfl
      have i0:p/dive e≤p:=vN _ _
      have q3:((p/dive e:Nat):Int)%4294967296=((p/dive e:Nat):Int):=ZnN (tF i0 qO)
      have q5:(dive e:Int).tdiv 10=((dive (e+1):Nat):Int):=by rw[sY qO,← Zcx];rfl
      have C0:(dive e:Int)/10=((dive (e+1):Nat):Int):=by rw[←Zcx];rfl
      have K:dive (e+1)<dive e:=by rw[←Zcx];omega
      have q6:((dive (e+1):Nat):Int)%4294967296=((dive (e+1):Nat):Int):=qO
      obtain⟨D,eD⟩:=yE (dive e)
      obtain⟨D2,j0⟩:=yE (dive (e+1))
      have k0:=zh j0
      rw[eD] at M0 N0 f x q1 B0 q2 g0 i0 q3 q5 C0 K ⊢
      rw[j0] at q5 C0 K q6
      obtain⟨q,eq⟩:=yE (p/D)
      rw[eq] at q1 B0 q2 g0 f x q3 i0
      obtain⟨F,ec⟩:=yE (q%10)
      rw[ec] at q2 g0 f x
      have G:(0<t)↔0<topE H p 9 e:=by rw[←g.out.2.2.1];exact Zhw
      have q7:((48:Int)+(F:Int))%4294967296=((48+F:Nat):Int):=qO
      have q8:((48+F:Nat):Int)%256=((48+F:Nat):Int):=qO
      subst hA
      clear eD j0 eq ec
      by_cases m0:0<t∨F≠0
      ·have L:=g.out.2.2.1
       have M:=zh (aT (h:=topE H p 9 e) x qO)
       rw[←f.out] at M
       have E:Hid (zF .u8 (wr.alloc (.cells #[.int .u8 (48+(F:Int))] 5)) (some ⟨wr.heap.size,0,none⟩) [48+F]):=(Own.new wr 5 .u8 [48+F] []).shows0
       have U:Hid (TBuf wr B d (xX (topE H p 9 e))):=g.out.2.1
       have Y:(decide (0<t) || ((48+F:Nat):Int) != 48)=true:=by
        rcases m0 with h|h
        ·simp[h]
        have:(((48+F:Nat):Int) != 48)=true:=by simp;omega
        rw[this,Bool.or_true]
       have N:=zh L
       have V:=zh g.out
       clear G L f g
       by_cases b1:0<t
       ·clear m0 Y
        go_wp2_with (at_builtin;refine Hid.out ?_)
        refine zh ?_
        refine wR rfl _ _ _ rfl _ .u8 1 underlying191 ZmU B (some ⟨wr.heap.size,0,none⟩) t 1 d 1 rfl rfl (nats (xX (topE H p 9 e))) [48+F] (by rw[ZaJ];exact N.out) rfl (U.out.ext ((Fr.refl _ _).alloc _)) E.out (by simp only[maxLen];omega) qO ?_
        intro A4 z w2 O R S
        have v:Hid (bZ w w2 o (some ⟨b2,J,none⟩) u (topE H p 9 (e+1)) (t+1) A4 z):=ZgZ V.out M.out x O R S
        clear O R S E U V M
        go_wp2
        go_roundw
        case rel=>exact⟨e+1,t+1,A4,z,qO,by rw[k0.out],rfl,qO,v⟩
        case measure=>simp[intOf];omega
       have d1:(((48+F:Nat):Int) != 48)=true:=by simp;omega
       clear m0 Y
       go_wp2_with (at_builtin;refine Hid.out ?_)
       refine zh ?_
       refine wR rfl _ _ _ rfl _ .u8 1 underlying191 ZmU B (some ⟨wr.heap.size,0,none⟩) t 1 d 1 rfl rfl (nats (xX (topE H p 9 e))) [48+F] (by rw[ZaJ];exact N.out) rfl (U.out.ext ((Fr.refl _ _).alloc _)) E.out (by simp only[maxLen];omega) qO ?_
       intro A4 z w2 O R S
       have v:Hid (bZ w w2 o (some ⟨b2,J,none⟩) u (topE H p 9 (e+1)) (t+1) A4 z):=ZgZ V.out M.out x O R S
       clear O R S E U V M
       go_wp2
       go_roundw
       case rel=>exact⟨e+1,t+1,A4,z,qO,by rw[k0.out],rfl,qO,v⟩
       case measure=>simp[intOf];omega
      obtain rfl:t=0:=qO
      obtain rfl:F=0:=qO
      have v:Hid (bZ w wr o (some ⟨b2,J,none⟩) u (topE H p 9 (e+1)) 0 B d):=by
       have h0:topE H p 9 e=0:=qO
       unfold Hid
       rw[f.out,h0]
       have:=g.out
       rw[h0] at this
       exact this
      clear g G f
      go_wp2
      go_roundw
      case rel=>exact⟨e+1,0,B,d,qO,by rw[k0.out],rfl,qO,v⟩
      case measure=>simp[intOf];omega
     obtain rfl:e=9:=qO
     have P0:Hid (bZ w wr o A u (val 1000000000 (o.drop k)) t B d):=by
      rw[←e0.out];exact g
     have Q0:t≤9*(o.length-k):=qO
     rw[ZkY]
     clear g
     go_wp2
     go_roundw
     case rel=>exact⟨k,t,B,d,qO,by go_num,rfl,Q0,P0⟩
     case measure=>simp[intOf]
   obtain rfl:k=0:=qO
   obtain⟨_,n0,_,D0,_,_,_⟩:=g.out
   rw[tX,← HC.out.2,kI H0.out] at n0
   have K:(Lib.decDigits n).length=t:=by
    have:=g.out.2.2.1
    rwa [tX,← HC.out.2,kI H0.out] at this
   obtain⟨b,rfl,hc⟩:=TBuf.bytes n0 (lS n)
   have R0:=run_convert_bytes_back (P:=prog) wr 191 9 5 ⟨b,0,none⟩ d (Lib.decDigits n) underlying191 underlying5 underlying9 hc
   rw[K] at R0
   have S0:=zh D0
   generalize Lib.decDigits n=txt at *
   clear n0 D0 hc g K
   go_wp2
   go_ret
   exact⟨rfl,S0.out⟩
theorem ZhM (s:Bool)(b:qA)(c0:Nat)(w:World) :
 yA 113 #[.agg #[.bool s,.slice b 0 c0]] w (RetV w (.string ⟨(Lib.decDigits 0).toArray⟩)):=by
 have a:Lib.decDigits 0=[48]:=Lib.decDigits_one qO
 have c:=zh a
 clear a
 go_enter func113,ntmps113
 go_wp2
 go_ret
 exact⟨by rw[c.out];rfl,(Fr.refl _ _).alloc _⟩
theorem ZhN (s:Bool)(a:qA)(b c0:Nat)(n:Nat)(w:World)(c:wC w (.slice a b c0) n)(C:Nat)(e:n<1000000000^C)(f:C≤15637498706141) :
 yA 113 #[.agg #[.bool s,.slice a b c0]] w (RetV w (.string ⟨(Lib.decDigits n).toArray⟩)):=by
 rcases uJ n with h|h
 ·subst h
  have d:=c.len
  rw[Zh5] at d
  subst d
  exact ZhM s a c0 w
 exact ZjA s a b c0 n w c h C e f
theorem Zbc (a b:List UInt8):(⟨a.toArray⟩:ByteArray) ++ ⟨b.toArray⟩=⟨(a ++ b).toArray⟩:=by
 apply ByteArray.ext
 simp
theorem aM {n j:Nat}(h:n<10^j∧j≤140737488355000):(Lib.decDigits n).length≤140737488355000:=by
 rcases uJ n with e|e
 ·rw[e,Lib.decDigits_one qO];simp
 have:=Zi1 _ _ h.1
 rw[kI e] at this
 omega
theorem fZ (s:Bool)(a:qA)(b c0:Nat)(n:Nat)(w:World)(c:wC w (.slice a b c0) n){j:Nat}(h:n<10^j∧j≤140737488355000) :
 yA 113 #[.agg #[.bool s,.slice a b c0]] w (RetV w (.string ⟨(Lib.decDigits n).toArray⟩)):=by
 refine ZhN s a b c0 n w c ((j+8)/9) ?_ (by have:=h.2;omega)
 refine uQ h.1 ?_
 rw[show (1000000000:Nat)=10^9 by decide,← rZ]
 exact uW qO qO
theorem Zg0 {n k:Nat}(h:ml n≤k):n<10^(10*k):=by
 refine uQ (Zjc n) (uC (uW aE h) ?_)
 rw[rZ]
 exact rC (by rw[jZ];decide) _
theorem ZfP (a:Value)(q:Rat)(w:World)(ha:lM w a q)(j k:Nat)(B:q.num.natAbs<10^j∧j≤140737488355000)(_:q.den<10^k∧k≤140737488355000)(x:q.num<0)(y:q.den=1) :
 yA 66 #[a] w (RetV w (.string ⟨(xI q).toArray⟩)):=by
 obtain⟨C,t,u,v,t1,H,D,I,rfl⟩:=ha.shp
 have F2:Hid (lM w (.agg #[.bool C,.slice t u v,.bool t1,.slice H D I]) (q)):=ha
 clear ha
 obtain rfl:C=true:=F2.out.num.sneg x
 have E:Hid (q.num.natAbs<10^j∧j≤140737488355000):=B
 obtain rfl:D=0:=F2.out.den.len0 (ZgL y)
 have F:Hid (xI q=45 :: Lib.decDigits q.num.natAbs):=by unfold Hid xI Lib.itoa;rw[uS y,uS x]
 obtain⟨J,g⟩:=yE (xI q)
 rw[g] at F ⊢
 clear x y B g
 go_enter func66,ntmps66
 go_wp2_with fail
 generalize h:World.alloc w _=w4
 obtain⟨c,d⟩:=aF h
 clear h
 have B3:=zh c
 clear c
 replace F2:=zh (F2.out.ext d)
 have HE:=zh d
 clear d
 have F5:Hid (wG w4 (.agg #[.bool true,.slice t u v]) ((q).num)):=F2.out.num
 have F8:Hid (wC w4 (.slice t u v) (((q).num).natAbs)):=F5.out.mag
 refine (fZ true t u v _ _ F8.out E.out).mono ?_
 obtain⟨G,b⟩:=yE (Lib.decDigits (((q).num).natAbs))
 rw[b];have z:G.length≤140737488355000:=by rw[←b];exact aM E.out
 have A:=zh b;clear b
 rintro e K ⟨rfl,f⟩
 replace B3:=zh (B3.out.ext f)
 replace F2:=zh (F2.out.ext f)
 replace F5:=zh (F5.out.ext f)
 replace F8:=zh (F8.out.ext f)
 replace HE:=zh (HE.out.trans f)
 clear f
 obtain⟨i,l,m,n,o,p,r,s⟩:=B3.out.cell4
 go_wp2
 clear i l m n o p r s
 go_ret
 refine⟨?_,HE.out⟩
 rw[F.out,A.out]
 show Ending.returned (.string ((⟨#[45]⟩:ByteArray) ++ ⟨G.toArray⟩))=_
 simp only[Zbc]
 rfl
theorem ZfQ (a:Value)(q:Rat)(w:World)(ha:lM w a q)(j k:Nat)(N:q.num.natAbs<10^j∧j≤140737488355000)(O:q.den<10^k∧k≤140737488355000)(P:q.num<0)(s:¬ q.den=1) :
 yA 66 #[a] w (RetV w (.string ⟨(xI q).toArray⟩)):=by
 obtain⟨Q,F,G,H,t1,I,m1,J,rfl⟩:=ha.shp
 have F2:Hid (lM w (.agg #[.bool Q,.slice F G H,.bool t1,.slice I m1 J]) (q)):=ha
 clear ha
 obtain rfl:Q=true:=F2.out.num.sneg P
 have R:Hid (q.num.natAbs<10^j∧j≤140737488355000):=N
 have Y:0<m1:=F2.out.den.lenp (Zid s)
 have W:decide ((0:Int)<(m1:Int))=true:=by rw[sH];omega
 have S:Hid ((denF q).natAbs<10^k∧k≤140737488355000):=by unfold Hid;rw[aY s,sU];exact O
 have T:Hid (xI q=(45 :: Lib.decDigits q.num.natAbs) ++ (47 :: Lib.decDigits (denF q).natAbs)):=by
  unfold Hid xI
  rw[uL s,aY s,sU,Lib.itoa_nonneg]
  unfold Lib.itoa
  rw[uS (show q.num<0 by omega)]
  simp
 obtain⟨Z,t⟩:=yE (xI q)
 rw[t] at T ⊢
 clear P s N O t
 go_enter func66,ntmps66
 go_wp2_with fail
 generalize u:World.alloc w _=w4
 obtain⟨f,g⟩:=aF u
 clear u
 have B3:=zh f
 clear f
 replace F2:=zh (F2.out.ext g)
 have HE:=zh g
 clear g
 have F5:Hid (wG w4 (.agg #[.bool true,.slice F G H]) ((q).num)):=F2.out.num
 have F8:Hid (wC w4 (.slice F G H) (((q).num).natAbs)):=F5.out.mag
 refine (fZ true F G H _ _ F8.out R.out).mono ?_
 obtain⟨U,d⟩:=yE (Lib.decDigits (((q).num).natAbs))
 rw[d];have L:U.length≤140737488355000:=by rw[←d];exact aM R.out
 have M:=zh d;clear d
 rintro e V ⟨rfl,b⟩
 replace B3:=zh (B3.out.ext b)
 replace F2:=zh (F2.out.ext b)
 replace F5:=zh (F5.out.ext b)
 replace F8:=zh (F8.out.ext b)
 replace HE:=zh (HE.out.trans b)
 clear b
 obtain⟨v,x,y,z,A,B,C,D⟩:=B3.out.cell4
 go_wp2_with fail
 clear v x y z A B C D
 have F10:Hid (wG V (.agg #[.bool t1,.slice I m1 J]) (denF (q))):=F2.out.den
 have F13:Hid (wC V (.slice I m1 J) ((denF (q)).natAbs)):=F10.out.mag
 refine (fZ t1 I m1 J _ _ F13.out S.out).mono ?_
 obtain⟨t12,c⟩:=yE (Lib.decDigits ((denF (q)).natAbs))
 rw[c];have K:t12.length≤140737488355000:=by rw[←c];exact aM S.out
 have E:=zh c;clear c
 rintro e X ⟨rfl,b⟩
 replace B3:=zh (B3.out.ext b)
 replace F2:=zh (F2.out.ext b)
 replace F5:=zh (F5.out.ext b)
 replace F8:=zh (F8.out.ext b)
 replace F10:=zh (F10.out.ext b)
 replace F13:=zh (F13.out.ext b)
 replace HE:=zh (HE.out.trans b)
 clear b
 obtain⟨h,i,l,m,n,o,p,r⟩:=B3.out.cell4
 go_wp2
 clear h i l m n o p r
 go_ret
 refine⟨?_,HE.out⟩
 rw[T.out,M.out,E.out]
 show Ending.returned (.string (((⟨#[45]⟩:ByteArray) ++ ⟨U.toArray⟩) ++ ((⟨#[47]⟩:ByteArray) ++ ⟨t12.toArray⟩)))=_
 simp only[Zbc]
 rfl
theorem ZfR (a:Value)(q:Rat)(w:World)(ha:lM w a q)(j k:Nat)(A:q.num.natAbs<10^j∧j≤140737488355000)(_:q.den<10^k∧k≤140737488355000)(B:0≤q.num)(x:q.den=1) :
 yA 66 #[a] w (RetV w (.string ⟨(xI q).toArray⟩)):=by
 obtain⟨C,t,u,v,t1,H,D,I,rfl⟩:=ha.shp
 have F2:Hid (lM w (.agg #[.bool C,.slice t u v,.bool t1,.slice H D I]) (q)):=ha
 clear ha
 obtain rfl:C=false:=F2.out.num.spos B
 have E:Hid (q.num.natAbs<10^j∧j≤140737488355000):=A
 obtain rfl:D=0:=F2.out.den.len0 (ZgL x)
 have F:Hid (xI q=Lib.decDigits q.num.natAbs):=by unfold Hid xI Lib.itoa;rw[uS x,uL (show ¬ q.num<0 by omega)];rw[show q.num.toNat=q.num.natAbs by omega]
 obtain⟨J,g⟩:=yE (xI q)
 rw[g] at F ⊢
 clear B x A g
 go_enter func66,ntmps66
 go_wp2_with fail
 generalize h:World.alloc w _=w4
 obtain⟨c,d⟩:=aF h
 clear h
 have B3:=zh c
 clear c
 replace F2:=zh (F2.out.ext d)
 have HE:=zh d
 clear d
 have F5:Hid (wG w4 (.agg #[.bool false,.slice t u v]) ((q).num)):=F2.out.num
 have F8:Hid (wC w4 (.slice t u v) (((q).num).natAbs)):=F5.out.mag
 refine (fZ false t u v _ _ F8.out E.out).mono ?_
 obtain⟨G,b⟩:=yE (Lib.decDigits (((q).num).natAbs))
 rw[b];have y:G.length≤140737488355000:=by rw[←b];exact aM E.out
 have z:=zh b;clear b
 rintro e K ⟨rfl,f⟩
 replace B3:=zh (B3.out.ext f)
 replace F2:=zh (F2.out.ext f)
 replace F5:=zh (F5.out.ext f)
 replace F8:=zh (F8.out.ext f)
 replace HE:=zh (HE.out.trans f)
 clear f
 obtain⟨i,l,m,n,o,p,r,s⟩:=B3.out.cell4
 go_wp2
 clear i l m n o p r s
 go_ret
 refine⟨?_,HE.out⟩
 rw[F.out,z.out]
 show Ending.returned (.string (⟨G.toArray⟩:ByteArray))=_
 rfl
theorem ZfS (a:Value)(q:Rat)(w:World)(ha:lM w a q)(j k:Nat)(N:q.num.natAbs<10^j∧j≤140737488355000)(O:q.den<10^k∧k≤140737488355000)(P:0≤q.num)(s:¬ q.den=1) :
 yA 66 #[a] w (RetV w (.string ⟨(xI q).toArray⟩)):=by
 obtain⟨Q,F,G,H,t1,I,m1,J,rfl⟩:=ha.shp
 have F2:Hid (lM w (.agg #[.bool Q,.slice F G H,.bool t1,.slice I m1 J]) (q)):=ha
 clear ha
 obtain rfl:Q=false:=F2.out.num.spos P
 have R:Hid (q.num.natAbs<10^j∧j≤140737488355000):=N
 have Y:0<m1:=F2.out.den.lenp (Zid s)
 have W:decide ((0:Int)<(m1:Int))=true:=by rw[sH];omega
 have S:Hid ((denF q).natAbs<10^k∧k≤140737488355000):=by unfold Hid;rw[aY s,sU];exact O
 have T:Hid (xI q=(Lib.decDigits q.num.natAbs) ++ (47 :: Lib.decDigits (denF q).natAbs)):=by
  unfold Hid xI
  rw[uL s,aY s,sU,Lib.itoa_nonneg]
  unfold Lib.itoa
  rw[uL (show ¬ q.num<0 by omega)]
  rw[show q.num.toNat=q.num.natAbs by omega]
  simp
 obtain⟨Z,t⟩:=yE (xI q)
 rw[t] at T ⊢
 clear P s N O t
 go_enter func66,ntmps66
 go_wp2_with fail
 generalize u:World.alloc w _=w4
 obtain⟨f,g⟩:=aF u
 clear u
 have B3:=zh f
 clear f
 replace F2:=zh (F2.out.ext g)
 have HE:=zh g
 clear g
 have F5:Hid (wG w4 (.agg #[.bool false,.slice F G H]) ((q).num)):=F2.out.num
 have F8:Hid (wC w4 (.slice F G H) (((q).num).natAbs)):=F5.out.mag
 refine (fZ false F G H _ _ F8.out R.out).mono ?_
 obtain⟨U,d⟩:=yE (Lib.decDigits (((q).num).natAbs))
 rw[d];have L:U.length≤140737488355000:=by rw[←d];exact aM R.out
 have M:=zh d;clear d
 rintro e V ⟨rfl,b⟩
 replace B3:=zh (B3.out.ext b)
 replace F2:=zh (F2.out.ext b)
 replace F5:=zh (F5.out.ext b)
 replace F8:=zh (F8.out.ext b)
 replace HE:=zh (HE.out.trans b)
 clear b
 obtain⟨v,x,y,z,A,B,C,D⟩:=B3.out.cell4
 go_wp2_with fail
 clear v x y z A B C D
 have F10:Hid (wG V (.agg #[.bool t1,.slice I m1 J]) (denF (q))):=F2.out.den
 have F13:Hid (wC V (.slice I m1 J) ((denF (q)).natAbs)):=F10.out.mag
 refine (fZ t1 I m1 J _ _ F13.out S.out).mono ?_
 obtain⟨t12,c⟩:=yE (Lib.decDigits ((denF (q)).natAbs))
 rw[c];have K:t12.length≤140737488355000:=by rw[←c];exact aM S.out
 have E:=zh c;clear c
 rintro e X ⟨rfl,b⟩
 replace B3:=zh (B3.out.ext b)
 replace F2:=zh (F2.out.ext b)
 replace F5:=zh (F5.out.ext b)
 replace F8:=zh (F8.out.ext b)
 replace F10:=zh (F10.out.ext b)
 replace F13:=zh (F13.out.ext b)
 replace HE:=zh (HE.out.trans b)
 clear b
 obtain⟨h,i,l,m,n,o,p,r⟩:=B3.out.cell4
 go_wp2
 clear h i l m n o p r
 go_ret
 refine⟨?_,HE.out⟩
 rw[T.out,M.out,E.out]
 show Ending.returned (.string ((⟨U.toArray⟩:ByteArray) ++ ((⟨#[47]⟩:ByteArray) ++ ⟨t12.toArray⟩)))=_
 simp only[Zbc]
 rfl
theorem ZjB (a:Value)(q:Rat)(w:World)(ha:lM w a q)(j k:Nat)(c:q.num.natAbs<10^j∧j≤140737488355000)(d:q.den<10^k∧k≤140737488355000):yA 66 #[a] w (RetV w (.string ⟨(xI q).toArray⟩)):=by
 by_cases e:q.num<0
 ·by_cases b:q.den=1
  ·exact ZfP a q w ha j k c d e b
  exact ZfQ a q w ha j k c d e b
 by_cases b:q.den=1
 ·exact ZfR a q w ha j k c d qO b
 exact ZfS a q w ha j k c d qO b
theorem Zfw (a:Value)(q:Rat)(w:World)(ha:lM w a q)(b:ml q.num.natAbs≤65536)(c:ml q.den≤65536):yA 66 #[a] w (RetV w (.string ⟨(xI q).toArray⟩)) :=
 ZjB a q w ha _ _ ⟨Zg0 b,qO⟩ ⟨Zg0 c,qO⟩
def wQ (c:UInt8):Bool:=c != 47
theorem Zcy {l:List UInt8}(h:l.all zW=true):l.all wQ=true:=by
 rw[uY] at *
 intro x a
 have:=h x a
 unfold wQ
 simp
 rintro rfl
 exact absurd this qD
theorem ZkZ {t:ByteArray}{p:Nat}(a:p=((bytes t).takeWhile wQ).length):bytes (t.extract 0 p)=(bytes t).takeWhile wQ∧bytes (t.extract (p+1) t.size)=(bytes t).drop (p+1):=by
 rw[kE,kE]
 refine⟨?_,?_⟩
 ·rw[tX,Nat.sub_zero,a]
  have:=List.takeWhile_prefix wQ (l:=bytes t)
  exact (List.prefix_iff_eq_take.1 this).symm
 rw[uD (by rw[vY,zS];exact uG _)]
theorem Zmj {s:ByteArray}(h:¬ bytes s=[]):∃ c,(bytes s).head? = some c∧s[0]? = some c:=by
 obtain⟨a,_⟩:=cG h
 exact⟨s[0],bJ a,by simp[a]⟩
theorem Zmk {s:ByteArray}(h:¬ bytes s=[]):1≤s.size:=(cG h).1
section
variable {w w':World} {e:Ending} {l:List UInt8}
end
theorem ZaP:∀ l:List UInt8,Lib.indexByte l 47=if (l.takeWhile wQ).length<l.length then ((l.takeWhile wQ).length:Int) else -1
 | []=>by simp[Lib.indexByte]
 | b :: l=>by
  have e:=ZaP l
  unfold Lib.indexByte
  by_cases a:b=47
  ·subst a;simp[wQ]
  have f:(b == (47:UInt8))=false:=by simpa using a
  have g:wQ b=true:=by simp[wQ,a]
  rw[f,e]
  simp only[pJ,g,tU,if_true,pO,if_false]
  generalize (l.takeWhile wQ).length=k
  generalize l.length=n
  by_cases d:k<n
  ·have c:k+1<n+1:=qO
   have h:((k:Int) == -1)=false:=qS
   rw[uS c,uS d]
   simp only[h,pO,if_false]
   omega
  have c:¬ k+1<n+1:=qO
  rw[uL c,uL d]
  rfl
theorem ZoC {s:ByteArray}(h:bytes s=[47]):(0:Int)=Lib.indexByte (bytes s) 47:=by rw[h];rfl
theorem ZnP {s:ByteArray}(h:bytes s=[47]):((⟨#[47]⟩:ByteArray).toList == s.toList)=true:=by
 rw[Lib.toList_data,Lib.toList_data,show s.data.toList=[47] from h];rfl
theorem ZnQ {s:ByteArray}(h:¬ bytes s=[47]):((⟨#[47]⟩:ByteArray).toList == s.toList)=false:=by
 rw[Lib.toList_data,Lib.toList_data];exact sP.2 (fun e=>h e.symm)
theorem ZnR {p:Nat}(h:p≤1000000):IntKind.i64.wrap (((p:Nat):Int)+((⟨#[47]⟩:ByteArray).size:Int))=((p+1:Nat):Int):=by
 rw[show (((⟨#[47]⟩:ByteArray).size:Nat):Int)=1 from rfl,IntKind.wrap_i64];omega
theorem Zis (z:Int):(Lib.itoa z).all wQ=true:=by
 rcases Int.lt_or_le z 0 with h|h
 ·rw[ZbF h,qT,Zcy (iM _)];rfl
 rw[show z=((z.toNat:Nat):Int) by omega,iY];exact Zcy (iM _)
theorem Zfx {l:List UInt8}{q:Rat}(h:wJ l=some q)(a:q.den=1):l=Lib.itoa q.num∧l.length≤(l.takeWhile wQ).length:=by
 have b:xI q=l:=dU h
 have e:l=Lib.itoa q.num:=by rw[←b];unfold xI;rw[uS a]
 refine⟨e,?_⟩
 have:=Zis q.num
 rw[←e] at this
 rw[(eL this).1]
 exact uG _
theorem Zk0 {l:List UInt8}{q:Rat}(h:wJ l=some q)(b:¬ q.den=1):l.takeWhile wQ=Lib.itoa q.num∧l.drop ((l.takeWhile wQ).length+1)=Lib.itoa (q.den:Int)∧(l.takeWhile wQ).length<l.length:=by
 have d:xI q=l:=dU h
 have e:l=Lib.itoa q.num ++ 47 :: Lib.itoa (q.den:Int):=by rw[←d];unfold xI;rw[uL b];simp
 obtain⟨a,f⟩:=Zbb (p:=wQ) (r:=Lib.itoa (q.den:Int)) (c:=47) (Zis q.num) qD
 rw[←e] at a f
 refine⟨a,?_,?_⟩
 ·rw[a,e,← vV,List.drop_left];rfl
 rw[a,e];simp
theorem ZjC:Ending.returned (.tuple #[.string ⟨#[48]⟩,.string ⟨#[49]⟩])=Ending.returned (.tuple #[.string ⟨(Lib.itoa (0:Rat).num).toArray⟩,.string ⟨(Lib.itoa ((0:Rat).den:Int)).toArray⟩]):=by
 rw[show (0:Rat).num=((0:Nat):Int) from rfl,show ((0:Rat).den:Int)=((1:Nat):Int) from rfl,cK qD,cK qD];rfl
theorem ZhO (s:ByteArray):Ending.returned (.tuple #[.string s,.string ⟨#[49]⟩])=Ending.returned (.tuple #[.string ⟨(bytes s).toArray⟩,.string ⟨(Lib.itoa ((1:Nat):Int)).toArray⟩]):=by
 rw[cK qD];rfl
theorem Zml (x:Int):xI ((x:Int):Rat)=Lib.itoa x:=by unfold xI;exact uS rfl
theorem Zk1 (s:ByteArray)(w:World):yA 245 #[.string s,.int .u8 (((47:UInt8).toNat:Nat):Int)] w (RetV w (.int .i64 (Lib.indexByte (bytes s) 47))):=by
 refine (Tryz.stringslite_IndexByte s (((47:UInt8).toNat:Nat):Int) w).mono ?_
 rintro e w' ⟨rfl,rfl⟩
 exact⟨rfl,Fr.refl _ _⟩
theorem Zbd (s:ByteArray)(w:World) :
 yA 219 #[.string s,.string ⟨#[47]⟩] w (RetV w (.int .i64 (Lib.indexByte (bytes s) 47))):=by
 refine zQ (Φ:=fun w=>True) func219 rfl qK (fun w' d=>trivial) ?_
 refine yY (xr 1 [yT 0 s,yT 1 ⟨#[47]⟩,yJ 4 0] [] ?_)
 refine yZ (yY (xr 2 [yT 0 s,yT 1 ⟨#[47]⟩,yJ 4 0,yJ 15 ((⟨#[47]⟩:ByteArray).size:Int)] [] ?_))
 rw[(show (((⟨#[47]⟩:ByteArray).size:Nat):Int)=1 from rfl)]
 refine xr 1 [yT 0 s,yT 1 ⟨#[47]⟩,yJ 4 0,yJ 5 1] [] ?_
 refine yZ (zC (zO (zC ?_)))
 by_cases a:bytes s=[47]
 ·refine zB (xr 6 [yT 0 s,yT 1 ⟨#[47]⟩,yJ 4 0,yJ 5 1,yB 19 false,yB 22 ((⟨#[47]⟩:ByteArray).toList == (s:ByteArray).toList)] [] ?_)
  rw[ZnP a]
  refine xr 2 [yT 0 s,yT 1 ⟨#[47]⟩,yJ 4 0,yJ 5 1,yB 16 true] [] ?_
  refine yZ (xa (yY (xr 1 [yT 0 s,yT 1 ⟨#[47]⟩,yJ 4 0,yJ 5 1] [] ?_)))
  refine yZ (zG (xY (zK ?_)))
  refine yR (yI 0) fun w' R Q=>?_
  exact⟨by rw[←ZoC a],R⟩
 refine zB (xr 6 [yT 0 s,yT 1 ⟨#[47]⟩,yJ 4 0,yJ 5 1,yB 19 false,yB 22 ((⟨#[47]⟩:ByteArray).toList == (s:ByteArray).toList)] [] ?_)
 rw[ZnQ a]
 refine xr 2 [yT 0 s,yT 1 ⟨#[47]⟩,yJ 4 0,yJ 5 1,yB 16 false] [] ?_
 refine yZ (xb (yY (xr 3 [yT 0 s,yT 1 ⟨#[47]⟩,yJ 4 0,yJ 5 1,yB 24 true] [] ?_)))
 refine yZ (xa (yY (xr 2 [yT 0 s,yT 1 ⟨#[47]⟩,yJ 4 0,yJ 5 1,yT 27 s,yT 28 ⟨#[47]⟩] [] ?_)))
 refine yK 29 (.int .u8 (((47:UInt8).toNat:Nat):Int)) (fun w R Q=>eI (c:=47) (b:=⟨#[47]⟩) (t:=9) (x:=.tmp 28) (k:=0) (i:=.const (yI 0)) qK qK qK (by rfl) (by rfl)) ?_
 refine xr 0 [yT 0 s,yT 1 ⟨#[47]⟩,yJ 4 0,yJ 5 1,yT 27 s,(29,.v (.int .u8 (((47:UInt8).toNat:Nat):Int)))] [] ?_
 refine xc 245 [.string s,.int .u8 (((47:UInt8).toNat:Nat):Int)] 30 (fun _:Unit=>yI (Lib.indexByte (bytes s) 47)) _ (fun w R Q=>yN (Zk1 s _)) fun e=>?_
 refine xr 1 [yT 0 s,yT 1 ⟨#[47]⟩,yJ 4 (Lib.indexByte (bytes s) 47),yJ 5 1] [] ?_
 refine yZ (zG (xY (zK ?_)))
 refine yR (yI (Lib.indexByte (bytes s) 47)) fun w' R Q=>?_
 exact⟨rfl,R⟩
theorem Zg1 (s x y:ByteArray)(p:Nat)(w:World)(f:s.size≤100000)(c:p=((bytes s).takeWhile wQ).length)(b:p<s.size)(d:s.extract 0 p=x)(e:s.extract (p+1) s.size=y) :
 yA 193 #[.string s,.string ⟨#[47]⟩] w (RetV w (.tuple #[.string x,.string y,.bool true])):=by
 have a:((bytes s).takeWhile wQ).length<(bytes s).length:=by rw[←c,zS];exact b
 refine zQ (Φ:=fun w=>True) func193 rfl qK (fun w' g=>trivial) ?_
 refine yY (xr 3 [yT 0 s,yT 1 ⟨#[47]⟩,yT 4 ⟨#[]⟩,yT 5 ⟨#[]⟩,yB 6 false] [] ?_)
 refine yZ (zC (yY (xr 2 [yT 0 s,yT 1 ⟨#[47]⟩,yT 4 ⟨#[]⟩,yT 5 ⟨#[]⟩,yB 6 false,yT 8 s,yT 9 ⟨#[47]⟩] [] ?_)))
 refine xc 219 [.string s,.string ⟨#[47]⟩] 10 (fun _:Unit=>yI (p:Int)) _ (fun w R Q=>(Zbd s _).mono (fun _ _ h=>zL h (by rw[ZaP,uS a,← c]))) fun i=>?_
 refine xr 1 [yT 0 s,yT 1 ⟨#[47]⟩,yT 4 ⟨#[]⟩,yT 5 ⟨#[]⟩,yB 6 false,yJ 7 (p:Int)] [] ?_
 refine yZ (yY (xr 2 [yT 0 s,yT 1 ⟨#[47]⟩,yT 4 ⟨#[]⟩,yT 5 ⟨#[]⟩,yB 6 false,yJ 7 (p:Int),yB 12 (decide ((p:Int)≥0))] [] ?_))
 rw[(show decide ((p:Int)≥0)=true from vR qO)]
 refine xr 0 [yT 0 s,yT 1 ⟨#[47]⟩,yT 4 ⟨#[]⟩,yT 5 ⟨#[]⟩,yB 6 false,yJ 7 (p:Int),yB 12 true] [] ?_
 refine yZ (xa (zC ?_))
 refine yO 12 zN ?_
 refine xf 2 [yT 0 s,yT 1 ⟨#[47]⟩,yT 4 ⟨#[]⟩,yT 5 ⟨#[]⟩,yB 6 false,yJ 7 (p:Int),yT 13 s,yJ 14 (p:Int)] [] ?_
 refine aD 15 (.string x) qK qK qK qK qK qK (fun w Q=>Zcn 0 p (t:=9) (x:=.tmp 13) (lo:=none) (hi:=(some (Operand.tmp 14))) qK qK qK (Or.inl ⟨rfl,rfl⟩) (Or.inr qK) qO qO d) ?_
 refine xf 5 [yT 0 s,yT 4 ⟨#[]⟩,yT 5 ⟨#[]⟩,yB 6 false,yT 15 x,yT 16 s,yJ 20 (IntKind.i64.wrap ((p:Int)+((⟨#[47]⟩:ByteArray).size:Int)))] [] ?_
 rw[ZnR (p:=p) qO]
 refine aD 21 (.string y) qK qK qK qK qK qK (fun w Q=>Zcn (p+1) _ (t:=9) (x:=.tmp 16) (lo:=(some (Operand.tmp 20))) (hi:=none) qK qK qK (Or.inr qK) (Or.inl ⟨rfl,rfl⟩) qO (uG _) e) ?_
 refine xf 3 [yT 0 s,yT 4 x,yT 5 y,yB 6 true] [] ?_
 refine xz (yZ (zG (zK ?_)))
 refine yR (.tuple #[.string x,.string y,.bool true]) fun w' R Q=>?_
 exact⟨rfl,R⟩
theorem ZhP (s:ByteArray)(w:World)(a:¬ ((bytes s).takeWhile wQ).length<(bytes s).length) :
 yA 193 #[.string s,.string ⟨#[47]⟩] w (RetV w (.tuple #[.string s,.string ⟨#[]⟩,.bool false])):=by
 refine zQ (Φ:=fun w=>True) func193 rfl qK (fun w' b=>trivial) ?_
 refine yY (xr 3 [yT 0 s,yT 1 ⟨#[47]⟩,yT 4 ⟨#[]⟩,yT 5 ⟨#[]⟩,yB 6 false] [] ?_)
 refine yZ (zC (yY (xr 2 [yT 0 s,yT 1 ⟨#[47]⟩,yT 4 ⟨#[]⟩,yT 5 ⟨#[]⟩,yB 6 false,yT 8 s,yT 9 ⟨#[47]⟩] [] ?_)))
 refine xc 219 [.string s,.string ⟨#[47]⟩] 10 (fun _:Unit=>yI (-1)) _ (fun w R Q=>(Zbd s _).mono (fun _ _ h=>zL h (by rw[ZaP,uL a]))) fun c=>?_
 refine xr 1 [yT 0 s,yT 1 ⟨#[47]⟩,yT 4 ⟨#[]⟩,yT 5 ⟨#[]⟩,yB 6 false,yJ 7 (-1)] [] ?_
 refine yZ (yY (xr 2 [yT 0 s,yT 1 ⟨#[47]⟩,yT 4 ⟨#[]⟩,yT 5 ⟨#[]⟩,yB 6 false,yJ 7 (-1),yB 12 false] [] ?_))
 refine yZ (xb (zJ (zA (yY (xr 4 [yT 4 s,yT 5 ⟨#[]⟩,yB 6 false] [] ?_)))))
 refine yZ (zG ?_)
 refine yR (.tuple #[.string s,.string ⟨#[]⟩,.bool false]) fun w' R Q=>?_
 exact⟨rfl,R⟩
theorem ZjD (s x y:ByteArray)(p:Nat)(w:World)(b:s.size≤100000)(c:p=((bytes s).takeWhile wQ).length)(a:p<s.size)(d:s.extract 0 p=x)(e:s.extract (p+1) s.size=y) :
 yA 157 #[.string s,.string ⟨#[47]⟩] w (RetV w (.tuple #[.string x,.string y,.bool true])):=by
 refine zQ (Φ:=fun w=>True) func157 rfl qK (fun w' f=>trivial) ?_
 refine yY (xr 3 [yT 0 s,yT 1 ⟨#[47]⟩,yT 4 ⟨#[]⟩,yT 5 ⟨#[]⟩,yB 6 false] [] ?_)
 refine yZ (yY (xr 2 [yT 4 ⟨#[]⟩,yT 5 ⟨#[]⟩,yB 6 false,yT 7 s,yT 8 ⟨#[47]⟩] [] ?_))
 refine xc 193 [.string s,.string ⟨#[47]⟩] 9 (fun _:Unit=>.tuple #[.string x,.string y,.bool true]) _ (fun w R Q=>yN (Zg1 s x y p _ b c a d e)) fun g=>?_
 refine xr 6 [yT 4 x,yT 5 y,yB 6 true] [] ?_
 refine yZ (zG ?_)
 refine yR (.tuple #[.string x,.string y,.bool true]) fun w' R Q=>?_
 exact⟨rfl,R⟩
theorem Zk2 (s:ByteArray)(w:World)(a:¬ ((bytes s).takeWhile wQ).length<(bytes s).length) :
 yA 157 #[.string s,.string ⟨#[47]⟩] w (RetV w (.tuple #[.string s,.string ⟨#[]⟩,.bool false])):=by
 refine zQ (Φ:=fun w=>True) func157 rfl qK (fun w' b=>trivial) ?_
 refine yY (xr 3 [yT 0 s,yT 1 ⟨#[47]⟩,yT 4 ⟨#[]⟩,yT 5 ⟨#[]⟩,yB 6 false] [] ?_)
 refine yZ (yY (xr 2 [yT 4 ⟨#[]⟩,yT 5 ⟨#[]⟩,yB 6 false,yT 7 s,yT 8 ⟨#[47]⟩] [] ?_))
 refine xc 193 [.string s,.string ⟨#[47]⟩] 9 (fun _:Unit=>.tuple #[.string s,.string ⟨#[]⟩,.bool false]) _ (fun w R Q=>yN (ZhP s _ a)) fun c=>?_
 refine xr 6 [yT 4 s,yT 5 ⟨#[]⟩,yB 6 false] [] ?_
 refine yZ (zG ?_)
 refine yR (.tuple #[.string s,.string ⟨#[]⟩,.bool false]) fun w' R Q=>?_
 exact⟨rfl,R⟩
theorem ZjE (s:ByteArray)(w:World)(n:Glob w)(i:(bytes s).length≤570) :
 yA 109 #[.string s] w (RetV w (.tuple #[.string ⟨(Lib.itoa (valF (bytes s)).num).toArray⟩,.string ⟨(Lib.itoa ((valF (bytes s)).den:Int)).toArray⟩])):=by
 refine zQ (Φ:=fun w=>Glob w) func109 rfl qK (fun w' o=>n.ext o) ?_
 refine yY (xr 2 [yT 0 s,yT 2 ⟨#[]⟩,yT 3 ⟨#[]⟩] [] ?_)
 refine yZ (zC (yY (xr 1 [yT 0 s,yT 2 ⟨#[]⟩,yT 3 ⟨#[]⟩,yT 7 s] [] ?_)))
 by_cases b:(wJ (bytes s)).isSome=true
 ·obtain⟨q,c⟩:=sF.1 b
  have d:=bN c
  refine xc 61 [.string s] 8 (fun _:Unit=>.bool true) _ (fun w R Q=>(dH s _ Q i).mono (fun _ _ h=>zL h (by rw[b]))) fun f=>?_
  refine xr 1 [yT 0 s,yT 2 ⟨#[]⟩,yT 3 ⟨#[]⟩,yB 9 false] [] ?_
  refine yZ (xb (zJ (zA (yY (xr 1 [yT 2 ⟨#[]⟩,yT 3 ⟨#[]⟩,yT 11 s] [] ?_)))))
  by_cases a:q.den=1
  ·refine xc 157 [.string s,.string ⟨#[47]⟩] 12 (fun _:Unit=>.tuple #[.string s,.string ⟨#[]⟩,.bool false]) _ (fun w R Q=>yN (Zk2 s _ (by have:=(Zfx c a).2;omega))) fun f=>?_
   refine xr 7 [yT 2 ⟨#[]⟩,yT 3 ⟨#[]⟩,yT 4 s,yT 5 ⟨#[]⟩,yB 6 false] [] ?_
   refine yZ (zC (yY (xr 2 [yT 2 ⟨#[]⟩,yT 3 ⟨#[]⟩,yT 4 s,yT 5 ⟨#[]⟩,yB 17 true] [] ?_)))
   refine yZ (xa (yY (xr 3 [yT 2 s,yT 3 ⟨#[49]⟩,yT 4 s,yT 5 ⟨#[]⟩] [] ?_)))
   refine yZ (zG (zK ?_))
   refine yR (.tuple #[.string s,.string ⟨#[49]⟩]) fun w' R Q=>?_
   exact⟨by rw[d,a,← (Zfx c a).1];exact ZhO s,R⟩
  obtain⟨r,j,k⟩:=Zk0 c a
  obtain⟨p,e⟩:∃ p,p=((bytes s).takeWhile wQ).length:=⟨_,rfl⟩
  rw[←e] at j k
  have g:p<s.size:=by rw[←zS];exact k
  obtain⟨x,l⟩:=yE (s.extract 0 p)
  obtain⟨y,m⟩:=yE (s.extract (p+1) s.size)
  have t:x=⟨(Lib.itoa (q.num)).toArray⟩:=ZeP (by rw[←l,(ZkZ e).1,r,iB])
  have u:y=⟨(Lib.itoa (q.den:Int)).toArray⟩:=ZeP (by rw[←m,(ZkZ e).2,j,iB])
  refine xc 157 [.string s,.string ⟨#[47]⟩] 12 (fun _:Unit=>.tuple #[.string x,.string y,.bool true]) _ (fun w R Q=>yN (ZjD s x y p _ (by rw[←zS];omega) e g l m)) fun f=>?_
  refine xr 7 [yT 2 ⟨#[]⟩,yT 3 ⟨#[]⟩,yT 4 x,yT 5 y,yB 6 true] [] ?_
  refine yZ (zC (yY (xr 2 [yT 2 ⟨#[]⟩,yT 3 ⟨#[]⟩,yT 4 x,yT 5 y,yB 17 false] [] ?_)))
  refine yZ (xb (zJ (zA (yY (xr 4 [yT 2 x,yT 3 y] [] ?_)))))
  refine yZ (zG ?_)
  refine yR (.tuple #[.string x,.string y]) fun w' R Q=>?_
  exact⟨by rw[d,t,u],R⟩
 have d:valF (bytes s)=0:=ZkS (by cases h:wJ (bytes s) with|none=>rfl|some q=>rw[h] at b;exact absurd rfl b)
 refine xc 61 [.string s] 8 (fun _:Unit=>.bool false) _ (fun w R Q=>(dH s _ Q i).mono (fun _ _ h=>zL h (by rw[qE.2 b]))) fun f=>?_
 refine xr 1 [yT 0 s,yT 2 ⟨#[]⟩,yT 3 ⟨#[]⟩,yB 9 true] [] ?_
 refine yZ (xa (yY (xr 2 [yT 0 s,yT 2 ⟨#[48]⟩,yT 3 ⟨#[49]⟩] [] ?_)))
 refine yZ (zG (zK ?_))
 refine yR (.tuple #[.string ⟨#[48]⟩,.string ⟨#[49]⟩]) fun w' R Q=>?_
 exact⟨by rw[d];exact ZjC,R⟩
def Zit (s:ByteArray) (w:World) (e:Ending) (w':World):Prop:=∃ (r:ByteArray) (neg:Bool),e=.returned (.tuple #[.bool neg,.string r])∧xB (bytes s)=(neg,bytes r)∧Ext w w'
def Zep (x:ByteArray×Bool):Value:=.tuple #[.bool x.2,.string x.1]
theorem Zcz {s:ByteArray}{w w':World}{e:Ending}(h:Zit s w e w'):lQ Zep (fun x _=>xB (bytes s)=(x.2,bytes x.1)) w e w':=by
 obtain⟨r,neg,rfl,h,Q⟩:=h
 exact⟨(r,neg),rfl,Q,BoxN.pure h⟩
theorem Zmm {t:ByteArray}{i:Nat}{c:UInt8}(d:((bytes t).take i).all zW=true)(hc:t[i]? = some c)(e:¬ (c.toNat:Int)<48)(f:¬ (c.toNat:Int)>57):((bytes t).take (i+1)).all zW=true:=by
 have hi:i<t.size:=by
  rcases vM i t.size with b|b
  ·exact b
  rw[getElem?_neg t i qO] at hc;cases hc
 have a:t[i]=c:=by
  rw[getElem?_pos t i hi] at hc
  injection hc
 rw[Zap _ _ hi,qT,d,a]
 have:zW c=true:=by unfold zW;simp;omega
 simp[this]
theorem Ziu {t:ByteArray}{i:Nat}{c:UInt8}(hc:t[i]? = some c)(h:(c.toNat:Int)<48∨(c.toNat:Int)>57):¬ (bytes t).all zW=true:=by
 have hi:i<t.size:=by
  rcases vM i t.size with b|b
  ·exact b
  rw[getElem?_neg t i qO] at hc;cases hc
 have a:t[i]=c:=by
  rw[getElem?_pos t i hi] at hc
  injection hc
 intro d
 have e:t[i]∈bytes t:=by
  rw[←Zds t hi];exact tT _
 have:=fN (uY.1 d _ e)
 rw[a] at this
 unfold zW at *
 have f:=uY.1 d _ e
 rw[a] at f
 simp at f
 omega
section
variable {s r:ByteArray} {neg:Bool} {x:Int}
theorem Zo0 (h:bytes s=[48]):fvB (bytes s) x=(x == 0):=by unfold fvB;rw[uS h];rfl
theorem Zbe (h:¬ bytes s=[48])(b:xB (bytes s)=(neg,bytes r))(a:bytes r=[]∨(bytes r).head? = some 48∨¬ okE x∨¬ (bytes r).all zW=true):fvB (bytes s) x=false:=by
 unfold fvB
 rw[uL h,b]
 refine uX ?_
 rintro⟨c,d,e,f,_⟩
 rcases a with a|a|a|a
 ·exact c a
 ·exact d a
 ·exact a e
 exact a f
theorem ZnS {c c0:UInt8}(h:¬ bytes s=[48])(i:xB (bytes s)=(neg,bytes r))(b:r[0]? = some c0)(o:¬ (c0.toNat:Int)=48)(p:¬ x < -1048576)(t:¬ x>1048576)(f:(bytes r).all zW=true){k:Nat}(u:r.size=k+1)(d:r[k]? = some c):fvB (bytes s) x=(((c.toNat % 2:Nat):Int) == 1):=by
 have e:bytes r=(bytes r).take k ++ [c]:=by
  have a:k<r.size:=qO
  have:=Zap r k a
  rw[uD (by rw[zS];omega)] at this
  rw[getElem?_pos r k a] at d
  injection d with d
  rw[d] at this
  exact this
 have g:zM (bytes r)%2=c.toNat % 2:=by
  rw[e] at f ⊢
  exact Zmg f
 have j:(bytes r).head? = some c0:=by
  have a:0<r.size:=qO
  rw[getElem?_pos r 0 a] at b
  injection b with b
  rw[←b];exact bJ a
 unfold fvB
 rw[uL h,i]
 have l:c0.toNat≠48:=qO
 show decide _=decide _
 refine qI.2 ⟨fun q=>?_,fun q=>⟨?_,?_,⟨qO,qO⟩,f,?_⟩⟩
 ·have:=q.2.2.2.2
  show ((c.toNat % 2:Nat):Int)=1
  rw[g] at this;omega
 ·intro m
  have n:bytes r=[]:=m
  have:(bytes r).length=0:=by rw[n];rfl
  rw[zS] at this;omega
 ·rw[j];intro e;injection e with e;exact l (by rw[e];rfl)
 have v:((c.toNat % 2:Nat):Int)=1:=q
 show zM (bytes r)%2=1
 rw[g];omega
end
theorem Zmn {P:Program}{o:Oper}{ρ:Operand→Value}{w:World}{t k:TypeId}{x y:Operand}{c:UInt8}(a:o.op=Op.binOp .and t x y k)(b:ρ x=.int .u8 (c.toNat:Int))(d:ρ y=.int .u8 1):(execOp ρ o).run P w=.ok (.value (.int .u8 ((c.toNat % 2:Nat):Int))) w:=by
 have h:bits .and .u8 (c.toNat:Int) 1=((c.toNat % 2:Nat):Int):=by
  have f:=c.toNat_lt
  have e:(BitVec.ofInt 8 (c.toNat:Int)).toNat=c.toNat:=by
   rw[BitVec.ofInt_natCast,BitVec.toNat_ofNat];exact vL qO
  show IntKind.u8.wrap ((BitVec.ofInt 8 (c.toNat:Int) &&& BitVec.ofInt 8 1).toNat:Int)=_
  rw[BitVec.toNat_and,e,show (BitVec.ofInt 8 1).toNat=1 from rfl,Nat.and_one_is_mod,IntKind.wrap_u8];omega
 rw[←h]
 simp only[execOp,a,b,d,eqGuard,binOp]
 rfl
theorem ZcA (s:ByteArray)(w:World) :
 yA 70 #[.string s] w (Zit s w):=by
 refine zQ (Φ:=fun w=>True) func70 rfl qK (fun w' a=>trivial) ?_
 refine yY (xr 2 [yT 0 s,yB 2 false,yT 3 ⟨#[]⟩] [] ?_)
 refine yZ (yY (xr 1 [yB 2 false,yT 3 ⟨#[]⟩,yT 7 s] [] ?_))
 refine xc 120 [.string s,.string ⟨#[45]⟩] 8 (fun x:ByteArray×Bool=>.tuple #[.string x.1,.bool x.2]) _ (fun w R Q=>yM Zjz (Zcl s _)) fun⟨r,neg⟩=>?_
 refine xr 5 [yB 2 false,yT 3 ⟨#[]⟩,yT 4 r,yB 5 neg] [] ?_
 refine yZ (yY (xr 4 [yB 2 neg,yT 3 r] [] ?_))
 refine yZ (zG ?_)
 refine yR (.tuple #[.bool neg,.string r]) fun w' R Q=>?_
 exact⟨r,neg,rfl,Q.2,R⟩
theorem ZbI (s:ByteArray)(x:Int)(w:World)(S:(bytes s).length≤1000000) :
 yA 44 #[yS s x] w (RetV w (.bool (fvB (bytes s) x))):=by
 refine zQ (Φ:=fun w=>True) func44 rfl qK (fun w' T=>trivial) ?_
 refine yY (xq 2 [(1,.p 1 0),yB 2 false] [yG 1 76 s x] ?_)
 refine yZ (zC (zC ?_))
 by_cases a:bytes s=[48]
 ·refine zB (xq 3 [yB 8 ((s:ByteArray).toList == (⟨#[48]⟩:ByteArray).toList)] [] ?_)
  rw[Zio a]
  refine yZ (xa (yY (xq 4 [yB 2 ((x:Int) == 0)] [] ?_)))
  refine yZ (zG (zK ?_))
  refine yR (.bool ((x:Int) == 0)) fun w' R Q=>?_
  exact⟨by rw[Zo0 a],R⟩
 refine zB (xq 3 [yB 8 ((s:ByteArray).toList == (⟨#[48]⟩:ByteArray).toList)] [] ?_)
 rw[Zip a]
 refine yZ (xb (zJ (zA (yY (xq 2 [yT 14 s] [] ?_)))))
 refine xqc 70 [.string s] 15 Zep _ (fun w R Q=>yM Zcz (ZcA s _)) fun⟨r,neg⟩=>?_
 refine xq 5 [yT 4 r] [] ?_
 refine yZ (zC (zC ?_))
 refine SXc.know (p:=xB (bytes s)=(neg,bytes r)) (fun w _ Q=>Q.2) fun l=>?_
 have L:r.size≤1000000:=by have:=Zfj l;rw[zS] at this;omega
 by_cases B:bytes r=[]
 ·refine zB (xq 2 [yB 19 ((r:ByteArray).toList == (⟨#[]⟩:ByteArray).toList)] [] ?_)
  rw[Zim B]
  refine xq 15 [yB 34 true] [] ?_
  refine yZ (xa (yY (xq 1 [yB 2 false] [] ?_)))
  refine yZ (zG (zK ?_))
  refine yR (.bool false) fun w' R Q=>?_
  exact⟨by rw[Zbe a l (Or.inl B)],R⟩
 obtain⟨C,M,D⟩:=Zmj B
 have N:=Zmk B
 refine zB (xq 2 [yB 19 ((r:ByteArray).toList == (⟨#[]⟩:ByteArray).toList)] [] ?_)
 rw[Zin B]
 refine xq 2 [yB 20 false,yT 21 r] [] ?_
 refine xqk 22 (.int .u8 (C.toNat:Int)) (fun w R Q=>eI (t:=9) (x:=.tmp 21) (k:=0) (i:=.const (yI 0)) qK qK qK (by rfl) D) ?_
 refine xq 3 [yB 25 (((C.toNat:Int):Int) == 48)] [] ?_
 rcases bl2 ((((C.toNat:Int):Int) == 48)) with b|b
 ·rw[b]
  have n:=tG.1 b
  refine xq 9 [yB 34 true] [] ?_
  refine yZ (xa (yY (xq 1 [yB 2 false] [] ?_)))
  refine yZ (zG (zK ?_))
  refine yR (.bool false) fun w' R Q=>?_
  exact⟨by rw[Zbe a l (Or.inr (Or.inl (by rw[M,show C=48 from UInt8.toNat_inj.1 (by show C.toNat=48;omega)])))],R⟩
 rw[b]
 have n:=wF b
 refine xq 5 [yB 30 (decide (x<(-1048576)))] [] ?_
 rcases bl2 ((decide (x<(-1048576)))) with d|d
 ·rw[d]
  have o:=uA d
  refine xq 4 [yB 34 true] [] ?_
  refine yZ (xa (yY (xq 1 [yB 2 false] [] ?_)))
  refine yZ (zG (zK ?_))
  refine yR (.bool false) fun w' R Q=>?_
  exact⟨by rw[Zbe a l (Or.inr (Or.inr (Or.inl (by rintro⟨O,P⟩;omega))))],R⟩
 rw[d]
 have o:=uB d
 refine xq 4 [yB 34 (decide (x>1048576))] [] ?_
 refine xe (zA ?_)
 refine yQ ((decide (x>1048576))) (fun f=>?_) fun f=>?_
 ·have q:=uA f
  refine yY (xq 1 [yB 2 false] [] ?_)
  refine yZ (zG (zK ?_))
  refine yR (.bool false) fun w' R Q=>?_
  exact⟨by rw[Zbe a l (Or.inr (Or.inr (Or.inl (by rintro⟨O,P⟩;omega))))],R⟩
 have q:=uB f
 refine zJ (zA (zC (yY (xq 3 [yJ 36 ((r).size:Int),yJ 37 0] [] ?_))))
 refine yZ (zO ?_)
 refine yC [yB 2 false,yT 4 r,yJ 36 ((r).size:Int),yJ 37 ((0:Nat):Int)] [] (fun w=>True) (fun w Q=>trivial) ?_
 refine xQ (fun H I J=>∃ (k:Nat),I=ofL [yB 2 false,yT 4 r,yJ 36 ((r).size:Int),yJ 37 (k:Int)] []∧J=(fun w=>True)∧(k≤r.size)∧(((bytes r).take k).all zW=true)∧H=(r.size-k)) ((r.size-0)) ⟨0,rfl,rfl,(vK _),rfl,rfl⟩ ?_
 rintro H I J ⟨k,rfl,rfl,U,K,rfl⟩
 refine yY (xq 1 [yB 38 (decide ((k:Int)<((r).size:Int)))] [] ?_)
 refine yZ (zC ?_)
 refine yQ ((decide ((k:Int)<((r).size:Int)))) (fun g=>?_) fun g=>?_
 ·have u:=uA g
  have E:k<r.size:=qO
  obtain⟨c,m⟩:∃ c,r[k]? = some c:=⟨r[k],by simp[E]⟩
  refine zJ (zA (zC (zO (yY (xq 2 [yJ 5 (k:Int)] [] ?_)))))
  refine yZ (yY (xq 2 [yT 40 r,yJ 41 (k:Int)] [] ?_))
  refine xqk 42 (.int .u8 (c.toNat:Int)) (fun w R Q=>eI (t:=9) (x:=.tmp 40) (k:=k) (i:=.tmp 41) qK qK qK qK m) ?_
  refine xq 2 [yB 44 (decide ((c.toNat:Int)<48))] [] ?_
  rcases bl2 ((decide ((c.toNat:Int)<48))) with e|e
  ·rw[e]
   have v:=uA e
   refine xq 5 [yB 49 true] [] ?_
   refine yZ (xa (yY (xq 1 [yB 2 false] [] ?_)))
   refine yZ (zG (xY (zK (zK (xY (zK ?_))))))
   refine yR (.bool false) fun w' R Q=>?_
   exact⟨by rw[Zbe a l (Or.inr (Or.inr (Or.inr (Ziu m qO))))],R⟩
  rw[e]
  have v:=uB e
  refine xq 2 [yT 45 r,yJ 46 (k:Int)] [] ?_
  refine xqk 47 (.int .u8 (c.toNat:Int)) (fun w R Q=>eI (t:=9) (x:=.tmp 45) (k:=k) (i:=.tmp 46) qK qK qK qK m) ?_
  refine xq 2 [yB 49 (decide ((c.toNat:Int)>57))] [] ?_
  refine xe (zA ?_)
  refine yQ ((decide ((c.toNat:Int)>57))) (fun j=>?_) fun j=>?_
  ·have z:=uA j
   refine yY (xq 1 [yB 2 false] [] ?_)
   refine yZ (zG (xY (zK (zK (xY (zK ?_))))))
   refine yR (.bool false) fun w' R Q=>?_
   exact⟨by rw[Zbe a l (Or.inr (Or.inr (Or.inr (Ziu m qO))))],R⟩
  have z:=uB j
  refine zJ (xN (zA (zB (xq 1 [yJ 50 (IntKind.i64.wrap ((k:Int)+1))] [] ?_))))
  rw[yW ((k:Int)+1) (((k+1:Nat):Int)) qO]
  refine xq 1 [yJ 37 ((k+1:Nat):Int)] [] ?_
  refine xe ?_
  refine yP [yB 2 false,yT 4 r,yJ 36 ((r).size:Int),yJ 37 (((k+1):Nat):Int)] [] (fun w=>True) (fun w Q=>trivial) ?_
  exact xE ((r.size-(k+1))) qO ⟨(k+1),rfl,rfl,E,(Zmm K m qO qO),rfl⟩
 have u:=uB g
 have F:(bytes r).all zW=true:=by have h:=K;rw[uD (by rw[zS];omega)] at h;exact h
 refine xL (zH (zH (xT (zA (zC ?_)))))
 obtain⟨A,G⟩:∃ A,r.size=A+1:=⟨r.size-1,qO⟩
 obtain⟨c,m⟩:∃ c,r[A]? = some c:=⟨r[A],by simp[G]⟩
 refine zB (xq 4 [yT 51 r,yJ 54 (IntKind.i64.wrap (((r).size:Int)-1))] [] ?_)
 rw[yW ((r.size:Int)-1) ((A:Int)) qO]
 refine xqk 55 (.int .u8 (c.toNat:Int)) (fun w R Q=>eI (t:=9) (x:=.tmp 51) (k:=A) (i:=.tmp 54) qK qK qK qK m) ?_
 refine xqk 56 (.int .u8 ((c.toNat % 2:Nat):Int)) (fun w R Q=>Zmn (t:=5) (k:=5) (x:=.tmp 55) (y:=.const (.int .u8 1)) qK qK qK) ?_
 refine xq 2 [yB 2 ((((c.toNat % 2:Nat):Int):Int) == 1)] [] ?_
 refine yZ (zG ?_)
 refine yR (.bool ((((c.toNat % 2:Nat):Int):Int) == 1)) fun w' R Q=>?_
 exact⟨by rw[ZnS a l D qO qO qO F G m],R⟩
theorem Zdj (b:Int)(w:World) :
 yA 62 #[.int .i64 b] w (RetV w (.bool (decide (8≤b∧b≤1024)))):=by
 refine zQ (Φ:=fun w=>True) func62 rfl qK (fun w' d=>trivial) ?_
 refine yY (xq 1 [yB 2 false] [] ?_)
 refine yZ (yY (xq 3 [yB 5 (decide (b≥8))] [] ?_))
 rcases bl2 ((decide (b≥8))) with a|a
 ·rw[a]
  have c:=uA a
  refine xq 4 [yB 2 (decide (b≤1024))] [] ?_
  refine yZ (zG ?_)
  refine yR (.bool (decide (b≤1024))) fun w' R Q=>?_
  exact⟨vF (fun b=>Ending.returned (Value.bool b)) (qI.2 ⟨fun h=>⟨qO,h⟩,fun h=>h.2⟩),R⟩
 rw[a]
 have c:=uB a
 refine xq 4 [yB 2 false] [] ?_
 refine yZ (zG ?_)
 refine yR (.bool false) fun w' R Q=>?_
 exact⟨by rw[uX (p:=8≤b∧b≤1024) qO],R⟩
section
open Go.RowKit Go.Sort
def Zaa (w:World) (l:List UInt8) (e:Ending) (w':World):Prop:=e=.returned (.string ⟨l.toArray⟩)∧Ext w w'
theorem Zb3 (u:Nat)(w:World)(a:u<100) :
 yA 176 #[.int .u64 (u:Int),.int .i64 10] w (Zaa w (Lib.decDigits u)):=by
 have b:(u:Int)<100:=qO
 go_enter func176,ntmps176
 go_wp2_with (go_at_call 201;refine (Tryz.internal_strconv_small u a _).mono ?_;rintro e w' ⟨rfl,rfl⟩)
 go_ret
 exact⟨rfl,Fr.refl _ _⟩
theorem Zc5 (u i:Nat)(w:World)(v:Glob w)(C:100≤u)(a:u<18446744073709551616)(c:Lib.nDigits u=i) :
 yA 176 #[.int .u64 (u:Int),.int .i64 10] w (Zaa w (Lib.decDigits u)):=by
 have n:=Zgg u (by rw[zR];exact a)
 have g:=Lib.decDigits_length u
 rw[c] at g
 rw[g] at n
 have o:prog.arrayLen 247=24:=by simp[Program.arrayLen,underlying247]
 have z:∀ W,(Instr.sliceAt 247 (.pointer (some ⟨w.heap.size,0,none⟩)) none (some (.int .i64 (i:Int))) none).run prog W=.ok (.slice (some ⟨w.heap.size,0,none⟩) i 24) W:=fun W=>by
  rw[run_sliceAt_array_h W 247 ⟨w.heap.size,0,none⟩ (by simp[Program.arrayLen,Program.elem,underlying247]) .i64 (i:Int) qO (by rw[o];omega)]
  go_simp
 have l:=Lib.holds_zero0 w 247 i qO
 have d:=Tryz.internal_strconv_formatBase10 w.heap.size 0 24 u (Array.replicate i 0) (w.alloc (.cells Lib.zeros24 247)) l (by rw[pC,← c];exact Lib.lt_pow_nDigits u) a (by rw[pC];omega)
 have f:=Tryz.internal_strconv_numDigits u qO a (w.alloc (.cells Lib.zeros24 247)) (Lib.tabIs_alloc v.1 _)
 rw[pC] at d
 rw[c] at f
 have q:=zh l
 have x:=zh g
 have r:=zh c
 have D:(100:Int)≤(u:Int):=qO
 clear l o g c v
 go_enter func176,ntmps176
 go_wp2_with (go_at_call 202;refine f.mono ?_;rintro e w' ⟨rfl,rfl⟩)
 go_at_call 203
 refine d.mono ?_
 rintro e w' ⟨rfl,k,E,m,rfl,p⟩
 have s:(convert 191 9 (.slice (some ⟨w.heap.size,0,none⟩) i 24)).run prog ((putRow (fun (b:UInt8)=>Value.int .u8 (b.toNat:Int)) (w.alloc (.cells Lib.zeros24 247)) w.heap.size 0 m).drewN k)=.ok (.string ⟨(Lib.decDigits u).toArray⟩) ((putRow (fun (b:UInt8)=>Value.int .u8 (b.toNat:Int)) (w.alloc (.cells Lib.zeros24 247)) w.heap.size 0 m).drewN k):=by
  have h:=run_convert_bytes_back (P:=prog) ((putRow (fun (b:UInt8)=>Value.int .u8 (b.toNat:Int)) (w.alloc (.cells Lib.zeros24 247)) w.heap.size 0 m).drewN k) 191 9 5 ⟨w.heap.size,0,none⟩ 24 (Lib.decDigits u) underlying191 underlying5 underlying9 (fun j t=>by
   rw[Lib.row_is_numeral (by rw[r.out];exact p) j t,Lib.add_plain,World.cell?_drewN]
   exact cell?_putRow (fun (b:UInt8)=>Value.int .u8 (b.toNat:Int)) _ w.heap.size 0 _ m q.out (by rw[p.size,pC]) j (by rw[p.size];rw[x.out] at t;exact t))
  rw[x.out] at h
  exact h
 obtain⟨A,y⟩:=Lib.fin_at w (.cells Lib.zeros24 247) m k 0
 have Q:Ext w ((putRow (fun (b:UInt8)=>Value.int .u8 (b.toNat:Int)) (w.alloc (.cells Lib.zeros24 247)) w.heap.size 0 m).drewN k):=by
  rw[y];exact Fr.ofBelow (Lib.below_grow _ w (uG _) k A)
 generalize (putRow (fun (b:UInt8)=>Value.int .u8 (b.toNat:Int)) (w.alloc (.cells Lib.zeros24 247)) w.heap.size 0 m).drewN k=w1 at Q s ⊢
 have B:=zh Q
 clear Q y p d f
 go_wp2
 go_ret
 exact⟨rfl,B.out⟩
theorem ZeQ (u:Nat)(w:World)(b:Glob w)(a:u<W64) :
 yA 148 #[.int .u64 (u:Int),.int .i64 10] w (Zaa w (Lib.decDigits u)):=by
 have h:yA 176 #[.int .u64 (u:Int),.int .i64 10] w (Zaa w (Lib.decDigits u)):=by
  rcases vM u 100 with h|h
  ·exact Zb3 u w h
  exact Zc5 u _ w b h (by rw[zR] at a;exact a) rfl
 have H:=zh h
 clear h b a
 go_enter func148,ntmps148
 go_wp2_with fail
 refine H.out.mono ?_
 rintro e w' ⟨rfl,Q⟩
 have c:=zh Q
 clear Q
 go_wp2
 go_ret
 exact⟨rfl,c.out⟩
end
end Go.Proofs.YtenchljfmfgeoaaGreatDoor
