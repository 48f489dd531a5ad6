/-
 My texts Tp, Rn4, Nc, Nsq, Nss2, Rn5, Sh2, FrwL, FcpL put together.
-/
import Derived.Test.YtklpdkpcocnglaaGreatDoorW22
import Derived.Test.YtklpdkpcocnglaaGreatDoorW18
import Derived.Test.YtklpdkpcocnglaaGreatDoorW17
set_option maxRecDepth 100000
set_option maxHeartbeats 8000000
namespace Go.Proofs.YtklpdkpcocnglaaGreatDoor
open Go.RowKit
section
variable {P:Program} {o:Oper} {ρ:Operand→Value} {w:World} {t e k:TypeId} {x y ix:Operand}
theorem Zoz {A:Option Addr}{a:List Int}{l cap j:Nat}(h:iB w A a)(c:a.length=l)(hj:j<l)(ho:o.op=Op.indexAddr t x ix:=by kernel_rfl)(ht:P.underlying t=some (.slice e):=by kernel_rfl)(hs:(P.info? e).map (fun i=>i.size)=some 1:=by kernel_rfl)(hx:ρ x=.slice A l cap:=by kernel_rfl)(hix:ρ ix=.int .i64 (j:Int):=by kernel_rfl):(execOp ρ o).run P w=.ok (.value (atA A j)) w:=by
 obtain⟨b,d,f,_⟩:=h (fun e=>by rw[e] at c;simp at c;omega)
 exact xO (by rw[f];exact fun e=>by cases e) hj ho ht hs hx hix
theorem ZoA {A:Option Addr}{a:List Int}{z:Int}{j:Nat}(h:iB w A a)(c:j<a.length)(d:a.getD j 0=z)(f:o.op=Op.load t x:=by kernel_rfl)(g:ρ x=atA A j:=by kernel_rfl)(ha:(teOf P t).map (fun e=>e.agg)=some false:=by kernel_rfl) :
 (execOp ρ o).run P w=.ok (.value (.int .i64 z)) w:=by
 obtain⟨b,i,l,_,m⟩:=h (fun e=>by rw[e] at c;simp at c)
 rw[←d]
 exact lP (m j c) f (by rw[g,l,atA,pE,bM]) ha
theorem ZqL {a b:Nat}(ha:a<2^62)(c:b<2^62):bits .or .i64 (a:Int) (b:Int)=((a ||| b:Nat):Int):=by
 have g:a ||| b<2^62:=Nat.or_lt_two_pow ha c
 have d:(BitVec.ofInt 64 (a:Int)).toNat=a:=by
  rw[sV,rE];exact vC (by omega)
 have f:(BitVec.ofInt 64 (b:Int)).toNat=b:=by
  rw[sV,rE];exact vC (by omega)
 show IntKind.i64.wrap ((BitVec.ofInt 64 (a:Int) ||| BitVec.ofInt 64 (b:Int)).toNat:Int)=_
 rw[BitVec.toNat_or,d,f,IntKind.wrap_i64]
 omega
theorem ZqM {a b r:Nat}(ha:a<2^62)(c:b<2^62)(h:a ||| b=r)(d:o.op=Op.binOp .or t x y k:=by kernel_rfl)(f:ρ x=.int .i64 (a:Int):=by kernel_rfl)(g:ρ y=.int .i64 (b:Int):=by kernel_rfl):(execOp ρ o).run P w=.ok (.value (.int .i64 (r:Int))) w:=by
 have:=ZqL ha c
 rw[h] at this
 rw[←this]
 simp only[execOp,d,f,g,eqGuard,binOp]
 rfl
theorem ZpY {a n:Nat}(i:n≤64)(b:o.op=Op.binOp .shr t x y k:=by kernel_rfl)(c:ρ x=.int .i64 (a:Int):=by kernel_rfl){ky:IntKind}(d:ρ y=.int ky (n:Int):=by kernel_rfl):(execOp ρ o).run P w=.ok (.value (.int .i64 ((a/2^n:Nat):Int))) w:=by
 have f:¬ ((n:Int)<0):=by omega
 have g:min ((n:Int)).toNat IntKind.i64.bits=n:=by show min ((n:Int)).toNat 64=n;omega
 have h:((a:Int)).fdiv (2^n)=((a/2^n:Nat):Int):=by
  rw[qM _ (by rw[show ((2:Int)^n)=((2^n:Nat):Int) by rw[vT];rfl];exact rQ _)]
  exact aB a n
 simp only[execOp,b,c,d,eqGuard,binOp,Op.shift,uN f,g,h]
 rfl
theorem ZkA {v n:Int}(a:n≠0)(b:o.op=Op.binOp .rem t x y k:=by kernel_rfl)(c:ρ x=.int .i64 v:=by kernel_rfl)(d:ρ y=.int .i64 n:=by kernel_rfl):(execOp ρ o).run P w=.ok (.value (.int .i64 (v.tmod n))) w:=by
 simp only[execOp,b,c,d,eqGuard,binOp,Op.intDiv]
 simp[a]
theorem ZoB {a:Nat}(ha:a<1048576)(b:o.op=Op.binOp .shl t x y k:=by kernel_rfl)(c:ρ x=.int .i64 (a:Int):=by kernel_rfl)(d:ρ y=.int .u64 20:=by kernel_rfl):(execOp ρ o).run P w=.ok (.value (.int .i64 ((a*1048576:Nat):Int))) w:=by
 have f:¬ ((20:Int)<0):=by omega
 have g:min ((20:Int)).toNat IntKind.i64.bits=20:=rfl
 have h:IntKind.i64.wrap ((a:Int)*2^20)=((a*1048576:Nat):Int):=by rw[IntKind.wrap_i64];omega
 simp only[execOp,b,c,d,eqGuard,binOp,Op.shift,uN f,g,h]
 rfl
end
theorem iB.next {w w':World}{A:Option Addr}{zs:List Int}{g:Nat}(h:iB w A zs)(f:Fr (fun i=>i=g) w w')(l:zs≠[]→∀ a,A=some a→a.block≠g):iB w' A zs:=fun d=>by
 obtain⟨b,c,rfl,j,m⟩:=h d
 exact⟨b,c,rfl,uU j f.size,fun i n=>(f.cell (p:=⟨b,c+i,none⟩) j (l d ⟨b,c,none⟩ rfl)).trans (m i n)⟩
theorem Znu (v:Int){n:Int}(b:0<n):0≤(v.tmod n+n).tmod n∧(v.tmod n+n).tmod n<n:=by
 have c:=Int.lt_tmod_of_pos v b
 rw[tN (a:=v.tmod n+n) (by omega)]
 exact⟨Int.emod_nonneg _ (by omega),Int.emod_lt_of_pos _ b⟩
theorem ZqN {a b:Nat}(c:b<1048576):a*1048576 ||| b=a*1048576+b:=by
 rw[show (1048576:Nat)=2^20 from rfl] at *
 rw[←sC,tM c]
abbrev TB (w:World) (g:Nat) (A:Option Addr) (l c p:Nat):Prop:=Blk 114 w g #[.slice A l c,.int .i64 ((p:Nat):Int)]
def RetN (w:World) (g:Nat) (A:Option Addr) (l c:Nat) (n:Int) (e:Ending) (w':World):Prop:=∃ (v p:Nat),e=.returned (.int .i64 ((v:Nat):Int))∧((v:Int)<n∧p≤l)∧Fr (fun i=>i=g) w w'∧TB w' g A l c p
def TF (z x:Int):Prop:=((z=0∧x=0)∨z%2=1)∧(z.natAbs<1099511627776 ∧ -20≤x∧x≤60)
def ZoU (w:World) (g:Nat) (A:Option Addr) (l c:Nat) (e:Ending) (w':World):Prop:=∃ (z x:Int) (p:Nat),e=.returned (yS ⟨(Lib.itoa z).toArray⟩ x)∧(TF z x∧p≤l)∧Fr (fun i=>i=g) w w'∧TB w' g A l c p
theorem ZdJ {w w':World}{g:Nat}{A:Option Addr}{l c:Nat}{n:Int}{e:Ending}(h:RetN w g A l c n e w'):∃ x:{q:Nat × Nat // (q.1:Int)<n∧q.2≤l},e=.returned (.int .i64 ((x.1.1:Nat):Int))∧Fr (fun i=>i=g) w w'∧Blk 114 w' g #[.slice A l c,.int .i64 ((x.1.2:Nat):Int)]∧BoxN w w' (fun _=>True):=by
 obtain⟨v,p,rfl,h,a,b⟩:=h
 exact⟨⟨(v,p),h⟩,rfl,a,b,BoxN.pure trivial⟩
theorem ZkB {w w':World}{g:Nat}{A:Option Addr}{l c:Nat}{e:Ending}(h:ZoU w g A l c e w'):∃ x:{q:Int×Int×Nat // TF q.1 q.2.1∧q.2.2≤l},e=.returned (yS ⟨(Lib.itoa x.1.1).toArray⟩ x.1.2.1)∧Fr (fun i=>i=g) w w'∧Blk 114 w' g #[.slice A l c,.int .i64 ((x.1.2.2:Nat):Int)]∧BoxN w w' (fun _=>True):=by
 obtain⟨z,x,p,rfl,h,a,b⟩:=h
 exact⟨⟨(z,x,p),h⟩,rfl,a,b,BoxN.pure trivial⟩
theorem iB.take {w:World}{A:Option Addr}{d:List Int}(h:iB w A d)(k:Nat):iB w A (d.take k):=fun a=>by
 obtain⟨b,c,rfl,f,g⟩:=h (fun e=>a (by rw[e];simp))
 refine⟨b,c,rfl,f,fun i j=>?_⟩
 rw[vE] at j
 rw[g i (by omega),List.getD_eq_getElem?_getD,List.getD_eq_getElem?_getD,List.getElem?_take_of_lt (by omega)]
theorem iB.apart {w:World}{A:Option Addr}{d:List Int}{g:Nat}(h:iB w A d)(j:w.heap.size≤g):d≠[]→∀ a,A=some a→a.block≠g:=fun c a e=>by
 obtain⟨b,f,i,l,_⟩:=h c
 rw[i] at e
 injection e with e
 subst e
 show b≠g
 omega
theorem ZoC {w w':World}{A:Option Addr}{l c n0:Nat}{e:Ending}(j:n0≤w.heap.size)(h:∃ g,e=.returned (.pointer (some ⟨g,0,none⟩))∧w.heap.size≤g∧Ext w w'∧TB w' g A l c 0):kF (fun g:Nat=>.pointer (some ⟨g,0,none⟩)) (fun g w=>n0≤g∧TB w g A l c 0) w e w':=by
 obtain⟨g,rfl,m,Q,a⟩:=h
 exact⟨g,rfl,Q,fun S b d f=>⟨by omega,a.fr f (fun i=>by have:=(b g i).1;omega)⟩⟩
theorem ZpZ (A:Option Addr)(l c:Nat)(w:World)(d:l≤c):yA 47 #[.slice A l c] w (fun e w'=>∃ g,e=.returned (.pointer (some ⟨g,0,none⟩))∧w.heap.size≤g∧Ext w w'∧TB w' g A (min l 400) c 0):=by
 obtain⟨k,a⟩:=yE (min l 400)
 have f:min (l:Int) 400=(k:Int):=by omega
 have b:k≤c:=by omega
 rw[a]
 go_enter Tryz.func47,Tryz.ntmps47
 go_wp2
 go_ret
 exact⟨_,rfl,uK _,(Fr.refl _ _).alloc _,Blk.new _ _ _⟩
theorem Zbk (g:Nat)(A:Option Addr)(l c p:Nat)(f:List Int)(n:Int)(w:World)(s:TB w g A l c p)(u:p≤l)(B:iB w A f)(C:f.length=l)(G:l≤1000000)(b:0<n)(H:n≤1048576) :
 yA 85 #[.pointer (some ⟨g,0,none⟩),.int .i64 n] w (RetN w g A l c n):=by
 refine jH (fun i=>i=g) (Φ:=fun w=>(TB w g A l c p∧iB w A f)) Tryz.func85 rfl (by kernel_rfl) (fun w' q=>⟨s.ext q,B.ext q⟩) ?_
 refine zC (zB (xq 1 [yJ 4 0] [] ?_))
 refine xe (zA (zC (zC ?_)))
 refine bN 10 [0,1,3,7,0,16,48,112,240,511] (by kernel_rfl) (by kernel_rfl) zM ?_
 refine xqg 3 [(8,.v (.pointer (some ⟨g,0+1,none⟩)))] ?_
 refine xqj 9 (.int .i64 (p:Int)) (fun w Q=>lP (t:=3) (x:=.tmp 8) (g:=g) (off:=0+1) (Blk.cell (Q.1) 1)) ?_
 refine xqg 3 [(12,.v (.pointer (some ⟨g,0,none⟩)))] ?_
 refine xqj 13 (.slice A l c) (fun w Q=>lP (t:=66) (x:=.tmp 12) (g:=g) (off:=0) (Blk.cell (Q.1) 0)) ?_
 refine xqg 2 [yB 15 (decide ((p:Int)≥(l:Int)))] ?_
 refine xz (xe (zA ?_))
 refine yQ ((decide ((p:Int)≥(l:Int)))) (fun a=>?_) fun a=>?_
 ·have d:=uC a
  refine zC (zB (xq 1 [yJ 4 0] [] ?_))
  refine xe (zA (zF (zE ?_)))
  refine yR (.int .i64 0) fun w' R Q=>?_
  exact⟨0,p,rfl,⟨by omega,u⟩,R,Q.1⟩
 have d:=uD a
 refine zK (zA (zC ?_))
 have h:p<l:=by omega
 obtain⟨z,m⟩:=yE (f.getD p 0)
 refine bN 11 [0,1,3,7,0,16,48,112,255,511,1023] (by kernel_rfl) (by kernel_rfl) zM ?_
 refine xqg 3 [(18,.v (.pointer (some ⟨g,0,none⟩)))] ?_
 refine xqj 19 (.slice A l c) (fun w Q=>lP (t:=66) (x:=.tmp 18) (g:=g) (off:=0) (Blk.cell (Q.1) 0)) ?_
 refine xqg 3 [(22,.v (.pointer (some ⟨g,0+1,none⟩)))] ?_
 refine xqj 23 (.int .i64 (p:Int)) (fun w Q=>lP (t:=3) (x:=.tmp 22) (g:=g) (off:=0+1) (Blk.cell (Q.1) 1)) ?_
 refine xqj 24 (atA A p) (fun w Q=>Zoz (t:=66) (e:=3) (x:=.tmp 19) (ix:=.tmp 23) (l:=l) (cap:=c) (j:=p) (Q.2) C h) ?_
 refine xqj 25 (.int .i64 z) (fun w Q=>ZoA (t:=3) (x:=.tmp 24) (j:=p) (Q.2) (by omega) m) ?_
 refine xqg 1 [yJ 5 z] ?_
 refine xz (xe (zA (zC (zB (xq 3 [(26,.v (.pointer (some ⟨g,0,none⟩))),(28,.v (.pointer (some ⟨g,0+1,none⟩)))] [] ?_)))))
 refine xqk 29 (.int .i64 (p:Int)) (fun w R Q=>lP (t:=3) (x:=.tmp 28) (g:=g) (off:=0+1) (Blk.cell (Q.1) 1)) ?_
 refine xq 1 [yJ 30 (IntKind.i64.wrap ((p:Int)+1))] [] ?_
 rw[yW ((p:Int)+1) (((p+1:Nat):Int)) (by omega)]
 refine xq 2 [(32,.v (.pointer (some ⟨g,0+1,none⟩)))] [] ?_
 refine ZpX (t:=3) (bt:=114) (x:=.tmp 32) (y:=.tmp 30) (cs:=[.slice A l c,.int .i64 (p:Int)]) g (0+1) (.int .i64 ((p+1:Nat):Int)) (fun _=>True) (fun w Q=>Q.1) (pB 1) (Or.inr rfl) rfl rfl (fun _ _ _ _=>trivial) ?_
 refine xr 0 [yJ 1 n,yJ 4 0,yJ 5 z] [] ?_
 refine xe (zA (zC ?_))
 obtain⟨v,D⟩:∃ v:Nat,(z.tmod n+n).tmod n=v:=uW (Znu z b).1
 have E:=(Znu z b).2
 have F:=Int.lt_tmod_of_pos z b
 have r:=Int.tmod_lt_of_pos z b
 refine zB (xq 2 [yJ 33 z,yJ 34 n] [] ?_)
 refine xqk 35 (.int .i64 (z.tmod n)) (fun w R Q=>ZkA (t:=3) (k:=3) (x:=.tmp 33) (y:=.tmp 34) (by omega)) ?_
 refine xq 2 [yJ 37 (IntKind.i64.wrap ((z.tmod n)+n))] [] ?_
 rw[yW (z.tmod n+n) (z.tmod n+n) (by omega)]
 refine xq 1 [yJ 38 n] [] ?_
 refine xqk 39 (.int .i64 (v:Int)) (fun w R Q=>by rw[←D];exact ZkA (t:=3) (k:=3) (x:=.tmp 37) (y:=.tmp 38) (by omega)) ?_
 refine xq 1 [yJ 4 (v:Int)] [] ?_
 refine xe (zA (zF ?_))
 refine yR (.int .i64 (v:Int)) fun w' R Q=>?_
 exact⟨v,p+1,rfl,⟨by omega,by omega⟩,R,Q.2⟩
theorem ZkC (n:Int)(w:World)(f : -9223372036854775808≤n)(g:n≤9223372036854775807) :
 yA 30 #[.int .i64 n] w (Zb6 w ((n:Int):Rat)):=by
 refine zX (Φ:=fun w=>True) Tryz.func30 rfl (by kernel_rfl) (fun w' h=>trivial) ?_
 refine zC (zB (xq 1 [(2,.p 2 0)] [bR4 2 34 false none 0 0 false none 0 0] ?_))
 refine xe (zA (zC (zB (xq 1 [yJ 3 n] [] ?_))))
 refine xqc 24 [.int .i64 n] 4 zZ _ (fun w R Q=>yM xC (lH n _ f g)) fun⟨a,b,c,d⟩=>?_
 refine xq 2 [] [bR4 2 34 a b c d false none 0 0] ?_
 refine xe (zA (zF ?_))
 refine yR (.agg #[.bool a,.slice b c d,.bool false,.slice none 0 0]) fun w' R Q=>?_
 exact⟨_,rfl,ZiS Q.2,R⟩
theorem ZfY (g:Nat)(A:Option Addr)(l c p:Nat)(G:List Int)(w:World)(hT:TB w g A l c p)(hp:p≤l)(K:iB w A G)(L:G.length=l)(M:l≤1000000)(N:G≠[]→∀ a,A=some a→a.block≠g) :
 yA 48 #[.pointer (some ⟨g,0,none⟩)] w (ZoU w g A l c):=by
 refine jH (fun i=>i=g) (Φ:=fun w=>TB w g A l c p) Tryz.func48 rfl (by kernel_rfl) (fun w' hf=>hT.ext hf) ?_
 refine zC (zB (xq 1 [(2,.p 2 0)] [yG 2 24 ⟨#[]⟩ 0] ?_))
 refine xe (zA (zC (zB (xq 1 [(5,.v (.pointer (some ⟨g,0,none⟩)))] [] ?_))))
 refine wQ 85 [.pointer (some ⟨g,0,none⟩),.int .i64 1048576] (d:=6) (fun x:{q:Nat × Nat // (q.1:Int)<1048576∧q.2≤l}=>.int .i64 ((x.1.1:Nat):Int)) (fun x=>#[.slice A l c,.int .i64 ((x.1.2:Nat):Int)]) (fun _ _=>True) (fun _=>True) (fun w Q=>Q) (vK _) (Or.inr rfl) (fun w R Q=>yM ZdJ (Zbk g A l c p G 1048576 _ (Q) (by omega) (K.next R N) L M (by omega) (by omega))) (fun _ _ _ _=>trivial) fun u=>?_
 obtain⟨⟨f,g0⟩,O,S⟩:=u
 dsimp only at O S
 refine xr 1 [(0,.v (.pointer (some ⟨g,0,none⟩))),(2,.p 2 0),yJ 3 (f:Int)] [yG 2 24 ⟨#[]⟩ 0] ?_
 refine xe (zA (zC (zB (xq 1 [yJ 7 (f:Int)] [] ?_))))
 refine xqk 8 (.int .i64 ((f*1048576:Nat):Int)) (fun w R Q=>ZoB (t:=2) (x:=.tmp 7) (y:=(Operand.const (Value.int IntKind.u64 20))) (k:=103) (a:=f) (by omega)) ?_
 refine xq 1 [(9,.v (.pointer (some ⟨g,0,none⟩)))] [] ?_
 refine wQ 85 [.pointer (some ⟨g,0,none⟩),.int .i64 1048576] (d:=10) (fun x:{q:Nat × Nat // (q.1:Int)<1048576∧q.2≤l}=>.int .i64 ((x.1.1:Nat):Int)) (fun x=>#[.slice A l c,.int .i64 ((x.1.2:Nat):Int)]) (fun _ _=>True) (fun _=>True) (fun w Q=>Q.1.2) (vK _) (Or.inr rfl) (fun w R Q=>yM ZdJ (Zbk g A l c g0 G 1048576 _ (Q.1.2) (by omega) (K.next R N) L M (by omega) (by omega))) (fun _ _ _ _=>trivial) fun u=>?_
 obtain⟨⟨j,h0⟩,T,U⟩:=u
 dsimp only at T U
 refine xr 0 [(0,.v (.pointer (some ⟨g,0,none⟩))),(2,.p 2 0),yJ 3 (f:Int),yJ 8 ((f*1048576:Nat):Int),yJ 10 (j:Int)] [yG 2 24 ⟨#[]⟩ 0] ?_
 refine xqk 11 (.int .i64 ((f*1048576+j:Nat):Int)) (fun w R Q=>ZqM (t:=2) (x:=.tmp 8) (y:=.tmp 10) (k:=2) (a:=(f*1048576)) (b:=j) (by omega) (by omega) (ZqN (by omega))) ?_
 refine xq 1 [yJ 3 ((f*1048576+j:Nat):Int)] [] ?_
 refine xe (zA (zC ?_))
 obtain⟨E,i0⟩:=yE (f*1048576+j)
 rw[show ((f*1048576+j:Nat):Int)=(E:Int) by rw[i0]]
 have V:E<1099511627776:=by omega
 refine zB (xq 2 [yJ 12 (E:Int),(13,.v (.pointer (some ⟨g,0,none⟩)))] [] ?_)
 refine wQ 85 [.pointer (some ⟨g,0,none⟩),.int .i64 40] (d:=14) (fun x:{q:Nat × Nat // (q.1:Int)<40∧q.2≤l}=>.int .i64 ((x.1.1:Nat):Int)) (fun x=>#[.slice A l c,.int .i64 ((x.1.2:Nat):Int)]) (fun _ _=>True) (fun _=>True) (fun w Q=>Q.1.2) (vK _) (Or.inr rfl) (fun w R Q=>yM ZdJ (Zbk g A l c h0 G 40 _ (Q.1.2) (by omega) (K.next R N) L M (by omega) (by omega))) (fun _ _ _ _=>trivial) fun u=>?_
 obtain⟨⟨r,j0⟩,W,X⟩:=u
 dsimp only at W X
 refine xr 0 [(0,.v (.pointer (some ⟨g,0,none⟩))),(2,.p 2 0),yJ 3 (E:Int),yJ 12 (E:Int),yJ 14 (r:Int)] [yG 2 24 ⟨#[]⟩ 0] ?_
 refine xqk 15 (.int .i64 ((E/2^r:Nat):Int)) (fun w R Q=>ZpY (t:=2) (x:=.tmp 12) (y:=.tmp 14) (k:=3) (ky:=.i64) (a:=E) (n:=r) (by omega)) ?_
 refine xq 1 [yJ 3 ((E/2^r:Nat):Int)] [] ?_
 refine xe (zA (zC ?_))
 obtain⟨F,Y⟩:=yE (E/2^r)
 rw[show ((E/2^r:Nat):Int)=(F:Int) by rw[Y]]
 have A0:F<1099511627776:=by rw[←Y];exact vI (uO _ _) V
 refine zB (xq 1 [(16,.v (.pointer (some ⟨g,0,none⟩)))] [] ?_)
 refine wQ 85 [.pointer (some ⟨g,0,none⟩),.int .i64 41] (d:=17) (fun x:{q:Nat × Nat // (q.1:Int)<41∧q.2≤l}=>.int .i64 ((x.1.1:Nat):Int)) (fun x=>#[.slice A l c,.int .i64 ((x.1.2:Nat):Int)]) (fun _ _=>True) (fun _=>True) (fun w Q=>Q.1.2) (vK _) (Or.inr rfl) (fun w R Q=>yM ZdJ (Zbk g A l c j0 G 41 _ (Q.1.2) (by omega) (K.next R N) L M (by omega) (by omega))) (fun _ _ _ _=>trivial) fun u=>?_
 obtain⟨⟨s,z⟩,Z,a0⟩:=u
 dsimp only at Z a0
 refine xr 1 [(0,.v (.pointer (some ⟨g,0,none⟩))),(2,.p 2 0),yJ 3 (F:Int),yJ 18 (IntKind.i64.wrap ((s:Int)-20))] [yG 2 24 ⟨#[]⟩ 0] ?_
 rw[yW ((s:Int)-20) ((s:Int)-20) (by omega)]
 refine xq 1 [yJ 4 ((s:Int)-20)] [] ?_
 refine xe (zA (zC (zC (zB (xq 2 [yB 20 (((F:Int):Int) == 0)] [] ?_)))))
 refine xe (zA ?_)
 refine yQ ((((F:Int):Int) == 0)) (fun B=>?_) fun B=>?_
 ·have H:=tA.1 B
  have b0:blen F≤40:=wT.2 (by omega)
  refine zC (zB (xq 2 [] [yG 2 24 ⟨#[48]⟩ 0] ?_))
  refine xe (zA (zF (zE ?_)))
  refine yR (yS ⟨#[48]⟩ 0) fun w' R Q=>?_
  exact⟨0,0,z,by rw[ZdA],⟨⟨Or.inl ⟨rfl,rfl⟩,by decide,by decide,by decide⟩,by omega⟩,R,Q.1.2⟩
 have H:=lB B
 have b0:blen F≤40:=wT.2 (by omega)
 refine zK (zA (zC (xH ?_)))
 refine yC [(0,.v (.pointer (some ⟨g,0,none⟩))),(2,.p 2 0),yJ 3 (F:Int),yJ 4 (((s:Int)-20))] [yG 2 24 ⟨#[]⟩ 0] (fun w=>TB w g A l c z) (fun w Q=>Q.1.2) ?_
 refine lW (fun nn ss ff=>∃ (m:Nat) (x:Int),ss=ofL [(0,.v (.pointer (some ⟨g,0,none⟩))),(2,.p 2 0),yJ 3 (m:Int),yJ 4 x] [yG 2 24 ⟨#[]⟩ 0]∧ff=(fun w=>TB w g A l c z)∧(0<m)∧(m<1099511627776)∧(-20≤x)∧(x+(blen m:Int)≤60)∧nn=(1+m)) ((1+F)) ⟨F,(((s:Int)-20)),rfl,rfl,(by omega),(by omega),(by omega),(by omega),rfl⟩ ?_
 rintro nn ss ff ⟨m,x,rfl,rfl,B0,C0,D0,E0,rfl⟩
 refine zC (zC (zB (xq 2 [yJ 23 (((m:Int)).tmod 2)] [] ?_)))
 rw[show ((m:Int)).tmod 2=((m%2:Nat):Int) from tdr (m) 2]
 refine xq 1 [yB 24 ((((m%2:Nat):Int):Int) == 0)] [] ?_
 refine xe (zA ?_)
 refine yQ (((((m%2:Nat):Int):Int) == 0)) (fun C=>?_) fun C=>?_
 ·have I:=tA.1 C
  refine zK (zA (xH (zC (zB (xq 2 [(26,.v (.int .i64 (IntKind.i64.wrap (((m:Int)).tdiv 2))))] [] ?_)))))
  rw[show IntKind.i64.wrap ((((m:Int)).tdiv 2))=((m/2:Nat):Int) from tdq (m) 2 (by omega)]
  refine xq 1 [yJ 3 ((m/2:Nat):Int)] [] ?_
  refine xe (zA (zB (xq 2 [yJ 28 (IntKind.i64.wrap (x+1))] [] ?_)))
  rw[yW (x+1) (x+1) (by omega)]
  refine xq 1 [yJ 4 (x+1)] [] ?_
  refine xe (wX ?_)
  refine yP [(0,.v (.pointer (some ⟨g,0,none⟩))),(2,.p 2 0),yJ 3 (((m/2):Nat):Int),yJ 4 ((x+1))] [yG 2 24 ⟨#[]⟩ 0] (fun w=>TB w g A l c z) (fun w Q=>Q) ?_
  exact wG ((1+(m/2))) (by omega) ⟨(m/2),((x+1)),rfl,rfl,(by omega),(by omega),(by omega),(by have:=ZaA (show 0<m by omega);omega),rfl⟩
 have I:=lB C
 refine lG (zW (zW (lV (zA (zC (zC (zB (xq 1 [(29,.v (.pointer (some ⟨g,0,none⟩)))] [] ?_))))))))
 refine wQ 85 [.pointer (some ⟨g,0,none⟩),.int .i64 2] (d:=30) (fun x:{q:Nat × Nat // (q.1:Int)<2∧q.2≤l}=>.int .i64 ((x.1.1:Nat):Int)) (fun x=>#[.slice A l c,.int .i64 ((x.1.2:Nat):Int)]) (fun _ _=>True) (fun _=>True) (fun w Q=>Q) (vK _) (Or.inr rfl) (fun w R Q=>yM ZdJ (Zbk g A l c z G 2 _ (Q) (by omega) (K.next R N) L M (by omega) (by omega))) (fun _ _ _ _=>trivial) fun u=>?_
 obtain⟨⟨c0,d0⟩,e0,f0⟩:=u
 dsimp only at e0 f0
 refine xr 1 [(2,.p 2 0),yJ 3 (m:Int),yJ 4 x,yB 31 (((c0:Int):Int) == 1)] [yG 2 24 ⟨#[]⟩ 0] ?_
 refine xe (zA ?_)
 refine yQ ((((c0:Int):Int) == 1)) (fun D=>?_) fun D=>?_
 ·have J:=tA.1 D
  refine zB (xq 2 [(33,.v (.int .i64 (IntKind.i64.wrap (0-((m:Int))))))] [] ?_)
  rw[show IntKind.i64.wrap (0-(m:Int)) = -(m:Int) by rw[IntKind.wrap_i64];omega]
  refine xq 1 [yJ 3 (-(m:Int))] [] ?_
  refine xe (zA (zC (zB (xq 1 [yJ 34 (-(m:Int))] [] ?_))))
  refine xqc 30 [.int .i64 (-(m:Int))] 35 cL _ (fun w R Q=>yM Zdn (ZkC (-(m:Int)) _ (by omega) (by omega))) fun⟨k0,l0,m0,n0,o0,p0,q0,r0⟩=>?_
  refine xqc 31 [vR4 k0 l0 m0 n0 o0 p0 q0 r0] 36 (fun _:Unit=>.string ⟨(Lib.itoa (-(m:Int))).toArray⟩) _ (fun w R Q=>(ZdD _ _ _ Q.2 (by show ml (Int.natAbs (-(m:Int)))≤65536;exact uA (Zee (k:=2) (by have:=wT.2 (show (Int.natAbs (-(m:Int)))<2^40 by omega);omega)) (by decide)) ZdH).mono (fun _ _ h=>zG h (by rw[Zgs]))) fun u=>?_
  refine xq 3 [] [yG 2 24 ⟨(Lib.itoa (-(m:Int))).toArray⟩ x] ?_
  refine xe (zA (zF ?_))
  refine yR (yS ⟨(Lib.itoa (-(m:Int))).toArray⟩ x) fun w' R Q=>?_
  exact⟨(-(m:Int)),x,d0,rfl,⟨⟨Or.inr (by omega),by omega,by omega,by omega⟩,by omega⟩,R,Q.1.1.1.2⟩
 have J:=lB D
 refine zK (zA (zC (zB (xq 1 [yJ 34 (m:Int)] [] ?_))))
 refine xqc 30 [.int .i64 (m:Int)] 35 cL _ (fun w R Q=>yM Zdn (ZkC (m:Int) _ (by omega) (by omega))) fun⟨s0,t0,u0,v0,w0,x0,y0,z0⟩=>?_
 refine xqc 31 [vR4 s0 t0 u0 v0 w0 x0 y0 z0] 36 (fun _:Unit=>.string ⟨(Lib.itoa (m:Int)).toArray⟩) _ (fun w R Q=>(ZdD _ _ _ Q.2 (by show ml (Int.natAbs (m:Int))≤65536;exact uA (Zee (k:=2) (by have:=wT.2 (show (Int.natAbs (m:Int))<2^40 by omega);omega)) (by decide)) ZdH).mono (fun _ _ h=>zG h (by rw[Zgs]))) fun u=>?_
 refine xq 3 [] [yG 2 24 ⟨(Lib.itoa (m:Int)).toArray⟩ x] ?_
 refine xe (zA (zF ?_))
 refine yR (yS ⟨(Lib.itoa (m:Int)).toArray⟩ x) fun w' R Q=>?_
 exact⟨(m:Int),x,d0,rfl,⟨⟨Or.inr (by omega),by omega,by omega,by omega⟩,by omega⟩,R,Q.1.1.1.2⟩
theorem ZdK {w w':World}{g:Nat}{bits:Int}{r:FR}{e:Ending}(h:RetC w g bits r e w'):∃ y:ShI,e=.returned (shF r.e y)∧Fr (fun i=>i=g) w w'∧Blk 84 w' g [Value.int .i64 bits,.int .i64 r.err].toArray∧(∀ c,c ∈ [Value.int .i64 bits,.int .i64 r.err]→jZ (.v c)=true)∧BoxN w w' (fun w=>zI w (zZ y) (sg r.s r.m)):=by
 obtain⟨y,b,d,f,j⟩:=jR h
 refine⟨y,b,d,f,fun c a=>?_,j⟩
 simp at a
 rcases a with rfl|rfl<;>rfl
theorem ZkD {s:Bool}{n k:Nat}{e:Int}(h:ml n≤k):ml (wV s n e).m≤k:=by
 unfold wV
 split
 ·exact xX.2 (uV zU)
 split
 ·exact uA (wK (uO _ _)) h
 exact xX.2 (uV zU)
theorem Zp0 {n d bits:Nat}(b:0<n)(c:0<d)(e:0<bits):rndM n d bits≤2^bits:=by
 have f:=ZaD b c e
 have g:=(Zd6 (fa n (rndK n d bits)) (fb d (rndK n d bits))).2
 have a:=iF (fq n d (rndK n d bits))
 rw[f] at a
 unfold rndM
 unfold fq at a
 omega
theorem Zce {s:Bool}{n d bits:Nat}{e:Int}(a:0<d)(b:0<bits)(c:bits≤4096):ml (xK s n d e bits).m≤129:=by
 unfold xK
 split
 ·exact xX.2 (uV zU)
 exact ZkD (uA (wK (Zp0 (by omega) a b)) (Zna (by omega)))
theorem ZdL {r:FR}(h:r.err=0):frT r=Lib.itoa (sg r.s r.m):=uP h
theorem ZdM {r:FR}(h:r.err=0):frE r=r.e:=uP h
theorem ZdN {r:FR}(h:r.err≠0):frT r=[]:=uN h
theorem ZdO {r:FR}(h:r.err≠0):frE r=0:=uN h
theorem kJ (b:Int)(w:World) :
 yA 58 #[.int .i64 b] w (RetV w (.bool (decide (8≤b∧b≤1024)))):=by
 refine zX (Φ:=fun w=>True) Tryz.func58 rfl (by kernel_rfl) (fun w' d=>trivial) ?_
 refine zC (zB (xq 1 [yB 2 false] [] ?_))
 refine xe (zA (zC (zB (xq 3 [yB 5 (decide (b≥8))] [] ?_))))
 rcases bl2 ((decide (b≥8))) with a|a
 ·rw[a]
  have c:=uC a
  refine xq 4 [yB 2 (decide (b≤1024))] [] ?_
  refine xe (zA (zF ?_))
  refine yR (.bool (decide (b≤1024))) fun w' R Q=>?_
  exact⟨vG (fun b=>Ending.returned (Value.bool b)) (rP.2 ⟨fun h=>⟨by omega,h⟩,fun h=>h.2⟩),R⟩
 rw[a]
 have c:=uD a
 refine xq 4 [yB 2 false] [] ?_
 refine xe (zA (zF ?_))
 refine yR (.bool false) fun w' R Q=>?_
 exact⟨by rw[uJ (p:=8≤b∧b≤1024) (by omega)],R⟩
theorem Znv (s:Bool)(m i:Nat):sg s m*2^i=sg s (m*2^i):=by
 unfold sg
 split
 ·rw[tD,vT,Int.neg_mul];rfl
 rw[tD,vT];rfl
theorem Znw (s:Bool)(A:Option Addr)(l c x:Nat)(e:Int)(w:World)(f:zJ w (.slice A l c) x)(d:0<x) :
 yA 120 #[yV s A l c e] w (RetV w (yV (!s) A l c e)):=by
 refine zX (Φ:=fun w=>zJ w (.slice A l c) (x)) Tryz.func120 rfl (by kernel_rfl) (fun w' g=>f.ext g) ?_
 refine zC ?_
 have h:=f.len0
 have i:=Zc5 d
 refine zB (xq 2 [(1,.p 1 0),(2,.p 2 0)] [yF 2 79 false none 0 0 0,yF 1 79 s A l c e] ?_)
 refine xe (zA (zC (zC (zB (xq 4 [yB 6 (decide ((l:Int)>0))] [] ?_)))))
 refine xe (zA ?_)
 refine yQ ((decide ((l:Int)>0))) (fun a=>?_) fun a=>?_
 ·have b:=uC a
  refine zB (xq 5 [] [yF 1 79 (!s) A l c e] ?_)
  refine xe (zA (zC (zB (xq 2 [] [yF 2 79 (!s) A l c e] ?_))))
  refine xe (zA (zF ?_))
  refine yR (yV (!s) A l c e) fun w' R Q=>?_
  exact⟨rfl,R⟩
 have b:=uD a
 refine zK (zA (zC (zB (xq 2 [] [yF 2 79 s A l c e] ?_))))
 refine xe (zA (zF ?_))
 refine yR (yV s A l c e) fun w' R Q=>?_
 exfalso;omega
theorem ZiZ {n k:Nat}(h:wl n≤k):wl (isq n)≤k:=uA (wW (by
 have:=(eI n).1
 rcases uH (isq n) with e|e
 ·omega
 exact uA (Nat.le_mul_of_pos_left _ e) this)) h
theorem Zq4:isq 0=0:=Zim (by decide) (by decide)
theorem nxw {n r:Nat}(a:wl r≤200001)(b:wl n≤200000):wl (r+n/r)≤200002:=Ze9 a (uA (wW (uO _ _)) (by omega))
def fR (s:Bool) (m:Nat) (e:Int) (bits:Nat):FR:=if s=true then ⟨false,0,0,3⟩ else if m=0 then ⟨false,0,0,0⟩ else fH m e bits
def aO (a:FR) (bits:Nat):FR:=fR a.s a.m a.e bits
def iP (a b:FR) (bits:Nat):FR:=sumR a.s a.m a.e (if b.m=0 then b.s else !b.s) b.m b.e bits
def sqF (l:List UInt8) (x b:Int):FR:=if fvB l x=true then (if 8≤b∧b≤1024 then aO (ldR l x) b.toNat else ⟨false,0,0,3⟩) else ⟨false,0,0,1⟩
theorem Zp1 {a b:Nat}(h:¬ a=b):(cmpI ((a:Nat):Int) ((b:Nat):Int) != 0)=true:=by
 rw[bne_iff_ne]
 rcases qC h with c|c
 ·rw[iD (by omega)];decide
 rw[gO (by omega)];decide
theorem Zp2 {a b:Nat}(h:a=b):(cmpI ((a:Nat):Int) ((b:Nat):Int) != 0)=false:=by subst h;rw[Zbl];rfl
theorem ZkE {m:Nat}{s:Int}{j:Nat}(h:s = -(j:Int)):fq m 1 (-s)=m/2^j:=by
 subst h
 unfold fq fa fb
 rw[show (- -(-(j:Int))).toNat=0 by omega,show (- -(j:Int)).toNat=j by omega];simp
theorem Zgu {Y k:Nat}(h:blen Y≤64*k):wl Y≤k:=kP.2 (by rw[show W64=2^64 by rw[zO],← sS];exact wT.1 h)
theorem ZqO {l:List UInt8}{x:Int}:(ldR l x).m=0∨(ldR l x).m%2=1:=by
 unfold ldR
 split
 ·rename_i h
  have a:=(Zke h).2
  have b:(flM l).natAbs=zL (xA l).2:=by unfold flM sg;split<;>omega
  rcases a with ⟨a,_⟩|⟨a,_⟩
  ·left;show zL (xA l).2=0;omega
  right;show zL (xA l).2%2=1;omega
 exact Or.inl rfl
theorem Zi0 (r:Nat)(b:Bool):iA r 0 b≤r+1:=by
 unfold iA
 have:r/2^(0+1)≤r:=uO _ _
 split<;>omega
theorem ZoV (a:Int):a.tmod 2=0↔a%2=0:=by rw[←Int.dvd_iff_tmod_eq_zero,Int.dvd_iff_emod_eq_zero]
theorem ZhG {a:Int}(h:a%2=0):a.tdiv 2=a/2:=by
 obtain⟨k,b⟩:∃ k,a=2*k:=⟨a/2,by omega⟩
 subst b
 rw[Int.mul_tdiv_cancel_left _ (by decide),Int.mul_ediv_cancel_left _ (by decide)]
theorem ZbN (A:Option Addr)(l c n:Nat)(w:World)(U:zJ w (.slice A l c) n)(F:wl n≤200000) :
 yA 129 #[.slice A l c] w (lC w (isq n)):=by
 refine zX (Φ:=fun w=>zJ w (.slice A l c) (n)) Tryz.func129 rfl (by kernel_rfl) (fun w' Y=>U.ext Y) ?_
 refine zC ?_
 have Z:=U.len0
 have a0:=@jA n
 have I:=fY n
 obtain⟨J,K⟩:=eI n
 refine zB (xq 1 [eS1 2 none 0 0] [] ?_)
 refine xe (zA (zC (zC (zB (xq 3 [yB 9 (((l:Int):Int) == 0)] [] ?_)))))
 refine xe (zA ?_)
 refine yQ ((((l:Int):Int) == 0)) (fun h=>?_) fun h=>?_
 ·have y:=tA.1 h
  have H:n=0:=by omega
  refine zC (zB (xq 1 [eS1 2 none 0 0] [] ?_))
  refine xe (zA (zF (zE ?_)))
  refine yR (.slice none 0 0) fun w' R Q=>?_
  exact⟨_,rfl,by rw[H,Zq4];exact zJ.zero _,R⟩
 have y:=lB h
 have H:¬ n=0:=by omega
 refine zK (zA (zC (zB ?_)))
 refine yD (d:=10) (fun L:Nat=>.slice (some ⟨L,0,none⟩) 1 1) (fun L zw=>Blk 94 zw L #[.int .u64 1]) (fun w R Q=>xZ (t:=77) (e:=94) (n:=1) (sz:=1) (z:=.int .u64 0) (parts:=#[(0,Operand.const (Value.int IntKind.u64 1))]) (by kernel_rfl) (by kernel_rfl) (by kernel_rfl) (by kernel_rfl) (by kernel_rfl) (by kernel_rfl)) fun G=>?_
 refine xr 1 [eS1 0 A l c,eS1 2 none 0 0,eS1 10 (some ⟨G,0,none⟩) 1 1,eS1 11 A l c] [] ?_
 refine xqc 65 [.slice A l c] 12 (fun _:Unit=>.int .i64 ((blen n:Nat):Int)) _ (fun w R Q=>yN (kL Q.1 (uA F (by decide)))) fun M=>?_
 refine xq 1 [yJ 13 (IntKind.i64.wrap (((blen n:Nat):Int)+1))] [] ?_
 rw[yW (((blen n:Nat):Int)+1) (((blen n+1:Nat):Int)) (by omega)]
 refine xq 1 [(14,.v (.int .i64 (IntKind.i64.wrap ((((blen n+1:Nat):Int)).tdiv 2))))] [] ?_
 rw[show IntKind.i64.wrap ((((blen n+1:Nat):Int)).tdiv 2)=(((blen n+1)/2:Nat):Int) from tdq _ 2 (by omega)]
 refine xqc 66 [.slice (some ⟨G,0,none⟩) 1 1,.int .i64 (((blen n+1)/2:Nat):Int)] 15 xJ _ (fun w R Q=>yM xE (gR ((blen n+1)/2) (fZ Q.1.2) wl_1 (by omega))) fun⟨q,s,u⟩=>?_
 refine xq 1 [eS1 3 q s u] [] ?_
 refine xe (zA (xH ?_))
 refine yC [eS1 0 A l c,eS1 2 none 0 0,eS1 3 q s u] [] (fun w=>(zJ w (.slice A l c) (n)∧zJ w (.slice q s u) ((1*2^((blen n+1)/2))))) (fun w Q=>⟨Q.1.1.1,Q.2⟩) ?_
 refine lW (fun V W X=>∃ (i:Option Addr) (j k r:Nat),W=ofL [eS1 0 A l c,eS1 2 none 0 0,eS1 3 i j k] []∧X=(fun w=>(zJ w (.slice A l c) (n)∧zJ w (.slice i j k) (r)))∧(n<(r+1)*(r+1))∧(0<r)∧(wl r≤200001)∧V=(1+r)) ((1+(1*2^((blen n+1)/2)))) ⟨q,s,u,(1*2^((blen n+1)/2)),rfl,rfl,(ZcN (iF n)).1,(ZcN (iF n)).2,(uA (Zq1 (m:=wl n) I) (by omega)),rfl⟩ ?_
 rintro V W X ⟨i,j,k,r,rfl,rfl,N,B,o,rfl⟩
 refine xH (zC (zB (xq 2 [eS1 17 A l c,eS1 18 i j k] [] ?_)))
 refine xqc 142 [.slice A l c,.slice i j k] 19 (fun x:ShN×ShN=>.tuple #[xJ x.1,xJ x.2]) _ (fun w R Q=>yM Znd (ZgX Q.1 Q.2 (uA F (by decide)) (uA o (by decide)) B)) fun M=>?_
 obtain⟨⟨C,D,E⟩,⟨b0,c0,d0⟩⟩:=M
 refine xq 5 [eS1 4 C D E] [] ?_
 refine xe (zA (zC (zB (xq 2 [eS1 22 i j k,eS1 23 C D E] [] ?_))))
 refine xqc 126 [.slice i j k,.slice C D E] 24 xJ _ (fun w R Q=>yM xE (jX Q.1.2 Q.2.1 (uA o (by decide)) (uA (wW (uO n r)) (uA F (by decide))))) fun⟨O,P,S⟩=>?_
 refine xqc 128 [.slice O P S,.int .i64 1] 25 xJ _ (fun w R Q=>yM xE (gN 1 Q.2 (uA (nxw o F) (by decide)) (by decide))) fun⟨a,b,f⟩=>?_
 refine xq 1 [eS1 6 a b f] [] ?_
 refine xe (zA (zC (zC (zB (xq 2 [eS1 26 a b f,eS1 27 i j k] [] ?_)))))
 refine xqc 122 [.slice a b f,.slice i j k] 28 (fun _:Unit=>.int .i64 (cmpI (((r+n/r)/2^1:Nat):Int) (r:Int))) _ (fun w R Q=>yN (fX Q.2 Q.1.1.1.2 (uA (wW (uO _ _)) (uA (nxw o F) (by decide))))) fun M=>?_
 refine xq 1 [(29,.v (.bool (decide ((cmpI (((r+n/r)/2^1:Nat):Int) (r:Int))≥0))))] [] ?_
 refine xe (zA ?_)
 refine yQ ((decide ((cmpI (((r+n/r)/2^1:Nat):Int) (r:Int))≥0))) (fun p=>?_) fun p=>?_
 ·have g:=uC p
  have T:=@ZaZ ((r+n/r)/2^1) r |>.1 g
  refine zC (zB (xq 2 [eS1 2 i j k] [] ?_))
  refine xe (zA (zF (zE (lA (zE (lA ?_))))))
  refine yR (.slice i j k) fun w' R Q=>?_
  exact⟨_,rfl,by rw[←Znc (r0:=isq n) (by omega) N J K];exact Q.1.1.1.1.2,R⟩
 have g:=uD p
 have T:=mt (@ZaZ ((r+n/r)/2^1) r).2 g
 refine zK (zA (zB (xq 2 [eS1 3 a b f] [] ?_)))
 refine xe (wX ?_)
 refine yP [eS1 0 A l c,eS1 2 none 0 0,eS1 3 a b f] [] (fun w=>(zJ w (.slice A l c) (n)∧zJ w (.slice a b f) (((r+n/r)/2^1)))) (fun w Q=>⟨Q.1.1.1.1.1,Q.1.2⟩) ?_
 exact wG ((1+((r+n/r)/2^1))) (by omega) ⟨a,b,f,((r+n/r)/2^1),rfl,rfl,(Zeb B (sQ H)).1,(Zeb B (sQ H)).2,(uA (wW (by omega)) o),rfl⟩
theorem ZlG (Q R T:Nat)(a:Int)(A:Option Addr)(l c r:Nat)(B:Option Addr)(m d n:Nat)(w:World)(u:Blk 3 w Q #[.int .i64 a])(y:Blk 77 w R #[.slice A l c])(z:Blk 77 w T #[.slice B m d])(C:zJ w (.slice A l c) r)(D:zJ w (.slice B m d) n)(E:wl r≤1000000) :
 yA 130 #[.pointer (some ⟨Q,0,none⟩),.pointer (some ⟨R,0,none⟩),.pointer (some ⟨T,0,none⟩)] w (RetV w (.bool (decide (a<0∨r*r≠n)))):=by
 refine zX (Φ:=fun w=>((((Blk 3 w Q #[.int .i64 a]∧Blk 77 w R #[.slice A l c])∧Blk 77 w T #[.slice B m d])∧zJ w (.slice A l c) (r))∧zJ w (.slice B m d) (n))) Tryz.func130 rfl (by kernel_rfl) (fun w' f=>⟨⟨⟨⟨u.ext f,y.ext f⟩,z.ext f⟩,C.ext f⟩,D.ext f⟩) ?_
 refine zC (zB (xq 1 [yB 3 false] [] ?_))
 refine xe (zA (zC ?_))
 by_cases b:a<0
 ·refine yO 11 zM ?_
  refine xqj 4 (.int .i64 a) (fun w S=>lP (t:=3) (x:=.tmp 0) (g:=Q) (off:=0) (Blk.cell (S.1.1.1.1) 0)) ?_
  refine xqg 1 [yB 5 (decide (a<0))] ?_
  rw[show decide (a<0)=true from uQ b]
  refine xqg 9 [yB 3 true] ?_
  refine xz (xe (zA (zF ?_)))
  refine yR (.bool true) fun w' U S=>?_
  exact⟨by rw[uQ (p:=a<0∨r*r≠n) (Or.inl b)],U⟩
 by_cases e:r*r=n
 ·refine yO 11 zM ?_
  refine xqj 4 (.int .i64 a) (fun w S=>lP (t:=3) (x:=.tmp 0) (g:=Q) (off:=0) (Blk.cell (S.1.1.1.1) 0)) ?_
  refine xqg 1 [yB 5 (decide (a<0))] ?_
  rw[show decide (a<0)=false from uJ b]
  refine xqg 1 [yB 6 false] ?_
  refine xqj 7 (.slice A l c) (fun w S=>lP (t:=77) (x:=.tmp 1) (g:=R) (off:=0) (Blk.cell (S.1.1.1.2) 0)) ?_
  refine xqj 8 (.slice A l c) (fun w S=>lP (t:=77) (x:=.tmp 1) (g:=R) (off:=0) (Blk.cell (S.1.1.1.2) 0)) ?_
  refine xqd 124 [.slice A l c,.slice A l c] 9 xJ _ (fun w U S=>(Zcz S.1.2 S.1.2 (by omega) (by omega)).mono (fun _ _=>xE)) fun⟨i,j,k⟩=>?_
  refine xqj 10 (.slice B m d) (fun w S=>lP (t:=77) (x:=.tmp 2) (g:=T) (off:=0) (Blk.cell (S.1.1.2) 0)) ?_
  refine xqd 122 [.slice i j k,.slice B m d] 11 (fun _:Unit=>.int .i64 (cmpI ((r*r:Nat):Int) (n:Int))) _ (fun w U S=>(fX S.2 S.1.2 (uA (ZbU _ _) (by omega))).mono (fun _ _ h=>zG h rfl)) fun F=>?_
  refine xqg 1 [(12,.v (.bool (((cmpI ((r*r:Nat):Int) (n:Int)):Int) != 0)))] ?_
  rw[Zp2 e]
  refine xqg 2 [yB 3 false] ?_
  refine xz (xe (zA (zF ?_)))
  refine yR (.bool false) fun w' U S=>?_
  exact⟨by rw[uJ (p:=a<0∨r*r≠n) (by rintro (h|h);exact b h;exact h e)],U⟩
 refine yO 11 zM ?_
 refine xqj 4 (.int .i64 a) (fun w S=>lP (t:=3) (x:=.tmp 0) (g:=Q) (off:=0) (Blk.cell (S.1.1.1.1) 0)) ?_
 refine xqg 1 [yB 5 (decide (a<0))] ?_
 rw[show decide (a<0)=false from uJ b]
 refine xqg 1 [yB 6 false] ?_
 refine xqj 7 (.slice A l c) (fun w S=>lP (t:=77) (x:=.tmp 1) (g:=R) (off:=0) (Blk.cell (S.1.1.1.2) 0)) ?_
 refine xqj 8 (.slice A l c) (fun w S=>lP (t:=77) (x:=.tmp 1) (g:=R) (off:=0) (Blk.cell (S.1.1.1.2) 0)) ?_
 refine xqd 124 [.slice A l c,.slice A l c] 9 xJ _ (fun w U S=>(Zcz S.1.2 S.1.2 (by omega) (by omega)).mono (fun _ _=>xE)) fun⟨o,q,s⟩=>?_
 refine xqj 10 (.slice B m d) (fun w S=>lP (t:=77) (x:=.tmp 2) (g:=T) (off:=0) (Blk.cell (S.1.1.2) 0)) ?_
 refine xqd 122 [.slice o q s,.slice B m d] 11 (fun _:Unit=>.int .i64 (cmpI ((r*r:Nat):Int) (n:Int))) _ (fun w U S=>(fX S.2 S.1.2 (uA (ZbU _ _) (by omega))).mono (fun _ _ h=>zG h rfl)) fun F=>?_
 refine xqg 1 [(12,.v (.bool (((cmpI ((r*r:Nat):Int) (n:Int)):Int) != 0)))] ?_
 rw[Zp1 e]
 refine xqg 2 [yB 3 true] ?_
 refine xz (xe (zA (zF ?_)))
 refine yR (.bool true) fun w' U S=>?_
 exact⟨by rw[uQ (p:=a<0∨r*r≠n) (Or.inr e)],U⟩
theorem ZaS (s:Bool)(A:Option Addr)(l c n:Nat)(e:Int)(bits:Nat)(Q R T:Nat)(sh:Int)(A1:Option Addr)(l1 c1 r:Nat)(B:Option Addr)(m d n1:Nat)(w:World)(hg:Glob w)(hN:zJ w (.slice A l c) n)(H:wl n≤4294967296)(G0 : -576460752303423488≤e)(H0:e≤576460752303423488)(hb:bits≤4294967296)(hQ:Blk 3 w Q #[.int .i64 sh])(hR:Blk 77 w R #[.slice A1 l1 c1])(hT:Blk 77 w T #[.slice B m d])(hA:zJ w (.slice A1 l1 c1) r)(hB:zJ w (.slice B m d) n1)(F0:wl r≤1000000) :
 yA 123 #[.bool s,.slice A l c,.int .i64 e,.int .i64 ((bits:Nat):Int),.func (.func 130) #[] #[.pointer (some ⟨Q,0,none⟩),.pointer (some ⟨R,0,none⟩),.pointer (some ⟨T,0,none⟩)]] w (xY w (lI s n e bits (decide (sh<0∨r*r≠n1)))):=by
 refine zX (Φ:=fun w=>((Glob w∧zJ w (.slice A l c) (n))∧(((((Blk 3 w Q #[.int .i64 sh]∧Blk 77 w R #[.slice A1 l1 c1])∧Blk 77 w T #[.slice B m d])∧zJ w (.slice A1 l1 c1) r)∧zJ w (.slice B m d) n1)))) Tryz.func123 rfl (by kernel_rfl) (fun w' O=>⟨⟨hg.ext O,hN.ext O⟩,⟨⟨⟨⟨hQ.ext O,hR.ext O⟩,hT.ext O⟩,hA.ext O⟩,hB.ext O⟩⟩) ?_
 refine zC ?_
 have I0:=ZfM H
 by_cases I:blen n≤bits
 ·obtain⟨k,hk⟩:∃ k,bits=blen n+k:=⟨bits-blen n,by omega⟩
  refine zB (xq 2 [(10,.p 10 0),yJ 11 0] [yF 10 79 false none 0 0 0] ?_)
  refine xe (zA (zC (zB (xq 1 [eS1 14 A l c] [] ?_))))
  refine xqc 65 [.slice A l c] 15 (fun _:Unit=>.int .i64 ((blen n:Nat):Int)) _ (fun w U S=>(kL S.1.2 H).mono (fun _ _ h=>zG h rfl)) fun xx=>?_
  refine xq 2 [yJ 17 (IntKind.i64.wrap (((blen n:Nat):Int)-(bits:Int)))] [] ?_
  rw[show IntKind.i64.wrap (((blen n:Nat):Int)-(bits:Int)) = -(k:Int) by rw[IntKind.wrap_i64];omega]
  refine xq 1 [yJ 12 (-(k:Int))] [] ?_
  refine xe (zA (zC (zC (zB (xq 2 [(19,.v (.bool (decide ((-(k:Int))≤0))))] [] ?_)))))
  rw[show decide (-(k:Int)≤0)=true from uQ (by omega)]
  refine xe (zA (xa (zC (zB (xq 3 [yB 20 s,eS1 21 A l c,yJ 22 e] [] ?_)))))
  obtain⟨g,J⟩:=yE (wV s (n) (e))
  refine xqc 118 [.bool s,.slice A l c,.int .i64 e] 23 (shNb g) _ (fun w U S=>((show Calls _ _ _ _ (xY w g) by rw[←J];exact kM s _ _ _ _ _ _ S.1.1.1 S.1.1.2 H (by omega) (by omega))).mono (fun _ _=>xU)) fun⟨P,V,W⟩=>?_
  refine xq 4 [yJ 11 g.err] [yF 10 79 g.s P V W g.e] ?_
  refine xe (zA (zF (zE ?_)))
  refine yR (.tuple #[yV g.s P V W g.e,.int .i64 g.err]) fun w' U S=>?_
  rw[ZcA I,J]
  exact⟨(P,V,W),rfl,S.2,U⟩
 obtain⟨j,hj⟩:∃ j,blen n=bits+(j+1):=⟨blen n-bits-1,by omega⟩
 have X:0<n:=sQ (fun e=>by rw[e,fG] at I;omega)
 have E:wl (n/2^(j+1))≤4294967296:=uA (wW (uO _ _)) H
 have Y:wl (n/2^(j+1)+1)≤4294967296:=uA (wW (qH X (Nat.one_lt_two_pow (by omega)))) H
 obtain⟨b1,Z⟩:=yE (decide (n/2^j%2=1))
 obtain⟨b2,a0⟩:=yE (decide (n/2^(j+1)/2^0%2=1))
 obtain⟨b3,b0⟩:=yE (decide (sh<0∨r*r≠n1))
 refine zB (xq 2 [(10,.p 10 0),yJ 11 0] [yF 10 79 false none 0 0 0] ?_)
 refine xe (zA (zC (zB (xq 1 [eS1 14 A l c] [] ?_))))
 refine xqc 65 [.slice A l c] 15 (fun _:Unit=>.int .i64 ((blen n:Nat):Int)) _ (fun w U S=>(kL S.1.2 H).mono (fun _ _ h=>zG h rfl)) fun xx=>?_
 refine xq 2 [yJ 17 (IntKind.i64.wrap (((blen n:Nat):Int)-(bits:Int)))] [] ?_
 rw[yW (((blen n:Nat):Int)-(bits:Int)) (((j+1:Nat):Int)) (by omega)]
 refine xq 1 [yJ 12 ((j+1:Nat):Int)] [] ?_
 refine xe (zA (zC (zC (zB (xq 2 [yB 19 (decide (((j+1:Nat):Int)≤0))] [] ?_)))))
 rw[show decide (((j+1:Nat):Int)≤0)=false from uJ (by omega)]
 refine xe (zA (xb (zK (zA (zC (zB (xq 2 [eS1 26 A l c,yJ 27 ((j+1:Nat):Int)] [] ?_)))))))
 refine xqc 128 [.slice A l c,.int .i64 ((j+1:Nat):Int)] 28 xJ _ (fun w U S=>(gN (j+1) S.1.1.2 H (by omega)).mono (fun _ _=>xE)) fun⟨a,b,f⟩=>?_
 refine xq 1 [eS1 13 a b f] [] ?_
 refine xe (zA (zC (zC (zB (xq 3 [eS1 29 A l c,yJ 31 (IntKind.i64.wrap (((j+1:Nat):Int)-1))] [] ?_)))))
 rw[yW (((j+1:Nat):Int)-1) ((j:Int)) (by omega)]
 refine xqc 158 [.slice A l c,.int .i64 (j:Int)] 32 (fun _:Unit=>.bool b1) _ (fun w U S=>((show Calls _ _ _ _ (RetV w (.bool b1)) by rw[←Z];exact Zab (j) S.1.1.1.2 (by omega))).mono (fun _ _ h=>zG h rfl)) fun xx=>?_
 refine xq 1 [yB 33 b1] [] ?_
 rcases bl2 (b1) with i|i
 ·rw[i]
  have k1:=uC (Z.trans i)
  refine xq 1 [eS1 34 A l c] [] ?_
  refine xqc 157 [.slice A l c] 35 (fun _:Unit=>.int .i64 ((tzn n:Nat):Int)) _ (fun w U S=>(ZaN S.1.1.1.1.1 S.1.1.1.1.2 H X).mono (fun _ _ h=>zG h rfl)) fun xx=>?_
  refine xq 2 [yJ 37 (IntKind.i64.wrap (((j+1:Nat):Int)-1))] [] ?_
  rw[yW (((j+1:Nat):Int)-1) ((j:Int)) (by omega)]
  refine xq 2 [yB 39 (decide (((tzn n:Nat):Int)<(j:Int)))] [] ?_
  rcases bl2 ((decide (((tzn n:Nat):Int)<(j:Int)))) with o|o
  ·rw[o]
   have c0:=uC o
   have k4:tzn n<j:=by omega
   refine xr 8 [yB 0 s,yJ 2 e,(10,.p 10 0),yJ 11 0,yJ 12 ((j+1:Nat):Int),eS1 13 a b f,yB 47 true] [yF 10 79 false none 0 0 0] ?_
   refine xe (zA (xa (zB (xq 1 [eS1 48 a b f] [] ?_))))
   refine yD (d:=49) (fun F:Nat=>.slice (some ⟨F,0,none⟩) 1 1) (fun F zw=>Blk 94 zw F #[.int .u64 1]) (fun w U S=>xZ (t:=77) (e:=94) (n:=1) (sz:=1) (z:=.int .u64 0) (parts:=#[(0,Operand.const (Value.int IntKind.u64 1))]) (by kernel_rfl) (by kernel_rfl) (by kernel_rfl) (by kernel_rfl) (by kernel_rfl) (by kernel_rfl)) fun C0=>?_
   refine xr 0 [yB 0 s,yJ 2 e,(10,.p 10 0),yJ 11 0,yJ 12 ((j+1:Nat):Int),eS1 13 a b f,eS1 48 a b f,eS1 49 (some ⟨C0,0,none⟩) 1 1] [yF 10 79 false none 0 0 0] ?_
   refine xqc 126 [.slice a b f,.slice (some ⟨C0,0,none⟩) 1 1] 50 xJ _ (fun w U S=>(jX S.1.1.1.2 (fZ S.2) E wl_1).mono (fun _ _=>xE)) fun⟨d0,e0,f0⟩=>?_
   refine xq 1 [eS1 13 d0 e0 f0] [] ?_
   refine xe (zA (zC (zB (xq 5 [yB 51 s,eS1 52 d0 e0 f0,yJ 55 (IntKind.i64.wrap (e+((j+1:Nat):Int)))] [] ?_))))
   rw[yW (e+((j+1:Nat):Int)) (e+((j+1:Nat):Int)) (by omega)]
   obtain⟨q,K⟩:=yE (wV s (n/2^(j+1)+1) ((e+((j+1:Nat):Int))))
   refine xqc 118 [.bool s,.slice d0 e0 f0,.int .i64 (e+((j+1:Nat):Int))] 56 (shNb q) _ (fun w U S=>((show Calls _ _ _ _ (xY w q) by rw[←K];exact kM s _ _ _ _ _ _ S.1.1.1.1.1.1.1.1 S.2 Y (by omega) (by omega))).mono (fun _ _=>xU)) fun⟨g0,i0,j0⟩=>?_
   refine xq 4 [yJ 11 q.err] [yF 10 79 q.s g0 i0 j0 q.e] ?_
   refine xe (zA (zF ?_))
   refine yR (.tuple #[yV q.s g0 i0 j0 q.e,.int .i64 q.err]) fun w' U S=>?_
   rw[fI hj k1 (Or.inl k4) X,K]
   exact⟨(g0,i0,j0),rfl,S.2,U⟩
  rw[o]
  have c0:=uD o
  have k4:¬ tzn n<j:=by omega
  refine xr 1 [yB 0 s,yJ 2 e,(4,.v (.func (.func 130) #[] #[.pointer (some ⟨Q,0,none⟩),.pointer (some ⟨R,0,none⟩),.pointer (some ⟨T,0,none⟩)])),(10,.p 10 0),yJ 11 0,yJ 12 ((j+1:Nat):Int),eS1 13 a b f,yB 33 true,yB 39 false,eS1 40 a b f] [yF 10 79 false none 0 0 0] ?_
  refine xqc 158 [.slice a b f,.int .i64 0] 41 (fun _:Unit=>.bool b2) _ (fun w U S=>((show Calls _ _ _ _ (RetV w (.bool b2)) by rw[←a0];exact Zab (0) S.1.1.2 (by omega))).mono (fun _ _ h=>zG h rfl)) fun xx=>?_
  refine xq 2 [yB 43 b2] [] ?_
  rcases bl2 (b2) with u|u
  ·rw[u]
   have k2:=uC (a0.trans u)
   rw[vQ,sL] at k2
   refine xq 4 [yB 47 true] [] ?_
   refine xe (zA (xa (zB (xq 1 [eS1 48 a b f] [] ?_))))
   refine yD (d:=49) (fun F:Nat=>.slice (some ⟨F,0,none⟩) 1 1) (fun F zw=>Blk 94 zw F #[.int .u64 1]) (fun w U S=>xZ (t:=77) (e:=94) (n:=1) (sz:=1) (z:=.int .u64 0) (parts:=#[(0,Operand.const (Value.int IntKind.u64 1))]) (by kernel_rfl) (by kernel_rfl) (by kernel_rfl) (by kernel_rfl) (by kernel_rfl) (by kernel_rfl)) fun D0=>?_
   refine xr 0 [yB 0 s,yJ 2 e,(10,.p 10 0),yJ 11 0,yJ 12 ((j+1:Nat):Int),eS1 13 a b f,eS1 48 a b f,eS1 49 (some ⟨D0,0,none⟩) 1 1] [yF 10 79 false none 0 0 0] ?_
   refine xqc 126 [.slice a b f,.slice (some ⟨D0,0,none⟩) 1 1] 50 xJ _ (fun w U S=>(jX S.1.1.1.1.2 (fZ S.2) E wl_1).mono (fun _ _=>xE)) fun⟨k0,l0,m0⟩=>?_
   refine xq 1 [eS1 13 k0 l0 m0] [] ?_
   refine xe (zA (zC (zB (xq 5 [yB 51 s,eS1 52 k0 l0 m0,yJ 55 (IntKind.i64.wrap (e+((j+1:Nat):Int)))] [] ?_))))
   rw[yW (e+((j+1:Nat):Int)) (e+((j+1:Nat):Int)) (by omega)]
   obtain⟨x,L⟩:=yE (wV s (n/2^(j+1)+1) ((e+((j+1:Nat):Int))))
   refine xqc 118 [.bool s,.slice k0 l0 m0,.int .i64 (e+((j+1:Nat):Int))] 56 (shNb x) _ (fun w U S=>((show Calls _ _ _ _ (xY w x) by rw[←L];exact kM s _ _ _ _ _ _ S.1.1.1.1.1.1.1.1.1 S.2 Y (by omega) (by omega))).mono (fun _ _=>xU)) fun⟨n0,o0,p0⟩=>?_
   refine xq 4 [yJ 11 x.err] [yF 10 79 x.s n0 o0 p0 x.e] ?_
   refine xe (zA (zF ?_))
   refine yR (.tuple #[yV x.s n0 o0 p0 x.e,.int .i64 x.err]) fun w' U S=>?_
   rw[fI hj k1 (Or.inr (Or.inl k2)) X,L]
   exact⟨(n0,o0,p0),rfl,S.2,U⟩
  rw[u]
  have k2:=uD (a0.trans u)
  rw[vQ,sL] at k2
  refine xq 1 [(44,.v (.func (.func 130) #[] #[.pointer (some ⟨Q,0,none⟩),.pointer (some ⟨R,0,none⟩),.pointer (some ⟨T,0,none⟩)]))] [] ?_
  refine xqc 130 [.pointer (some ⟨Q,0,none⟩),.pointer (some ⟨R,0,none⟩),.pointer (some ⟨T,0,none⟩)] 45 (fun _:Unit=>.bool b3) _ (fun w U S=>((show Calls _ _ _ _ (RetV w (.bool b3)) by rw[←b0];exact (fun h=>ZlG Q R T sh A1 l1 c1 r B m d n1 _ h.1.1.1.1 h.1.1.1.2 h.1.1.2 h.1.2 h.2 F0) S.1.1.1.1.1.2)).mono (fun _ _ h=>zG h rfl)) fun xx=>?_
  refine xq 2 [yB 47 b3] [] ?_
  refine xe (zA ?_)
  refine yQ (b3) (fun G=>?_) fun G=>?_
  ·have k3:=b0.trans G
   refine zB (xq 1 [eS1 48 a b f] [] ?_)
   refine yD (d:=49) (fun F:Nat=>.slice (some ⟨F,0,none⟩) 1 1) (fun F zw=>Blk 94 zw F #[.int .u64 1]) (fun w U S=>xZ (t:=77) (e:=94) (n:=1) (sz:=1) (z:=.int .u64 0) (parts:=#[(0,Operand.const (Value.int IntKind.u64 1))]) (by kernel_rfl) (by kernel_rfl) (by kernel_rfl) (by kernel_rfl) (by kernel_rfl) (by kernel_rfl)) fun E0=>?_
   refine xr 0 [yB 0 s,yJ 2 e,(10,.p 10 0),yJ 11 0,yJ 12 ((j+1:Nat):Int),eS1 13 a b f,eS1 48 a b f,eS1 49 (some ⟨E0,0,none⟩) 1 1] [yF 10 79 false none 0 0 0] ?_
   refine xqc 126 [.slice a b f,.slice (some ⟨E0,0,none⟩) 1 1] 50 xJ _ (fun w U S=>(jX S.1.1.1.1.1.2 (fZ S.2) E wl_1).mono (fun _ _=>xE)) fun⟨q0,r0,s0⟩=>?_
   refine xq 1 [eS1 13 q0 r0 s0] [] ?_
   refine xe (zA (zC (zB (xq 5 [yB 51 s,eS1 52 q0 r0 s0,yJ 55 (IntKind.i64.wrap (e+((j+1:Nat):Int)))] [] ?_))))
   rw[yW (e+((j+1:Nat):Int)) (e+((j+1:Nat):Int)) (by omega)]
   obtain⟨y,M⟩:=yE (wV s (n/2^(j+1)+1) ((e+((j+1:Nat):Int))))
   refine xqc 118 [.bool s,.slice q0 r0 s0,.int .i64 (e+((j+1:Nat):Int))] 56 (shNb y) _ (fun w U S=>((show Calls _ _ _ _ (xY w y) by rw[←M];exact kM s _ _ _ _ _ _ S.1.1.1.1.1.1.1.1.1.1 S.2 Y (by omega) (by omega))).mono (fun _ _=>xU)) fun⟨t0,u0,v0⟩=>?_
   refine xq 4 [yJ 11 y.err] [yF 10 79 y.s t0 u0 v0 y.e] ?_
   refine xe (zA (zF ?_))
   refine yR (.tuple #[yV y.s t0 u0 v0 y.e,.int .i64 y.err]) fun w' U S=>?_
   rw[fI hj k1 (Or.inr (Or.inr k3)) X,M]
   exact⟨(t0,u0,v0),rfl,S.2,U⟩
  have k3:=b0.trans G
  refine zK (zA (zC (zB (xq 5 [yB 51 s,eS1 52 a b f,yJ 55 (IntKind.i64.wrap (e+((j+1:Nat):Int)))] [] ?_))))
  rw[yW (e+((j+1:Nat):Int)) (e+((j+1:Nat):Int)) (by omega)]
  obtain⟨C,hr25⟩:=yE (wV s (n/2^(j+1)) ((e+((j+1:Nat):Int))))
  refine xqc 118 [.bool s,.slice a b f,.int .i64 (e+((j+1:Nat):Int))] 56 (shNb C) _ (fun w U S=>((show Calls _ _ _ _ (xY w C) by rw[←hr25];exact kM s _ _ _ _ _ _ S.1.1.1.1.1.1.1.1 S.1.1.1.1.2 E (by omega) (by omega))).mono (fun _ _=>xU)) fun⟨w0,x0,y0⟩=>?_
  refine xq 4 [yJ 11 C.err] [yF 10 79 C.s w0 x0 y0 C.e] ?_
  refine xe (zA (zF ?_))
  refine yR (.tuple #[yV C.s w0 x0 y0 C.e,.int .i64 C.err]) fun w' U S=>?_
  rw[dC hj X (fun h=>by rcases h.2 with h|h|h;exact k4 h;exact k2 h;rw[k3] at h;cases h),hr25]
  exact⟨(w0,x0,y0),rfl,S.2,U⟩
 rw[i]
 have k1:=uD (Z.trans i)
 refine xq 14 [yB 47 false] [] ?_
 refine xe (zA (xb (zK (zA (zC (zB (xq 5 [yB 51 s,eS1 52 a b f,yJ 55 (IntKind.i64.wrap (e+((j+1:Nat):Int)))] [] ?_)))))))
 rw[yW (e+((j+1:Nat):Int)) (e+((j+1:Nat):Int)) (by omega)]
 obtain⟨D,N⟩:=yE (wV s (n/2^(j+1)) ((e+((j+1:Nat):Int))))
 refine xqc 118 [.bool s,.slice a b f,.int .i64 (e+((j+1:Nat):Int))] 56 (shNb D) _ (fun w U S=>((show Calls _ _ _ _ (xY w D) by rw[←N];exact kM s _ _ _ _ _ _ S.1.1.1.1.1 S.1.2 E (by omega) (by omega))).mono (fun _ _=>xU)) fun⟨z0,A0,B0⟩=>?_
 refine xq 4 [yJ 11 D.err] [yF 10 79 D.s z0 A0 B0 D.e] ?_
 refine xe (zA (zF ?_))
 refine yR (.tuple #[yV D.s z0 A0 B0 D.e,.int .i64 D.err]) fun w' U S=>?_
 rw[dC hj X (fun h=>k1 h.1),N]
 exact⟨(z0,A0,B0),rfl,S.2,U⟩
theorem ZlH (s:Bool)(A:Option Addr)(l c x:Nat)(e:Int)(bits:Nat)(U0:0<bits)(hb:bits≤4096)(w:World)(hg:Glob w)(hX:zJ w (.slice A l c) x)(V0:wl x≤100000)(W0 : -1073741824≤e)(X0:e≤1073741824)(g0:x=0∨x%2=1) :
 yA 86 #[yV s A l c e,.int .i64 ((bits:Nat):Int)] w (xY w (fR s x e bits)):=by
 refine zX (Φ:=fun w=>(Glob w∧zJ w (.slice A l c) (x))) Tryz.func86 rfl (by kernel_rfl) (fun w' hf=>⟨hg.ext hf,hX.ext hf⟩) ?_
 refine zC ?_
 have Y0:=hX.len0
 have Z0:=@jA x
 have a1:=fY x
 refine zB (xq 3 [(2,.p 2 0),(4,.p 4 0),yJ 5 0] [yF 4 79 false none 0 0 0,yF 2 79 s A l c e] ?_)
 refine xe (zA (zC (zC (zB (xq 2 [yB 10 s] [] ?_)))))
 refine xe (zA ?_)
 refine yQ (s) (fun b0=>?_) fun b0=>?_
 ·have J:=b0
  refine zC (zB (xq 3 [yJ 5 3] [] ?_))
  refine xe (zA (zF (zE ?_)))
  refine yR (.tuple #[yV false none 0 0 0,.int .i64 3]) fun w' R Q=>?_
  rw[show fR s x e bits=⟨false,0,0,3⟩ from uP J]
  exact⟨(none,0,0),rfl,zJ.zero _,R⟩
 have J:=b0
 refine zK (zA (zC (zC (zB (xq 4 [yB 15 (((l:Int):Int) == 0)] [] ?_)))))
 refine xe (zA ?_)
 refine yQ ((((l:Int):Int) == 0)) (fun c0=>?_) fun c0=>?_
 ·have n0:=tA.1 c0
  have h0:x=0:=by omega
  refine zC (zB (xq 3 [yJ 5 0] [] ?_))
  refine xe (zA (zF (zE ?_)))
  refine yR (.tuple #[yV false none 0 0 0,.int .i64 0]) fun w' R Q=>?_
  rw[show fR s x e bits=⟨false,0,0,0⟩ by unfold fR;rw[uN (by rw[J];decide),uP h0]]
  exact⟨(none,0,0),rfl,zJ.zero _,R⟩
 have n0:=lB c0
 have h0:¬ x=0:=by omega
 refine zK (zA (zC ?_))
 obtain⟨a,T0⟩:=yE (2*(bits:Int)+2-((blen x:Nat):Int))
 refine zB (xq 2 [yJ 18 (IntKind.i64.wrap (2*(bits:Int)))] [] ?_)
 rw[yW (2*(bits:Int)) (2*(bits:Int)) (by omega)]
 refine xq 1 [(19,.v (.int .i64 (IntKind.i64.wrap ((2*(bits:Int))+2))))] [] ?_
 rw[yW ((2*(bits:Int))+2) (2*(bits:Int)+2) (by omega)]
 refine xq 2 [eS1 21 A l c] [] ?_
 refine xqc 65 [.slice A l c] 22 (fun _:Unit=>.int .i64 ((blen x:Nat):Int)) _ (fun w R Q=>yN (kL Q.2 (by omega))) fun xx=>?_
 refine xq 1 [(23,.v (.int .i64 (IntKind.i64.wrap ((2*(bits:Int)+2)-((blen x:Nat):Int)))))] [] ?_
 rw[yW ((2*(bits:Int)+2)-((blen x:Nat):Int)) (a) (by omega)]
 refine xq 2 [(6,.p 6 0)] [(6,3,[.v (.int .i64 a)])] ?_
 refine xe (zA (zC (zC ?_)))
 by_cases i0:(e-a)%2=0
 ·refine zB (xq 4 [yJ 27 (IntKind.i64.wrap (e-a))] [] ?_)
  rw[yW (e-a) (e-a) (by omega)]
  refine xq 2 [(29,.v (.bool (((((e-a)).tmod 2):Int) != 0)))] [] ?_
  rw[show (((e-a).tmod 2:Int) != 0)=false from (by rw[bne_eq_false_iff_eq,ZoV];exact i0)]
  refine xe (zA (xb (zK (zA (zC ?_)))))
  obtain⟨sh,o0⟩:=yE a
  rw[o0]
  have d0:x%2=1:=g0.resolve_left h0
  have k:(e-sh)%2=0:=by omega
  have e0:2*(bits:Int)+2≤((blen x:Nat):Int)+sh:=by omega
  have f0:((blen x:Nat):Int)+sh≤2*(bits:Int)+3:=by omega
  obtain⟨Y,K⟩:=yE (fq x 1 (-sh))
  have p0:=Zbh (show 0<x by omega) sh (by omega)
  rw[K] at p0
  have q0:wl Y≤200:=Zgu (by omega)
  have G0:=ZiZ q0
  by_cases r0:0≤sh
  ·obtain⟨j,hj⟩:∃ j:Nat,sh=j:=uW r0
   have L:x*2^j/2^0=Y:=by rw[vQ,sL,← K,hj,ZaY]
   have s0:j≤10000000:=by omega
   have t0:wl (x*2^j)≤4000000:=ZbE (by omega) (by omega)
   refine yO 11 zM ?_
   refine xqg 4 [eS1 33 A l c,yJ 35 (if 0>sh then 0 else sh)] ?_
   rw[(show (if 0>sh then 0 else sh)=(j:Int) by split<;>omega)]
   refine xqd 66 [.slice A l c,.int .i64 (j:Int)] 36 xJ _ (fun w R Q=>yM xE (gR j Q.1.2 (by omega) (by omega))) fun⟨H0,I0,J0⟩=>?_
   refine xqg 2 [yJ 38 (IntKind.i64.wrap (0-(sh)))] ?_
   rw[show IntKind.i64.wrap (0-(sh)) = -sh by rw[IntKind.wrap_i64];omega]
   refine xqg 1 [yJ 39 (if 0>(-sh) then 0 else (-sh))] ?_
   rw[(show (if 0>(-sh) then 0 else (-sh))=((0:Nat):Int) by split<;>omega)]
   refine xqd 128 [.slice H0 I0 J0,.int .i64 ((0:Nat):Int)] 40 xJ _ (fun w R Q=>(gN 0 Q.2 (by omega) (by omega)).mono (fun _ _ h=>xE (by rw[L] at h;exact h))) fun⟨m,n,o⟩=>?_
   refine xqf 2 [(7,.p 7 0)] [(7,77,[.v (.slice m n o)]),(7,77,[.v (.slice none 0 0)]),(6,3,[.v (.int .i64 sh)]),yF 4 79 false none 0 0 0,yF 2 79 s A l c e] ?_
   refine xz (xe (zA (zC (zB (xr 1 [yJ 1 (bits:Int),(2,.p 2 0),(4,.p 4 0),yJ 5 0,(6,.p 6 0),(7,.p 7 0),eS1 41 m n o] [(7,77,[.v (.slice m n o)]),(6,3,[.v (.int .i64 sh)]),yF 4 79 false none 0 0 0,yF 2 79 s A l c e] ?_)))))
   refine xqc 129 [.slice m n o] 42 xJ _ (fun w R Q=>yM xE (ZbN m n o Y _ Q.2 (by omega))) fun⟨M,N,O⟩=>?_
   refine xq 2 [(8,.p 8 0)] [(8,77,[.v (.slice M N O)])] ?_
   refine xe (zA (zC ?_))
   refine SXc.freeze 6 3 [.int .i64 sh] (fun b=>[yJ 1 (bits:Int),(2,.p 2 0),(4,.p 4 0),yJ 5 0,(6,.v (.pointer (some ⟨b,0,none⟩))),(7,.p 7 0),(8,.p 8 0)]) [(8,77,[.v (.slice M N O)]),(7,77,[.v (.slice m n o)]),yF 4 79 false none 0 0 0,yF 2 79 s A l c e] (by kernel_rfl) (fun _=>by kernel_rfl) (by kernel_rfl) (by kernel_rfl) (fun _=>by kernel_rfl) fun b=>?_
   refine SXc.freeze 8 77 [.slice M N O] (fun d=>[yJ 1 (bits:Int),(2,.p 2 0),(4,.p 4 0),yJ 5 0,(6,.v (.pointer (some ⟨b,0,none⟩))),(7,.p 7 0),(8,.v (.pointer (some ⟨d,0,none⟩)))]) [(7,77,[.v (.slice m n o)]),yF 4 79 false none 0 0 0,yF 2 79 s A l c e] (by kernel_rfl) (fun _=>by kernel_rfl) (by kernel_rfl) (by kernel_rfl) (fun _=>by kernel_rfl) fun d=>?_
   refine SXc.freeze 7 77 [.slice m n o] (fun f=>[yJ 1 (bits:Int),(2,.p 2 0),(4,.p 4 0),yJ 5 0,(6,.v (.pointer (some ⟨b,0,none⟩))),(7,.v (.pointer (some ⟨f,0,none⟩))),(8,.v (.pointer (some ⟨d,0,none⟩)))]) [yF 4 79 false none 0 0 0,yF 2 79 s A l c e] (by kernel_rfl) (fun _=>by kernel_rfl) (by kernel_rfl) (by kernel_rfl) (fun _=>by kernel_rfl) fun f=>?_
   refine zB ?_
   refine xqk 43 (.slice M N O) (fun w R Q=>lP (t:=77) (x:=.tmp 8) (g:=d) (off:=0) (Blk.cell (Q.1.2) 0)) ?_
   refine xq 2 [yJ 45 e] [] ?_
   refine xqk 46 (.int .i64 sh) (fun w R Q=>lP (t:=3) (x:=.tmp 6) (g:=b) (off:=0) (Blk.cell (Q.1.1.2) 0)) ?_
   refine xq 1 [yJ 47 (IntKind.i64.wrap (e-sh))] [] ?_
   rw[yW (e-sh) (e-sh) (by omega)]
   refine xq 1 [yJ 48 (IntKind.i64.wrap (((e-sh)).tdiv 2))] [] ?_
   rw[show IntKind.i64.wrap ((e-sh).tdiv 2)=(e-sh)/2 by rw[ZhG k,IntKind.wrap_i64];omega]
   refine xq 2 [yJ 49 (bits:Int),(50,.v (.func (.func 130) #[] #[.pointer (some ⟨b,0,none⟩),.pointer (some ⟨d,0,none⟩),.pointer (some ⟨f,0,none⟩)]))] [] ?_
   obtain⟨F,j0⟩:=yE (lI false (isq Y) ((e-sh)/2) bits (decide (sh<0∨isq Y*isq Y≠Y)))
   refine xqc 123 [.bool false,.slice M N O,.int .i64 ((e-sh)/2),.int .i64 (bits:Int),.func (.func 130) #[] #[.pointer (some ⟨b,0,none⟩),.pointer (some ⟨d,0,none⟩),.pointer (some ⟨f,0,none⟩)]] 51 (shNb F) _ (fun w R Q=>yM xU ((show Calls _ _ _ _ (xY w F) by rw[←j0];exact ZaS false _ _ _ _ _ bits b d f sh M N O (isq Y) m n o Y _ Q.1.1.1.1.1.1.1.1 Q.1.1.1.2 (by omega) (by omega) (by omega) (by omega) Q.1.1.2 Q.1.2 Q.2 Q.1.1.1.2 Q.1.1.1.1.2 (by omega)))) fun⟨u0,v0,w0⟩=>?_
   refine xq 4 [yJ 5 F.err] [yF 4 79 F.s u0 v0 w0 F.e] ?_
   refine xe (zA (zF ?_))
   refine yR (.tuple #[yV F.s u0 v0 w0 F.e,.int .i64 F.err]) fun w' R Q=>?_
   have i:=Zan d0 e (by omega) sh k e0 f0
   rw[K,show jB x sh=decide (sh<0∨isq Y*isq Y≠Y) by unfold jB;rw[K]] at i
   rw[show fR s x e bits=fH x e bits by unfold fR;rw[uN (by rw[J];decide),uN h0],← i,j0]
   exact⟨(u0,v0,w0),rfl,Q.2,R⟩
  obtain⟨j,hj⟩:∃ j:Nat,sh = -(j:Int):=⟨(-sh).toNat,by omega⟩
  have L:x*2^0/2^j=Y:=by rw[vQ,tW,← K,ZkE hj]
  have s0:j≤10000000:=by omega
  have t0:wl (x*2^0)≤4000000:=ZbE (by omega) (by omega)
  refine yO 11 zM ?_
  refine xqg 4 [eS1 33 A l c,yJ 35 (if 0>sh then 0 else sh)] ?_
  rw[(show (if 0>sh then 0 else sh)=((0:Nat):Int) by split<;>omega)]
  refine xqd 66 [.slice A l c,.int .i64 ((0:Nat):Int)] 36 xJ _ (fun w R Q=>yM xE (gR 0 Q.1.2 (by omega) (by omega))) fun⟨K0,L0,M0⟩=>?_
  refine xqg 2 [yJ 38 (IntKind.i64.wrap (0-(sh)))] ?_
  rw[show IntKind.i64.wrap (0-(sh)) = -sh by rw[IntKind.wrap_i64];omega]
  refine xqg 1 [yJ 39 (if 0>(-sh) then 0 else (-sh))] ?_
  rw[(show (if 0>(-sh) then 0 else (-sh))=(j:Int) by split<;>omega)]
  refine xqd 128 [.slice K0 L0 M0,.int .i64 (j:Int)] 40 xJ _ (fun w R Q=>(gN j Q.2 (by omega) (by omega)).mono (fun _ _ h=>xE (by rw[L] at h;exact h))) fun⟨q,r,u⟩=>?_
  refine xqf 2 [(7,.p 7 0)] [(7,77,[.v (.slice q r u)]),(7,77,[.v (.slice none 0 0)]),(6,3,[.v (.int .i64 sh)]),yF 4 79 false none 0 0 0,yF 2 79 s A l c e] ?_
  refine xz (xe (zA (zC (zB (xr 1 [yJ 1 (bits:Int),(2,.p 2 0),(4,.p 4 0),yJ 5 0,(6,.p 6 0),(7,.p 7 0),eS1 41 q r u] [(7,77,[.v (.slice q r u)]),(6,3,[.v (.int .i64 sh)]),yF 4 79 false none 0 0 0,yF 2 79 s A l c e] ?_)))))
  refine xqc 129 [.slice q r u] 42 xJ _ (fun w R Q=>yM xE (ZbN q r u Y _ Q.2 (by omega))) fun⟨P,S,T⟩=>?_
  refine xq 2 [(8,.p 8 0)] [(8,77,[.v (.slice P S T)])] ?_
  refine xe (zA (zC ?_))
  refine SXc.freeze 6 3 [.int .i64 sh] (fun b=>[yJ 1 (bits:Int),(2,.p 2 0),(4,.p 4 0),yJ 5 0,(6,.v (.pointer (some ⟨b,0,none⟩))),(7,.p 7 0),(8,.p 8 0)]) [(8,77,[.v (.slice P S T)]),(7,77,[.v (.slice q r u)]),yF 4 79 false none 0 0 0,yF 2 79 s A l c e] (by kernel_rfl) (fun _=>by kernel_rfl) (by kernel_rfl) (by kernel_rfl) (fun _=>by kernel_rfl) fun b=>?_
  refine SXc.freeze 8 77 [.slice P S T] (fun d=>[yJ 1 (bits:Int),(2,.p 2 0),(4,.p 4 0),yJ 5 0,(6,.v (.pointer (some ⟨b,0,none⟩))),(7,.p 7 0),(8,.v (.pointer (some ⟨d,0,none⟩)))]) [(7,77,[.v (.slice q r u)]),yF 4 79 false none 0 0 0,yF 2 79 s A l c e] (by kernel_rfl) (fun _=>by kernel_rfl) (by kernel_rfl) (by kernel_rfl) (fun _=>by kernel_rfl) fun d=>?_
  refine SXc.freeze 7 77 [.slice q r u] (fun f=>[yJ 1 (bits:Int),(2,.p 2 0),(4,.p 4 0),yJ 5 0,(6,.v (.pointer (some ⟨b,0,none⟩))),(7,.v (.pointer (some ⟨f,0,none⟩))),(8,.v (.pointer (some ⟨d,0,none⟩)))]) [yF 4 79 false none 0 0 0,yF 2 79 s A l c e] (by kernel_rfl) (fun _=>by kernel_rfl) (by kernel_rfl) (by kernel_rfl) (fun _=>by kernel_rfl) fun f=>?_
  refine zB ?_
  refine xqk 43 (.slice P S T) (fun w R Q=>lP (t:=77) (x:=.tmp 8) (g:=d) (off:=0) (Blk.cell (Q.1.2) 0)) ?_
  refine xq 2 [yJ 45 e] [] ?_
  refine xqk 46 (.int .i64 sh) (fun w R Q=>lP (t:=3) (x:=.tmp 6) (g:=b) (off:=0) (Blk.cell (Q.1.1.2) 0)) ?_
  refine xq 1 [yJ 47 (IntKind.i64.wrap (e-sh))] [] ?_
  rw[yW (e-sh) (e-sh) (by omega)]
  refine xq 1 [yJ 48 (IntKind.i64.wrap (((e-sh)).tdiv 2))] [] ?_
  rw[show IntKind.i64.wrap ((e-sh).tdiv 2)=(e-sh)/2 by rw[ZhG k,IntKind.wrap_i64];omega]
  refine xq 2 [yJ 49 (bits:Int),(50,.v (.func (.func 130) #[] #[.pointer (some ⟨b,0,none⟩),.pointer (some ⟨d,0,none⟩),.pointer (some ⟨f,0,none⟩)]))] [] ?_
  obtain⟨G,k0⟩:=yE (lI false (isq Y) ((e-sh)/2) bits (decide (sh<0∨isq Y*isq Y≠Y)))
  refine xqc 123 [.bool false,.slice P S T,.int .i64 ((e-sh)/2),.int .i64 (bits:Int),.func (.func 130) #[] #[.pointer (some ⟨b,0,none⟩),.pointer (some ⟨d,0,none⟩),.pointer (some ⟨f,0,none⟩)]] 51 (shNb G) _ (fun w R Q=>yM xU ((show Calls _ _ _ _ (xY w G) by rw[←k0];exact ZaS false _ _ _ _ _ bits b d f sh P S T (isq Y) q r u Y _ Q.1.1.1.1.1.1.1.1 Q.1.1.1.2 (by omega) (by omega) (by omega) (by omega) Q.1.1.2 Q.1.2 Q.2 Q.1.1.1.2 Q.1.1.1.1.2 (by omega)))) fun⟨x0,y0,z0⟩=>?_
  refine xq 4 [yJ 5 G.err] [yF 4 79 G.s x0 y0 z0 G.e] ?_
  refine xe (zA (zF ?_))
  refine yR (.tuple #[yV G.s x0 y0 z0 G.e,.int .i64 G.err]) fun w' R Q=>?_
  have i:=Zan d0 e (by omega) sh k e0 f0
  rw[K,show jB x sh=decide (sh<0∨isq Y*isq Y≠Y) by unfold jB;rw[K]] at i
  rw[show fR s x e bits=fH x e bits by unfold fR;rw[uN (by rw[J];decide),uN h0],← i,k0]
  exact⟨(x0,y0,z0),rfl,Q.2,R⟩
 refine zB (xq 4 [yJ 27 (IntKind.i64.wrap (e-a))] [] ?_)
 rw[yW (e-a) (e-a) (by omega)]
 refine xq 2 [(29,.v (.bool (((((e-a)).tmod 2):Int) != 0)))] [] ?_
 rw[show (((e-a).tmod 2:Int) != 0)=true from bne_iff_ne.2 (mt (ZoV _).1 i0)]
 refine xe (zA (xa (zB (xq 2 [yJ 31 (IntKind.i64.wrap (a+1))] [] ?_))))
 rw[yW (a+1) (a+1) (by omega)]
 refine xq 1 [] [(6,3,[.v (.int .i64 (a+1))])] ?_
 refine xe (zA (zC ?_))
 obtain⟨sh,o0⟩:=yE (a+1)
 rw[o0]
 have d0:x%2=1:=g0.resolve_left h0
 have k:(e-sh)%2=0:=by omega
 have e0:2*(bits:Int)+2≤((blen x:Nat):Int)+sh:=by omega
 have f0:((blen x:Nat):Int)+sh≤2*(bits:Int)+3:=by omega
 obtain⟨Y,K⟩:=yE (fq x 1 (-sh))
 have p0:=Zbh (show 0<x by omega) sh (by omega)
 rw[K] at p0
 have q0:wl Y≤200:=Zgu (by omega)
 have G0:=ZiZ q0
 by_cases r0:0≤sh
 ·obtain⟨j,hj⟩:∃ j:Nat,sh=j:=uW r0
  have L:x*2^j/2^0=Y:=by rw[vQ,sL,← K,hj,ZaY]
  have s0:j≤10000000:=by omega
  have t0:wl (x*2^j)≤4000000:=ZbE (by omega) (by omega)
  refine yO 11 zM ?_
  refine xqg 4 [eS1 33 A l c,yJ 35 (if 0>sh then 0 else sh)] ?_
  rw[(show (if 0>sh then 0 else sh)=(j:Int) by split<;>omega)]
  refine xqd 66 [.slice A l c,.int .i64 (j:Int)] 36 xJ _ (fun w R Q=>yM xE (gR j Q.1.2 (by omega) (by omega))) fun⟨N0,O0,P0⟩=>?_
  refine xqg 2 [yJ 38 (IntKind.i64.wrap (0-(sh)))] ?_
  rw[show IntKind.i64.wrap (0-(sh)) = -sh by rw[IntKind.wrap_i64];omega]
  refine xqg 1 [yJ 39 (if 0>(-sh) then 0 else (-sh))] ?_
  rw[(show (if 0>(-sh) then 0 else (-sh))=((0:Nat):Int) by split<;>omega)]
  refine xqd 128 [.slice N0 O0 P0,.int .i64 ((0:Nat):Int)] 40 xJ _ (fun w R Q=>(gN 0 Q.2 (by omega) (by omega)).mono (fun _ _ h=>xE (by rw[L] at h;exact h))) fun⟨y,z,B⟩=>?_
  refine xqf 2 [(7,.p 7 0)] [(7,77,[.v (.slice y z B)]),(7,77,[.v (.slice none 0 0)]),(6,3,[.v (.int .i64 sh)]),yF 4 79 false none 0 0 0,yF 2 79 s A l c e] ?_
  refine xz (xe (zA (zC (zB (xr 1 [yJ 1 (bits:Int),(2,.p 2 0),(4,.p 4 0),yJ 5 0,(6,.p 6 0),(7,.p 7 0),eS1 41 y z B] [(7,77,[.v (.slice y z B)]),(6,3,[.v (.int .i64 sh)]),yF 4 79 false none 0 0 0,yF 2 79 s A l c e] ?_)))))
  refine xqc 129 [.slice y z B] 42 xJ _ (fun w R Q=>yM xE (ZbN y z B Y _ Q.2 (by omega))) fun⟨U,V,W⟩=>?_
  refine xq 2 [(8,.p 8 0)] [(8,77,[.v (.slice U V W)])] ?_
  refine xe (zA (zC ?_))
  refine SXc.freeze 6 3 [.int .i64 sh] (fun b=>[yJ 1 (bits:Int),(2,.p 2 0),(4,.p 4 0),yJ 5 0,(6,.v (.pointer (some ⟨b,0,none⟩))),(7,.p 7 0),(8,.p 8 0)]) [(8,77,[.v (.slice U V W)]),(7,77,[.v (.slice y z B)]),yF 4 79 false none 0 0 0,yF 2 79 s A l c e] (by kernel_rfl) (fun _=>by kernel_rfl) (by kernel_rfl) (by kernel_rfl) (fun _=>by kernel_rfl) fun b=>?_
  refine SXc.freeze 8 77 [.slice U V W] (fun d=>[yJ 1 (bits:Int),(2,.p 2 0),(4,.p 4 0),yJ 5 0,(6,.v (.pointer (some ⟨b,0,none⟩))),(7,.p 7 0),(8,.v (.pointer (some ⟨d,0,none⟩)))]) [(7,77,[.v (.slice y z B)]),yF 4 79 false none 0 0 0,yF 2 79 s A l c e] (by kernel_rfl) (fun _=>by kernel_rfl) (by kernel_rfl) (by kernel_rfl) (fun _=>by kernel_rfl) fun d=>?_
  refine SXc.freeze 7 77 [.slice y z B] (fun f=>[yJ 1 (bits:Int),(2,.p 2 0),(4,.p 4 0),yJ 5 0,(6,.v (.pointer (some ⟨b,0,none⟩))),(7,.v (.pointer (some ⟨f,0,none⟩))),(8,.v (.pointer (some ⟨d,0,none⟩)))]) [yF 4 79 false none 0 0 0,yF 2 79 s A l c e] (by kernel_rfl) (fun _=>by kernel_rfl) (by kernel_rfl) (by kernel_rfl) (fun _=>by kernel_rfl) fun f=>?_
  refine zB ?_
  refine xqk 43 (.slice U V W) (fun w R Q=>lP (t:=77) (x:=.tmp 8) (g:=d) (off:=0) (Blk.cell (Q.1.2) 0)) ?_
  refine xq 2 [yJ 45 e] [] ?_
  refine xqk 46 (.int .i64 sh) (fun w R Q=>lP (t:=3) (x:=.tmp 6) (g:=b) (off:=0) (Blk.cell (Q.1.1.2) 0)) ?_
  refine xq 1 [yJ 47 (IntKind.i64.wrap (e-sh))] [] ?_
  rw[yW (e-sh) (e-sh) (by omega)]
  refine xq 1 [yJ 48 (IntKind.i64.wrap (((e-sh)).tdiv 2))] [] ?_
  rw[show IntKind.i64.wrap ((e-sh).tdiv 2)=(e-sh)/2 by rw[ZhG k,IntKind.wrap_i64];omega]
  refine xq 2 [yJ 49 (bits:Int),(50,.v (.func (.func 130) #[] #[.pointer (some ⟨b,0,none⟩),.pointer (some ⟨d,0,none⟩),.pointer (some ⟨f,0,none⟩)]))] [] ?_
  obtain⟨H,l0⟩:=yE (lI false (isq Y) ((e-sh)/2) bits (decide (sh<0∨isq Y*isq Y≠Y)))
  refine xqc 123 [.bool false,.slice U V W,.int .i64 ((e-sh)/2),.int .i64 (bits:Int),.func (.func 130) #[] #[.pointer (some ⟨b,0,none⟩),.pointer (some ⟨d,0,none⟩),.pointer (some ⟨f,0,none⟩)]] 51 (shNb H) _ (fun w R Q=>yM xU ((show Calls _ _ _ _ (xY w H) by rw[←l0];exact ZaS false _ _ _ _ _ bits b d f sh U V W (isq Y) y z B Y _ Q.1.1.1.1.1.1.1.1 Q.1.1.1.2 (by omega) (by omega) (by omega) (by omega) Q.1.1.2 Q.1.2 Q.2 Q.1.1.1.2 Q.1.1.1.1.2 (by omega)))) fun⟨A0,B0,C0⟩=>?_
  refine xq 4 [yJ 5 H.err] [yF 4 79 H.s A0 B0 C0 H.e] ?_
  refine xe (zA (zF ?_))
  refine yR (.tuple #[yV H.s A0 B0 C0 H.e,.int .i64 H.err]) fun w' R Q=>?_
  have i:=Zan d0 e (by omega) sh k e0 f0
  rw[K,show jB x sh=decide (sh<0∨isq Y*isq Y≠Y) by unfold jB;rw[K]] at i
  rw[show fR s x e bits=fH x e bits by unfold fR;rw[uN (by rw[J];decide),uN h0],← i,l0]
  exact⟨(A0,B0,C0),rfl,Q.2,R⟩
 obtain⟨j,hj⟩:∃ j:Nat,sh = -(j:Int):=⟨(-sh).toNat,by omega⟩
 have L:x*2^0/2^j=Y:=by rw[vQ,tW,← K,ZkE hj]
 have s0:j≤10000000:=by omega
 have t0:wl (x*2^0)≤4000000:=ZbE (by omega) (by omega)
 refine yO 11 zM ?_
 refine xqg 4 [eS1 33 A l c,yJ 35 (if 0>sh then 0 else sh)] ?_
 rw[(show (if 0>sh then 0 else sh)=((0:Nat):Int) by split<;>omega)]
 refine xqd 66 [.slice A l c,.int .i64 ((0:Nat):Int)] 36 xJ _ (fun w R Q=>yM xE (gR 0 Q.1.2 (by omega) (by omega))) fun⟨Q0,R0,S0⟩=>?_
 refine xqg 2 [yJ 38 (IntKind.i64.wrap (0-(sh)))] ?_
 rw[show IntKind.i64.wrap (0-(sh)) = -sh by rw[IntKind.wrap_i64];omega]
 refine xqg 1 [yJ 39 (if 0>(-sh) then 0 else (-sh))] ?_
 rw[(show (if 0>(-sh) then 0 else (-sh))=(j:Int) by split<;>omega)]
 refine xqd 128 [.slice Q0 R0 S0,.int .i64 (j:Int)] 40 xJ _ (fun w R Q=>(gN j Q.2 (by omega) (by omega)).mono (fun _ _ h=>xE (by rw[L] at h;exact h))) fun⟨C,D,E⟩=>?_
 refine xqf 2 [(7,.p 7 0)] [(7,77,[.v (.slice C D E)]),(7,77,[.v (.slice none 0 0)]),(6,3,[.v (.int .i64 sh)]),yF 4 79 false none 0 0 0,yF 2 79 s A l c e] ?_
 refine xz (xe (zA (zC (zB (xr 1 [yJ 1 (bits:Int),(2,.p 2 0),(4,.p 4 0),yJ 5 0,(6,.p 6 0),(7,.p 7 0),eS1 41 C D E] [(7,77,[.v (.slice C D E)]),(6,3,[.v (.int .i64 sh)]),yF 4 79 false none 0 0 0,yF 2 79 s A l c e] ?_)))))
 refine xqc 129 [.slice C D E] 42 xJ _ (fun w R Q=>yM xE (ZbN C D E Y _ Q.2 (by omega))) fun⟨X,Z,a0⟩=>?_
 refine xq 2 [(8,.p 8 0)] [(8,77,[.v (.slice X Z a0)])] ?_
 refine xe (zA (zC ?_))
 refine SXc.freeze 6 3 [.int .i64 sh] (fun b=>[yJ 1 (bits:Int),(2,.p 2 0),(4,.p 4 0),yJ 5 0,(6,.v (.pointer (some ⟨b,0,none⟩))),(7,.p 7 0),(8,.p 8 0)]) [(8,77,[.v (.slice X Z a0)]),(7,77,[.v (.slice C D E)]),yF 4 79 false none 0 0 0,yF 2 79 s A l c e] (by kernel_rfl) (fun _=>by kernel_rfl) (by kernel_rfl) (by kernel_rfl) (fun _=>by kernel_rfl) fun b=>?_
 refine SXc.freeze 8 77 [.slice X Z a0] (fun d=>[yJ 1 (bits:Int),(2,.p 2 0),(4,.p 4 0),yJ 5 0,(6,.v (.pointer (some ⟨b,0,none⟩))),(7,.p 7 0),(8,.v (.pointer (some ⟨d,0,none⟩)))]) [(7,77,[.v (.slice C D E)]),yF 4 79 false none 0 0 0,yF 2 79 s A l c e] (by kernel_rfl) (fun _=>by kernel_rfl) (by kernel_rfl) (by kernel_rfl) (fun _=>by kernel_rfl) fun d=>?_
 refine SXc.freeze 7 77 [.slice C D E] (fun f=>[yJ 1 (bits:Int),(2,.p 2 0),(4,.p 4 0),yJ 5 0,(6,.v (.pointer (some ⟨b,0,none⟩))),(7,.v (.pointer (some ⟨f,0,none⟩))),(8,.v (.pointer (some ⟨d,0,none⟩)))]) [yF 4 79 false none 0 0 0,yF 2 79 s A l c e] (by kernel_rfl) (fun _=>by kernel_rfl) (by kernel_rfl) (by kernel_rfl) (fun _=>by kernel_rfl) fun f=>?_
 refine zB ?_
 refine xqk 43 (.slice X Z a0) (fun w R Q=>lP (t:=77) (x:=.tmp 8) (g:=d) (off:=0) (Blk.cell (Q.1.2) 0)) ?_
 refine xq 2 [yJ 45 e] [] ?_
 refine xqk 46 (.int .i64 sh) (fun w R Q=>lP (t:=3) (x:=.tmp 6) (g:=b) (off:=0) (Blk.cell (Q.1.1.2) 0)) ?_
 refine xq 1 [yJ 47 (IntKind.i64.wrap (e-sh))] [] ?_
 rw[yW (e-sh) (e-sh) (by omega)]
 refine xq 1 [yJ 48 (IntKind.i64.wrap (((e-sh)).tdiv 2))] [] ?_
 rw[show IntKind.i64.wrap ((e-sh).tdiv 2)=(e-sh)/2 by rw[ZhG k,IntKind.wrap_i64];omega]
 refine xq 2 [yJ 49 (bits:Int),(50,.v (.func (.func 130) #[] #[.pointer (some ⟨b,0,none⟩),.pointer (some ⟨d,0,none⟩),.pointer (some ⟨f,0,none⟩)]))] [] ?_
 obtain⟨I,m0⟩:=yE (lI false (isq Y) ((e-sh)/2) bits (decide (sh<0∨isq Y*isq Y≠Y)))
 refine xqc 123 [.bool false,.slice X Z a0,.int .i64 ((e-sh)/2),.int .i64 (bits:Int),.func (.func 130) #[] #[.pointer (some ⟨b,0,none⟩),.pointer (some ⟨d,0,none⟩),.pointer (some ⟨f,0,none⟩)]] 51 (shNb I) _ (fun w R Q=>yM xU ((show Calls _ _ _ _ (xY w I) by rw[←m0];exact ZaS false _ _ _ _ _ bits b d f sh X Z a0 (isq Y) C D E Y _ Q.1.1.1.1.1.1.1.1 Q.1.1.1.2 (by omega) (by omega) (by omega) (by omega) Q.1.1.2 Q.1.2 Q.2 Q.1.1.1.2 Q.1.1.1.1.2 (by omega)))) fun⟨D0,E0,F0⟩=>?_
 refine xq 4 [yJ 5 I.err] [yF 4 79 I.s D0 E0 F0 I.e] ?_
 refine xe (zA (zF ?_))
 refine yR (.tuple #[yV I.s D0 E0 F0 I.e,.int .i64 I.err]) fun w' R Q=>?_
 have i:=Zan d0 e (by omega) sh k e0 f0
 rw[K,show jB x sh=decide (sh<0∨isq Y*isq Y≠Y) by unfold jB;rw[K]] at i
 rw[show fR s x e bits=fH x e bits by unfold fR;rw[uN (by rw[J];decide),uN h0],← i,m0]
 exact⟨(D0,E0,F0),rfl,Q.2,R⟩
theorem ZlI {s:Bool}{m bits:Nat}{e:Int}(h:8≤bits)(b:bits≤4096):Fine (fR s m e bits):=by
 unfold fR
 split
 ·exact Zae 3
 split
 ·exact Zae 0
 rename_i i
 refine Zg8 ?_
 unfold sqM
 have c:sqK m e bits=((blen m:Int)+e-1)/2-((bits:Int)-1):=rfl
 obtain⟨k,a⟩:=yE (sqK m e bits)
 rw[a] at c ⊢
 have j:=Zbh (show 0<m by omega) (e-2*k+2) (by omega)
 have d:wl (fq m 1 (-(e-2*k+2)))≤200:=Zgu (by omega)
 have f:=ZiZ d
 have g:=Zi0 (isq (fq m 1 (-(e-2*k+2)))) (jB m (e-2*k+2))
 have l:=Ze9 f (show wl 1≤200 from uA (bX.2 (by rw[zO];decide)) (by decide))
 exact uA (wW g) (by omega)
theorem ZlJ (s:Bool)(A:Option Addr)(l c:Nat)(e:Int)(w:World)(a:zJ w (.slice A l c) 0) :
 yA 120 #[yV s A l c e] w (RetV w (yV s A l c e)):=by
 refine zX (Φ:=fun w=>zJ w (.slice A l c) (0)) Tryz.func120 rfl (by kernel_rfl) (fun w' b=>a.ext b) ?_
 refine zC ?_
 have d:=a.len0
 have f:=@jA 0
 refine zB (xq 2 [(1,.p 1 0),(2,.p 2 0)] [yF 2 79 false none 0 0 0,yF 1 79 s A l c e] ?_)
 refine xe (zA (zC (zC (zB (xq 4 [yB 6 (decide ((l:Int)>0))] [] ?_)))))
 rw[show decide ((l:Int)>0)=false from uJ (by omega)]
 refine xe (zA (xb (zK (zA (zC (zB (xq 2 [] [yF 2 79 s A l c e] ?_)))))))
 refine xe (zA (zF ?_))
 refine yR (yV s A l c e) fun w' R Q=>?_
 exact⟨rfl,R⟩
theorem Znx (s:Bool)(A:Option Addr)(l c x:Nat)(e:Int)(t:Bool)(B:Option Addr)(m d y:Nat)(f:Int)(bits:Nat)(z:0<bits)(J:bits≤4096)(w:World)(K:Glob w)(L:zJ w (.slice A l c) x)(C:wl x≤100000)(D : -1073741824≤e)(E:e≤1073741824)(M:zJ w (.slice B m d) y)(F:wl y≤100000)(G : -1073741824≤f)(H:f≤1073741824) :
 yA 91 #[yV s A l c e, yV t B m d f,.int .i64 ((bits:Nat):Int)] w (xY w (sumR s x e (if y=0 then t else !t) y f bits)):=by
 refine zX (Φ:=fun w=>((Glob w∧zJ w (.slice A l c) (x))∧zJ w (.slice B m d) (y))) Tryz.func91 rfl (by kernel_rfl) (fun w' I=>⟨⟨K.ext I,L.ext I⟩,M.ext I⟩) ?_
 refine zC (zB (xq 4 [(3,.p 3 0),(4,.p 4 0),(6,.p 6 0),yJ 7 0] [yF 6 79 false none 0 0 0,yF 4 79 t B m d f,yF 3 79 s A l c e] ?_))
 refine xe (zA (zC ?_))
 by_cases j:y=0
 ·refine yO 9 zM ?_
  refine xqg 2 [(8,.v (yV s A l c e)),(9,.v (yV t B m d f))] ?_
  refine xqd 120 [yV t B m d f] 10 (fun _:Unit=>.agg #[.bool t,.slice B m d,.int .i64 f]) _ (fun w R Q=>yN (ZlJ t B m d f _ (by have h:=Q.2;rw[j] at h;exact h))) fun N=>?_
  refine xqg 1 [yJ 11 (bits:Int)] ?_
  obtain⟨a,g⟩:=yE (sumR s x e t y f bits)
  refine xqd 84 [yV s A l c e, yV t B m d f,.int .i64 (bits:Int)] 12 (shNb a) _ (fun w R Q=>yM xU ((show Calls _ _ _ _ (xY w a) by rw[←g];exact Zdx s A l c x e t B m d y f bits z J _ Q.1.1.1 Q.1.1.2 C D E Q.1.2 F G H))) fun⟨k,n,o⟩=>?_
  refine xqf 4 [yJ 7 a.err] [yF 6 79 a.s k n o a.e,yF 6 79 false none 0 0 0,yF 4 79 t B m d f,yF 3 79 s A l c e] ?_
  refine xz (xe (zA (zF ?_)))
  refine yR (.tuple #[yV a.s k n o a.e,.int .i64 a.err]) fun w' R Q=>?_
  rw[show (if y=0 then t else !t)=t from uP j,g]
  exact⟨(k,n,o),rfl,Q.2,R⟩
 refine yO 9 zM ?_
 refine xqg 2 [(8,.v (yV s A l c e)),(9,.v (yV t B m d f))] ?_
 refine xqd 120 [yV t B m d f] 10 (fun _:Unit=>.agg #[.bool (!t),.slice B m d,.int .i64 f]) _ (fun w R Q=>yN (Znw t B m d y f _ Q.2 (by omega))) fun N=>?_
 refine xqg 1 [yJ 11 (bits:Int)] ?_
 obtain⟨b,i⟩:=yE (sumR s x e ((!t)) y f bits)
 refine xqd 84 [yV s A l c e, yV (!t) B m d f,.int .i64 (bits:Int)] 12 (shNb b) _ (fun w R Q=>yM xU ((show Calls _ _ _ _ (xY w b) by rw[←i];exact Zdx s A l c x e ((!t)) B m d y f bits z J _ Q.1.1.1 Q.1.1.2 C D E Q.1.2 F G H))) fun⟨q,r,u⟩=>?_
 refine xqf 4 [yJ 7 b.err] [yF 6 79 b.s q r u b.e,yF 6 79 false none 0 0 0,yF 4 79 t B m d f,yF 3 79 s A l c e] ?_
 refine xz (xe (zA (zF ?_)))
 refine yR (.tuple #[yV b.s q r u b.e,.int .i64 b.err]) fun w' R Q=>?_
 rw[show (if y=0 then t else !t)=(!t) from uN j,i]
 exact⟨(q,r,u),rfl,Q.2,R⟩
theorem Zhy (s t:ByteArray)(x y b:Int)(w:World)(hg:Glob w)(T:(bytes s).length≤100000)(l:(bytes t).length≤100000) :
 yA 81 #[yS s x, yS t y,.int .i64 b,.func (.func 91) #[] #[]] w (kG w (binR iP (bytes s) (bytes t) x y b)):=by
 refine zX (Φ:=fun w=>Glob w) Tryz.func81 rfl (by kernel_rfl) (fun w' hf=>hg.ext hf) ?_
 refine zC (zB (xq 4 [(4,.p 4 0),(5,.p 5 0),(8,.p 8 0),yJ 9 0] [yG 8 24 ⟨#[]⟩ 0,yG 5 24 t y,yG 4 24 s x] ?_))
 refine xe (zA (zC (zB (xq 1 [(15,.v (yS s x))] [] ?_))))
 by_cases r:fvB (bytes s) x=true
 ·obtain⟨d,g⟩:=yE (ldR (bytes s) x)
  have U:=wO r
  have h0:wl d.m≤100000:=by rw[←g];exact dL T
  have i0:d.e=x:=by rw[←g,show ldR (bytes s) x=_ from uP r]
  have j0:d.s=true→0<d.m:=by rw[←g,show ldR (bytes s) x=_ from uP r];exact U.2.2.2
  refine xqc 64 [yS s x] 16 (shLd true d) _ (fun w R Q=>yM lD ((show Calls _ _ _ _ (kK w true d) by rw[←g,← r];exact wA s x _ T))) fun⟨B,C,D⟩=>?_
  refine xq 6 [(10,.p 10 0),yB 11 true] [yF 10 79 d.s B C D d.e] ?_
  refine xe (zA (zC (zB (xq 1 [(20,.v (yS t y))] [] ?_))))
  by_cases c:fvB (bytes t) y=true
  ·obtain⟨f,i⟩:=yE (ldR (bytes t) y)
   have o:=wO c
   have K:wl f.m≤100000:=by rw[←i];exact dL l
   have L:f.e=y:=by rw[←i,show ldR (bytes t) y=_ from uP c]
   have M:f.s=true→0<f.m:=by rw[←i,show ldR (bytes t) y=_ from uP c];exact o.2.2.2
   refine xqc 64 [yS t y] 21 (shLd true f) _ (fun w R Q=>yM lD ((show Calls _ _ _ _ (kK w true f) by rw[←i,← c];exact wA t y _ l))) fun⟨E,F,G⟩=>?_
   refine xq 6 [(12,.p 12 0),yB 13 true] [yF 12 79 f.s E F G f.e] ?_
   refine xe (zA (zC (zC (zB (xq 6 [yB 29 false] [] ?_)))))
   refine xe (zA (xb (zK (zA (zC (zC ?_))))))
   by_cases S:8≤b∧b≤1024
   ·obtain⟨n,hn⟩:∃ n:Nat,b=n:=⟨b.toNat,by omega⟩
    subst hn
    refine zB (xq 1 [yJ 31 (n:Int)] [] ?_)
    refine xqc 55 [.int .i64 (n:Int)] 32 (fun _:Unit=>.bool true) _ (fun w R Q=>(kT _ _).mono (fun _ _ h=>zG h (by rw[uQ S]))) fun xx=>?_
    refine xq 1 [yB 33 false] [] ?_
    refine xe (zA (xb (zK (zA (zC (zB (xq 4 [(35,.v (.func (.func 91) #[] #[])),(36,.v (yV d.s B C D d.e)),(37,.v (yV f.s E F G f.e)),yJ 38 (n:Int)] [] ?_)))))))
    obtain⟨a,q⟩:=yE (iP d f n)
    refine xqc 91 [yV d.s B C D d.e, yV f.s E F G f.e,.int .i64 (n:Int)] 39 (shNb a) _ (fun w R Q=>yM xU ((show Calls _ _ _ _ (xY w a) by rw[←q];exact Znx _ _ _ _ _ _ _ _ _ _ _ _ n (by omega) (by omega) _ Q.1.1.1 Q.1.1.2 (by omega) (by omega) (by omega) Q.1.2 (by omega) (by omega) (by omega)))) fun⟨H,I,J⟩=>?_
    refine xq 2 [(40,.v (yV a.s H I J a.e)),yJ 41 a.err] [] ?_
    refine xqc 56 [yV a.s H I J a.e,.int .i64 a.err] 42 (fun _:Unit=>.tuple #[yS ⟨(frT a).toArray⟩ (frE a),.int .i64 a.err]) _ (fun w R Q=>yN (dE a H I J _ Q.1.1.1.1 Q.2 (by rw[←q];exact ZiO (by omega) (by omega)))) fun xx=>?_
    refine xq 4 [yJ 9 a.err] [yG 8 24 ⟨(frT a).toArray⟩ (frE a)] ?_
    refine xe (zA (zF ?_))
    refine yR (.tuple #[yS ⟨(frT a).toArray⟩ (frE a),.int .i64 a.err]) fun w' R Q=>?_
    rw[show binR iP (bytes s) (bytes t) x y (n:Int)=iP (ldR (bytes s) x) (ldR (bytes t) y) n by unfold binR;rw[uP ⟨r,c⟩,uP S];rfl,g,i,q]
    exact⟨rfl,R⟩
   refine zB (xq 1 [yJ 31 b] [] ?_)
   refine xqc 55 [.int .i64 b] 32 (fun _:Unit=>.bool false) _ (fun w R Q=>(kT _ _).mono (fun _ _ h=>zG h (by rw[uJ S]))) fun xx=>?_
   refine xq 1 [yB 33 true] [] ?_
   refine xe (zA (xa (zC (zB (xq 3 [yJ 9 3] [] ?_)))))
   refine xe (zA (zF (zE ?_)))
   refine yR (.tuple #[yS ⟨#[]⟩ 0,.int .i64 3]) fun w' R Q=>?_
   rw[show binR iP (bytes s) (bytes t) x y b=⟨false,0,0,3⟩ by unfold binR;rw[uP ⟨r,c⟩,uN S]]
   exact⟨rfl,R⟩
  obtain⟨u,N⟩:=yE (ldR (bytes t) y)
  refine xqc 64 [yS t y] 21 (shLd false u) _ (fun w R Q=>yM lD ((show Calls _ _ _ _ (kK w false u) by rw[←N,← vR.2 c];exact wA t y _ l))) fun⟨V,W,X⟩=>?_
  refine xq 6 [(12,.p 12 0),yB 13 false] [yF 12 79 u.s V W X u.e] ?_
  refine xe (zA (zC (zC (zB (xq 6 [yB 29 true] [] ?_)))))
  refine xe (zA (xa (zC (zB (xq 3 [yJ 9 1] [] ?_)))))
  refine xe (zA (zF (zE ?_)))
  refine yR (.tuple #[yS ⟨#[]⟩ 0,.int .i64 1]) fun w' R Q=>?_
  rw[show binR iP (bytes s) (bytes t) x y b=⟨false,0,0,1⟩ from uN (fun h=>c h.2)]
  exact⟨rfl,R⟩
 obtain⟨z,O⟩:=yE (ldR (bytes s) x)
 refine xqc 64 [yS s x] 16 (shLd false z) _ (fun w R Q=>yM lD ((show Calls _ _ _ _ (kK w false z) by rw[←O,← vR.2 r];exact wA s x _ T))) fun⟨Y,Z,a0⟩=>?_
 refine xq 6 [(10,.p 10 0),yB 11 false] [yF 10 79 z.s Y Z a0 z.e] ?_
 refine xe (zA (zC (zB (xq 1 [(20,.v (yS t y))] [] ?_))))
 by_cases c:fvB (bytes t) y=true
 ·obtain⟨j,k⟩:=yE (ldR (bytes t) y)
  have o:=wO c
  have K:wl j.m≤100000:=by rw[←k];exact dL l
  have L:j.e=y:=by rw[←k,show ldR (bytes t) y=_ from uP c]
  have M:j.s=true→0<j.m:=by rw[←k,show ldR (bytes t) y=_ from uP c];exact o.2.2.2
  refine xqc 64 [yS t y] 21 (shLd true j) _ (fun w R Q=>yM lD ((show Calls _ _ _ _ (kK w true j) by rw[←k,← c];exact wA t y _ l))) fun⟨b0,c0,d0⟩=>?_
  refine xq 6 [(12,.p 12 0),yB 13 true] [yF 12 79 j.s b0 c0 d0 j.e] ?_
  refine xe (zA (zC (zC (zB (xq 6 [yB 29 true] [] ?_)))))
  refine xe (zA (xa (zC (zB (xq 3 [yJ 9 1] [] ?_)))))
  refine xe (zA (zF (zE ?_)))
  refine yR (.tuple #[yS ⟨#[]⟩ 0,.int .i64 1]) fun w' R Q=>?_
  rw[show binR iP (bytes s) (bytes t) x y b=⟨false,0,0,1⟩ from uN (fun h=>r h.1)]
  exact⟨rfl,R⟩
 obtain⟨A,P⟩:=yE (ldR (bytes t) y)
 refine xqc 64 [yS t y] 21 (shLd false A) _ (fun w R Q=>yM lD ((show Calls _ _ _ _ (kK w false A) by rw[←P,← vR.2 c];exact wA t y _ l))) fun⟨e0,f0,g0⟩=>?_
 refine xq 6 [(12,.p 12 0),yB 13 false] [yF 12 79 A.s e0 f0 g0 A.e] ?_
 refine xe (zA (zC (zC (zB (xq 6 [yB 29 true] [] ?_)))))
 refine xe (zA (xa (zC (zB (xq 3 [yJ 9 1] [] ?_)))))
 refine xe (zA (zF (zE ?_)))
 refine yR (.tuple #[yS ⟨#[]⟩ 0,.int .i64 1]) fun w' R Q=>?_
 rw[show binR iP (bytes s) (bytes t) x y b=⟨false,0,0,1⟩ from uN (fun h=>r h.1)]
 exact⟨rfl,R⟩
theorem ZoD (s t:ByteArray)(x y b:Int)(w:World)(d:Glob w)(e:(bytes s).length≤100000)(a:(bytes t).length≤100000) :
 yA 53 #[yS s x, yS t y,.int .i64 b] w (kG w (binR iP (bytes s) (bytes t) x y b)):=by
 obtain⟨r,c⟩:=yE (binR iP (bytes s) (bytes t) x y b)
 rw[c]
 refine zX (Φ:=fun w=>Glob w) Tryz.func53 rfl (by kernel_rfl) (fun w' f=>d.ext f) ?_
 refine zC (zB (xq 4 [(3,.p 3 0),(4,.p 4 0),(6,.p 6 0),yJ 7 0] [yG 6 24 ⟨#[]⟩ 0,yG 4 24 t y,yG 3 24 s x] ?_))
 refine xe (zA (zC (zB (xq 3 [(8,.v (yS s x)),(9,.v (yS t y)),yJ 10 b] [] ?_))))
 refine xqc 81 [yS s x, yS t y,.int .i64 b,.func (.func 91) #[] #[]] 11 (fun _:Unit=>.tuple #[yS ⟨(frT r).toArray⟩ (frE r),.int .i64 r.err]) _ (fun w R Q=>yN ((show Calls _ _ _ _ (kG w r) by rw[←c];exact Zhy s t x y b _ Q e a))) fun g=>?_
 refine xq 4 [yJ 7 r.err] [yG 6 24 ⟨(frT r).toArray⟩ (frE r)] ?_
 refine xe (zA (zF ?_))
 refine yR (.tuple #[yS ⟨(frT r).toArray⟩ (frE r),.int .i64 r.err]) fun w' R Q=>?_
 exact⟨rfl,R⟩
theorem Zny (s:ByteArray)(x b:Int)(w:World)(E:Glob w)(y:(bytes s).length≤100000) :
 yA 49 #[yS s x,.int .i64 b] w (kG w (sqF (bytes s) x b)):=by
 refine zX (Φ:=fun w=>Glob w) Tryz.func49 rfl (by kernel_rfl) (fun w' F=>E.ext F) ?_
 refine zC (zB (xq 3 [(2,.p 2 0),(4,.p 4 0),yJ 5 0] [yG 4 24 ⟨#[]⟩ 0,yG 2 24 s x] ?_))
 refine xe (zA (zC (zB (xq 1 [(9,.v (yS s x))] [] ?_))))
 by_cases i:fvB (bytes s) x=true
 ·obtain⟨c,d⟩:=yE (ldR (bytes s) x)
  have z:=wO i
  have G:wl c.m≤100000:=by rw[←d];exact dL y
  have H:c.e=x:=by rw[←d,show ldR (bytes s) x=_ from uP i]
  have I:c.s=true→0<c.m:=by rw[←d,show ldR (bytes s) x=_ from uP i];exact z.2.2.2
  refine xqc 64 [yS s x] 10 (shLd true c) _ (fun w R Q=>yM lD ((show Calls _ _ _ _ (kK w true c) by rw[←d,← i];exact wA s x _ y))) fun⟨j,k,l⟩=>?_
  refine xq 6 [(6,.p 6 0),yB 7 true] [yF 6 79 c.s j k l c.e] ?_
  refine xe (zA (zC (zC (zB (xq 2 [yB 14 false] [] ?_)))))
  refine xe (zA (xb (zK (zA (zC (zC ?_))))))
  by_cases u:8≤b∧b≤1024
  ·obtain⟨n,J⟩:∃ n:Nat,b=n:=⟨b.toNat,by omega⟩
   subst J
   refine zB (xq 1 [yJ 16 (n:Int)] [] ?_)
   refine xqc 55 [.int .i64 (n:Int)] 17 (fun _:Unit=>.bool true) _ (fun w R Q=>(kT _ _).mono (fun _ _ h=>zG h (by rw[uQ u]))) fun D=>?_
   refine xq 1 [yB 18 false] [] ?_
   refine xe (zA (xb (zK (zA (zC (zB (xq 2 [(20,.v (yV c.s j k l c.e)),yJ 21 (n:Int)] [] ?_)))))))
   obtain⟨a,f⟩:=yE (aO c n)
   refine xqc 86 [yV c.s j k l c.e,.int .i64 (n:Int)] 22 (shNb a) _ (fun w R Q=>yM xU ((show Calls _ _ _ _ (xY w a) by rw[←f];exact ZlH _ _ _ _ _ _ n (by omega) (by omega) _ Q.1.1 Q.1.2 (by omega) (by omega) (by omega) (by rw[←d];exact ZqO)))) fun⟨o,q,r⟩=>?_
   refine xq 2 [(23,.v (yV a.s o q r a.e)),yJ 24 a.err] [] ?_
   refine xqc 56 [yV a.s o q r a.e,.int .i64 a.err] 25 (fun _:Unit=>.tuple #[yS ⟨(frT a).toArray⟩ (frE a),.int .i64 a.err]) _ (fun w R Q=>yN (dE a o q r _ Q.1.1.1 Q.2 (by rw[←f];exact ZlI (by omega) (by omega)))) fun D=>?_
   refine xq 4 [yJ 5 a.err] [yG 4 24 ⟨(frT a).toArray⟩ (frE a)] ?_
   refine xe (zA (zF ?_))
   refine yR (.tuple #[yS ⟨(frT a).toArray⟩ (frE a),.int .i64 a.err]) fun w' R Q=>?_
   rw[show sqF (bytes s) x (n:Int)=aO (ldR (bytes s) x) n by unfold sqF;rw[uP i,uP u];rfl,d,f]
   exact⟨rfl,R⟩
  refine zB (xq 1 [yJ 16 b] [] ?_)
  refine xqc 55 [.int .i64 b] 17 (fun _:Unit=>.bool false) _ (fun w R Q=>(kT _ _).mono (fun _ _ h=>zG h (by rw[uJ u]))) fun D=>?_
  refine xq 1 [yB 18 true] [] ?_
  refine xe (zA (xa (zC (zB (xq 3 [yJ 5 3] [] ?_)))))
  refine xe (zA (zF (zE ?_)))
  refine yR (.tuple #[yS ⟨#[]⟩ 0,.int .i64 3]) fun w' R Q=>?_
  rw[show sqF (bytes s) x b=⟨false,0,0,3⟩ by unfold sqF;rw[uP i,uN u]]
  exact⟨rfl,R⟩
 obtain⟨g,t⟩:=yE (ldR (bytes s) x)
 refine xqc 64 [yS s x] 10 (shLd false g) _ (fun w R Q=>yM lD ((show Calls _ _ _ _ (kK w false g) by rw[←t,← vR.2 i];exact wA s x _ y))) fun⟨A,B,C⟩=>?_
 refine xq 6 [(6,.p 6 0),yB 7 false] [yF 6 79 g.s A B C g.e] ?_
 refine xe (zA (zC (zC (zB (xq 2 [yB 14 true] [] ?_)))))
 refine xe (zA (xa (zC (zB (xq 3 [yJ 5 1] [] ?_)))))
 refine xe (zA (zF (zE ?_)))
 refine yR (.tuple #[yS ⟨#[]⟩ 0,.int .i64 1]) fun w' R Q=>?_
 rw[show sqF (bytes s) x b=⟨false,0,0,1⟩ from uN i]
 exact⟨rfl,R⟩
theorem dF {s:Bool}{n:Nat}:sg s n=0↔n=0:=by unfold sg;cases s<;>simp
theorem Zgv {s:Bool}{m d bits:Nat}{e:Int}:xK (decide (sg s m<0)) (sg s m).natAbs d e bits=xK s m d e bits:=by
 rw[jI]
 rcases uH m with rfl|h
 ·rw[jO,jO]
 rw[aN h]
theorem Zp3 (s t:Bool)(m n:Nat):sg s m*sg t n=sg (s != t) (m*n):=by
 unfold sg;cases s<;>cases t<;>simp[Int.neg_mul,Int.mul_neg]
theorem ZqP (k:Nat):ml 0≤k:=xX.2 (uV zU)
theorem ZqQ {s t:Bool}{m n d bits:Nat}{e:Int}:xK (decide (sg s m*sg t n<0)) (sg s m*sg t n).natAbs d e bits=xK (s != t) (m*n) d e bits:=by
 rw[Zp3,Zgv]
theorem Znz {s t:Bool}{m n bits:Nat}{e f:Int}:rsum (sg s m) e (sg t n) f bits=sumR s m e t n f bits:=by
 unfold rsum sumR
 by_cases a:m=0
 ·rw[uP (dF.2 a),uP a,Zgv]
 rw[uN (mt dF.1 a),uN a]
 by_cases b:n=0
 ·rw[uP (dF.2 b),uP b,Zgv]
 rw[uN (mt dF.1 b),uN b]
 unfold addR
 rw[Znv,Znv]
theorem ZqR {s t:Bool}{m n bits:Nat}{e f:Int}:rsum (sg s m) e (-(sg t n)) f bits=sumR s m e (if n=0 then t else !t) n f bits:=by
 rw[←Znz]
 congr 1
 split
 ·rename_i h;subst h;rw[Zec];rfl
 unfold sg;cases t<;>simp
theorem ZqS {s t:Bool}{m n bits:Nat}{e:Int}(h:n≠0):xK (decide (sg s m<0) != decide (sg t n<0)) (sg s m).natAbs (sg t n).natAbs e bits=ZbD (s != t) m n e bits:=by
 unfold ZbD
 rw[uN h,jI,jI,aN (show 0<n by omega)]
 rcases uH m with rfl|a
 ·rw[jO,jO]
 rw[aN a]
theorem ZkF {z1 c d e:Int}{bits:Nat}(b:0<bits)(a:bits≤4096):ml (rsum z1 c d e bits).m≤129:=by
 unfold rsum
 split
 ·exact Zce (by decide) b a
 split
 ·exact Zce (by decide) b a
 exact Zce (by decide) b a
theorem ZqT {m bits:Nat}{e:Int}(b:8≤bits)(c:bits≤4096):ml (sqR m e bits).m≤400:=by
 unfold sqR
 split
 ·exact ZqP _
 refine ZkD ?_
 rename_i h
 unfold sqM
 obtain⟨k,a⟩:=yE (sqK m e bits)
 have d:=ZiY a rfl
 obtain⟨_,i⟩:=Znm (by omega) b d rfl
 rw[a]
 have f:=Zno (Zee (k:=300) (show blen (fq m 1 (-(e-2*k+2)))≤32*300 by omega))
 have g:=Zi0 (isq (fq m 1 (-(e-2*k+2)))) (jB m (e-2*k+2))
 have j:=Zbb f (uA ml_1 (by decide))
 exact uA (wK g) (by omega)
section
variable {l l':List UInt8} {x y:Int} {n:Nat}
theorem bL (a:fvB l x=true):ldR l x=⟨(xA l).1,zL (xA l).2,x,0⟩:=uP a
theorem Zi1 (b:fvB l x=true)(a:fvB l' y=true):iN (ldR l x) (ldR l' y) n=xK (decide (flM l*flM l'<0)) (flM l*flM l').natAbs 1 (x+y) n:=by
 rw[bL b,bL a];exact ZqQ.symm
theorem Zi2 (b:fvB l x=true)(a:fvB l' y=true):iM (ldR l x) (ldR l' y) n=rsum (flM l) x (flM l') y n:=by
 rw[bL b,bL a];exact Znz.symm
theorem Zi3 (b:fvB l x=true)(a:fvB l' y=true):iP (ldR l x) (ldR l' y) n=rsum (flM l) x (-(flM l')) y n:=by
 rw[bL b,bL a];exact ZqR.symm
theorem Zi4 (b:fvB l x=true)(a:fvB l' y=true)(h:flM l'≠0):jK (ldR l x) (ldR l' y) n=xK (decide (flM l<0) != decide (flM l'<0)) (flM l).natAbs (flM l').natAbs (x-y) n:=by
 rw[bL b,bL a];exact (ZqS (mt dF.2 h)).symm
theorem ZlK (b:fvB l x=true)(a:fvB l' y=true)(h:flM l'=0):jK (ldR l x) (ldR l' y) n=⟨false,0,0,5⟩:=by
 rw[bL b,bL a];exact uP (dF.1 h)
theorem ZlL (a:fvB l x=true)(h:flM l<0):aO (ldR l x) n=⟨false,0,0,3⟩:=by
 rw[bL a]
 refine uP (Decidable.byContradiction fun b=>?_)
 have c:(xA l).1=false:=by simpa using b
 unfold flM sg at h
 rw[c] at h
 simp at h
 omega
theorem ZfZ (a:fvB l x=true)(h:¬ flM l<0):aO (ldR l x) n=sqR (flM l).natAbs x n:=by
 have b:(xA l).1=false:=by
  cases hu:(xA l).1
  ·rfl
  have c:=(wO a).2.2.2 hu
  unfold flM sg at h
  rw[hu] at h
  simp at h
  omega
 rw[bL a]
 unfold aO fR sqR flM
 rw[b,uN (show ¬ (false=true) by decide),jI]
 rfl
end
theorem fv48:fvB (bytes ⟨#[48]⟩) 0=true:=by rw[show bytes ⟨#[48]⟩=[48] from rfl];decide
theorem ZlM (s t:ByteArray)(x y b:Int)(w:World)(hs:(bytes s).length≤1000)(d0:(bytes t).length≤1000) :
 yA 52 #[.int .u8 42, yS s x, yS t y,.int .i64 b] w (kG w (binR iN (bytes s) (bytes t) x y b)):=by
 refine zX (Φ:=fun w=>True) Tryz.func52 rfl (by kernel_rfl) (fun w' hf=>trivial) ?_
 refine zC (zB (xq 4 [(5,.p 5 0),(6,.p 6 0),(8,.p 8 0),yJ 9 0] [yG 8 24 ⟨#[]⟩ 0,yG 6 24 t y,yG 5 24 s x] ?_))
 refine xe (zA (zC (zB (xq 1 [(17,.v (yS s x))] [] ?_))))
 by_cases i:fvB (bytes s) x=true
 ·refine xqc 35 [yS s x] 18 (shRF true x) _ (fun w R Q=>yM iG (jG s x _ _ (by omega) i rfl)) fun⟨j,k,o,q⟩=>?_
  refine xq 6 [(10,.p 10 0),yB 11 true] [yF 10 52 j k o q x] ?_
  refine xe (zA (zC (zB (xq 1 [(22,.v (yS t y))] [] ?_))))
  by_cases c:fvB (bytes t) y=true
  ·refine xqc 35 [yS t y] 23 (shRF true y) _ (fun w R Q=>yM iG (jG t y _ _ (by omega) c rfl)) fun⟨r,u,z,A⟩=>?_
   refine xq 6 [(12,.p 12 0),yB 13 true] [yF 12 52 r u z A y] ?_
   refine xe (zA (zC (zC (zB (xq 6 [yB 31 false] [] ?_)))))
   refine xe (zA (xb (zK (zA (zC (zC ?_))))))
   have hx:=wO i
   have e0:=hx.1
   have f0:=hx.2.1
   have hy:=wO c
   have g0:=hy.1
   have h0:=hy.2.1
   by_cases H:8≤b∧b≤1024
   ·obtain⟨n,hn⟩:∃ n:Nat,b=n:=⟨b.toNat,by omega⟩
    subst hn
    refine zB (xq 1 [yJ 33 (n:Int)] [] ?_)
    refine xqc 58 [.int .i64 (n:Int)] 34 (fun _:Unit=>.bool true) _ (fun w R Q=>(kJ _ _).mono (fun _ _ h=>zG h (by rw[uQ H]))) fun G=>?_
    refine xq 11 [yB 45 false] [] ?_
    refine xe (zA (xb (zK (zA (zC (zC (zB (xq 8 [yB 54 false] [] ?_))))))))
    refine xe (zA (xb (zK (zA (zC (zB (xq 4 [(14,.p 58 0)] [(58,84,[.v (.int .i64 (n:Int)),.v (.int .i64 0)])] ?_)))))))
    refine xe (zA (zC (zB (xq 1 [(15,.p 15 0)] [yF 15 52 false none 0 0 0] ?_))))
    refine xe (zA (zC (zC (zB (xq 1 [(59,.v (.int .u8 42))] [] ?_)))))
    refine xe (zA (xH (zC (zB (xr 2 [(8,.p 8 0),yJ 9 0,(10,.p 10 0),(12,.p 12 0),(14,.p 58 0),(15,.p 15 0),(59,.v (.int .u8 42)),yB 63 false] [yF 15 52 false none 0 0 0,(58,84,[.v (.int .i64 (n:Int)),.v (.int .i64 0)]),yF 12 52 r u z A y,yF 10 52 j k o q x,yG 8 24 ⟨#[]⟩ 0] ?_)))))
    refine xe (zA (xb (zC (zB (xq 2 [yB 69 false] [] ?_)))))
    refine xe (zA (xb (zC (zB (xq 2 [yB 75 true] [] ?_)))))
    refine xe (zA (xa (zB (xq 3 [(77,.p 58 0),(78,.v (yV j k o q x)),(79,.v (yV r u z A y))] [] ?_))))
    obtain⟨a,g⟩:=yE (xK (decide (flM (bytes s)*flM (bytes t)<0)) (flM (bytes s)*flM (bytes t)).natAbs 1 (x+y) n)
    refine Zbj (b:=58) (t:=84) (cs:=[.v (.int .i64 (n:Int)),.v (.int .i64 0)]) 88 [yV j k o q x, yV r u z A y] (d:=80) (shF a.e) (fun _=>[.int .i64 (n:Int),.int .i64 a.err]) (fun y w=>zI w (zZ y) (sg a.s a.m)) (by kernel_rfl) (by kernel_rfl) (by kernel_rfl) (fun w q_ R Q hB=>(show Calls _ _ _ _ (RetC w q_ (n:Int) a) by rw[←g];exact Znp q_ n j k o q (flM (bytes s)) x r u z A (flM (bytes t)) y _ hB Q.1.1.2 Q.1.2 (cS i (by omega)) (cS c (by omega)) (by omega) (by omega) (by omega) (by omega) (by omega) (by omega)).mono (fun _ _=>ZdK)) fun⟨B,C,D,E⟩=>?_
    refine xr 1 [(8,.p 8 0),yJ 9 0,(14,.p 58 0),(15,.p 15 0)] [yF 15 52 B C D E a.e,(58,84,[.v (.int .i64 (n:Int)),.v (.int .i64 a.err)]),yG 8 24 ⟨#[]⟩ 0] ?_
    refine xe (wX (zA (zC (zC (zB (xq 5 [yB 91 ((a.err:Int) != 0)] [] ?_))))))
    refine xe (zA ?_)
    refine yQ (((a.err:Int) != 0)) (fun F=>?_) fun F=>?_
    ·have f:=gK F
     refine zC ?_
     refine yO 7 zM ?_
     refine xqf 7 [yJ 9 a.err] [yG 8 24 ⟨#[]⟩ 0,yF 15 52 B C D E a.e,(58,84,[.v (.int .i64 (n:Int)),.v (.int .i64 a.err)]),yG 8 24 ⟨#[]⟩ 0] ?_
     refine xz (xe (zA (zF (zE ?_))))
     refine yR (.tuple #[yS ⟨#[]⟩ 0,.int .i64 a.err]) fun w' R Q=>?_
     rw[show binR iN (bytes s) (bytes t) x y (n:Int)=iN (ldR (bytes s) x) (ldR (bytes t) y) n by unfold binR;rw[uP ⟨i,c⟩,uP H];rfl]
     rw[Zi1 i c,g]
     exact⟨by rw[ZdN f,ZdO f],R⟩
    have f:=gL F
    refine zK (zA (zC (zB (xq 1 [(97,.v (yV B C D E a.e))] [] ?_))))
    refine xqc 38 [yV B C D E a.e] 98 (fun _:Unit=>.agg #[.string ⟨(Lib.itoa (sg a.s a.m)).toArray⟩,.int .i64 a.e]) _ (fun w R Q=>yN (aL B C D E (sg a.s a.m) a.e _ Q.2 (by rw[jI,← g];exact uA (Zce (by decide) (by omega) (by omega)) (by decide)))) fun G=>?_
    refine xq 2 [yJ 9 0] [yG 8 24 ⟨(Lib.itoa (sg a.s a.m)).toArray⟩ a.e] ?_
    refine xe (zA (zF ?_))
    refine yR (.tuple #[yS ⟨(Lib.itoa (sg a.s a.m)).toArray⟩ a.e,.int .i64 0]) fun w' R Q=>?_
    rw[show binR iN (bytes s) (bytes t) x y (n:Int)=iN (ldR (bytes s) x) (ldR (bytes t) y) n by unfold binR;rw[uP ⟨i,c⟩,uP H];rfl]
    rw[Zi1 i c,g]
    exact⟨by rw[ZdL f,ZdM f,f],R⟩
   refine zB (xq 1 [yJ 33 b] [] ?_)
   refine xqc 58 [.int .i64 b] 34 (fun _:Unit=>.bool false) _ (fun w R Q=>(kJ _ _).mono (fun _ _ h=>zG h (by rw[uJ H]))) fun G=>?_
   refine xq 11 [yB 45 true] [] ?_
   refine xe (zA (xa (zC (zB (xq 3 [yJ 9 3] [] ?_)))))
   refine xe (zA (zF (zE ?_)))
   refine yR (.tuple #[yS ⟨#[]⟩ 0,.int .i64 3]) fun w' R Q=>?_
   rw[show binR iN (bytes s) (bytes t) x y b=⟨false,0,0,3⟩ by unfold binR;rw[uP ⟨i,c⟩,uN H]]
   exact⟨rfl,R⟩
  refine xqc 35 [yS t y] 23 (fun y:ShI×Int=>shRF false y.2 y.1) _ (fun w R Q=>yM gS (iH t y _ (by omega) c)) fun G=>?_
  obtain⟨⟨I,J,K,L⟩,M⟩:=G
  refine xq 6 [(12,.p 12 0),yB 13 false] [yF 12 52 I J K L M] ?_
  refine xe (zA (zC (zC (zB (xq 6 [yB 31 true] [] ?_)))))
  refine xe (zA (xa (zC (zB (xq 3 [yJ 9 1] [] ?_)))))
  refine xe (zA (zF (zE ?_)))
  refine yR (.tuple #[yS ⟨#[]⟩ 0,.int .i64 1]) fun w' R Q=>?_
  rw[show binR iN (bytes s) (bytes t) x y b=⟨false,0,0,1⟩ from uN (fun h=>c h.2)]
  exact⟨rfl,R⟩
 refine xqc 35 [yS s x] 18 (fun y:ShI×Int=>shRF false y.2 y.1) _ (fun w R Q=>yM gS (iH s x _ (by omega) i)) fun G=>?_
 obtain⟨⟨N,O,P,S⟩,T⟩:=G
 refine xq 6 [(10,.p 10 0),yB 11 false] [yF 10 52 N O P S T] ?_
 refine xe (zA (zC (zB (xq 1 [(22,.v (yS t y))] [] ?_))))
 by_cases c:fvB (bytes t) y=true
 ·refine xqc 35 [yS t y] 23 (shRF true y) _ (fun w R Q=>yM iG (jG t y _ _ (by omega) c rfl)) fun⟨U,V,W,X⟩=>?_
  refine xq 6 [(12,.p 12 0),yB 13 true] [yF 12 52 U V W X y] ?_
  refine xe (zA (zC (zC (zB (xq 6 [yB 31 true] [] ?_)))))
  refine xe (zA (xa (zC (zB (xq 3 [yJ 9 1] [] ?_)))))
  refine xe (zA (zF (zE ?_)))
  refine yR (.tuple #[yS ⟨#[]⟩ 0,.int .i64 1]) fun w' R Q=>?_
  rw[show binR iN (bytes s) (bytes t) x y b=⟨false,0,0,1⟩ from uN (fun h=>i h.1)]
  exact⟨rfl,R⟩
 refine xqc 35 [yS t y] 23 (fun y:ShI×Int=>shRF false y.2 y.1) _ (fun w R Q=>yM gS (iH t y _ (by omega) c)) fun G=>?_
 obtain⟨⟨Y,Z,a0,b0⟩,c0⟩:=G
 refine xq 6 [(12,.p 12 0),yB 13 false] [yF 12 52 Y Z a0 b0 c0] ?_
 refine xe (zA (zC (zC (zB (xq 6 [yB 31 true] [] ?_)))))
 refine xe (zA (xa (zC (zB (xq 3 [yJ 9 1] [] ?_)))))
 refine xe (zA (zF (zE ?_)))
 refine yR (.tuple #[yS ⟨#[]⟩ 0,.int .i64 1]) fun w' R Q=>?_
 rw[show binR iN (bytes s) (bytes t) x y b=⟨false,0,0,1⟩ from uN (fun h=>i h.1)]
 exact⟨rfl,R⟩
theorem ZlN (s t:ByteArray)(x y b:Int)(w:World)(hs:(bytes s).length≤1000)(f0:(bytes t).length≤1000)(I:x-y≤4000)(J:y-x≤4000) :
 yA 52 #[.int .u8 43, yS s x, yS t y,.int .i64 b] w (kG w (binR iM (bytes s) (bytes t) x y b)):=by
 refine zX (Φ:=fun w=>True) Tryz.func52 rfl (by kernel_rfl) (fun w' hf=>trivial) ?_
 refine zC (zB (xq 4 [(5,.p 5 0),(6,.p 6 0),(8,.p 8 0),yJ 9 0] [yG 8 24 ⟨#[]⟩ 0,yG 6 24 t y,yG 5 24 s x] ?_))
 refine xe (zA (zC (zB (xq 1 [(17,.v (yS s x))] [] ?_))))
 by_cases i:fvB (bytes s) x=true
 ·refine xqc 35 [yS s x] 18 (shRF true x) _ (fun w R Q=>yM iG (jG s x _ _ (by omega) i rfl)) fun⟨j,k,o,q⟩=>?_
  refine xq 6 [(10,.p 10 0),yB 11 true] [yF 10 52 j k o q x] ?_
  refine xe (zA (zC (zB (xq 1 [(22,.v (yS t y))] [] ?_))))
  by_cases c:fvB (bytes t) y=true
  ·refine xqc 35 [yS t y] 23 (shRF true y) _ (fun w R Q=>yM iG (jG t y _ _ (by omega) c rfl)) fun⟨r,u,z,A⟩=>?_
   refine xq 6 [(12,.p 12 0),yB 13 true] [yF 12 52 r u z A y] ?_
   refine xe (zA (zC (zC (zB (xq 6 [yB 31 false] [] ?_)))))
   refine xe (zA (xb (zK (zA (zC (zC ?_))))))
   have hx:=wO i
   have g0:=hx.1
   have h0:=hx.2.1
   have hy:=wO c
   have i0:=hy.1
   have j0:=hy.2.1
   by_cases H:8≤b∧b≤1024
   ·obtain⟨n,hn⟩:∃ n:Nat,b=n:=⟨b.toNat,by omega⟩
    subst hn
    refine zB (xq 1 [yJ 33 (n:Int)] [] ?_)
    refine xqc 58 [.int .i64 (n:Int)] 34 (fun _:Unit=>.bool true) _ (fun w R Q=>(kJ _ _).mono (fun _ _ h=>zG h (by rw[uQ H]))) fun G=>?_
    refine xq 11 [yB 45 false] [] ?_
    refine xe (zA (xb (zK (zA (zC (zC (zB (xq 8 [yB 54 false] [] ?_))))))))
    refine xe (zA (xb (zK (zA (zC (zB (xq 4 [(14,.p 58 0)] [(58,84,[.v (.int .i64 (n:Int)),.v (.int .i64 0)])] ?_)))))))
    refine xe (zA (zC (zB (xq 1 [(15,.p 15 0)] [yF 15 52 false none 0 0 0] ?_))))
    refine xe (zA (zC (zC (zB (xq 1 [(59,.v (.int .u8 43))] [] ?_)))))
    refine xe (zA (xH (zC (zB (xr 2 [(8,.p 8 0),yJ 9 0,(10,.p 10 0),(12,.p 12 0),(14,.p 58 0),(15,.p 15 0),(59,.v (.int .u8 43)),yB 63 true] [yF 15 52 false none 0 0 0,(58,84,[.v (.int .i64 (n:Int)),.v (.int .i64 0)]),yF 12 52 r u z A y,yF 10 52 j k o q x,yG 8 24 ⟨#[]⟩ 0] ?_)))))
    refine xe (zA (xa (zB (xq 3 [(65,.p 58 0),(66,.v (yV j k o q x)),(67,.v (yV r u z A y))] [] ?_))))
    obtain⟨a,g⟩:=yE (rsum (flM (bytes s)) x (flM (bytes t)) y n)
    refine Zbj (b:=58) (t:=84) (cs:=[.v (.int .i64 (n:Int)),.v (.int .i64 0)]) 87 [yV j k o q x,.int .i64 1, yV r u z A y] (d:=68) (shF a.e) (fun _=>[.int .i64 (n:Int),.int .i64 a.err]) (fun y w=>zI w (zZ y) (sg a.s a.m)) (by kernel_rfl) (by kernel_rfl) (by kernel_rfl) (fun w q_ R Q hB=>(show Calls _ _ _ _ (RetC w q_ (n:Int) a) by rw[←g];exact Znr q_ n j k o q (flM (bytes s)) x r u z A (flM (bytes t)) y _ hB Q.1.1.2 Q.1.2 (cS i (by omega)) (cS c (by omega)) (by omega) (by omega) (by omega) (by omega) (by omega) (by omega) I J).mono (fun _ _=>ZdK)) fun⟨B,C,D,E⟩=>?_
    refine xr 1 [(8,.p 8 0),yJ 9 0,(14,.p 58 0),(15,.p 15 0)] [yF 15 52 B C D E a.e,(58,84,[.v (.int .i64 (n:Int)),.v (.int .i64 a.err)]),yG 8 24 ⟨#[]⟩ 0] ?_
    refine xe (wX (zA (zC (zC (zB (xq 5 [yB 91 ((a.err:Int) != 0)] [] ?_))))))
    refine xe (zA ?_)
    refine yQ (((a.err:Int) != 0)) (fun F=>?_) fun F=>?_
    ·have f:=gK F
     refine zC ?_
     refine yO 7 zM ?_
     refine xqf 7 [yJ 9 a.err] [yG 8 24 ⟨#[]⟩ 0,yF 15 52 B C D E a.e,(58,84,[.v (.int .i64 (n:Int)),.v (.int .i64 a.err)]),yG 8 24 ⟨#[]⟩ 0] ?_
     refine xz (xe (zA (zF (zE ?_))))
     refine yR (.tuple #[yS ⟨#[]⟩ 0,.int .i64 a.err]) fun w' R Q=>?_
     rw[show binR iM (bytes s) (bytes t) x y (n:Int)=iM (ldR (bytes s) x) (ldR (bytes t) y) n by unfold binR;rw[uP ⟨i,c⟩,uP H];rfl]
     rw[Zi2 i c,g]
     exact⟨by rw[ZdN f,ZdO f],R⟩
    have f:=gL F
    refine zK (zA (zC (zB (xq 1 [(97,.v (yV B C D E a.e))] [] ?_))))
    refine xqc 38 [yV B C D E a.e] 98 (fun _:Unit=>.agg #[.string ⟨(Lib.itoa (sg a.s a.m)).toArray⟩,.int .i64 a.e]) _ (fun w R Q=>yN (aL B C D E (sg a.s a.m) a.e _ Q.2 (by rw[jI,← g];exact uA (ZkF (by omega) (by omega)) (by decide)))) fun G=>?_
    refine xq 2 [yJ 9 0] [yG 8 24 ⟨(Lib.itoa (sg a.s a.m)).toArray⟩ a.e] ?_
    refine xe (zA (zF ?_))
    refine yR (.tuple #[yS ⟨(Lib.itoa (sg a.s a.m)).toArray⟩ a.e,.int .i64 0]) fun w' R Q=>?_
    rw[show binR iM (bytes s) (bytes t) x y (n:Int)=iM (ldR (bytes s) x) (ldR (bytes t) y) n by unfold binR;rw[uP ⟨i,c⟩,uP H];rfl]
    rw[Zi2 i c,g]
    exact⟨by rw[ZdL f,ZdM f,f],R⟩
   refine zB (xq 1 [yJ 33 b] [] ?_)
   refine xqc 58 [.int .i64 b] 34 (fun _:Unit=>.bool false) _ (fun w R Q=>(kJ _ _).mono (fun _ _ h=>zG h (by rw[uJ H]))) fun G=>?_
   refine xq 11 [yB 45 true] [] ?_
   refine xe (zA (xa (zC (zB (xq 3 [yJ 9 3] [] ?_)))))
   refine xe (zA (zF (zE ?_)))
   refine yR (.tuple #[yS ⟨#[]⟩ 0,.int .i64 3]) fun w' R Q=>?_
   rw[show binR iM (bytes s) (bytes t) x y b=⟨false,0,0,3⟩ by unfold binR;rw[uP ⟨i,c⟩,uN H]]
   exact⟨rfl,R⟩
  refine xqc 35 [yS t y] 23 (fun y:ShI×Int=>shRF false y.2 y.1) _ (fun w R Q=>yM gS (iH t y _ (by omega) c)) fun G=>?_
  obtain⟨⟨K,L,M,N⟩,O⟩:=G
  refine xq 6 [(12,.p 12 0),yB 13 false] [yF 12 52 K L M N O] ?_
  refine xe (zA (zC (zC (zB (xq 6 [yB 31 true] [] ?_)))))
  refine xe (zA (xa (zC (zB (xq 3 [yJ 9 1] [] ?_)))))
  refine xe (zA (zF (zE ?_)))
  refine yR (.tuple #[yS ⟨#[]⟩ 0,.int .i64 1]) fun w' R Q=>?_
  rw[show binR iM (bytes s) (bytes t) x y b=⟨false,0,0,1⟩ from uN (fun h=>c h.2)]
  exact⟨rfl,R⟩
 refine xqc 35 [yS s x] 18 (fun y:ShI×Int=>shRF false y.2 y.1) _ (fun w R Q=>yM gS (iH s x _ (by omega) i)) fun G=>?_
 obtain⟨⟨P,S,T,U⟩,V⟩:=G
 refine xq 6 [(10,.p 10 0),yB 11 false] [yF 10 52 P S T U V] ?_
 refine xe (zA (zC (zB (xq 1 [(22,.v (yS t y))] [] ?_))))
 by_cases c:fvB (bytes t) y=true
 ·refine xqc 35 [yS t y] 23 (shRF true y) _ (fun w R Q=>yM iG (jG t y _ _ (by omega) c rfl)) fun⟨W,X,Y,Z⟩=>?_
  refine xq 6 [(12,.p 12 0),yB 13 true] [yF 12 52 W X Y Z y] ?_
  refine xe (zA (zC (zC (zB (xq 6 [yB 31 true] [] ?_)))))
  refine xe (zA (xa (zC (zB (xq 3 [yJ 9 1] [] ?_)))))
  refine xe (zA (zF (zE ?_)))
  refine yR (.tuple #[yS ⟨#[]⟩ 0,.int .i64 1]) fun w' R Q=>?_
  rw[show binR iM (bytes s) (bytes t) x y b=⟨false,0,0,1⟩ from uN (fun h=>i h.1)]
  exact⟨rfl,R⟩
 refine xqc 35 [yS t y] 23 (fun y:ShI×Int=>shRF false y.2 y.1) _ (fun w R Q=>yM gS (iH t y _ (by omega) c)) fun G=>?_
 obtain⟨⟨a0,b0,c0,d0⟩,e0⟩:=G
 refine xq 6 [(12,.p 12 0),yB 13 false] [yF 12 52 a0 b0 c0 d0 e0] ?_
 refine xe (zA (zC (zC (zB (xq 6 [yB 31 true] [] ?_)))))
 refine xe (zA (xa (zC (zB (xq 3 [yJ 9 1] [] ?_)))))
 refine xe (zA (zF (zE ?_)))
 refine yR (.tuple #[yS ⟨#[]⟩ 0,.int .i64 1]) fun w' R Q=>?_
 rw[show binR iM (bytes s) (bytes t) x y b=⟨false,0,0,1⟩ from uN (fun h=>i h.1)]
 exact⟨rfl,R⟩
theorem ZlO (s t:ByteArray)(x y b:Int)(w:World)(hs:(bytes s).length≤1000)(f0:(bytes t).length≤1000)(I:x-y≤4000)(J:y-x≤4000) :
 yA 52 #[.int .u8 45, yS s x, yS t y,.int .i64 b] w (kG w (binR iP (bytes s) (bytes t) x y b)):=by
 refine zX (Φ:=fun w=>True) Tryz.func52 rfl (by kernel_rfl) (fun w' hf=>trivial) ?_
 refine zC (zB (xq 4 [(5,.p 5 0),(6,.p 6 0),(8,.p 8 0),yJ 9 0] [yG 8 24 ⟨#[]⟩ 0,yG 6 24 t y,yG 5 24 s x] ?_))
 refine xe (zA (zC (zB (xq 1 [(17,.v (yS s x))] [] ?_))))
 by_cases i:fvB (bytes s) x=true
 ·refine xqc 35 [yS s x] 18 (shRF true x) _ (fun w R Q=>yM iG (jG s x _ _ (by omega) i rfl)) fun⟨j,k,o,q⟩=>?_
  refine xq 6 [(10,.p 10 0),yB 11 true] [yF 10 52 j k o q x] ?_
  refine xe (zA (zC (zB (xq 1 [(22,.v (yS t y))] [] ?_))))
  by_cases c:fvB (bytes t) y=true
  ·refine xqc 35 [yS t y] 23 (shRF true y) _ (fun w R Q=>yM iG (jG t y _ _ (by omega) c rfl)) fun⟨r,u,z,A⟩=>?_
   refine xq 6 [(12,.p 12 0),yB 13 true] [yF 12 52 r u z A y] ?_
   refine xe (zA (zC (zC (zB (xq 6 [yB 31 false] [] ?_)))))
   refine xe (zA (xb (zK (zA (zC (zC ?_))))))
   have hx:=wO i
   have g0:=hx.1
   have h0:=hx.2.1
   have hy:=wO c
   have i0:=hy.1
   have j0:=hy.2.1
   by_cases H:8≤b∧b≤1024
   ·obtain⟨n,hn⟩:∃ n:Nat,b=n:=⟨b.toNat,by omega⟩
    subst hn
    refine zB (xq 1 [yJ 33 (n:Int)] [] ?_)
    refine xqc 58 [.int .i64 (n:Int)] 34 (fun _:Unit=>.bool true) _ (fun w R Q=>(kJ _ _).mono (fun _ _ h=>zG h (by rw[uQ H]))) fun G=>?_
    refine xq 11 [yB 45 false] [] ?_
    refine xe (zA (xb (zK (zA (zC (zC (zB (xq 8 [yB 54 false] [] ?_))))))))
    refine xe (zA (xb (zK (zA (zC (zB (xq 4 [(14,.p 58 0)] [(58,84,[.v (.int .i64 (n:Int)),.v (.int .i64 0)])] ?_)))))))
    refine xe (zA (zC (zB (xq 1 [(15,.p 15 0)] [yF 15 52 false none 0 0 0] ?_))))
    refine xe (zA (zC (zC (zB (xq 1 [(59,.v (.int .u8 45))] [] ?_)))))
    refine xe (zA (xH (zC (zB (xr 2 [(8,.p 8 0),yJ 9 0,(10,.p 10 0),(12,.p 12 0),(14,.p 58 0),(15,.p 15 0),(59,.v (.int .u8 45)),yB 63 false] [yF 15 52 false none 0 0 0,(58,84,[.v (.int .i64 (n:Int)),.v (.int .i64 0)]),yF 12 52 r u z A y,yF 10 52 j k o q x,yG 8 24 ⟨#[]⟩ 0] ?_)))))
    refine xe (zA (xb (zC (zB (xq 2 [yB 69 true] [] ?_)))))
    refine xe (zA (xa (zB (xq 3 [(71,.p 58 0),(72,.v (yV j k o q x)),(73,.v (yV r u z A y))] [] ?_))))
    obtain⟨a,g⟩:=yE (rsum (flM (bytes s)) x (-(flM (bytes t))) y n)
    refine Zbj (b:=58) (t:=84) (cs:=[.v (.int .i64 (n:Int)),.v (.int .i64 0)]) 87 [yV j k o q x,.int .i64 (-1), yV r u z A y] (d:=74) (shF a.e) (fun _=>[.int .i64 (n:Int),.int .i64 a.err]) (fun y w=>zI w (zZ y) (sg a.s a.m)) (by kernel_rfl) (by kernel_rfl) (by kernel_rfl) (fun w q_ R Q hB=>(show Calls _ _ _ _ (RetC w q_ (n:Int) a) by rw[←g];exact Zns q_ n j k o q (flM (bytes s)) x r u z A (flM (bytes t)) y _ hB Q.1.1.2 Q.1.2 (cS i (by omega)) (cS c (by omega)) (by omega) (by omega) (by omega) (by omega) (by omega) (by omega) I J).mono (fun _ _=>ZdK)) fun⟨B,C,D,E⟩=>?_
    refine xr 1 [(8,.p 8 0),yJ 9 0,(14,.p 58 0),(15,.p 15 0)] [yF 15 52 B C D E a.e,(58,84,[.v (.int .i64 (n:Int)),.v (.int .i64 a.err)]),yG 8 24 ⟨#[]⟩ 0] ?_
    refine xe (wX (zA (zC (zC (zB (xq 5 [yB 91 ((a.err:Int) != 0)] [] ?_))))))
    refine xe (zA ?_)
    refine yQ (((a.err:Int) != 0)) (fun F=>?_) fun F=>?_
    ·have f:=gK F
     refine zC ?_
     refine yO 7 zM ?_
     refine xqf 7 [yJ 9 a.err] [yG 8 24 ⟨#[]⟩ 0,yF 15 52 B C D E a.e,(58,84,[.v (.int .i64 (n:Int)),.v (.int .i64 a.err)]),yG 8 24 ⟨#[]⟩ 0] ?_
     refine xz (xe (zA (zF (zE ?_))))
     refine yR (.tuple #[yS ⟨#[]⟩ 0,.int .i64 a.err]) fun w' R Q=>?_
     rw[show binR iP (bytes s) (bytes t) x y (n:Int)=iP (ldR (bytes s) x) (ldR (bytes t) y) n by unfold binR;rw[uP ⟨i,c⟩,uP H];rfl]
     rw[Zi3 i c,g]
     exact⟨by rw[ZdN f,ZdO f],R⟩
    have f:=gL F
    refine zK (zA (zC (zB (xq 1 [(97,.v (yV B C D E a.e))] [] ?_))))
    refine xqc 38 [yV B C D E a.e] 98 (fun _:Unit=>.agg #[.string ⟨(Lib.itoa (sg a.s a.m)).toArray⟩,.int .i64 a.e]) _ (fun w R Q=>yN (aL B C D E (sg a.s a.m) a.e _ Q.2 (by rw[jI,← g];exact uA (ZkF (by omega) (by omega)) (by decide)))) fun G=>?_
    refine xq 2 [yJ 9 0] [yG 8 24 ⟨(Lib.itoa (sg a.s a.m)).toArray⟩ a.e] ?_
    refine xe (zA (zF ?_))
    refine yR (.tuple #[yS ⟨(Lib.itoa (sg a.s a.m)).toArray⟩ a.e,.int .i64 0]) fun w' R Q=>?_
    rw[show binR iP (bytes s) (bytes t) x y (n:Int)=iP (ldR (bytes s) x) (ldR (bytes t) y) n by unfold binR;rw[uP ⟨i,c⟩,uP H];rfl]
    rw[Zi3 i c,g]
    exact⟨by rw[ZdL f,ZdM f,f],R⟩
   refine zB (xq 1 [yJ 33 b] [] ?_)
   refine xqc 58 [.int .i64 b] 34 (fun _:Unit=>.bool false) _ (fun w R Q=>(kJ _ _).mono (fun _ _ h=>zG h (by rw[uJ H]))) fun G=>?_
   refine xq 11 [yB 45 true] [] ?_
   refine xe (zA (xa (zC (zB (xq 3 [yJ 9 3] [] ?_)))))
   refine xe (zA (zF (zE ?_)))
   refine yR (.tuple #[yS ⟨#[]⟩ 0,.int .i64 3]) fun w' R Q=>?_
   rw[show binR iP (bytes s) (bytes t) x y b=⟨false,0,0,3⟩ by unfold binR;rw[uP ⟨i,c⟩,uN H]]
   exact⟨rfl,R⟩
  refine xqc 35 [yS t y] 23 (fun y:ShI×Int=>shRF false y.2 y.1) _ (fun w R Q=>yM gS (iH t y _ (by omega) c)) fun G=>?_
  obtain⟨⟨K,L,M,N⟩,O⟩:=G
  refine xq 6 [(12,.p 12 0),yB 13 false] [yF 12 52 K L M N O] ?_
  refine xe (zA (zC (zC (zB (xq 6 [yB 31 true] [] ?_)))))
  refine xe (zA (xa (zC (zB (xq 3 [yJ 9 1] [] ?_)))))
  refine xe (zA (zF (zE ?_)))
  refine yR (.tuple #[yS ⟨#[]⟩ 0,.int .i64 1]) fun w' R Q=>?_
  rw[show binR iP (bytes s) (bytes t) x y b=⟨false,0,0,1⟩ from uN (fun h=>c h.2)]
  exact⟨rfl,R⟩
 refine xqc 35 [yS s x] 18 (fun y:ShI×Int=>shRF false y.2 y.1) _ (fun w R Q=>yM gS (iH s x _ (by omega) i)) fun G=>?_
 obtain⟨⟨P,S,T,U⟩,V⟩:=G
 refine xq 6 [(10,.p 10 0),yB 11 false] [yF 10 52 P S T U V] ?_
 refine xe (zA (zC (zB (xq 1 [(22,.v (yS t y))] [] ?_))))
 by_cases c:fvB (bytes t) y=true
 ·refine xqc 35 [yS t y] 23 (shRF true y) _ (fun w R Q=>yM iG (jG t y _ _ (by omega) c rfl)) fun⟨W,X,Y,Z⟩=>?_
  refine xq 6 [(12,.p 12 0),yB 13 true] [yF 12 52 W X Y Z y] ?_
  refine xe (zA (zC (zC (zB (xq 6 [yB 31 true] [] ?_)))))
  refine xe (zA (xa (zC (zB (xq 3 [yJ 9 1] [] ?_)))))
  refine xe (zA (zF (zE ?_)))
  refine yR (.tuple #[yS ⟨#[]⟩ 0,.int .i64 1]) fun w' R Q=>?_
  rw[show binR iP (bytes s) (bytes t) x y b=⟨false,0,0,1⟩ from uN (fun h=>i h.1)]
  exact⟨rfl,R⟩
 refine xqc 35 [yS t y] 23 (fun y:ShI×Int=>shRF false y.2 y.1) _ (fun w R Q=>yM gS (iH t y _ (by omega) c)) fun G=>?_
 obtain⟨⟨a0,b0,c0,d0⟩,e0⟩:=G
 refine xq 6 [(12,.p 12 0),yB 13 false] [yF 12 52 a0 b0 c0 d0 e0] ?_
 refine xe (zA (zC (zC (zB (xq 6 [yB 31 true] [] ?_)))))
 refine xe (zA (xa (zC (zB (xq 3 [yJ 9 1] [] ?_)))))
 refine xe (zA (zF (zE ?_)))
 refine yR (.tuple #[yS ⟨#[]⟩ 0,.int .i64 1]) fun w' R Q=>?_
 rw[show binR iP (bytes s) (bytes t) x y b=⟨false,0,0,1⟩ from uN (fun h=>i h.1)]
 exact⟨rfl,R⟩
theorem ZlP (s t:ByteArray)(x y b:Int)(w:World)(hs:(bytes s).length≤1000)(e0:(bytes t).length≤1000) :
 yA 52 #[.int .u8 47, yS s x, yS t y,.int .i64 b] w (kG w (binR jK (bytes s) (bytes t) x y b)):=by
 refine zX (Φ:=fun w=>True) Tryz.func52 rfl (by kernel_rfl) (fun w' hf=>trivial) ?_
 refine zC (zB (xq 4 [(5,.p 5 0),(6,.p 6 0),(8,.p 8 0),yJ 9 0] [yG 8 24 ⟨#[]⟩ 0,yG 6 24 t y,yG 5 24 s x] ?_))
 refine xe (zA (zC (zB (xq 1 [(17,.v (yS s x))] [] ?_))))
 by_cases q:fvB (bytes s) x=true
 ·refine xqc 35 [yS s x] 18 (shRF true x) _ (fun w R Q=>yM iG (jG s x _ _ (by omega) q rfl)) fun⟨u,z,A,B⟩=>?_
  refine xq 6 [(10,.p 10 0),yB 11 true] [yF 10 52 u z A B x] ?_
  refine xe (zA (zC (zB (xq 1 [(22,.v (yS t y))] [] ?_))))
  by_cases c:fvB (bytes t) y=true
  ·refine xqc 35 [yS t y] 23 (shRF true y) _ (fun w R Q=>yM iG (jG t y _ _ (by omega) c rfl)) fun⟨g,i,j,k⟩=>?_
   refine xq 6 [(12,.p 12 0),yB 13 true] [yF 12 52 g i j k y] ?_
   refine xe (zA (zC (zC (zB (xq 6 [yB 31 false] [] ?_)))))
   refine xe (zA (xb (zK (zA (zC (zC ?_))))))
   have hx:=wO q
   have f0:=hx.1
   have g0:=hx.2.1
   have hy:=wO c
   have h0:=hy.1
   have i0:=hy.2.1
   by_cases I:8≤b∧b≤1024
   ·obtain⟨n,hn⟩:∃ n:Nat,b=n:=⟨b.toNat,by omega⟩
    subst hn
    by_cases r:flM (bytes t)=0
    ·refine zB (xq 1 [yJ 33 (n:Int)] [] ?_)
     refine xqc 58 [.int .i64 (n:Int)] 34 (fun _:Unit=>.bool true) _ (fun w R Q=>(kJ _ _).mono (fun _ _ h=>zG h (by rw[uQ I]))) fun C=>?_
     refine xq 11 [yB 45 false] [] ?_
     refine xe (zA (xb (zK (zA (zC (zC (zB (xq 5 [yB 49 true,eI2 51 g i j k] [] ?_))))))))
     refine xqc 62 [vI2 g i j k] 52 (fun _:Unit=>.int .i64 0) _ (fun w R Q=>(wU _ (flM (bytes t)) _ Q.1.2).mono (fun _ _ h=>zG h (by rw[r];rfl))) fun C=>?_
     refine xq 2 [yB 54 true] [] ?_
     refine xe (zA (xa (zC (zB (xq 3 [yJ 9 5] [] ?_)))))
     refine xe (zA (zF (zE ?_)))
     refine yR (.tuple #[yS ⟨#[]⟩ 0,.int .i64 5]) fun w' R Q=>?_
     rw[show binR jK (bytes s) (bytes t) x y (n:Int)=jK (ldR (bytes s) x) (ldR (bytes t) y) n by unfold binR;rw[uP ⟨q,c⟩,uP I];rfl]
     rw[ZlK q c r]
     exact⟨rfl,R⟩
    refine zB (xq 1 [yJ 33 (n:Int)] [] ?_)
    refine xqc 58 [.int .i64 (n:Int)] 34 (fun _:Unit=>.bool true) _ (fun w R Q=>(kJ _ _).mono (fun _ _ h=>zG h (by rw[uQ I]))) fun C=>?_
    refine xq 11 [yB 45 false] [] ?_
    refine xe (zA (xb (zK (zA (zC (zC (zB (xq 5 [yB 49 true,eI2 51 g i j k] [] ?_))))))))
    refine xqc 62 [vI2 g i j k] 52 (fun _:Unit=>.int .i64 (Int.sign (flM (bytes t)))) _ (fun w R Q=>yN (wU _ (flM (bytes t)) _ Q.1.2)) fun C=>?_
    refine xq 1 [(53,.v (.bool (((Int.sign (flM (bytes t))):Int) == 0)))] [] ?_
    rw[(show (((Int.sign (flM (bytes t))):Int) == 0)=false by have:=mt vM.1 r;simpa using this)]
    refine xq 1 [yB 54 false] [] ?_
    refine xe (zA (xb (zK (zA (zC (zB (xq 4 [(14,.p 58 0)] [(58,84,[.v (.int .i64 (n:Int)),.v (.int .i64 0)])] ?_)))))))
    refine xe (zA (zC (zB (xr 1 [(0,.v (.int .u8 47)),(8,.p 8 0),yJ 9 0,(10,.p 10 0),(12,.p 12 0),(14,.p 58 0),(15,.p 15 0)] [yF 15 52 false none 0 0 0,(58,84,[.v (.int .i64 (n:Int)),.v (.int .i64 0)]),yF 12 52 g i j k y,yF 10 52 u z A B x,yG 8 24 ⟨#[]⟩ 0] ?_))))
    refine xe (zA (zC (zC (zB (xq 1 [(59,.v (.int .u8 47))] [] ?_)))))
    refine xe (zA (xH (zC (zB (xq 2 [yB 63 false] [] ?_)))))
    refine xe (zA (xb (zC (zB (xq 2 [yB 69 false] [] ?_)))))
    refine xe (zA (xb (zC (zB (xq 2 [yB 75 false] [] ?_)))))
    refine xe (zA (xb (zC (zB (xq 2 [yB 81 true] [] ?_)))))
    refine xe (zA (xa (zB (xq 3 [(83,.p 58 0),(84,.v (yV u z A B x)),(85,.v (yV g i j k y))] [] ?_))))
    obtain⟨a,o⟩:=yE (xK (decide (flM (bytes s)<0) != decide (flM (bytes t)<0)) (flM (bytes s)).natAbs (flM (bytes t)).natAbs (x-y) n)
    refine Zbj (b:=58) (t:=84) (cs:=[.v (.int .i64 (n:Int)),.v (.int .i64 0)]) 89 [yV u z A B x, yV g i j k y] (d:=86) (shF a.e) (fun _=>[.int .i64 (n:Int),.int .i64 a.err]) (fun y w=>zI w (zZ y) (sg a.s a.m)) (by kernel_rfl) (by kernel_rfl) (by kernel_rfl) (fun w q_ R Q hB=>(show Calls _ _ _ _ (RetC w q_ (n:Int) a) by rw[←o];exact Znq q_ n u z A B (flM (bytes s)) x g i j k (flM (bytes t)) y _ hB Q.1.1.1.2 Q.1.1.2 (cS q (by omega)) (cS c (by omega)) (by omega) (by omega) (by omega) (by omega) (by omega) (by omega) r).mono (fun _ _=>ZdK)) fun⟨D,E,F,G⟩=>?_
    refine xr 1 [(8,.p 8 0),yJ 9 0,(14,.p 58 0),(15,.p 15 0)] [yF 15 52 D E F G a.e,(58,84,[.v (.int .i64 (n:Int)),.v (.int .i64 a.err)]),yG 8 24 ⟨#[]⟩ 0] ?_
    refine xe (wX (zA (zC (zC (zB (xq 5 [yB 91 ((a.err:Int) != 0)] [] ?_))))))
    refine xe (zA ?_)
    refine yQ (((a.err:Int) != 0)) (fun H=>?_) fun H=>?_
    ·have f:=gK H
     refine zC ?_
     refine yO 7 zM ?_
     refine xqf 7 [yJ 9 a.err] [yG 8 24 ⟨#[]⟩ 0,yF 15 52 D E F G a.e,(58,84,[.v (.int .i64 (n:Int)),.v (.int .i64 a.err)]),yG 8 24 ⟨#[]⟩ 0] ?_
     refine xz (xe (zA (zF (zE ?_))))
     refine yR (.tuple #[yS ⟨#[]⟩ 0,.int .i64 a.err]) fun w' R Q=>?_
     rw[show binR jK (bytes s) (bytes t) x y (n:Int)=jK (ldR (bytes s) x) (ldR (bytes t) y) n by unfold binR;rw[uP ⟨q,c⟩,uP I];rfl]
     rw[Zi4 q c r,o]
     exact⟨by rw[ZdN f,ZdO f],R⟩
    have f:=gL H
    refine zK (zA (zC (zB (xq 1 [(97,.v (yV D E F G a.e))] [] ?_))))
    refine xqc 38 [yV D E F G a.e] 98 (fun _:Unit=>.agg #[.string ⟨(Lib.itoa (sg a.s a.m)).toArray⟩,.int .i64 a.e]) _ (fun w R Q=>yN (aL D E F G (sg a.s a.m) a.e _ Q.2 (by rw[jI,← o];exact uA (Zce (by omega) (by omega) (by omega)) (by decide)))) fun C=>?_
    refine xq 2 [yJ 9 0] [yG 8 24 ⟨(Lib.itoa (sg a.s a.m)).toArray⟩ a.e] ?_
    refine xe (zA (zF ?_))
    refine yR (.tuple #[yS ⟨(Lib.itoa (sg a.s a.m)).toArray⟩ a.e,.int .i64 0]) fun w' R Q=>?_
    rw[show binR jK (bytes s) (bytes t) x y (n:Int)=jK (ldR (bytes s) x) (ldR (bytes t) y) n by unfold binR;rw[uP ⟨q,c⟩,uP I];rfl]
    rw[Zi4 q c r,o]
    exact⟨by rw[ZdL f,ZdM f,f],R⟩
   refine zB (xq 1 [yJ 33 b] [] ?_)
   refine xqc 58 [.int .i64 b] 34 (fun _:Unit=>.bool false) _ (fun w R Q=>(kJ _ _).mono (fun _ _ h=>zG h (by rw[uJ I]))) fun C=>?_
   refine xq 11 [yB 45 true] [] ?_
   refine xe (zA (xa (zC (zB (xq 3 [yJ 9 3] [] ?_)))))
   refine xe (zA (zF (zE ?_)))
   refine yR (.tuple #[yS ⟨#[]⟩ 0,.int .i64 3]) fun w' R Q=>?_
   rw[show binR jK (bytes s) (bytes t) x y b=⟨false,0,0,3⟩ by unfold binR;rw[uP ⟨q,c⟩,uN I]]
   exact⟨rfl,R⟩
  refine xqc 35 [yS t y] 23 (fun y:ShI×Int=>shRF false y.2 y.1) _ (fun w R Q=>yM gS (iH t y _ (by omega) c)) fun C=>?_
  obtain⟨⟨J,K,L,M⟩,N⟩:=C
  refine xq 6 [(12,.p 12 0),yB 13 false] [yF 12 52 J K L M N] ?_
  refine xe (zA (zC (zC (zB (xq 6 [yB 31 true] [] ?_)))))
  refine xe (zA (xa (zC (zB (xq 3 [yJ 9 1] [] ?_)))))
  refine xe (zA (zF (zE ?_)))
  refine yR (.tuple #[yS ⟨#[]⟩ 0,.int .i64 1]) fun w' R Q=>?_
  rw[show binR jK (bytes s) (bytes t) x y b=⟨false,0,0,1⟩ from uN (fun h=>c h.2)]
  exact⟨rfl,R⟩
 refine xqc 35 [yS s x] 18 (fun y:ShI×Int=>shRF false y.2 y.1) _ (fun w R Q=>yM gS (iH s x _ (by omega) q)) fun C=>?_
 obtain⟨⟨O,P,S,T⟩,U⟩:=C
 refine xq 6 [(10,.p 10 0),yB 11 false] [yF 10 52 O P S T U] ?_
 refine xe (zA (zC (zB (xq 1 [(22,.v (yS t y))] [] ?_))))
 by_cases c:fvB (bytes t) y=true
 ·refine xqc 35 [yS t y] 23 (shRF true y) _ (fun w R Q=>yM iG (jG t y _ _ (by omega) c rfl)) fun⟨V,W,X,Y⟩=>?_
  refine xq 6 [(12,.p 12 0),yB 13 true] [yF 12 52 V W X Y y] ?_
  refine xe (zA (zC (zC (zB (xq 6 [yB 31 true] [] ?_)))))
  refine xe (zA (xa (zC (zB (xq 3 [yJ 9 1] [] ?_)))))
  refine xe (zA (zF (zE ?_)))
  refine yR (.tuple #[yS ⟨#[]⟩ 0,.int .i64 1]) fun w' R Q=>?_
  rw[show binR jK (bytes s) (bytes t) x y b=⟨false,0,0,1⟩ from uN (fun h=>q h.1)]
  exact⟨rfl,R⟩
 refine xqc 35 [yS t y] 23 (fun y:ShI×Int=>shRF false y.2 y.1) _ (fun w R Q=>yM gS (iH t y _ (by omega) c)) fun C=>?_
 obtain⟨⟨Z,a0,b0,c0⟩,d0⟩:=C
 refine xq 6 [(12,.p 12 0),yB 13 false] [yF 12 52 Z a0 b0 c0 d0] ?_
 refine xe (zA (zC (zC (zB (xq 6 [yB 31 true] [] ?_)))))
 refine xe (zA (xa (zC (zB (xq 3 [yJ 9 1] [] ?_)))))
 refine xe (zA (zF (zE ?_)))
 refine yR (.tuple #[yS ⟨#[]⟩ 0,.int .i64 1]) fun w' R Q=>?_
 rw[show binR jK (bytes s) (bytes t) x y b=⟨false,0,0,1⟩ from uN (fun h=>q h.1)]
 exact⟨rfl,R⟩
theorem ZjM (s:ByteArray)(x b:Int)(w:World)(hs:(bytes s).length≤1000)(W : -1000≤x)(T:x≤1000) :
 yA 52 #[.int .u8 115, yS s x, yS ⟨#[48]⟩ 0,.int .i64 b] w (kG w (sqF (bytes s) x b)):=by
 refine zX (Φ:=fun w=>True) Tryz.func52 rfl (by kernel_rfl) (fun w' hf=>trivial) ?_
 refine zC (zB (xq 4 [(5,.p 5 0),(6,.p 6 0),(8,.p 8 0),yJ 9 0] [yG 8 24 ⟨#[]⟩ 0,yG 6 24 ⟨#[48]⟩ 0,yG 5 24 s x] ?_))
 refine xe (zA (zC (zB (xq 1 [(17,.v (yS s x))] [] ?_))))
 by_cases o:fvB (bytes s) x=true
 ·refine xqc 35 [yS s x] 18 (shRF true x) _ (fun w R Q=>yM iG (jG s x _ _ (by omega) o rfl)) fun⟨f,g,i,j⟩=>?_
  refine xq 6 [(10,.p 10 0),yB 11 true] [yF 10 52 f g i j x] ?_
  refine xe (zA (zC (zB (xq 1 [(22,.v (yS ⟨#[48]⟩ 0))] [] ?_))))
  refine xqc 35 [yS ⟨#[48]⟩ 0] 23 (shRF true 0) _ (fun w R Q=>yM iG (jG ⟨#[48]⟩ 0 _ _ (by decide) fv48 rfl)) fun⟨E,F,G,H⟩=>?_
  refine xq 6 [(12,.p 12 0),yB 13 true] [yF 12 52 E F G H 0] ?_
  refine xe (zA (zC (zC (zB (xq 6 [yB 31 false] [] ?_)))))
  refine xe (zA (xb (zK (zA (zC (zC ?_))))))
  have U:=wO o
  have X:=U.1
  have Y:=U.2.1
  by_cases C:8≤b∧b≤1024
  ·obtain⟨n,Z⟩:∃ n:Nat,b=n:=⟨b.toNat,by omega⟩
   subst Z
   by_cases q:flM (bytes s)<0
   ·refine zB (xq 1 [yJ 33 (n:Int)] [] ?_)
    refine xqc 58 [.int .i64 (n:Int)] 34 (fun _:Unit=>.bool true) _ (fun w R Q=>(kJ _ _).mono (fun _ _ h=>zG h (by rw[uQ C]))) fun D=>?_
    refine xq 7 [yB 36 false,yB 39 true,eI2 41 f g i j] [] ?_
    refine xqc 62 [vI2 f g i j] 42 (fun _:Unit=>.int .i64 (-1)) _ (fun w R Q=>(wU _ (flM (bytes s)) _ Q.1.1.2).mono (fun _ _ h=>zG h (by rw[rR q]))) fun D=>?_
    refine xq 3 [yB 45 true] [] ?_
    refine xe (zA (xa (zC (zB (xq 3 [yJ 9 3] [] ?_)))))
    refine xe (zA (zF (zE ?_)))
    refine yR (.tuple #[yS ⟨#[]⟩ 0,.int .i64 3]) fun w' R Q=>?_
    rw[show sqF (bytes s) x (n:Int)=aO (ldR (bytes s) x) n by unfold sqF;rw[uP o,uP C];rfl]
    rw[ZlL o q]
    exact⟨rfl,R⟩
   refine zB (xq 1 [yJ 33 (n:Int)] [] ?_)
   refine xqc 58 [.int .i64 (n:Int)] 34 (fun _:Unit=>.bool true) _ (fun w R Q=>(kJ _ _).mono (fun _ _ h=>zG h (by rw[uQ C]))) fun D=>?_
   refine xq 7 [yB 36 false,yB 39 true,eI2 41 f g i j] [] ?_
   refine xqc 62 [vI2 f g i j] 42 (fun _:Unit=>.int .i64 (Int.sign (flM (bytes s)))) _ (fun w R Q=>yN (wU _ (flM (bytes s)) _ Q.1.1.2)) fun D=>?_
   refine xq 1 [(43,.v (.bool (decide ((Int.sign (flM (bytes s)))<0))))] [] ?_
   rw[(show (decide ((Int.sign (flM (bytes s)))<0))=false from uJ (fun e=>q (Int.sign_neg_iff.1 e)))]
   refine xq 2 [yB 45 false] [] ?_
   refine xe (zA (xb (zK (zA (zC (zC (zB (xq 8 [yB 54 false] [] ?_))))))))
   refine xe (zA (xb (zK (zA (zC (zB (xq 4 [(14,.p 58 0)] [(58,84,[.v (.int .i64 (n:Int)),.v (.int .i64 0)])] ?_)))))))
   refine xe (zA (zC (zB (xr 1 [(0,.v (.int .u8 115)),(8,.p 8 0),yJ 9 0,(10,.p 10 0),(12,.p 12 0),(14,.p 58 0),(15,.p 15 0)] [yF 15 52 false none 0 0 0,(58,84,[.v (.int .i64 (n:Int)),.v (.int .i64 0)]),yF 12 52 E F G H 0,yF 10 52 f g i j x,yG 8 24 ⟨#[]⟩ 0] ?_))))
   refine xe (zA (zC (zC (zB (xq 1 [(59,.v (.int .u8 115))] [] ?_)))))
   refine xe (zA (xH (zC (zB (xq 2 [yB 63 false] [] ?_)))))
   refine xe (zA (xb (zC (zB (xq 2 [yB 69 false] [] ?_)))))
   refine xe (zA (xb (zC (zB (xq 2 [yB 75 false] [] ?_)))))
   refine xe (zA (xb (zC (zB (xq 2 [yB 81 false] [] ?_)))))
   refine xe (zA (xb (zB (xq 2 [(60,.p 58 0),(61,.v (yV f g i j x))] [] ?_))))
   obtain⟨a,k⟩:=yE (sqR (flM (bytes s)).natAbs x n)
   refine Zbj (b:=58) (t:=84) (cs:=[.v (.int .i64 (n:Int)),.v (.int .i64 0)]) 90 [yV f g i j x] (d:=62) (shF a.e) (fun _=>[.int .i64 (n:Int),.int .i64 a.err]) (fun y w=>zI w (zZ y) (sg a.s a.m)) (by kernel_rfl) (by kernel_rfl) (by kernel_rfl) (fun w V R Q hB=>(show Calls _ _ _ _ (RetC w V (n:Int) a) by rw[←k];exact ZlF V n f g i j (flM (bytes s)).natAbs x _ hB (by rw[show (((flM (bytes s)).natAbs:Nat):Int)=flM (bytes s) by omega];exact Q.1.1.1.2) (cS o (by omega)) (by omega) (by omega) (by omega) (by omega)).mono (fun _ _=>ZdK)) fun⟨r,u,z,A⟩=>?_
   refine xr 1 [(8,.p 8 0),yJ 9 0,(14,.p 58 0),(15,.p 15 0)] [yF 15 52 r u z A a.e,(58,84,[.v (.int .i64 (n:Int)),.v (.int .i64 a.err)]),yG 8 24 ⟨#[]⟩ 0] ?_
   refine xe (wX (zA (zC (zC (zB (xq 5 [yB 91 ((a.err:Int) != 0)] [] ?_))))))
   refine xe (zA ?_)
   refine yQ (((a.err:Int) != 0)) (fun B=>?_) fun B=>?_
   ·have c:=gK B
    refine zC ?_
    refine yO 7 zM ?_
    refine xqf 7 [yJ 9 a.err] [yG 8 24 ⟨#[]⟩ 0,yF 15 52 r u z A a.e,(58,84,[.v (.int .i64 (n:Int)),.v (.int .i64 a.err)]),yG 8 24 ⟨#[]⟩ 0] ?_
    refine xz (xe (zA (zF (zE ?_))))
    refine yR (.tuple #[yS ⟨#[]⟩ 0,.int .i64 a.err]) fun w' R Q=>?_
    rw[show sqF (bytes s) x (n:Int)=aO (ldR (bytes s) x) n by unfold sqF;rw[uP o,uP C];rfl]
    rw[ZfZ o q,k]
    exact⟨by rw[ZdN c,ZdO c],R⟩
   have c:=gL B
   refine zK (zA (zC (zB (xq 1 [(97,.v (yV r u z A a.e))] [] ?_))))
   refine xqc 38 [yV r u z A a.e] 98 (fun _:Unit=>.agg #[.string ⟨(Lib.itoa (sg a.s a.m)).toArray⟩,.int .i64 a.e]) _ (fun w R Q=>yN (aL r u z A (sg a.s a.m) a.e _ Q.2 (by rw[jI,← k];exact uA (ZqT (by omega) (by omega)) (by decide)))) fun D=>?_
   refine xq 2 [yJ 9 0] [yG 8 24 ⟨(Lib.itoa (sg a.s a.m)).toArray⟩ a.e] ?_
   refine xe (zA (zF ?_))
   refine yR (.tuple #[yS ⟨(Lib.itoa (sg a.s a.m)).toArray⟩ a.e,.int .i64 0]) fun w' R Q=>?_
   rw[show sqF (bytes s) x (n:Int)=aO (ldR (bytes s) x) n by unfold sqF;rw[uP o,uP C];rfl]
   rw[ZfZ o q,k]
   exact⟨by rw[ZdL c,ZdM c,c],R⟩
  refine zB (xq 1 [yJ 33 b] [] ?_)
  refine xqc 58 [.int .i64 b] 34 (fun _:Unit=>.bool false) _ (fun w R Q=>(kJ _ _).mono (fun _ _ h=>zG h (by rw[uJ C]))) fun D=>?_
  refine xq 11 [yB 45 true] [] ?_
  refine xe (zA (xa (zC (zB (xq 3 [yJ 9 3] [] ?_)))))
  refine xe (zA (zF (zE ?_)))
  refine yR (.tuple #[yS ⟨#[]⟩ 0,.int .i64 3]) fun w' R Q=>?_
  rw[show sqF (bytes s) x b=⟨false,0,0,3⟩ by unfold sqF;rw[uP o,uN C]]
  exact⟨rfl,R⟩
 refine xqc 35 [yS s x] 18 (fun y:ShI×Int=>shRF false y.2 y.1) _ (fun w R Q=>yM gS (iH s x _ (by omega) o)) fun D=>?_
 obtain⟨⟨I,J,K,L⟩,M⟩:=D
 refine xq 6 [(10,.p 10 0),yB 11 false] [yF 10 52 I J K L M] ?_
 refine xe (zA (zC (zB (xq 1 [(22,.v (yS ⟨#[48]⟩ 0))] [] ?_))))
 refine xqc 35 [yS ⟨#[48]⟩ 0] 23 (shRF true 0) _ (fun w R Q=>yM iG (jG ⟨#[48]⟩ 0 _ _ (by decide) fv48 rfl)) fun⟨N,O,P,S⟩=>?_
 refine xq 6 [(12,.p 12 0),yB 13 true] [yF 12 52 N O P S 0] ?_
 refine xe (zA (zC (zC (zB (xq 6 [yB 31 true] [] ?_)))))
 refine xe (zA (xa (zC (zB (xq 3 [yJ 9 1] [] ?_)))))
 refine xe (zA (zF (zE ?_)))
 refine yR (.tuple #[yS ⟨#[]⟩ 0,.int .i64 1]) fun w' R Q=>?_
 rw[show sqF (bytes s) x b=⟨false,0,0,1⟩ from uN o]
 exact⟨rfl,R⟩
def ZaT (s:ByteArray) (x:Int):Prop:=s.size≤200 ∧ -300≤x∧x≤300
instance (s:ByteArray) (x:Int):Decidable (ZaT s x):=inferInstanceAs (Decidable (_∧_))
def aP (s:ByteArray) (x:Int):Prop:=s.size≤200∧¬ (x>300∧x<1048276)∧¬ (x < -300∧x > -1048276)
instance (s:ByteArray) (x:Int):Decidable (aP s x):=inferInstanceAs (Decidable (_∧_))
theorem Zhd (b:Nat)(s t:ByteArray)(x y:Int)(w:World)(o:Blk 24 w b #[.string s,.int .i64 x,.string t,.int .i64 y]) :
 yA 40 #[.slice (some ⟨b,0,none⟩) 2 2] w (RetV w (.bool (decide (ZaT s x∧ZaT t y)))):=by
 have p:=zh o
 clear o
 obtain⟨d,n⟩:=yE (decide (ZaT s x∧ZaT t y))
 rw[n]
 have f:=zh n
 clear n
 go_enter Tryz.func40,Tryz.ntmps40
 go_wp2
 go_loopw [7] (fun r wr=>∃ k:Nat,k≤2∧r=.int .i64 (k:Int)∧(1≤k→ZaT s x)∧(2≤k→ZaT t y)∧Hid (Ext w wr)) (fun v _=>2-(intOf v).toNat)
 case atStart=>exact⟨0,by omega,rfl,(fun h=>by omega),(fun h=>by omega),Fr.refl _ _⟩
 case round =>
  obtain⟨k,C,rfl,g,i,Q⟩:=hrel
  by_cases u:k<2
  ·have c:=p.out.ext Q.out
   have D:=c.cell 0
   have E:=c.cell 1
   have F:=c.cell 2
   have G:=c.cell 3
   clear c
   rcases (by omega:k=0∨k=1) with rfl|rfl
   ·by_cases z:(s.size:Int)>200
    ·have a:Hid (d=false):=f.out.symm.trans (uJ (fun h=>by have e:=h.1;obtain⟨j,l,m⟩:=e;omega))
     go_wp2
     go_ret
     exact⟨(vG (fun q=>Ending.returned (Value.bool q)) a.out).symm,Q.out.alloc _⟩
    by_cases A:x>300
    ·have a:Hid (d=false):=f.out.symm.trans (uJ (fun h=>by have e:=h.1;obtain⟨j,l,m⟩:=e;omega))
     go_wp2
     go_ret
     exact⟨(vG (fun q=>Ending.returned (Value.bool q)) a.out).symm,Q.out.alloc _⟩
    by_cases B:x < -300
    ·have a:Hid (d=false):=f.out.symm.trans (uJ (fun h=>by have e:=h.1;obtain⟨j,l,m⟩:=e;omega))
     go_wp2
     go_ret
     exact⟨(vG (fun q=>Ending.returned (Value.bool q)) a.out).symm,Q.out.alloc _⟩
    go_wp2
    go_roundw
    case rel=>exact⟨1,by omega,rfl,(fun _=>⟨by omega,by omega,by omega⟩),(fun h=>by omega),Q.out.alloc _⟩
    case measure=>simp[intOf]
   by_cases z:(t.size:Int)>200
   ·have a:Hid (d=false):=f.out.symm.trans (uJ (fun h=>by have e:=h.2;obtain⟨j,l,m⟩:=e;omega))
    go_wp2
    go_ret
    exact⟨(vG (fun q=>Ending.returned (Value.bool q)) a.out).symm,Q.out.alloc _⟩
   by_cases A:y>300
   ·have a:Hid (d=false):=f.out.symm.trans (uJ (fun h=>by have e:=h.2;obtain⟨j,l,m⟩:=e;omega))
    go_wp2
    go_ret
    exact⟨(vG (fun q=>Ending.returned (Value.bool q)) a.out).symm,Q.out.alloc _⟩
   by_cases B:y < -300
   ·have a:Hid (d=false):=f.out.symm.trans (uJ (fun h=>by have e:=h.2;obtain⟨j,l,m⟩:=e;omega))
    go_wp2
    go_ret
    exact⟨(vG (fun q=>Ending.returned (Value.bool q)) a.out).symm,Q.out.alloc _⟩
   go_wp2
   go_roundw
   case rel=>exact⟨2,by omega,rfl,(fun _=>g (by omega)),(fun h=>⟨by omega,by omega,by omega⟩),Q.out.alloc _⟩
   case measure=>simp[intOf]
  obtain rfl:k=2:=by omega
  have a:Hid (d=true):=f.out.symm.trans (uQ ⟨g (by omega),i (by omega)⟩)
  go_wp2
  go_ret
  exact⟨(vG (fun q=>Ending.returned (Value.bool q)) a.out).symm,Q.out⟩
theorem ZaU (b:Nat)(s t:ByteArray)(x y:Int)(w:World)(p:Blk 24 w b #[.string s,.int .i64 x,.string t,.int .i64 y]) :
 yA 51 #[.slice (some ⟨b,0,none⟩) 2 2] w (RetV w (.bool (decide (aP s x∧aP t y)))):=by
 have r:=zh p
 clear p
 obtain⟨d,n⟩:=yE (decide (aP s x∧aP t y))
 rw[n]
 have g:=zh n
 clear n
 go_enter Tryz.func51,Tryz.ntmps51
 go_wp2
 go_loopw [7] (fun u wr=>∃ k:Nat,k≤2∧u=.int .i64 (k:Int)∧(1≤k→aP s x)∧(2≤k→aP t y)∧Hid (Ext w wr)) (fun v _=>2-(intOf v).toNat)
 case atStart=>exact⟨0,by omega,rfl,(fun h=>by omega),(fun h=>by omega),Fr.refl _ _⟩
 case round =>
  obtain⟨k,E,rfl,f,i,Q⟩:=hrel
  by_cases z:k<2
  ·have c:=r.out.ext Q.out
   have F:=c.cell 0
   have G:=c.cell 1
   have H:=c.cell 2
   have I:=c.cell 3
   clear c
   rcases (by omega:k=0∨k=1) with rfl|rfl
   ·by_cases A:(s.size:Int)>200
    ·have a:Hid (d=false):=g.out.symm.trans (uJ (fun h=>by have e:=h.1;obtain⟨j,l,m⟩:=e;omega))
     go_wp2
     go_ret
     exact⟨(vG (fun q=>Ending.returned (Value.bool q)) a.out).symm,Q.out.alloc _⟩
    by_cases B:x>300
    ·by_cases C:x<1048276
     ·have a:Hid (d=false):=g.out.symm.trans (uJ (fun h=>by have e:=h.1;obtain⟨j,l,m⟩:=e;omega))
      go_wp2
      go_ret
      exact⟨(vG (fun q=>Ending.returned (Value.bool q)) a.out).symm,Q.out.alloc _⟩
     have o:¬ x < -300:=by omega
     go_wp2
     go_roundw
     case rel=>exact⟨1,by omega,rfl,(fun _=>⟨by omega,by omega,by omega⟩),(fun h=>by omega),Q.out.alloc _⟩
     case measure=>simp[intOf]
    by_cases o:x < -300
    ·by_cases D:x > -1048276
     ·have a:Hid (d=false):=g.out.symm.trans (uJ (fun h=>by have e:=h.1;obtain⟨j,l,m⟩:=e;omega))
      go_wp2
      go_ret
      exact⟨(vG (fun q=>Ending.returned (Value.bool q)) a.out).symm,Q.out.alloc _⟩
     go_wp2
     go_roundw
     case rel=>exact⟨1,by omega,rfl,(fun _=>⟨by omega,by omega,by omega⟩),(fun h=>by omega),Q.out.alloc _⟩
     case measure=>simp[intOf]
    go_wp2
    go_roundw
    case rel=>exact⟨1,by omega,rfl,(fun _=>⟨by omega,by omega,by omega⟩),(fun h=>by omega),Q.out.alloc _⟩
    case measure=>simp[intOf]
   by_cases A:(t.size:Int)>200
   ·have a:Hid (d=false):=g.out.symm.trans (uJ (fun h=>by have e:=h.2;obtain⟨j,l,m⟩:=e;omega))
    go_wp2
    go_ret
    exact⟨(vG (fun q=>Ending.returned (Value.bool q)) a.out).symm,Q.out.alloc _⟩
   by_cases B:y>300
   ·by_cases C:y<1048276
    ·have a:Hid (d=false):=g.out.symm.trans (uJ (fun h=>by have e:=h.2;obtain⟨j,l,m⟩:=e;omega))
     go_wp2
     go_ret
     exact⟨(vG (fun q=>Ending.returned (Value.bool q)) a.out).symm,Q.out.alloc _⟩
    have o:¬ y < -300:=by omega
    go_wp2
    go_roundw
    case rel=>exact⟨2,by omega,rfl,(fun _=>f (by omega)),(fun h=>⟨by omega,by omega,by omega⟩),Q.out.alloc _⟩
    case measure=>simp[intOf]
   by_cases o:y < -300
   ·by_cases D:y > -1048276
    ·have a:Hid (d=false):=g.out.symm.trans (uJ (fun h=>by have e:=h.2;obtain⟨j,l,m⟩:=e;omega))
     go_wp2
     go_ret
     exact⟨(vG (fun q=>Ending.returned (Value.bool q)) a.out).symm,Q.out.alloc _⟩
    go_wp2
    go_roundw
    case rel=>exact⟨2,by omega,rfl,(fun _=>f (by omega)),(fun h=>⟨by omega,by omega,by omega⟩),Q.out.alloc _⟩
    case measure=>simp[intOf]
   go_wp2
   go_roundw
   case rel=>exact⟨2,by omega,rfl,(fun _=>f (by omega)),(fun h=>⟨by omega,by omega,by omega⟩),Q.out.alloc _⟩
   case measure=>simp[intOf]
  obtain rfl:k=2:=by omega
  have a:Hid (d=true):=g.out.symm.trans (uQ ⟨f (by omega),i (by omega)⟩)
  go_wp2
  go_ret
  exact⟨(vG (fun q=>Ending.returned (Value.bool q)) a.out).symm,Q.out⟩
theorem Zi5 (s t:ByteArray)(x y b:Int)(w:World)(X:Glob w) :
 yA 12 #[yS s x, yS t y,.int .i64 b] w (RetV w (.bool true)):=by
 refine zX (Φ:=fun w=>Glob w) Tryz.func12 rfl (by kernel_rfl) (fun w' Y=>X.ext Y) ?_
 refine zC (zB (xq 3 [(3,.p 3 0),(4,.p 4 0),yB 6 false] [yG 4 24 t y,yG 3 24 s x] ?_))
 refine xe (zA ?_)
 refine Zbg (fun V W=>∃ (Z:Unit),V=ofL [yJ 2 b,(3,.p 3 0),(4,.p 4 0),yB 6 false] [yG 4 24 t y,yG 3 24 s x]∧W=(fun w=>Glob w)∧(s.size≤200)∧(t.size≤200)) ?_ ?_
 ·refine zC ?_
  by_cases m:aP s x∧aP t y
  ·obtain⟨⟨K,_⟩,⟨L,_⟩⟩:=id m
   by_cases q : -300≤x∧x≤300
   ·refine zB (xq 2 [(15,.v (yS s x)),(16,.v (yS t y))] [] ?_)
    refine yD (d:=17) (fun a:Nat=>.slice (some ⟨a,0,none⟩) 2 2) (fun a l=>Blk 24 l a #[.string s,.int .i64 x,.string t,.int .i64 y]) (fun w R Q=>xZ (t:=108) (e:=24) (n:=2) (sz:=2) (z:=.agg #[.string ⟨#[]⟩,.int .i64 0]) (parts:=#[(0,Operand.tmp 15),(1,Operand.tmp 16)]) (by kernel_rfl) (by kernel_rfl) (by kernel_rfl) (by kernel_rfl) (by kernel_rfl) (by kernel_rfl)) fun r=>?_
    refine xr 0 [yJ 2 b,(3,.p 3 0),(4,.p 4 0),yB 6 false,eS1 17 (some ⟨r,0,none⟩) 2 2] [yG 4 24 t y,yG 3 24 s x] ?_
    refine xqc 51 [.slice (some ⟨r,0,none⟩) 2 2] 18 (fun _:Unit=>.bool true) _ (fun w R Q=>(ZaU r s t x y _ Q.2).mono (fun _ _ h=>zG h (by rw[uQ m]))) fun i=>?_
    refine xq 3 [yB 20 false,(21,.v (yS s x))] [] ?_
    refine yD (d:=22) (fun a:Nat=>.slice (some ⟨a,0,none⟩) 1 1) (fun a l=>Blk 24 l a #[.string s,.int .i64 x]) (fun w R Q=>xZ (t:=108) (e:=24) (n:=1) (sz:=2) (z:=.agg #[.string ⟨#[]⟩,.int .i64 0]) (parts:=#[(0,Operand.tmp 21)]) (by kernel_rfl) (by kernel_rfl) (by kernel_rfl) (by kernel_rfl) (by kernel_rfl) (by kernel_rfl)) fun u=>?_
    refine xr 0 [yJ 2 b,(3,.p 3 0),(4,.p 4 0),yB 6 false,yB 20 false,eS1 22 (some ⟨u,0,none⟩) 1 1] [yG 4 24 t y,yG 3 24 s x] ?_
    refine xqc 40 [.slice (some ⟨u,0,none⟩) 1 1] 23 (fun _:Unit=>.bool true) _ (fun w R Q=>(ZaE u s x _ Q.2 (by omega)).mono (fun _ _ h=>zG h (by rw[uQ q]))) fun i=>?_
    refine xq 15 [yB 38 false] [] ?_
    refine xe (zA (xb (zK ?_)))
    refine yP [yJ 2 b,(3,.p 3 0),(4,.p 4 0),yB 6 false] [yG 4 24 t y,yG 3 24 s x] (fun w=>Glob w) (fun w Q=>Q.1.1.1.1) ?_
    exact kW ⟨(),rfl,rfl,(by omega),(by omega)⟩
   by_cases M : -300≤y∧y≤300
   ·refine zB (xq 2 [(15,.v (yS s x)),(16,.v (yS t y))] [] ?_)
    refine yD (d:=17) (fun a:Nat=>.slice (some ⟨a,0,none⟩) 2 2) (fun a l=>Blk 24 l a #[.string s,.int .i64 x,.string t,.int .i64 y]) (fun w R Q=>xZ (t:=108) (e:=24) (n:=2) (sz:=2) (z:=.agg #[.string ⟨#[]⟩,.int .i64 0]) (parts:=#[(0,Operand.tmp 15),(1,Operand.tmp 16)]) (by kernel_rfl) (by kernel_rfl) (by kernel_rfl) (by kernel_rfl) (by kernel_rfl) (by kernel_rfl)) fun A=>?_
    refine xr 0 [yJ 2 b,(3,.p 3 0),(4,.p 4 0),yB 6 false,eS1 17 (some ⟨A,0,none⟩) 2 2] [yG 4 24 t y,yG 3 24 s x] ?_
    refine xqc 51 [.slice (some ⟨A,0,none⟩) 2 2] 18 (fun _:Unit=>.bool true) _ (fun w R Q=>(ZaU A s t x y _ Q.2).mono (fun _ _ h=>zG h (by rw[uQ m]))) fun i=>?_
    refine xq 3 [yB 20 false,(21,.v (yS s x))] [] ?_
    refine yD (d:=22) (fun a:Nat=>.slice (some ⟨a,0,none⟩) 1 1) (fun a l=>Blk 24 l a #[.string s,.int .i64 x]) (fun w R Q=>xZ (t:=108) (e:=24) (n:=1) (sz:=2) (z:=.agg #[.string ⟨#[]⟩,.int .i64 0]) (parts:=#[(0,Operand.tmp 21)]) (by kernel_rfl) (by kernel_rfl) (by kernel_rfl) (by kernel_rfl) (by kernel_rfl) (by kernel_rfl)) fun B=>?_
    refine xr 0 [yJ 2 b,(3,.p 3 0),(4,.p 4 0),yB 6 false,yB 20 false,eS1 22 (some ⟨B,0,none⟩) 1 1] [yG 4 24 t y,yG 3 24 s x] ?_
    refine xqc 40 [.slice (some ⟨B,0,none⟩) 1 1] 23 (fun _:Unit=>.bool false) _ (fun w R Q=>(ZaE B s x _ Q.2 (by omega)).mono (fun _ _ h=>zG h (by rw[uJ q]))) fun i=>?_
    refine xq 3 [yB 25 true,(26,.v (yS t y))] [] ?_
    refine yD (d:=27) (fun a:Nat=>.slice (some ⟨a,0,none⟩) 1 1) (fun a l=>Blk 24 l a #[.string t,.int .i64 y]) (fun w R Q=>xZ (t:=108) (e:=24) (n:=1) (sz:=2) (z:=.agg #[.string ⟨#[]⟩,.int .i64 0]) (parts:=#[(0,Operand.tmp 26)]) (by kernel_rfl) (by kernel_rfl) (by kernel_rfl) (by kernel_rfl) (by kernel_rfl) (by kernel_rfl)) fun C=>?_
    refine xr 0 [yJ 2 b,(3,.p 3 0),(4,.p 4 0),yB 6 false,yB 20 false,yB 25 true,eS1 27 (some ⟨C,0,none⟩) 1 1] [yG 4 24 t y,yG 3 24 s x] ?_
    refine xqc 40 [.slice (some ⟨C,0,none⟩) 1 1] 28 (fun _:Unit=>.bool true) _ (fun w R Q=>(ZaE C t y _ Q.2 (by omega)).mono (fun _ _ h=>zG h (by rw[uQ M]))) fun i=>?_
    refine xq 10 [yB 38 false] [] ?_
    refine xe (zA (xb (zK ?_)))
    refine yP [yJ 2 b,(3,.p 3 0),(4,.p 4 0),yB 6 false] [yG 4 24 t y,yG 3 24 s x] (fun w=>Glob w) (fun w Q=>Q.1.1.1.1.1.1) ?_
    exact kW ⟨(),rfl,rfl,(by omega),(by omega)⟩
   refine zB (xq 2 [(15,.v (yS s x)),(16,.v (yS t y))] [] ?_)
   refine yD (d:=17) (fun a:Nat=>.slice (some ⟨a,0,none⟩) 2 2) (fun a l=>Blk 24 l a #[.string s,.int .i64 x,.string t,.int .i64 y]) (fun w R Q=>xZ (t:=108) (e:=24) (n:=2) (sz:=2) (z:=.agg #[.string ⟨#[]⟩,.int .i64 0]) (parts:=#[(0,Operand.tmp 15),(1,Operand.tmp 16)]) (by kernel_rfl) (by kernel_rfl) (by kernel_rfl) (by kernel_rfl) (by kernel_rfl) (by kernel_rfl)) fun D=>?_
   refine xr 0 [yJ 2 b,(3,.p 3 0),(4,.p 4 0),yB 6 false,eS1 17 (some ⟨D,0,none⟩) 2 2] [yG 4 24 t y,yG 3 24 s x] ?_
   refine xqc 51 [.slice (some ⟨D,0,none⟩) 2 2] 18 (fun _:Unit=>.bool true) _ (fun w R Q=>(ZaU D s t x y _ Q.2).mono (fun _ _ h=>zG h (by rw[uQ m]))) fun i=>?_
   refine xq 3 [yB 20 false,(21,.v (yS s x))] [] ?_
   refine yD (d:=22) (fun a:Nat=>.slice (some ⟨a,0,none⟩) 1 1) (fun a l=>Blk 24 l a #[.string s,.int .i64 x]) (fun w R Q=>xZ (t:=108) (e:=24) (n:=1) (sz:=2) (z:=.agg #[.string ⟨#[]⟩,.int .i64 0]) (parts:=#[(0,Operand.tmp 21)]) (by kernel_rfl) (by kernel_rfl) (by kernel_rfl) (by kernel_rfl) (by kernel_rfl) (by kernel_rfl)) fun E=>?_
   refine xr 0 [yJ 2 b,(3,.p 3 0),(4,.p 4 0),yB 6 false,yB 20 false,eS1 22 (some ⟨E,0,none⟩) 1 1] [yG 4 24 t y,yG 3 24 s x] ?_
   refine xqc 40 [.slice (some ⟨E,0,none⟩) 1 1] 23 (fun _:Unit=>.bool false) _ (fun w R Q=>(ZaE E s x _ Q.2 (by omega)).mono (fun _ _ h=>zG h (by rw[uJ q]))) fun i=>?_
   refine xq 3 [yB 25 true,(26,.v (yS t y))] [] ?_
   refine yD (d:=27) (fun a:Nat=>.slice (some ⟨a,0,none⟩) 1 1) (fun a l=>Blk 24 l a #[.string t,.int .i64 y]) (fun w R Q=>xZ (t:=108) (e:=24) (n:=1) (sz:=2) (z:=.agg #[.string ⟨#[]⟩,.int .i64 0]) (parts:=#[(0,Operand.tmp 26)]) (by kernel_rfl) (by kernel_rfl) (by kernel_rfl) (by kernel_rfl) (by kernel_rfl) (by kernel_rfl)) fun F=>?_
   refine xr 0 [yJ 2 b,(3,.p 3 0),(4,.p 4 0),yB 6 false,yB 20 false,yB 25 true,eS1 27 (some ⟨F,0,none⟩) 1 1] [yG 4 24 t y,yG 3 24 s x] ?_
   refine xqc 40 [.slice (some ⟨F,0,none⟩) 1 1] 28 (fun _:Unit=>.bool false) _ (fun w R Q=>(ZaE F t y _ Q.2 (by omega)).mono (fun _ _ h=>zG h (by rw[uJ M]))) fun i=>?_
   refine xq 10 [yB 38 ((x:Int) != y)] [] ?_
   refine xe (zA ?_)
   refine yQ (((x:Int) != y)) (fun o=>?_) fun o=>?_
   ·have G:=gK o
    refine zC (zB ?_)
    refine xqc 14 [] 39 (fun _:Unit=>.bool true) _ (fun w R Q=>yN (Zat _ Q.1.1.1.1.1.1)) fun i=>?_
    refine xq 1 [yB 6 true] [] ?_
    refine xe (zA (zF (zE ?_)))
    refine yR (.bool true) fun w' R Q=>?_
    exact⟨rfl,R⟩
   have G:=gL o
   refine zK ?_
   refine yP [yJ 2 b,(3,.p 3 0),(4,.p 4 0),yB 6 false] [yG 4 24 t y,yG 3 24 s x] (fun w=>Glob w) (fun w Q=>Q.1.1.1.1.1.1) ?_
   exact kW ⟨(),rfl,rfl,(by omega),(by omega)⟩
  refine zB (xq 2 [(15,.v (yS s x)),(16,.v (yS t y))] [] ?_)
  refine yD (d:=17) (fun a:Nat=>.slice (some ⟨a,0,none⟩) 2 2) (fun a l=>Blk 24 l a #[.string s,.int .i64 x,.string t,.int .i64 y]) (fun w R Q=>xZ (t:=108) (e:=24) (n:=2) (sz:=2) (z:=.agg #[.string ⟨#[]⟩,.int .i64 0]) (parts:=#[(0,Operand.tmp 15),(1,Operand.tmp 16)]) (by kernel_rfl) (by kernel_rfl) (by kernel_rfl) (by kernel_rfl) (by kernel_rfl) (by kernel_rfl)) fun H=>?_
  refine xr 0 [yJ 2 b,(3,.p 3 0),(4,.p 4 0),yB 6 false,eS1 17 (some ⟨H,0,none⟩) 2 2] [yG 4 24 t y,yG 3 24 s x] ?_
  refine xqc 51 [.slice (some ⟨H,0,none⟩) 2 2] 18 (fun _:Unit=>.bool false) _ (fun w R Q=>(ZaU H s t x y _ Q.2).mono (fun _ _ h=>zG h (by rw[uJ m]))) fun i=>?_
  refine xq 20 [yB 38 true] [] ?_
  refine xe (zA (xa (zC (zB ?_))))
  refine xqc 14 [] 39 (fun _:Unit=>.bool true) _ (fun w R Q=>yN (Zat _ Q.1.1)) fun i=>?_
  refine xq 1 [yB 6 true] [] ?_
  refine xe (zA (zF (zE ?_)))
  refine yR (.bool true) fun w' R Q=>?_
  exact⟨rfl,R⟩
 rintro V W ⟨Z,rfl,rfl,K,L⟩
 refine zC ?_
 have hs:(bytes s).length≤200:=by rw[zQ];exact K
 have a0:(bytes t).length≤200:=by rw[zQ];exact L
 obtain⟨c,N⟩:=yE (binR iN (bytes s) (bytes t) x y b)
 obtain⟨f,O⟩:=yE (binR jK (bytes s) (bytes t) x y b)
 obtain⟨g,P⟩:=yE (binR iM (bytes s) (bytes t) x y b)
 obtain⟨j,S⟩:=yE (binR iP (bytes s) (bytes t) x y b)
 obtain⟨k,T⟩:=yE (sqF (bytes s) x b)
 refine zB (xq 3 [(41,.v (yS s x)),(42,.v (yS t y)),yJ 43 b] [] ?_)
 refine xqc 44 [yS s x, yS t y,.int .i64 b] 44 (fun _:Unit=>.tuple #[yS ⟨(frT c).toArray⟩ (frE c),.int .i64 c.err]) _ (fun w R Q=>yN ((show Calls _ _ _ _ (kG _ c) by rw[←N];exact Zor s t x y b _ Q (by omega) (by omega)))) fun i=>?_
 refine xq 6 [(7,.p 7 0),yJ 8 c.err] [yG 7 24 ⟨(frT c).toArray⟩ (frE c)] ?_
 refine xe (zA (zC (zB (xq 3 [(48,.v (yS s x)),(49,.v (yS t y)),yJ 50 b] [] ?_))))
 refine xqc 52 [.int .u8 42, yS s x, yS t y,.int .i64 b] 51 (fun _:Unit=>.tuple #[yS ⟨(frT c).toArray⟩ (frE c),.int .i64 c.err]) _ (fun w R Q=>yN ((show Calls _ _ _ _ (kG _ c) by rw[←N];exact ZlM s t x y b _ (by omega) (by omega)))) fun i=>?_
 refine xq 6 [(9,.p 9 0),yJ 10 c.err] [yG 9 24 ⟨(frT c).toArray⟩ (frE c)] ?_
 refine xe (zA (zC (zB (xq 3 [(55,.v (yS s x)),(56,.v (yS t y)),yJ 57 b] [] ?_))))
 refine xqc 45 [yS s x, yS t y,.int .i64 b] 58 (fun _:Unit=>.tuple #[yS ⟨(frT f).toArray⟩ (frE f),.int .i64 f.err]) _ (fun w R Q=>yN ((show Calls _ _ _ _ (kG _ f) by rw[←O];exact Zos s t x y b _ Q.1.1 (by omega) (by omega)))) fun i=>?_
 refine xq 6 [(11,.p 11 0),yJ 12 f.err] [yG 11 24 ⟨(frT f).toArray⟩ (frE f)] ?_
 refine xe (zA (zC (zB (xq 3 [(62,.v (yS s x)),(63,.v (yS t y)),yJ 64 b] [] ?_))))
 refine xqc 52 [.int .u8 47, yS s x, yS t y,.int .i64 b] 65 (fun _:Unit=>.tuple #[yS ⟨(frT f).toArray⟩ (frE f),.int .i64 f.err]) _ (fun w R Q=>yN ((show Calls _ _ _ _ (kG _ f) by rw[←O];exact ZlP s t x y b _ (by omega) (by omega)))) fun i=>?_
 refine xq 6 [(13,.p 13 0),yJ 14 f.err] [yG 13 24 ⟨(frT f).toArray⟩ (frE f)] ?_
 refine xe (zA (zC (zC (zB (xq 4 [(68,.v (yS ⟨(frT c).toArray⟩ (frE c))),yJ 69 c.err,(70,.v (yS ⟨(frT c).toArray⟩ (frE c))),yJ 71 c.err] [] ?_)))))
 refine xqc 17 [yS ⟨(frT c).toArray⟩ (frE c),.int .i64 c.err, yS ⟨(frT c).toArray⟩ (frE c),.int .i64 c.err] 72 (fun _:Unit=>.bool true) _ (fun w R Q=>yN (aM _ _ _ _)) fun i=>?_
 refine xq 6 [yB 74 false,(75,.v (yS ⟨(frT f).toArray⟩ (frE f))),yJ 76 f.err,(77,.v (yS ⟨(frT f).toArray⟩ (frE f))),yJ 78 f.err] [] ?_
 refine xqc 17 [yS ⟨(frT f).toArray⟩ (frE f),.int .i64 f.err, yS ⟨(frT f).toArray⟩ (frE f),.int .i64 f.err] 79 (fun _:Unit=>.bool true) _ (fun w R Q=>yN (aM _ _ _ _)) fun i=>?_
 refine xq 2 [yB 81 false] [] ?_
 refine xe (zA (xb (zK (zA (zC (zC ?_))))))
 by_cases U:ZaT s x∧ZaT t y
 ·obtain⟨⟨_,b0,c0⟩,⟨_,d0,e0⟩⟩:=id U
  refine zB (xq 2 [(82,.v (yS s x)),(83,.v (yS t y))] [] ?_)
  refine yD (d:=84) (fun a:Nat=>.slice (some ⟨a,0,none⟩) 2 2) (fun a l=>Blk 24 l a #[.string s,.int .i64 x,.string t,.int .i64 y]) (fun w R Q=>xZ (t:=108) (e:=24) (n:=2) (sz:=2) (z:=.agg #[.string ⟨#[]⟩,.int .i64 0]) (parts:=#[(0,Operand.tmp 82),(1,Operand.tmp 83)]) (by kernel_rfl) (by kernel_rfl) (by kernel_rfl) (by kernel_rfl) (by kernel_rfl) (by kernel_rfl)) fun I=>?_
  refine xr 0 [yJ 2 b,(3,.p 3 0),(4,.p 4 0),yB 6 false,(7,.p 7 0),yJ 8 c.err,(9,.p 9 0),yJ 10 c.err,(11,.p 11 0),yJ 12 f.err,(13,.p 13 0),yJ 14 f.err,eS1 84 (some ⟨I,0,none⟩) 2 2] [yG 13 24 ⟨(frT f).toArray⟩ (frE f),yG 11 24 ⟨(frT f).toArray⟩ (frE f),yG 9 24 ⟨(frT c).toArray⟩ (frE c),yG 7 24 ⟨(frT c).toArray⟩ (frE c),yG 4 24 t y,yG 3 24 s x] ?_
  refine xqc 40 [.slice (some ⟨I,0,none⟩) 2 2] 85 (fun _:Unit=>.bool true) _ (fun w R Q=>(Zhd I s t x y _ Q.2).mono (fun _ _ h=>zG h (by rw[uQ U]))) fun i=>?_
  refine xq 1 [yB 86 false] [] ?_
  refine xe (zA (xb (zK (zA (zC (zB (xq 3 [(89,.v (yS s x)),(90,.v (yS t y)),yJ 91 b] [] ?_)))))))
  refine xqc 46 [yS s x, yS t y,.int .i64 b] 92 (fun _:Unit=>.tuple #[yS ⟨(frT g).toArray⟩ (frE g),.int .i64 g.err]) _ (fun w R Q=>yN ((show Calls _ _ _ _ (kG _ g) by rw[←P];exact Zoq s t x y b _ Q.1.1.1.1.1.1.1.1 (by omega) (by omega)))) fun i=>?_
  refine xq 5 [yJ 8 g.err] [yG 7 24 ⟨(frT g).toArray⟩ (frE g)] ?_
  refine xe (zA (zC (zB (xq 3 [(96,.v (yS s x)),(97,.v (yS t y)),yJ 98 b] [] ?_))))
  refine xqc 52 [.int .u8 43, yS s x, yS t y,.int .i64 b] 99 (fun _:Unit=>.tuple #[yS ⟨(frT g).toArray⟩ (frE g),.int .i64 g.err]) _ (fun w R Q=>yN ((show Calls _ _ _ _ (kG _ g) by rw[←P];exact ZlN s t x y b _ (by omega) (by omega) (by omega) (by omega)))) fun i=>?_
  refine xq 5 [yJ 10 g.err] [yG 9 24 ⟨(frT g).toArray⟩ (frE g)] ?_
  refine xe (zA (zC (zB (xq 3 [(103,.v (yS s x)),(104,.v (yS t y)),yJ 105 b] [] ?_))))
  refine xqc 53 [yS s x, yS t y,.int .i64 b] 106 (fun _:Unit=>.tuple #[yS ⟨(frT j).toArray⟩ (frE j),.int .i64 j.err]) _ (fun w R Q=>yN ((show Calls _ _ _ _ (kG _ j) by rw[←S];exact ZoD s t x y b _ Q.1.1.1.1.1.1.1.1.1.1 (by omega) (by omega)))) fun i=>?_
  refine xq 5 [yJ 12 j.err] [yG 11 24 ⟨(frT j).toArray⟩ (frE j)] ?_
  refine xe (zA (zC (zB (xq 3 [(110,.v (yS s x)),(111,.v (yS t y)),yJ 112 b] [] ?_))))
  refine xqc 52 [.int .u8 45, yS s x, yS t y,.int .i64 b] 113 (fun _:Unit=>.tuple #[yS ⟨(frT j).toArray⟩ (frE j),.int .i64 j.err]) _ (fun w R Q=>yN ((show Calls _ _ _ _ (kG _ j) by rw[←S];exact ZlO s t x y b _ (by omega) (by omega) (by omega) (by omega)))) fun i=>?_
  refine xq 5 [yJ 14 j.err] [yG 13 24 ⟨(frT j).toArray⟩ (frE j)] ?_
  refine xe (zA (zC (zC (zB (xq 4 [(116,.v (yS ⟨(frT g).toArray⟩ (frE g))),yJ 117 g.err,(118,.v (yS ⟨(frT g).toArray⟩ (frE g))),yJ 119 g.err] [] ?_)))))
  refine xqc 17 [yS ⟨(frT g).toArray⟩ (frE g),.int .i64 g.err, yS ⟨(frT g).toArray⟩ (frE g),.int .i64 g.err] 120 (fun _:Unit=>.bool true) _ (fun w R Q=>yN (aM _ _ _ _)) fun i=>?_
  refine xq 6 [yB 122 false,(123,.v (yS ⟨(frT j).toArray⟩ (frE j))),yJ 124 j.err,(125,.v (yS ⟨(frT j).toArray⟩ (frE j))),yJ 126 j.err] [] ?_
  refine xqc 17 [yS ⟨(frT j).toArray⟩ (frE j),.int .i64 j.err, yS ⟨(frT j).toArray⟩ (frE j),.int .i64 j.err] 127 (fun _:Unit=>.bool true) _ (fun w R Q=>yN (aM _ _ _ _)) fun i=>?_
  refine xq 2 [yB 129 false] [] ?_
  refine xe (zA (xb (zK (zA (zC (zB (xr 2 [yJ 2 b,(3,.p 3 0),yB 6 false,(7,.p 7 0),yJ 8 g.err,(9,.p 9 0),yJ 10 g.err,(131,.v (yS s x)),yJ 132 b] [yG 9 24 ⟨(frT g).toArray⟩ (frE g),yG 7 24 ⟨(frT g).toArray⟩ (frE g),yG 3 24 s x] ?_)))))))
  refine xqc 49 [yS s x,.int .i64 b] 133 (fun _:Unit=>.tuple #[yS ⟨(frT k).toArray⟩ (frE k),.int .i64 k.err]) _ (fun w R Q=>yN ((show Calls _ _ _ _ (kG _ k) by rw[←T];exact Zny s x b _ Q.1.1.1.1.1.1.1.1.1.1.1.1.1.1 (by omega)))) fun i=>?_
  refine xq 5 [yJ 8 k.err] [yG 7 24 ⟨(frT k).toArray⟩ (frE k)] ?_
  refine xe (zA (zC (zB (xq 3 [(137,.v (yS s x)),(138,.v (yS ⟨#[48]⟩ 0)),yJ 139 b] [] ?_))))
  refine xqc 52 [.int .u8 115, yS s x, yS ⟨#[48]⟩ 0,.int .i64 b] 140 (fun _:Unit=>.tuple #[yS ⟨(frT k).toArray⟩ (frE k),.int .i64 k.err]) _ (fun w R Q=>yN ((show Calls _ _ _ _ (kG _ k) by rw[←T];exact ZjM s x b _ (by omega) (by omega) (by omega)))) fun i=>?_
  refine xq 5 [yJ 10 k.err] [yG 9 24 ⟨(frT k).toArray⟩ (frE k)] ?_
  refine xe (zA (zC (zB ?_)))
  refine xqc 14 [] 143 (fun _:Unit=>.bool true) _ (fun w R Q=>yN (Zat _ Q.1.1.1.1.1.1.1.1.1.1.1.1.1.1.1.1)) fun i=>?_
  refine xq 5 [yB 144 true,(145,.v (yS ⟨(frT k).toArray⟩ (frE k))),yJ 146 k.err,(147,.v (yS ⟨(frT k).toArray⟩ (frE k))),yJ 148 k.err] [] ?_
  refine xqc 17 [yS ⟨(frT k).toArray⟩ (frE k),.int .i64 k.err, yS ⟨(frT k).toArray⟩ (frE k),.int .i64 k.err] 149 (fun _:Unit=>.bool true) _ (fun w R Q=>yN (aM _ _ _ _)) fun i=>?_
  refine xq 2 [yB 6 true] [] ?_
  refine xe (zA (zF ?_))
  refine yR (.bool true) fun w' R Q=>?_
  exact⟨rfl,R⟩
 refine zB (xq 2 [(82,.v (yS s x)),(83,.v (yS t y))] [] ?_)
 refine yD (d:=84) (fun a:Nat=>.slice (some ⟨a,0,none⟩) 2 2) (fun a l=>Blk 24 l a #[.string s,.int .i64 x,.string t,.int .i64 y]) (fun w R Q=>xZ (t:=108) (e:=24) (n:=2) (sz:=2) (z:=.agg #[.string ⟨#[]⟩,.int .i64 0]) (parts:=#[(0,Operand.tmp 82),(1,Operand.tmp 83)]) (by kernel_rfl) (by kernel_rfl) (by kernel_rfl) (by kernel_rfl) (by kernel_rfl) (by kernel_rfl)) fun J=>?_
 refine xr 0 [yJ 2 b,(3,.p 3 0),(4,.p 4 0),yB 6 false,(7,.p 7 0),yJ 8 c.err,(9,.p 9 0),yJ 10 c.err,(11,.p 11 0),yJ 12 f.err,(13,.p 13 0),yJ 14 f.err,eS1 84 (some ⟨J,0,none⟩) 2 2] [yG 13 24 ⟨(frT f).toArray⟩ (frE f),yG 11 24 ⟨(frT f).toArray⟩ (frE f),yG 9 24 ⟨(frT c).toArray⟩ (frE c),yG 7 24 ⟨(frT c).toArray⟩ (frE c),yG 4 24 t y,yG 3 24 s x] ?_
 refine xqc 40 [.slice (some ⟨J,0,none⟩) 2 2] 85 (fun _:Unit=>.bool false) _ (fun w R Q=>(Zhd J s t x y _ Q.2).mono (fun _ _ h=>zG h (by rw[uJ U]))) fun i=>?_
 refine xq 1 [yB 86 true] [] ?_
 refine xe (zA (xa (zC (zB ?_))))
 refine xqc 14 [] 87 (fun _:Unit=>.bool true) _ (fun w R Q=>yN (Zat _ Q.1.1.1.1.1.1.1.1)) fun i=>?_
 refine xq 1 [yB 6 true] [] ?_
 refine xe (zA (zF (zE ?_)))
 refine yR (.bool true) fun w' R Q=>?_
 exact⟨rfl,R⟩
theorem Zek (A:Option Addr)(l c:Nat)(t:List Int)(b:Int)(w:World)(u:Glob w)(I:t.length=l)(E:iB w A t)(y:l≤c) :
 yA 11 #[.slice A l c,.int .i64 b] w (RetV w (.bool true)):=by
 obtain⟨n0,z⟩:=yE w.heap.size
 obtain⟨k,F⟩:=yE (min l 400)
 have a:=E.take k
 have e:(t.take k).length=k:=by rw[vE];omega
 refine zX (Φ:=fun w=>True) Tryz.func11 rfl (by kernel_rfl) (fun w' J=>trivial) ?_
 refine zC (zB (xq 1 [yB 4 false] [] ?_))
 refine xe (zA (zC (zB (xq 1 [eS1 6 A l c] [] ?_))))
 refine xqc 47 [.slice A l c] 7 (fun g:Nat=>.pointer (some ⟨g,0,none⟩)) _ (fun w R Q=>(ZpZ A l c _ y).mono (fun _ _ h=>ZoC (n0:=n0) (by rw[←z];exact R.size) (by rw[F] at h;exact h))) fun g=>?_
 refine xq 1 [(5,.v (.pointer (some ⟨g,0,none⟩)))] [] ?_
 refine xe (zA (zC ?_))
 refine SXc.know (p:=n0≤g) (fun w _ Q=>(Q.2).1) fun G=>?_
 have f:=a.apart (g:=g) (by omega)
 refine yC [yJ 1 b,yB 4 false,(5,.v (.pointer (some ⟨g,0,none⟩)))] [] (fun w=>TB w g A k c 0) (fun w Q=>(Q.2).2) ?_
 refine zB (xq 1 [(8,.v (.pointer (some ⟨g,0,none⟩)))] [] ?_)
 refine wQ 48 [.pointer (some ⟨g,0,none⟩)] (d:=9) (fun x:{q:Int×Int×Nat // TF q.1 q.2.1∧q.2.2≤k}=>.agg #[.string ⟨(Lib.itoa x.1.1).toArray⟩,.int .i64 x.1.2.1]) (fun x=>#[.slice A k c,.int .i64 ((x.1.2.2:Nat):Int)]) (fun _ _=>True) (fun _=>True) (fun w Q=>Q) (vK _) (Or.inl (by omega)) (fun w R Q=>yM ZkB (ZfY g A k c 0 _ _ (Q) (by omega) (a.ext R) e (by omega) f)) (fun _ _ _ _=>trivial) fun o=>?_
 obtain⟨⟨r,s,B⟩,i,j⟩:=o
 dsimp only at i j
 refine xr 1 [yJ 1 b,yB 4 false,(9,.v (yS ⟨(Lib.itoa r).toArray⟩ s)),(10,.v (.pointer (some ⟨g,0,none⟩)))] [] ?_
 refine wQ 48 [.pointer (some ⟨g,0,none⟩)] (d:=11) (fun x:{q:Int×Int×Nat // TF q.1 q.2.1∧q.2.2≤k}=>.agg #[.string ⟨(Lib.itoa x.1.1).toArray⟩,.int .i64 x.1.2.1]) (fun x=>#[.slice A k c,.int .i64 ((x.1.2.2:Nat):Int)]) (fun _ _=>True) (fun _=>True) (fun w Q=>Q.1.2) (vK _) (Or.inl (by omega)) (fun w R Q=>yM ZkB (ZfY g A k c B _ _ (Q.1.2) (by omega) (a.ext R) e (by omega) f)) (fun _ _ _ _=>trivial) fun o=>?_
 obtain⟨⟨C,D,H⟩,m,n⟩:=o
 dsimp only at m n
 refine xr 5 [yB 4 false,(9,.v (yS ⟨(Lib.itoa r).toArray⟩ s)),(11,.v (yS ⟨(Lib.itoa C).toArray⟩ D)),(16,.v (.int .i64 (IntKind.i64.wrap (8+(((IntKind.i64.wrap (((b).tmod 57)+57))).tmod 57)))))] [] ?_
 refine xqc 12 [yS ⟨(Lib.itoa r).toArray⟩ s, yS ⟨(Lib.itoa C).toArray⟩ D,.int .i64 (IntKind.i64.wrap (8+(((IntKind.i64.wrap (((b).tmod 57)+57))).tmod 57)))] 17 (fun _:Unit=>.bool true) _ (fun w R Q=>(Zi5 ⟨(Lib.itoa r).toArray⟩ ⟨(Lib.itoa C).toArray⟩ s D ((IntKind.i64.wrap (8+(((IntKind.i64.wrap (((b).tmod 57)+57))).tmod 57)))) _ (u.ext R)).mono (fun _ _ h=>zG h rfl)) fun o=>?_
 refine xq 1 [yB 4 true] [] ?_
 refine xe (zA (zF ?_))
 refine yR (.bool true) fun w' R Q=>?_
 exact⟨rfl,R⟩
end Go.Proofs.YtklpdkpcocnglaaGreatDoor
