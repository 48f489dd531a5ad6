/-
 My texts Iw, Sm, Sd, Sdr, Pi, Wi, Fid, Ce, FdL put together.
-/
import Derived.Test.YtoanifijmlgcgaaGreatDoorD22
import Derived.Test.YtoanifijmlgcgaaGreatDoorD19
import Derived.Test.YtoanifijmlgcgaaGreatDoorD21
import Derived.Test.YtoanifijmlgcgaaGreatDoorD16
set_option maxRecDepth 100000
set_option maxHeartbeats 8000000
namespace Go.Proofs.YtoanifijmlgcgaaGreatDoor
open Go.RowKit
theorem OwnD.base {w:World}{m k c n:Nat}{e:TypeId}{A:Option Addr}{xs:List Value}(h:OwnD w m e k A c n xs)(d:0<n):∃ b,A=some ⟨b,0,none⟩:=by
 rcases h.2 with ⟨_,_,a⟩|⟨g,_,a,_⟩
 ·omega
 exact⟨g,a⟩
theorem ZnS {n:Nat}{c:List Int}(d:n=1∨n=2)(h:EX n c):decide (0≤degF c)=true:=by
 refine uI ?_
 rcases ZcR d h with ⟨a,rfl,f,g,_⟩|⟨a,b,rfl,f,g,_⟩
 ·unfold degF degT degT nth;simp;rw[vP (by omega)];omega
 unfold degF degT degT degT nth;simp;repeat' split
 all_goals omega
theorem Zfi {n:Nat}{a:List Int}(b:n=1∨n=2)(h:EX n a):0<a.length∧a.length≤2:=by have:=h.1;omega
theorem ZkS {b:List TermR}{ts:List RT}{j:Nat}{t:RT}{A:Option Addr}{c:Nat}(h:b.map keyT=(ts.take j).map keyQ)(a:j<ts.length)(d:ts[j]! = t):(b ++ [(⟨⟨(xA t.q).toArray⟩,A,c,t.ex⟩:TermR)]).map keyT=(ts.take (j+1)).map keyQ:=by
 rw[vE a,qG,qG,h,← getElem!_pos ts j a,d];rfl
theorem ZlS {a:List TermR}{ts:List RT}{j:Nat}(h:a.map keyT=(ts.take j).map keyQ)(b:j≤ts.length):a.length=j:=by
 have:=Zbz h
 rw[uL] at this
 omega
section
variable {P:Program} {o:Oper} {ρ:Operand→Value} {w:World} {t e:TypeId} {x:Operand}
theorem lV {α:Type}[Inhabited α]{enc:α→List Value}{A:Option Addr}{b m c n k j f:Nat}{a:List α}{part rest:List Value}(v:A=some ⟨b,0,none⟩)(h:OwnD w m e k A c n (a.flatMap enc))(s:∀ x,(enc x).length=k)(y:j<a.length)(z:(enc a[j]!).drop f=part ++ rest)(B:o.op=Op.load t x:=by kernel_rfl)(C:ρ x=.pointer (some ⟨b,0+j*k+f,none⟩):=by kernel_rfl)(l:(teOf P t).map (fun e=>(e.agg,e.size))=some (true,part.length):=by kernel_rfl) :
 (execOp ρ o).run P w=.ok (.value (.agg part.toArray)) w:=by
 obtain⟨I,p,D⟩:=uV.1 l
 injection D with l hn
 have:=fO (P:=P) (w:=w) p (g:=b) (off:=0+j*k+f) (cs:=part) hn.symm (fun i q=>by
  have h5:(enc a[j]!)[f+i]? = some part[i]:=by
   have E:((enc a[j]!).drop f)[i]? = some part[i]:=by rw[z,List.getElem?_append_left q,List.getElem?_eq_getElem q]
   rwa [List.getElem?_drop] at E
  have r:f+i<k:=by
   rw[←s a[j]!]
   by_cases F:f+i<(enc a[j]!).length
   ·exact F
   rw[List.getElem?_eq_none (by omega)] at h5;cases h5
  have u:=aS s a j (f+i) y r
  rw[h5] at u
  obtain⟨J,d,_,G⟩:=h.at u
  rw[v] at d
  injection d with d
  injection d with d
  subst d
  have H:0+j*k+f+i=0+(j*k+(f+i)):=by omega
  rw[H,G,List.getElem?_eq_getElem q];rfl) l
 simp only[execOp,B,C,Sem.run_bind,this,Result.andThen_ok,Sem.run_pure]
theorem iW {α:Type}[Inhabited α]{enc:α→List Value}{A:Option Addr}{b m c n k j f:Nat}{a:List α}{v:Value}(p:A=some ⟨b,0,none⟩)(h:OwnD w m e k A c n (a.flatMap enc))(i:∀ x,(enc x).length=k)(q:j<a.length)(hv:(enc a[j]!)[f]? = some v)(r:o.op=Op.load t x:=by kernel_rfl)(s:ρ x=.pointer (some ⟨b,0+j*k+f,none⟩):=by kernel_rfl)(u:(teOf P t).map (fun e=>e.agg)=some false:=by kernel_rfl) :
 (execOp ρ o).run P w=.ok (.value v) w:=by
 have g:f<k:=by
  rw[←i a[j]!]
  by_cases y:f<(enc a[j]!).length
  ·exact y
  rw[List.getElem?_eq_none (by omega)] at hv;cases hv
 have l:=aS i a j f q g
 rw[hv] at l
 obtain⟨B,d,_,z⟩:=h.at l
 rw[p] at d
 injection d with d
 injection d with d
 subst d
 exact gT z r (by rw[s];congr 3;omega) u
end
theorem ZeI (n m:Nat)(p:RP)(w:World)(y:n=1∨n=2)(q:PG n p)(r:dRP.ok m w p) :
 yA 229 #[.agg #[.int .i64 p.v,.slice p.A p.ts.length p.c]] w (RetV w (.bool true)):=by
 refine xB (Φ:=fun w=>dRP.ok m w p) Tryz.func229 rfl (by kernel_rfl) (fun w' z=>Dp.ext r z) ?_
 refine zD (zC (xq 2 [(1,.p 1 0),yB 2 false] [(1,82,[.v (.int .i64 p.v),.v (.slice p.A p.ts.length p.c)])] ?_))
 refine xe (zB (zD (zC (xq 4 [yB 6 (decide (((p.ts.length:Nat):Int)≤4096))] [] ?_))))
 rw[(show decide (((p.ts.length:Nat):Int)≤4096)=true from uI (by have:=q.2.1;omega))]
 refine xq 6 [yB 7 true,yB 12 ((((p.ts.length:Nat):Int):Int) == 0)] [] ?_
 rcases bl2 (((((p.ts.length:Nat):Int):Int) == 0)) with a|a
 ·rw[a]
  have B:p.ts.length=0:=by have h:=a;simp only[beq_iff_eq] at h;omega
  refine xq 9 [yB 2 true] [] ?_
  refine xe (zB (zI ?_))
  refine yR (.bool true) fun w' R Q=>?_
  exact⟨rfl,R⟩
 rw[a]
 have d:0<p.ts.length:=by have h:=a;simp only[beq_eq_false_iff_ne,ne_eq] at h;omega
 refine xq 2 [eS1 14 p.A p.ts.length p.c] [] ?_
 obtain⟨b,s⟩:=OwnD.base r.1 d
 obtain⟨t,u⟩:∃ x,p.ts[0]! = x:=⟨_,rfl⟩
 have g:t∈p.ts:=fJ d u
 have l:=(q.2.2.1 t g).2.2
 refine xqk 15 (.pointer (some ⟨b,0+0*5,none⟩)) (fun w R Q=>xD s (t:=80) (e:=248) (sz:=5) (x:=.tmp 14) (ix:=.const (.int .i64 0)) (len:=p.ts.length) (cap:=p.c) (i:=0) d) ?_
 refine xq 1 [(16,.v (.pointer (some ⟨b,0+0*5+4,none⟩)))] [] ?_
 refine xqk 17 (.slice t.A t.ex.length t.cap) (fun w R Q=>by rw[←u];exact iW (t:=22) (x:=.tmp 16) (k:=5) (f:=4) (j:=0) (enc:=RT.cells) s (Q).1 (fun _=>rfl) d rfl) ?_
 refine xqc 271 [.slice t.A t.ex.length t.cap] 18 (fun _:Unit=>.bool true) _ (fun w R Q=>(ZhW t.A t.cap t.ex _ (OwnD.irow ((Q).2 t g).2) (by have:=l.1;omega)).mono (fun _ _ h=>Zcr h (by rw[ZnS y l]))) fun C=>?_
 refine xq 3 [yB 2 true] [] ?_
 refine xe (zB (zI ?_))
 refine yR (.bool true) fun w' R Q=>?_
 exact⟨rfl,R⟩
theorem ZeJ (n m:Nat)(s:RS)(w:World)(d:n=1∨n=2)(f:SG n s)(g:dRS.ok m w s) :
 yA 168 #[.agg #[.int .i64 s.a.v,.slice s.a.A s.a.ts.length s.a.c,.int .i64 s.b.v,.slice s.b.A s.b.ts.length s.b.c]] w (RetV w (.bool true)):=by
 refine xB (Φ:=fun w=>dRS.ok m w s) Tryz.func168 rfl (by kernel_rfl) (fun w' h=>Dp.ext g h) ?_
 refine zD (zC (xq 2 [(1,.p 1 0),yB 2 false] [(1,172,[.v (.int .i64 s.a.v),.v (.slice s.a.A s.a.ts.length s.a.c),.v (.int .i64 s.b.v),.v (.slice s.b.A s.b.ts.length s.b.c)])] ?_))
 refine xe (zB (zD (zC (xq 2 [(4,.v (.agg #[.int .i64 s.a.v,.slice s.a.A s.a.ts.length s.a.c]))] [] ?_))))
 refine xqc 229 [.agg #[.int .i64 s.a.v,.slice s.a.A s.a.ts.length s.a.c]] 5 (fun _:Unit=>.bool true) _ (fun w R Q=>yN (ZeI n m s.a _ d f.1 (Q).1)) fun i=>?_
 refine xq 3 [yB 6 true,(8,.v (.agg #[.int .i64 s.b.v,.slice s.b.A s.b.ts.length s.b.c]))] [] ?_
 refine xqc 229 [.agg #[.int .i64 s.b.v,.slice s.b.A s.b.ts.length s.b.c]] 9 (fun _:Unit=>.bool true) _ (fun w R Q=>yN (ZeI n m s.b _ d f.2 (Q.1).2)) fun i=>?_
 refine xq 2 [yB 2 true] [] ?_
 refine xe (zB (zI ?_))
 refine yR (.bool true) fun w' R Q=>?_
 exact⟨rfl,R⟩
theorem ZeK (n m:Nat)(p:RP)(w:World)(L:PG n p)(S:n=1∨n=2)(T:dRP.ok m w p) :
 yA 230 #[.agg #[.int .i64 p.v,.slice p.A p.ts.length p.c]] w (fun e w'=>∃ r:PolyR,PyG n r∧e=.returned (.agg #[.int .i64 r.v,.slice r.A r.ts.length r.c])∧kQ.ok w.heap.size w' r∧Ext w w'):=by
 obtain⟨m0,l⟩:∃ m,m=w.heap.size:=⟨_,rfl⟩
 have J:dRP.below m0 p:=l ▸ Dp.lt T
 refine xB (Φ:=fun w=>dRP.ok m w p) Tryz.func230 rfl (by kernel_rfl) (fun w' hf=>Dp.ext T hf) ?_
 refine zD (zC (xq 2 [(1,.p 1 0),(2,.p 2 0)] [(2,111,[.v (.int .i64 0),.v (.slice none 0 0)]),(1,82,[.v (.int .i64 p.v),.v (.slice p.A p.ts.length p.c)])] ?_))
 refine xe (zB (zD (zC (xq 5 [(3,.p 3 0)] [(3,111,[.v (.int .i64 p.v),.v (.slice none 0 0)])] ?_))))
 refine xe (zB (zD (zD (zC (xq 1 [yJ 4 0] [] ?_)))))
 refine xe (zB (zN ?_))
 refine yC [(1,.p 1 0),(2,.p 2 0),(3,.p 3 0),yJ 4 ((0:Nat):Int)] [(3,111,[.v (.int .i64 p.v),.v (.slice none 0 0)]),(2,111,[.v (.int .i64 0),.v (.slice none 0 0)]),(1,82,[.v (.int .i64 p.v),.v (.slice p.A p.ts.length p.c)])] (fun w=>((dRP.ok m w p∧OwnD w m0 108 2 none 0 0 (gD ([]:List TermR)))∧kP.list.ok m0 w ([]:List TermR))) (fun w Q=>⟨⟨Q,(OwnD.nil _ _ _ _)⟩,(Dp.none _ _ _)⟩) ?_
 refine xS (fun Z ss ff=>∃ (i:Nat) (B:Option Addr) (s:Nat) (a:List TermR) (un:Nat),ss=ofL [(1,.p 1 0),(2,.p 2 0),(3,.p 3 0),yJ 4 (i:Int)] [(3,111,[.v (.int .i64 p.v),.v (.slice B un s)]),(2,111,[.v (.int .i64 0),.v (.slice none 0 0)]),(1,82,[.v (.int .i64 p.v),.v (.slice p.A p.ts.length p.c)])]∧ff=(fun w=>((dRP.ok m w p∧OwnD w m0 108 2 B s un (gD a))∧kP.list.ok m0 w a))∧(i≤p.ts.length)∧(a.map keyT=(p.ts.take i).map keyQ)∧(a.length=0→B=none)∧(a.length=un)∧Z=(1+(p.ts.length-i))) ((1+(p.ts.length-0))) ⟨0,none,0,([]:List TermR),0,rfl,rfl,(uM _),rfl,(fun _=>rfl),rfl,rfl⟩ ?_
 rintro Z ss ff ⟨i,B,s,a,un,rfl,rfl,hi,U,V,W,rfl⟩
 subst W
 refine zD (zD (zC (xq 5 [yB 12 (decide ((i:Int)<((p.ts.length:Nat):Int)))] [] ?_)))
 refine xe (zB ?_)
 refine yQ ((decide ((i:Int)<((p.ts.length:Nat):Int)))) (fun u=>?_) fun u=>?_
 ·have g:i<p.ts.length:=by have:=uF u;omega
  have d0:=ZlS U hi
  have e0:=L.2.1
  refine zJ (zB (zD (zN ?_)))
  refine Zna 9 19 8 9 [0,1,2,3,4,5,6,7,10,11,12,13,14,15] [16,17,18] ?_
  refine xpg 5 [eS1 16 B a.length s,eS1 18 p.A p.ts.length p.c,yJ 19 (i:Int)] ?_
  obtain⟨b,M⟩:=OwnD.base T.1 (uN (uM _) g)
  obtain⟨t,N⟩:∃ x,p.ts[i]! = x:=⟨_,rfl⟩
  have G:t∈p.ts:=fJ g N
  have y:=L.2.2.1 t G
  refine xpj 20 (.pointer (some ⟨b,0+i*5,none⟩)) (fun w Q=>xD M (t:=80) (e:=248) (sz:=5) (x:=.tmp 18) (ix:=.tmp 19) (len:=p.ts.length) (cap:=p.c) (i:=i) g) ?_
  refine xpg 1 [(21,.v (.pointer (some ⟨b,0+i*5,none⟩)))] ?_
  refine xpj 22 (.agg #[.bool t.c.1,.slice t.c.2.1 t.c.2.2.1 t.c.2.2.2.1,.bool t.c.2.2.2.2.1,.slice t.c.2.2.2.2.2.1 t.c.2.2.2.2.2.2.1 t.c.2.2.2.2.2.2.2]) (fun w Q=>by rw[←N];exact lV (t:=127) (x:=.tmp 21) (k:=5) (f:=0) (j:=i) (part:=[.bool p.ts[i]!.c.1,.slice p.ts[i]!.c.2.1 p.ts[i]!.c.2.2.1 p.ts[i]!.c.2.2.2.1,.bool p.ts[i]!.c.2.2.2.2.1,.slice p.ts[i]!.c.2.2.2.2.2.1 p.ts[i]!.c.2.2.2.2.2.2.1 p.ts[i]!.c.2.2.2.2.2.2.2]) (enc:=RT.cells) M (Q.1.1).1 (fun _=>rfl) g rfl) ?_
  refine xpg 3 [eS1 26 p.A p.ts.length p.c,yJ 27 (i:Int)] ?_
  refine xpj 28 (.pointer (some ⟨b,0+i*5,none⟩)) (fun w Q=>xD M (t:=80) (e:=248) (sz:=5) (x:=.tmp 26) (ix:=.tmp 27) (len:=p.ts.length) (cap:=p.c) (i:=i) g) ?_
  refine xpg 1 [(29,.v (.pointer (some ⟨b,0+i*5+4,none⟩)))] ?_
  refine xpj 30 (.slice t.A t.ex.length t.cap) (fun w Q=>by rw[←N];exact iW (t:=22) (x:=.tmp 29) (k:=5) (f:=4) (j:=i) (enc:=RT.cells) M (Q.1.1).1 (fun _=>rfl) g rfl) ?_
  refine ZnR (isC 48 [.agg #[.bool t.c.1,.slice t.c.2.1 t.c.2.2.1 t.c.2.2.2.1,.bool t.c.2.2.2.2.1,.slice t.c.2.2.2.2.2.1 t.c.2.2.2.2.2.2.1 t.c.2.2.2.2.2.2.2]] 23 (fun _:Unit=>.string ⟨(xA t.q).toArray⟩) _ (fun w R Q=>yN (ZeD ((Q.1.1).2 t G).1 y.2.1 (by decide)))) (isD 24 (fun H:{b:Nat // m0≤b}=>.slice (some ⟨H.1,0,none⟩) 0 0) (fun H X=>Blk 3 X H.1 #[]) (fun w R Q=>Zan (m0:=m0) (l ▸ R.size) (t:=22) (e:=3) (sz:=1) (by kernel_rfl) (by kernel_rfl) (by kernel_rfl))) fun xx bb=>?_
  obtain⟨I,a0⟩:=bb
  refine xlf 0 [(1,.p 1 0),(2,.p 2 0),(3,.p 3 0),yJ 4 (i:Int),eS1 16 B a.length s,yT 23 ⟨(xA t.q).toArray⟩,eS1 24 (some ⟨I,0,none⟩) 0 0,eS1 30 t.A t.ex.length t.cap] [(3,111,[.v (.int .i64 p.v),.v (.slice B a.length s)]),(2,111,[.v (.int .i64 0),.v (.slice none 0 0)]),(1,82,[.v (.int .i64 p.v),.v (.slice p.A p.ts.length p.c)])] ?_
  refine xle 31 (fun q:Option Addr×Nat=>.slice q.1 t.ex.length q.2) (fun q w=>OwnD w m0 3 1 q.1 q.2 t.ex.length (intV t.ex)) (fun w R Q=>ZeH (b:=I) (t:=22) (e:=3) (s0:=.tmp 24) (x:=.tmp 30) (bytes:=8) (z:=.int .i64 0) (Zfi S y.2.2).1 ((Q.1.1.1.1).2 t G).2 (by decide) rfl (wG.list (by simp)) (l ▸ R.size) (ZfY _) (by have:=(Zfi S y.2.2).2;simp only[maxLen];omega) (by have:=(Zfi S y.2.2).2;omega)) fun⟨E,F⟩=>?_
  refine xlf 1 [(1,.p 1 0),(2,.p 2 0),(3,.p 3 0),yJ 4 (i:Int),eS1 16 B a.length s,(32,.v (.agg #[.string ⟨(xA t.q).toArray⟩,.slice E t.ex.length F]))] [(3,111,[.v (.int .i64 p.v),.v (.slice B a.length s)]),(2,111,[.v (.int .i64 0),.v (.slice none 0 0)]),(1,82,[.v (.int .i64 p.v),.v (.slice p.A p.ts.length p.c)])] ?_
  refine xle 33 (fun H:{b:Nat // m0≤b}=>.slice (some ⟨H.1,0,none⟩) 1 1) (fun H X=>Blk 108 X H.1 #[.string ⟨(xA t.q).toArray⟩,.slice E t.ex.length F]) (fun w R Q=>xF (m0:=m0) (l ▸ R.size) (t:=109) (e:=108) (n:=1) (sz:=2) (z:=.agg #[.string ⟨#[]⟩,.slice none 0 0]) (parts:=#[(0,Operand.tmp 32)]) (by kernel_rfl) (by kernel_rfl) (by kernel_rfl) (by kernel_rfl) (by kernel_rfl) (by kernel_rfl)) fun⟨K,b0⟩=>?_
  refine xlf 0 [(1,.p 1 0),(2,.p 2 0),(3,.p 3 0),yJ 4 (i:Int),eS1 16 B a.length s,eS1 33 (some ⟨K,0,none⟩) 1 1] [(3,111,[.v (.int .i64 p.v),.v (.slice B a.length s)]),(2,111,[.v (.int .i64 0),.v (.slice none 0 0)]),(1,82,[.v (.int .i64 p.v),.v (.slice p.A p.ts.length p.c)])] ?_
  refine xlz ?_
  refine lJ (d:=34) (k:=2) (n:=a.length) (m:=1) (cap:=s) (bytes:=40) (t:=109) (e:=108) (s0:=Operand.tmp 16) (x:=Operand.tmp 33) (xs:=gD a) (news:=[.string ⟨(xA t.q).toArray⟩,.slice E t.ex.length F]) (z:=(.agg #[.string ⟨#[]⟩,.slice none 0 0])) m0 B (fun j hj h=>Or.inl (l ▸ h)) K 1 (fun w=>(((dRP.ok m w p∧kP.list.ok m0 w a)∧Blk 3 w I #[])∧OwnD w m0 3 1 E F t.ex.length (intV t.ex))) (fun w R Q=>l ▸ R.size) (fun w Q=>Q.1.1.1.1.1.2) (fun w Q=>Blk.news Q.2) rfl (by decide) rfl (wG.list (by simp)) (by decide) (by simp[Value.oneCell']) (by simp) (by simp only[maxLen];omega) (by omega) V (fun w w2 R Q O=>⟨⟨⟨Dp.rowB Q.1.1.1.1.1.1 J Q.1.1.1.1.1.2 O,Dp.rowUp Q.1.1.1.1.2 Q.1.1.1.1.1.2 (by decide) O⟩,Blk.rowUp Q.1.1.2 Q.1.1.1.1.1.2 (by decide) O⟩,OwnD.other Q.1.2 Q.1.1.1.1.1.2 (by decide) O⟩) fun C D c0=>?_
  refine xr 2 [(1,.p 1 0),(2,.p 2 0),(3,.p 3 0),yJ 4 (i:Int)] [(3,111,[.v (.int .i64 p.v),.v (.slice C (a.length+1) D)]),(2,111,[.v (.int .i64 0),.v (.slice none 0 0)]),(1,82,[.v (.int .i64 p.v),.v (.slice p.A p.ts.length p.c)])] ?_
  refine xe (xK (zB (zC (xq 2 [yJ 14 (IntKind.i64.wrap ((i:Int)+1))] [] ?_))))
  rw[(show IntKind.i64.wrap ((i:Int)+1)=((i+1:Nat):Int) by rw[IntKind.wrap_i64];omega)]
  refine xq 1 [yJ 4 ((i+1:Nat):Int)] [] ?_
  refine xe ?_
  refine yP [(1,.p 1 0),(2,.p 2 0),(3,.p 3 0),yJ 4 (((i+1):Nat):Int)] [(3,111,[.v (.int .i64 p.v),.v (.slice C (a.length+1) D)]),(2,111,[.v (.int .i64 0),.v (.slice none 0 0)]),(1,82,[.v (.int .i64 p.v),.v (.slice p.A p.ts.length p.c)])] (fun w=>((dRP.ok m w p∧OwnD w m0 108 2 C D (a.length+1) (gD (a ++ [⟨⟨(xA t.q).toArray⟩,E,F,t.ex⟩])))∧kP.list.ok m0 w (a ++ [⟨⟨(xA t.q).toArray⟩,E,F,t.ex⟩]))) (fun w Q=>⟨⟨Q.1.1.1.1,(by rw[ZhU];exact Q.2)⟩,(Dp.snoc Q.1.1.1.2 (show kP.ok m0 w (⟨⟨(xA t.q).toArray⟩,E,F,t.ex⟩:TermR) from Q.1.2))⟩) ?_
  exact xE ((1+(p.ts.length-(i+1)))) (by omega) ⟨(i+1),C,D,(a ++ [⟨⟨(xA t.q).toArray⟩,E,F,t.ex⟩]),(a.length+1),rfl,rfl,g,(ZkS U g N),(fun h=>by rw[uA] at h;simp at h),uA,rfl⟩
 have Y:p.ts.length≤i:=by have:=uE u;omega
 refine xN (zH (zH (xX (zB (zD (zC (xq 2 [] [(2,111,[.v (.int .i64 p.v),.v (.slice B a.length s)])] ?_)))))))
 refine xe (zB (zI ?_))
 refine yR (.agg #[.int .i64 p.v,.slice B a.length s]) fun w' R Q=>?_
 exact⟨⟨p.v,B,s,a⟩,⟨p,L,L.1,by rw[U,uB Y]⟩,rfl,l ▸ ⟨Q.1.2,Q.2⟩,R⟩
theorem ZiI {n m0:Nat}{w w':World}{e:Ending}(b:m0≤w.heap.size)(h:∃ r:PolyR,PyG n r∧e=.returned (.agg #[.int .i64 r.v,.slice r.A r.ts.length r.c])∧kQ.ok w.heap.size w' r∧Ext w w') :
 wS (fun x:{r:PolyR // PyG n r}=>.agg #[.int .i64 x.1.v,.slice x.1.A x.1.ts.length x.1.c]) (fun x w=>kQ.ok m0 w x.1) w e w':=by
 obtain⟨r,d,rfl,f,Q⟩:=h
 exact⟨⟨r,d⟩,rfl,Q,fun S g a i=>Dp.mono _ (Dp.boxN f Q S g a i) b⟩
theorem Zav (n:Nat):PyG n ⟨((n:Nat):Int),none,0,[]⟩:=⟨⟨((n:Nat):Int),none,0,[]⟩,⟨rfl,uM _,fun t h=>(by cases h),List.Pairwise.nil⟩,rfl,rfl⟩
instance {n:Nat}:Nonempty {r:PolyR // PyG n r}:=⟨⟨_,Zav n⟩⟩
instance {n:Nat}:Nonempty {r:MuR // MuG n r}:=⟨⟨⟨_,_⟩,Zav n,Zav n⟩⟩
theorem ZeL (n m:Nat)(s:RS)(w:World)(k:SG n s)(l:n=1∨n=2)(q:dRS.ok m w s) :
 yA 170 #[.agg #[.int .i64 s.a.v,.slice s.a.A s.a.ts.length s.a.c,.int .i64 s.b.v,.slice s.b.A s.b.ts.length s.b.c]] w (fun e w'=>∃ r:MuR,MuG n r∧e=.returned (.agg #[.int .i64 r.a.v,.slice r.a.A r.a.ts.length r.a.c,.int .i64 r.b.v,.slice r.b.A r.b.ts.length r.b.c])∧dMu.ok w.heap.size w' r∧Ext w w'):=by
 obtain⟨y,g⟩:∃ m,m=w.heap.size:=⟨_,rfl⟩
 refine xB (Φ:=fun w=>dRS.ok m w s) Tryz.func170 rfl (by kernel_rfl) (fun w' u=>Dp.ext q u) ?_
 refine zD (zC (xq 2 [(1,.p 1 0),(2,.p 2 0)] [(2,118,[.v (.int .i64 0),.v (.slice none 0 0),.v (.int .i64 0),.v (.slice none 0 0)]),(1,172,[.v (.int .i64 s.a.v),.v (.slice s.a.A s.a.ts.length s.a.c),.v (.int .i64 s.b.v),.v (.slice s.b.A s.b.ts.length s.b.c)])] ?_))
 refine xe (zB (zD ?_))
 refine yO 7 zK ?_
 refine xqg 2 [(4,.v (.agg #[.int .i64 s.a.v,.slice s.a.A s.a.ts.length s.a.c]))] ?_
 refine xqd 230 [.agg #[.int .i64 s.a.v,.slice s.a.A s.a.ts.length s.a.c]] 5 (fun x:{r:PolyR // PyG n r}=>.agg #[.int .i64 x.1.v,.slice x.1.A x.1.ts.length x.1.c]) _ (fun w R Q=>(ZeK n m s.a _ k.1 l (Q).1).mono (fun _ _ h=>ZiI (g ▸ R.size) h)) fun⟨d,i⟩=>?_
 refine xqg 2 [(7,.v (.agg #[.int .i64 s.b.v,.slice s.b.A s.b.ts.length s.b.c]))] ?_
 refine xqd 230 [.agg #[.int .i64 s.b.v,.slice s.b.A s.b.ts.length s.b.c]] 8 (fun x:{r:PolyR // PyG n r}=>.agg #[.int .i64 x.1.v,.slice x.1.A x.1.ts.length x.1.c]) _ (fun w R Q=>(ZeK n m s.b _ k.2 l (Q.1).2).mono (fun _ _ h=>ZiI (g ▸ R.size) h)) fun⟨f,j⟩=>?_
 refine xqg 1 [(9,.v (.agg #[.int .i64 d.v,.slice d.A d.ts.length d.c,.int .i64 f.v,.slice f.A f.ts.length f.c]))] ?_
 refine xz (xq 1 [] [(2,118,[.v (.int .i64 d.v),.v (.slice d.A d.ts.length d.c),.v (.int .i64 f.v),.v (.slice f.A f.ts.length f.c)])] ?_)
 refine xe (zB (zI ?_))
 refine yR (.agg #[.int .i64 d.v,.slice d.A d.ts.length d.c,.int .i64 f.v,.slice f.A f.ts.length f.c]) fun w' R Q=>?_
 exact⟨⟨d,f⟩,⟨i,j⟩,rfl,g ▸ ⟨Q.1.2,Q.2⟩,R⟩
theorem Zhi (x y:ShQ)(a b:Rat)(d:Int)(w:World)(ha:zF w (xC x) a)(hb:zF w (xC y) b)(c:Dq a 1)(f:Dq b 1)(hd:d=1∨d=2∨d=3∨d=5) :
 yA 42 #[xC x,xC y,.int .i64 d] w (fun e w'=>∃ sa sb d',SuG sa sb d'∧e=.returned (.agg #[.string sa,.string sb,.int .i64 d'])∧Ext w w'):=by
 obtain⟨s0,u,z,A,B,C,D,E⟩:=x
 obtain⟨i,j,l,m,n,q,r,s⟩:=y
 refine xB (Φ:=fun w=>(zF w (.agg #[.bool s0,.slice u z A,.bool B,.slice C D E]) (a)∧zF w (.agg #[.bool i,.slice j l m,.bool n,.slice q r s]) (b))) Tryz.func42 rfl (by kernel_rfl) (fun w' hf=>⟨ha.ext hf,hb.ext hf⟩) ?_
 refine zD (zC (xq 3 [(3,.p 3 0),(4,.p 4 0),(6,.p 6 0)] [(6,38,[.v (.string ⟨#[]⟩),.v (.string ⟨#[]⟩),.v (.int .i64 0)]),bR4 4 127 i j l m n q r s,bR4 3 127 s0 u z A B C D E] ?_))
 refine xe (zB (zD (zD (zC (xq 3 [yB 9 ((d:Int) == 1)] [] ?_)))))
 rcases bl2 (((d:Int) == 1)) with g|g
 ·rw[g]
  refine xq 4 [yB 13 true] [] ?_
  refine xe (zB (xa (zD (zC (xq 2 [eR4 14 s0 u z A B C D E,eR4 15 i j l m n q r s] [] ?_)))))
  refine xqc 104 [vR4 s0 u z A B C D E,vR4 i j l m n q r s] 16 xC _ (fun w R Q=>yM wW (ZaO _ _ a b _ Q.1 Q.2 (Dq.rfit c (by decide)) (Dq.rfit f (by decide)))) fun⟨G,H,I,J,K,L,M,N⟩=>?_
  refine xqc 48 [vR4 G H I J K L M N] 17 (fun _:Unit=>.string ⟨(xA (a+b)).toArray⟩) _ (fun w R Q=>yN (ZeD (k:=6) Q.2 ((c.add f).up (by decide)) (by decide))) fun F=>?_
  refine xq 2 [] [(6,38,[.v (.string ⟨(xA (a+b)).toArray⟩),.v (.string ⟨#[48]⟩),.v (.int .i64 1)])] ?_
  refine xe (zB (zI (zE ?_)))
  refine yR (.agg #[.string ⟨(xA (a+b)).toArray⟩,.string ⟨#[48]⟩,.int .i64 1]) fun w' R Q=>?_
  exact⟨_,_,_,ZeG ((c.add f).up (by decide)),rfl,R⟩
 rw[g]
 have a0:d≠1:=by simpa using g
 refine xq 1 [eR4 10 i j l m n q r s] [] ?_
 refine xqc 103 [vR4 i j l m n q r s] 11 (fun _:Unit=>.int .i64 b.num.sign) _ (fun w R Q=>yN (fS _ b _ Q.2)) fun F=>?_
 refine xq 2 [yB 13 ((b.num.sign:Int) == 0)] [] ?_
 refine xe (zB ?_)
 refine yQ (((b.num.sign:Int) == 0)) (fun h=>?_) fun h=>?_
 ·refine zD (zC (xq 2 [eR4 14 s0 u z A B C D E,eR4 15 i j l m n q r s] [] ?_))
  refine xqc 104 [vR4 s0 u z A B C D E,vR4 i j l m n q r s] 16 xC _ (fun w R Q=>yM wW (ZaO _ _ a b _ Q.1.1 Q.1.2 (Dq.rfit c (by decide)) (Dq.rfit f (by decide)))) fun⟨O,S,T,U,V,W,X,Y⟩=>?_
  refine xqc 48 [vR4 O S T U V W X Y] 17 (fun _:Unit=>.string ⟨(xA (a+b)).toArray⟩) _ (fun w R Q=>yN (ZeD (k:=6) Q.2 ((c.add f).up (by decide)) (by decide))) fun F=>?_
  refine xq 2 [] [(6,38,[.v (.string ⟨(xA (a+b)).toArray⟩),.v (.string ⟨#[48]⟩),.v (.int .i64 1)])] ?_
  refine xe (zB (zI (zE ?_)))
  refine yR (.agg #[.string ⟨(xA (a+b)).toArray⟩,.string ⟨#[48]⟩,.int .i64 1]) fun w' R Q=>?_
  exact⟨_,_,_,ZeG ((c.add f).up (by decide)),rfl,R⟩
 have Z:b.num≠0:=fun e=>by rw[e] at h;simp at h
 refine zJ (zB (zD ?_))
 refine yO 6 zK ?_
 refine xqg 1 [eR4 19 s0 u z A B C D E] ?_
 refine xqd 48 [vR4 s0 u z A B C D E] 20 (fun _:Unit=>.string ⟨(xA a).toArray⟩) _ (fun w R Q=>yN (ZeD (k:=6) Q.1.1 (c.up (by decide)) (by decide))) fun F=>?_
 refine xqg 1 [eR4 21 i j l m n q r s] ?_
 refine xqd 48 [vR4 i j l m n q r s] 22 (fun _:Unit=>.string ⟨(xA b).toArray⟩) _ (fun w R Q=>yN (ZeD (k:=6) Q.1.1.2 (f.up (by decide)) (by decide))) fun F=>?_
 refine xqg 2 [(24,.v (.agg #[.string ⟨(xA a).toArray⟩,.string ⟨(xA b).toArray⟩,.int .i64 d]))] ?_
 refine xz (xq 1 [] [(6,38,[.v (.string ⟨(xA a).toArray⟩),.v (.string ⟨(xA b).toArray⟩),.v (.int .i64 d)])] ?_)
 refine xe (zB (zI ?_))
 refine yR (.agg #[.string ⟨(xA a).toArray⟩,.string ⟨(xA b).toArray⟩,.int .i64 d]) fun w' R Q=>?_
 exact⟨_,_,_,Zn5 (c.up (by decide)) (f.up (by decide)) Z (by omega),rfl,R⟩
theorem Znb {w w':World}{e:Ending}(h:∃ sa sb d',SuG sa sb d'∧e=.returned (.agg #[.string sa,.string sb,.int .i64 d'])∧Ext w w') :
 wS (fun x:{x:ByteArray×ByteArray×Int // SuG x.1 x.2.1 x.2.2}=>.agg #[.string x.1.1,.string x.1.2.1,.int .i64 x.1.2.2]) (fun _ _=>True) w e w':=by
 obtain⟨a,b,d,c,rfl,Q⟩:=h
 exact⟨⟨(a,b,d),c⟩,rfl,Q,BoxN.pure trivial⟩
theorem ZiJ {n m0:Nat}{w w':World}{e:Ending}(f:m0≤w.heap.size)(h:∃ r:MuR,MuG n r∧e=.returned (.agg #[.int .i64 r.a.v,.slice r.a.A r.a.ts.length r.a.c,.int .i64 r.b.v,.slice r.b.A r.b.ts.length r.b.c])∧dMu.ok w.heap.size w' r∧Ext w w') :
 wS (fun x:{r:MuR // MuG n r}=>.agg #[.int .i64 x.1.a.v,.slice x.1.a.A x.1.a.ts.length x.1.a.c,.int .i64 x.1.b.v,.slice x.1.b.A x.1.b.ts.length x.1.b.c]) (fun x w=>dMu.ok m0 w x.1) w e w':=by
 obtain⟨r,g,rfl,i,Q⟩:=h
 exact⟨⟨r,g⟩,rfl,Q,fun S j d k=>Dp.mono _ (Dp.boxN i Q S j d k) f⟩
instance:Nonempty {x:ByteArray×ByteArray×Int // SuG x.1 x.2.1 x.2.2}:=⟨⟨(_,_,_),ZeG (a:=0) ⟨by decide,by decide⟩⟩⟩
theorem Zjw (n m:Nat)(d:Int)(q:RQ)(w:World)(l:QGd n d q)(s:d=1∨d=2∨d=3∨d=5)(z:n=1∨n=2)(B:dRQ.ok m w q) :
 yA 169 #[.int .i64 d,.agg #[.bool q.ca.1,.slice q.ca.2.1 q.ca.2.2.1 q.ca.2.2.2.1,.bool q.ca.2.2.2.2.1,.slice q.ca.2.2.2.2.2.1 q.ca.2.2.2.2.2.2.1 q.ca.2.2.2.2.2.2.2,.bool q.cb.1,.slice q.cb.2.1 q.cb.2.2.1 q.cb.2.2.2.1,.bool q.cb.2.2.2.2.1,.slice q.cb.2.2.2.2.2.1 q.cb.2.2.2.2.2.2.1 q.cb.2.2.2.2.2.2.2,.int .i64 q.r.a.v,.slice q.r.a.A q.r.a.ts.length q.r.a.c,.int .i64 q.r.b.v,.slice q.r.b.A q.r.b.ts.length q.r.b.c]] w (fun e w'=>∃ r:SqR,SqG n r∧e=.returned (.agg #[.string r.sa,.string r.sb,.int .i64 r.d,.int .i64 r.r.a.v,.slice r.r.a.A r.r.a.ts.length r.r.a.c,.int .i64 r.r.b.v,.slice r.r.b.A r.r.b.ts.length r.r.b.c])∧dSq.ok w.heap.size w' r∧Ext w w'):=by
 obtain⟨E,g⟩:∃ m,m=w.heap.size:=⟨_,rfl⟩
 refine xB (Φ:=fun w=>dRQ.ok m w q) Tryz.func169 rfl (by kernel_rfl) (fun w' C=>Dp.ext B C) ?_
 refine zD (zC (xq 2 [(3,.p 3 0),(4,.p 4 0)] [(4,179,[.v (.string ⟨#[]⟩),.v (.string ⟨#[]⟩),.v (.int .i64 0),.v (.int .i64 0),.v (.slice none 0 0),.v (.int .i64 0),.v (.slice none 0 0)]),(3,175,[.v (.bool q.ca.1),.v (.slice q.ca.2.1 q.ca.2.2.1 q.ca.2.2.2.1),.v (.bool q.ca.2.2.2.2.1),.v (.slice q.ca.2.2.2.2.2.1 q.ca.2.2.2.2.2.2.1 q.ca.2.2.2.2.2.2.2),.v (.bool q.cb.1),.v (.slice q.cb.2.1 q.cb.2.2.1 q.cb.2.2.2.1),.v (.bool q.cb.2.2.2.2.1),.v (.slice q.cb.2.2.2.2.2.1 q.cb.2.2.2.2.2.2.1 q.cb.2.2.2.2.2.2.2),.v (.int .i64 q.r.a.v),.v (.slice q.r.a.A q.r.a.ts.length q.r.a.c),.v (.int .i64 q.r.b.v),.v (.slice q.r.b.A q.r.b.ts.length q.r.b.c)])] ?_))
 refine xe (zB (zD ?_))
 refine yO 10 zK ?_
 refine xqg 5 [eR4 6 q.ca.1 q.ca.2.1 q.ca.2.2.1 q.ca.2.2.2.1 q.ca.2.2.2.2.1 q.ca.2.2.2.2.2.1 q.ca.2.2.2.2.2.2.1 q.ca.2.2.2.2.2.2.2,eR4 8 q.cb.1 q.cb.2.1 q.cb.2.2.1 q.cb.2.2.2.1 q.cb.2.2.2.2.1 q.cb.2.2.2.2.2.1 q.cb.2.2.2.2.2.2.1 q.cb.2.2.2.2.2.2.2,yJ 9 d] ?_
 refine xqd 42 [vR4 q.ca.1 q.ca.2.1 q.ca.2.2.1 q.ca.2.2.2.1 q.ca.2.2.2.2.1 q.ca.2.2.2.2.2.1 q.ca.2.2.2.2.2.2.1 q.ca.2.2.2.2.2.2.2,vR4 q.cb.1 q.cb.2.1 q.cb.2.2.1 q.cb.2.2.2.1 q.cb.2.2.2.2.1 q.cb.2.2.2.2.2.1 q.cb.2.2.2.2.2.2.1 q.cb.2.2.2.2.2.2.2,.int .i64 d] 10 (fun x:{x:ByteArray×ByteArray×Int // SuG x.1 x.2.1 x.2.2}=>.agg #[.string x.1.1,.string x.1.2.1,.int .i64 x.1.2.2]) _ (fun w R Q=>yM Znb (Zhi q.ca q.cb q.qa q.qb d _ (Q).1.1 (Q).1.2 l.1.1 l.1.2.1 s)) fun D=>?_
 obtain⟨⟨i,j,k⟩,u⟩:=D
 refine xqg 2 [(12,.v (.agg #[.int .i64 q.r.a.v,.slice q.r.a.A q.r.a.ts.length q.r.a.c,.int .i64 q.r.b.v,.slice q.r.b.A q.r.b.ts.length q.r.b.c]))] ?_
 refine xqd 170 [.agg #[.int .i64 q.r.a.v,.slice q.r.a.A q.r.a.ts.length q.r.a.c,.int .i64 q.r.b.v,.slice q.r.b.A q.r.b.ts.length q.r.b.c]] 13 (fun x:{r:MuR // MuG n r}=>.agg #[.int .i64 x.1.a.v,.slice x.1.a.A x.1.a.ts.length x.1.a.c,.int .i64 x.1.b.v,.slice x.1.b.A x.1.b.ts.length x.1.b.c]) _ (fun w R Q=>(ZeL n m q.r _ l.2 z (Q.1).2).mono (fun _ _ h=>ZiJ (g ▸ R.size) h)) fun⟨f,y⟩=>?_
 refine xqg 1 [(14,.v (.agg #[.string i,.string j,.int .i64 k,.int .i64 f.a.v,.slice f.a.A f.a.ts.length f.a.c,.int .i64 f.b.v,.slice f.b.A f.b.ts.length f.b.c]))] ?_
 refine xz (xq 1 [] [(4,179,[.v (.string i),.v (.string j),.v (.int .i64 k),.v (.int .i64 f.a.v),.v (.slice f.a.A f.a.ts.length f.a.c),.v (.int .i64 f.b.v),.v (.slice f.b.A f.b.ts.length f.b.c)])] ?_)
 refine xe (zB (zI ?_))
 refine yR (.agg #[.string i,.string j,.int .i64 k,.int .i64 f.a.v,.slice f.a.A f.a.ts.length f.a.c,.int .i64 f.b.v,.slice f.b.A f.b.ts.length f.b.c]) fun w' R Q=>?_
 exact⟨⟨i,j,k,f⟩,⟨u,y⟩,rfl,g ▸ Q.2,R⟩
theorem Znc {n m0:Nat}{w w':World}{e:Ending}(g:m0≤w.heap.size)(h:∃ r:SqR,SqG n r∧e=.returned (.agg #[.string r.sa,.string r.sb,.int .i64 r.d,.int .i64 r.r.a.v,.slice r.r.a.A r.r.a.ts.length r.r.a.c,.int .i64 r.r.b.v,.slice r.r.b.A r.r.b.ts.length r.r.b.c])∧dSq.ok w.heap.size w' r∧Ext w w') :
 wS (fun x:{r:SqR // SqG n r}=>(.agg #[.string x.1.sa,.string x.1.sb,.int .i64 x.1.d,.int .i64 x.1.r.a.v,.slice x.1.r.a.A x.1.r.a.ts.length x.1.r.a.c,.int .i64 x.1.r.b.v,.slice x.1.r.b.A x.1.r.b.ts.length x.1.r.b.c])) (fun x w=>dSq.ok m0 w x.1) w e w':=by
 obtain⟨r,i,rfl,j,Q⟩:=h
 exact⟨⟨r,i⟩,rfl,Q,fun S k f l=>Dp.mono _ (Dp.boxN j Q S k f l) g⟩
instance {n:Nat}:Nonempty {r:SqR // SqG n r}:=⟨⟨⟨_,_,_,⟨_,_⟩⟩,ZeG (a:=0) ⟨by decide,by decide⟩,Zav n,Zav n⟩⟩
theorem kJ {α:Type}[Inhabited α]{l:List α}{i:Nat}{x:α}(hi:i<l.length)(h:l[i]! = x):x∈l:=by
 rw[←h,getElem!_pos l i hi];exact tY hi
theorem Zjx (n m:Nat)(X:RC)(w:World)(hX:CGd n X.d X)(r0:X.d=1∨X.d=2∨X.d=3∨X.d=5)(hn:n=1∨n=2)(hd:dC.ok m w X) :
 yA 75 #[.agg #[.int .i64 X.d,.slice X.pA X.ps.length X.pc,.slice X.mA X.ms.length X.mc]] w (fun e w'=>∃ r:IdR,IdG n r∧e=.returned (.tuple #[.agg #[.int .i64 r.d,.slice r.pA r.ps.length r.pc,.slice r.mA r.ms.length r.mc],.bool true])∧dId.ok w.heap.size w' r∧Ext w w'):=by
 obtain⟨m0,B⟩:∃ m,m=w.heap.size:=⟨_,rfl⟩
 have N:dC.below m0 X:=B ▸ Dp.lt hd
 refine xB (Φ:=fun w=>dC.ok m w X) Tryz.func75 rfl (by kernel_rfl) (fun w' hf=>Dp.ext hd hf) ?_
 refine zD (zC (xq 3 [(1,.p 1 0),(2,.p 2 0),yB 3 false] [(2,26,[.v (.int .i64 0),.v (.slice none 0 0),.v (.slice none 0 0)]),(1,91,[.v (.int .i64 X.d),.v (.slice X.pA X.ps.length X.pc),.v (.slice X.mA X.ms.length X.mc)])] ?_))
 refine xe (zB (zD (zC (xq 5 [(4,.p 4 0)] [(4,26,[.v (.int .i64 X.d),.v (.slice none 0 0),.v (.slice none 0 0)])] ?_))))
 refine xe (zB (zD (zC (xq 4 [yB 19 (decide (((X.ps.length:Nat):Int)≤64))] [] ?_))))
 rw[(show decide (((X.ps.length:Nat):Int)≤64)=true from uI (by have:=hX.2.1;omega))]
 refine xq 1 [yB 5 true] [] ?_
 refine xe (zB (zD (zD (zC (xq 4 [eS1 21 X.pA X.ps.length X.pc,yJ 22 ((X.ps.length:Nat):Int),yJ 23 0] [] ?_)))))
 refine xe (zB (zN ?_))
 refine yC [(1,.p 1 0),(2,.p 2 0),yB 3 false,(4,.p 4 0),yB 5 true,eS1 21 X.pA X.ps.length X.pc,yJ 22 ((X.ps.length:Nat):Int),yJ 23 ((0:Nat):Int)] [(4,26,[.v (.int .i64 X.d),.v (.slice none 0 0),.v (.slice none 0 0)]),(2,26,[.v (.int .i64 0),.v (.slice none 0 0),.v (.slice none 0 0)]),(1,91,[.v (.int .i64 X.d),.v (.slice X.pA X.ps.length X.pc),.v (.slice X.mA X.ms.length X.mc)])] (fun w=>((dC.ok m w X∧OwnD w m0 114 2 none 0 0 (([]:List PrR).flatMap PrR.cells))∧dPr.list.ok m0 w ([]:List PrR))) (fun w Q=>⟨⟨Q,(OwnD.nil _ _ _ _)⟩,(Dp.none _ _ _)⟩) ?_
 refine xS (fun nn ss ff=>∃ (j:Nat) (l:Option Addr) (y:Nat) (g:List PrR) (pn:Nat),ss=ofL [(1,.p 1 0),(2,.p 2 0),yB 3 false,(4,.p 4 0),yB 5 true,eS1 21 X.pA X.ps.length X.pc,yJ 22 ((X.ps.length:Nat):Int),yJ 23 (j:Int)] [(4,26,[.v (.int .i64 X.d),.v (.slice l pn y),.v (.slice none 0 0)]),(2,26,[.v (.int .i64 0),.v (.slice none 0 0),.v (.slice none 0 0)]),(1,91,[.v (.int .i64 X.d),.v (.slice X.pA X.ps.length X.pc),.v (.slice X.mA X.ms.length X.mc)])]∧ff=(fun w=>((dC.ok m w X∧OwnD w m0 114 2 l y pn (g.flatMap PrR.cells))∧dPr.list.ok m0 w g))∧(j≤X.ps.length)∧(g.length=j)∧(∀ p∈g,PrG n p)∧(g.length=0→l=none)∧(g.length=pn)∧nn=(1+(X.ps.length-j))) ((1+(X.ps.length-0))) ⟨0,none,0,([]:List PrR),0,rfl,rfl,(uM _),rfl,(fun t h=>by cases h),(fun _=>rfl),rfl,rfl⟩ ?_
 rintro nn ss ff ⟨j,l,y,g,pn,rfl,rfl,hj,t0,i0,u0,v0,rfl⟩
 subst v0
 refine zD (zC (xq 1 [yB 24 (decide ((j:Int)<((X.ps.length:Nat):Int)))] [] ?_))
 refine xe (zB (zD ?_))
 refine yQ ((decide ((j:Int)<((X.ps.length:Nat):Int)))) (fun O=>?_) fun O=>?_
 ·have S:j<X.ps.length:=by have:=uF O;omega
  have w0:=hX.2.1
  refine zJ (zB (zD (zN (zD (zC ?_)))))
  obtain⟨bp,hA⟩:=OwnD.base hd.1.1 (uN (uM _) S)
  obtain⟨p,hp⟩:∃ x,X.ps[j]! = x:=⟨_,rfl⟩
  have M:p∈X.ps:=kJ S hp
  have H:=hX.2.2.2.1 p M
  refine xqk 25 (.pointer (some ⟨bp,0+j*2,none⟩)) (fun w R Q=>xD hA (t:=88) (e:=170) (sz:=2) (x:=.tmp 21) (ix:=.tmp 23) (len:=X.ps.length) (cap:=X.pc) (i:=j) S) ?_
  refine xqk 26 (.agg #[.slice p.zA p.zs.length p.zc,.slice p.sA p.sq.length p.sc]) (fun w R Q=>by rw[←hp];exact lV (t:=170) (x:=.tmp 25) (k:=2) (f:=0) (j:=j) (part:=[.slice X.ps[j]!.zA X.ps[j]!.zs.length X.ps[j]!.zc,.slice X.ps[j]!.sA X.ps[j]!.sq.length X.ps[j]!.sc]) (enc:=RPart.cells) hA (Q.1.1).1.1 (fun _=>rfl) S rfl) ?_
  refine xq 2 [(7,.p 7 0)] [(7,170,[.v (.slice p.zA p.zs.length p.zc),.v (.slice p.sA p.sq.length p.sc)])] ?_
  refine xe (zB (zD ?_))
  refine SXc.size (fun L=>m0≤L∧dPr.list.below L g) (fun w R Q=>⟨B ▸ R.size,Dp.lt Q.2⟩) fun L a0=>?_
  refine zC (xr 0 [(1,.p 1 0),(2,.p 2 0),yB 3 false,(4,.p 4 0),yB 5 true,(7,.p 7 0),eS1 21 X.pA X.ps.length X.pc,yJ 22 ((X.ps.length:Nat):Int),yJ 23 (j:Int)] [(7,170,[.v (.slice p.zA p.zs.length p.zc),.v (.slice p.sA p.sq.length p.sc)]),(4,26,[.v (.int .i64 X.d),.v (.slice l g.length y),.v (.slice none 0 0)]),(2,26,[.v (.int .i64 0),.v (.slice none 0 0),.v (.slice none 0 0)]),(1,91,[.v (.int .i64 X.d),.v (.slice X.pA X.ps.length X.pc),.v (.slice X.mA X.ms.length X.mc)])] ?_)
  refine yD (d:=27) (fun J:{b:Nat // m0≤b}=>.slice (some ⟨J.1,0,none⟩) 0 0) (fun J zw=>Blk 3 zw J.1 #[]) (fun w R Q=>Zan (m0:=m0) (B ▸ R.size) (t:=22) (e:=3) (sz:=1) (by kernel_rfl) (by kernel_rfl) (by kernel_rfl)) fun⟨h0,j0⟩=>?_
  refine xr 2 [(1,.p 1 0),(2,.p 2 0),yB 3 false,(4,.p 4 0),yB 5 true,(7,.p 7 0),eS1 21 X.pA X.ps.length X.pc,yJ 22 ((X.ps.length:Nat):Int),yJ 23 (j:Int),eS1 27 (some ⟨h0,0,none⟩) 0 0,eS1 29 p.zA p.zs.length p.zc] [(7,170,[.v (.slice p.zA p.zs.length p.zc),.v (.slice p.sA p.sq.length p.sc)]),(4,26,[.v (.int .i64 X.d),.v (.slice l g.length y),.v (.slice none 0 0)]),(2,26,[.v (.int .i64 0),.v (.slice none 0 0),.v (.slice none 0 0)]),(1,91,[.v (.int .i64 X.d),.v (.slice X.pA X.ps.length X.pc),.v (.slice X.mA X.ms.length X.mc)])] ?_
  refine yD (d:=30) (fun q:{q:Option Addr×Nat // p.zs.length=0→q=(some ⟨h0,0,none⟩,0)}=>.slice q.1.1 p.zs.length q.1.2) (fun q w=>p.zs.length=0∨OwnD w m0 3 1 q.1.1 q.1.2 p.zs.length (intV p.zs)) (fun w R Q=>ZkQ (b:=h0) (t:=22) (e:=3) (s0:=.tmp 27) (x:=.tmp 29) (bytes:=8) (z:=.int .i64 0) ((Q.1.1.1.1).1.2 p M).1 (by decide) rfl (wG.list (by simp)) (B ▸ R.size) (ZfY _) (by have:=H.2.1;simp only[maxLen];omega) (by have:=H.2.1;omega)) fun qq=>?_
  obtain⟨⟨F,G⟩,x0⟩:=qq
  refine SXi.facts (Φ:=fun w=>((((dC.ok m w X∧OwnD w m0 114 2 l y g.length (g.flatMap PrR.cells))∧dPr.list.ok m0 w g)∧L≤w.heap.size)∧OwnD w m0 3 1 F G p.zs.length (intV p.zs))) ?_ (fun w Q=>⟨⟨⟨⟨Q.1.1.1.1.1,Q.1.1.1.1.2⟩,Q.1.1.1.2⟩,Q.1.1.2⟩,ZlQ (by simp) j0 x0 Q.2 Q.1.2⟩)
  refine xr 3 [(1,.p 1 0),(2,.p 2 0),yB 3 false,(4,.p 4 0),yB 5 true,(7,.p 7 0),(8,.p 8 0),eS1 21 X.pA X.ps.length X.pc,yJ 22 ((X.ps.length:Nat):Int),yJ 23 (j:Int)] [(8,114,[.v (.slice F p.zs.length G),.v (.slice none 0 0)]),(7,170,[.v (.slice p.zA p.zs.length p.zc),.v (.slice p.sA p.sq.length p.sc)]),(4,26,[.v (.int .i64 X.d),.v (.slice l g.length y),.v (.slice none 0 0)]),(2,26,[.v (.int .i64 0),.v (.slice none 0 0),.v (.slice none 0 0)]),(1,91,[.v (.int .i64 X.d),.v (.slice X.pA X.ps.length X.pc),.v (.slice X.mA X.ms.length X.mc)])] ?_
  refine xe (zB (zD (zC (xq 6 [yB 33 true,yB 37 (decide (((p.sq.length:Nat):Int)≤256))] [] ?_))))
  rw[(show decide (((p.sq.length:Nat):Int)≤256)=true from uI (by have:=H.2.2.1;omega))]
  refine xq 2 [yB 5 true] [] ?_
  refine xe (zB (zD (zD (zC (xq 4 [eS1 40 p.sA p.sq.length p.sc,yJ 41 ((p.sq.length:Nat):Int),yJ 42 0] [] ?_)))))
  refine xe (zB (zN ?_))
  refine yC [(1,.p 1 0),(2,.p 2 0),yB 3 false,(4,.p 4 0),yB 5 true,(8,.p 8 0),eS1 21 X.pA X.ps.length X.pc,yJ 22 ((X.ps.length:Nat):Int),yJ 23 (j:Int),eS1 40 p.sA p.sq.length p.sc,yJ 41 ((p.sq.length:Nat):Int),yJ 42 ((0:Nat):Int)] [(8,114,[.v (.slice F p.zs.length G),.v (.slice none 0 0)]),(4,26,[.v (.int .i64 X.d),.v (.slice l g.length y),.v (.slice none 0 0)]),(2,26,[.v (.int .i64 0),.v (.slice none 0 0),.v (.slice none 0 0)]),(1,91,[.v (.int .i64 X.d),.v (.slice X.pA X.ps.length X.pc),.v (.slice X.mA X.ms.length X.mc)])] (fun w=>((((((dC.ok m w X∧OwnD w m0 114 2 l y g.length (g.flatMap PrR.cells))∧dPr.list.ok m0 w g)∧L≤w.heap.size)∧OwnD w m0 3 1 F G p.zs.length (intV p.zs))∧OwnD w L 179 7 none 0 0 (([]:List SqR).flatMap SqR.cells))∧dSq.list.ok m0 w ([]:List SqR))) (fun w Q=>⟨⟨⟨⟨⟨⟨Q.1.1.1.1,Q.1.1.1.2⟩,Q.1.1.2⟩,Q.1.2⟩,Q.2⟩,(OwnD.nil _ _ _ _)⟩,(Dp.none _ _ _)⟩) ?_
  refine xS (fun nn ss ff=>∃ (k:Nat) (I:Option Addr) (sc:Nat) (C:List SqR) (sn:Nat),ss=ofL [(1,.p 1 0),(2,.p 2 0),yB 3 false,(4,.p 4 0),yB 5 true,(8,.p 8 0),eS1 21 X.pA X.ps.length X.pc,yJ 22 ((X.ps.length:Nat):Int),yJ 23 (j:Int),eS1 40 p.sA p.sq.length p.sc,yJ 41 ((p.sq.length:Nat):Int),yJ 42 (k:Int)] [(8,114,[.v (.slice F p.zs.length G),.v (.slice I sn sc)]),(4,26,[.v (.int .i64 X.d),.v (.slice l g.length y),.v (.slice none 0 0)]),(2,26,[.v (.int .i64 0),.v (.slice none 0 0),.v (.slice none 0 0)]),(1,91,[.v (.int .i64 X.d),.v (.slice X.pA X.ps.length X.pc),.v (.slice X.mA X.ms.length X.mc)])]∧ff=(fun w=>((((((dC.ok m w X∧OwnD w m0 114 2 l y g.length (g.flatMap PrR.cells))∧dPr.list.ok m0 w g)∧L≤w.heap.size)∧OwnD w m0 3 1 F G p.zs.length (intV p.zs))∧OwnD w L 179 7 I sc sn (C.flatMap SqR.cells))∧dSq.list.ok m0 w C))∧(k≤p.sq.length)∧(C.length=k)∧(∀ s∈C,SqG n s)∧(C.length=0→I=none)∧(C.length=sn)∧nn=(1+(p.sq.length-k))) ((1+(p.sq.length-0))) ⟨0,none,0,([]:List SqR),0,rfl,rfl,(uM _),rfl,(fun t h=>by cases h),(fun _=>rfl),rfl,rfl⟩ ?_
  rintro nn ss ff ⟨k,I,sc,C,sn,rfl,rfl,hk,y0,k0,z0,A0,rfl⟩
  subst A0
  refine zD (zC (xq 1 [yB 43 (decide ((k:Int)<((p.sq.length:Nat):Int)))] [] ?_))
  refine xe (zB (zD ?_))
  refine yQ ((decide ((k:Int)<((p.sq.length:Nat):Int)))) (fun T=>?_) fun T=>?_
  ·have U:k<p.sq.length:=by have:=uF T;omega
   have B0:=H.2.2.1
   refine zJ (zB (zD (zN (zD (zC ?_)))))
   obtain⟨bq,hB⟩:=OwnD.base (hd.1.2 p M).2.1 (uN (uM _) U)
   obtain⟨s,hs⟩:∃ x,p.sq[k]! = x:=⟨_,rfl⟩
   have K:s∈p.sq:=kJ U hs
   have V:=H.2.2.2 s K
   refine xqk 44 (.pointer (some ⟨bq,0+k*12,none⟩)) (fun w R Q=>xD hB (t:=168) (e:=175) (sz:=12) (x:=.tmp 40) (ix:=.tmp 42) (len:=p.sq.length) (cap:=p.sc) (i:=k) U) ?_
   refine xqk 45 (.agg #[.bool s.ca.1,.slice s.ca.2.1 s.ca.2.2.1 s.ca.2.2.2.1,.bool s.ca.2.2.2.2.1,.slice s.ca.2.2.2.2.2.1 s.ca.2.2.2.2.2.2.1 s.ca.2.2.2.2.2.2.2,.bool s.cb.1,.slice s.cb.2.1 s.cb.2.2.1 s.cb.2.2.2.1,.bool s.cb.2.2.2.2.1,.slice s.cb.2.2.2.2.2.1 s.cb.2.2.2.2.2.2.1 s.cb.2.2.2.2.2.2.2,.int .i64 s.r.a.v,.slice s.r.a.A s.r.a.ts.length s.r.a.c,.int .i64 s.r.b.v,.slice s.r.b.A s.r.b.ts.length s.r.b.c]) (fun w R Q=>by rw[←hs];exact lV (t:=175) (x:=.tmp 44) (k:=12) (f:=0) (j:=k) (part:=[.bool p.sq[k]!.ca.1,.slice p.sq[k]!.ca.2.1 p.sq[k]!.ca.2.2.1 p.sq[k]!.ca.2.2.2.1,.bool p.sq[k]!.ca.2.2.2.2.1,.slice p.sq[k]!.ca.2.2.2.2.2.1 p.sq[k]!.ca.2.2.2.2.2.2.1 p.sq[k]!.ca.2.2.2.2.2.2.2,.bool p.sq[k]!.cb.1,.slice p.sq[k]!.cb.2.1 p.sq[k]!.cb.2.2.1 p.sq[k]!.cb.2.2.2.1,.bool p.sq[k]!.cb.2.2.2.2.1,.slice p.sq[k]!.cb.2.2.2.2.2.1 p.sq[k]!.cb.2.2.2.2.2.2.1 p.sq[k]!.cb.2.2.2.2.2.2.2,.int .i64 p.sq[k]!.r.a.v,.slice p.sq[k]!.r.a.A p.sq[k]!.r.a.ts.length p.sq[k]!.r.a.c,.int .i64 p.sq[k]!.r.b.v,.slice p.sq[k]!.r.b.A p.sq[k]!.r.b.ts.length p.sq[k]!.r.b.c]) (enc:=RQ.cells) hB ((Q.1.1.1.1.1.1).1.2 p M).2.1 (fun _=>rfl) U rfl) ?_
   refine xq 2 [(10,.p 10 0)] [(10,175,[.v (.bool s.ca.1),.v (.slice s.ca.2.1 s.ca.2.2.1 s.ca.2.2.2.1),.v (.bool s.ca.2.2.2.2.1),.v (.slice s.ca.2.2.2.2.2.1 s.ca.2.2.2.2.2.2.1 s.ca.2.2.2.2.2.2.2),.v (.bool s.cb.1),.v (.slice s.cb.2.1 s.cb.2.2.1 s.cb.2.2.2.1),.v (.bool s.cb.2.2.2.2.1),.v (.slice s.cb.2.2.2.2.2.1 s.cb.2.2.2.2.2.2.1 s.cb.2.2.2.2.2.2.2),.v (.int .i64 s.r.a.v),.v (.slice s.r.a.A s.r.a.ts.length s.r.a.c),.v (.int .i64 s.r.b.v),.v (.slice s.r.b.A s.r.b.ts.length s.r.b.c)])] ?_
   refine xe (zB (zD (zC (xq 4 [yB 47 true,(49,.v (.agg #[.int .i64 s.r.a.v,.slice s.r.a.A s.r.a.ts.length s.r.a.c,.int .i64 s.r.b.v,.slice s.r.b.A s.r.b.ts.length s.r.b.c]))] [] ?_))))
   refine xqc 168 [.agg #[.int .i64 s.r.a.v,.slice s.r.a.A s.r.a.ts.length s.r.a.c,.int .i64 s.r.b.v,.slice s.r.b.A s.r.b.ts.length s.r.b.c]] 50 (fun _:Unit=>.bool true) _ (fun w R Q=>yN (ZeJ n m s.r _ hn V.2 (((Q.1.1.1.1.1.1).1.2 p M).2.2 s K).2)) fun xx=>?_
   refine xq 2 [yB 5 true] [] ?_
   refine xe (zB ?_)
   refine yO 7 zK ?_
   refine xqg 5 [eS1 53 I C.length sc,yJ 55 X.d,(56,.v (.agg #[.bool s.ca.1,.slice s.ca.2.1 s.ca.2.2.1 s.ca.2.2.2.1,.bool s.ca.2.2.2.2.1,.slice s.ca.2.2.2.2.2.1 s.ca.2.2.2.2.2.2.1 s.ca.2.2.2.2.2.2.2,.bool s.cb.1,.slice s.cb.2.1 s.cb.2.2.1 s.cb.2.2.2.1,.bool s.cb.2.2.2.2.1,.slice s.cb.2.2.2.2.2.1 s.cb.2.2.2.2.2.2.1 s.cb.2.2.2.2.2.2.2,.int .i64 s.r.a.v,.slice s.r.a.A s.r.a.ts.length s.r.a.c,.int .i64 s.r.b.v,.slice s.r.b.A s.r.b.ts.length s.r.b.c]))] ?_
   refine xqd 169 [.int .i64 X.d,.agg #[.bool s.ca.1,.slice s.ca.2.1 s.ca.2.2.1 s.ca.2.2.2.1,.bool s.ca.2.2.2.2.1,.slice s.ca.2.2.2.2.2.1 s.ca.2.2.2.2.2.2.1 s.ca.2.2.2.2.2.2.2,.bool s.cb.1,.slice s.cb.2.1 s.cb.2.2.1 s.cb.2.2.2.1,.bool s.cb.2.2.2.2.1,.slice s.cb.2.2.2.2.2.1 s.cb.2.2.2.2.2.2.1 s.cb.2.2.2.2.2.2.2,.int .i64 s.r.a.v,.slice s.r.a.A s.r.a.ts.length s.r.a.c,.int .i64 s.r.b.v,.slice s.r.b.A s.r.b.ts.length s.r.b.c]] 57 (fun x:{r:SqR // SqG n r}=>(.agg #[.string x.1.sa,.string x.1.sb,.int .i64 x.1.d,.int .i64 x.1.r.a.v,.slice x.1.r.a.A x.1.r.a.ts.length x.1.r.a.c,.int .i64 x.1.r.b.v,.slice x.1.r.b.A x.1.r.b.ts.length x.1.r.b.c])) _ (fun w R Q=>(Zjw n m X.d s _ V r0 hn (((Q.1.1.1.1.1.1.1).1.2 p M).2.2 s K)).mono (fun _ _ h=>Znc (B ▸ R.size) h)) fun⟨u,hu⟩=>?_
   refine gC 58 (fun J:{b:Nat // m0≤b}=>.slice (some ⟨J.1,0,none⟩) 1 1) (fun J zw=>Blk 179 zw J.1 #[.string u.sa,.string u.sb,.int .i64 u.d,.int .i64 u.r.a.v,.slice u.r.a.A u.r.a.ts.length u.r.a.c,.int .i64 u.r.b.v,.slice u.r.b.A u.r.b.ts.length u.r.b.c]) (by kernel_rfl) (by kernel_rfl) (by kernel_rfl) (by kernel_rfl) (by kernel_rfl) (by kernel_rfl) (by kernel_rfl) (fun w R Q=>xF (m0:=m0) (B ▸ R.size) (t:=112) (e:=179) (n:=1) (sz:=7) (z:=.agg #[.string ⟨#[]⟩,.string ⟨#[]⟩,.int .i64 0,.int .i64 0,.slice none 0 0,.int .i64 0,.slice none 0 0]) (parts:=#[(0,Operand.tmp 57)]) (by kernel_rfl) (by kernel_rfl) (by kernel_rfl) (by kernel_rfl) (by kernel_rfl) (by kernel_rfl)) fun⟨l0,G0⟩=>?_
   refine xf 0 [(1,.p 1 0),(2,.p 2 0),yB 3 false,(4,.p 4 0),yB 5 true,(8,.p 8 0),eS1 21 X.pA X.ps.length X.pc,yJ 22 ((X.ps.length:Nat):Int),yJ 23 (j:Int),eS1 40 p.sA p.sq.length p.sc,yJ 41 ((p.sq.length:Nat):Int),yJ 42 (k:Int),eS1 53 I C.length sc,eS1 58 (some ⟨l0,0,none⟩) 1 1] [(10,175,[.v (.bool s.ca.1),.v (.slice s.ca.2.1 s.ca.2.2.1 s.ca.2.2.2.1),.v (.bool s.ca.2.2.2.2.1),.v (.slice s.ca.2.2.2.2.2.1 s.ca.2.2.2.2.2.2.1 s.ca.2.2.2.2.2.2.2),.v (.bool s.cb.1),.v (.slice s.cb.2.1 s.cb.2.2.1 s.cb.2.2.2.1),.v (.bool s.cb.2.2.2.2.1),.v (.slice s.cb.2.2.2.2.2.1 s.cb.2.2.2.2.2.2.1 s.cb.2.2.2.2.2.2.2),.v (.int .i64 s.r.a.v),.v (.slice s.r.a.A s.r.a.ts.length s.r.a.c),.v (.int .i64 s.r.b.v),.v (.slice s.r.b.A s.r.b.ts.length s.r.b.c)]),(8,114,[.v (.slice F p.zs.length G),.v (.slice I C.length sc)]),(4,26,[.v (.int .i64 X.d),.v (.slice l g.length y),.v (.slice none 0 0)]),(2,26,[.v (.int .i64 0),.v (.slice none 0 0),.v (.slice none 0 0)]),(1,91,[.v (.int .i64 X.d),.v (.slice X.pA X.ps.length X.pc),.v (.slice X.mA X.ms.length X.mc)])] ?_
   refine xz ?_
   refine lJ (d:=59) (k:=7) (n:=C.length) (m:=1) (cap:=sc) (bytes:=104) (t:=112) (e:=179) (s0:=Operand.tmp 53) (x:=Operand.tmp 58) (xs:=C.flatMap SqR.cells) (news:=[.string u.sa,.string u.sb,.int .i64 u.d,.int .i64 u.r.a.v,.slice u.r.a.A u.r.a.ts.length u.r.a.c,.int .i64 u.r.b.v,.slice u.r.b.A u.r.b.ts.length u.r.b.c]) (z:=(.agg #[.string ⟨#[]⟩,.string ⟨#[]⟩,.int .i64 0,.int .i64 0,.slice none 0 0,.int .i64 0,.slice none 0 0])) L I (fun j hj h=>Or.inl (B ▸ uD a0.1 h)) l0 1 (fun w=>((((((dC.ok m w X∧OwnD w m0 114 2 l y g.length (g.flatMap PrR.cells))∧dPr.list.ok m0 w g)∧L≤w.heap.size)∧OwnD w m0 3 1 F G p.zs.length (intV p.zs))∧dSq.list.ok m0 w C)∧dSq.ok m0 w u)) (fun w R Q=>Q.1.1.1.1.1.1.2) (fun w Q=>Q.1.1.1.1.2) (fun w Q=>Blk.news Q.2) rfl (by decide) rfl (wG.list (by simp)) (by decide) (by simp[Value.oneCell']) (ZaR rfl) (by simp only[maxLen];omega) (by omega) z0 (fun w w2 R Q E=>⟨⟨⟨⟨⟨⟨Dp.rowB Q.1.1.1.1.1.1.1.1.1 (Dp.below.mono N a0.1) Q.1.1.1.1.2 E,OwnD.other Q.1.1.1.1.1.1.1.1.2 Q.1.1.1.1.2 (by decide) E⟩,Dp.rowB Q.1.1.1.1.1.1.1.2 a0.2 Q.1.1.1.1.2 E⟩,uD Q.1.1.1.1.1.1.2 E.size⟩,OwnD.other Q.1.1.1.1.1.2 Q.1.1.1.1.2 (by decide) E⟩,Dp.rowUp Q.1.1.1.2 Q.1.1.1.1.2 (by decide) E⟩,Dp.rowUp Q.1.2 Q.1.1.1.1.2 (by decide) E⟩) fun b0 c0 H0=>?_
   refine xr 2 [(1,.p 1 0),(2,.p 2 0),yB 3 false,(4,.p 4 0),yB 5 true,(8,.p 8 0),eS1 21 X.pA X.ps.length X.pc,yJ 22 ((X.ps.length:Nat):Int),yJ 23 (j:Int),eS1 40 p.sA p.sq.length p.sc,yJ 41 ((p.sq.length:Nat):Int),yJ 42 (k:Int)] [(8,114,[.v (.slice F p.zs.length G),.v (.slice b0 (C.length+1) c0)]),(4,26,[.v (.int .i64 X.d),.v (.slice l g.length y),.v (.slice none 0 0)]),(2,26,[.v (.int .i64 0),.v (.slice none 0 0),.v (.slice none 0 0)]),(1,91,[.v (.int .i64 X.d),.v (.slice X.pA X.ps.length X.pc),.v (.slice X.mA X.ms.length X.mc)])] ?_
   refine xe (xK (zB (zC (xq 1 [yJ 61 (IntKind.i64.wrap ((k:Int)+1))] [] ?_))))
   rw[(show IntKind.i64.wrap ((k:Int)+1)=((k+1:Nat):Int) by rw[IntKind.wrap_i64];omega)]
   refine xq 1 [yJ 42 ((k+1:Nat):Int)] [] ?_
   refine xe ?_
   refine yP [(1,.p 1 0),(2,.p 2 0),yB 3 false,(4,.p 4 0),yB 5 true,(8,.p 8 0),eS1 21 X.pA X.ps.length X.pc,yJ 22 ((X.ps.length:Nat):Int),yJ 23 (j:Int),eS1 40 p.sA p.sq.length p.sc,yJ 41 ((p.sq.length:Nat):Int),yJ 42 (((k+1):Nat):Int)] [(8,114,[.v (.slice F p.zs.length G),.v (.slice b0 (C.length+1) c0)]),(4,26,[.v (.int .i64 X.d),.v (.slice l g.length y),.v (.slice none 0 0)]),(2,26,[.v (.int .i64 0),.v (.slice none 0 0),.v (.slice none 0 0)]),(1,91,[.v (.int .i64 X.d),.v (.slice X.pA X.ps.length X.pc),.v (.slice X.mA X.ms.length X.mc)])] (fun w=>((((((dC.ok m w X∧OwnD w m0 114 2 l y g.length (g.flatMap PrR.cells))∧dPr.list.ok m0 w g)∧L≤w.heap.size)∧OwnD w m0 3 1 F G p.zs.length (intV p.zs))∧OwnD w L 179 7 b0 c0 (C.length+1) ((C ++ [u]).flatMap SqR.cells))∧dSq.list.ok m0 w (C ++ [u]))) (fun w Q=>⟨⟨⟨⟨⟨⟨Q.1.1.1.1.1.1.1,Q.1.1.1.1.1.1.2⟩,Q.1.1.1.1.1.2⟩,Q.1.1.1.1.2⟩,Q.1.1.1.2⟩,(by rw[tI];exact Q.2)⟩,(Dp.snoc Q.1.1.2 Q.1.2)⟩) ?_
   exact xE ((1+(p.sq.length-(k+1)))) (by omega) ⟨(k+1),b0,c0,(C ++ [u]),(C.length+1),rfl,rfl,U,(by rw[uA,y0];rfl),(eL k0 hu),(fun h=>by rw[uA] at h;simp at h),uA,rfl⟩
  have C0:k=p.sq.length:=by have:=uE T;omega
  have B0:=H.2.2.1
  refine xN (zH (zH (xX (zB (zC (xq 3 [eS1 63 l g.length y,(64,.v (.agg #[.slice F p.zs.length G,.slice I C.length sc]))] [] ?_))))))
  refine yD (d:=65) (fun J:{b:Nat // m0≤b}=>.slice (some ⟨J.1,0,none⟩) 1 1) (fun J zw=>Blk 114 zw J.1 #[.slice F p.zs.length G,.slice I C.length sc]) (fun w R Q=>xF (m0:=m0) (B ▸ R.size) (t:=23) (e:=114) (n:=1) (sz:=2) (z:=.agg #[.slice none 0 0,.slice none 0 0]) (parts:=#[(0,Operand.tmp 64)]) (by kernel_rfl) (by kernel_rfl) (by kernel_rfl) (by kernel_rfl) (by kernel_rfl) (by kernel_rfl)) fun⟨n0,I0⟩=>?_
  refine xr 0 [(1,.p 1 0),(2,.p 2 0),yB 3 false,(4,.p 4 0),yB 5 true,eS1 21 X.pA X.ps.length X.pc,yJ 22 ((X.ps.length:Nat):Int),yJ 23 (j:Int),eS1 63 l g.length y,eS1 65 (some ⟨n0,0,none⟩) 1 1] [(4,26,[.v (.int .i64 X.d),.v (.slice l g.length y),.v (.slice none 0 0)]),(2,26,[.v (.int .i64 0),.v (.slice none 0 0),.v (.slice none 0 0)]),(1,91,[.v (.int .i64 X.d),.v (.slice X.pA X.ps.length X.pc),.v (.slice X.mA X.ms.length X.mc)])] ?_
  refine lJ (d:=66) (k:=2) (n:=g.length) (m:=1) (cap:=y) (bytes:=48) (t:=23) (e:=114) (s0:=Operand.tmp 63) (x:=Operand.tmp 65) (xs:=g.flatMap PrR.cells) (news:=[.slice F p.zs.length G,.slice I C.length sc]) (z:=(.agg #[.slice none 0 0,.slice none 0 0])) m0 l (fun j hj h=>Or.inl (B ▸ h)) n0 1 (fun w=>(((((dC.ok m w X∧dPr.list.ok m0 w g)∧L≤w.heap.size)∧OwnD w m0 3 1 F G p.zs.length (intV p.zs))∧OwnD w L 179 7 I sc C.length (C.flatMap SqR.cells))∧dSq.list.ok m0 w C)) (fun w R Q=>B ▸ R.size) (fun w Q=>Q.1.1.1.1.1.1.2) (fun w Q=>Blk.news Q.2) rfl (by decide) rfl (wG.list (by simp)) (by decide) (by simp[Value.oneCell']) (ZaR rfl) (by simp only[maxLen];omega) (by omega) u0 (fun w w2 R Q E=>⟨⟨⟨⟨⟨Dp.rowB Q.1.1.1.1.1.1.1 N Q.1.1.1.1.1.1.2 E,Dp.rowUp Q.1.1.1.1.1.2 Q.1.1.1.1.1.1.2 (by decide) E⟩,uD Q.1.1.1.1.2 E.size⟩,OwnD.other Q.1.1.1.2 Q.1.1.1.1.1.1.2 (by decide) E⟩,OwnD.other Q.1.1.2 Q.1.1.1.1.1.1.2 (by decide) E⟩,Dp.rowUp Q.1.2 Q.1.1.1.1.1.1.2 (by decide) E⟩) fun d0 e0 J0=>?_
  refine xr 2 [(1,.p 1 0),(2,.p 2 0),yB 3 false,(4,.p 4 0),yB 5 true,eS1 21 X.pA X.ps.length X.pc,yJ 22 ((X.ps.length:Nat):Int),yJ 23 (j:Int)] [(4,26,[.v (.int .i64 X.d),.v (.slice d0 (g.length+1) e0),.v (.slice none 0 0)]),(2,26,[.v (.int .i64 0),.v (.slice none 0 0),.v (.slice none 0 0)]),(1,91,[.v (.int .i64 X.d),.v (.slice X.pA X.ps.length X.pc),.v (.slice X.mA X.ms.length X.mc)])] ?_
  refine xe (xK (zB (zC (xq 1 [yJ 68 (IntKind.i64.wrap ((j:Int)+1))] [] ?_))))
  rw[(show IntKind.i64.wrap ((j:Int)+1)=((j+1:Nat):Int) by rw[IntKind.wrap_i64];omega)]
  refine xq 1 [yJ 23 ((j+1:Nat):Int)] [] ?_
  refine xe ?_
  refine yP [(1,.p 1 0),(2,.p 2 0),yB 3 false,(4,.p 4 0),yB 5 true,eS1 21 X.pA X.ps.length X.pc,yJ 22 ((X.ps.length:Nat):Int),yJ 23 (((j+1):Nat):Int)] [(4,26,[.v (.int .i64 X.d),.v (.slice d0 (g.length+1) e0),.v (.slice none 0 0)]),(2,26,[.v (.int .i64 0),.v (.slice none 0 0),.v (.slice none 0 0)]),(1,91,[.v (.int .i64 X.d),.v (.slice X.pA X.ps.length X.pc),.v (.slice X.mA X.ms.length X.mc)])] (fun w=>((dC.ok m w X∧OwnD w m0 114 2 d0 e0 (g.length+1) ((g ++ [(⟨F,G,p.zs,I,sc,C⟩:PrR)]).flatMap PrR.cells))∧dPr.list.ok m0 w (g ++ [(⟨F,G,p.zs,I,sc,C⟩:PrR)]))) (fun w Q=>⟨⟨Q.1.1.1.1.1.1,(by rw[tI];exact Q.2)⟩,(Dp.snoc Q.1.1.1.1.1.2 (show dPr.ok m0 w ((⟨F,G,p.zs,I,sc,C⟩:PrR):PrR) from ⟨Q.1.1.1.2,OwnD.mono Q.1.1.2 a0.1,Q.1.2⟩))⟩) ?_
  exact xE ((1+(X.ps.length-(j+1)))) (by omega) ⟨(j+1),d0,e0,(g ++ [(⟨F,G,p.zs,I,sc,C⟩:PrR)]),(g.length+1),rfl,rfl,S,(by rw[uA,t0];rfl),(eL i0 ⟨H.1,H.2.1,by show C.length≤2;omega,k0⟩),(fun h=>by rw[uA] at h;simp at h),uA,rfl⟩
 have M0:j=X.ps.length:=by have:=uE O;omega
 have w0:=hX.2.1
 refine xN (zH (zH (xX (zB (zD (zD (zC (xq 4 [eS1 70 X.mA X.ms.length X.mc,yJ 71 ((X.ms.length:Nat):Int),yJ 72 0] [] ?_))))))))
 refine xe (zB (zN ?_))
 refine yC [(2,.p 2 0),yB 3 false,(4,.p 4 0),yB 5 true,eS1 70 X.mA X.ms.length X.mc,yJ 71 ((X.ms.length:Nat):Int),yJ 72 ((0:Nat):Int)] [(4,26,[.v (.int .i64 X.d),.v (.slice l g.length y),.v (.slice none 0 0)]),(2,26,[.v (.int .i64 0),.v (.slice none 0 0),.v (.slice none 0 0)])] (fun w=>((((dC.ok m w X∧OwnD w m0 114 2 l y g.length (g.flatMap PrR.cells))∧dPr.list.ok m0 w g)∧OwnD w m0 118 4 none 0 0 (([]:List MuR).flatMap MuR.cells))∧dMu.list.ok m0 w ([]:List MuR))) (fun w Q=>⟨⟨⟨⟨Q.1.1,Q.1.2⟩,Q.2⟩,(OwnD.nil _ _ _ _)⟩,(Dp.none _ _ _)⟩) ?_
 refine xS (fun nn ss ff=>∃ (k:Nat) (W:Option Addr) (mc:Nat) (D:List MuR) (mn:Nat),ss=ofL [(2,.p 2 0),yB 3 false,(4,.p 4 0),yB 5 true,eS1 70 X.mA X.ms.length X.mc,yJ 71 ((X.ms.length:Nat):Int),yJ 72 (k:Int)] [(4,26,[.v (.int .i64 X.d),.v (.slice l g.length y),.v (.slice W mn mc)]),(2,26,[.v (.int .i64 0),.v (.slice none 0 0),.v (.slice none 0 0)])]∧ff=(fun w=>((((dC.ok m w X∧OwnD w m0 114 2 l y g.length (g.flatMap PrR.cells))∧dPr.list.ok m0 w g)∧OwnD w m0 118 4 W mc mn (D.flatMap MuR.cells))∧dMu.list.ok m0 w D))∧(k≤X.ms.length)∧(D.length=k)∧(∀ s∈D,MuG n s)∧(D.length=0→W=none)∧(D.length=mn)∧nn=(1+(X.ms.length-k))) ((1+(X.ms.length-0))) ⟨0,none,0,([]:List MuR),0,rfl,rfl,(uM _),rfl,(fun t h=>by cases h),(fun _=>rfl),rfl,rfl⟩ ?_
 rintro nn ss ff ⟨k,W,mc,D,mn,rfl,rfl,hk,D0,o0,p0,E0,rfl⟩
 subst E0
 refine zD (zC (xq 1 [yB 73 (decide ((k:Int)<((X.ms.length:Nat):Int)))] [] ?_))
 refine xe (zB (zD ?_))
 refine yQ ((decide ((k:Int)<((X.ms.length:Nat):Int)))) (fun Y=>?_) fun Y=>?_
 ·have Z:k<X.ms.length:=by have:=uF Y;omega
  have F0:=hX.2.2.1
  refine zJ (zB (zD (zN (zD (zC ?_)))))
  obtain⟨bs,hA⟩:=OwnD.base hd.2.1 (uN (uM _) Z)
  obtain⟨s,hs⟩:∃ x,X.ms[k]! = x:=⟨_,rfl⟩
  have K:s∈X.ms:=kJ Z hs
  have V:=hX.2.2.2.2 s K
  refine xqk 74 (.pointer (some ⟨bs,0+k*4,none⟩)) (fun w R Q=>xD hA (t:=89) (e:=172) (sz:=4) (x:=.tmp 70) (ix:=.tmp 72) (len:=X.ms.length) (cap:=X.mc) (i:=k) Z) ?_
  refine xqk 75 (.agg #[.int .i64 s.a.v,.slice s.a.A s.a.ts.length s.a.c,.int .i64 s.b.v,.slice s.b.A s.b.ts.length s.b.c]) (fun w R Q=>by rw[←hs];exact lV (t:=172) (x:=.tmp 74) (k:=4) (f:=0) (j:=k) (part:=[.int .i64 X.ms[k]!.a.v,.slice X.ms[k]!.a.A X.ms[k]!.a.ts.length X.ms[k]!.a.c,.int .i64 X.ms[k]!.b.v,.slice X.ms[k]!.b.A X.ms[k]!.b.ts.length X.ms[k]!.b.c]) (enc:=RS.cells) hA (Q.1.1.1.1).2.1 (fun _=>rfl) Z rfl) ?_
  refine xq 2 [(12,.p 12 0)] [(12,172,[.v (.int .i64 s.a.v),.v (.slice s.a.A s.a.ts.length s.a.c),.v (.int .i64 s.b.v),.v (.slice s.b.A s.b.ts.length s.b.c)])] ?_
  refine xe (zB (zD (zC (xq 3 [yB 77 true,(78,.v (.agg #[.int .i64 s.a.v,.slice s.a.A s.a.ts.length s.a.c,.int .i64 s.b.v,.slice s.b.A s.b.ts.length s.b.c]))] [] ?_))))
  refine xqc 168 [.agg #[.int .i64 s.a.v,.slice s.a.A s.a.ts.length s.a.c,.int .i64 s.b.v,.slice s.b.A s.b.ts.length s.b.c]] 79 (fun _:Unit=>.bool true) _ (fun w R Q=>yN (ZeJ n m s _ hn V ((Q.1.1.1.1).2.2 s K))) fun xx=>?_
  refine xq 2 [yB 5 true] [] ?_
  refine xe (zB ?_)
  refine yO 5 zK ?_
  refine xqg 3 [eS1 82 W D.length mc,(83,.v (.agg #[.int .i64 s.a.v,.slice s.a.A s.a.ts.length s.a.c,.int .i64 s.b.v,.slice s.b.A s.b.ts.length s.b.c]))] ?_
  refine xqd 170 [.agg #[.int .i64 s.a.v,.slice s.a.A s.a.ts.length s.a.c,.int .i64 s.b.v,.slice s.b.A s.b.ts.length s.b.c]] 84 (fun x:{r:MuR // MuG n r}=>.agg #[.int .i64 x.1.a.v,.slice x.1.a.A x.1.a.ts.length x.1.a.c,.int .i64 x.1.b.v,.slice x.1.b.A x.1.b.ts.length x.1.b.c]) _ (fun w R Q=>(ZeL n m s _ V hn ((Q.1.1.1.1.1).2.2 s K)).mono (fun _ _ h=>ZiJ (B ▸ R.size) h)) fun⟨u,hu⟩=>?_
  refine gC 85 (fun J:{b:Nat // m0≤b}=>.slice (some ⟨J.1,0,none⟩) 1 1) (fun J zw=>Blk 118 zw J.1 #[.int .i64 u.a.v,.slice u.a.A u.a.ts.length u.a.c,.int .i64 u.b.v,.slice u.b.A u.b.ts.length u.b.c]) (by kernel_rfl) (by kernel_rfl) (by kernel_rfl) (by kernel_rfl) (by kernel_rfl) (by kernel_rfl) (by kernel_rfl) (fun w R Q=>xF (m0:=m0) (B ▸ R.size) (t:=24) (e:=118) (n:=1) (sz:=4) (z:=.agg #[.int .i64 0,.slice none 0 0,.int .i64 0,.slice none 0 0]) (parts:=#[(0,Operand.tmp 84)]) (by kernel_rfl) (by kernel_rfl) (by kernel_rfl) (by kernel_rfl) (by kernel_rfl) (by kernel_rfl)) fun⟨q0,K0⟩=>?_
  refine xf 0 [(2,.p 2 0),yB 3 false,(4,.p 4 0),yB 5 true,eS1 70 X.mA X.ms.length X.mc,yJ 71 ((X.ms.length:Nat):Int),yJ 72 (k:Int),eS1 82 W D.length mc,eS1 85 (some ⟨q0,0,none⟩) 1 1] [(12,172,[.v (.int .i64 s.a.v),.v (.slice s.a.A s.a.ts.length s.a.c),.v (.int .i64 s.b.v),.v (.slice s.b.A s.b.ts.length s.b.c)]),(4,26,[.v (.int .i64 X.d),.v (.slice l g.length y),.v (.slice W D.length mc)]),(2,26,[.v (.int .i64 0),.v (.slice none 0 0),.v (.slice none 0 0)])] ?_
  refine xz ?_
  refine lJ (d:=86) (k:=4) (n:=D.length) (m:=1) (cap:=mc) (bytes:=64) (t:=24) (e:=118) (s0:=Operand.tmp 82) (x:=Operand.tmp 85) (xs:=D.flatMap MuR.cells) (news:=[.int .i64 u.a.v,.slice u.a.A u.a.ts.length u.a.c,.int .i64 u.b.v,.slice u.b.A u.b.ts.length u.b.c]) (z:=(.agg #[.int .i64 0,.slice none 0 0,.int .i64 0,.slice none 0 0])) m0 W (fun j hj h=>Or.inl (B ▸ h)) q0 1 (fun w=>((((dC.ok m w X∧OwnD w m0 114 2 l y g.length (g.flatMap PrR.cells))∧dPr.list.ok m0 w g)∧dMu.list.ok m0 w D)∧dMu.ok m0 w u)) (fun w R Q=>B ▸ R.size) (fun w Q=>Q.1.1.1.1.2) (fun w Q=>Blk.news Q.2) rfl (by decide) rfl (wG.list (by simp)) (by decide) (by simp[Value.oneCell']) (ZaR rfl) (by simp only[maxLen];omega) (by omega) p0 (fun w w2 R Q E=>⟨⟨⟨⟨Dp.rowB Q.1.1.1.1.1.1.1 N Q.1.1.1.1.2 E,OwnD.other Q.1.1.1.1.1.1.2 Q.1.1.1.1.2 (by decide) E⟩,Dp.rowUp Q.1.1.1.1.1.2 Q.1.1.1.1.2 (by decide) E⟩,Dp.rowUp Q.1.1.1.2 Q.1.1.1.1.2 (by decide) E⟩,Dp.rowUp Q.1.2 Q.1.1.1.1.2 (by decide) E⟩) fun f0 g0 L0=>?_
  refine xr 2 [(2,.p 2 0),yB 3 false,(4,.p 4 0),yB 5 true,eS1 70 X.mA X.ms.length X.mc,yJ 71 ((X.ms.length:Nat):Int),yJ 72 (k:Int)] [(4,26,[.v (.int .i64 X.d),.v (.slice l g.length y),.v (.slice f0 (D.length+1) g0)]),(2,26,[.v (.int .i64 0),.v (.slice none 0 0),.v (.slice none 0 0)])] ?_
  refine xe (xK (zB (zC (xq 1 [yJ 88 (IntKind.i64.wrap ((k:Int)+1))] [] ?_))))
  rw[(show IntKind.i64.wrap ((k:Int)+1)=((k+1:Nat):Int) by rw[IntKind.wrap_i64];omega)]
  refine xq 1 [yJ 72 ((k+1:Nat):Int)] [] ?_
  refine xe ?_
  refine yP [(2,.p 2 0),yB 3 false,(4,.p 4 0),yB 5 true,eS1 70 X.mA X.ms.length X.mc,yJ 71 ((X.ms.length:Nat):Int),yJ 72 (((k+1):Nat):Int)] [(4,26,[.v (.int .i64 X.d),.v (.slice l g.length y),.v (.slice f0 (D.length+1) g0)]),(2,26,[.v (.int .i64 0),.v (.slice none 0 0),.v (.slice none 0 0)])] (fun w=>((((dC.ok m w X∧OwnD w m0 114 2 l y g.length (g.flatMap PrR.cells))∧dPr.list.ok m0 w g)∧OwnD w m0 118 4 f0 g0 (D.length+1) ((D ++ [u]).flatMap MuR.cells))∧dMu.list.ok m0 w (D ++ [u]))) (fun w Q=>⟨⟨⟨⟨Q.1.1.1.1.1,Q.1.1.1.1.2⟩,Q.1.1.1.2⟩,(by rw[tI];exact Q.2)⟩,(Dp.snoc Q.1.1.2 Q.1.2)⟩) ?_
  exact xE ((1+(X.ms.length-(k+1)))) (by omega) ⟨(k+1),f0,g0,(D ++ [u]),(D.length+1),rfl,rfl,Z,(by rw[uA,D0];rfl),(eL o0 hu),(fun h=>by rw[uA] at h;simp at h),uA,rfl⟩
 have C0:k=X.ms.length:=by have:=uE Y;omega
 have F0:=hX.2.2.1
 refine xN (zH (zH (xX (zB (zD (zC (xq 4 [yB 3 true] [(2,26,[.v (.int .i64 X.d),.v (.slice l g.length y),.v (.slice W D.length mc)])] ?_)))))))
 refine xe (zB (zI ?_))
 refine yR (.tuple #[.agg #[.int .i64 X.d,.slice l g.length y,.slice W D.length mc],.bool true]) fun w' R Q=>?_
 exact⟨⟨X.d,l,y,g,W,mc,D⟩,⟨⟨by show 1≤X.d;omega,by show X.d≤9;omega⟩,by show g.length≤2;omega,by show D.length≤1;omega,i0,o0⟩,rfl,B ▸ ⟨⟨Q.1.1.1.2,Q.1.1.2⟩,Q.1.2,Q.2⟩,R⟩
theorem Znd {n m0:Nat}{w w':World}{e:Ending}(b:m0≤w.heap.size)(h:∃ r:IdR,IdG n r∧e=.returned (.tuple #[.agg #[.int .i64 r.d,.slice r.pA r.ps.length r.pc,.slice r.mA r.ms.length r.mc],.bool true])∧dId.ok w.heap.size w' r∧Ext w w') :
 wS (fun x:{r:IdR // IdG n r}=>.tuple #[.agg #[.int .i64 x.1.d,.slice x.1.pA x.1.ps.length x.1.pc,.slice x.1.mA x.1.ms.length x.1.mc],.bool true]) (fun x w=>dId.ok m0 w x.1) w e w':=by
 obtain⟨r,c,rfl,f,Q⟩:=h
 exact⟨⟨r,c⟩,rfl,Q,fun S g a i=>Dp.mono _ (Dp.boxN f Q S g a i) b⟩
instance {n:Nat}:Nonempty {r:IdR // IdG n r}:=⟨⟨⟨1,none,0,[],none,0,[]⟩,⟨by decide,by decide⟩,by decide,by decide,fun p h=>(by cases h),fun p h=>(by cases h)⟩⟩
theorem ZhZ (n m:Nat)(X:RC)(w:World)(c:CGd n X.d X)(b:X.d=1∨X.d=2∨X.d=3∨X.d=5)(f:n=1∨n=2)(g:dC.ok m w X) :
 yA 29 #[.agg #[.int .i64 X.d,.slice X.pA X.ps.length X.pc,.slice X.mA X.ms.length X.mc]] w (fun e w'=>∃ r:IdR,IdG n r∧e=.returned (.agg #[.int .i64 r.d,.slice r.pA r.ps.length r.pc,.slice r.mA r.ms.length r.mc])∧dId.ok w.heap.size w' r∧Ext w w'):=by
 obtain⟨k,a⟩:∃ m,m=w.heap.size:=⟨_,rfl⟩
 refine xB (Φ:=fun w=>dC.ok m w X) Tryz.func29 rfl (by kernel_rfl) (fun w' i=>Dp.ext g i) ?_
 refine zD (zC (xq 2 [(1,.p 1 0),(2,.p 2 0)] [(2,26,[.v (.int .i64 0),.v (.slice none 0 0),.v (.slice none 0 0)]),(1,91,[.v (.int .i64 X.d),.v (.slice X.pA X.ps.length X.pc),.v (.slice X.mA X.ms.length X.mc)])] ?_))
 refine xe (zB (zD (zC (xq 1 [(6,.v (.agg #[.int .i64 X.d,.slice X.pA X.ps.length X.pc,.slice X.mA X.ms.length X.mc]))] [] ?_))))
 refine xqc 75 [.agg #[.int .i64 X.d,.slice X.pA X.ps.length X.pc,.slice X.mA X.ms.length X.mc]] 7 (fun x:{r:IdR // IdG n r}=>.tuple #[.agg #[.int .i64 x.1.d,.slice x.1.pA x.1.ps.length x.1.pc,.slice x.1.mA x.1.ms.length x.1.mc],.bool true]) _ (fun w R Q=>(Zjx n m X _ c b f (Q)).mono (fun _ _ h=>Znd (a ▸ R.size) h)) fun⟨r,j⟩=>?_
 refine xq 6 [(3,.p 3 0)] [(3,26,[.v (.int .i64 r.d),.v (.slice r.pA r.ps.length r.pc),.v (.slice r.mA r.ms.length r.mc)])] ?_
 refine xe (zB (zD (zC (xq 2 [] [(2,26,[.v (.int .i64 r.d),.v (.slice r.pA r.ps.length r.pc),.v (.slice r.mA r.ms.length r.mc)])] ?_))))
 refine xe (zB (zI ?_))
 refine yR (.agg #[.int .i64 r.d,.slice r.pA r.ps.length r.pc,.slice r.mA r.ms.length r.mc]) fun w' R Q=>?_
 exact⟨r,j,rfl,a ▸ Q.2,R⟩
def PolyR.sm (p:PolyR):Prop:=p.ts.length≤1000000∧∀ t∈p.ts,t.exps.length≤1000000
def MuR.sm (m:MuR):Prop:=m.a.sm∧m.b.sm
def IdR.sm (x:IdR):Prop:=x.ps.length≤1000000∧x.ms.length≤1000000∧(∀ p∈x.ps,p.zs.length≤1000000∧p.sq.length≤1000000∧∀ s∈p.sq,s.r.sm)∧∀ m∈x.ms,m.sm
theorem PyG.sm {n:Nat}(b:n=1∨n=2){r:PolyR}(h:PyG n r):r.sm:=by
 refine⟨by have:=h.len;omega,fun t c=>?_⟩
 obtain⟨i,a,rfl⟩:=rO c
 have:=h.exl b i a
 rw[getElem!_pos r.ts i a] at this
 omega
theorem IdG.sm {n:Nat}(a:n=1∨n=2){x:IdR}(h:IdG n x):x.sm:=by
 obtain⟨_,g,i,b,d⟩:=h
 exact⟨by omega,by omega,fun p c=>⟨by have:=(b p c).2.1;omega,by have:=(b p c).2.2.1;omega,fun s e=>⟨((b p c).2.2.2 s e).2.1.sm a,((b p c).2.2.2 s e).2.2.sm a⟩⟩,fun m f=>⟨(d m f).1.sm a,(d m f).2.sm a⟩⟩
section
variable {α κ:Type} [Inhabited α] {key:α→κ} {xs ys:List α} {k:Nat}
theorem ZaS (h:(xs.take k).map key=(ys.take k).map key)(a:k<xs.length)(b:k<ys.length)(c:key xs[k]! = key ys[k]!):(xs.take (k+1)).map key=(ys.take (k+1)).map key:=by
 rw[vE a,vE b,qG,qG,h,← getElem!_pos xs k a,← getElem!_pos ys k b,List.map_singleton,List.map_singleton,c]
omit [Inhabited α] in
theorem ZbA (h:(xs.take k).map key=(ys.take k).map key)(a:xs.length≤k)(b:ys.length≤k):xs.map key=ys.map key:=by
 rwa [uB a,uB b] at h
theorem cJ (h:xs.map key=ys.map key)(a:k<xs.length)(b:k<ys.length):key xs[k]! = key ys[k]! := by
 have c:(xs.map key)[k]? = (ys.map key)[k]? := by rw[h]
 rw[List.getElem?_map,List.getElem?_map,List.getElem?_eq_getElem a,List.getElem?_eq_getElem b] at c
 rw[getElem!_pos xs k a,getElem!_pos ys k b]
 exact sN c
end
theorem ZkT {zs ys:List Int}{k:Nat}(h:zs.take k=ys.take k)(b:k<zs.length)(c:k<ys.length)(a:nth zs k=nth ys k):zs.take (k+1)=ys.take (k+1):=by
 unfold nth at a
 rw[List.getElem?_eq_getElem b,List.getElem?_eq_getElem c] at a
 rw[vE b,vE c,h,show zs[k]=ys[k] from a]
theorem ZlT {zs ys:List Int}{k:Nat}(h:zs.take k=ys.take k)(a:zs.length≤k)(b:ys.length≤k):zs=ys:=by
 rwa [uB a,uB b] at h
theorem bn_t {b:Bool}(h:(!b)=true):b=false:=by cases b<;>simp_all
theorem bn_f {b:Bool}(h:(!b)=false):b=true:=by cases b<;>simp_all
theorem jC (a:ByteArray):a.toList=bytes a:=by
 rw[ByteArray.toList_eq]
theorem ZnU {a b:ByteArray}(h:(!(a.toList == b.toList))=false):a=b:=by
 have c:a.toList=b.toList:=by simpa using h
 rw[jC,jC] at c
 exact bT c
theorem Znf {a b a' b':ByteArray}{d d':Int}(h:(!((a.toList == a'.toList) && ((b.toList == b'.toList) && (d == d'))))=false):a=a'∧b=b'∧d=d':=by
 have c:a.toList=a'.toList∧b.toList=b'.toList∧d=d':=by simpa using h
 rw[jC,jC,jC,jC] at c
 exact⟨bT c.1,bT c.2.1,c.2.2⟩
theorem Zcv (A B:Option Addr)(c d:Nat)(zs ys:List Int)(w:World)(z:IRow w A zs)(C:IRow w B ys)(D:zs.length≤1000000)(_:ys.length≤1000000) :
 yA 36 #[.slice A zs.length c,.slice B ys.length d] w (RetV w (.bool (decide (zs=ys)))):=by
 refine xB (Φ:=fun w=>(IRow w A zs∧IRow w B ys)) Tryz.func36 rfl (by kernel_rfl) (fun w' r=>⟨z.ext r,C.ext r⟩) ?_
 refine zD (zC (xq 1 [yB 4 false] [] ?_))
 refine xe (zB (zD (zD (zC (xq 5 [yB 10 ((((zs.length:Nat):Int):Int) != ((ys.length:Nat):Int))] [] ?_)))))
 refine xe (zB ?_)
 refine yQ (((((zs.length:Nat):Int):Int) != ((ys.length:Nat):Int))) (fun a=>?_) fun a=>?_
 ·have n:¬ zs=ys:=fun e=>by rw[e] at a;simp at a
  refine zD (zC (xq 1 [yB 4 false] [] ?_))
  refine xe (zB (zI (zE ?_)))
  refine yR (.bool false) fun w' R Q=>?_
  exact⟨by rw[uH n],R⟩
 have s:zs.length=ys.length:=by have h:=a;simp at h;omega
 refine zJ (zB (zD (zD (zC (xq 3 [yJ 12 ((zs.length:Nat):Int),yJ 13 0] [] ?_)))))
 refine xe (zB (zN ?_))
 refine yC [eS1 0 A zs.length c,eS1 1 B ys.length d,yB 4 false,yJ 12 ((zs.length:Nat):Int),yJ 13 ((0:Nat):Int)] [] (fun w=>(IRow w A zs∧IRow w B ys)) (fun w Q=>⟨Q.1,Q.2⟩) ?_
 refine xS (fun u v y=>∃ (k:Nat),v=ofL [eS1 0 A zs.length c,eS1 1 B ys.length d,yB 4 false,yJ 12 ((zs.length:Nat):Int),yJ 13 (k:Int)] []∧y=(fun w=>(IRow w A zs∧IRow w B ys))∧(k≤zs.length)∧(zs.take k=ys.take k)∧u=(1+(zs.length-k))) ((1+(zs.length-0))) ⟨0,rfl,rfl,(uM _),rfl,rfl⟩ ?_
 rintro u v y ⟨k,rfl,rfl,E,m,rfl⟩
 refine zD (zC (xq 1 [yB 14 (decide ((k:Int)<((zs.length:Nat):Int)))] [] ?_))
 refine xe (zB (zD ?_))
 refine yQ ((decide ((k:Int)<((zs.length:Nat):Int)))) (fun f=>?_) fun f=>?_
 ·have g:k<zs.length:=by have:=uF f;omega
  have l:k<ys.length:=by omega
  refine zJ (zB (zD (zN (zD (zC (xq 2 [yJ 5 (k:Int)] [] ?_))))))
  refine xe (zB (zD ?_))
  refine yO 9 zK ?_
  refine xqg 2 [eS1 16 A zs.length c,yJ 17 (k:Int)] ?_
  refine xqj 18 (atA A (k*1)) (fun w Q=>wT (t:=22) (e:=3) (sz:=1) (x:=.tmp 16) (ix:=.tmp 17) (len:=zs.length) (cap:=c) (i:=k) ((Q.1).ne g) g) ?_
  refine xqj 19 (.int .i64 (nth zs k)) (fun w Q=>kI (t:=3) (x:=.tmp 18) (zs:=zs) (j:=k) (Q.1) g) ?_
  refine xqg 2 [eS1 20 B ys.length d,yJ 21 (k:Int)] ?_
  refine xqj 22 (atA B (k*1)) (fun w Q=>wT (t:=22) (e:=3) (sz:=1) (x:=.tmp 20) (ix:=.tmp 21) (len:=ys.length) (cap:=d) (i:=k) ((Q.2).ne l) l) ?_
  refine xqj 23 (.int .i64 (nth ys k)) (fun w Q=>kI (t:=3) (x:=.tmp 22) (zs:=ys) (j:=k) (Q.2) l) ?_
  refine xqg 1 [yB 24 (((nth zs k):Int) != (nth ys k))] ?_
  refine xz (xe (zB ?_))
  refine yQ ((((nth zs k):Int) != (nth ys k))) (fun b=>?_) fun b=>?_
  ·have n:¬ zs=ys:=fun e=>by rw[e] at b;simp at b
   refine zD (zC (xq 1 [yB 4 false] [] ?_))
   refine xe (zB (zI (xP (zE (zE (xP (zE ?_)))))))
   refine yR (.bool false) fun w' R Q=>?_
   exact⟨by rw[uH n],R⟩
  have o:nth zs k=nth ys k:=by simpa using b
  refine zJ (xK (zB (zC (xq 1 [yJ 25 (IntKind.i64.wrap ((k:Int)+1))] [] ?_))))
  rw[(show IntKind.i64.wrap ((k:Int)+1)=((k+1:Nat):Int) by rw[IntKind.wrap_i64];omega)]
  refine xq 1 [yJ 13 ((k+1:Nat):Int)] [] ?_
  refine xe ?_
  refine yP [eS1 0 A zs.length c,eS1 1 B ys.length d,yB 4 false,yJ 12 ((zs.length:Nat):Int),yJ 13 (((k+1):Nat):Int)] [] (fun w=>(IRow w A zs∧IRow w B ys)) (fun w Q=>⟨Q.1,Q.2⟩) ?_
  exact xE ((1+(zs.length-(k+1)))) (by omega) ⟨(k+1),rfl,rfl,g,(ZkT m g l o),rfl⟩
 have p:zs.length≤k:=by have:=uE f;omega
 have q:zs=ys:=ZlT m p (by omega)
 refine xN (zH (zH (xX (zB (zD (zC (xq 1 [yB 4 true] [] ?_)))))))
 refine xe (zB (zI ?_))
 refine yR (.bool true) fun w' R Q=>?_
 exact⟨by rw[uI q],R⟩
theorem Zcw (m F:Nat)(x y:PolyR)(w:World)(X:kQ.ok m w x)(G:kQ.ok F w y)(M:x.sm)(N:y.sm) :
 yA 55 #[.agg #[.int .i64 x.v,.slice x.A x.ts.length x.c],.agg #[.int .i64 y.v,.slice y.A y.ts.length y.c]] w (RetV w (.bool (decide (keyP x=keyP y)))):=by
 obtain⟨hl,O⟩:=M
 obtain⟨a0,P⟩:=N
 refine xB (Φ:=fun w=>(kQ.ok m w x∧kQ.ok F w y)) Tryz.func55 rfl (by kernel_rfl) (fun w' Y=>⟨Dp.ext X Y,Dp.ext G Y⟩) ?_
 refine zD (zC (xq 3 [(2,.p 2 0),(3,.p 3 0),yB 4 false] [(3,111,[.v (.int .i64 y.v),.v (.slice y.A y.ts.length y.c)]),(2,111,[.v (.int .i64 x.v),.v (.slice x.A x.ts.length x.c)])] ?_))
 refine xe (zB (zD (zD (zC (xq 6 [yB 11 ((x.v:Int) != y.v)] [] ?_)))))
 rcases bl2 (((x.v:Int) != y.v)) with b|b
 ·rw[b]
  have l:¬ keyP x=keyP y:=fun e=>by unfold keyP at e;injection e with e1 e2;rw[e1] at b;simp at b
  refine xq 8 [yB 19 true] [] ?_
  refine xe (zB (xa (zD (zC (xq 1 [yB 4 false] [] ?_)))))
  refine xe (zB (zI (zE ?_)))
  refine yR (.bool false) fun w' R Q=>?_
  exact⟨by rw[uH l],R⟩
 rw[b]
 have S:x.v=y.v:=by simpa using b
 refine xq 8 [yB 19 ((((x.ts.length:Nat):Int):Int) != ((y.ts.length:Nat):Int))] [] ?_
 refine xe (zB ?_)
 refine yQ (((((x.ts.length:Nat):Int):Int) != ((y.ts.length:Nat):Int))) (fun n=>?_) fun n=>?_
 ·have l:¬ keyP x=keyP y:=fun e=>by unfold keyP at e;injection e with e1 e2;have r:=dB e2;rw[r] at n;simp at n
  refine zD (zC (xq 1 [yB 4 false] [] ?_))
  refine xe (zB (zI (zE ?_)))
  refine yR (.bool false) fun w' R Q=>?_
  exact⟨by rw[uH l],R⟩
 have Z:x.ts.length=y.ts.length:=by have h:=n;simp at h;omega
 refine zJ (zB (zD (zD (zC (xq 4 [yJ 22 ((x.ts.length:Nat):Int),yJ 23 0] [] ?_)))))
 refine xe (zB (zN ?_))
 refine yC [(2,.p 2 0),(3,.p 3 0),yB 4 false,yJ 22 ((x.ts.length:Nat):Int),yJ 23 ((0:Nat):Int)] [(3,111,[.v (.int .i64 y.v),.v (.slice y.A y.ts.length y.c)]),(2,111,[.v (.int .i64 x.v),.v (.slice x.A x.ts.length x.c)])] (fun w=>(kQ.ok m w x∧kQ.ok F w y)) (fun w Q=>⟨Q.1,Q.2⟩) ?_
 refine xS (fun nn ss ff=>∃ (k:Nat),ss=ofL [(2,.p 2 0),(3,.p 3 0),yB 4 false,yJ 22 ((x.ts.length:Nat):Int),yJ 23 (k:Int)] [(3,111,[.v (.int .i64 y.v),.v (.slice y.A y.ts.length y.c)]),(2,111,[.v (.int .i64 x.v),.v (.slice x.A x.ts.length x.c)])]∧ff=(fun w=>(kQ.ok m w x∧kQ.ok F w y))∧(k≤x.ts.length)∧((x.ts.take k).map keyT=(y.ts.take k).map keyT)∧nn=(1+(x.ts.length-k))) ((1+(x.ts.length-0))) ⟨0,rfl,rfl,(uM _),rfl,rfl⟩ ?_
 rintro nn ss ff ⟨k,rfl,rfl,hk,B,rfl⟩
 refine zD (zC (xq 1 [yB 24 (decide ((k:Int)<((x.ts.length:Nat):Int)))] [] ?_))
 refine xe (zB (zD ?_))
 refine yQ ((decide ((k:Int)<((x.ts.length:Nat):Int)))) (fun o=>?_) fun o=>?_
 ·have a:k<x.ts.length:=by have:=uF o;omega
  have g:k<y.ts.length:=by omega
  obtain⟨J,K⟩:=OwnD.base X.1 (uN (uM _) a)
  obtain⟨t,D⟩:∃ z,x.ts[k]! = z:=⟨_,rfl⟩
  have H:t∈x.ts:=kJ a D
  obtain⟨s,L⟩:=OwnD.base G.1 (uN (uM _) g)
  obtain⟨u,E⟩:∃ z,y.ts[k]! = z:=⟨_,rfl⟩
  have I:u∈y.ts:=kJ g E
  refine zJ (zB (zD (zN (zD (zC (xq 2 [yJ 5 (k:Int)] [] ?_))))))
  refine xe (zB (zD ?_))
  refine kN 29 [0,1,0,7,15,31,0,64,0,448,960,1984,4095,8191,16383,32767,16383,131071,262143,524287,16383,1064959,16383,7356415,15745023,32522239,67108863,134217727,268435455] (by kernel_rfl) (by kernel_rfl) zK ?_
  refine xqg 3 [eS1 27 x.A x.ts.length x.c,yJ 28 (k:Int)] ?_
  refine xqj 29 (.pointer (some ⟨J,0+k*2,none⟩)) (fun w Q=>xD K (t:=109) (e:=108) (sz:=2) (x:=.tmp 27) (ix:=.tmp 28) (len:=x.ts.length) (cap:=x.c) (i:=k) a) ?_
  refine xqg 1 [(30,.v (.pointer (some ⟨J,0+k*2,none⟩)))] ?_
  refine xqj 31 (.string t.coef) (fun w Q=>by rw[←D];exact iW (t:=9) (x:=.tmp 30) (k:=2) (f:=0) (j:=k) (enc:=(fun t:TermR=>[.string t.coef,.slice t.A t.exps.length t.cap])) K (Q.1).1 (fun _=>rfl) a rfl) ?_
  refine xqg 3 [eS1 33 y.A y.ts.length y.c,yJ 34 (k:Int)] ?_
  refine xqj 35 (.pointer (some ⟨s,0+k*2,none⟩)) (fun w Q=>xD L (t:=109) (e:=108) (sz:=2) (x:=.tmp 33) (ix:=.tmp 34) (len:=y.ts.length) (cap:=y.c) (i:=k) g) ?_
  refine xqg 1 [(36,.v (.pointer (some ⟨s,0+k*2,none⟩)))] ?_
  refine xqj 37 (.string u.coef) (fun w Q=>by rw[←E];exact iW (t:=9) (x:=.tmp 36) (k:=2) (f:=0) (j:=k) (enc:=(fun t:TermR=>[.string t.coef,.slice t.A t.exps.length t.cap])) L (Q.2).1 (fun _=>rfl) g rfl) ?_
  refine xqg 2 [yB 39 (!((t.coef:ByteArray).toList == (u.coef:ByteArray).toList))] ?_
  rcases bl2 ((!((t.coef:ByteArray).toList == (u.coef:ByteArray).toList))) with d|d
  ·rw[d]
   have l:¬ keyP x=keyP y:=fun e=>by unfold keyP at e;injection e with e1 e2;have r:=cJ e2 a g;rw[D,E] at r;unfold keyT at r;injection r with e4 _;rw[e4] at d;simp at d
   refine xqg 15 [yB 54 true] ?_
   refine xz (xe (zB (xa (zD (zC (xq 1 [yB 4 false] [] ?_))))))
   refine xe (zB (zI (xP (zE (zE (xP (zE ?_)))))))
   refine yR (.bool false) fun w' R Q=>?_
   exact⟨by rw[uH l],R⟩
  rw[d]
  have T:t.coef=u.coef:=ZnU d
  refine xqg 3 [eS1 41 x.A x.ts.length x.c,yJ 42 (k:Int)] ?_
  refine xqj 43 (.pointer (some ⟨J,0+k*2,none⟩)) (fun w Q=>xD K (t:=109) (e:=108) (sz:=2) (x:=.tmp 41) (ix:=.tmp 42) (len:=x.ts.length) (cap:=x.c) (i:=k) a) ?_
  refine xqg 1 [(44,.v (.pointer (some ⟨J,0+k*2+1,none⟩)))] ?_
  refine xqj 45 (.slice t.A t.exps.length t.cap) (fun w Q=>by rw[←D];exact iW (t:=22) (x:=.tmp 44) (k:=2) (f:=1) (j:=k) (enc:=(fun t:TermR=>[.string t.coef,.slice t.A t.exps.length t.cap])) K (Q.1).1 (fun _=>rfl) a rfl) ?_
  refine xqg 3 [eS1 47 y.A y.ts.length y.c,yJ 48 (k:Int)] ?_
  refine xqj 49 (.pointer (some ⟨s,0+k*2,none⟩)) (fun w Q=>xD L (t:=109) (e:=108) (sz:=2) (x:=.tmp 47) (ix:=.tmp 48) (len:=y.ts.length) (cap:=y.c) (i:=k) g) ?_
  refine xqg 1 [(50,.v (.pointer (some ⟨s,0+k*2+1,none⟩)))] ?_
  refine xqj 51 (.slice u.A u.exps.length u.cap) (fun w Q=>by rw[←E];exact iW (t:=22) (x:=.tmp 50) (k:=2) (f:=1) (j:=k) (enc:=(fun t:TermR=>[.string t.coef,.slice t.A t.exps.length t.cap])) L (Q.2).1 (fun _=>rfl) g rfl) ?_
  refine xqd 36 [.slice t.A t.exps.length t.cap,.slice u.A u.exps.length u.cap] 52 (fun _:Unit=>.bool (decide (t.exps=u.exps))) _ (fun w R Q=>yN (Zcv t.A u.A t.cap u.cap t.exps u.exps _ (OwnD.irow ((Q.1).2 t H)) (OwnD.irow ((Q.2).2 u I)) (O t H) (P u I))) fun xx=>?_
  refine xqg 2 [yB 54 (!(decide (t.exps=u.exps)))] ?_
  refine xz (xe (zB ?_))
  refine yQ ((!(decide (t.exps=u.exps)))) (fun q=>?_) fun q=>?_
  ·have C:=uE (bn_t q)
   have l:¬ keyP x=keyP y:=fun e=>by unfold keyP at e;injection e with e1 e2;have r:=cJ e2 a g;rw[D,E] at r;unfold keyT at r;injection r with _ e4;exact C e4
   refine zD (zC (xr 1 [(2,.p 2 0),(3,.p 3 0),yB 4 false,yJ 22 ((x.ts.length:Nat):Int),yJ 23 (k:Int)] [(3,111,[.v (.int .i64 y.v),.v (.slice y.A y.ts.length y.c)]),(2,111,[.v (.int .i64 x.v),.v (.slice x.A x.ts.length x.c)])] ?_))
   refine xe (zB (zI (xP (zE (zE (xP (zE ?_)))))))
   refine yR (.bool false) fun w' R Q=>?_
   exact⟨by rw[uH l],R⟩
  have C:=uF (bn_f q)
  have U:keyT t=keyT u:=by unfold keyT;rw[T,C]
  refine zJ (xK (zB (zC (xr 1 [(2,.p 2 0),(3,.p 3 0),yB 4 false,yJ 22 ((x.ts.length:Nat):Int),yJ 23 (k:Int),yJ 55 (IntKind.i64.wrap ((k:Int)+1))] [(3,111,[.v (.int .i64 y.v),.v (.slice y.A y.ts.length y.c)]),(2,111,[.v (.int .i64 x.v),.v (.slice x.A x.ts.length x.c)])] ?_))))
  rw[(show IntKind.i64.wrap ((k:Int)+1)=((k+1:Nat):Int) by rw[IntKind.wrap_i64];omega)]
  refine xq 1 [yJ 23 ((k+1:Nat):Int)] [] ?_
  refine xe ?_
  refine yP [(2,.p 2 0),(3,.p 3 0),yB 4 false,yJ 22 ((x.ts.length:Nat):Int),yJ 23 (((k+1):Nat):Int)] [(3,111,[.v (.int .i64 y.v),.v (.slice y.A y.ts.length y.c)]),(2,111,[.v (.int .i64 x.v),.v (.slice x.A x.ts.length x.c)])] (fun w=>(kQ.ok m w x∧kQ.ok F w y)) (fun w Q=>⟨Q.1.1,Q.1.2⟩) ?_
  exact xE ((1+(x.ts.length-(k+1)))) (by omega) ⟨(k+1),rfl,rfl,a,(ZaS B a g (D.symm ▸ E.symm ▸ U)),rfl⟩
 have V:x.ts.length≤k:=by have:=uE o;omega
 have W:keyP x=keyP y:=by unfold keyP;rw[S,ZbA B V (by omega)]
 refine xN (zH (zH (xX (zB (zD (zC (xq 1 [yB 4 true] [] ?_)))))))
 refine xe (zB (zI ?_))
 refine yR (.bool true) fun w' R Q=>?_
 exact⟨by rw[uI W],R⟩
theorem ZeM (m j:Nat)(x y:MuR)(w:World)(s:dMu.ok m w x)(l:dMu.ok j w y)(g:x.sm)(h:y.sm) :
 yA 38 #[.agg #[.int .i64 x.a.v,.slice x.a.A x.a.ts.length x.a.c,.int .i64 x.b.v,.slice x.b.A x.b.ts.length x.b.c],.agg #[.int .i64 y.a.v,.slice y.a.A y.a.ts.length y.a.c,.int .i64 y.b.v,.slice y.b.A y.b.ts.length y.b.c]] w (RetV w (.bool (decide (keyM x=keyM y)))):=by
 refine xB (Φ:=fun w=>(dMu.ok m w x∧dMu.ok j w y)) Tryz.func38 rfl (by kernel_rfl) (fun w' r=>⟨Dp.ext s r,Dp.ext l r⟩) ?_
 refine zD (zC (xq 3 [(2,.p 2 0),(3,.p 3 0),yB 4 false] [(3,118,[.v (.int .i64 y.a.v),.v (.slice y.a.A y.a.ts.length y.a.c),.v (.int .i64 y.b.v),.v (.slice y.b.A y.b.ts.length y.b.c)]),(2,118,[.v (.int .i64 x.a.v),.v (.slice x.a.A x.a.ts.length x.a.c),.v (.int .i64 x.b.v),.v (.slice x.b.A x.b.ts.length x.b.c)])] ?_))
 refine xe (zB (zD (zC (xq 4 [(6,.v (.agg #[.int .i64 x.a.v,.slice x.a.A x.a.ts.length x.a.c])),(8,.v (.agg #[.int .i64 y.a.v,.slice y.a.A y.a.ts.length y.a.c]))] [] ?_))))
 refine xqc 55 [.agg #[.int .i64 x.a.v,.slice x.a.A x.a.ts.length x.a.c],.agg #[.int .i64 y.a.v,.slice y.a.A y.a.ts.length y.a.c]] 9 (fun _:Unit=>.bool (decide (keyP x.a=keyP y.a))) _ (fun w R Q=>yN (Zcw m j x.a y.a _ (Q.1).1 (Q.2).1 g.1 h.1)) fun t=>?_
 refine xq 1 [yB 10 (decide (keyP x.a=keyP y.a))] [] ?_
 rcases bl2 ((decide (keyP x.a=keyP y.a))) with d|d
 ·rw[d]
  have n:=uF d
  refine xq 4 [(12,.v (.agg #[.int .i64 x.b.v,.slice x.b.A x.b.ts.length x.b.c])),(14,.v (.agg #[.int .i64 y.b.v,.slice y.b.A y.b.ts.length y.b.c]))] [] ?_
  refine xqc 55 [.agg #[.int .i64 x.b.v,.slice x.b.A x.b.ts.length x.b.c],.agg #[.int .i64 y.b.v,.slice y.b.A y.b.ts.length y.b.c]] 15 (fun _:Unit=>.bool (decide (keyP x.b=keyP y.b))) _ (fun w R Q=>yN (Zcw m j x.b y.b _ (Q.1.1).2 (Q.1.2).2 g.2 h.2)) fun t=>?_
  refine xq 2 [yB 4 (decide (keyP x.b=keyP y.b))] [] ?_
  refine xe (zB (zI ?_))
  refine yR (.bool (decide (keyP x.b=keyP y.b))) fun w' R Q=>?_
  rcases bl2 (decide (keyP x.b=keyP y.b)) with i|i
  ·rw[i]
   have o:=uF i
   have q:keyM x=keyM y:=by unfold keyM;rw[n,o]
   exact⟨by rw[uI q],R⟩
  rw[i]
  have f:¬ keyM x=keyM y:=fun e=>by unfold keyM at e;injection e with e1 e2;exact uE i e2
  exact⟨by rw[uH f],R⟩
 rw[d]
 have f:¬ keyM x=keyM y:=fun e=>by unfold keyM at e;injection e with e1 e2;exact uE d e1
 refine xq 7 [yB 4 false] [] ?_
 refine xe (zB (zI ?_))
 refine yR (.bool false) fun w' R Q=>?_
 exact⟨by rw[uH f],R⟩
theorem ZeN (m p c d:Nat)(A B:Option Addr)(xs ys:List SqR)(w:World)(T:OwnD w m 179 7 A c xs.length (xs.flatMap SqR.cells)∧dSq.list.ok m w xs)(H:OwnD w p 179 7 B d ys.length (ys.flatMap SqR.cells)∧dSq.list.ok p w ys)(U:∀ s∈xs,s.r.sm)(V:∀ s∈ys,s.r.sm)(hl:xs.length≤1000000)(_:ys.length≤1000000) :
 yA 37 #[.slice A xs.length c,.slice B ys.length d] w (RetV w (.bool (decide (xs.map keyS=ys.map keyS)))):=by
 refine xB (Φ:=fun w=>((OwnD w m 179 7 A c xs.length (xs.flatMap SqR.cells)∧dSq.list.ok m w xs)∧(OwnD w p 179 7 B d ys.length (ys.flatMap SqR.cells)∧dSq.list.ok p w ys))) Tryz.func37 rfl (by kernel_rfl) (fun w' N=>⟨⟨OwnD.ext T.1 N,Dp.ext T.2 N⟩,⟨OwnD.ext H.1 N,Dp.ext H.2 N⟩⟩) ?_
 refine zD (zC (xq 1 [yB 4 false] [] ?_))
 refine xe (zB (zD (zD (zC (xq 5 [yB 10 ((((xs.length:Nat):Int):Int) != ((ys.length:Nat):Int))] [] ?_)))))
 refine xe (zB ?_)
 refine yQ (((((xs.length:Nat):Int):Int) != ((ys.length:Nat):Int))) (fun o=>?_) fun o=>?_
 ·have q:¬ xs.map keyS=ys.map keyS:=fun e=>by have E:=dB e;rw[E] at o;simp at o
  refine zD (zC (xq 1 [yB 4 false] [] ?_))
  refine xe (zB (zI (zE ?_)))
  refine yR (.bool false) fun w' R Q=>?_
  exact⟨by rw[uH q],R⟩
 have Z:xs.length=ys.length:=by have h:=o;simp at h;omega
 refine zJ (zB (zD (zD (zC (xq 3 [yJ 12 ((xs.length:Nat):Int),yJ 13 0] [] ?_)))))
 refine xe (zB (zN ?_))
 refine yC [eS1 0 A xs.length c,eS1 1 B ys.length d,yB 4 false,yJ 12 ((xs.length:Nat):Int),yJ 13 ((0:Nat):Int)] [] (fun w=>((OwnD w m 179 7 A c xs.length (xs.flatMap SqR.cells)∧dSq.list.ok m w xs)∧(OwnD w p 179 7 B d ys.length (ys.flatMap SqR.cells)∧dSq.list.ok p w ys))) (fun w Q=>⟨Q.1,Q.2⟩) ?_
 refine xS (fun nn ss ff=>∃ (k:Nat),ss=ofL [eS1 0 A xs.length c,eS1 1 B ys.length d,yB 4 false,yJ 12 ((xs.length:Nat):Int),yJ 13 (k:Int)] []∧ff=(fun w=>((OwnD w m 179 7 A c xs.length (xs.flatMap SqR.cells)∧dSq.list.ok m w xs)∧(OwnD w p 179 7 B d ys.length (ys.flatMap SqR.cells)∧dSq.list.ok p w ys)))∧(k≤xs.length)∧((xs.take k).map keyS=(ys.take k).map keyS)∧nn=(1+(xs.length-k))) ((1+(xs.length-0))) ⟨0,rfl,rfl,(uM _),rfl,rfl⟩ ?_
 rintro nn ss ff ⟨k,rfl,rfl,hk,G,rfl⟩
 refine zD (zC (xq 1 [yB 14 (decide ((k:Int)<((xs.length:Nat):Int)))] [] ?_))
 refine xe (zB (zD ?_))
 refine yQ ((decide ((k:Int)<((xs.length:Nat):Int)))) (fun C=>?_) fun C=>?_
 ·have g:k<xs.length:=by have:=uF C;omega
  have n:k<ys.length:=by omega
  obtain⟨O,P⟩:=OwnD.base T.1 (uN (uM _) g)
  obtain⟨t,J⟩:∃ z,xs[k]! = z:=⟨_,rfl⟩
  have L:t∈xs:=kJ g J
  obtain⟨F,S⟩:=OwnD.base H.1 (uN (uM _) n)
  obtain⟨u,K⟩:∃ z,ys[k]! = z:=⟨_,rfl⟩
  have M:u∈ys:=kJ n K
  refine zJ (zB (zD (zN (zD (zC (xq 2 [yJ 5 (k:Int)] [] ?_))))))
  refine xe (zB (zD ?_))
  refine kN 25 [0,0,3,7,15,0,0,96,224,480,1023,2047,4095,4095,16383,32767,65535,4095,4095,397311,921599,1970175,4194303,8388607,16777215] (by kernel_rfl) (by kernel_rfl) zK ?_
  refine xqg 2 [eS1 16 A xs.length c,yJ 17 (k:Int)] ?_
  refine xqj 18 (.pointer (some ⟨O,0+k*7,none⟩)) (fun w Q=>xD P (t:=112) (e:=179) (sz:=7) (x:=.tmp 16) (ix:=.tmp 17) (len:=xs.length) (cap:=c) (i:=k) g) ?_
  refine xqg 1 [(19,.v (.pointer (some ⟨O,0+k*7,none⟩)))] ?_
  refine xqj 20 (.agg #[.string t.sa,.string t.sb,.int .i64 t.d]) (fun w Q=>by rw[←J];exact lV (t:=38) (x:=.tmp 19) (k:=7) (f:=0) (j:=k) (part:=[.string xs[k]!.sa,.string xs[k]!.sb,.int .i64 xs[k]!.d]) (enc:=SqR.cells) P (Q.1).1 (fun _=>rfl) g rfl) ?_
  refine xqg 2 [eS1 21 B ys.length d,yJ 22 (k:Int)] ?_
  refine xqj 23 (.pointer (some ⟨F,0+k*7,none⟩)) (fun w Q=>xD S (t:=112) (e:=179) (sz:=7) (x:=.tmp 21) (ix:=.tmp 22) (len:=ys.length) (cap:=d) (i:=k) n) ?_
  refine xqg 1 [(24,.v (.pointer (some ⟨F,0+k*7,none⟩)))] ?_
  refine xqj 25 (.agg #[.string u.sa,.string u.sb,.int .i64 u.d]) (fun w Q=>by rw[←K];exact lV (t:=38) (x:=.tmp 24) (k:=7) (f:=0) (j:=k) (part:=[.string ys[k]!.sa,.string ys[k]!.sb,.int .i64 ys[k]!.d]) (enc:=SqR.cells) S (Q.2).1 (fun _=>rfl) n rfl) ?_
  refine xqj 26 (.bool (!((t.sa.toList == u.sa.toList) && ((t.sb.toList == u.sb.toList) && (t.d == u.d))))) (fun w Q=>Zne (x:=.tmp 20) (y:=.tmp 25) (k:=38) (a:=t.sa) (b:=t.sb) (d:=t.d) (a':=u.sa) (b':=u.sb) (d':=u.d) (by kernel_rfl) (by kernel_rfl) (by kernel_rfl) rfl) ?_
  refine xqg 1 [yB 27 (!((t.sa.toList == u.sa.toList) && ((t.sb.toList == u.sb.toList) && (t.d == u.d))))] ?_
  rcases bl2 ((!((t.sa.toList == u.sa.toList) && ((t.sb.toList == u.sb.toList) && (t.d == u.d))))) with l|l
  ·rw[l]
   have q:¬ xs.map keyS=ys.map keyS:=fun e=>by have E:=cJ e g n;rw[J,K] at E;unfold keyS at E;injection E with e4 e5;injection e5 with e5 e6;injection e6 with e6 _;rw[e4,e5,e6] at l;simp at l
   refine xqg 13 [yB 40 true] ?_
   refine xz (xe (zB (xa (zD (zC (xq 1 [yB 4 false] [] ?_))))))
   refine xe (zB (zI (xP (zE (zE (xP (zE ?_)))))))
   refine yR (.bool false) fun w' R Q=>?_
   exact⟨by rw[uH q],R⟩
  rw[l]
  have I:=Znf l
  refine xqg 2 [eS1 28 A xs.length c,yJ 29 (k:Int)] ?_
  refine xqj 30 (.pointer (some ⟨O,0+k*7,none⟩)) (fun w Q=>xD P (t:=112) (e:=179) (sz:=7) (x:=.tmp 28) (ix:=.tmp 29) (len:=xs.length) (cap:=c) (i:=k) g) ?_
  refine xqg 1 [(31,.v (.pointer (some ⟨O,0+k*7+3,none⟩)))] ?_
  refine xqj 32 (.agg #[.int .i64 t.r.a.v,.slice t.r.a.A t.r.a.ts.length t.r.a.c,.int .i64 t.r.b.v,.slice t.r.b.A t.r.b.ts.length t.r.b.c]) (fun w Q=>by rw[←J];exact lV (t:=118) (x:=.tmp 31) (k:=7) (f:=3) (j:=k) (part:=[.int .i64 xs[k]!.r.a.v,.slice xs[k]!.r.a.A xs[k]!.r.a.ts.length xs[k]!.r.a.c,.int .i64 xs[k]!.r.b.v,.slice xs[k]!.r.b.A xs[k]!.r.b.ts.length xs[k]!.r.b.c]) (enc:=SqR.cells) P (Q.1).1 (fun _=>rfl) g rfl) ?_
  refine xqg 2 [eS1 33 B ys.length d,yJ 34 (k:Int)] ?_
  refine xqj 35 (.pointer (some ⟨F,0+k*7,none⟩)) (fun w Q=>xD S (t:=112) (e:=179) (sz:=7) (x:=.tmp 33) (ix:=.tmp 34) (len:=ys.length) (cap:=d) (i:=k) n) ?_
  refine xqg 1 [(36,.v (.pointer (some ⟨F,0+k*7+3,none⟩)))] ?_
  refine xqj 37 (.agg #[.int .i64 u.r.a.v,.slice u.r.a.A u.r.a.ts.length u.r.a.c,.int .i64 u.r.b.v,.slice u.r.b.A u.r.b.ts.length u.r.b.c]) (fun w Q=>by rw[←K];exact lV (t:=118) (x:=.tmp 36) (k:=7) (f:=3) (j:=k) (part:=[.int .i64 ys[k]!.r.a.v,.slice ys[k]!.r.a.A ys[k]!.r.a.ts.length ys[k]!.r.a.c,.int .i64 ys[k]!.r.b.v,.slice ys[k]!.r.b.A ys[k]!.r.b.ts.length ys[k]!.r.b.c]) (enc:=SqR.cells) S (Q.2).1 (fun _=>rfl) n rfl) ?_
  refine xqd 38 [.agg #[.int .i64 t.r.a.v,.slice t.r.a.A t.r.a.ts.length t.r.a.c,.int .i64 t.r.b.v,.slice t.r.b.A t.r.b.ts.length t.r.b.c],.agg #[.int .i64 u.r.a.v,.slice u.r.a.A u.r.a.ts.length u.r.a.c,.int .i64 u.r.b.v,.slice u.r.b.A u.r.b.ts.length u.r.b.c]] 38 (fun _:Unit=>.bool (decide (keyM t.r=keyM u.r))) _ (fun w R Q=>yN (ZeM m p t.r u.r _ ((Q.1).2 t L) ((Q.2).2 u M) (U t L) (V u M))) fun xx=>?_
  refine xqg 2 [yB 40 (!(decide (keyM t.r=keyM u.r)))] ?_
  refine xz (xe (zB ?_))
  refine yQ ((!(decide (keyM t.r=keyM u.r)))) (fun D=>?_) fun D=>?_
  ·have q:¬ xs.map keyS=ys.map keyS:=fun e=>by have E:=cJ e g n;rw[J,K] at E;unfold keyS at E;injection E with e4 e5;injection e5 with e5 e6;injection e6 with e6 e7;exact uE (bn_t D) e7
   refine zD (zC (xr 1 [eS1 0 A xs.length c,eS1 1 B ys.length d,yB 4 false,yJ 12 ((xs.length:Nat):Int),yJ 13 (k:Int)] [] ?_))
   refine xe (zB (zI (xP (zE (zE (xP (zE ?_)))))))
   refine yR (.bool false) fun w' R Q=>?_
   exact⟨by rw[uH q],R⟩
  have W:keyS t=keyS u:=by unfold keyS;rw[I.1,I.2.1,I.2.2,uF (bn_f D)]
  refine zJ (xK (zB (zC (xr 1 [eS1 0 A xs.length c,eS1 1 B ys.length d,yB 4 false,yJ 12 ((xs.length:Nat):Int),yJ 13 (k:Int),yJ 41 (IntKind.i64.wrap ((k:Int)+1))] [] ?_))))
  rw[(show IntKind.i64.wrap ((k:Int)+1)=((k+1:Nat):Int) by rw[IntKind.wrap_i64];omega)]
  refine xq 1 [yJ 13 ((k+1:Nat):Int)] [] ?_
  refine xe ?_
  refine yP [eS1 0 A xs.length c,eS1 1 B ys.length d,yB 4 false,yJ 12 ((xs.length:Nat):Int),yJ 13 (((k+1):Nat):Int)] [] (fun w=>((OwnD w m 179 7 A c xs.length (xs.flatMap SqR.cells)∧dSq.list.ok m w xs)∧(OwnD w p 179 7 B d ys.length (ys.flatMap SqR.cells)∧dSq.list.ok p w ys))) (fun w Q=>⟨Q.1.1,Q.1.2⟩) ?_
  exact xE ((1+(xs.length-(k+1)))) (by omega) ⟨(k+1),rfl,rfl,g,(ZaS G g n (J.symm ▸ K.symm ▸ W)),rfl⟩
 have X:xs.length≤k:=by have:=uE C;omega
 have Y:xs.map keyS=ys.map keyS:=ZbA G X (by omega)
 refine xN (zH (zH (xX (zB (zD (zC (xq 1 [yB 4 true] [] ?_)))))))
 refine xe (zB (zI ?_))
 refine yR (.bool true) fun w' R Q=>?_
 exact⟨by rw[uI Y],R⟩
theorem Zhj (m N:Nat)(x y:IdR)(w:World)(hd:dId.ok m w x)(S:dId.ok N w y)(E:x.sm)(F:y.sm) :
 yA 12 #[.agg #[.int .i64 x.d,.slice x.pA x.ps.length x.pc,.slice x.mA x.ms.length x.mc],.agg #[.int .i64 y.d,.slice y.pA y.ps.length y.pc,.slice y.mA y.ms.length y.mc]] w (RetV w (.bool (decide (keyI x=keyI y)))):=by
 have hl:=E.1
 have g0:=F.1
 have h0:=E.2.1
 have i0:=F.2.1
 refine xB (Φ:=fun w=>(dId.ok m w x∧dId.ok N w y)) Tryz.func12 rfl (by kernel_rfl) (fun w' hf=>⟨Dp.ext hd hf,Dp.ext S hf⟩) ?_
 refine zD (zC (xq 3 [(2,.p 2 0),(3,.p 3 0),yB 4 false] [(3,26,[.v (.int .i64 y.d),.v (.slice y.pA y.ps.length y.pc),.v (.slice y.mA y.ms.length y.mc)]),(2,26,[.v (.int .i64 x.d),.v (.slice x.pA x.ps.length x.pc),.v (.slice x.mA x.ms.length x.mc)])] ?_))
 refine xe (zB (zD (zD (zC (xq 6 [yB 12 ((x.d:Int) != y.d)] [] ?_)))))
 rcases bl2 (((x.d:Int) != y.d)) with o|o
 ·rw[o]
  have n:¬ keyI x=keyI y:=fun e=>by unfold keyI at e;injection e with e1 e2;injection e2 with e2 e3;rw[e1] at o;simp at o
  refine xq 17 [yB 29 true] [] ?_
  refine xe (zB (xa (zD (zC (xq 1 [yB 4 false] [] ?_)))))
  refine xe (zB (zI (zE ?_)))
  refine yR (.bool false) fun w' R Q=>?_
  exact⟨by rw[uH n],R⟩
 rw[o]
 have c0:x.d=y.d:=by simpa using o
 refine xq 9 [yB 21 ((((x.ps.length:Nat):Int):Int) != ((y.ps.length:Nat):Int))] [] ?_
 rcases bl2 (((((x.ps.length:Nat):Int):Int) != ((y.ps.length:Nat):Int))) with q|q
 ·rw[q]
  have n:¬ keyI x=keyI y:=fun e=>by unfold keyI at e;injection e with e1 e2;injection e2 with e2 e3;have C:=dB e2;rw[C] at q;simp at q
  refine xq 8 [yB 29 true] [] ?_
  refine xe (zB (xa (zD (zC (xq 1 [yB 4 false] [] ?_)))))
  refine xe (zB (zI (zE ?_)))
  refine yR (.bool false) fun w' R Q=>?_
  exact⟨by rw[uH n],R⟩
 rw[q]
 have a0:x.ps.length=y.ps.length:=by have h:=q;simp at h;omega
 refine xq 8 [yB 29 ((((x.ms.length:Nat):Int):Int) != ((y.ms.length:Nat):Int))] [] ?_
 refine xe (zB ?_)
 refine yQ (((((x.ms.length:Nat):Int):Int) != ((y.ms.length:Nat):Int))) (fun D=>?_) fun D=>?_
 ·have n:¬ keyI x=keyI y:=fun e=>by unfold keyI at e;injection e with e1 e2;injection e2 with e2 e3;have C:=dB e3;rw[C] at D;simp at D
  refine zD (zC (xq 1 [yB 4 false] [] ?_))
  refine xe (zB (zI (zE ?_)))
  refine yR (.bool false) fun w' R Q=>?_
  exact⟨by rw[uH n],R⟩
 have b0:x.ms.length=y.ms.length:=by have h:=D;simp at h;omega
 refine zJ (zB (zD (zD (zC (xq 4 [yJ 32 ((x.ps.length:Nat):Int),yJ 33 0] [] ?_)))))
 refine xe (zB (zN ?_))
 refine yC [(2,.p 2 0),(3,.p 3 0),yB 4 false,yJ 32 ((x.ps.length:Nat):Int),yJ 33 ((0:Nat):Int)] [(3,26,[.v (.int .i64 y.d),.v (.slice y.pA y.ps.length y.pc),.v (.slice y.mA y.ms.length y.mc)]),(2,26,[.v (.int .i64 x.d),.v (.slice x.pA x.ps.length x.pc),.v (.slice x.mA x.ms.length x.mc)])] (fun w=>(dId.ok m w x∧dId.ok N w y)) (fun w Q=>⟨Q.1,Q.2⟩) ?_
 refine xS (fun Y Z ff=>∃ (k:Nat),Z=ofL [(2,.p 2 0),(3,.p 3 0),yB 4 false,yJ 32 ((x.ps.length:Nat):Int),yJ 33 (k:Int)] [(3,26,[.v (.int .i64 y.d),.v (.slice y.pA y.ps.length y.pc),.v (.slice y.mA y.ms.length y.mc)]),(2,26,[.v (.int .i64 x.d),.v (.slice x.pA x.ps.length x.pc),.v (.slice x.mA x.ms.length x.mc)])]∧ff=(fun w=>(dId.ok m w x∧dId.ok N w y))∧(k≤x.ps.length)∧((x.ps.take k).map keyR=(y.ps.take k).map keyR)∧Y=(1+(x.ps.length-k))) ((1+(x.ps.length-0))) ⟨0,rfl,rfl,(uM _),rfl,rfl⟩ ?_
 rintro Y Z ff ⟨k,rfl,rfl,hk,O,rfl⟩
 refine zD (zC (xq 1 [yB 34 (decide ((k:Int)<((x.ps.length:Nat):Int)))] [] ?_))
 refine xe (zB (zD ?_))
 refine yQ ((decide ((k:Int)<((x.ps.length:Nat):Int)))) (fun H=>?_) fun H=>?_
 ·have g:k<x.ps.length:=by have:=uF H;omega
  have l:k<y.ps.length:=by omega
  obtain⟨X,T⟩:=OwnD.base hd.1.1 (uN (uM _) g)
  obtain⟨t,I⟩:∃ z,x.ps[k]! = z:=⟨_,rfl⟩
  have r:t∈x.ps:=kJ g I
  obtain⟨G,U⟩:=OwnD.base S.1.1 (uN (uM _) l)
  obtain⟨u,J⟩:∃ z,y.ps[k]! = z:=⟨_,rfl⟩
  have s:u∈y.ps:=kJ l J
  refine zJ (zB (zD (zN (zD (zC (xq 2 [yJ 5 (k:Int)] [] ?_))))))
  refine xe (zB (zD ?_))
  refine kN 30 [0,1,0,7,15,31,0,64,0,448,960,1984,4095,8191,16383,32767,65535,32767,262143,524287,1048575,32767,2129919,32767,14712831,31490047,65044479,134217727,268435455,536870911] (by kernel_rfl) (by kernel_rfl) zK ?_
  refine xqg 3 [eS1 37 x.pA x.ps.length x.pc,yJ 38 (k:Int)] ?_
  refine xqj 39 (.pointer (some ⟨X,0+k*2,none⟩)) (fun w Q=>xD T (t:=23) (e:=114) (sz:=2) (x:=.tmp 37) (ix:=.tmp 38) (len:=x.ps.length) (cap:=x.pc) (i:=k) g) ?_
  refine xqg 1 [(40,.v (.pointer (some ⟨X,0+k*2,none⟩)))] ?_
  refine xqj 41 (.slice t.zA t.zs.length t.zc) (fun w Q=>by rw[←I];exact iW (t:=22) (x:=.tmp 40) (k:=2) (f:=0) (j:=k) (enc:=PrR.cells) T (Q.1).1.1 (fun _=>rfl) g rfl) ?_
  refine xqg 3 [eS1 43 y.pA y.ps.length y.pc,yJ 44 (k:Int)] ?_
  refine xqj 45 (.pointer (some ⟨G,0+k*2,none⟩)) (fun w Q=>xD U (t:=23) (e:=114) (sz:=2) (x:=.tmp 43) (ix:=.tmp 44) (len:=y.ps.length) (cap:=y.pc) (i:=k) l) ?_
  refine xqg 1 [(46,.v (.pointer (some ⟨G,0+k*2,none⟩)))] ?_
  refine xqj 47 (.slice u.zA u.zs.length u.zc) (fun w Q=>by rw[←J];exact iW (t:=22) (x:=.tmp 46) (k:=2) (f:=0) (j:=k) (enc:=PrR.cells) U (Q.2).1.1 (fun _=>rfl) l rfl) ?_
  refine xqd 36 [.slice t.zA t.zs.length t.zc,.slice u.zA u.zs.length u.zc] 48 (fun _:Unit=>.bool (decide (t.zs=u.zs))) _ (fun w R Q=>yN (Zcv t.zA u.zA t.zc u.zc t.zs u.zs _ (OwnD.irow ((Q.1).1.2 t r).1) (OwnD.irow ((Q.2).1.2 u s).1) (E.2.2.1 t r).1 (F.2.2.1 u s).1)) fun xx=>?_
  refine xqg 2 [yB 50 (!(decide (t.zs=u.zs)))] ?_
  rcases bl2 ((!(decide (t.zs=u.zs)))) with B|B
  ·rw[B]
   have n:¬ keyI x=keyI y:=fun e=>by unfold keyI at e;injection e with e1 e2;injection e2 with e2 e3;have C:=cJ e2 g l;rw[I,J] at C;unfold keyR at C;injection C with e5 _;exact uE (bn_t B) e5
   refine xqg 15 [yB 65 true] ?_
   refine xz (xe (zB (xa (zD (zC (xq 1 [yB 4 false] [] ?_))))))
   refine xe (zB (zI (xP (zE (zE (xP (zE ?_)))))))
   refine yR (.bool false) fun w' R Q=>?_
   exact⟨by rw[uH n],R⟩
  rw[B]
  have d0:=uF (bn_f B)
  refine xqg 3 [eS1 52 x.pA x.ps.length x.pc,yJ 53 (k:Int)] ?_
  refine xqj 54 (.pointer (some ⟨X,0+k*2,none⟩)) (fun w Q=>xD T (t:=23) (e:=114) (sz:=2) (x:=.tmp 52) (ix:=.tmp 53) (len:=x.ps.length) (cap:=x.pc) (i:=k) g) ?_
  refine xqg 1 [(55,.v (.pointer (some ⟨X,0+k*2+1,none⟩)))] ?_
  refine xqj 56 (.slice t.sA t.sq.length t.sc) (fun w Q=>by rw[←I];exact iW (t:=112) (x:=.tmp 55) (k:=2) (f:=1) (j:=k) (enc:=PrR.cells) T (Q.1).1.1 (fun _=>rfl) g rfl) ?_
  refine xqg 3 [eS1 58 y.pA y.ps.length y.pc,yJ 59 (k:Int)] ?_
  refine xqj 60 (.pointer (some ⟨G,0+k*2,none⟩)) (fun w Q=>xD U (t:=23) (e:=114) (sz:=2) (x:=.tmp 58) (ix:=.tmp 59) (len:=y.ps.length) (cap:=y.pc) (i:=k) l) ?_
  refine xqg 1 [(61,.v (.pointer (some ⟨G,0+k*2+1,none⟩)))] ?_
  refine xqj 62 (.slice u.sA u.sq.length u.sc) (fun w Q=>by rw[←J];exact iW (t:=112) (x:=.tmp 61) (k:=2) (f:=1) (j:=k) (enc:=PrR.cells) U (Q.2).1.1 (fun _=>rfl) l rfl) ?_
  refine xqd 37 [.slice t.sA t.sq.length t.sc,.slice u.sA u.sq.length u.sc] 63 (fun _:Unit=>.bool (decide (t.sq.map keyS=u.sq.map keyS))) _ (fun w R Q=>yN (ZeN m N t.sc u.sc t.sA u.sA t.sq u.sq _ ((Q.1.1).1.2 t r).2 ((Q.1.2).1.2 u s).2 (E.2.2.1 t r).2.2 (F.2.2.1 u s).2.2 (E.2.2.1 t r).2.1 (F.2.2.1 u s).2.1)) fun xx=>?_
  refine xqg 2 [yB 65 (!(decide (t.sq.map keyS=u.sq.map keyS)))] ?_
  refine xz (xe (zB ?_))
  refine yQ ((!(decide (t.sq.map keyS=u.sq.map keyS)))) (fun K=>?_) fun K=>?_
  ·have n:¬ keyI x=keyI y:=fun e=>by unfold keyI at e;injection e with e1 e2;injection e2 with e2 e3;have C:=cJ e2 g l;rw[I,J] at C;unfold keyR at C;injection C with _ e5;exact uE (bn_t K) e5
   refine zD (zC (xr 1 [(2,.p 2 0),(3,.p 3 0),yB 4 false,yJ 32 ((x.ps.length:Nat):Int),yJ 33 (k:Int)] [(3,26,[.v (.int .i64 y.d),.v (.slice y.pA y.ps.length y.pc),.v (.slice y.mA y.ms.length y.mc)]),(2,26,[.v (.int .i64 x.d),.v (.slice x.pA x.ps.length x.pc),.v (.slice x.mA x.ms.length x.mc)])] ?_))
   refine xe (zB (zI (xP (zE (zE (xP (zE ?_)))))))
   refine yR (.bool false) fun w' R Q=>?_
   exact⟨by rw[uH n],R⟩
  have V:keyR t=keyR u:=by unfold keyR;rw[d0,uF (bn_f K)]
  refine zJ (xK (zB (zC (xr 1 [(2,.p 2 0),(3,.p 3 0),yB 4 false,yJ 32 ((x.ps.length:Nat):Int),yJ 33 (k:Int),yJ 66 (IntKind.i64.wrap ((k:Int)+1))] [(3,26,[.v (.int .i64 y.d),.v (.slice y.pA y.ps.length y.pc),.v (.slice y.mA y.ms.length y.mc)]),(2,26,[.v (.int .i64 x.d),.v (.slice x.pA x.ps.length x.pc),.v (.slice x.mA x.ms.length x.mc)])] ?_))))
  rw[(show IntKind.i64.wrap ((k:Int)+1)=((k+1:Nat):Int) by rw[IntKind.wrap_i64];omega)]
  refine xq 1 [yJ 33 ((k+1:Nat):Int)] [] ?_
  refine xe ?_
  refine yP [(2,.p 2 0),(3,.p 3 0),yB 4 false,yJ 32 ((x.ps.length:Nat):Int),yJ 33 (((k+1):Nat):Int)] [(3,26,[.v (.int .i64 y.d),.v (.slice y.pA y.ps.length y.pc),.v (.slice y.mA y.ms.length y.mc)]),(2,26,[.v (.int .i64 x.d),.v (.slice x.pA x.ps.length x.pc),.v (.slice x.mA x.ms.length x.mc)])] (fun w=>(dId.ok m w x∧dId.ok N w y)) (fun w Q=>⟨Q.1.1.1,Q.1.1.2⟩) ?_
  exact xE ((1+(x.ps.length-(k+1)))) (by omega) ⟨(k+1),rfl,rfl,g,(ZaS O g l (I.symm ▸ J.symm ▸ V)),rfl⟩
 have W:x.ps.length≤k:=by have:=uE H;omega
 have e0:x.ps.map keyR=y.ps.map keyR:=ZbA O W (by omega)
 refine xN (zH (zH (xX (zB (zD (zD (zC (xq 4 [yJ 69 ((x.ms.length:Nat):Int),yJ 70 0] [] ?_))))))))
 refine xe (zB (zN ?_))
 refine yC [(2,.p 2 0),(3,.p 3 0),yB 4 false,yJ 69 ((x.ms.length:Nat):Int),yJ 70 ((0:Nat):Int)] [(3,26,[.v (.int .i64 y.d),.v (.slice y.pA y.ps.length y.pc),.v (.slice y.mA y.ms.length y.mc)]),(2,26,[.v (.int .i64 x.d),.v (.slice x.pA x.ps.length x.pc),.v (.slice x.mA x.ms.length x.mc)])] (fun w=>(dId.ok m w x∧dId.ok N w y)) (fun w Q=>⟨Q.1,Q.2⟩) ?_
 refine xS (fun Y Z ff=>∃ (k:Nat),Z=ofL [(2,.p 2 0),(3,.p 3 0),yB 4 false,yJ 69 ((x.ms.length:Nat):Int),yJ 70 (k:Int)] [(3,26,[.v (.int .i64 y.d),.v (.slice y.pA y.ps.length y.pc),.v (.slice y.mA y.ms.length y.mc)]),(2,26,[.v (.int .i64 x.d),.v (.slice x.pA x.ps.length x.pc),.v (.slice x.mA x.ms.length x.mc)])]∧ff=(fun w=>(dId.ok m w x∧dId.ok N w y))∧(k≤x.ms.length)∧((x.ms.take k).map keyM=(y.ms.take k).map keyM)∧Y=(1+(x.ms.length-k))) ((1+(x.ms.length-0))) ⟨0,rfl,rfl,(uM _),rfl,rfl⟩ ?_
 rintro Y Z ff ⟨k,rfl,rfl,hk,P,rfl⟩
 refine zD (zC (xq 1 [yB 71 (decide ((k:Int)<((x.ms.length:Nat):Int)))] [] ?_))
 refine xe (zB (zD ?_))
 refine yQ ((decide ((k:Int)<((x.ms.length:Nat):Int)))) (fun L=>?_) fun L=>?_
 ·have g:k<x.ms.length:=by have:=uF L;omega
  have l:k<y.ms.length:=by omega
  obtain⟨X,T⟩:=OwnD.base hd.2.1 (uN (uM _) g)
  obtain⟨t,I⟩:∃ z,x.ms[k]! = z:=⟨_,rfl⟩
  have r:t∈x.ms:=kJ g I
  obtain⟨G,U⟩:=OwnD.base S.2.1 (uN (uM _) l)
  obtain⟨u,J⟩:∃ z,y.ms[k]! = z:=⟨_,rfl⟩
  have s:u∈y.ms:=kJ l J
  refine zJ (zB (zD (zN (zD (zC (xq 2 [yJ 6 (k:Int)] [] ?_))))))
  refine xe (zB (zD ?_))
  refine kN 12 [0,1,0,7,15,0,32,0,224,480,1023,2047] (by kernel_rfl) (by kernel_rfl) zK ?_
  refine xqg 3 [eS1 74 x.mA x.ms.length x.mc,yJ 75 (k:Int)] ?_
  refine xqj 76 (.pointer (some ⟨X,0+k*4,none⟩)) (fun w Q=>xD T (t:=24) (e:=118) (sz:=4) (x:=.tmp 74) (ix:=.tmp 75) (len:=x.ms.length) (cap:=x.mc) (i:=k) g) ?_
  refine xqj 77 (.agg #[.int .i64 t.a.v,.slice t.a.A t.a.ts.length t.a.c,.int .i64 t.b.v,.slice t.b.A t.b.ts.length t.b.c]) (fun w Q=>by rw[←I];exact lV (t:=118) (x:=.tmp 76) (k:=4) (f:=0) (j:=k) (part:=[.int .i64 x.ms[k]!.a.v,.slice x.ms[k]!.a.A x.ms[k]!.a.ts.length x.ms[k]!.a.c,.int .i64 x.ms[k]!.b.v,.slice x.ms[k]!.b.A x.ms[k]!.b.ts.length x.ms[k]!.b.c]) (enc:=MuR.cells) T (Q.1).2.1 (fun _=>rfl) g rfl) ?_
  refine xqg 3 [eS1 79 y.mA y.ms.length y.mc,yJ 80 (k:Int)] ?_
  refine xqj 81 (.pointer (some ⟨G,0+k*4,none⟩)) (fun w Q=>xD U (t:=24) (e:=118) (sz:=4) (x:=.tmp 79) (ix:=.tmp 80) (len:=y.ms.length) (cap:=y.mc) (i:=k) l) ?_
  refine xqj 82 (.agg #[.int .i64 u.a.v,.slice u.a.A u.a.ts.length u.a.c,.int .i64 u.b.v,.slice u.b.A u.b.ts.length u.b.c]) (fun w Q=>by rw[←J];exact lV (t:=118) (x:=.tmp 81) (k:=4) (f:=0) (j:=k) (part:=[.int .i64 y.ms[k]!.a.v,.slice y.ms[k]!.a.A y.ms[k]!.a.ts.length y.ms[k]!.a.c,.int .i64 y.ms[k]!.b.v,.slice y.ms[k]!.b.A y.ms[k]!.b.ts.length y.ms[k]!.b.c]) (enc:=MuR.cells) U (Q.2).2.1 (fun _=>rfl) l rfl) ?_
  refine xqd 38 [.agg #[.int .i64 t.a.v,.slice t.a.A t.a.ts.length t.a.c,.int .i64 t.b.v,.slice t.b.A t.b.ts.length t.b.c],.agg #[.int .i64 u.a.v,.slice u.a.A u.a.ts.length u.a.c,.int .i64 u.b.v,.slice u.b.A u.b.ts.length u.b.c]] 83 (fun _:Unit=>.bool (decide (keyM t=keyM u))) _ (fun w R Q=>yN (ZeM m N t u _ ((Q.1).2.2 t r) ((Q.2).2.2 u s) (E.2.2.2 t r) (F.2.2.2 u s))) fun xx=>?_
  refine xqg 1 [yB 84 (!(decide (keyM t=keyM u)))] ?_
  refine xz (xe (zB ?_))
  refine yQ ((!(decide (keyM t=keyM u)))) (fun M=>?_) fun M=>?_
  ·have n:¬ keyI x=keyI y:=fun e=>by unfold keyI at e;injection e with e1 e2;injection e2 with e2 e3;have C:=cJ e3 g l;rw[I,J] at C;exact uE (bn_t M) C
   refine zD (zC (xq 1 [yB 4 false] [] ?_))
   refine xe (zB (zI (xP (zE (zE (xP (zE ?_)))))))
   refine yR (.bool false) fun w' R Q=>?_
   exact⟨by rw[uH n],R⟩
  have V:keyM t=keyM u:=uF (bn_f M)
  refine zJ (xK (zB (zC (xq 1 [yJ 85 (IntKind.i64.wrap ((k:Int)+1))] [] ?_))))
  rw[(show IntKind.i64.wrap ((k:Int)+1)=((k+1:Nat):Int) by rw[IntKind.wrap_i64];omega)]
  refine xq 1 [yJ 70 ((k+1:Nat):Int)] [] ?_
  refine xe ?_
  refine yP [(2,.p 2 0),(3,.p 3 0),yB 4 false,yJ 69 ((x.ms.length:Nat):Int),yJ 70 (((k+1):Nat):Int)] [(3,26,[.v (.int .i64 y.d),.v (.slice y.pA y.ps.length y.pc),.v (.slice y.mA y.ms.length y.mc)]),(2,26,[.v (.int .i64 x.d),.v (.slice x.pA x.ps.length x.pc),.v (.slice x.mA x.ms.length x.mc)])] (fun w=>(dId.ok m w x∧dId.ok N w y)) (fun w Q=>⟨Q.1.1,Q.1.2⟩) ?_
  exact xE ((1+(x.ms.length-(k+1)))) (by omega) ⟨(k+1),rfl,rfl,g,(ZaS P g l (I.symm ▸ J.symm ▸ V)),rfl⟩
 have W:x.ms.length≤k:=by have:=uE L;omega
 have f0:keyI x=keyI y:=by unfold keyI;rw[c0,e0,ZbA P W (by omega)]
 refine xN (zH (zH (xX (zB (zD (zC (xq 1 [yB 4 true] [] ?_)))))))
 refine xe (zB (zI ?_))
 refine yR (.bool true) fun w' R Q=>?_
 exact⟨by rw[uI f0],R⟩
theorem ZlU (j:Value)(p:Rat)(w:World)(a:xO w j p)  :
 yA 232 #[j] w (Zl8 w ⟨p,0,1⟩):=by
 obtain⟨b,c,d,e,f,g,h,i,rfl⟩:=a.shp
 refine xB (Φ:=fun w=>xO w (.agg #[.bool b,.slice c d e,.bool f,.slice g h i]) (p)) Tryz.func232 rfl (by kernel_rfl) (fun w' k=>a.ext k) ?_
 refine zD (zC (xr 2 [(1,.p 1 0),(2,.p 2 0)] [bV9 2 261 false none 0 0 false none 0 0 false none 0 0 false none 0 0 0,bR4 1 259 b c d e f g h i] ?_))
 refine xe (zB (zD (zC (xr 3 [(2,.p 2 0)] [bV9 2 261 b c d e f g h i false none 0 0 false none 0 0 1] ?_))))
 refine xe (zB (zI ?_))
 refine yR (.agg #[.bool b,.slice c d e,.bool f,.slice g h i,.bool false,.slice none 0 0,.bool false,.slice none 0 0,.int .i64 1]) fun w' R Q=>?_
 exact⟨_,rfl,(SdIs.of Q (xO.nil _)),R⟩
theorem ZdI (N R M:Nat)(w:World)(D:N≤1000000)(B:SqF N R M) :
 yA 234 #[.int .i64 ((N:Nat):Int)] w (RetV w (.tuple #[.int .i64 ((R:Nat):Int),.int .i64 ((M:Nat):Int)])):=by
 refine xB (Φ:=fun w=>True) Tryz.func234 rfl (by kernel_rfl) (fun w' I=>trivial) ?_
 refine zD (zC (xr 2 [yJ 0 (N:Int),yJ 2 0,yJ 3 0] [] ?_))
 refine xe (zB (zD (zC (xr 1 [yJ 0 (N:Int),yJ 2 0,yJ 3 0,yJ 4 1] [] ?_))))
 refine xe (zB (zD (zD (zC (xr 1 [yJ 0 (N:Int),yJ 2 0,yJ 3 0,yJ 4 1,yJ 5 2] [] ?_)))))
 refine xe (zB (zN ?_))
 refine yC [yJ 0 (N:Int),yJ 4 ((1:Nat):Int),yJ 5 ((2:Nat):Int)] [] (fun w=>True) (fun w Q=>trivial) ?_
 refine xS (fun o p q=>∃ (m r k:Nat),p=ofL [yJ 0 (m:Int),yJ 4 (r:Int),yJ 5 (k:Int)] []∧q=(fun w=>True)∧(r*r*m=N)∧(0<m)∧(m≤1000000)∧(gE k m)∧(2≤k)∧(k≤1001)∧o=(2000-k)) ((2000-2)) ⟨N,1,2,rfl,rfl,(by omega),B.pos,D,(gE.two N),(by omega),(by omega),rfl⟩ ?_
 rintro o p q ⟨m,r,k,rfl,rfl,i,s,C,E,j,G,rfl⟩
 refine zD (zD (zC (xr 3 [yJ 0 (m:Int),yJ 4 (r:Int),yJ 5 (k:Int),yJ 8 (IntKind.i64.wrap ((k:Int)*(k:Int)))] [] ?_)))
 rw[nmul (Zju (by omega))]
 refine xr 2 [yJ 0 (m:Int),yJ 4 (r:Int),yJ 5 (k:Int),yB 10 (decide (((k*k:Nat):Int)≤(m:Int)))] [] ?_
 refine xe (zB ?_)
 refine yQ ((decide (((k*k:Nat):Int)≤(m:Int)))) (fun f=>?_) fun f=>?_
 ·have l:=le_t f
  have H:=k_le l (by omega)
  refine zJ (zB (zD (zN (zN ?_))))
  refine yC [yJ 0 (m:Int),yJ 4 (r:Int),yJ 5 (k:Int)] [] (fun w=>True) (fun w Q=>trivial) ?_
  refine xS (fun o p q=>∃ (c d:Nat),p=ofL [yJ 0 (c:Int),yJ 4 (d:Int),yJ 5 (k:Int)] []∧q=(fun w=>True)∧(d*d*c=N)∧(0<c)∧(c≤1000000)∧(gE k c)∧o=(0+c)) ((0+m)) ⟨m,r,rfl,rfl,i,s,C,E,rfl⟩ ?_
  rintro o p q ⟨c,d,rfl,rfl,e,n,u,z,rfl⟩
  refine zD (zD (zC (xr 4 [yJ 0 (c:Int),yJ 4 (d:Int),yJ 5 (k:Int),yJ 13 (c:Int),yJ 16 (IntKind.i64.wrap ((k:Int)*(k:Int)))] [] ?_)))
  rw[nmul (Zju (by omega))]
  refine xl 17 (.int .i64 ((c%(k*k):Nat):Int)) (fun w S Q=>Zm5 (t:=3) (k:=3) (x:=.tmp 13) (y:=.tmp 16) (a:=c) (b:=k*k) (by kernel_rfl) (by kernel_rfl) (by kernel_rfl) (by have:=kk4 j;omega)) ?_
  refine xr 1 [yJ 0 (c:Int),yJ 4 (d:Int),yJ 5 (k:Int),(18,.v (.bool ((((c%(k*k):Nat):Int):Int) == 0)))] [] ?_
  refine xe (zB ?_)
  refine yQ (((((c%(k*k):Nat):Int):Int) == 0)) (fun g=>?_) fun g=>?_
  ·have A:=md_t g
   refine zJ (zB (zN (zD (zC (xr 4 [yJ 0 (c:Int),yJ 4 (d:Int),yJ 5 (k:Int),yJ 19 (c:Int),yJ 22 (IntKind.i64.wrap ((k:Int)*(k:Int)))] [] ?_)))))
   rw[nmul (Zju (by omega))]
   refine xl 23 (.int .i64 ((c/(k*k):Nat):Int)) (fun w S Q=>Zm4 (t:=3) (k:=3) (x:=.tmp 19) (y:=.tmp 22) (a:=c) (b:=k*k) (by kernel_rfl) (by kernel_rfl) (by kernel_rfl) (by have:=kk4 j;omega) (by omega)) ?_
   refine xr 1 [yJ 0 ((c/(k*k):Nat):Int),yJ 4 (d:Int),yJ 5 (k:Int)] [] ?_
   refine xe (zB (zC (xr 3 [yJ 0 ((c/(k*k):Nat):Int),yJ 4 (d:Int),yJ 5 (k:Int),yJ 26 (IntKind.i64.wrap ((d:Int)*(k:Int)))] [] ?_)))
   rw[nmul (Zn2 (sq_r e n D) (by omega))]
   refine xr 1 [yJ 0 ((c/(k*k):Nat):Int),yJ 4 ((d*k:Nat):Int),yJ 5 (k:Int)] [] ?_
   refine xe (xK ?_)
   refine yP [yJ 0 (((c/(k*k)):Nat):Int),yJ 4 (((d*k):Nat):Int),yJ 5 (k:Int)] [] (fun w=>True) (fun w Q=>trivial) ?_
   have F:=ZnP n A (kk4 j)
   exact xE ((0+(c/(k*k)))) (by have:=F.2;omega) ⟨(c/(k*k)),(d*k),rfl,rfl,(Zm6 e A),F.1,(by omega),(z.div (qQ A)),rfl⟩
  have A:=md_f g
  refine xN (zH (zH (xX (xK (zB (zC (xr 2 [yJ 0 (c:Int),yJ 4 (d:Int),yJ 5 (k:Int),yJ 12 (IntKind.i64.wrap ((k:Int)+1))] [] ?_)))))))
  rw[ninc (by omega)]
  refine xr 1 [yJ 0 (c:Int),yJ 4 (d:Int),yJ 5 ((k+1:Nat):Int)] [] ?_
  refine xe ?_
  refine yP [yJ 0 (c:Int),yJ 4 (d:Int),yJ 5 (((k+1):Nat):Int)] [] (fun w=>True) (fun w Q=>trivial) ?_
  exact xE ((2000-(k+1))) (by omega) ⟨c,d,(k+1),rfl,rfl,e,n,u,(z.next (fun h=>A (Nat.mod_eq_zero_of_dvd h))),(by omega),(by omega),rfl⟩
 have l:=le_f f
 refine xN (zH (zH (xX (zB (zD (zC (xr 4 [yJ 2 (r:Int),yJ 3 (m:Int)] [] ?_)))))))
 refine xe (zB (zI ?_))
 refine yR (.tuple #[.int .i64 (r:Int),.int .i64 (m:Int)]) fun w' S Q=>?_
 obtain⟨rfl,rfl⟩:=SqF.eq ⟨i,B.pos,E.free s l⟩ B
 exact⟨rfl,S⟩
theorem ZdJ (d:Int)(R M:Nat)(w:World)(b:0<d)(c:d≤1000000)(a:SqF d.toNat R M):yA 234 #[.int .i64 d] w (RetV w (.tuple #[.int .i64 ((R:Nat):Int),.int .i64 ((M:Nat):Int)])):=by
 obtain⟨n,rfl⟩:=rP (show 0≤d by omega)
 exact ZdI n R M w (by omega) a
theorem Zf0 (a b:ByteArray)(d:Int)(w:World)(C:Glob w)(L:(bytes a).length≤570∧(bytes b).length≤570) :
 yA 173 #[.agg #[.string a,.string b,.int .i64 d]] w (Zjo w (rdS (bytes a) (bytes b) d)):=by
 refine xB (Φ:=fun w=>Glob w) Tryz.func173 rfl (by kernel_rfl) (fun w' D=>C.ext D) ?_
 refine zD (zC (xr 3 [(1,.p 1 0),(2,.p 2 0),yB 3 false] [bW 2 261 nQ nQ 0,bS3 1 38 a b d] ?_))
 refine xe (zB (zD (zC (xr 2 [(1,.p 1 0),(2,.p 2 0),yB 3 false,yT 12 a] [bW 2 261 nQ nQ 0,bS3 1 38 a b d] ?_))))
 rcases ZcQ (xI (bytes a)) with k|⟨E,k⟩
 ·refine xc 231 [.string a] 13 (fun x:ShQ=>.tuple #[xC x,.bool false]) _ (fun w S Q=>(eJ a _ Q (fY.of_len (by omega))).mono (fun _ _ h=>cG h k)) fun l=>?_
  refine xr 6 [(1,.p 1 0),(2,.p 2 0),yB 3 false,(4,.p 4 0),yB 5 false] [bQ 4 259 l,bW 2 261 nQ nQ 0,bS3 1 38 a b d] ?_
  refine xe (zB (zD (zC (xr 2 [(1,.p 1 0),(2,.p 2 0),yB 3 false,(4,.p 4 0),yB 5 false,yT 18 b] [bQ 4 259 l,bW 2 261 nQ nQ 0,bS3 1 38 a b d] ?_))))
  refine xc 231 [.string b] 19 (fun B:Bool×ShQ=>.tuple #[xC B.2,.bool B.1]) _ (fun w S Q=>(eJ b _ Q.1 (fY.of_len (by omega))).mono (fun _ _=>Zgf)) fun⟨z,r⟩=>?_
  refine xr 6 [(1,.p 1 0),(2,.p 2 0),yB 3 false,(4,.p 4 0),yB 5 false,(6,.p 6 0),yB 7 z] [bQ 6 259 r,bQ 4 259 l,bW 2 261 nQ nQ 0,bS3 1 38 a b d] ?_
  refine xe (zB (zD (zD (zC (xr 6 [(1,.p 1 0),(2,.p 2 0),yB 3 false,(4,.p 4 0),(6,.p 6 0),yB 27 true] [bQ 6 259 r,bQ 4 259 l,bW 2 261 nQ nQ 0,bS3 1 38 a b d] ?_)))))
  refine xe (zB (xa (zD (zC (xr 3 [(1,.p 1 0),(2,.p 2 0),yB 3 false,(4,.p 4 0),(6,.p 6 0)] [bQ 6 259 r,bQ 4 259 l,bW 2 261 nQ nQ 0,bS3 1 38 a b d] ?_)))))
  refine xe (zB (zI (zE ?_)))
  refine yR (.tuple #[.agg #[.bool false,.slice none 0 0,.bool false,.slice none 0 0,.bool false,.slice none 0 0,.bool false,.slice none 0 0,.int .i64 0],.bool false]) fun w' S Q=>?_
  exact⟨_,_,_,rfl,(SdIs.of (xO.nil _) (xO.nil _)),S,Or.inr ⟨rfl,ZmP k⟩⟩
 refine xc 231 [.string a] 13 (fun x:ShQ=>.tuple #[xC x,.bool true]) _ (fun w S Q=>(eJ a _ Q (fY.of_len (by omega))).mono (fun _ _ h=>cH h k)) fun c=>?_
 refine xr 6 [(1,.p 1 0),(2,.p 2 0),yB 3 false,(4,.p 4 0),yB 5 true] [bQ 4 259 c,bW 2 261 nQ nQ 0,bS3 1 38 a b d] ?_
 refine xe (zB (zD (zC (xr 2 [(1,.p 1 0),(2,.p 2 0),yB 3 false,(4,.p 4 0),yB 5 true,yT 18 b] [bQ 4 259 c,bW 2 261 nQ nQ 0,bS3 1 38 a b d] ?_))))
 rcases ZcQ (xI (bytes b)) with m|⟨v,m⟩
 ·refine xc 231 [.string b] 19 (fun x:ShQ=>.tuple #[xC x,.bool false]) _ (fun w S Q=>(eJ b _ Q.1 (fY.of_len (by omega))).mono (fun _ _ h=>cG h m)) fun s=>?_
  refine xr 6 [(1,.p 1 0),(2,.p 2 0),yB 3 false,(4,.p 4 0),yB 5 true,(6,.p 6 0),yB 7 false] [bQ 6 259 s,bQ 4 259 c,bW 2 261 nQ nQ 0,bS3 1 38 a b d] ?_
  refine xe (zB (zD (zD (zC (xr 6 [(1,.p 1 0),(2,.p 2 0),yB 3 false,(4,.p 4 0),(6,.p 6 0),yB 27 true] [bQ 6 259 s,bQ 4 259 c,bW 2 261 nQ nQ 0,bS3 1 38 a b d] ?_)))))
  refine xe (zB (xa (zD (zC (xr 3 [(1,.p 1 0),(2,.p 2 0),yB 3 false,(4,.p 4 0),(6,.p 6 0)] [bQ 6 259 s,bQ 4 259 c,bW 2 261 nQ nQ 0,bS3 1 38 a b d] ?_)))))
  refine xe (zB (zI (zE ?_)))
  refine yR (.tuple #[.agg #[.bool false,.slice none 0 0,.bool false,.slice none 0 0,.bool false,.slice none 0 0,.bool false,.slice none 0 0,.int .i64 0],.bool false]) fun w' S Q=>?_
  exact⟨_,_,_,rfl,(SdIs.of (xO.nil _) (xO.nil _)),S,Or.inr ⟨rfl,ZmQ m⟩⟩
 refine xc 231 [.string b] 19 (fun x:ShQ=>.tuple #[xC x,.bool true]) _ (fun w S Q=>(eJ b _ Q.1 (fY.of_len (by omega))).mono (fun _ _ h=>cH h m)) fun e=>?_
 refine xr 6 [(1,.p 1 0),(2,.p 2 0),yB 3 false,(4,.p 4 0),yB 5 true,(6,.p 6 0),yB 7 true] [bQ 6 259 e,bQ 4 259 c,bW 2 261 nQ nQ 0,bS3 1 38 a b d] ?_
 refine xe (zB (zD (zD (zC (xr 6 [(1,.p 1 0),(2,.p 2 0),yB 3 false,(4,.p 4 0),(6,.p 6 0),yB 27 false] [bQ 6 259 e,bQ 4 259 c,bW 2 261 nQ nQ 0,bS3 1 38 a b d] ?_)))))
 refine xe (zB (xb (zJ (zB (zD (zD (zC (xr 3 [(1,.p 1 0),(2,.p 2 0),yB 3 false,(4,.p 4 0),(6,.p 6 0),yB 31 ((d:Int) == 1)] [bQ 6 259 e,bQ 4 259 c,bW 2 261 nQ nQ 0,bS3 1 38 a b d] ?_))))))))
 refine xe (zB ?_)
 refine yQ (((d:Int) == 1)) (fun g=>?_) fun g=>?_
 ·refine zD ?_
  refine yO 6 zK ?_
  refine xf 1 [(1,.p 1 0),(2,.p 2 0),yB 3 false,(4,.p 4 0),(6,.p 6 0),eQ 32 c] [bQ 6 259 e,bQ 4 259 c,bW 2 261 nQ nQ 0,bS3 1 38 a b d] ?_
  refine xd 232 [vQ c] 33 (shSd 1) _ (fun w S Q=>(ZlU _ E _ Q.1.2).mono (fun _ _=>ZmO)) fun⟨n,o⟩=>?_
  refine xf 1 [(1,.p 1 0),(2,.p 2 0),yB 3 false,(4,.p 4 0),(6,.p 6 0),eW 33 n o 1,eQ 34 e] [bQ 6 259 e,bQ 4 259 c,bW 2 261 nQ nQ 0,bS3 1 38 a b d] ?_
  by_cases f:v.num=0
  ·refine xd 233 [vQ e] 35 (fun _:Unit=>.bool true) _ (fun w S Q=>(jU _ v _ Q.1.2).mono (fun _ _ h=>zS h (by rw[uI f]))) fun y=>?_
   refine xf 2 [(1,.p 1 0),(2,.p 2 0),yB 3 true,(4,.p 4 0),(6,.p 6 0)] [bW 2 261 n o 1,bQ 6 259 e,bQ 4 259 c,bW 2 261 nQ nQ 0,bS3 1 38 a b d] ?_
   refine xz (xe (zB (zI (zE ?_))))
   refine yR (.tuple #[vW n o 1,.bool true]) fun w' S Q=>?_
   exact⟨_,_,_,rfl,(SdIs.of Q.1.2.1 Q.1.2.2),S,Or.inl ⟨rfl,ZkN k m g f⟩⟩
  refine xd 233 [vQ e] 35 (fun _:Unit=>.bool false) _ (fun w S Q=>(jU _ v _ Q.1.2).mono (fun _ _ h=>zS h (by rw[uH f]))) fun y=>?_
  refine xf 2 [(1,.p 1 0),(2,.p 2 0),yB 3 false,(4,.p 4 0),(6,.p 6 0)] [bW 2 261 n o 1,bQ 6 259 e,bQ 4 259 c,bW 2 261 nQ nQ 0,bS3 1 38 a b d] ?_
  refine xz (xe (zB (zI (zE ?_))))
  refine yR (.tuple #[vW n o 1,.bool false]) fun w' S Q=>?_
  exact⟨_,_,_,rfl,(SdIs.of Q.1.2.1 Q.1.2.2),S,Or.inr ⟨rfl,ZkO k m g f⟩⟩
 refine zJ (zB (zD (zD (zC (xr 4 [(1,.p 1 0),(2,.p 2 0),yB 3 false,(4,.p 4 0),(6,.p 6 0),yB 39 (decide (d<2))] [bQ 6 259 e,bQ 4 259 c,bW 2 261 nQ nQ 0,bS3 1 38 a b d] ?_)))))
 rcases Zl7 ((decide (d<2))) with i|i
 ·rw[i]
  have t:=uF i
  refine xr 8 [(1,.p 1 0),(2,.p 2 0),yB 3 false,(4,.p 4 0),(6,.p 6 0),yB 47 true] [bQ 6 259 e,bQ 4 259 c,bW 2 261 nQ nQ 0,bS3 1 38 a b d] ?_
  refine xe (zB (xa (zD (zC (xr 3 [(1,.p 1 0),(2,.p 2 0),yB 3 false,(4,.p 4 0),(6,.p 6 0)] [bQ 6 259 e,bQ 4 259 c,bW 2 261 nQ nQ 0,bS3 1 38 a b d] ?_)))))
  refine xe (zB (zI (zE ?_)))
  refine yR (.tuple #[.agg #[.bool false,.slice none 0 0,.bool false,.slice none 0 0,.bool false,.slice none 0 0,.bool false,.slice none 0 0,.int .i64 0],.bool false]) fun w' S Q=>?_
  exact⟨_,_,_,rfl,(SdIs.of (xO.nil _) (xO.nil _)),S,Or.inr ⟨rfl,ZeF k m g (by omega)⟩⟩
 rw[i]
 have t:=uE i
 refine xr 5 [(1,.p 1 0),(2,.p 2 0),yB 3 false,(4,.p 4 0),(6,.p 6 0),yB 44 (decide (d>1000000))] [bQ 6 259 e,bQ 4 259 c,bW 2 261 nQ nQ 0,bS3 1 38 a b d] ?_
 rcases Zl7 ((decide (d>1000000))) with j|j
 ·rw[j]
  have u:=uF j
  refine xr 3 [(1,.p 1 0),(2,.p 2 0),yB 3 false,(4,.p 4 0),(6,.p 6 0),yB 47 true] [bQ 6 259 e,bQ 4 259 c,bW 2 261 nQ nQ 0,bS3 1 38 a b d] ?_
  refine xe (zB (xa (zD (zC (xr 3 [(1,.p 1 0),(2,.p 2 0),yB 3 false,(4,.p 4 0),(6,.p 6 0)] [bQ 6 259 e,bQ 4 259 c,bW 2 261 nQ nQ 0,bS3 1 38 a b d] ?_)))))
  refine xe (zB (zI (zE ?_)))
  refine yR (.tuple #[.agg #[.bool false,.slice none 0 0,.bool false,.slice none 0 0,.bool false,.slice none 0 0,.bool false,.slice none 0 0,.int .i64 0],.bool false]) fun w' S Q=>?_
  exact⟨_,_,_,rfl,(SdIs.of (xO.nil _) (xO.nil _)),S,Or.inr ⟨rfl,ZeF k m g (by omega)⟩⟩
 rw[j]
 have u:=uE j
 refine xr 1 [(1,.p 1 0),(2,.p 2 0),yB 3 false,(4,.p 4 0),(6,.p 6 0),yB 44 false,eQ 45 e] [bQ 6 259 e,bQ 4 259 c,bW 2 261 nQ nQ 0,bS3 1 38 a b d] ?_
 by_cases f:v.num=0
 ·refine xc 233 [vQ e] 46 (fun _:Unit=>.bool true) _ (fun w S Q=>(jU _ v _ Q.2).mono (fun _ _ h=>zS h (by rw[uI f]))) fun y=>?_
  refine xr 1 [(1,.p 1 0),(2,.p 2 0),yB 3 false,(4,.p 4 0),(6,.p 6 0),yB 47 true] [bQ 6 259 e,bQ 4 259 c,bW 2 261 nQ nQ 0,bS3 1 38 a b d] ?_
  refine xe (zB (xa (zD (zC (xr 3 [(1,.p 1 0),(2,.p 2 0),yB 3 false,(4,.p 4 0),(6,.p 6 0)] [bQ 6 259 e,bQ 4 259 c,bW 2 261 nQ nQ 0,bS3 1 38 a b d] ?_)))))
  refine xe (zB (zI (zE ?_)))
  refine yR (.tuple #[.agg #[.bool false,.slice none 0 0,.bool false,.slice none 0 0,.bool false,.slice none 0 0,.bool false,.slice none 0 0,.int .i64 0],.bool false]) fun w' S Q=>?_
  exact⟨_,_,_,rfl,(SdIs.of (xO.nil _) (xO.nil _)),S,Or.inr ⟨rfl,ZeF k m g (Or.inr (Or.inr (Or.inl f)))⟩⟩
 refine xc 233 [vQ e] 46 (fun _:Unit=>.bool false) _ (fun w S Q=>(jU _ v _ Q.2).mono (fun _ _ h=>zS h (by rw[uH f]))) fun y=>?_
 refine xr 1 [(1,.p 1 0),(2,.p 2 0),yB 3 false,(4,.p 4 0),(6,.p 6 0),yB 47 false] [bQ 6 259 e,bQ 4 259 c,bW 2 261 nQ nQ 0,bS3 1 38 a b d] ?_
 refine xe (zB (xb (zJ (zB (zD (zD (zC (xr 2 [(1,.p 1 0),(2,.p 2 0),yB 3 false,(4,.p 4 0),(6,.p 6 0),yJ 51 d] [bQ 6 259 e,bQ 4 259 c,bW 2 261 nQ nQ 0,bS3 1 38 a b d] ?_))))))))
 obtain⟨R,M,A⟩:=Zjn _ (d).toNat (uR _) (by omega)
 refine xc 234 [.int .i64 d] 52 (fun _:Unit=>.tuple #[.int .i64 (R:Int),.int .i64 (M:Int)]) _ (fun w S Q=>(ZdJ d R M _ (by omega) (by omega) A).mono (fun _ _ h=>zS h rfl)) fun y=>?_
 refine xr 5 [(1,.p 1 0),(2,.p 2 0),yB 3 false,(4,.p 4 0),(6,.p 6 0),yJ 8 (R:Int)] [bQ 6 259 e,bQ 4 259 c,bW 2 261 nQ nQ 0,bS3 1 38 a b d] ?_
 refine xe (zB (zD (zC (xr 2 [(1,.p 1 0),(2,.p 2 0),yB 3 false,(4,.p 4 0),(6,.p 6 0),yB 56 (((R:Int):Int) != 1)] [bQ 6 259 e,bQ 4 259 c,bW 2 261 nQ nQ 0,bS3 1 38 a b d] ?_))))
 refine xe (zB ?_)
 refine yQ ((((R:Int):Int) != 1)) (fun q=>?_) fun q=>?_
 ·refine zD (zC (xr 3 [(1,.p 1 0),(2,.p 2 0),yB 3 false,(4,.p 4 0),(6,.p 6 0)] [bQ 6 259 e,bQ 4 259 c,bW 2 261 nQ nQ 0,bS3 1 38 a b d] ?_))
  refine xe (zB (zI (zE ?_)))
  refine yR (.tuple #[.agg #[.bool false,.slice none 0 0,.bool false,.slice none 0 0,.bool false,.slice none 0 0,.bool false,.slice none 0 0,.int .i64 0],.bool false]) fun w' S Q=>?_
  exact⟨_,_,_,rfl,(SdIs.of (xO.nil _) (xO.nil _)),S,Or.inr ⟨rfl,ZeF k m g (Or.inr (Or.inr (Or.inr (Zn3 A q))))⟩⟩
 refine zJ (zB (zD (zC (xr 7 [(2,.p 2 0),yB 3 true] [bW 2 261 c e d] ?_))))
 refine xe (zB (zI ?_))
 refine yR (.tuple #[vW c e d,.bool true]) fun w' S Q=>?_
 exact⟨_,_,_,rfl,(SdIs.of Q.1.1.1.2 Q.1.1.2),S,Or.inl ⟨rfl,Zl9 k m (by omega) (by omega) f (Zn4 A q)⟩⟩
theorem Zjy (a b:ByteArray)(d:Int)(w:World)(g:Glob w)(L:(bytes a).length≤570∧(bytes b).length≤570) :
 yA 79 #[.agg #[.string a,.string b,.int .i64 d]] w (RetV w (.bool (rdS (bytes a) (bytes b) d).isSome)):=by
 refine xB (Φ:=fun w=>Glob w) Tryz.func79 rfl (by kernel_rfl) (fun w' i=>g.ext i) ?_
 refine zD (zC (xr 2 [(1,.p 1 0),yB 2 false] [bS3 1 38 a b d] ?_))
 refine xe (zB (zD (zC (xr 1 [yB 2 false,eS3 6 a b d] [] ?_))))
 rcases ZcQ (rdS (bytes a) (bytes b) d) with c|⟨x,c⟩
 ·refine xc 173 [vS3 a b d] 7 (fun e:Int×ShS=>.tuple #[shSd e.1 e.2,.bool false]) _ (fun w R Q=>(Zf0 a b d _ Q L).mono (fun _ _ h=>Zg9 h c)) fun⟨f,j,k⟩=>?_
  refine xr 6 [yB 2 false,yB 4 false] [] ?_
  refine xe (zB (zD (zC (xr 2 [yB 2 false] [] ?_))))
  refine xe (zB (zI ?_))
  refine yR (.bool false) fun w' R Q=>?_
  exact⟨by rw[c];rfl,R⟩
 refine xc 173 [vS3 a b d] 7 (fun e:ShS=>.tuple #[shSd x.d e,.bool true]) _ (fun w R Q=>(Zf0 a b d _ Q L).mono (fun _ _ h=>Zg8 h c)) fun⟨l,m⟩=>?_
 refine xr 6 [yB 2 false,yB 4 true] [] ?_
 refine xe (zB (zD (zC (xr 2 [yB 2 true] [] ?_))))
 refine xe (zB (zI ?_))
 refine yR (.bool true) fun w' R Q=>?_
 exact⟨by rw[c];rfl,R⟩
def MuR.sc (m:MuR):Prop:=(∀ i,i<m.a.ts.length→(bytes m.a.ts[i]!.coef).length≤570)∧∀ i,i<m.b.ts.length→(bytes m.b.ts[i]!.coef).length≤570
def MuR.sx (m:MuR):Prop:=(∀ i,i<m.a.ts.length→m.a.ts[i]!.exps.length≤9223372036854775807)∧∀ i,i<m.b.ts.length→m.b.ts[i]!.exps.length≤9223372036854775807
def IdR.sc (x:IdR):Prop:=(∀ p∈x.ps,(∀ s∈p.sq,((bytes s.sa).length≤570∧(bytes s.sb).length≤570)∧s.r.sc)∧True)∧∀ m∈x.ms,m.sc
def IdR.sx (x:IdR):Prop:=(∀ p∈x.ps,∀ s∈p.sq,s.r.sx)∧∀ m∈x.ms,m.sx
theorem MuG.sc {n:Nat}{m:MuR}(h:MuG n m):m.sc:=⟨fun i a=>uD (h.1.coef i a) (by decide),fun i a=>uD (h.2.coef i a) (by decide)⟩
theorem MuG.sx {n:Nat}(b:n=1∨n=2){m:MuR}(h:MuG n m):m.sx:=⟨fun i a=>by have:=h.1.exl b i a;omega,fun i a=>by have:=h.2.exl b i a;omega⟩
theorem IdG.sc {n:Nat}{x:IdR}(h:IdG n x):x.sc:=⟨fun p a=>⟨fun s b=>⟨⟨by have:=((h.2.2.2.1 p a).2.2.2 s b).1.2.1;omega,by have:=((h.2.2.2.1 p a).2.2.2 s b).1.2.2.1;omega⟩,((h.2.2.2.1 p a).2.2.2 s b).2.sc⟩,trivial⟩,fun m c=>(h.2.2.2.2 m c).sc⟩
theorem IdG.sx {n:Nat}(a:n=1∨n=2){x:IdR}(h:IdG n x):x.sx:=⟨fun p b s c=>((h.2.2.2.1 p b).2.2.2 s c).2.sx a,fun m d=>(h.2.2.2.2 m d).sx a⟩
theorem Zfj {b:Bool}{w w':World}{e:Ending}(h:RetV w (.bool b) e w')(a:b=true):wS (fun _:Unit=>.bool true) (fun _ _=>True) w e w':=zS h (by rw[a])
theorem Zjz (z:Int)(w:World)(a:0≤z) :
 yA 78 #[.int .i64 z] w (RetV w (.bool false)):=by
 refine xB (Φ:=fun w=>True) Tryz.func78 rfl (by kernel_rfl) (fun w' b=>trivial) ?_
 refine zD (zC (xq 1 [yB 2 false] [] ?_))
 refine xe (zB (zD (zC (xq 2 [yB 4 (decide (z<0))] [] ?_))))
 rw[(show decide (z<0)=false from uH (by omega))]
 refine xq 1 [yB 2 false] [] ?_
 refine xe (zB (zI ?_))
 refine yR (.bool false) fun w' R Q=>?_
 exact⟨rfl,R⟩
theorem Zfk (A:Option Addr)(c:Nat)(zs:List Int)(w:World)(h:IRow w A zs)(l:∀ z∈zs,0≤z)(o:zs.length≤1000000) :
 yA 172 #[.slice A zs.length c,.func (.func 78) #[] #[]] w (RetV w (.int .i64 (-1))):=by
 refine xB (Φ:=fun w=>IRow w A zs) Tryz.func172 rfl (by kernel_rfl) (fun w' m=>h.ext m) ?_
 refine zD (zC (xq 1 [yJ 4 0] [] ?_))
 refine xe (zB (zD (zD (zC (xq 3 [yJ 7 ((zs.length:Nat):Int),yJ 8 0] [] ?_)))))
 refine xe (zB (zN ?_))
 refine yC [eS1 0 A zs.length c,(1,.v (.func (.func 78) #[] #[])),yJ 4 0,yJ 7 ((zs.length:Nat):Int),yJ 8 ((0:Nat):Int)] [] (fun w=>IRow w A zs) (fun w Q=>Q) ?_
 refine xS (fun d f g=>∃ (k:Nat),f=ofL [eS1 0 A zs.length c,(1,.v (.func (.func 78) #[] #[])),yJ 4 0,yJ 7 ((zs.length:Nat):Int),yJ 8 (k:Int)] []∧g=(fun w=>IRow w A zs)∧(k≤zs.length)∧d=(1+(zs.length-k))) ((1+(zs.length-0))) ⟨0,rfl,rfl,(uM _),rfl⟩ ?_
 rintro d f g ⟨k,rfl,rfl,p,rfl⟩
 refine zD (zC (xq 1 [yB 9 (decide ((k:Int)<((zs.length:Nat):Int)))] [] ?_))
 refine xe (zB (zD ?_))
 refine yQ ((decide ((k:Int)<((zs.length:Nat):Int)))) (fun a=>?_) fun a=>?_
 ·have b:k<zs.length:=by have:=uF a;omega
  refine zJ (zB (zD (zN (zD (zC (xq 2 [yJ 5 (k:Int)] [] ?_))))))
  refine xe (zB (zD (zC (xq 3 [(11,.v (.func (.func 78) #[] #[])),eS1 12 A zs.length c,yJ 13 (k:Int)] [] ?_))))
  refine xqk 14 (atA A (k*1)) (fun w R Q=>wT (t:=22) (e:=3) (sz:=1) (x:=.tmp 12) (ix:=.tmp 13) (len:=zs.length) (cap:=c) (i:=k) ((Q).ne b) b) ?_
  refine xqk 15 (.int .i64 (nth zs k)) (fun w R Q=>kI (t:=3) (x:=.tmp 14) (zs:=zs) (j:=k) (Q) b) ?_
  refine xqc 78 [.int .i64 (nth zs k)] 16 (fun _:Unit=>.bool false) _ (fun w R Q=>yN (Zjz (nth zs k) _ (l _ (Zba b)))) fun q=>?_
  refine xe (zB (xb (zJ (xK (zB (zC (xq 1 [yJ 18 (IntKind.i64.wrap ((k:Int)+1))] [] ?_)))))))
  rw[(show IntKind.i64.wrap ((k:Int)+1)=((k+1:Nat):Int) by rw[IntKind.wrap_i64];omega)]
  refine xq 1 [yJ 8 ((k+1:Nat):Int)] [] ?_
  refine xe ?_
  refine yP [eS1 0 A zs.length c,(1,.v (.func (.func 78) #[] #[])),yJ 4 0,yJ 7 ((zs.length:Nat):Int),yJ 8 (((k+1):Nat):Int)] [] (fun w=>IRow w A zs) (fun w Q=>Q.1) ?_
  exact xE ((1+(zs.length-(k+1)))) (by omega) ⟨(k+1),rfl,rfl,b,rfl⟩
 have n:zs.length≤k:=by have:=uE a;omega
 refine xN (zH (zH (xX (zB (zD (zC (xq 1 [yJ 4 (-1)] [] ?_)))))))
 refine xe (zB (zI ?_))
 refine yR (.int .i64 (-1)) fun w' R Q=>?_
 exact⟨rfl,R⟩
theorem ZcY (A:Option Addr)(c:Nat)(zs:List Int)(w:World)(a:IRow w A zs)(b:∀ z∈zs,0≤z)(d:zs.length≤1000000) :
 yA 77 #[.slice A zs.length c,.func (.func 78) #[] #[]] w (RetV w (.bool false)):=by
 refine xB (Φ:=fun w=>IRow w A zs) Tryz.func77 rfl (by kernel_rfl) (fun w' e=>a.ext e) ?_
 refine zD (zC (xq 1 [yB 4 false] [] ?_))
 refine xe (zB (zD (zC (xq 2 [eS1 5 A zs.length c,(6,.v (.func (.func 78) #[] #[]))] [] ?_))))
 refine xqc 172 [.slice A zs.length c,.func (.func 78) #[] #[]] 7 (fun _:Unit=>.int .i64 (-1)) _ (fun w R Q=>yN (Zfk A c zs _ Q b d)) fun f=>?_
 refine xq 2 [yB 4 false] [] ?_
 refine xe (zB (zI ?_))
 refine yR (.bool false) fun w' R Q=>?_
 exact⟨rfl,R⟩
theorem ZbN (m:Nat)(x:MuR)(w:World)(i:Glob w)(j:dMu.ok m w x)(d:x.good)(e:x.sc)(f:x.sx) :
 yA 80 #[.agg #[.int .i64 x.a.v,.slice x.a.A x.a.ts.length x.a.c,.int .i64 x.b.v,.slice x.b.A x.b.ts.length x.b.c]] w (RetV w (.bool true)):=by
 refine xB (Φ:=fun w=>(Glob w∧dMu.ok m w x)) Tryz.func80 rfl (by kernel_rfl) (fun w' g=>⟨i.ext g,Dp.ext j g⟩) ?_
 refine zD (zC (xq 2 [(1,.p 1 0),yB 2 false] [(1,118,[.v (.int .i64 x.a.v),.v (.slice x.a.A x.a.ts.length x.a.c),.v (.int .i64 x.b.v),.v (.slice x.b.A x.b.ts.length x.b.c)])] ?_))
 refine xe (zB (zD (zC (xq 2 [(4,.v (.agg #[.int .i64 x.a.v,.slice x.a.A x.a.ts.length x.a.c]))] [] ?_))))
 refine xqc 89 [.agg #[.int .i64 x.a.v,.slice x.a.A x.a.ts.length x.a.c]] 5 (fun _:Unit=>.bool true) _ (fun w R Q=>(aH x.a.A x.a.c x.a.ts x.a.v _ Q.1 (kQ.trow (Q.2).1) (e.1) (f.1)).mono (fun _ _ h=>Zfj h d.1)) fun k=>?_
 refine xq 3 [yB 6 true,(8,.v (.agg #[.int .i64 x.b.v,.slice x.b.A x.b.ts.length x.b.c]))] [] ?_
 refine xqc 89 [.agg #[.int .i64 x.b.v,.slice x.b.A x.b.ts.length x.b.c]] 9 (fun _:Unit=>.bool true) _ (fun w R Q=>(aH x.b.A x.b.c x.b.ts x.b.v _ Q.1.1 (kQ.trow (Q.1.2).2) (e.2) (f.2)).mono (fun _ _ h=>Zfj h d.2)) fun k=>?_
 refine xq 2 [yB 2 true] [] ?_
 refine xe (zB (zI ?_))
 refine yR (.bool true) fun w' R Q=>?_
 exact⟨rfl,R⟩
theorem ZjA (m:Nat)(x:MuR)(w:World)(f:Glob w)(g:dMu.ok m w x)(d:x.good)(h:x.sc)(i:x.sx) :
 yA 82 #[.agg #[.int .i64 x.a.v,.slice x.a.A x.a.ts.length x.a.c,.int .i64 x.b.v,.slice x.b.A x.b.ts.length x.b.c]] w (RetV w (.bool false)):=by
 refine xB (Φ:=fun w=>(Glob w∧dMu.ok m w x)) Tryz.func82 rfl (by kernel_rfl) (fun w' e=>⟨f.ext e,Dp.ext g e⟩) ?_
 refine zD (zC (xq 2 [(1,.p 1 0),yB 2 false] [(1,118,[.v (.int .i64 x.a.v),.v (.slice x.a.A x.a.ts.length x.a.c),.v (.int .i64 x.b.v),.v (.slice x.b.A x.b.ts.length x.b.c)])] ?_))
 refine xe (zB (zD (zC (xq 1 [(3,.v (.agg #[.int .i64 x.a.v,.slice x.a.A x.a.ts.length x.a.c,.int .i64 x.b.v,.slice x.b.A x.b.ts.length x.b.c]))] [] ?_))))
 refine xqc 80 [.agg #[.int .i64 x.a.v,.slice x.a.A x.a.ts.length x.a.c,.int .i64 x.b.v,.slice x.b.A x.b.ts.length x.b.c]] 4 (fun _:Unit=>.bool true) _ (fun w R Q=>yN (ZbN m x _ Q.1 Q.2 d h i)) fun j=>?_
 refine xq 2 [yB 2 false] [] ?_
 refine xe (zB (zI ?_))
 refine yR (.bool false) fun w' R Q=>?_
 exact⟨rfl,R⟩
theorem Zfl (m c:Nat)(A:Option Addr)(xs:List MuR)(w:World)(B:Glob w)(l:OwnD w m 118 4 A c xs.length (xs.flatMap MuR.cells)∧dMu.list.ok m w xs)(n:∀ x∈xs,x.good)(C:∀ x∈xs,x.sc)(D:∀ x∈xs,x.sx)(F:xs.length≤1000000) :
 yA 174 #[.slice A xs.length c,.func (.func 82) #[] #[]] w (RetV w (.int .i64 (-1))):=by
 refine xB (Φ:=fun w=>(Glob w∧(OwnD w m 118 4 A c xs.length (xs.flatMap MuR.cells)∧dMu.list.ok m w xs))) Tryz.func174 rfl (by kernel_rfl) (fun w' o=>⟨B.ext o,⟨OwnD.ext l.1 o,Dp.ext l.2 o⟩⟩) ?_
 refine zD (zC (xq 1 [yJ 4 0] [] ?_))
 refine xe (zB (zD (zD (zC (xq 3 [yJ 7 ((xs.length:Nat):Int),yJ 8 0] [] ?_)))))
 refine xe (zB (zN ?_))
 refine yC [eS1 0 A xs.length c,(1,.v (.func (.func 82) #[] #[])),yJ 4 0,yJ 7 ((xs.length:Nat):Int),yJ 8 ((0:Nat):Int)] [] (fun w=>(Glob w∧(OwnD w m 118 4 A c xs.length (xs.flatMap MuR.cells)∧dMu.list.ok m w xs))) (fun w Q=>⟨Q.1,Q.2⟩) ?_
 refine xS (fun p q r=>∃ (k:Nat),q=ofL [eS1 0 A xs.length c,(1,.v (.func (.func 82) #[] #[])),yJ 4 0,yJ 7 ((xs.length:Nat):Int),yJ 8 (k:Int)] []∧r=(fun w=>(Glob w∧(OwnD w m 118 4 A c xs.length (xs.flatMap MuR.cells)∧dMu.list.ok m w xs)))∧(k≤xs.length)∧p=(1+(xs.length-k))) ((1+(xs.length-0))) ⟨0,rfl,rfl,(uM _),rfl⟩ ?_
 rintro p q r ⟨k,rfl,rfl,G,rfl⟩
 refine zD (zC (xq 1 [yB 9 (decide ((k:Int)<((xs.length:Nat):Int)))] [] ?_))
 refine xe (zB (zD ?_))
 refine yQ ((decide ((k:Int)<((xs.length:Nat):Int)))) (fun d=>?_) fun d=>?_
 ·have g:k<xs.length:=by have:=uF d;omega
  refine zJ (zB (zD (zN (zD (zC (xq 2 [yJ 5 (k:Int)] [] ?_))))))
  refine xe (zB (zD (zC (xq 3 [(11,.v (.func (.func 82) #[] #[])),eS1 12 A xs.length c,yJ 13 (k:Int)] [] ?_))))
  obtain⟨b,s⟩:=OwnD.base l.1 (uN (uM _) g)
  obtain⟨u,y⟩:∃ z,xs[k]! = z:=⟨_,rfl⟩
  have h:u∈xs:=kJ g y
  refine xqk 14 (.pointer (some ⟨b,0+k*4,none⟩)) (fun w R Q=>xD s (t:=24) (e:=118) (sz:=4) (x:=.tmp 12) (ix:=.tmp 13) (len:=xs.length) (cap:=c) (i:=k) g) ?_
  refine xqk 15 (.agg #[.int .i64 u.a.v,.slice u.a.A u.a.ts.length u.a.c,.int .i64 u.b.v,.slice u.b.A u.b.ts.length u.b.c]) (fun w R Q=>by rw[←y];exact lV (t:=118) (x:=.tmp 14) (k:=4) (f:=0) (j:=k) (part:=[.int .i64 xs[k]!.a.v,.slice xs[k]!.a.A xs[k]!.a.ts.length xs[k]!.a.c,.int .i64 xs[k]!.b.v,.slice xs[k]!.b.A xs[k]!.b.ts.length xs[k]!.b.c]) (enc:=MuR.cells) s (Q.2).1 (fun _=>rfl) g rfl) ?_
  refine xqc 82 [.agg #[.int .i64 u.a.v,.slice u.a.A u.a.ts.length u.a.c,.int .i64 u.b.v,.slice u.b.A u.b.ts.length u.b.c]] 16 (fun _:Unit=>.bool false) _ (fun w R Q=>yN (ZjA m u _ Q.1 ((Q.2).2 u h) (n u h) (C u h) (D u h))) fun H=>?_
  refine xe (zB (xb (zJ (xK (zB (zC (xq 1 [yJ 18 (IntKind.i64.wrap ((k:Int)+1))] [] ?_)))))))
  rw[(show IntKind.i64.wrap ((k:Int)+1)=((k+1:Nat):Int) by rw[IntKind.wrap_i64];omega)]
  refine xq 1 [yJ 8 ((k+1:Nat):Int)] [] ?_
  refine xe ?_
  refine yP [eS1 0 A xs.length c,(1,.v (.func (.func 82) #[] #[])),yJ 4 0,yJ 7 ((xs.length:Nat):Int),yJ 8 (((k+1):Nat):Int)] [] (fun w=>(Glob w∧(OwnD w m 118 4 A c xs.length (xs.flatMap MuR.cells)∧dMu.list.ok m w xs))) (fun w Q=>⟨Q.1.1,Q.1.2⟩) ?_
  exact xE ((1+(xs.length-(k+1)))) (by omega) ⟨(k+1),rfl,rfl,g,rfl⟩
 have E:xs.length≤k:=by have:=uE d;omega
 refine xN (zH (zH (xX (zB (zD (zC (xq 1 [yJ 4 (-1)] [] ?_)))))))
 refine xe (zB (zI ?_))
 refine yR (.int .i64 (-1)) fun w' R Q=>?_
 exact⟨rfl,R⟩
theorem ZcZ (m c:Nat)(A:Option Addr)(xs:List MuR)(w:World)(e:Glob w)(d:OwnD w m 118 4 A c xs.length (xs.flatMap MuR.cells)∧dMu.list.ok m w xs)(a:∀ x∈xs,x.good)(f:∀ x∈xs,x.sc)(g:∀ x∈xs,x.sx)(h:xs.length≤1000000) :
 yA 81 #[.slice A xs.length c,.func (.func 82) #[] #[]] w (RetV w (.bool false)):=by
 refine xB (Φ:=fun w=>(Glob w∧(OwnD w m 118 4 A c xs.length (xs.flatMap MuR.cells)∧dMu.list.ok m w xs))) Tryz.func81 rfl (by kernel_rfl) (fun w' b=>⟨e.ext b,⟨OwnD.ext d.1 b,Dp.ext d.2 b⟩⟩) ?_
 refine zD (zC (xq 1 [yB 4 false] [] ?_))
 refine xe (zB (zD (zC (xq 2 [eS1 5 A xs.length c,(6,.v (.func (.func 82) #[] #[]))] [] ?_))))
 refine xqc 174 [.slice A xs.length c,.func (.func 82) #[] #[]] 7 (fun _:Unit=>.int .i64 (-1)) _ (fun w R Q=>yN (Zfl m c A xs _ Q.1 Q.2 a f g h)) fun i=>?_
 refine xq 2 [yB 4 false] [] ?_
 refine xe (zB (zI ?_))
 refine yR (.bool false) fun w' R Q=>?_
 exact⟨rfl,R⟩
theorem Zc0 (m:Nat)(x:IdR)(w:World)(S:Glob w)(I:dId.ok m w x)(n:x.good)(C:x.sm)(D:x.sc)(E:x.sx) :
 yA 32 #[.agg #[.int .i64 x.d,.slice x.pA x.ps.length x.pc,.slice x.mA x.ms.length x.mc]] w (RetV w (.bool true)):=by
 refine xB (Φ:=fun w=>(Glob w∧dId.ok m w x)) Tryz.func32 rfl (by kernel_rfl) (fun w' L=>⟨S.ext L,Dp.ext I L⟩) ?_
 refine zD (zC (xq 2 [(1,.p 1 0),yB 2 false] [(1,26,[.v (.int .i64 x.d),.v (.slice x.pA x.ps.length x.pc),.v (.slice x.mA x.ms.length x.mc)])] ?_))
 refine xe (zB (zD (zD (zC (xq 3 [yB 9 (decide (x.d<0))] [] ?_)))))
 rw[(show decide (x.d<0)=false from uH (by have:=n.1;omega))]
 refine xe (zB (xb (zJ (zB (zD (zD (zC (xq 4 [eS1 11 x.pA x.ps.length x.pc,yJ 12 ((x.ps.length:Nat):Int),yJ 13 0] [] ?_))))))))
 refine xe (zB (zN ?_))
 refine yC [(1,.p 1 0),yB 2 false,eS1 11 x.pA x.ps.length x.pc,yJ 12 ((x.ps.length:Nat):Int),yJ 13 ((0:Nat):Int)] [(1,26,[.v (.int .i64 x.d),.v (.slice x.pA x.ps.length x.pc),.v (.slice x.mA x.ms.length x.mc)])] (fun w=>(Glob w∧dId.ok m w x)) (fun w Q=>⟨Q.1,Q.2⟩) ?_
 refine xS (fun F G H=>∃ (j:Nat),G=ofL [(1,.p 1 0),yB 2 false,eS1 11 x.pA x.ps.length x.pc,yJ 12 ((x.ps.length:Nat):Int),yJ 13 (j:Int)] [(1,26,[.v (.int .i64 x.d),.v (.slice x.pA x.ps.length x.pc),.v (.slice x.mA x.ms.length x.mc)])]∧H=(fun w=>(Glob w∧dId.ok m w x))∧(j≤x.ps.length)∧F=(1+(x.ps.length-j))) ((1+(x.ps.length-0))) ⟨0,rfl,rfl,(uM _),rfl⟩ ?_
 rintro F G H ⟨j,rfl,rfl,Z,rfl⟩
 refine zD (zC (xq 1 [yB 14 (decide ((j:Int)<((x.ps.length:Nat):Int)))] [] ?_))
 refine xe (zB (zD ?_))
 refine yQ ((decide ((j:Int)<((x.ps.length:Nat):Int)))) (fun o=>?_) fun o=>?_
 ·have q:j<x.ps.length:=by have:=uF o;omega
  have T:=C.1
  refine zJ (zB (zD (zN (zD (zC ?_)))))
  obtain⟨U,M⟩:=OwnD.base I.1.1 (uN (uM _) q)
  obtain⟨p,N⟩:∃ z,x.ps[j]! = z:=⟨_,rfl⟩
  have g:p∈x.ps:=kJ q N
  refine xqk 15 (.pointer (some ⟨U,0+j*2,none⟩)) (fun w R Q=>xD M (t:=23) (e:=114) (sz:=2) (x:=.tmp 11) (ix:=.tmp 13) (len:=x.ps.length) (cap:=x.pc) (i:=j) q) ?_
  refine xqk 16 (.agg #[.slice p.zA p.zs.length p.zc,.slice p.sA p.sq.length p.sc]) (fun w R Q=>by rw[←N];exact lV (t:=114) (x:=.tmp 15) (k:=2) (f:=0) (j:=j) (part:=[.slice x.ps[j]!.zA x.ps[j]!.zs.length x.ps[j]!.zc,.slice x.ps[j]!.sA x.ps[j]!.sq.length x.ps[j]!.sc]) (enc:=PrR.cells) M (Q.2).1.1 (fun _=>rfl) q rfl) ?_
  refine xq 2 [(4,.p 4 0)] [(4,114,[.v (.slice p.zA p.zs.length p.zc),.v (.slice p.sA p.sq.length p.sc)])] ?_
  refine xe (zB (zD (zD (zC (xq 2 [eS1 18 p.zA p.zs.length p.zc] [] ?_)))))
  refine xqc 77 [.slice p.zA p.zs.length p.zc,.func (.func 78) #[] #[]] 19 (fun _:Unit=>.bool false) _ (fun w R Q=>yN (ZcY p.zA p.zc p.zs _ (OwnD.irow ((Q.2).1.2 p g).1) (n.2.1 p g).1 (C.2.2.1 p g).1)) fun J=>?_
  refine xe (zB (xb (zJ (zB (zD (zC (xq 4 [eS1 21 p.sA p.sq.length p.sc,yJ 22 ((p.sq.length:Nat):Int),yJ 23 0] [] ?_)))))))
  refine xe (zB (zN ?_))
  refine yC [(1,.p 1 0),yB 2 false,eS1 11 x.pA x.ps.length x.pc,yJ 12 ((x.ps.length:Nat):Int),yJ 13 (j:Int),eS1 21 p.sA p.sq.length p.sc,yJ 22 ((p.sq.length:Nat):Int),yJ 23 ((0:Nat):Int)] [(1,26,[.v (.int .i64 x.d),.v (.slice x.pA x.ps.length x.pc),.v (.slice x.mA x.ms.length x.mc)])] (fun w=>(Glob w∧dId.ok m w x)) (fun w Q=>⟨Q.1.1,Q.1.2⟩) ?_
  refine xS (fun F G H=>∃ (k:Nat),G=ofL [(1,.p 1 0),yB 2 false,eS1 11 x.pA x.ps.length x.pc,yJ 12 ((x.ps.length:Nat):Int),yJ 13 (j:Int),eS1 21 p.sA p.sq.length p.sc,yJ 22 ((p.sq.length:Nat):Int),yJ 23 (k:Int)] [(1,26,[.v (.int .i64 x.d),.v (.slice x.pA x.ps.length x.pc),.v (.slice x.mA x.ms.length x.mc)])]∧H=(fun w=>(Glob w∧dId.ok m w x))∧(k≤p.sq.length)∧F=(1+(p.sq.length-k))) ((1+(p.sq.length-0))) ⟨0,rfl,rfl,(uM _),rfl⟩ ?_
  rintro F G H ⟨k,rfl,rfl,hk,rfl⟩
  refine zD (zC (xq 1 [yB 24 (decide ((k:Int)<((p.sq.length:Nat):Int)))] [] ?_))
  refine xe (zB (zD ?_))
  refine yQ ((decide ((k:Int)<((p.sq.length:Nat):Int)))) (fun u=>?_) fun u=>?_
  ·have B:k<p.sq.length:=by have:=uF u;omega
   have V:=(C.2.2.1 p g).2.1
   refine zJ (zB (zD (zN (zD (zC ?_)))))
   obtain⟨W,O⟩:=OwnD.base (I.1.2 p g).2.1 (uN (uM _) B)
   obtain⟨s,P⟩:∃ z,p.sq[k]! = z:=⟨_,rfl⟩
   have l:s∈p.sq:=kJ B P
   refine xqk 25 (.pointer (some ⟨W,0+k*7,none⟩)) (fun w R Q=>xD O (t:=112) (e:=179) (sz:=7) (x:=.tmp 21) (ix:=.tmp 23) (len:=p.sq.length) (cap:=p.sc) (i:=k) B) ?_
   refine xqk 26 (.agg #[.string s.sa,.string s.sb,.int .i64 s.d,.int .i64 s.r.a.v,.slice s.r.a.A s.r.a.ts.length s.r.a.c,.int .i64 s.r.b.v,.slice s.r.b.A s.r.b.ts.length s.r.b.c]) (fun w R Q=>by rw[←P];exact lV (t:=179) (x:=.tmp 25) (k:=7) (f:=0) (j:=k) (part:=[.string p.sq[k]!.sa,.string p.sq[k]!.sb,.int .i64 p.sq[k]!.d,.int .i64 p.sq[k]!.r.a.v,.slice p.sq[k]!.r.a.A p.sq[k]!.r.a.ts.length p.sq[k]!.r.a.c,.int .i64 p.sq[k]!.r.b.v,.slice p.sq[k]!.r.b.A p.sq[k]!.r.b.ts.length p.sq[k]!.r.b.c]) (enc:=SqR.cells) O ((Q.2).1.2 p g).2.1 (fun _=>rfl) B rfl) ?_
   refine xq 2 [(6,.p 6 0)] [(6,179,[.v (.string s.sa),.v (.string s.sb),.v (.int .i64 s.d),.v (.int .i64 s.r.a.v),.v (.slice s.r.a.A s.r.a.ts.length s.r.a.c),.v (.int .i64 s.r.b.v),.v (.slice s.r.b.A s.r.b.ts.length s.r.b.c)])] ?_
   refine xe (zB (zD (zC (xq 2 [(28,.v (.agg #[.string s.sa,.string s.sb,.int .i64 s.d]))] [] ?_))))
   refine xqc 79 [.agg #[.string s.sa,.string s.sb,.int .i64 s.d]] 29 (fun _:Unit=>.bool true) _ (fun w R Q=>(Zjy s.sa s.sb s.d _ Q.1 ((D.1 p g).1 s l).1).mono (fun _ _ h=>Zfj h ((n.2.1 p g).2 s l).1)) fun J=>?_
   refine xq 4 [yB 31 false,(33,.v (.agg #[.int .i64 s.r.a.v,.slice s.r.a.A s.r.a.ts.length s.r.a.c,.int .i64 s.r.b.v,.slice s.r.b.A s.r.b.ts.length s.r.b.c]))] [] ?_
   refine xqc 80 [.agg #[.int .i64 s.r.a.v,.slice s.r.a.A s.r.a.ts.length s.r.a.c,.int .i64 s.r.b.v,.slice s.r.b.A s.r.b.ts.length s.r.b.c]] 34 (fun _:Unit=>.bool true) _ (fun w R Q=>yN (ZbN m s.r _ Q.1.1 (((Q.1.2).1.2 p g).2.2 s l) ((n.2.1 p g).2 s l).2 ((D.1 p g).1 s l).2 ((E.1 p g) s l))) fun J=>?_
   refine xq 2 [yB 36 false] [] ?_
   refine xe (zB (xb (zJ (xK (zB (zC (xq 1 [yJ 37 (IntKind.i64.wrap ((k:Int)+1))] [] ?_)))))))
   rw[(show IntKind.i64.wrap ((k:Int)+1)=((k+1:Nat):Int) by rw[IntKind.wrap_i64];omega)]
   refine xq 1 [yJ 23 ((k+1:Nat):Int)] [] ?_
   refine xe ?_
   refine yP [(1,.p 1 0),yB 2 false,eS1 11 x.pA x.ps.length x.pc,yJ 12 ((x.ps.length:Nat):Int),yJ 13 (j:Int),eS1 21 p.sA p.sq.length p.sc,yJ 22 ((p.sq.length:Nat):Int),yJ 23 (((k+1):Nat):Int)] [(1,26,[.v (.int .i64 x.d),.v (.slice x.pA x.ps.length x.pc),.v (.slice x.mA x.ms.length x.mc)])] (fun w=>(Glob w∧dId.ok m w x)) (fun w Q=>⟨Q.1.1.1,Q.1.1.2⟩) ?_
   exact xE ((1+(p.sq.length-(k+1)))) (by omega) ⟨(k+1),rfl,rfl,B,rfl⟩
  have X:p.sq.length≤k:=by have:=uE u;omega
  refine xN (zH (zH (xX (xK (zB (zC (xq 1 [yJ 38 (IntKind.i64.wrap ((j:Int)+1))] [] ?_)))))))
  rw[(show IntKind.i64.wrap ((j:Int)+1)=((j+1:Nat):Int) by rw[IntKind.wrap_i64];omega)]
  refine xq 1 [yJ 13 ((j+1:Nat):Int)] [] ?_
  refine xe ?_
  refine yP [(1,.p 1 0),yB 2 false,eS1 11 x.pA x.ps.length x.pc,yJ 12 ((x.ps.length:Nat):Int),yJ 13 (((j+1):Nat):Int)] [(1,26,[.v (.int .i64 x.d),.v (.slice x.pA x.ps.length x.pc),.v (.slice x.mA x.ms.length x.mc)])] (fun w=>(Glob w∧dId.ok m w x)) (fun w Q=>⟨Q.1,Q.2⟩) ?_
  exact xE ((1+(x.ps.length-(j+1)))) (by omega) ⟨(j+1),rfl,rfl,q,rfl⟩
 have Y:x.ps.length≤j:=by have:=uE o;omega
 refine xN (zH (zH (xX (zB (zD (zC (xq 2 [eS1 40 x.mA x.ms.length x.mc] [] ?_)))))))
 refine xqc 81 [.slice x.mA x.ms.length x.mc,.func (.func 82) #[] #[]] 41 (fun _:Unit=>.bool false) _ (fun w R Q=>yN (ZcZ m x.mc x.mA x.ms _ Q.1 (Q.2).2 n.2.2 (fun y K=>D.2 y K) (fun y K=>E.2 y K) C.2.1)) fun J=>?_
 refine xq 2 [yB 2 true] [] ?_
 refine xe (zB (zI ?_))
 refine yR (.bool true) fun w' R Q=>?_
 exact⟨rfl,R⟩
def prH (p:PrR):List UInt8:=wY eK (zO ((p.sq.length:Nat):Int) :: p.zs.map zO)
def sqH (s:SqR):List UInt8:=wY aT [s.sa,s.sb,zO s.d]
def IdR.rg (x:IdR):Prop:=wA x.d∧∀ p∈x.ps,(∀ z∈p.zs,wA z)∧∀ s∈p.sq,wA s.d
theorem IdG.rg {n:Nat}{x:IdR}(h:IdG n x):x.rg:=⟨by have:=h.1;unfold wA;omega,fun p b=>⟨fun z c=>by have:=(h.2.2.2.1 p b).1 z c;unfold wA;omega,fun s d=>by have:=((h.2.2.2.1 p b).2.2.2 s d).1.2.2.2;unfold wA;omega⟩⟩
theorem ZiK (p:PrR):(prT p).length=(prH p).length+(p.sq.flatMap sqT).length:=by unfold prT prH;rw[uA]
theorem Zfm (s:SqR):(sqT s).length=(sqH s).length+((pyT s.r.a).length+(pyT s.r.b).length):=by unfold sqT sqH muT;rw[uA,uA]
theorem ZiL (m:MuR):(muT m).length=(pyT m.a).length+(pyT m.b).length:=by unfold muT;rw[uA]
theorem ZlV {l:List UInt8}{x:IdR}(h:(l ++ idT x).length≤1048576):l.length≤1048576∧(idH x).length≤1048576∧(l ++ idH x ++ x.ps.flatMap prT ++ x.ms.flatMap muT).length≤1048576:=by
 unfold idT at h
 simp only[uA] at h ⊢
 omega
section
variable {α:Type} [Inhabited α] {f:α→List UInt8} {xs:List α} {k:Nat} {a:α}
theorem ZaT (b:k<xs.length)(c:xs[k]! = a):(xs.take (k+1)).flatMap f=(xs.take k).flatMap f ++ f a:=by
 rw[vE b,tI,← getElem!_pos xs k b,c];simp
theorem ZjB {E:List UInt8}{B:Nat}(b:k<xs.length)(c:xs[k]! = a)(h:(E ++ xs.flatMap f).length≤B):(E ++ (xs.take k).flatMap f).length+(f a).length≤B:=by
 have d:xs.flatMap f=(xs.take (k+1)).flatMap f ++ (xs.drop (k+1)).flatMap f:=by rw[←tI,tT]
 rw[d,ZaT b c] at h
 simp only[uA] at h ⊢
 omega
end
theorem IRow.one {w:World}{b:Nat}{x:Int}(h:Blk 3 w b #[.int .i64 x]):IRow w (some ⟨b,0,none⟩) [x]:=fun i c=>by
 obtain rfl:i=0:=by simpa using c
 exact⟨b,0,rfl,h.lt,by rw[h.cell];rfl⟩
theorem IRow.three {w:World}{b:Nat}{x y z:Int}(h:Blk 3 w b #[.int .i64 x,.int .i64 y,.int .i64 z]):IRow w (some ⟨b,0,none⟩) [x,y,z]:=fun i c=>by
 have c:i<3:=c
 refine⟨b,0,rfl,h.lt,?_⟩
 rw[h.cell,vO]
 match i,c with
 | 0,_=>rfl
 | 1,_=>rfl
 | 2,_=>rfl
theorem ZkU {n:Nat}(c:n≤1000000):∀ i,i < [((n:Nat):Int)].length→wA (nth [((n:Nat):Int)] i):=fun i b=>by
 obtain rfl:i=0:=by simpa using b
 show wA (n:Int)
 unfold wA;omega
theorem Zh0 {v:Int}{n k:Nat}(c:wA v)(d:n≤1000000)(e:k≤1000000):∀ i,i < [v,((n:Nat):Int),((k:Nat):Int)].length→wA (nth [v,((n:Nat):Int),((k:Nat):Int)] i):=fun i b=>by
 have b:i<3:=b
 match i,b with
 | 0,_=>exact c
 | 1,_=>show wA ((n:Nat):Int);unfold wA;omega
 | 2,_=>show wA ((k:Nat):Int);unfold wA;omega
theorem ZlW (z:Int)(b:wA z)(w:World)(c:Glob w):yA 85 #[.int .i64 z] w (RetV w (.string (zO z))):=by
 refine (Tryz.strconv_Itoa z b.1 b.2 _ c.1).mono ?_
 rintro e i ⟨rfl,d,g,h⟩
 exact⟨rfl,by rw[h];exact Fr.ofBelow (Lib.below_grow _ w (uR _) d g)⟩
theorem PolyR.wr {p:PolyR}(h:p.good):wA p.v∧(∀ i,i<p.ts.length→p.ts[i]!.exps.length≤6∧∀ j,j<p.ts[i]!.exps.length→wA (nth p.ts[i]!.exps j))∧p.ts.length≤4096:=by
 obtain⟨b,c,d⟩:=wP.parts h
 exact⟨by unfold wA;omega,fun i e=>xM.range (Zbv d e) b.2,c⟩
theorem ZlX {lo g b' c:Nat}{l:List UInt8}{p:PrR}{w:World}{d:List Value}(i:WrIs lo g l w)(j:Blk 9 w b' d.toArray)(h:d.take ((1+p.zs.length)*1)=[Value.string (zO ((p.sq.length:Nat):Int))] ++ (p.zs.map zO).map Value.string)(m:l.length≤1048576)(o:(prH p).length≤1048576)(q:p.zs.length≤1000000) :
 yA 83 #[.pointer (some ⟨g,0,none⟩),.string eK,.slice (some ⟨b',0,none⟩) (1+p.zs.length) c] w fun e w'=>e=.returned (.tuple #[])∧WrIs lo g (l ++ prH p) w'∧WrFr lo g w w':=by
 have b:(zO ((p.sq.length:Nat):Int) :: p.zs.map zO).length=1+p.zs.length:=by simp;omega
 have n:SRow w (some ⟨b',0,none⟩) (zO ((p.sq.length:Nat):Int) :: p.zs.map zO):=SRow.ofStr j (by rw[b];simpa using h)
 rw[←b]
 exact Zaj lo g _ eK _ c _ w i n m (show (prH p).length≤70368744177664 by omega) (by rw[b];omega)
theorem Zgg (wl:World)(lo g m:Nat)(l:List UInt8)(x:IdR)(w:World)(o:wl.heap.size=lo)(y:lo≤g)(U:Glob wl)(L:dId.ok m wl x)(K:Ext wl w)(hW:WrIs lo g l w)(D:x.good)(T:x.sm)(Z:x.rg)(hl:(l ++ idT x).length≤1048576) :
 yA 33 #[.pointer (some ⟨g,0,none⟩),.agg #[.int .i64 x.d,.slice x.pA x.ps.length x.pc,.slice x.mA x.ms.length x.mc]] w (fun e w'=>e=.returned (.tuple #[])∧WrIs lo g (l ++ idT x) w'∧Fr (SWr lo g w) w w'):=by
 obtain⟨m0,a0⟩:∃ m,m=w.heap.size:=⟨_,rfl⟩
 have k0:=T.1
 have l0:=T.2.1
 obtain⟨n0,o0,f0⟩:=ZlV hl
 have E0:(l ++ idH x ++ x.ps.flatMap prT).length≤1048576:=by simp only[uA] at f0 ⊢;omega
 refine lW (SWr lo g w) (Φ:=fun w=>WrIs lo g (l) w) Tryz.func33 rfl (by kernel_rfl) (fun w' hf=>WrIs.fr hW hf (fun f=>f) (fun _ _ f=>f)) ?_
 refine zD (zC (xq 1 [(3,.p 3 0)] [(3,26,[.v (.int .i64 x.d),.v (.slice x.pA x.ps.length x.pc),.v (.slice x.mA x.ms.length x.mc)])] ?_))
 refine xe (zB (zD (zC (xq 9 [(10,.v (.pointer (some ⟨g,0,none⟩))),yJ 12 x.d,yJ 15 ((x.ps.length:Nat):Int),yJ 18 ((x.ms.length:Nat):Int)] [] ?_))))
 refine yD (d:=19) (fun M:{b:Nat // m0≤b}=>.slice (some ⟨M.1,0,none⟩) 3 3) (fun M zw=>Blk 3 zw M.1 #[.int .i64 x.d,.int .i64 ((x.ps.length:Nat):Int),.int .i64 ((x.ms.length:Nat):Int)]) (fun w R Q=>xF (m0:=m0) (a0 ▸ R.size) (t:=22) (e:=3) (n:=3) (sz:=1) (z:=.int .i64 0) (parts:=#[(0,Operand.tmp 12),(1,Operand.tmp 15),(2,Operand.tmp 18)]) (by kernel_rfl) (by kernel_rfl) (by kernel_rfl) (by kernel_rfl) (by kernel_rfl) (by kernel_rfl)) fun⟨b0,y0⟩=>?_
 refine xr 0 [(0,.v (.pointer (some ⟨g,0,none⟩))),(3,.p 3 0),(10,.v (.pointer (some ⟨g,0,none⟩))),eS1 19 (some ⟨b0,0,none⟩) 3 3] [(3,26,[.v (.int .i64 x.d),.v (.slice x.pA x.ps.length x.pc),.v (.slice x.mA x.ms.length x.mc)])] ?_
 refine xqc 84 [.slice (some ⟨b0,0,none⟩) 3 3] 20 (fun b:Nat=>.slice (some ⟨b,0,none⟩) 3 3) _ (fun w R Q=>yM eY (dZ (some ⟨b0,0,none⟩) 3 [x.d,((x.ps.length:Nat):Int),((x.ms.length:Nat):Int)] _ (U.ext (lT K o y R)) (IRow.three Q.2) (Zh0 Z.1 k0 l0) (by simp))) fun g0=>?_
 refine iS (d:=21) (lo:=lo) (g:=g) (l:=l) (l':=l ++ idH x) (v:=.tuple #[]) 83 [.pointer (some ⟨g,0,none⟩),.string bR,.slice (some ⟨g0,0,none⟩) 3 3] (fun _ _ h k=>WrFr.s0 h k) (by kernel_rfl) (fun w R Q=>Zaj lo g l bR (some ⟨g0,0,none⟩) 3 [zO x.d,zO ((x.ps.length:Nat):Int),zO ((x.ms.length:Nat):Int)] _ Q.1.1 (SRow.ofStr Q.2 rfl) n0 (by have:=o0;unfold idH at this;omega) (by simp)) (fun w Q=>Q.1.1) ?_
 refine xr 0 [(0,.v (.pointer (some ⟨g,0,none⟩))),(3,.p 3 0)] [(3,26,[.v (.int .i64 x.d),.v (.slice x.pA x.ps.length x.pc),.v (.slice x.mA x.ms.length x.mc)])] ?_
 refine xe (zB (zD (zD (zC (xq 4 [eS1 23 x.pA x.ps.length x.pc,yJ 24 ((x.ps.length:Nat):Int),yJ 25 0] [] ?_)))))
 refine xe (zB (zN ?_))
 refine yC [(0,.v (.pointer (some ⟨g,0,none⟩))),(3,.p 3 0),eS1 23 x.pA x.ps.length x.pc,yJ 24 ((x.ps.length:Nat):Int),yJ 25 ((0:Nat):Int)] [(3,26,[.v (.int .i64 x.d),.v (.slice x.pA x.ps.length x.pc),.v (.slice x.mA x.ms.length x.mc)])] (fun w=>WrIs lo g (l ++ idH x ++ (x.ps.take 0).flatMap prT) w) (fun w Q=>(by rw[qA,qF,tP];exact Q)) ?_
 refine xS (fun V W X=>∃ (j:Nat),W=ofL [(0,.v (.pointer (some ⟨g,0,none⟩))),(3,.p 3 0),eS1 23 x.pA x.ps.length x.pc,yJ 24 ((x.ps.length:Nat):Int),yJ 25 (j:Int)] [(3,26,[.v (.int .i64 x.d),.v (.slice x.pA x.ps.length x.pc),.v (.slice x.mA x.ms.length x.mc)])]∧X=(fun w=>WrIs lo g (l ++ idH x ++ (x.ps.take j).flatMap prT) w)∧(j≤x.ps.length)∧V=(1+(x.ps.length-j))) ((1+(x.ps.length-0))) ⟨0,rfl,rfl,(uM _),rfl⟩ ?_
 rintro V W X ⟨j,rfl,rfl,hj,rfl⟩
 refine zD (zC (xq 1 [yB 26 (decide ((j:Int)<((x.ps.length:Nat):Int)))] [] ?_))
 refine xe (zB (zD ?_))
 refine yQ ((decide ((j:Int)<((x.ps.length:Nat):Int)))) (fun N=>?_) fun N=>?_
 ·have H:j<x.ps.length:=by have:=uF N;omega
  refine zJ (zB (zD (zN (zD (zC ?_)))))
  obtain⟨bp,hA⟩:=OwnD.base L.1.1 (uN (uM _) H)
  obtain⟨p,hp⟩:∃ z,x.ps[j]! = z:=⟨_,rfl⟩
  have C:p∈x.ps:=kJ H hp
  have p0:=ZjB (f:=prT) H hp (show (l ++ idH x ++ x.ps.flatMap prT).length≤1048576 by omega)
  have i0:=(T.2.2.1 p C).1
  have q0:=(T.2.2.1 p C).2.1
  refine xqk 27 (.pointer (some ⟨bp,0+j*2,none⟩)) (fun w R Q=>xD hA (t:=23) (e:=114) (sz:=2) (x:=.tmp 23) (ix:=.tmp 25) (len:=x.ps.length) (cap:=x.pc) (i:=j) H) ?_
  refine xqk 28 (.agg #[.slice p.zA p.zs.length p.zc,.slice p.sA p.sq.length p.sc]) (fun w R Q=>by rw[←hp];exact lV (t:=114) (x:=.tmp 27) (k:=2) (f:=0) (j:=j) (part:=[.slice x.ps[j]!.zA x.ps[j]!.zs.length x.ps[j]!.zc,.slice x.ps[j]!.sA x.ps[j]!.sq.length x.ps[j]!.sc]) (enc:=PrR.cells) hA (Dp.ext L (lT K o y R)).1.1 (fun _=>rfl) H rfl) ?_
  refine xq 2 [(5,.p 5 0)] [(5,114,[.v (.slice p.zA p.zs.length p.zc),.v (.slice p.sA p.sq.length p.sc)])] ?_
  refine xe (zB (zD ?_))
  refine Zal 8 10 ?_
  refine xqg 4 [(29,.v (.pointer (some ⟨g,0,none⟩))),yJ 32 ((p.sq.length:Nat):Int)] ?_
  refine gC 33 (fun M:{b:Nat // m0≤b}=>.slice (some ⟨M.1,0,none⟩) 1 1) (fun M zw=>Blk 3 zw M.1 #[.int .i64 ((p.sq.length:Nat):Int)]) (by kernel_rfl) (by kernel_rfl) (by kernel_rfl) (by kernel_rfl) (by kernel_rfl) (by kernel_rfl) (by kernel_rfl) (fun w R Q=>xF (m0:=m0) (a0 ▸ R.size) (t:=22) (e:=3) (n:=1) (sz:=1) (z:=.int .i64 0) (parts:=#[(0,Operand.tmp 32)]) (by kernel_rfl) (by kernel_rfl) (by kernel_rfl) (by kernel_rfl) (by kernel_rfl) (by kernel_rfl)) fun⟨c0,z0⟩=>?_
  refine xf 0 [(0,.v (.pointer (some ⟨g,0,none⟩))),(3,.p 3 0),(5,.p 5 0),eS1 23 x.pA x.ps.length x.pc,yJ 24 ((x.ps.length:Nat):Int),yJ 25 (j:Int),(29,.v (.pointer (some ⟨g,0,none⟩))),eS1 33 (some ⟨c0,0,none⟩) 1 1] [(5,114,[.v (.slice p.zA p.zs.length p.zc),.v (.slice p.sA p.sq.length p.sc)]),(3,26,[.v (.int .i64 x.d),.v (.slice x.pA x.ps.length x.pc),.v (.slice x.mA x.ms.length x.mc)])] ?_
  refine xqd 84 [.slice (some ⟨c0,0,none⟩) 1 1] 34 (fun b:Nat=>.slice (some ⟨b,0,none⟩) 1 1) _ (fun w R Q=>yM eY (dZ (some ⟨c0,0,none⟩) 1 [((p.sq.length:Nat):Int)] _ (U.ext (lT K o y R)) (IRow.one Q.2) (ZkU q0) (by simp))) fun d0=>?_
  refine xqg 2 [eS1 36 p.zA p.zs.length p.zc] ?_
  refine xqd 84 [.slice p.zA p.zs.length p.zc] 37 (fun b:Nat=>.slice (some ⟨b,0,none⟩) p.zs.length p.zs.length) _ (fun w R Q=>yM eY (dZ p.zA p.zc p.zs _ (U.ext (lT K o y R)) (OwnD.irow (((Dp.ext L (lT K o y R))).1.2 p C).1) (fun i hi=>(Z.2 p C).1 _ (Zba hi)) i0)) fun r0=>?_
  haveI:=AppG.some (lo:=0) (b:=d0) (n:=1) (m:=p.zs.length) (k:=1) (cur:=[Value.string (zO ((p.sq.length:Nat):Int))]) (news:=((p.zs.map zO).map Value.string)) (by simp) rfl (uM _) (by simp only[maxLen];omega)
  refine gC 38 (fun q:{q:Nat × Nat × List Value // AppG 0 d0 1 p.zs.length 1 [Value.string (zO ((p.sq.length:Nat):Int))] ((p.zs.map zO).map Value.string) q}=>.slice (some ⟨q.1.1,0,none⟩) (1+p.zs.length) q.1.2.1) (fun q w=>p.zs.length=0∨Blk 9 w q.1.1 q.1.2.2.toArray) (by kernel_rfl) (by kernel_rfl) (by kernel_rfl) (by kernel_rfl) (by kernel_rfl) (by kernel_rfl) (by kernel_rfl) (fun w R Q=>dU (z:=.string ⟨#[]⟩) (bytes:=16) (t:=41) (s0:=.tmp 34) (x:=.tmp 37) d0 r0 p.zs.length Q.1.2 Q.2 (by simp) (by decide) rfl rfl (uM _) (uM _) (fun u hu=>by obtain⟨q,_,rfl⟩:=rH.1 hu;rfl) (by simp only[maxLen];omega) (by omega)) fun qq=>?_
  obtain⟨⟨b',Y,A0⟩,_,t0,B0,C0,j0,u0⟩:=qq
  refine xf 0 [(0,.v (.pointer (some ⟨g,0,none⟩))),(3,.p 3 0),(5,.p 5 0),eS1 23 x.pA x.ps.length x.pc,yJ 24 ((x.ps.length:Nat):Int),yJ 25 (j:Int),(29,.v (.pointer (some ⟨g,0,none⟩))),eS1 38 (some ⟨b',0,none⟩) (1+p.zs.length) Y] [(5,114,[.v (.slice p.zA p.zs.length p.zc),.v (.slice p.sA p.sq.length p.sc)]),(3,26,[.v (.int .i64 x.d),.v (.slice x.pA x.ps.length x.pc),.v (.slice x.mA x.ms.length x.mc)])] ?_
  refine xz ?_
  refine iS (d:=39) (lo:=lo) (g:=g) (l:=l ++ idH x ++ (x.ps.take j).flatMap prT) (l':=l ++ idH x ++ (x.ps.take j).flatMap prT ++ prH p) (v:=.tuple #[]) 83 [.pointer (some ⟨g,0,none⟩),.string eK,.slice (some ⟨b',0,none⟩) (1+p.zs.length) Y] (fun _ _ h k=>WrFr.s0 h k) (by kernel_rfl) (fun w R Q=>ZlX (p:=p) Q.1.1.1.1 (Zfa u0 Q.2 Q.1.1.2) j0 (by omega) (by have h4:=ZiK p;omega) i0) (fun w Q=>Q.1.1.1.1) ?_
  refine xr 0 [(0,.v (.pointer (some ⟨g,0,none⟩))),(3,.p 3 0),(5,.p 5 0),eS1 23 x.pA x.ps.length x.pc,yJ 24 ((x.ps.length:Nat):Int),yJ 25 (j:Int)] [(5,114,[.v (.slice p.zA p.zs.length p.zc),.v (.slice p.sA p.sq.length p.sc)]),(3,26,[.v (.int .i64 x.d),.v (.slice x.pA x.ps.length x.pc),.v (.slice x.mA x.ms.length x.mc)])] ?_
  refine xe (zB (zD (zC (xq 4 [eS1 41 p.sA p.sq.length p.sc,yJ 42 ((p.sq.length:Nat):Int),yJ 43 0] [] ?_))))
  refine xe (zB (zN ?_))
  refine yC [(0,.v (.pointer (some ⟨g,0,none⟩))),(3,.p 3 0),eS1 23 x.pA x.ps.length x.pc,yJ 24 ((x.ps.length:Nat):Int),yJ 25 (j:Int),eS1 41 p.sA p.sq.length p.sc,yJ 42 ((p.sq.length:Nat):Int),yJ 43 ((0:Nat):Int)] [(3,26,[.v (.int .i64 x.d),.v (.slice x.pA x.ps.length x.pc),.v (.slice x.mA x.ms.length x.mc)])] (fun w=>WrIs lo g (l ++ idH x ++ (x.ps.take j).flatMap prT ++ prH p ++ (p.sq.take 0).flatMap sqT) w) (fun w Q=>(by rw[qA,qF,tP];exact Q)) ?_
  refine xS (fun V W X=>∃ (k:Nat),W=ofL [(0,.v (.pointer (some ⟨g,0,none⟩))),(3,.p 3 0),eS1 23 x.pA x.ps.length x.pc,yJ 24 ((x.ps.length:Nat):Int),yJ 25 (j:Int),eS1 41 p.sA p.sq.length p.sc,yJ 42 ((p.sq.length:Nat):Int),yJ 43 (k:Int)] [(3,26,[.v (.int .i64 x.d),.v (.slice x.pA x.ps.length x.pc),.v (.slice x.mA x.ms.length x.mc)])]∧X=(fun w=>WrIs lo g (l ++ idH x ++ (x.ps.take j).flatMap prT ++ prH p ++ (p.sq.take k).flatMap sqT) w)∧(k≤p.sq.length)∧V=(1+(p.sq.length-k))) ((1+(p.sq.length-0))) ⟨0,rfl,rfl,(uM _),rfl⟩ ?_
  rintro V W X ⟨k,rfl,rfl,hk,rfl⟩
  refine zD (zC (xq 1 [yB 44 (decide ((k:Int)<((p.sq.length:Nat):Int)))] [] ?_))
  refine xe (zB (zD ?_))
  refine yQ ((decide ((k:Int)<((p.sq.length:Nat):Int)))) (fun O=>?_) fun O=>?_
  ·have I:k<p.sq.length:=by have:=uF O;omega
   refine zJ (zB (zD (zN (zD (zC ?_)))))
   obtain⟨bq,hB⟩:=OwnD.base (L.1.2 p C).2.1 (uN (uM _) I)
   obtain⟨s,hs⟩:∃ z,p.sq[k]! = z:=⟨_,rfl⟩
   have F:s∈p.sq:=kJ I hs
   have P:=ZjB (f:=sqT) (B:=1048576) (E:=l ++ idH x ++ (x.ps.take j).flatMap prT ++ prH p) I hs (by have h4:=ZiK p;simp only[uA] at p0 ⊢;omega)
   refine xqk 45 (.pointer (some ⟨bq,0+k*7,none⟩)) (fun w R Q=>xD hB (t:=112) (e:=179) (sz:=7) (x:=.tmp 41) (ix:=.tmp 43) (len:=p.sq.length) (cap:=p.sc) (i:=k) I) ?_
   refine xqk 46 (.agg #[.string s.sa,.string s.sb,.int .i64 s.d,.int .i64 s.r.a.v,.slice s.r.a.A s.r.a.ts.length s.r.a.c,.int .i64 s.r.b.v,.slice s.r.b.A s.r.b.ts.length s.r.b.c]) (fun w R Q=>by rw[←hs];exact lV (t:=179) (x:=.tmp 45) (k:=7) (f:=0) (j:=k) (part:=[.string p.sq[k]!.sa,.string p.sq[k]!.sb,.int .i64 p.sq[k]!.d,.int .i64 p.sq[k]!.r.a.v,.slice p.sq[k]!.r.a.A p.sq[k]!.r.a.ts.length p.sq[k]!.r.a.c,.int .i64 p.sq[k]!.r.b.v,.slice p.sq[k]!.r.b.A p.sq[k]!.r.b.ts.length p.sq[k]!.r.b.c]) (enc:=SqR.cells) hB ((Dp.ext L (lT K o y R)).1.2 p C).2.1 (fun _=>rfl) I rfl) ?_
   refine xq 2 [(7,.p 7 0)] [(7,179,[.v (.string s.sa),.v (.string s.sb),.v (.int .i64 s.d),.v (.int .i64 s.r.a.v),.v (.slice s.r.a.A s.r.a.ts.length s.r.a.c),.v (.int .i64 s.r.b.v),.v (.slice s.r.b.A s.r.b.ts.length s.r.b.c)])] ?_
   refine xe (zB (zD ?_))
   refine Zal 8 12 ?_
   refine xqg 10 [(47,.v (.pointer (some ⟨g,0,none⟩))),yT 50 s.sa,yT 53 s.sb,yJ 56 s.d] ?_
   refine xqd 85 [.int .i64 s.d] 57 (fun _:Unit=>.string (zO s.d)) _ (fun w R Q=>yN (ZlW s.d ((Z.2 p C).2 s F) _ (U.ext (lT K o y R)))) fun xx=>?_
   refine gC 58 (fun M:{b:Nat // m0≤b}=>.slice (some ⟨M.1,0,none⟩) 3 3) (fun M zw=>Blk 9 zw M.1 #[.string s.sa,.string s.sb,.string (zO s.d)]) (by kernel_rfl) (by kernel_rfl) (by kernel_rfl) (by kernel_rfl) (by kernel_rfl) (by kernel_rfl) (by kernel_rfl) (fun w R Q=>xF (m0:=m0) (a0 ▸ R.size) (t:=41) (e:=9) (n:=3) (sz:=1) (z:=.string ⟨#[]⟩) (parts:=#[(0,Operand.tmp 50),(1,Operand.tmp 53),(2,Operand.tmp 57)]) (by kernel_rfl) (by kernel_rfl) (by kernel_rfl) (by kernel_rfl) (by kernel_rfl) (by kernel_rfl)) fun⟨e0,D0⟩=>?_
   refine xf 0 [(0,.v (.pointer (some ⟨g,0,none⟩))),(3,.p 3 0),(7,.p 7 0),eS1 23 x.pA x.ps.length x.pc,yJ 24 ((x.ps.length:Nat):Int),yJ 25 (j:Int),eS1 41 p.sA p.sq.length p.sc,yJ 42 ((p.sq.length:Nat):Int),yJ 43 (k:Int),(47,.v (.pointer (some ⟨g,0,none⟩))),eS1 58 (some ⟨e0,0,none⟩) 3 3] [(7,179,[.v (.string s.sa),.v (.string s.sb),.v (.int .i64 s.d),.v (.int .i64 s.r.a.v),.v (.slice s.r.a.A s.r.a.ts.length s.r.a.c),.v (.int .i64 s.r.b.v),.v (.slice s.r.b.A s.r.b.ts.length s.r.b.c)]),(3,26,[.v (.int .i64 x.d),.v (.slice x.pA x.ps.length x.pc),.v (.slice x.mA x.ms.length x.mc)])] ?_
   refine xz ?_
   refine iS (d:=59) (lo:=lo) (g:=g) (l:=l ++ idH x ++ (x.ps.take j).flatMap prT ++ prH p ++ (p.sq.take k).flatMap sqT) (l':=l ++ idH x ++ (x.ps.take j).flatMap prT ++ prH p ++ (p.sq.take k).flatMap sqT ++ sqH s) (v:=.tuple #[]) 83 [.pointer (some ⟨g,0,none⟩),.string aT,.slice (some ⟨e0,0,none⟩) 3 3] (fun _ _ h k=>WrFr.s0 h k) (by kernel_rfl) (fun w R Q=>Zaj lo g _ aT (some ⟨e0,0,none⟩) 3 [s.sa,s.sb,zO s.d] _ Q.1.1 (SRow.ofStr (cur:=[.string s.sa,.string s.sb,.string (zO s.d)]) Q.2 rfl) (by omega) (by have:=Zfm s;unfold sqH at this;omega) (by simp)) (fun w Q=>Q.1.1) ?_
   refine xr 0 [(0,.v (.pointer (some ⟨g,0,none⟩))),(3,.p 3 0),(7,.p 7 0),eS1 23 x.pA x.ps.length x.pc,yJ 24 ((x.ps.length:Nat):Int),yJ 25 (j:Int),eS1 41 p.sA p.sq.length p.sc,yJ 42 ((p.sq.length:Nat):Int),yJ 43 (k:Int)] [(7,179,[.v (.string s.sa),.v (.string s.sb),.v (.int .i64 s.d),.v (.int .i64 s.r.a.v),.v (.slice s.r.a.A s.r.a.ts.length s.r.a.c),.v (.int .i64 s.r.b.v),.v (.slice s.r.b.A s.r.b.ts.length s.r.b.c)]),(3,26,[.v (.int .i64 x.d),.v (.slice x.pA x.ps.length x.pc),.v (.slice x.mA x.ms.length x.mc)])] ?_
   refine xe (zB (zD (zC (xq 4 [(60,.v (.pointer (some ⟨g,0,none⟩))),(63,.v (.agg #[.int .i64 s.r.a.v,.slice s.r.a.A s.r.a.ts.length s.r.a.c]))] [] ?_))))
   refine iS (d:=64) (lo:=lo) (g:=g) (l:=l ++ idH x ++ (x.ps.take j).flatMap prT ++ prH p ++ (p.sq.take k).flatMap sqT ++ sqH s) (l':=l ++ idH x ++ (x.ps.take j).flatMap prT ++ prH p ++ (p.sq.take k).flatMap sqT ++ sqH s ++ pyT s.r.a) (v:=.tuple #[]) 86 [.pointer (some ⟨g,0,none⟩),.agg #[.int .i64 s.r.a.v,.slice s.r.a.A s.r.a.ts.length s.r.a.c]] (fun _ _ h k=>WrFr.s0 h k) (by kernel_rfl) (fun w R Q=>(bN wl lo g _ s.r.a.A s.r.a.c s.r.a.ts s.r.a.v _ o y U (kQ.trow ((L.1.2 p C).2.2 s F).1) (lT K o y R) Q (PolyR.wr ((D.2.1 p C).2 s F).2.1).1 (PolyR.wr ((D.2.1 p C).2 s F).2.1).2.1 (PolyR.wr ((D.2.1 p C).2 s F).2.1).2.2 (by show (l ++ idH x ++ (x.ps.take j).flatMap prT ++ prH p ++ (p.sq.take k).flatMap sqT ++ sqH s ++ pyT s.r.a).length≤1048576;have h4:=Zfm s;have h5:=P;simp only[uA] at h5 ⊢;omega)).mono (fun _ _ h=>h)) (fun w Q=>Q) ?_
   refine xr 0 [(0,.v (.pointer (some ⟨g,0,none⟩))),(3,.p 3 0),(7,.p 7 0),eS1 23 x.pA x.ps.length x.pc,yJ 24 ((x.ps.length:Nat):Int),yJ 25 (j:Int),eS1 41 p.sA p.sq.length p.sc,yJ 42 ((p.sq.length:Nat):Int),yJ 43 (k:Int)] [(7,179,[.v (.string s.sa),.v (.string s.sb),.v (.int .i64 s.d),.v (.int .i64 s.r.a.v),.v (.slice s.r.a.A s.r.a.ts.length s.r.a.c),.v (.int .i64 s.r.b.v),.v (.slice s.r.b.A s.r.b.ts.length s.r.b.c)]),(3,26,[.v (.int .i64 x.d),.v (.slice x.pA x.ps.length x.pc),.v (.slice x.mA x.ms.length x.mc)])] ?_
   refine xe (zB (zC (xq 4 [(65,.v (.pointer (some ⟨g,0,none⟩))),(68,.v (.agg #[.int .i64 s.r.b.v,.slice s.r.b.A s.r.b.ts.length s.r.b.c]))] [] ?_)))
   refine iS (d:=69) (lo:=lo) (g:=g) (l:=l ++ idH x ++ (x.ps.take j).flatMap prT ++ prH p ++ (p.sq.take k).flatMap sqT ++ sqH s ++ pyT s.r.a) (l':=l ++ idH x ++ (x.ps.take j).flatMap prT ++ prH p ++ (p.sq.take k).flatMap sqT ++ sqH s ++ pyT s.r.a ++ pyT s.r.b) (v:=.tuple #[]) 86 [.pointer (some ⟨g,0,none⟩),.agg #[.int .i64 s.r.b.v,.slice s.r.b.A s.r.b.ts.length s.r.b.c]] (fun _ _ h k=>WrFr.s0 h k) (by kernel_rfl) (fun w R Q=>(bN wl lo g _ s.r.b.A s.r.b.c s.r.b.ts s.r.b.v _ o y U (kQ.trow ((L.1.2 p C).2.2 s F).2) (lT K o y R) Q (PolyR.wr ((D.2.1 p C).2 s F).2.2).1 (PolyR.wr ((D.2.1 p C).2 s F).2.2).2.1 (PolyR.wr ((D.2.1 p C).2 s F).2.2).2.2 (by show (l ++ idH x ++ (x.ps.take j).flatMap prT ++ prH p ++ (p.sq.take k).flatMap sqT ++ sqH s ++ pyT s.r.a ++ pyT s.r.b).length≤1048576;have h4:=Zfm s;have h5:=P;simp only[uA] at h5 ⊢;omega)).mono (fun _ _ h=>h)) (fun w Q=>Q) ?_
   refine xr 0 [(0,.v (.pointer (some ⟨g,0,none⟩))),(3,.p 3 0),eS1 23 x.pA x.ps.length x.pc,yJ 24 ((x.ps.length:Nat):Int),yJ 25 (j:Int),eS1 41 p.sA p.sq.length p.sc,yJ 42 ((p.sq.length:Nat):Int),yJ 43 (k:Int)] [(3,26,[.v (.int .i64 x.d),.v (.slice x.pA x.ps.length x.pc),.v (.slice x.mA x.ms.length x.mc)])] ?_
   refine xe (xK (zB (zC (xq 1 [yJ 70 (IntKind.i64.wrap ((k:Int)+1))] [] ?_))))
   rw[(show IntKind.i64.wrap ((k:Int)+1)=((k+1:Nat):Int) by rw[IntKind.wrap_i64];omega)]
   refine xq 1 [yJ 43 ((k+1:Nat):Int)] [] ?_
   refine xe ?_
   refine yP [(0,.v (.pointer (some ⟨g,0,none⟩))),(3,.p 3 0),eS1 23 x.pA x.ps.length x.pc,yJ 24 ((x.ps.length:Nat):Int),yJ 25 (j:Int),eS1 41 p.sA p.sq.length p.sc,yJ 42 ((p.sq.length:Nat):Int),yJ 43 (((k+1):Nat):Int)] [(3,26,[.v (.int .i64 x.d),.v (.slice x.pA x.ps.length x.pc),.v (.slice x.mA x.ms.length x.mc)])] (fun w=>WrIs lo g (l ++ idH x ++ (x.ps.take j).flatMap prT ++ prH p ++ (p.sq.take (k+1)).flatMap sqT) w) (fun w Q=>(by have h:=Q;rw[ZaT I hs];simpa [sqT,sqH,muT,uO] using h)) ?_
   exact xE ((1+(p.sq.length-(k+1)))) (by omega) ⟨(k+1),rfl,rfl,I,rfl⟩
  have v0:p.sq.length≤k:=by have:=uE O;omega
  refine xN (zH (zH (xX (xK (zB (zC (xq 1 [yJ 71 (IntKind.i64.wrap ((j:Int)+1))] [] ?_)))))))
  rw[(show IntKind.i64.wrap ((j:Int)+1)=((j+1:Nat):Int) by rw[IntKind.wrap_i64];omega)]
  refine xq 1 [yJ 25 ((j+1:Nat):Int)] [] ?_
  refine xe ?_
  refine yP [(0,.v (.pointer (some ⟨g,0,none⟩))),(3,.p 3 0),eS1 23 x.pA x.ps.length x.pc,yJ 24 ((x.ps.length:Nat):Int),yJ 25 (((j+1):Nat):Int)] [(3,26,[.v (.int .i64 x.d),.v (.slice x.pA x.ps.length x.pc),.v (.slice x.mA x.ms.length x.mc)])] (fun w=>WrIs lo g (l ++ idH x ++ (x.ps.take (j+1)).flatMap prT) w) (fun w Q=>(by have h:=Q;rw[ZaT H hp];rw[uB v0] at h;simpa [prT,prH,uO] using h)) ?_
  exact xE ((1+(x.ps.length-(j+1)))) (by omega) ⟨(j+1),rfl,rfl,H,rfl⟩
 have w0:x.ps.length≤j:=by have:=uE N;omega
 refine xN (zH (zH (xX (zB (zD (zC (xq 4 [eS1 73 x.mA x.ms.length x.mc,yJ 74 ((x.ms.length:Nat):Int),yJ 75 0] [] ?_)))))))
 refine xe (zB (zN ?_))
 refine yC [(0,.v (.pointer (some ⟨g,0,none⟩))),eS1 73 x.mA x.ms.length x.mc,yJ 74 ((x.ms.length:Nat):Int),yJ 75 ((0:Nat):Int)] [] (fun w=>WrIs lo g (l ++ idH x ++ x.ps.flatMap prT ++ (x.ms.take 0).flatMap muT) w) (fun w Q=>(by have h:=Q;rw[uB w0] at h;rw[qA,qF,tP];exact h)) ?_
 refine xS (fun V W X=>∃ (k:Nat),W=ofL [(0,.v (.pointer (some ⟨g,0,none⟩))),eS1 73 x.mA x.ms.length x.mc,yJ 74 ((x.ms.length:Nat):Int),yJ 75 (k:Int)] []∧X=(fun w=>WrIs lo g (l ++ idH x ++ x.ps.flatMap prT ++ (x.ms.take k).flatMap muT) w)∧(k≤x.ms.length)∧V=(1+(x.ms.length-k))) ((1+(x.ms.length-0))) ⟨0,rfl,rfl,(uM _),rfl⟩ ?_
 rintro V W X ⟨k,rfl,rfl,hk,rfl⟩
 refine zD (zC (xq 1 [yB 76 (decide ((k:Int)<((x.ms.length:Nat):Int)))] [] ?_))
 refine xe (zB (zD ?_))
 refine yQ ((decide ((k:Int)<((x.ms.length:Nat):Int)))) (fun S=>?_) fun S=>?_
 ·have J:k<x.ms.length:=by have:=uF S;omega
  refine zJ (zB (zD (zN (zD (zC ?_)))))
  obtain⟨bu,hA⟩:=OwnD.base L.2.1 (uN (uM _) J)
  obtain⟨u,hu⟩:∃ z,x.ms[k]! = z:=⟨_,rfl⟩
  have G:u∈x.ms:=kJ J hu
  have P:=ZjB (f:=muT) (E:=l ++ idH x ++ x.ps.flatMap prT) J hu f0
  refine xqk 77 (.pointer (some ⟨bu,0+k*4,none⟩)) (fun w R Q=>xD hA (t:=24) (e:=118) (sz:=4) (x:=.tmp 73) (ix:=.tmp 75) (len:=x.ms.length) (cap:=x.mc) (i:=k) J) ?_
  refine xqk 78 (.agg #[.int .i64 u.a.v,.slice u.a.A u.a.ts.length u.a.c,.int .i64 u.b.v,.slice u.b.A u.b.ts.length u.b.c]) (fun w R Q=>by rw[←hu];exact lV (t:=118) (x:=.tmp 77) (k:=4) (f:=0) (j:=k) (part:=[.int .i64 x.ms[k]!.a.v,.slice x.ms[k]!.a.A x.ms[k]!.a.ts.length x.ms[k]!.a.c,.int .i64 x.ms[k]!.b.v,.slice x.ms[k]!.b.A x.ms[k]!.b.ts.length x.ms[k]!.b.c]) (enc:=MuR.cells) hA (Dp.ext L (lT K o y R)).2.1 (fun _=>rfl) J rfl) ?_
  refine xq 2 [(9,.p 9 0)] [(9,118,[.v (.int .i64 u.a.v),.v (.slice u.a.A u.a.ts.length u.a.c),.v (.int .i64 u.b.v),.v (.slice u.b.A u.b.ts.length u.b.c)])] ?_
  refine xe (zB (zD (zC (xq 3 [(79,.v (.pointer (some ⟨g,0,none⟩))),(81,.v (.agg #[.int .i64 u.a.v,.slice u.a.A u.a.ts.length u.a.c]))] [] ?_))))
  refine iS (d:=82) (lo:=lo) (g:=g) (l:=l ++ idH x ++ x.ps.flatMap prT ++ (x.ms.take k).flatMap muT) (l':=l ++ idH x ++ x.ps.flatMap prT ++ (x.ms.take k).flatMap muT ++ pyT u.a) (v:=.tuple #[]) 86 [.pointer (some ⟨g,0,none⟩),.agg #[.int .i64 u.a.v,.slice u.a.A u.a.ts.length u.a.c]] (fun _ _ h k=>WrFr.s0 h k) (by kernel_rfl) (fun w R Q=>(bN wl lo g _ u.a.A u.a.c u.a.ts u.a.v _ o y U (kQ.trow (L.2.2 u G).1) (lT K o y R) Q (PolyR.wr (D.2.2 u G).1).1 (PolyR.wr (D.2.2 u G).1).2.1 (PolyR.wr (D.2.2 u G).1).2.2 (by show (l ++ idH x ++ x.ps.flatMap prT ++ (x.ms.take k).flatMap muT ++ pyT u.a).length≤1048576;have h4:=ZiL u;have h5:=P;simp only[uA] at h5 ⊢;omega)).mono (fun _ _ h=>h)) (fun w Q=>Q) ?_
  refine xr 0 [(0,.v (.pointer (some ⟨g,0,none⟩))),(9,.p 9 0),eS1 73 x.mA x.ms.length x.mc,yJ 74 ((x.ms.length:Nat):Int),yJ 75 (k:Int)] [(9,118,[.v (.int .i64 u.a.v),.v (.slice u.a.A u.a.ts.length u.a.c),.v (.int .i64 u.b.v),.v (.slice u.b.A u.b.ts.length u.b.c)])] ?_
  refine xe (zB (zC (xq 3 [(83,.v (.pointer (some ⟨g,0,none⟩))),(85,.v (.agg #[.int .i64 u.b.v,.slice u.b.A u.b.ts.length u.b.c]))] [] ?_)))
  refine iS (d:=86) (lo:=lo) (g:=g) (l:=l ++ idH x ++ x.ps.flatMap prT ++ (x.ms.take k).flatMap muT ++ pyT u.a) (l':=l ++ idH x ++ x.ps.flatMap prT ++ (x.ms.take k).flatMap muT ++ pyT u.a ++ pyT u.b) (v:=.tuple #[]) 86 [.pointer (some ⟨g,0,none⟩),.agg #[.int .i64 u.b.v,.slice u.b.A u.b.ts.length u.b.c]] (fun _ _ h k=>WrFr.s0 h k) (by kernel_rfl) (fun w R Q=>(bN wl lo g _ u.b.A u.b.c u.b.ts u.b.v _ o y U (kQ.trow (L.2.2 u G).2) (lT K o y R) Q (PolyR.wr (D.2.2 u G).2).1 (PolyR.wr (D.2.2 u G).2).2.1 (PolyR.wr (D.2.2 u G).2).2.2 (by show (l ++ idH x ++ x.ps.flatMap prT ++ (x.ms.take k).flatMap muT ++ pyT u.a ++ pyT u.b).length≤1048576;have h4:=ZiL u;have h5:=P;simp only[uA] at h5 ⊢;omega)).mono (fun _ _ h=>h)) (fun w Q=>Q) ?_
  refine xr 0 [(0,.v (.pointer (some ⟨g,0,none⟩))),eS1 73 x.mA x.ms.length x.mc,yJ 74 ((x.ms.length:Nat):Int),yJ 75 (k:Int)] [] ?_
  refine xe (xK (zB (zC (xq 1 [yJ 87 (IntKind.i64.wrap ((k:Int)+1))] [] ?_))))
  rw[(show IntKind.i64.wrap ((k:Int)+1)=((k+1:Nat):Int) by rw[IntKind.wrap_i64];omega)]
  refine xq 1 [yJ 75 ((k+1:Nat):Int)] [] ?_
  refine xe ?_
  refine yP [(0,.v (.pointer (some ⟨g,0,none⟩))),eS1 73 x.mA x.ms.length x.mc,yJ 74 ((x.ms.length:Nat):Int),yJ 75 (((k+1):Nat):Int)] [] (fun w=>WrIs lo g (l ++ idH x ++ x.ps.flatMap prT ++ (x.ms.take (k+1)).flatMap muT) w) (fun w Q=>(by have h:=Q;rw[ZaT J hu];simpa [muT,uO] using h)) ?_
  exact xE ((1+(x.ms.length-(k+1)))) (by omega) ⟨(k+1),rfl,rfl,J,rfl⟩
 have x0:x.ms.length≤k:=by have:=uE S;omega
 refine xN (zH (zH (xX ?_)))
 refine Zic (v:=.tuple #[]) (by kernel_rfl) fun w' R Q=>?_
 exact⟨rfl,by have h:=Q;rw[uB x0] at h;unfold idT;simpa [uO] using h,R⟩
theorem ZnV (x:IdR):idT x≠[]:=by
 unfold idT idH wY
 simp
theorem ZbO (m:Nat)(x:IdR)(w:World)(s:Glob w)(t:dId.ok m w x)(e:x.good)(i:x.sm)(o:x.sc)(q:x.sx)(r:x.rg)(u:(idT x).length≤1048576) :
 yA 10 #[.agg #[.int .i64 x.d,.slice x.pA x.ps.length x.pc,.slice x.mA x.ms.length x.mc]] w (RetV w (.tuple #[.string ⟨(idT x).toArray⟩,.int .i64 0])):=by
 refine xB (Φ:=fun w=>(Glob w∧dId.ok m w x)) Tryz.func10 rfl (by kernel_rfl) (fun w' n=>⟨s.ext n,Dp.ext t n⟩) ?_
 refine zD (zC (xq 3 [(1,.p 1 0),yT 2 ⟨#[]⟩,yJ 3 0] [(1,26,[.v (.int .i64 x.d),.v (.slice x.pA x.ps.length x.pc),.v (.slice x.mA x.ms.length x.mc)])] ?_))
 refine xe (zB (zD (zD (zC (xq 1 [(5,.v (.agg #[.int .i64 x.d,.slice x.pA x.ps.length x.pc,.slice x.mA x.ms.length x.mc]))] [] ?_)))))
 refine xqc 32 [.agg #[.int .i64 x.d,.slice x.pA x.ps.length x.pc,.slice x.mA x.ms.length x.mc]] 6 (fun _:Unit=>.bool true) _ (fun w R Q=>yN (Zc0 m x _ Q.1 Q.2 e i o q)) fun B=>?_
 refine xq 1 [yB 7 false] [] ?_
 refine xe (zB (xb (zJ (zB (zD (zC (xq 3 [(4,.p 9 0)] [(9,103,[.v (.pointer none),.v (.slice none 0 0)])] ?_)))))))
 refine xe (zB (zD ?_))
 refine SXc.freezeN 9 103 [.pointer none,.slice none 0 0] (fun a=>[(1,.p 1 0),yT 2 ⟨#[]⟩,yJ 3 0,(4,.v (.pointer (some ⟨a,0,none⟩)))]) [(1,26,[.v (.int .i64 x.d),.v (.slice x.pA x.ps.length x.pc),.v (.slice x.mA x.ms.length x.mc)])] (by kernel_rfl) (fun _=>by kernel_rfl) (by kernel_rfl) (by kernel_rfl) (fun _=>by kernel_rfl) fun a j=>?_
 have b:w.heap.size≤a:=j.resolve_right (fun f=>f)
 refine zC (xq 2 [(10,.v (.pointer (some ⟨a,0,none⟩))),(11,.v (.agg #[.int .i64 x.d,.slice x.pA x.ps.length x.pc,.slice x.mA x.ms.length x.mc]))] [] ?_)
 refine Zak (d:=12) (lo:=w.heap.size) (g:=a) (l:=[]) (v:=.tuple #[]) (fun c=>WrIs w.heap.size a (idT x) c) 33 [.pointer (some ⟨a,0,none⟩),.agg #[.int .i64 x.d,.slice x.pA x.ps.length x.pc,.slice x.mA x.ms.length x.mc]] (fun _ _ h k=>WrFr.old h b k) (by kernel_rfl) (fun c R Q=>Zgg w w.heap.size a m [] x c rfl b s t R (WrIs.new b Q.2) e i r u) (fun c Q=>WrIs.new b Q.2) (fun _ _ _ y n z A=>y.fr n z A) ?_
 refine xr 0 [yT 2 ⟨#[]⟩,yJ 3 0,(4,.v (.pointer (some ⟨a,0,none⟩)))] [] ?_
 refine xe (zB (zD (zC (xq 1 [(13,.v (.pointer (some ⟨a,0,none⟩)))] [] ?_))))
 refine Zak (d:=14) (lo:=w.heap.size) (g:=a) (l:=idT x) (v:=.tuple #[.string ⟨(idT x).toArray⟩,.int .i64 0]) (fun _=>True) 34 [.pointer (some ⟨a,0,none⟩)] (fun _ _ h k=>WrFr.old h b k) (by kernel_rfl) (fun c R Q=>(Zez w.heap.size a (idT x) c Q (ZnV x) u).mono (fun _ _ h=>⟨h.1,trivial,h.2⟩)) (fun c Q=>Q) (fun _ _ _ _ _ _ _=>trivial) ?_
 refine xr 4 [yT 2 ⟨(idT x).toArray⟩,yJ 3 0] [] ?_
 refine xe (zB (zI ?_))
 refine yR (.tuple #[.string ⟨(idT x).toArray⟩,.int .i64 0]) fun w' R Q=>?_
 exact⟨rfl,R⟩
instance {n:Nat} {d:Int}:Nonempty {x:RC // CGd n d x}:=⟨⟨⟨d,none,0,[],none,0,[]⟩,rfl,uM _,uM _,fun p h=>(by cases h),fun p h=>(by cases h)⟩⟩
instance:Nonempty {x:Int // x=1∨x=2∨x=3∨x=5}:=⟨⟨1,Or.inl rfl⟩⟩
theorem Zng {n m0:Nat}{w w':World}{e:Ending}(b:m0≤w.heap.size)(h:∃ r:IdR,IdG n r∧e=.returned (.agg #[.int .i64 r.d,.slice r.pA r.ps.length r.pc,.slice r.mA r.ms.length r.mc])∧dId.ok w.heap.size w' r∧Ext w w') :
 wS (fun x:{r:IdR // IdG n r}=>.agg #[.int .i64 x.1.d,.slice x.1.pA x.1.ps.length x.1.pc,.slice x.1.mA x.1.ms.length x.1.mc]) (fun x w=>dId.ok m0 w x.1) w e w':=by
 obtain⟨r,c,rfl,f,Q⟩:=h
 exact⟨⟨r,c⟩,rfl,Q,fun S g a i=>Dp.mono _ (Dp.boxN f Q S g a i) b⟩
theorem aB (τ:Tap)(wl w:World)(f:TOld wl τ)(o:Ext wl w)(B:TOk τ w) :
 yA 8 #[.pointer (some ⟨τ.g,0,none⟩)] w (RetT τ (fun r:IdR=>.agg #[.int .i64 r.d,.slice r.pA r.ps.length r.pc,.slice r.mA r.ms.length r.mc]) (fun r=>∃ n,(n=1∨n=2)∧IdG n r) (fun r w'=>dId.ok w.heap.size w' r) w):=by
 obtain⟨m0,e⟩:∃ m,m=w.heap.size:=⟨_,rfl⟩
 have E:τ.g<m0:=e ▸ B.lt
 refine lW (fun i=>i=τ.g) (Φ:=fun w=>TOk τ w) Tryz.func8 rfl (by kernel_rfl) (fun w' F=>B.ext F) ?_
 refine zD (zC (xq 1 [(2,.p 2 0)] [(2,26,[.v (.int .i64 0),.v (.slice none 0 0),.v (.slice none 0 0)])] ?_))
 refine xe (zB (zD (zC (xq 2 [(4,.v (.pointer (some ⟨τ.g,0,none⟩))),(5,.v (.pointer (some ⟨τ.g,0,none⟩)))] [] ?_))))
 refine wJ (b:=τ.g) (d:=6) (j:=0) (c:=.slice τ.A τ.l τ.c) 24 [.pointer (some ⟨τ.g,0,none⟩),.int .i64 2] (fun x:{x:Nat // (fun v=>(v:Int)<2) x}=>(fun v=>.int .i64 (v:Int)) x.1) (fun w=>True) (fun x w=>TOk τ w∧(fun _ _=>True) x.1 w) (fun w Q=>TOk.cell Q) (Or.inr rfl) (fun w R Q=>(lQ τ wl (2) _ f (f.old o R) Q (by decide) (by decide)).mono (fun _ _ h=>wQ h (fun x k h=>fun _ _ _ _=>trivial))) (fun w t R Q k=>trivial) fun⟨a,C⟩=>?_
 have s:1+a=1∨1+a=2:=by omega
 refine xr 1 [(0,.v (.pointer (some ⟨τ.g,0,none⟩))),(2,.p 2 0),(4,.v (.pointer (some ⟨τ.g,0,none⟩))),yJ 7 (IntKind.i64.wrap (1+(a:Int)))] [(2,26,[.v (.int .i64 0),.v (.slice none 0 0),.v (.slice none 0 0)])] ?_
 rw[(show IntKind.i64.wrap (1+(a:Int))=((1+a:Nat):Int) by rw[IntKind.wrap_i64];omega)]
 refine wJ (b:=τ.g) (d:=8) (j:=0) (c:=.slice τ.A τ.l τ.c) 28 [.pointer (some ⟨τ.g,0,none⟩),.int .i64 ((1+a:Nat):Int),.int .i64 2] (fun x:{x:QV // (fun x=>x.il≤2∧x.el≤1) x}=>(fun x=>.agg #[.int .i64 ((1+a:Nat):Int),.int .i64 x.ov,.slice x.oA x.ol x.oc,.slice x.iA x.il x.ic,.slice x.eA x.el x.ec]) x.1) (fun w=>True) (fun x w=>TOk τ w∧(fun _ _=>True) x.1 w) (fun w Q=>TOk.cell Q.2.1) (Or.inr rfl) (fun w R Q=>(Zhh τ wl _ f (f.old o R) Q.2.1 (1+a) 2 s (by decide)).mono (fun _ _ h=>wQ h (fun x k h=>fun _ _ _ _=>trivial))) (fun w t R Q k=>trivial) fun⟨q,D⟩=>?_
 refine xr 2 [(0,.v (.pointer (some ⟨τ.g,0,none⟩))),(2,.p 2 0),(3,.p 3 0)] [(3,85,[.v (.int .i64 ((1+a:Nat):Int)),.v (.int .i64 q.ov),.v (.slice q.oA q.ol q.oc),.v (.slice q.iA q.il q.ic),.v (.slice q.eA q.el q.ec)]),(2,26,[.v (.int .i64 0),.v (.slice none 0 0),.v (.slice none 0 0)])] ?_
 refine xe (zB (zD ?_))
 refine yO 7 zK ?_
 refine xqg 3 [(9,.v (.pointer (some ⟨τ.g,0,none⟩))),(10,.v (.agg #[.int .i64 ((1+a:Nat):Int),.int .i64 q.ov,.slice q.oA q.ol q.oc,.slice q.iA q.il q.ic,.slice q.eA q.el q.ec])),(11,.v (.pointer (some ⟨τ.g,0,none⟩)))] ?_
 refine cI 12 (b:=τ.g) (j:=0) (c:=.slice τ.A τ.l τ.c) 31 [.pointer (some ⟨τ.g,0,none⟩)] (fun x:{x:Int // (fun d=>d=1∨d=2∨d=3∨d=5) x}=>(fun d=>.int .i64 d) x.1) (fun w=>True) (fun x w=>TOk τ w∧(fun _ _=>True) x.1 w) (fun w Q=>TOk.cell Q.2.1) (Or.inr rfl) (fun w R Q=>(Zge τ wl _ f (f.old o R) Q.2.1).mono (fun _ _ h=>wQ h (fun x k h=>fun _ _ _ _=>trivial))) (fun w t R Q k=>trivial) (fun x w Q=>⟨trivial,⟨Q.2.1,trivial⟩⟩) fun⟨d,G⟩=>?_
 refine xf 0 [(2,.p 2 0),(9,.v (.pointer (some ⟨τ.g,0,none⟩))),(10,.v (.agg #[.int .i64 ((1+a:Nat):Int),.int .i64 q.ov,.slice q.oA q.ol q.oc,.slice q.iA q.il q.ic,.slice q.eA q.el q.ec])),yJ 12 d] [(3,85,[.v (.int .i64 ((1+a:Nat):Int)),.v (.int .i64 q.ov),.v (.slice q.oA q.ol q.oc),.v (.slice q.iA q.il q.ic),.v (.slice q.eA q.el q.ec)]),(2,26,[.v (.int .i64 0),.v (.slice none 0 0),.v (.slice none 0 0)])] ?_
 refine cI 13 (b:=τ.g) (j:=0) (c:=.slice τ.A τ.l τ.c) 30 [.pointer (some ⟨τ.g,0,none⟩),.agg #[.int .i64 ((1+a:Nat):Int),.int .i64 q.ov,.slice q.oA q.ol q.oc,.slice q.iA q.il q.ic,.slice q.eA q.el q.ec],.int .i64 d] (fun x:{x:RC // (CGd (1+a) d) x}=>(fun x=>.agg #[.int .i64 x.d,.slice x.pA x.ps.length x.pc,.slice x.mA x.ms.length x.mc]) x.1) (fun w=>True) (fun x w=>TOk τ w∧(fun x w=>dC.ok m0 w x) x.1 w) (fun w Q=>TOk.cell Q.2.1) (Or.inr rfl) (fun w R Q=>(ZkM τ wl _ f (f.old o R) Q.2.1 (1+a) q d s D.1 D.2 (by omega) (by omega)).mono (fun _ _ h=>wQ h (fun x k h=>Dp.boxTm h k (e ▸ R.size)))) (fun w t R Q k=>trivial) (fun x w Q=>⟨trivial,⟨Q.2.1,trivial⟩⟩) fun⟨X,u⟩=>?_
 have y:CGd (1+a) X.d X:=by rw[u.1];exact u
 have z:X.d=1∨X.d=2∨X.d=3∨X.d=5:=by rw[u.1];exact G
 refine xf 0 [(2,.p 2 0),(13,.v (.agg #[.int .i64 X.d,.slice X.pA X.ps.length X.pc,.slice X.mA X.ms.length X.mc]))] [(3,85,[.v (.int .i64 ((1+a:Nat):Int)),.v (.int .i64 q.ov),.v (.slice q.oA q.ol q.oc),.v (.slice q.iA q.il q.ic),.v (.slice q.eA q.el q.ec)]),(2,26,[.v (.int .i64 0),.v (.slice none 0 0),.v (.slice none 0 0)])] ?_
 refine xqd 29 [.agg #[.int .i64 X.d,.slice X.pA X.ps.length X.pc,.slice X.mA X.ms.length X.mc]] 14 (fun x:{r:IdR // IdG (1+a) r}=>.agg #[.int .i64 x.1.d,.slice x.1.pA x.1.ps.length x.1.pc,.slice x.1.mA x.1.ms.length x.1.mc]) _ (fun w R Q=>(ZhZ (1+a) m0 X _ y z s Q.2.2).mono (fun _ _ h=>Zng (e ▸ R.size) h)) fun⟨r,H⟩=>?_
 refine xqf 1 [] [(2,26,[.v (.int .i64 r.d),.v (.slice r.pA r.ps.length r.pc),.v (.slice r.mA r.ms.length r.mc)]),(3,85,[.v (.int .i64 ((1+a:Nat):Int)),.v (.int .i64 q.ov),.v (.slice q.oA q.ol q.oc),.v (.slice q.iA q.il q.ic),.v (.slice q.eA q.el q.ec)]),(2,26,[.v (.int .i64 0),.v (.slice none 0 0),.v (.slice none 0 0)])] ?_
 refine xz (xe (zB (zI ?_)))
 refine yR (.agg #[.int .i64 r.d,.slice r.pA r.ps.length r.pc,.slice r.mA r.ms.length r.mc]) fun w' R Q=>?_
 exact⟨r,⟨_,s,H⟩,rfl,R,Q.1.2.1,e ▸ Q.2⟩
theorem SXi.size {N:Nat}{d:Nat→Prop}{e:World}{s:St}{Φ:World→Prop}{P:Program}{c:Array Oper}{Q:Exit→Act→World→Prop}{i:Nat}(p:Nat→Prop)(g:∀ w,Fr d e w→Φ w→p w.heap.size)(K:∀ m1,p m1→SXi P N d e c Q i s (fun w=>Φ w∧m1≤w.heap.size)):SXi P N d e c Q i s Φ:=fun L a w b =>
 K w.heap.size (g w b.mem.ext b.box.self) L a w ⟨b.size,b.df,b.sl,b.mem,fun h f=>⟨b.box h f,f.size⟩⟩
theorem Dp.tapeB {α:Type}{D:Dp α}{m b:Nat}{x:α}{w w':World}{τ:Tap}(h:D.ok m w x)(d:D.below b x)(e:TOk τ w)(j:b≤τ.g)(f:Fr (fun i=>i=τ.g) w w'):D.ok m w' x :=
 D.fr h f (fun i a=>e.nrb' i a) (fun i a c=>by have:=d i a;have c:i=τ.g:=c;omega)
theorem TOld.new {wl:World}{τ:Tap}(h:TOld wl τ):wl.heap.size≤τ.g:=by obtain⟨_,_,_,_,h⟩:=h;exact h
instance:Nonempty {r:IdR // ∃ n,(n=1∨n=2)∧IdG n r}:=by
 obtain⟨⟨r,hr⟩⟩:=(inferInstance:Nonempty {r:IdR // IdG 1 r})
 exact⟨⟨r,1,Or.inl rfl,hr⟩⟩
theorem ZiM (A:Option Addr)(l c:Nat)(zs:List Int)(a w:World)(b:Nat)(f:lZ a A zs)(q:zs.length=l)(i:l≤c)(_:True)(j:Ext a w)(k:b≤w.heap.size) :
 yA 9 #[.slice A l c] w (wS (fun x:{τ:Tap // TOld a τ∧b≤τ.g}=>.pointer (some ⟨x.1.g,0,none⟩)) (fun x w=>TOk x.1 w) w):=by
 refine (ZmU A l c w i).mono ?_
 rintro e w' ⟨g,rfl,d,Q,m⟩
 refine⟨⟨⟨g,A,min l 400,c⟩,⟨zs.take 400,f.take 400,by rw[uL];show min 400 zs.length=min l 400;omega,by show min l 400≤1000000;omega,uD j.size d⟩,uD k d⟩,rfl,Q,fun S n o p=>?_⟩
 exact TOk.fr (τ:=⟨g,A,min l 400,c⟩) ⟨0,uM _,m⟩ p (fun h=>by have r:g<w.heap.size:=(n _ h).1;omega)
theorem ZiN {x y:IdR}(a:x.good)(b:y.good):((⟨(idT x).toArray⟩:ByteArray).toList == (⟨(idT y).toArray⟩:ByteArray).toList)=decide (keyI x=keyI y):=by
 rw[jC,jC,← ZmT a b]
 show (idT x == idT y)=decide (idT x=idT y)
 rw[qV];simp
theorem Zc1 (A B:Option Addr)(l k c d:Nat)(u y:List Int)(s:World)(H:Glob s)(J:lZ s A u)(K:lZ s B y)(L:u.length=l)(M:y.length=k)(N:l≤c)(O:k≤d) :
 yA 3 #[.slice A l c,.slice B k d] s (RetV s (.bool true)):=by
 obtain⟨t,C⟩:∃ m,m=s.heap.size:=⟨_,rfl⟩
 refine xB (Φ:=fun w=>True) Tryz.func3 rfl (by kernel_rfl) (fun w' T=>trivial) ?_
 refine zD (zC (xq 1 [yB 4 false] [] ?_))
 refine xe (zB (zD (zC (xq 1 [eS1 11 A l c] [] ?_))))
 refine xqc 9 [.slice A l c] 12 (fun x:{τ:Tap // TOld s τ∧0≤τ.g}=>.pointer (some ⟨x.1.g,0,none⟩)) _ (fun w R Q=>(ZiM A l c u s _ 0 J L N trivial R (uM _)).mono (fun _ _ h=>h)) fun⟨τ,D,E⟩=>?_
 refine wJ (b:=τ.g) (d:=13) (j:=0) (c:=.slice τ.A τ.l τ.c) 8 [.pointer (some ⟨τ.g,0,none⟩)] (fun x:{x:IdR // (fun r=>∃ n,(n=1∨n=2)∧IdG n r) x}=>(fun r=>.agg #[.int .i64 r.d,.slice r.pA r.ps.length r.pc,.slice r.mA r.ms.length r.mc]) x.1) (fun w=>True) (fun x w=>TOk τ w∧(fun r w=>dId.ok t w r) x.1 w) (fun w Q=>TOk.cell Q.2) (Or.inl (TOld.new D)) (fun w R Q=>(aB τ s _ D R Q.2).mono (fun _ _ h=>wQ h (fun x z h=>Dp.boxTm h z (C ▸ R.size)))) (fun w S R Q z=>trivial) fun⟨a,U,o,f⟩=>?_
 refine SXi.size (fun F=>dId.below F a) (fun w R Q=>Dp.lt Q.2.2) fun F P=>?_
 refine xr 1 [yB 4 false,(13,.v (.agg #[.int .i64 a.d,.slice a.pA a.ps.length a.pc,.slice a.mA a.ms.length a.mc])),eS1 14 B k d] [] ?_
 refine xqc 9 [.slice B k d] 15 (fun x:{τ:Tap // TOld s τ∧F≤τ.g}=>.pointer (some ⟨x.1.g,0,none⟩)) _ (fun w R Q=>(ZiM B k d y s _ F K M O trivial R Q.2).mono (fun _ _ h=>h)) fun⟨τ,D,E⟩=>?_
 refine wJ (b:=τ.g) (d:=16) (j:=0) (c:=.slice τ.A τ.l τ.c) 8 [.pointer (some ⟨τ.g,0,none⟩)] (fun x:{x:IdR // (fun r=>∃ n,(n=1∨n=2)∧IdG n r) x}=>(fun r=>.agg #[.int .i64 r.d,.slice r.pA r.ps.length r.pc,.slice r.mA r.ms.length r.mc]) x.1) (fun w=>(dId.ok t w a∧F≤w.heap.size)) (fun x w=>TOk τ w∧(fun r w=>dId.ok t w r) x.1 w) (fun w Q=>TOk.cell Q.2) (Or.inl (TOld.new D)) (fun w R Q=>(aB τ s _ D R Q.2).mono (fun _ _ h=>wQ h (fun x z h=>Dp.boxTm h z (C ▸ R.size)))) (fun w S R Q z=>⟨Dp.tapeB Q.1.1.2.2 P Q.2 E z,uD Q.1.2 z.size⟩) fun⟨e,V,q,i⟩=>?_
 refine xr 4 [yB 4 false,(5,.p 5 0),(6,.p 6 0)] [(6,26,[.v (.int .i64 e.d),.v (.slice e.pA e.ps.length e.pc),.v (.slice e.mA e.ms.length e.mc)]),(5,26,[.v (.int .i64 a.d),.v (.slice a.pA a.ps.length a.pc),.v (.slice a.mA a.ms.length a.mc)])] ?_
 refine xe (zB (zD (zC (xq 1 [(18,.v (.agg #[.int .i64 a.d,.slice a.pA a.ps.length a.pc,.slice a.mA a.ms.length a.mc]))] [] ?_))))
 refine xqc 10 [.agg #[.int .i64 a.d,.slice a.pA a.ps.length a.pc,.slice a.mA a.ms.length a.mc]] 19 (fun _:Unit=>.tuple #[.string ⟨(idT a).toArray⟩,.int .i64 0]) _ (fun w R Q=>yN (ZbO t a _ (H.ext R) Q.1.1 (f.good o) (f.sm o) f.sc (f.sx o) f.rg (uD (f.tl o) (by decide)))) fun G=>?_
 refine xq 5 [yT 7 ⟨(idT a).toArray⟩,yJ 8 0] [] ?_
 refine xe (zB (zD (zC (xq 1 [(23,.v (.agg #[.int .i64 e.d,.slice e.pA e.ps.length e.pc,.slice e.mA e.ms.length e.mc]))] [] ?_))))
 refine xqc 10 [.agg #[.int .i64 e.d,.slice e.pA e.ps.length e.pc,.slice e.mA e.ms.length e.mc]] 24 (fun _:Unit=>.tuple #[.string ⟨(idT e).toArray⟩,.int .i64 0]) _ (fun w R Q=>yN (ZbO t e _ (H.ext R) Q.1.2.2 (i.good q) (i.sm q) i.sc (i.sx q) i.rg (uD (i.tl q) (by decide)))) fun G=>?_
 refine xq 5 [yT 9 ⟨(idT e).toArray⟩,yJ 10 0] [] ?_
 refine xe (zB (zD ?_))
 by_cases I:keyI a=keyI e
 ·refine zC ?_
  refine xqc 11 [] 27 (fun _:Unit=>.bool true) _ (fun w R Q=>yN (Zdg _ (H.ext R))) fun G=>?_
  refine xq 12 [yB 36 true,yB 39 ((⟨(idT a).toArray⟩:ByteArray).toList == (⟨(idT e).toArray⟩:ByteArray).toList)] [] ?_
  rw[(show ((⟨(idT a).toArray⟩:ByteArray).toList == (⟨(idT e).toArray⟩:ByteArray).toList)=true from (ZiN (f.good o) (i.good q)).trans (uI I))]
  refine xq 2 [(40,.v (.agg #[.int .i64 a.d,.slice a.pA a.ps.length a.pc,.slice a.mA a.ms.length a.mc])),(41,.v (.agg #[.int .i64 e.d,.slice e.pA e.ps.length e.pc,.slice e.mA e.ms.length e.mc]))] [] ?_
  refine xqc 12 [.agg #[.int .i64 a.d,.slice a.pA a.ps.length a.pc,.slice a.mA a.ms.length a.mc],.agg #[.int .i64 e.d,.slice e.pA e.ps.length e.pc,.slice e.mA e.ms.length e.mc]] 42 (fun _:Unit=>.bool true) _ (fun w R Q=>(Zhj t t a e _ Q.1.1.1.1.1 Q.1.1.1.2.2 (f.sm o) (i.sm q)).mono (fun _ _ h=>zS h (by rw[uI I]))) fun G=>?_
  refine xq 3 [yB 4 true] [] ?_
  refine xe (zB (zI ?_))
  refine yR (.bool true) fun w' R Q=>?_
  exact⟨rfl,R⟩
 refine zC ?_
 refine xqc 11 [] 27 (fun _:Unit=>.bool true) _ (fun w R Q=>yN (Zdg _ (H.ext R))) fun G=>?_
 refine xq 12 [yB 36 true,yB 39 ((⟨(idT a).toArray⟩:ByteArray).toList == (⟨(idT e).toArray⟩:ByteArray).toList)] [] ?_
 rw[(show ((⟨(idT a).toArray⟩:ByteArray).toList == (⟨(idT e).toArray⟩:ByteArray).toList)=false from (ZiN (f.good o) (i.good q)).trans (uH I))]
 refine xq 2 [(40,.v (.agg #[.int .i64 a.d,.slice a.pA a.ps.length a.pc,.slice a.mA a.ms.length a.mc])),(41,.v (.agg #[.int .i64 e.d,.slice e.pA e.ps.length e.pc,.slice e.mA e.ms.length e.mc]))] [] ?_
 refine xqc 12 [.agg #[.int .i64 a.d,.slice a.pA a.ps.length a.pc,.slice a.mA a.ms.length a.mc],.agg #[.int .i64 e.d,.slice e.pA e.ps.length e.pc,.slice e.mA e.ms.length e.mc]] 42 (fun _:Unit=>.bool false) _ (fun w R Q=>(Zhj t t a e _ Q.1.1.1.1.1 Q.1.1.1.2.2 (f.sm o) (i.sm q)).mono (fun _ _ h=>zS h (by rw[uH I]))) fun G=>?_
 refine xq 3 [yB 4 true] [] ?_
 refine xe (zB (zI ?_))
 refine yR (.bool true) fun w' R Q=>?_
 exact⟨rfl,R⟩
end Go.Proofs.YtoanifijmlgcgaaGreatDoor
