/-
 My texts Li, Rf5, So, Tpo, Tce, SdQ, IdG, Sx27 put together.
-/
import Derived.Test.YtoanifijmlgcgaaGreatDoorD21
import Derived.Test.YtoanifijmlgcgaaGreatDoorD16
import Derived.Test.YtoanifijmlgcgaaGreatDoorD19
set_option maxRecDepth 100000
set_option maxHeartbeats 8000000
namespace Go.Proofs.YtoanifijmlgcgaaGreatDoor
open Go.RowKit
def wR (es:List TermR):List Value:=es.flatMap (fun t=>[.slice t.A t.exps.length t.cap])
theorem Zdh (a:List TermR)(t:TermR):wR (a ++ [t])=wR a ++ [.slice t.A t.exps.length t.cap]:=by unfold wR;simp
def EG (n:Nat) (t:TermR):Prop:=t.exps.length=n∧∀ x∈t.exps,0≤x∧x≤2
structure LiR where
 A:Option Addr
 c:Nat
 es:List TermR
def dLi:Dp LiR:=.and (.row 22 1 (·.A) (·.c) (·.es.length) (fun x=>wR x.es)) (.all (·.es) kP)
theorem OwnD.cell0 {w:World}{m n c k i:Nat}{e:TypeId}{xs:List Value}(h:OwnD w m e k (some ⟨i,0,none⟩) c n xs)(a:0<xs.length):w.cell? ⟨i,0,none⟩=some (xs[0]!):=OwnD.news h 0 _ (by rw[getElem!_pos xs 0 a];exact List.getElem?_eq_getElem a)
theorem Dp.app {α:Type}{D:Dp α}{m:Nat}{w:World}{xs a:List α}(h:D.list.ok m w xs)(b:D.list.ok m w a):D.list.ok m w (xs ++ a):=fun y c=>(vL.1 c).elim (h y) (b y)
theorem Zjq (es:List TermR):(wR es).length=es.length:=by unfold wR;induction es<;>simp_all
theorem ZnI {b:List TermR}{B:Option Addr}{i:Nat}(a:b.length=0→B=none)(hi:B=some ⟨i,0,none⟩):0<(wR b).length:=by
 rw[Zjq]
 exact rU (fun h=>by rw[a h] at hi;cases hi)
def ZeE (m:Nat) (A:Option Addr) (es:List TermR) (n:Nat) (w:World) (e:Ending) (w':World):Prop:=∃ A' c' ts,(∀ t∈ts,EG n t)∧0<ts.length∧ts.length≤3∧e=.returned (.slice A' (es.length+ts.length) c')∧OwnD w' m 22 1 A' c' (es.length+ts.length) (wR (es ++ ts))∧kP.list.ok w.heap.size w' ts∧Fr (fun i=>A=some ⟨i,0,none⟩) w w'∧A'≠none∧(∀ j,A'=some ⟨j,0,none⟩→A=some ⟨j,0,none⟩∨w.heap.size≤j)
theorem ZnJ {d:Nat}{A:Option Addr}{c:Nat}(e:d≤2):∀ t ∈ [(⟨⟨#[]⟩,A,c,[((d:Nat):Int)]⟩:TermR)],EG 1 t:=fun t a=>by
 obtain rfl:=vH.1 a
 exact⟨rfl,fun x b=>by obtain rfl:=vH.1 b;omega⟩
theorem ZmV {ts:List TermR}{k d:Nat}{A:Option Addr}{c:Nat}(h:∀ t∈ts,EG 2 t)(e:d≤2)(f:k≤d):∀ t∈ts ++ [(⟨⟨#[]⟩,A,c,[((k:Nat):Int),((d:Nat):Int)-((k:Nat):Int)]⟩:TermR)],EG 2 t:=fun t a=>by
 rcases vL.1 a with a|a
 ·exact h t a
 obtain rfl:=vH.1 a
 refine⟨rfl,fun x b=>?_⟩
 simp only[tX,List.not_mem_nil,or_false] at b
 rcases b with rfl|rfl<;>omega
theorem ZmW {w:World}{m:Nat}{A e:Option Addr}{c p:Nat}{z:Value}{v:Value}{T U:TypeId}(h:OwnD w m T 1 A c 1 [v]∧OwnD w m U 1 e p 1 [z]):∃ x y,A=some ⟨x,0,none⟩∧e=some ⟨y,0,none⟩:=by
 obtain⟨x,a,_⟩:=h.1.blkSome (by decide)
 obtain⟨y,b,_⟩:=h.2.blkSome (by decide)
 exact⟨x,y,a,b⟩
theorem ZiA (A:Option Addr)(c m:Nat)(a:List TermR)(d:Nat)(w:World)(F:OwnD w m 22 1 A c a.length (wR a))(B:m≤w.heap.size)(G:a.length≤1000)(v:a.length=0→A=none) :
 yA 226 #[.slice A a.length c,.int .i64 1,.int .i64 ((d:Nat):Int)] w (fun e w'=>∃ u C D p,e=.returned (.slice u (a.length+1) C)∧OwnD w' m 22 1 u C (a.length+1) (wR a ++ [.slice D 1 p])∧OwnD w' w.heap.size 3 1 D p 1 [.int .i64 ((d:Nat):Int)]∧Fr (fun i=>A=some ⟨i,0,none⟩) w w'∧u≠none∧(∀ j,u=some ⟨j,0,none⟩→A=some ⟨j,0,none⟩∨w.heap.size≤j)):=by
 obtain⟨m0,f⟩:∃ m,m=w.heap.size:=⟨_,rfl⟩
 have H:m≤m0:=f ▸ B
 refine lW (fun i=>A=some ⟨i,0,none⟩) (Φ:=fun w=>OwnD w m 22 1 A c a.length (wR a)) Tryz.func226 rfl (by kernel_rfl) (fun w' I=>OwnD.ext F I) ?_
 refine zD (zC (xq 1 [eS1 6 none 0 0] [] ?_))
 refine xe (zB (zD (zD (zC (xq 2 [yB 11 false] [] ?_)))))
 refine xe (zB (xb (zJ (zB (zD (zD (zC (xq 2 [yB 19 true] [] ?_))))))))
 refine xe (zB (xa (zD (zC (xq 2 [eS1 20 A a.length c,yJ 21 (d:Int)] [] ?_)))))
 refine yD (d:=22) (fun l:{b:Nat // m0≤b}=>.slice (some ⟨l.1,0,none⟩) 1 1) (fun l y=>Blk 3 y l.1 #[.int .i64 (d:Int)]) (fun w R Q=>xF (m0:=m0) (f ▸ R.size) (t:=22) (e:=3) (n:=1) (sz:=1) (z:=.int .i64 0) (parts:=#[(0,Operand.tmp 21)]) (by kernel_rfl) (by kernel_rfl) (by kernel_rfl) (by kernel_rfl) (by kernel_rfl) (by kernel_rfl)) fun⟨g,r⟩=>?_
 refine xr 0 [eS1 0 A a.length c,yJ 1 1,yJ 2 (d:Int),eS1 6 none 0 0,eS1 20 A a.length c,eS1 22 (some ⟨g,0,none⟩) 1 1] [] ?_
 refine yD (d:=23) (fun l:{b:Nat // m0≤b}=>.slice (some ⟨l.1,0,none⟩) 1 1) (fun l y=>Blk 22 y l.1 #[.slice (some ⟨g,0,none⟩) 1 1]) (fun w R Q=>xF (m0:=m0) (f ▸ R.size) (t:=245) (e:=22) (n:=1) (sz:=1) (z:=.slice none 0 0) (parts:=#[(0,Operand.tmp 22)]) (by kernel_rfl) (by kernel_rfl) (by kernel_rfl) (by kernel_rfl) (by kernel_rfl) (by kernel_rfl)) fun⟨s,E⟩=>?_
 refine xr 0 [eS1 0 A a.length c,yJ 1 1,yJ 2 (d:Int),eS1 6 none 0 0,eS1 20 A a.length c,eS1 23 (some ⟨s,0,none⟩) 1 1] [] ?_
 refine lJ (d:=24) (k:=1) (n:=a.length) (m:=1) (cap:=c) (bytes:=24) (t:=245) (e:=22) (s0:=Operand.tmp 20) (x:=Operand.tmp 23) (xs:=wR a) (news:=[.slice (some ⟨g,0,none⟩) 1 1]) (z:=.slice none 0 0) m A (fun j J _=>Or.inr J) s 1 (fun w=>Blk 3 w g #[.int .i64 (d:Int)]) (fun w R Q=>uD B R.size) (fun w Q=>Q.1.1) (fun w Q=>Blk.news Q.2) rfl (by decide) rfl (wG.list (by simp)) (by decide) (by simp[Value.oneCell']) (by simp) (by simp only[maxLen];omega) (by omega) v (fun w L R Q K=>Blk.rowUp Q.1.2 Q.1.1 (by decide) K) fun o q h=>?_
 refine xr 1 [eS1 0 A a.length c,yJ 1 1,yJ 2 (d:Int),eS1 6 o (a.length+1) q] [] ?_
 refine xe (zB (zI (zE ?_)))
 refine yR (.slice o (a.length+1) q) fun w' R Q=>?_
 exact⟨o,q,some ⟨g,0,none⟩,1,rfl,Q.2,OwnD.ofBlk (n:=1) (k:=1) Q.1 (f ▸ r) rfl (by decide) (by simp),R,h.1,f ▸ h.2⟩
theorem ZnK (A:Option Addr)(c m:Nat)(a:List TermR)(d:Nat)(w:World)(g:OwnD w m 22 1 A c a.length (wR a))(h:m≤w.heap.size)(i:d≤2)(b:a.length≤1000)(f:a.length=0→A=none):yA 226 #[.slice A a.length c,.int .i64 1,.int .i64 ((d:Nat):Int)] w (ZeE m A a 1 w):=by
 refine (ZiA A c m a d w g h b f).mono ?_
 rintro e w' ⟨j,k,l,p,rfl,n,o,q,r⟩
 exact⟨j,k,[⟨⟨#[]⟩,l,p,[(d:Int)]⟩],ZnJ i,Nat.succ_pos _,by show 1≤3;decide,rfl,by rw[Zdh];exact n,fun y s=>by obtain rfl:=vH.1 s;exact o,q,r⟩
theorem Zjr (d:Nat)(w:World):yA 226 #[.slice none 0 0,.int .i64 1,.int .i64 ((d:Nat):Int)] w fun e w'=>∃ A c a p,e=.returned (.slice A 1 c)∧OwnD w' w.heap.size 22 1 A c 1 [.slice a 1 p]∧OwnD w' w.heap.size 3 1 a p 1 [.int .i64 ((d:Nat):Int)]∧Ext w w':=by
 refine (ZiA none 0 w.heap.size [] d w (OwnD.nil _ _ _ _) (uR _) (by decide) (fun _=>rfl)).mono ?_
 rintro e w' ⟨b,f,a,p,rfl,g,j,k,l⟩
 exact⟨b,f,a,p,rfl,g,j,k.mono (fun i _ h=>by cases h)⟩
theorem ZlJ {m0 d:Nat}{w w':World}{e:Ending}(f:m0≤w.heap.size)(h:∃ A c el p,e=.returned (.slice A 1 c)∧OwnD w' w.heap.size 22 1 A c 1 [.slice el 1 p]∧OwnD w' w.heap.size 3 1 el p 1 [.int .i64 ((d:Nat):Int)]∧Ext w w') :
 wS (fun x:Option Addr×Nat × Option Addr×Nat=>.slice x.1 1 x.2.1) (fun x w=>OwnD w m0 22 1 x.1 x.2.1 1 [.slice x.2.2.1 1 x.2.2.2]∧OwnD w m0 3 1 x.2.2.1 x.2.2.2 1 [.int .i64 ((d:Nat):Int)]) w e w':=by
 obtain⟨A,c,el,p,rfl,g,j,Q⟩:=h
 refine⟨(A,c,el,p),rfl,Q,fun S k m l=>⟨(g.fr l (fun i a b=>?_)).mono f,(j.fr l (fun i a b=>?_)).mono f⟩⟩
 ·have:=(g.blk a).1;have:=(k i b).1;omega
 have:=(j.blk a).1;have:=(k i b).1;omega
theorem ZnL (A:Option Addr)(c m:Nat)(a:List TermR)(d:Nat)(w:World)(hO:OwnD w m 22 1 A c a.length (wR a))(hm:m≤w.heap.size)(hd:d≤2)(l0:a.length≤1000)(e0:a.length=0→A=none) :
 yA 226 #[.slice A a.length c,.int .i64 2,.int .i64 ((d:Nat):Int)] w (ZeE m A a 2 w):=by
 obtain⟨m0,q⟩:∃ m,m=w.heap.size:=⟨_,rfl⟩
 have n0:m≤m0:=q ▸ hm
 refine lW (fun i=>A=some ⟨i,0,none⟩) (Φ:=fun w=>OwnD w m 22 1 A c a.length (wR a)) Tryz.func226 rfl (by kernel_rfl) (fun w' hf=>OwnD.ext hO hf) ?_
 refine zD (zC (xq 1 [eS1 6 none 0 0] [] ?_))
 refine xe (zB (zD (zD (zC (xq 2 [yB 11 false] [] ?_)))))
 refine xe (zB (xb (zJ (zB (zD (zD (zC (xq 2 [yB 19 false] [] ?_))))))))
 refine xe (zB (xb (zJ (zB (zD (zD (zC (xq 2 [yJ 7 (d:Int)] [] ?_))))))))
 refine xe (zB (zN ?_))
 refine yC [eS1 0 A (a.length+0) c,yJ 1 2,yJ 2 (d:Int),eS1 6 none 0 0,yJ 7 ((d:Int)-((0:Nat):Int))] [] (fun w=>(OwnD w m 22 1 A c (a.length+0) (wR (a ++ ([]:List TermR)))∧kP.list.ok m0 w ([]:List TermR))) (fun w Q=>⟨(by rw[tP];exact Q),(Dp.none _ _ _)⟩) ?_
 refine xS (fun P S T=>∃ (k:Nat) (B:Option Addr) (l:Nat) (o:List TermR),S=ofL [eS1 0 B (a.length+k) l,yJ 1 2,yJ 2 (d:Int),eS1 6 none 0 0,yJ 7 ((d:Int)-(k:Int))] []∧T=(fun w=>(OwnD w m 22 1 B l (a.length+k) (wR (a ++ o))∧kP.list.ok m0 w o))∧(k≤d+1)∧(o.length=k)∧(∀ t∈o,EG 2 t)∧(∀ j,B=some ⟨j,0,none⟩→A=some ⟨j,0,none⟩∨m0≤j)∧(a.length+k=0→B=none)∧P=(1+(d+1-k))) ((1+(d+1-0))) ⟨0,A,c,([]:List TermR),rfl,rfl,(uM _),rfl,(fun t h=>by cases h),(fun j h=>Or.inl h),(fun h=>e0 (by omega)),rfl⟩ ?_
 rintro P S T ⟨k,B,l,o,rfl,rfl,hk,F,U,N,G,rfl⟩
 refine zD (zD (zC (xq 2 [(27,.v (.bool (decide (((d:Int)-(k:Int))≥0))))] [] ?_)))
 refine xe (zB ?_)
 refine yQ ((decide (((d:Int)-(k:Int))≥0))) (fun C=>?_) fun C=>?_
 ·have V:k≤d:=by have:=uF C;omega
  refine zJ (zB (zD (zN (zD (zC (xq 2 [yJ 31 (IntKind.i64.wrap (2-1))] [] ?_))))))
  rw[(show IntKind.i64.wrap (2-1)=1 from rfl)]
  refine xq 3 [(34,.v (.int .i64 (IntKind.i64.wrap ((d:Int)-((d:Int)-(k:Int))))))] [] ?_
  rw[(show IntKind.i64.wrap ((d:Int)-((d:Int)-(k:Int)))=(k:Int) by rw[IntKind.wrap_i64];omega)]
  refine xqc 226 [.slice none 0 0,.int .i64 1,.int .i64 (k:Int)] 35 (fun x:Option Addr×Nat × Option Addr×Nat=>.slice x.1 1 x.2.1) _ (fun w R Q=>(Zjr k _).mono (fun _ _ h=>ZlJ (m0:=m0) (q ▸ R.size) h)) fun⟨W,f,f0,r⟩=>?_
  refine xq 1 [eS1 8 W 1 f] [] ?_
  refine xe (zB (zD ?_))
  refine SXc.know (p:=∃ x y,W=some ⟨x,0,none⟩∧f0=some ⟨y,0,none⟩) (fun w _ Q=>ZmW ⟨Q.2.1,Q.2.2⟩) fun Hq=>?_
  obtain⟨x,y,rfl,rfl⟩:=Hq
  refine zC (xq 1 [yJ 9 0] [] ?_)
  refine xe (zB (zN ?_))
  refine yC [eS1 0 B (a.length+(k+0)) l,yJ 1 2,yJ 2 (d:Int),eS1 6 none 0 0,yJ 7 ((d:Int)-(k:Int)),eS1 8 (some ⟨x,0,none⟩) 1 f,yJ 9 ((0:Nat):Int)] [] (fun w=>((OwnD w m 22 1 B l (a.length+(k+0)) (wR (a ++ o))∧kP.list.ok m0 w o)∧(0=0→OwnD w m0 22 1 (some ⟨x,0,none⟩) f 1 [.slice (some ⟨y,0,none⟩) 1 r]∧OwnD w m0 3 1 (some ⟨y,0,none⟩) r 1 [.int .i64 (k:Int)]))) (fun w Q=>⟨⟨Q.1.1,Q.1.2⟩,(fun _=>⟨Q.2.1,Q.2.2⟩)⟩) ?_
  refine xS (fun P S T=>∃ (j:Nat) (B:Option Addr) (l:Nat) (o:List TermR),S=ofL [eS1 0 B (a.length+(k+j)) l,yJ 1 2,yJ 2 (d:Int),eS1 6 none 0 0,yJ 7 ((d:Int)-(k:Int)),eS1 8 (some ⟨x,0,none⟩) 1 f,yJ 9 (j:Int)] []∧T=(fun w=>((OwnD w m 22 1 B l (a.length+(k+j)) (wR (a ++ o))∧kP.list.ok m0 w o)∧(j=0→OwnD w m0 22 1 (some ⟨x,0,none⟩) f 1 [.slice (some ⟨y,0,none⟩) 1 r]∧OwnD w m0 3 1 (some ⟨y,0,none⟩) r 1 [.int .i64 (k:Int)])))∧(j≤1)∧(o.length=k+j)∧(∀ t∈o,EG 2 t)∧(∀ j,B=some ⟨j,0,none⟩→A=some ⟨j,0,none⟩∨m0≤j)∧(a.length+(k+j)=0→B=none)∧P=(1+(1-j))) ((1+(1-0))) ⟨0,B,l,o,rfl,rfl,(uM _),(by omega),U,N,(fun h=>G (by omega)),rfl⟩ ?_
  rintro P S T ⟨j,B,l,o,rfl,rfl,X,F,U,N,G,rfl⟩
  refine zD (zD (zC (xq 4 [yB 39 (decide ((j:Int)<((1:Nat):Int)))] [] ?_)))
  refine xe (zB ?_)
  refine yQ ((decide ((j:Int)<((1:Nat):Int)))) (fun D=>?_) fun D=>?_
  ·obtain rfl:j=0:=by have:=uF D;omega
   refine zJ (zB (zD (zN ?_)))
   refine SXc.size (fun J=>m0≤J∧kP.list.below J o) (fun w R Q=>⟨q ▸ R.size,Dp.lt Q.1.2⟩) fun J K=>?_
   refine zC (xr 1 [eS1 0 B (a.length+(k+0)) l,yJ 1 2,yJ 2 (d:Int),eS1 6 none 0 0,yJ 7 ((d:Int)-(k:Int)),eS1 8 (some ⟨x,0,none⟩) 1 f,yJ 9 ((0:Nat):Int),eS1 42 B (a.length+(k+0)) l] [] ?_)
   refine yD (d:=43) (fun E:{b:Nat // m0≤b}=>.slice (some ⟨E.1,0,none⟩) 0 0) (fun E Y=>Blk 3 Y E.1 #[]) (fun w R Q=>Zan (m0:=m0) (q ▸ R.size) (t:=22) (e:=3) (sz:=1) (by kernel_rfl) (by kernel_rfl) (by kernel_rfl)) fun⟨Z,g0⟩=>?_
   refine xr 2 [eS1 0 B (a.length+(k+0)) l,yJ 1 2,yJ 2 (d:Int),eS1 6 none 0 0,yJ 7 ((d:Int)-(k:Int)),eS1 8 (some ⟨x,0,none⟩) 1 f,yJ 9 ((0:Nat):Int),eS1 42 B (a.length+(k+0)) l,eS1 43 (some ⟨Z,0,none⟩) 0 0,eS1 44 (some ⟨x,0,none⟩) 1 f,yJ 45 ((0:Nat):Int)] [] ?_
   refine xqk 46 (.pointer (some ⟨x,0,none⟩)) (fun w R Q=>wT (A:=some ⟨x,0,none⟩) (t:=245) (e:=22) (sz:=1) (x:=.tmp 44) (ix:=.tmp 45) (len:=1) (cap:=f) (i:=0) (by simp) (by decide)) ?_
   refine xqk 47 (.slice (some ⟨y,0,none⟩) 1 r) (fun w R Q=>gT (t:=22) (x:=.tmp 46) (g:=x) (off:=0) (OwnD.news (Q.1.1.2 rfl).1 0 _ rfl)) ?_
   refine Zmu (d:=48) (k:=1) (m:=1) (b0:=Z) (bytes:=8) (t:=22) (e:=3) (s0:=Operand.tmp 43) (x:=Operand.tmp 47) (news:=[.int .i64 (k:Int)]) (z:=.int .i64 0) J y r (fun w R Q=>Q.1.2) (fun w Q=>OwnD.news (Q.1.1.2 rfl).2) rfl rfl (wG.list (by simp)) (by decide) (by simp) (by simp only[maxLen];omega) (by omega) fun L M h0=>?_
   refine xr 1 [eS1 0 B (a.length+(k+0)) l,yJ 1 2,yJ 2 (d:Int),eS1 6 none 0 0,yJ 7 ((d:Int)-(k:Int)),eS1 8 (some ⟨x,0,none⟩) 1 f,yJ 9 ((0:Nat):Int),eS1 42 B (a.length+(k+0)) l,eS1 48 L 1 M,yJ 49 ((d:Int)-(k:Int))] [] ?_
   refine yD (d:=50) (fun E:{b:Nat // m0≤b}=>.slice (some ⟨E.1,0,none⟩) 1 1) (fun E Y=>Blk 3 Y E.1 #[.int .i64 ((d:Int)-(k:Int))]) (fun w R Q=>xF (m0:=m0) (q ▸ R.size) (t:=22) (e:=3) (n:=1) (sz:=1) (z:=.int .i64 0) (parts:=#[(0,Operand.tmp 49)]) (by kernel_rfl) (by kernel_rfl) (by kernel_rfl) (by kernel_rfl) (by kernel_rfl) (by kernel_rfl)) fun⟨a0,i0⟩=>?_
   refine xr 0 [eS1 0 B (a.length+(k+0)) l,yJ 1 2,yJ 2 (d:Int),eS1 6 none 0 0,yJ 7 ((d:Int)-(k:Int)),eS1 8 (some ⟨x,0,none⟩) 1 f,yJ 9 ((0:Nat):Int),eS1 42 B (a.length+(k+0)) l,eS1 48 L 1 M,eS1 50 (some ⟨a0,0,none⟩) 1 1] [] ?_
   refine lJ (d:=51) (k:=1) (n:=1) (m:=1) (cap:=M) (bytes:=8) (t:=22) (e:=3) (s0:=Operand.tmp 48) (x:=Operand.tmp 50) (xs:=[.int .i64 (k:Int)]) (news:=[.int .i64 ((d:Int)-(k:Int))]) (z:=.int .i64 0) J L (fun j X h=>Or.inl (q ▸ uD K.1 h)) a0 1 (fun w=>((OwnD w m 22 1 B l (a.length+(k+0)) (wR (a ++ o))∧kP.list.ok m0 w o)∧J≤w.heap.size)) (fun w R Q=>Q.1.1.1.2) (fun w Q=>Q.1.2) (fun w Q=>Blk.news Q.2) rfl (by decide) rfl (wG.list (by simp)) (by decide) (by simp[Value.oneCell']) (by simp) (by simp only[maxLen];omega) (by omega) (fun h=>by omega) (fun w w2 R Q O=>⟨⟨OwnD.other Q.1.1.1.1.1.1 Q.1.2 (by decide) O,Dp.rowB Q.1.1.1.1.1.2 K.2 Q.1.2 O⟩,uD Q.1.1.1.2 O.size⟩) fun s u j0=>?_
   refine xr 0 [eS1 0 B (a.length+(k+0)) l,yJ 1 2,yJ 2 (d:Int),eS1 6 none 0 0,yJ 7 ((d:Int)-(k:Int)),eS1 8 (some ⟨x,0,none⟩) 1 f,yJ 9 ((0:Nat):Int),eS1 42 B (a.length+(k+0)) l,eS1 51 s 2 u] [] ?_
   refine yD (d:=52) (fun E:{b:Nat // m0≤b}=>.slice (some ⟨E.1,0,none⟩) 1 1) (fun E Y=>Blk 22 Y E.1 #[.slice s 2 u]) (fun w R Q=>xF (m0:=m0) (q ▸ R.size) (t:=245) (e:=22) (n:=1) (sz:=1) (z:=.slice none 0 0) (parts:=#[(0,Operand.tmp 51)]) (by kernel_rfl) (by kernel_rfl) (by kernel_rfl) (by kernel_rfl) (by kernel_rfl) (by kernel_rfl)) fun⟨c0,k0⟩=>?_
   refine xr 0 [eS1 0 B (a.length+(k+0)) l,yJ 1 2,yJ 2 (d:Int),eS1 6 none 0 0,yJ 7 ((d:Int)-(k:Int)),eS1 8 (some ⟨x,0,none⟩) 1 f,yJ 9 ((0:Nat):Int),eS1 42 B (a.length+(k+0)) l,eS1 52 (some ⟨c0,0,none⟩) 1 1] [] ?_
   refine lJ (d:=53) (k:=1) (n:=(a.length+(k+0))) (m:=1) (cap:=l) (bytes:=24) (t:=245) (e:=22) (s0:=Operand.tmp 42) (x:=Operand.tmp 52) (xs:=wR (a ++ o)) (news:=[.slice s 2 u]) (z:=.slice none 0 0) m B (fun j X _=>(N j X).symm.imp (fun h=>q ▸ h) id) c0 1 (fun w=>(kP.list.ok m0 w o∧OwnD w J 3 1 s u (1+1) ([.int .i64 (k:Int)] ++ [.int .i64 ((d:Int)-(k:Int))]))) (fun w R Q=>uD hm R.size) (fun w Q=>Q.1.1.1.1) (fun w Q=>Blk.news Q.2) rfl (by decide) rfl (wG.list (by simp)) (by decide) (by simp[Value.oneCell']) (by simp) (by simp only[maxLen];omega) (by omega) G (fun w w2 R Q O=>⟨Dp.rowUp Q.1.1.1.2 Q.1.1.1.1 (by decide) O,OwnD.other Q.1.2 Q.1.1.1.1 (by decide) O⟩) fun H I d0=>?_
   refine xr 1 [eS1 0 H ((a.length+(k+0))+1) I,yJ 1 2,yJ 2 (d:Int),eS1 6 none 0 0,yJ 7 ((d:Int)-(k:Int)),eS1 8 (some ⟨x,0,none⟩) 1 f,yJ 9 ((0:Nat):Int)] [] ?_
   refine xe (xK (zB (zC (xq 2 [yJ 41 (IntKind.i64.wrap (((0:Nat):Int)+1))] [] ?_))))
   rw[(show IntKind.i64.wrap (((0:Nat):Int)+1)=((1:Nat):Int) from rfl)]
   refine xq 1 [yJ 9 ((1:Nat):Int)] [] ?_
   refine xe ?_
   refine yP [eS1 0 H (a.length+(k+1)) I,yJ 1 2,yJ 2 (d:Int),eS1 6 none 0 0,yJ 7 ((d:Int)-(k:Int)),eS1 8 (some ⟨x,0,none⟩) 1 f,yJ 9 ((1:Nat):Int)] [] (fun w=>((OwnD w m 22 1 H I (a.length+(k+1)) (wR (a ++ (o ++ [⟨⟨#[]⟩,s,u,[(k:Int),(d:Int)-(k:Int)]⟩])))∧kP.list.ok m0 w (o ++ [⟨⟨#[]⟩,s,u,[(k:Int),(d:Int)-(k:Int)]⟩]))∧(1=0→OwnD w m0 22 1 (some ⟨x,0,none⟩) f 1 [.slice (some ⟨y,0,none⟩) 1 r]∧OwnD w m0 3 1 (some ⟨y,0,none⟩) r 1 [.int .i64 (k:Int)]))) (fun w Q=>⟨⟨(by rw[←uO,Zdh];exact Q.2),(Dp.snoc Q.1.1 (OwnD.mono Q.1.2 K.1))⟩,(fun h=>absurd h (by decide))⟩) ?_
   exact xE ((1+(1-1))) (by omega) ⟨1,H,I,(o ++ [⟨⟨#[]⟩,s,u,[(k:Int),(d:Int)-(k:Int)]⟩]),rfl,rfl,(uR _),(by rw[uA,F];rfl),(ZmV U hd (by omega)),(fun j X=>(d0.2 j X).elim (N j) (fun h=>Or.inr (q ▸ h))),(fun h=>absurd h (by omega)),rfl⟩
  obtain rfl:j=1:=by have:=uE D;omega
  refine xN (zH (zH (xX (xK (zB (zC (xq 2 [(29,.v (.int .i64 (IntKind.i64.wrap (((d:Int)-(k:Int))-1))))] [] ?_)))))))
  rw[(show IntKind.i64.wrap ((d:Int)-(k:Int)-1)=(d:Int)-((k+1:Nat):Int) by rw[IntKind.wrap_i64];omega)]
  refine xq 1 [yJ 7 ((d:Int)-((k+1:Nat):Int))] [] ?_
  refine xe ?_
  refine yP [eS1 0 B (a.length+(k+1)) l,yJ 1 2,yJ 2 (d:Int),eS1 6 none 0 0,yJ 7 ((d:Int)-(((k+1):Nat):Int))] [] (fun w=>(OwnD w m 22 1 B l (a.length+(k+1)) (wR (a ++ o))∧kP.list.ok m0 w o)) (fun w Q=>⟨Q.1.1,Q.1.2⟩) ?_
  exact xE ((1+(d+1-(k+1)))) (by omega) ⟨(k+1),B,l,o,rfl,rfl,(by omega),(by omega),U,N,G,rfl⟩
 have V:k=d+1:=by have:=uE C;omega
 refine xN (zH (zH (xX (zB (zD (zC (xq 2 [eS1 6 B (a.length+k) l] [] ?_)))))))
 refine xe (zB (zI ?_))
 refine yR (.slice B (a.length+k) l) fun w' R Q=>?_
 subst V
 exact⟨B,l,o,U,by omega,by omega,by rw[F],by rw[F];exact Q.1,q ▸ Q.2,R,OwnD.ne (i:=0) Q.1 (by omega),q ▸ N⟩
theorem Zjs (A:Option Addr)(c m:Nat)(a:List TermR)(n d:Nat)(w:World)(i:n=1∨n=2)(f:OwnD w m 22 1 A c a.length (wR a))(g:m≤w.heap.size)(h:d≤2)(b:a.length≤1000)(e:a.length=0→A=none) :
 yA 226 #[.slice A a.length c,.int .i64 ((n:Nat):Int),.int .i64 ((d:Nat):Int)] w (ZeE m A a n w):=by
 rcases i with rfl|rfl
 ·exact ZnK A c m a d w f g h b e
 exact ZnL A c m a d w f g h b e
theorem ZmX {m0 n:Nat}{B:Option Addr}{a:List TermR}{w w':World}{e:Ending}(b:∀ j,B=some ⟨j,0,none⟩→m0≤j)(f:m0≤w.heap.size)(h:ZeE m0 B a n w e w') :
 ∃ x:{x:Option Addr×Nat × List TermR // ((∀ t∈x.2.2,EG n t)∧0<x.2.2.length∧x.2.2.length≤3)∧∀ j,x.1=some ⟨j,0,none⟩→m0≤j},e=.returned (.slice x.1.1 (a.length+x.1.2.2.length) x.1.2.1)∧Fr (fun i=>B=some ⟨i,0,none⟩) w w'∧BoxU (fun i=>B=some ⟨i,0,none⟩) w w' (fun w=>OwnD w m0 22 1 x.1.1 x.1.2.1 (a.length+x.1.2.2.length) (wR (a ++ x.1.2.2))∧kP.list.ok m0 w x.1.2.2):=by
 obtain⟨p,q,r,s,u,v,rfl,y,z,g,H,k⟩:=h
 refine⟨⟨(p,q,r),⟨s,u,v⟩,fun j A=>(k j A).elim (b j) (fun h=>uD f h)⟩,rfl,g,fun S C l m=>⟨y.fr m (fun i c D=>?_),?_⟩⟩
 ·obtain⟨o,d,_⟩:=l i D
  rcases k i c with h|h
  ·exact d h
  omega
 refine Dp.mono _ (Dp.old z m (fun i c=>?_)) f
 obtain⟨o,d,t,E,F,G⟩:=l i c
 exact⟨o,t,E,F.fr g d,G⟩
theorem ZlK (n d:Nat)(w:World)(J:n=1∨n=2)(N:d≤2) :
 yA 166 #[.int .i64 ((n:Nat):Int),.int .i64 ((d:Nat):Int)] w (fun e w'=>∃ x:LiR,(∀ t∈x.es,EG n t)∧0<x.es.length∧x.es.length≤9∧e=.returned (.slice x.A x.es.length x.c)∧dLi.ok w.heap.size w' x∧Ext w w'):=by
 obtain⟨b,l⟩:∃ m,m=w.heap.size:=⟨_,rfl⟩
 refine xB (Φ:=fun w=>True) Tryz.func166 rfl (by kernel_rfl) (fun w' O=>trivial) ?_
 refine zD (zC (xq 1 [eS1 4 none 0 0] [] ?_))
 refine xe (zB (zD (zC (xq 1 [eS1 5 none 0 0] [] ?_))))
 refine xe (zB (zD (zD (zC (xq 1 [yJ 6 0] [] ?_)))))
 refine xe (zB (zN ?_))
 refine yC [yJ 0 (n:Int),yJ 1 (d:Int),eS1 4 none 0 0,eS1 5 none 0 0,yJ 6 ((0:Nat):Int)] [] (fun w=>(OwnD w b 22 1 none 0 0 (wR ([]:List TermR))∧kP.list.ok b w ([]:List TermR))) (fun w Q=>⟨(OwnD.nil _ _ _ _),(Dp.none _ _ _)⟩) ?_
 refine xS (fun E F G=>∃ (k:Nat) (B:Option Addr) (o:Nat) (a:List TermR) (y:Nat),F=ofL [yJ 0 (n:Int),yJ 1 (d:Int),eS1 4 none 0 0,eS1 5 B y o,yJ 6 (k:Int)] []∧G=(fun w=>(OwnD w b 22 1 B o y (wR a)∧kP.list.ok b w a))∧(k≤d+1)∧(∀ t∈a,EG n t)∧(a.length≤3*k∧(0<k→0<a.length))∧(∀ j,B=some ⟨j,0,none⟩→b≤j)∧(a.length=0→B=none)∧(a.length=y)∧E=(1+(d+1-k))) ((1+(d+1-0))) ⟨0,none,0,([]:List TermR),0,rfl,rfl,(uM _),(fun t h=>by cases h),⟨uM _,fun h=>absurd h (by decide)⟩,(fun j h=>by cases h),(fun _=>rfl),rfl,rfl⟩ ?_
 rintro E F G ⟨k,B,o,a,y,rfl,rfl,P,H,I,s,u,C,rfl⟩
 subst C
 refine zD (zD (zC (xq 3 [yB 9 (decide ((k:Int)≤(d:Int)))] [] ?_)))
 refine xe (zB ?_)
 refine yQ ((decide ((k:Int)≤(d:Int)))) (fun f=>?_) fun f=>?_
 ·have D:k+1≤d+1:=by have:=uF f;omega
  refine zJ (zB (zD (zN (zC (xq 3 [eS1 12 B a.length o,yJ 13 (n:Int),yJ 14 (k:Int)] [] ?_)))))
  refine Zll (d:=15) (fun i=>B=some ⟨i,0,none⟩) 226 [.slice B a.length o,.int .i64 (n:Int),.int .i64 (k:Int)] (fun x:{x:Option Addr×Nat × List TermR // ((∀ t∈x.2.2,EG n t)∧0<x.2.2.length∧x.2.2.length≤3)∧∀ j,x.1=some ⟨j,0,none⟩→b≤j}=>.slice x.1.1 (a.length+x.1.2.2.length) x.1.2.1) (fun w=>kP.list.ok b w a) (fun x w=>OwnD w b 22 1 x.1.1 x.1.2.1 (a.length+x.1.2.2.length) (wR (a ++ x.1.2.2))∧kP.list.ok b w x.1.2.2) (fun i z=>⟨_,0,fun w Q=>OwnD.cell0 (z ▸ Q.1) (ZnI u z)⟩) (fun i z=>Or.inl (l ▸ s i z)) (fun w R Q=>(Zjs B o b a n k _ J Q.1 (l ▸ R.size) (by omega) (by omega) u).mono (fun _ _ h=>ZmX s (l ▸ R.size) h)) (fun w S R Q K=>Dp.rowUp Q.2 Q.1 (by decide) K) fun L=>?_
  obtain⟨⟨v,p,g⟩,q,r⟩:=L
  replace q:(∀ t∈g,EG n t)∧0<g.length∧g.length≤3:=q
  replace r:∀ j,v=some ⟨j,0,none⟩→b≤j:=r
  refine xr 1 [yJ 0 (n:Int),yJ 1 (d:Int),eS1 4 none 0 0,eS1 5 v (a.length+g.length) p,yJ 6 (k:Int)] [] ?_
  refine xe (xK (zB (zC (xq 2 [yJ 11 (IntKind.i64.wrap ((k:Int)+1))] [] ?_))))
  rw[(show IntKind.i64.wrap ((k:Int)+1)=((k+1:Nat):Int) by rw[IntKind.wrap_i64];omega)]
  refine xq 1 [yJ 6 ((k+1:Nat):Int)] [] ?_
  refine xe ?_
  refine yP [yJ 0 (n:Int),yJ 1 (d:Int),eS1 4 none 0 0,eS1 5 v (a.length+g.length) p,yJ 6 (((k+1):Nat):Int)] [] (fun w=>(OwnD w b 22 1 v p (a.length+g.length) (wR (a ++ g))∧kP.list.ok b w (a ++ g))) (fun w Q=>⟨Q.2.1,(Dp.app Q.1 Q.2.2)⟩) ?_
  exact xE ((1+(d+1-(k+1)))) (by omega) ⟨(k+1),v,p,(a ++ g),(a.length+g.length),rfl,rfl,D,(fun t h=>(vL.1 h).elim (H t) (q.1 t)),⟨by rw[uA];omega,fun _=>by rw[uA];omega⟩,r,(fun h=>by rw[uA] at h;omega),uA,rfl⟩
 have M:k=d+1:=by have:=uE f;omega
 refine xN (zH (zH (xX (zB (zD (zC (xq 2 [eS1 4 B a.length o] [] ?_)))))))
 refine xe (zB (zI ?_))
 refine yR (.slice B a.length o) fun w' R Q=>?_
 exact⟨⟨B,o,a⟩,H,I.2 (by omega),by have:=I.1;show a.length≤9;omega,rfl,l ▸ ⟨Q.1,Q.2⟩,R⟩
theorem Zhd {zs:List Int}{k:Nat}(h:∀ i,0≤nth zs i∧nth zs i≤1048576)(a:k≤6):IntKind.i64.wrap (sumT zs k+nth zs k)=sumT zs (k+1):=by
 have b:=Ze8 h k
 have c:=h k
 show IntKind.i64.wrap (sumT zs k+nth zs k)=sumT zs k+nth zs k
 rw[IntKind.wrap_i64];omega
theorem ZkF {zs a:List Int}{n:Nat}(b:zs.length=n)(c:a.length=n)(h:¬ sumT zs n=sumT a n):ordF zs a=cmpF (sumT zs n) (sumT a n):=by
 unfold ordF;rw[b,c,vP h]
theorem Zhe {zs a:List Int}{n:Nat}(b:zs.length=n)(c:a.length=n)(h:sumT zs n=sumT a n):ordF zs a=ordL zs a n:=by
 unfold ordF;rw[b,c,tA h]
theorem ZkG {a b:Int}(h:a<b):cmpF a b = -1:=by unfold cmpF;rw[tA h]
theorem ZkH {a b:Int}(h:b<a):cmpF a b=1:=by unfold cmpF;rw[vP (by omega),tA h]
theorem Zhf (A:Option Addr)(c:Nat)(zs:List Int)(w:World)(x:IRow w A zs)(L:zs.length≤9223372036854775807):yA 308 #[.slice A zs.length c] w fun e w'=>e=.returned (.int .i64 (degF zs))∧w'=w:=by
 obtain⟨n,y⟩:=yE zs.length
 unfold degF
 have D:=zh x
 have E:=zh y
 rw[y]
 clear x
 go_enter Tryz.func308,Tryz.ntmps308
 by_cases B:6<n
 ·rw[tA B]
  have i:(6:Int)<(n:Int):=by omega
  go_wp2
  go_ret
  exact⟨rfl,rfl⟩
 rw[vP B]
 have i:(n:Int)≤6:=by omega
 go_wp2
 go_loop [3,4] (fun F j=>∃ (k:Nat),k≤n∧j=.int .i64 (k:Int)∧F=.int .i64 (degT zs k)∧0≤degT zs k∧degT zs k≤24) (fun _ v=>n-(intOf v).toNat)
 case atStart=>exact⟨0,by omega,rfl,rfl,by simp[degT],by simp[degT]⟩
 case round =>
  obtain⟨k,M,rfl,rfl,G,l⟩:=hrel
  obtain⟨d,o⟩:=yE (degT zs k)
  rw[o] at G l ⊢
  by_cases p:k<n
  ·obtain⟨b,H,rfl,_,I⟩:=D.out k (by rw[E.out];exact p)
   obtain⟨z,q⟩:=yE (nth zs k)
   rw[q] at I
   have a:Hid (degT zs (k+1)=if d<0 then -1 else if z<0∨24-d<z then -1 else d+z):=by
    unfold Hid;rw[←o,← q];rfl
   have g:¬ d<0:=by omega
   have J:(0:Int)≤(k:Int):=by omega
   have K:(k:Int)<(n:Int):=by omega
   have N:IntKind.i64.wrap (24-d)=24-d:=IntWalk.i64_in _ (by omega)
   by_cases f:z<0∨24-d<z
   ·have C:Hid (degT zs n = -1):=by
     have h:=a.out
     rw[vP g,tA f] at h
     have r:∀ m,degT zs (k+1+m) = -1:=fun m=>by
      induction m with
      | zero=>exact h
      | succ m ih=>show (if degT zs (k+1+m)<0 then _ else _)=_;rw[ih];rfl
     have:=r (n-(k+1))
     rwa [show k+1+(n-(k+1))=n by omega] at this
    by_cases s:z<0
    ·go_wp2
     go_ret
     exact⟨by rw[C.out];rfl,rfl⟩
    have t:24-d<z:=by omega
    go_wp2
    go_ret
    exact⟨by rw[C.out];rfl,rfl⟩
   have O:IntKind.i64.wrap (d+z)=d+z:=IntWalk.i64_in _ (by omega)
   have s:¬ z<0:=by omega
   have t:¬ 24-d<z:=by omega
   have u:Hid (degT zs (k+1)=d+z):=by
    have h:=a.out
    rwa [vP g,vP f] at h
   clear o q a f
   go_wp2
   go_round
   case rel=>exact⟨k+1,by omega,by go_num,by rw[u.out],by rw[u.out];omega,by rw[u.out];omega⟩
   case measure=>simp[intOf];omega
  obtain rfl:k=n:=by omega
  go_wp2
  go_ret
  exact⟨rfl,rfl⟩
theorem ZhW (A:Option Addr)(c:Nat)(zs:List Int)(w:World)(b:IRow w A zs)(g:zs.length≤9223372036854775807):yA 271 #[.slice A zs.length c] w fun e w'=>e=.returned (.bool (decide (0≤degF zs)))∧w'=w:=by
 have H:=zh (Zhf A c zs w b g)
 obtain⟨n,d⟩:=yE zs.length
 have f:Hid (6<n→degF zs = -1):=zh (fun h=>by unfold degF;rw[tA (by omega)])
 rw[d] at H ⊢
 generalize degF zs=dz at H f ⊢
 clear b d
 go_enter Tryz.func271,Tryz.ntmps271
 by_cases i:6<n
 ·have a:(6:Int)<(n:Int):=by omega
  have j:=f.out i
  subst j
  go_wp2
  go_ret
  exact⟨rfl,rfl⟩
 have a:(n:Int)≤6:=by omega
 go_wp2_with fail
 refine H.out.mono ?_
 rintro e k ⟨rfl,rfl⟩
 go_wp2
 go_ret
 exact⟨rfl,rfl⟩
theorem ZhX (A B:Option Addr)(c d n:Nat)(zs a:List Int)(w:World)(F:IRow w A zs)(G:IRow w B a)(f:zs.length=n)(g:a.length=n)(D:cY zs)(H:cY a) :
 yA 228 #[.slice A n c,.slice B n d] w (RetV w (.int .i64 (ordF zs a))):=by
 have I:n≤6:=f ▸ D.1
 refine xB (Φ:=fun w=>(IRow w A zs∧IRow w B a)) Tryz.func228 rfl (by kernel_rfl) (fun w' E=>⟨F.ext E,G.ext E⟩) ?_
 refine zD (zC (xq 1 [yJ 4 0] [] ?_))
 refine xe (zB (zD (zC (xq 2 [yJ 5 0,yJ 6 0] [] ?_))))
 refine xe (zB (zD (zD (zC (xq 1 [yJ 7 0] [] ?_)))))
 refine xe (zB (zN ?_))
 refine yC [eS1 0 A n c,eS1 1 B n d,yJ 4 0,yJ 5 (sumT zs 0),yJ 6 (sumT a 0),yJ 7 ((0:Nat):Int)] [] (fun w=>(IRow w A zs∧IRow w B a)) (fun w Q=>⟨Q.1,Q.2⟩) ?_
 refine xS (fun r s u=>∃ (k:Nat),s=ofL [eS1 0 A n c,eS1 1 B n d,yJ 4 0,yJ 5 (sumT zs k),yJ 6 (sumT a k),yJ 7 (k:Int)] []∧u=(fun w=>(IRow w A zs∧IRow w B a))∧(k≤n)∧r=(1+(n-k))) ((1+(n-0))) ⟨0,rfl,rfl,(uM _),rfl⟩ ?_
 rintro r s u ⟨k,rfl,rfl,J,rfl⟩
 refine zD (zD (zC (xq 4 [yB 12 (decide ((k:Int)<(n:Int)))] [] ?_)))
 refine xe (zB ?_)
 refine yQ ((decide ((k:Int)<(n:Int)))) (fun h=>?_) fun h=>?_
 ·have C:k<n:=by have:=uF h;omega
  refine zJ (zB (zD (zN ?_)))
  refine yO 14 zK ?_
  refine xqg 3 [yJ 15 (sumT zs k),eS1 16 A n c,yJ 17 (k:Int)] ?_
  refine xqj 18 (atA A (k*1)) (fun w Q=>wT (t:=22) (e:=3) (sz:=1) (x:=.tmp 16) (ix:=.tmp 17) (len:=n) (cap:=c) (i:=k) ((Q.1).ne (i:=k) (by omega)) (by omega)) ?_
  refine xqj 19 (.int .i64 (nth zs k)) (fun w Q=>kI (t:=3) (x:=.tmp 18) (zs:=zs) (j:=k) (Q.1) (by omega)) ?_
  refine xqg 1 [yJ 20 (IntKind.i64.wrap ((sumT zs k)+(nth zs k)))] ?_
  rw[(Zhd D.2 (by omega):IntKind.i64.wrap (sumT zs k+nth zs k)=sumT zs (k+1))]
  refine xqg 3 [yJ 21 (sumT a k),eS1 22 B n d,yJ 23 (k:Int)] ?_
  refine xqj 24 (atA B (k*1)) (fun w Q=>wT (t:=22) (e:=3) (sz:=1) (x:=.tmp 22) (ix:=.tmp 23) (len:=n) (cap:=d) (i:=k) ((Q.2).ne (i:=k) (by omega)) (by omega)) ?_
  refine xqj 25 (.int .i64 (nth a k)) (fun w Q=>kI (t:=3) (x:=.tmp 24) (zs:=a) (j:=k) (Q.2) (by omega)) ?_
  refine xqg 1 [yJ 26 (IntKind.i64.wrap ((sumT a k)+(nth a k)))] ?_
  rw[(Zhd H.2 (by omega):IntKind.i64.wrap (sumT a k+nth a k)=sumT a (k+1))]
  refine xqg 2 [yJ 5 (sumT zs (k+1)),yJ 6 (sumT a (k+1))] ?_
  refine xz (xe (xK (zB (zC (xq 2 [yJ 14 (IntKind.i64.wrap ((k:Int)+1))] [] ?_)))))
  rw[(show IntKind.i64.wrap ((k:Int)+1)=((k+1:Nat):Int) by rw[IntKind.wrap_i64];omega)]
  refine xq 1 [yJ 7 ((k+1:Nat):Int)] [] ?_
  refine xe ?_
  refine yP [eS1 0 A n c,eS1 1 B n d,yJ 4 0,yJ 5 (sumT zs (k+1)),yJ 6 (sumT a (k+1)),yJ 7 (((k+1):Nat):Int)] [] (fun w=>(IRow w A zs∧IRow w B a)) (fun w Q=>⟨Q.1,Q.2⟩) ?_
  exact xE ((1+(n-(k+1)))) (by omega) ⟨(k+1),rfl,rfl,C,rfl⟩
 have K:n≤k:=by have:=uE h;omega
 obtain rfl:n=k:=by omega
 refine xN (zH (zH (xX (zB (zD (zD ?_))))))
 by_cases p:sumT zs n=sumT a n
 ·refine zC (xq 3 [yB 29 (((sumT zs n):Int) != (sumT a n))] [] ?_)
  rw[(show ((sumT zs n:Int) != sumT a n)=false by simp[p])]
  refine xe (zB (xb (zJ (zB (zD (zD (zC (xq 3 [yJ 35 (IntKind.i64.wrap ((n:Int)-1))] [] ?_))))))))
  rw[(show IntKind.i64.wrap ((n:Int)-1)=(n:Int)-1 by rw[IntKind.wrap_i64];omega)]
  refine xq 1 [yJ 8 ((n:Int)-1)] [] ?_
  refine xe (zB (zN ?_))
  refine yC [eS1 0 A n c,eS1 1 B n d,yJ 4 0,yJ 8 ((n:Int)-1)] [] (fun w=>(IRow w A zs∧IRow w B a)) (fun w Q=>⟨Q.1,Q.2⟩) ?_
  refine xS (fun r s u=>∃ (k:Nat),s=ofL [eS1 0 A n c,eS1 1 B n d,yJ 4 0,yJ 8 ((k:Int)-1)] []∧u=(fun w=>(IRow w A zs∧IRow w B a))∧(k≤n)∧(ordL zs a n=ordL zs a k)∧r=(1+k)) ((1+n)) ⟨n,rfl,rfl,(uR _),rfl,rfl⟩ ?_
  rintro r s u ⟨k,rfl,rfl,J,b,rfl⟩
  refine zD (zD (zC (xq 2 [(37,.v (.bool (decide (((k:Int)-1)≥0))))] [] ?_)))
  refine xe (zB ?_)
  refine yQ ((decide (((k:Int)-1)≥0))) (fun l=>?_) fun l=>?_
  ·have y:0<k:=by have:=uF l;omega
   obtain⟨m,rfl⟩:∃ m,k=m+1:=⟨k-1,by omega⟩
   rw[show ((m+1:Nat):Int)-1=(m:Int) by omega]
   refine zJ (zB (zD (zN (zD ?_))))
   by_cases q:nth zs m=nth a m
   ·refine yO 9 zK ?_
    refine xqg 2 [eS1 40 A n c,yJ 41 (m:Int)] ?_
    refine xqj 42 (atA A (m*1)) (fun w Q=>wT (t:=22) (e:=3) (sz:=1) (x:=.tmp 40) (ix:=.tmp 41) (len:=n) (cap:=c) (i:=m) ((Q.1).ne (i:=m) (by omega)) (by omega)) ?_
    refine xqj 43 (.int .i64 (nth zs m)) (fun w Q=>kI (t:=3) (x:=.tmp 42) (zs:=zs) (j:=m) (Q.1) (by omega)) ?_
    refine xqg 2 [eS1 44 B n d,yJ 45 (m:Int)] ?_
    refine xqj 46 (atA B (m*1)) (fun w Q=>wT (t:=22) (e:=3) (sz:=1) (x:=.tmp 44) (ix:=.tmp 45) (len:=n) (cap:=d) (i:=m) ((Q.2).ne (i:=m) (by omega)) (by omega)) ?_
    refine xqj 47 (.int .i64 (nth a m)) (fun w Q=>kI (t:=3) (x:=.tmp 46) (zs:=a) (j:=m) (Q.2) (by omega)) ?_
    refine xqg 1 [yB 48 (((nth zs m):Int) != (nth a m))] ?_
    rw[(show ((nth zs m:Int) != nth a m)=false by simp[q])]
    refine xz (xe (zB (xb (zJ (xK (zB (zC (xq 2 [yJ 39 (IntKind.i64.wrap ((m:Int)-1))] [] ?_))))))))
    rw[(show IntKind.i64.wrap ((m:Int)-1)=(m:Int)-1 by rw[IntKind.wrap_i64];omega)]
    refine xq 1 [yJ 8 ((m:Int)-1)] [] ?_
    refine xe ?_
    refine yP [eS1 0 A n c,eS1 1 B n d,yJ 4 0,yJ 8 ((m:Int)-1)] [] (fun w=>(IRow w A zs∧IRow w B a)) (fun w Q=>⟨Q.1,Q.2⟩) ?_
    exact xE ((1+m)) (by omega) ⟨m,rfl,rfl,(by omega),(by rw[b];show (if nth zs m=nth a m then _ else _)=_;rw[tA q]),rfl⟩
   by_cases z:nth zs m>nth a m
   ·refine yO 9 zK ?_
    refine xqg 2 [eS1 40 A n c,yJ 41 (m:Int)] ?_
    refine xqj 42 (atA A (m*1)) (fun w Q=>wT (t:=22) (e:=3) (sz:=1) (x:=.tmp 40) (ix:=.tmp 41) (len:=n) (cap:=c) (i:=m) ((Q.1).ne (i:=m) (by omega)) (by omega)) ?_
    refine xqj 43 (.int .i64 (nth zs m)) (fun w Q=>kI (t:=3) (x:=.tmp 42) (zs:=zs) (j:=m) (Q.1) (by omega)) ?_
    refine xqg 2 [eS1 44 B n d,yJ 45 (m:Int)] ?_
    refine xqj 46 (atA B (m*1)) (fun w Q=>wT (t:=22) (e:=3) (sz:=1) (x:=.tmp 44) (ix:=.tmp 45) (len:=n) (cap:=d) (i:=m) ((Q.2).ne (i:=m) (by omega)) (by omega)) ?_
    refine xqj 47 (.int .i64 (nth a m)) (fun w Q=>kI (t:=3) (x:=.tmp 46) (zs:=a) (j:=m) (Q.2) (by omega)) ?_
    refine xqg 1 [yB 48 (((nth zs m):Int) != (nth a m))] ?_
    rw[(show ((nth zs m:Int) != nth a m)=true by simp[q])]
    refine xz (xe (zB (xa (zD (zD ?_)))))
    refine yO 9 zK ?_
    refine xqg 2 [eS1 49 A n c,yJ 50 (m:Int)] ?_
    refine xqj 51 (atA A (m*1)) (fun w Q=>wT (t:=22) (e:=3) (sz:=1) (x:=.tmp 49) (ix:=.tmp 50) (len:=n) (cap:=c) (i:=m) ((Q.1).ne (i:=m) (by omega)) (by omega)) ?_
    refine xqj 52 (.int .i64 (nth zs m)) (fun w Q=>kI (t:=3) (x:=.tmp 51) (zs:=zs) (j:=m) (Q.1) (by omega)) ?_
    refine xqg 2 [eS1 53 B n d,yJ 54 (m:Int)] ?_
    refine xqj 55 (atA B (m*1)) (fun w Q=>wT (t:=22) (e:=3) (sz:=1) (x:=.tmp 53) (ix:=.tmp 54) (len:=n) (cap:=d) (i:=m) ((Q.2).ne (i:=m) (by omega)) (by omega)) ?_
    refine xqj 56 (.int .i64 (nth a m)) (fun w Q=>kI (t:=3) (x:=.tmp 55) (zs:=a) (j:=m) (Q.2) (by omega)) ?_
    refine xqg 1 [yB 57 (decide ((nth zs m)>(nth a m)))] ?_
    rw[(show decide (nth zs m>nth a m)=true from uI z)]
    refine xz (xe (zB (xa (zD (zC (xq 1 [yJ 4 (-1)] [] ?_))))))
    refine xe (zB (zI (zE (xP (zE (zE (xP (zE ?_))))))))
    refine yR (.int .i64 (-1)) fun w' R Q=>?_
    exact⟨by rw[Zhe f g p,b];show Ending.returned (.int .i64 _)=.returned (.int .i64 (if nth zs m=nth a m then _ else _));rw[vP q,ZkG (by omega)],R⟩
   refine yO 9 zK ?_
   refine xqg 2 [eS1 40 A n c,yJ 41 (m:Int)] ?_
   refine xqj 42 (atA A (m*1)) (fun w Q=>wT (t:=22) (e:=3) (sz:=1) (x:=.tmp 40) (ix:=.tmp 41) (len:=n) (cap:=c) (i:=m) ((Q.1).ne (i:=m) (by omega)) (by omega)) ?_
   refine xqj 43 (.int .i64 (nth zs m)) (fun w Q=>kI (t:=3) (x:=.tmp 42) (zs:=zs) (j:=m) (Q.1) (by omega)) ?_
   refine xqg 2 [eS1 44 B n d,yJ 45 (m:Int)] ?_
   refine xqj 46 (atA B (m*1)) (fun w Q=>wT (t:=22) (e:=3) (sz:=1) (x:=.tmp 44) (ix:=.tmp 45) (len:=n) (cap:=d) (i:=m) ((Q.2).ne (i:=m) (by omega)) (by omega)) ?_
   refine xqj 47 (.int .i64 (nth a m)) (fun w Q=>kI (t:=3) (x:=.tmp 46) (zs:=a) (j:=m) (Q.2) (by omega)) ?_
   refine xqg 1 [yB 48 (((nth zs m):Int) != (nth a m))] ?_
   rw[(show ((nth zs m:Int) != nth a m)=true by simp[q])]
   refine xz (xe (zB (xa (zD (zD ?_)))))
   refine yO 9 zK ?_
   refine xqg 2 [eS1 49 A n c,yJ 50 (m:Int)] ?_
   refine xqj 51 (atA A (m*1)) (fun w Q=>wT (t:=22) (e:=3) (sz:=1) (x:=.tmp 49) (ix:=.tmp 50) (len:=n) (cap:=c) (i:=m) ((Q.1).ne (i:=m) (by omega)) (by omega)) ?_
   refine xqj 52 (.int .i64 (nth zs m)) (fun w Q=>kI (t:=3) (x:=.tmp 51) (zs:=zs) (j:=m) (Q.1) (by omega)) ?_
   refine xqg 2 [eS1 53 B n d,yJ 54 (m:Int)] ?_
   refine xqj 55 (atA B (m*1)) (fun w Q=>wT (t:=22) (e:=3) (sz:=1) (x:=.tmp 53) (ix:=.tmp 54) (len:=n) (cap:=d) (i:=m) ((Q.2).ne (i:=m) (by omega)) (by omega)) ?_
   refine xqj 56 (.int .i64 (nth a m)) (fun w Q=>kI (t:=3) (x:=.tmp 55) (zs:=a) (j:=m) (Q.2) (by omega)) ?_
   refine xqg 1 [yB 57 (decide ((nth zs m)>(nth a m)))] ?_
   rw[(show decide (nth zs m>nth a m)=false from uH z)]
   refine xz (xe (zB (xb (zJ (zB (zD (zC (xq 1 [yJ 4 1] [] ?_))))))))
   refine xe (zB (zI (xP (zE (zE (xP (zE ?_)))))))
   refine yR (.int .i64 1) fun w' R Q=>?_
   exact⟨by rw[Zhe f g p,b];show Ending.returned (.int .i64 _)=.returned (.int .i64 (if nth zs m=nth a m then _ else _));rw[vP q,ZkH (by omega)],R⟩
  have y:k=0:=by have:=uE l;omega
  refine xN (zH (zH (xX (zB (zD (zC (xq 1 [yJ 4 0] [] ?_)))))))
  refine xe (zB (zI ?_))
  refine yR (.int .i64 0) fun w' R Q=>?_
  exact⟨by rw[Zhe f g p,b,y];rfl,R⟩
 by_cases o:sumT zs n<sumT a n
 ·refine zC (xq 3 [yB 29 (((sumT zs n):Int) != (sumT a n))] [] ?_)
  rw[(show ((sumT zs n:Int) != sumT a n)=true by simp[p])]
  refine xe (zB (xa (zD (zD (zC (xq 3 [yB 32 (decide ((sumT zs n)<(sumT a n)))] [] ?_))))))
  rw[(show decide (sumT zs n<sumT a n)=true from uI o)]
  refine xe (zB (xa (zD (zC (xq 1 [yJ 4 (-1)] [] ?_)))))
  refine xe (zB (zI (zE (zE ?_))))
  refine yR (.int .i64 (-1)) fun w' R Q=>?_
  exact⟨by rw[ZkF f g p,ZkG o],R⟩
 refine zC (xq 3 [yB 29 (((sumT zs n):Int) != (sumT a n))] [] ?_)
 rw[(show ((sumT zs n:Int) != sumT a n)=true by simp[p])]
 refine xe (zB (xa (zD (zD (zC (xq 3 [yB 32 (decide ((sumT zs n)<(sumT a n)))] [] ?_))))))
 rw[(show decide (sumT zs n<sumT a n)=false from uH o)]
 refine xe (zB (xb (zJ (zB (zD (zC (xq 1 [yJ 4 1] [] ?_)))))))
 refine xe (zB (zI (zE ?_)))
 refine yR (.int .i64 1) fun w' R Q=>?_
 exact⟨by rw[ZkF f g p,ZkH (by omega)],R⟩
theorem ZfU (A B:Option Addr)(c d:Nat)(zs a:List Int)(w:World)(b:a.length=zs.length)(e:IRow w A zs)(f:IRow w B a)(g:cY zs)(i:cY a) :
 yA 228 #[.slice A zs.length c,.slice B a.length d] w (RetV w (.int .i64 (ordF zs a))):=by
 have h:=ZhX A B c d zs.length zs a w e f rfl b g i
 rw[b];exact h
def TsAt (w:World) (A:Option Addr) (ts:List RT):Prop:=∀ i,i<ts.length→∃ b off,A=some ⟨b,off,none⟩∧b<w.heap.size∧∀ j v,(RT.cells ts[i]!)[j]? = some v→w.cell? ⟨b,off+(i*5+j),none⟩=some v
abbrev wC (ts:List RT):List Value:=ts.flatMap RT.cells
theorem jW (ts:List RT)(t:RT):wC (ts ++ [t])=wC ts ++ RT.cells t:=by unfold wC;simp
section
variable {w w':World} {A:Option Addr} {ts:List RT}
theorem TsAt.ext (h:TsAt w A ts)(a:Ext w w'):TsAt w' A ts:=fun i d=>by
 obtain⟨b,off,rfl,c,g⟩:=h i d
 exact⟨b,off,rfl,uX c a.size,fun j v k=>(a.cell (p:=⟨b,off+(i*5+j),none⟩) c (fun f=>f)).trans (g j v k)⟩
theorem ZmY {ts:List RT}{h i:Nat}(hi:i<(ts.take h).length):(ts.take h)[i]! = ts[i]! := by
 rw[uL] at hi
 rw[getElem!_pos _ i (by rw[uL];omega),getElem!_pos ts i (by omega),List.getElem_take]
theorem ZmZ {ts:List RT}{h i:Nat}(hi:i<(ts.drop h).length):(ts.drop h)[i]! = ts[h+i]! := by
 rw[vJ] at hi
 rw[getElem!_pos _ i (by rw[vJ];omega),getElem!_pos ts (h+i) (by omega),List.getElem_drop]
theorem fJ {ts:List RT}{i:Nat}{t:RT}(hi:i<ts.length)(a:ts[i]! = t):t∈ts:=by
 rw[←a,getElem!_pos ts i hi];exact tY hi
theorem TsAt.take {h:Nat}(c:TsAt w A ts)(_:h≤ts.length):TsAt w A (ts.take h):=fun i a=>by
 rw[ZmY a]
 exact c i (by rw[uL] at a;omega)
theorem TsAt.drop {h:Nat}(c:TsAt w A ts)(_:h≤ts.length):TsAt w (A.map (·.add (h*5))) (ts.drop h):=fun i a=>by
 rw[ZmZ a]
 rw[vJ] at a
 obtain⟨b,off,rfl,d,f⟩:=c (h+i) (by omega)
 refine⟨b,off+h*5,by rw[sH,iC],d,fun j v g=>?_⟩
 rw[←f j v g,uT,show off+h*5+(i*5+j)=off+(h*5+i*5+j) by omega]
theorem TsAt.own {m c n:Nat}(h:OwnD w m 248 5 A c n (wC ts)):TsAt w A ts:=fun i f=>by
 have g:(RT.cells ts[i]!).length=5:=rfl
 have p:=aS (enc:=RT.cells) (k:=5) (fun _=>rfl) ts i 0 f (by decide)
 rw[List.getElem?_eq_getElem (l:=RT.cells ts[i]!) (by rw[g];decide)] at p
 obtain⟨b,q,s,_⟩:=h.at p
 refine⟨b,0,q,s,fun j v hj=>?_⟩
 have d:j<5:=by
  rcases uZ j 5 with h|h
  ·exact h
  rw[List.getElem?_eq_none (by rw[g];exact h)] at hj;cases hj
 have r:=aS (enc:=RT.cells) (k:=5) (fun _=>rfl) ts i j f d
 rw[hj] at r
 obtain⟨y,a,_,u⟩:=h.at r
 rw[q] at a
 injection a with a
 injection a with a
 subst a
 exact u
end
def EX (n:Nat) (ex:List Int):Prop:=ex.length=n∧∀ x∈ex,0≤x∧x≤2
def rk:List Int→Int
 | [a]=>a
 | [a,b]=>(a+b)*8+a
 | _=>0
theorem ZcR {n:Nat}{c:List Int}(g:n=1∨n=2)(h:EX n c):(∃ a,c=[a]∧0≤a∧a≤2∧n=1)∨∃ a b,c=[a,b]∧(0≤a∧a≤2)∧(0≤b∧b≤2)∧n=2:=by
 obtain⟨f,d⟩:=h
 rcases g with rfl|rfl
 ·obtain⟨a,rfl⟩:=qL.1 f
  have:=d a (by simp)
  exact Or.inl ⟨a,rfl,this.1,this.2,rfl⟩
 obtain⟨a,b,rfl⟩:∃ a b,c=[a,b]:=by
  match c,f with
  | [a,b],_=>exact⟨a,b,rfl⟩
 exact Or.inr ⟨a,b,rfl,d a (by simp),d b (by simp),rfl⟩
theorem Zgl {n:Nat}{ex:List Int}(c:n=1∨n=2)(h:EX n ex):cY ex:=by
 refine⟨by have:=h.1;omega,fun i=>?_⟩
 unfold nth
 rcases uZ i ex.length with a|a
 ·rw[List.getElem?_eq_getElem a]
  have:=h.2 _ (tY a)
  exact⟨this.1,by show ex[i]≤_;omega⟩
 rw[List.getElem?_eq_none a];exact⟨by decide,by decide⟩
theorem ZkI {n:Nat}{a c:List Int}(_:n=1∨n=2)(h:EX n a)(d:EX n c):c.length=a.length:=by rw[h.1,d.1]
theorem Zbb {n:Nat}{f g:List Int}(i:n=1∨n=2)(h:EX n f)(j:EX n g):ordF f g=cmpF (rk f) (rk g):=by
 rcases ZcR i h with ⟨a,rfl,k,l,e⟩|⟨a,b,rfl,k,l,e⟩<;>rcases ZcR i j with ⟨c,rfl,m,p,q⟩|⟨c,d,rfl,m,p,q⟩<;>try omega
 ·simp[ordF,sumT,ordL,nth,cmpF,rk]
  omega
 simp[ordF,sumT,ordL,nth,cmpF,rk]
 (repeat' split)<;>omega
theorem ZnM {n:Nat}{ex a:List Int}(d:n=1∨n=2)(h:EX n ex)(f:EX n a)(c:ordF ex a≥0):rk a≤rk ex:=by
 rw[Zbb d h f] at c
 unfold cmpF at c
 (repeat' split at c)<;>omega
theorem ZnN {n:Nat}{a ey:List Int}(d:n=1∨n=2)(h:EX n a)(f:EX n ey)(c:¬ ordF a ey≥0):rk a≤rk ey:=by
 rw[Zbb d h f] at c
 unfold cmpF at c
 (repeat' split at c)<;>omega
def Desc (ys:List RT):Prop:=ys.Pairwise (fun a b=>rk b.ex≤rk a.ex)
structure SoP (ts:List RT) (c:Nat) (ys:List RT):Prop where
 len:ys.length=ts.length
 mem:∀ y∈ys,y∈ts
 desc:Desc ys
 cap:ys.length≤c
theorem SoP.self {ts:List RT}{c:Nat}(h:ts.length<2)(a:ts.length≤c):SoP ts c ts:=⟨rfl,fun _ h=>h,by
 unfold Desc
 match ts,h with
 | [],_=>exact List.Pairwise.nil
 | [t],_=>exact qK _ _,a⟩
def SoR (w:World) (m:Nat) (A0:Option Addr) (ts0:List RT) (A:Option Addr) (c:Nat) (ys:List RT):Prop:=(A=A0∧ys=ts0)∨OwnD w m 248 5 A c ys.length (wC ys)
def SoB (m1:Nat) (A0:Option Addr) (ts0:List RT) (A:Option Addr) (ys:List RT):Prop:=(A=A0∧ys=ts0)∨∀ i,A=some ⟨i,0,none⟩→i<m1
def Zcu (A0:Option Addr) (ts0:List RT) (w:World) (e:Ending) (w':World):Prop:=∃ A c ys,SoP ts0 c ys∧e=.returned (.slice A ys.length c)∧SoR w' w.heap.size A0 ts0 A c ys∧Ext w w'
theorem SoR.at {w:World}{m:Nat}{d:Option Addr}{a:List RT}{A:Option Addr}{c:Nat}{ys:List RT}(h:SoR w m d a A c ys)(f:TsAt w d a):TsAt w A ys:=by
 rcases h with ⟨rfl,rfl⟩|h
 ·exact f
 exact TsAt.own h
theorem SoR.below {w:World}{m:Nat}{d:Option Addr}{a:List RT}{A:Option Addr}{c:Nat}{ys:List RT}(h:SoR w m d a A c ys):SoB w.heap.size d a A ys:=by
 rcases h with h|h
 ·exact Or.inl h
 exact Or.inr (fun i f=>by obtain⟨_,_,g,_⟩:=h.blk f;exact g.lt)
theorem SoR.keep {w w':World}{m g n j k:Nat}{e:TypeId}{f:Option Addr}{a:List RT}{A B:Option Addr}{c:Nat}{ys:List RT}{xs:List Value}(h:SoR w m f a A c ys)(d:SoB g f a A ys)(l:OwnD w g e k B j n xs)(p:Fr (fun i=>B=some ⟨i,0,none⟩) w w'):SoR w' m f a A c ys:=by
 rcases h with h|h
 ·exact Or.inl h
 rcases d with d|d
 ·exact Or.inl d
 exact Or.inr (h.fr p (fun i q r=>by have:=d i q;have:=(l.blk r).1;omega))
theorem Zff {m0:Nat}{f:Option Addr}{a:List RT}{w w':World}{e:Ending}(g:m0≤w.heap.size)(h:Zcu f a w e w'):wS (fun x:{x:Option Addr×Nat × List RT // SoP a x.2.1 x.2.2}=>.slice x.1.1 x.1.2.2.length x.1.2.1) (fun x w=>SoR w m0 f a x.1.1 x.1.2.1 x.1.2.2) w e w':=by
 obtain⟨A,c,j,k,rfl,d,Q⟩:=h
 refine⟨⟨(A,c,j),k⟩,rfl,Q,fun S l m n=>?_⟩
 rcases d with d|d
 ·exact Or.inl d
 exact Or.inr ((d.fr n (fun i p q=>by have:=(d.blk p).1;have:=(l i q).1;omega)).mono g)
theorem OwnD.le {w:World}{m n c k:Nat}{e:TypeId}{A:Option Addr}{xs:List Value}(h:OwnD w m e k A c n xs):n≤c:=by
 rcases h.2 with ⟨_,a,d⟩|⟨_,_,_,_,_,_,h,_⟩<;>omega
structure MInv (ts aa bs zs:List RT) (i k:Nat):Prop where
 hi:i≤aa.length
 hk:k≤bs.length
 len:zs.length=i+k
 mem:∀ z∈zs,z∈ts
 mA:∀ z∈aa,z∈ts
 mB:∀ z∈bs,z∈ts
 pa:Desc aa
 pb:Desc bs
 pz:Desc zs
 top:∀ z∈zs,(∀ y∈aa.drop i,rk y.ex≤rk z.ex)∧∀ y∈bs.drop k,rk y.ex≤rk z.ex
theorem MInv.start {ts a d:List RT}{h c f:Nat}(ha:SoP (ts.take h) c a)(hb:SoP (ts.drop h) f d)(mA:∀ z∈a,z∈ts)(mB:∀ z∈d,z∈ts):MInv ts a d [] 0 0 :=
 ⟨uM _,uM _,rfl,fun z h=>by (cases h),mA,mB,ha.desc,hb.desc,List.Pairwise.nil,fun z h=>by (cases h)⟩
theorem fK {c:List RT}{i:Nat}{t:RT}(h:Desc c)(hi:i<c.length)(g:c[i]! = t):c.drop i=t :: c.drop (i+1)∧∀ y∈c.drop i,rk y.ex≤rk t.ex:=by
 have e:c.drop i=t :: c.drop (i+1):=by rw[tM hi,← g,getElem!_pos c i hi]
 have f:(c.drop i).Pairwise (fun a b=>rk b.ex≤rk a.ex):=List.Pairwise.sublist (List.drop_sublist i c) h
 refine⟨e,fun y d=>?_⟩
 rw[e] at f d
 rcases tX.1 d with rfl|d
 ·exact Int.le_refl _
 exact (List.pairwise_cons.1 f).1 y d
theorem ZfV {zs:List RT}{t:RT}(h:Desc zs)(a:∀ z∈zs,rk t.ex≤rk z.ex):Desc (zs ++ [t]):=by
 unfold Desc
 rw[sR]
 exact⟨h,qK _ _,fun z c y d=>by obtain rfl:=vH.1 d;exact a z c⟩
theorem MInv.left {ts d c zs:List RT}{i k:Nat}{t:RT}(h:MInv ts d c zs i k)(hi:i<d.length)(g:d[i]! = t)(f:c.length≤k∨∃ (_:k<c.length) (u:RT) (_:c[k]! = u),rk u.ex≤rk t.ex):MInv ts d c (zs ++ [t]) (i+1) k:=by
 obtain⟨e,j⟩:=fK h.pa hi g
 refine⟨hi,h.hk,by rw[uA,h.len];simp;omega,fun z a=>?_,h.mA,h.mB,h.pa,h.pb,ZfV h.pz (fun z a=>(h.top z a).1 t (by rw[e];simp)),fun z a=>?_⟩
 ·rcases vL.1 a with a|a
  ·exact h.mem z a
  obtain rfl:=vH.1 a;exact h.mA _ (fJ hi g)
 rcases vL.1 a with a|a
 ·exact⟨fun y hy=>(h.top z a).1 y (by rw[e];exact tD _ hy),(h.top z a).2⟩
 obtain rfl:=vH.1 a
 refine⟨fun y hy=>j y (by rw[e];exact tD _ hy),fun y hy=>?_⟩
 rcases f with f|⟨l,u,m,n⟩
 ·rw[qP f] at hy;cases hy
 exact Int.le_trans ((fK h.pb l m).2 y hy) n
theorem MInv.right {ts c d zs:List RT}{i k:Nat}{u:RT}(h:MInv ts c d zs i k)(f:k<d.length)(j:d[k]! = u)(g:c.length≤i∨∃ (_:i<c.length) (t:RT) (_:c[i]! = t),rk t.ex≤rk u.ex):MInv ts c d (zs ++ [u]) i (k+1):=by
 obtain⟨e,l⟩:=fK h.pb f j
 refine⟨h.hi,f,by rw[uA,h.len];simp;omega,fun z a=>?_,h.mA,h.mB,h.pa,h.pb,ZfV h.pz (fun z a=>(h.top z a).2 u (by rw[e];simp)),fun z a=>?_⟩
 ·rcases vL.1 a with a|a
  ·exact h.mem z a
  obtain rfl:=vH.1 a;exact h.mB _ (fJ f j)
 rcases vL.1 a with a|a
 ·exact⟨(h.top z a).1,fun y hy=>(h.top z a).2 y (by rw[e];exact tD _ hy)⟩
 obtain rfl:=vH.1 a
 refine⟨fun y hy=>?_,fun y hy=>l y (by rw[e];exact tD _ hy)⟩
 rcases g with g|⟨m,t,n,p⟩
 ·rw[qP g] at hy;cases hy
 exact Int.le_trans ((fK h.pa m n).2 y hy) p
theorem MInv.done {ts a d zs:List RT}{h c:Nat}(f:MInv ts a d zs a.length d.length)(g:a.length=(ts.take h).length)(i:d.length=(ts.drop h).length)(j:zs.length≤c):SoP ts c zs :=
 ⟨by rw[f.len,g,i,uL,vJ];omega,f.mem,f.pz,j⟩
section
variable {P:Program} {o:Oper} {ρ:Operand→Value} {w:World} {t e:TypeId} {x:Operand}
theorem Zm0 {A:Option Addr}{len cap h sz:Nat}{hi:Operand}(d:h≤cap)(f:o.op=Op.slice t x none (some hi) none:=by kernel_rfl)(g:P.underlying t=some (.slice e):=by kernel_rfl)(j:(P.info? e).map (fun i=>i.size)=some sz:=by kernel_rfl)(k:ρ x=.slice A len cap:=by kernel_rfl)(l:ρ hi=.int .i64 (h:Int):=by kernel_rfl):(execOp ρ o).run P w=.ok (.value (.slice A h cap)) w:=by
 obtain⟨m,c,_⟩:=uV.1 j
 have n:A.map (fun a=>a.add 0)=A:=by cases A with
  | none=>rfl
  | some a=>simp[Addr.add]
 simp[execOp,f,Instr.sliceAt,Instr.slice,Instr.sliceBounds,Instr.sliceBound,asIntOf,underlying,g,k,l,d,sizeOf,typeInfo,c,Result.andThen,n]
theorem ZkJ {A:Option Addr}{len cap l sz:Nat}{lo:Operand}(c:l≤len)(f:l<cap)(g:o.op=Op.slice t x (some lo) none none:=by kernel_rfl)(h:P.underlying t=some (.slice e):=by kernel_rfl)(j:(P.info? e).map (fun i=>i.size)=some sz:=by kernel_rfl)(k:ρ x=.slice A len cap:=by kernel_rfl)(m:ρ lo=.int .i64 (l:Int):=by kernel_rfl):(execOp ρ o).run P w=.ok (.value (.slice (A.map (·.add (l*sz))) (len-l) (cap-l))) w:=by
 obtain⟨n,a,p⟩:=uV.1 j
 have d:cap≠l:=by omega
 simp[execOp,g,Instr.sliceAt,Instr.slice,Instr.sliceBounds,Instr.sliceBound,asIntOf,underlying,h,k,m,c,sizeOf,typeInfo,a,p,d,Result.andThen]
variable {A:Option Addr} {b off:Nat}
theorem TsAt.at0 {ts:List RT}(h:TsAt w A ts):0<ts.length→∃ b off,A=some ⟨b,off,none⟩:=fun a=>by
 obtain⟨b,off,e,_⟩:=h 0 a;exact⟨b,off,e⟩
theorem dD (c:A=some ⟨b,off,none⟩){ts:List RT}{i:Nat}(d:TsAt w A ts)(hi:i<ts.length)(f:o.op=Op.load t x:=by kernel_rfl)(h:ρ x=.pointer (some ⟨b,off+i*5+4,none⟩):=by kernel_rfl)(j:(teOf P t).map (fun e=>e.agg)=some false:=by kernel_rfl) :
 (execOp ρ o).run P w=.ok (.value (.slice ts[i]!.A ts[i]!.ex.length ts[i]!.cap)) w:=by
 obtain⟨g,a,e,_,k⟩:=d i hi
 rw[c] at e
 injection e with e
 injection e with e1 e2
 subst e1 e2
 exact gT (k 4 _ rfl) f (by rw[h,tR]) j
theorem bV (h:A=some ⟨b,off,none⟩){ts:List RT}{i:Nat}(k:TsAt w A ts)(hi:i<ts.length)(l:o.op=Op.load t x:=by kernel_rfl)(m:ρ x=.pointer (some ⟨b,off+i*5,none⟩):=by kernel_rfl)(a:(teOf P t).map (fun e=>(e.agg,e.size))=some (true,5):=by kernel_rfl) :
 (execOp ρ o).run P w=.ok (.value (.agg (RT.cells ts[i]!).toArray)) w:=by
 obtain⟨g,d,e,_,n⟩:=k i hi
 rw[h] at e
 injection e with e
 injection e with e1 e2
 subst e1 e2
 obtain⟨q,c,p⟩:=uV.1 a
 injection p with a hn
 have:=fO (P:=P) (w:=w) c (g:=b) (off:=off+i*5) (cs:=RT.cells ts[i]!) hn.symm (fun j f=>by
  rw[tR,n j _ (List.getElem?_eq_getElem f),List.getElem?_eq_getElem f];rfl) a
 simp only[execOp,l,m,Sem.run_bind,this,Result.andThen_ok,Sem.run_pure]
theorem ZfW (l:A=some ⟨b,off,none⟩){ts:List RT}{i:Nat}(m:TsAt w A ts)(hi:i<ts.length)(n:o.op=Op.load t x:=by kernel_rfl)(p:ρ x=.pointer (some ⟨b,off+i*5,none⟩):=by kernel_rfl)(a:(teOf P t).map (fun e=>(e.agg,e.size))=some (true,4):=by kernel_rfl) :
 (execOp ρ o).run P w=.ok (.value (.agg (Zaq ts[i]!.c).toArray)) w:=by
 obtain⟨g,f,e,_,q⟩:=m i hi
 rw[l] at e
 injection e with e
 injection e with e1 e2
 subst e1 e2
 obtain⟨s,d,r⟩:=uV.1 a
 injection r with a hn
 have:=fO (P:=P) (w:=w) d (g:=b) (off:=off+i*5) (cs:=Zaq ts[i]!.c) hn.symm (fun j h=>by
  have k:(Zaq ts[i]!.c)[j]? = some ((Zaq ts[i]!.c)[j]):=List.getElem?_eq_getElem h
  rw[tR,q j _ (by unfold RT.cells;rw[List.getElem?_append_left h];exact k),k];rfl) a
 simp only[execOp,n,p,Sem.run_bind,this,Result.andThen_ok,Sem.run_pure]
end
instance {m:Nat}:Nonempty {b:Nat // m≤b}:=⟨⟨m,uR m⟩⟩
instance {ts:List RT}:Nonempty {x:Option Addr×Nat × List RT // SoP ts x.2.1 x.2.2}:=by
 have hp:=List.pairwise_mergeSort (le:=fun (a b:RT)=>decide (rk b.ex≤rk a.ex)) (fun a b c h1 h2=>by simp only[vF] at *;omega) (fun a b=>by simp only[rG,vF];omega) ts
 exact⟨⟨(none,(ts.mergeSort (fun (a b:RT)=>decide (rk b.ex≤rk a.ex))).length,ts.mergeSort (fun (a b:RT)=>decide (rk b.ex≤rk a.ex))),⟨List.length_mergeSort _,fun y hy=>List.mem_mergeSort.1 hy,hp.imp (fun h=>by simpa using h),uR _⟩⟩⟩
theorem ZhY (L:Nat)(n:Nat)(IH:∀ (A:Option Addr) (c:Nat) (ts:List RT) (E:World),ts.length<L→TsAt E A ts→(∀ t∈ts,IRow E t.A t.ex)→(∀ t∈ts,EX n t.ex)→ts.length≤c→yA 227 #[.slice A ts.length c] E (Zcu A ts E))(A:Option Addr)(c:Nat)(ts:List RT)(E:World)(hL:ts.length≤L)(V:TsAt E A ts)(hI:∀ t∈ts,IRow E t.A t.ex)(hg:∀ t∈ts,EX n t.ex)(hn:n=1∨n=2)(hl:ts.length≤1000)(hc:ts.length≤c) :
 yA 227 #[.slice A ts.length c] E (Zcu A ts E):=by
 obtain⟨m0,B⟩:∃ m,m=E.heap.size:=⟨_,rfl⟩
 have B0:(ts.take (ts.length/2)).length=ts.length/2:=by rw[uL];omega
 have C0:(ts.drop (ts.length/2)).length=ts.length-ts.length/2:=by rw[vJ]
 refine xB (Φ:=fun w=>Ext E w) Tryz.func227 rfl (by kernel_rfl) (fun w' hf=>hf) ?_
 refine zD (zC (xq 1 [eS1 2 none 0 0] [] ?_))
 refine xe (zB (zD (zD ?_)))
 by_cases h2:ts.length<2
 ·refine zC (xq 3 [yB 10 (decide (((ts.length:Nat):Int)<2))] [] ?_)
  rw[(show decide (((ts.length:Nat):Int)<2)=true from uI (by omega))]
  refine xe (zB (xa (zD (zC (xq 2 [eS1 2 A ts.length c] [] ?_)))))
  refine xe (zB (zI (zE ?_)))
  refine yR (.slice A ts.length c) fun w' R Q=>?_
  exact⟨A,c,ts,SoP.self h2 hc,rfl,Or.inl ⟨rfl,rfl⟩,R⟩
 refine zC (xq 3 [yB 10 (decide (((ts.length:Nat):Int)<2))] [] ?_)
 rw[(show decide (((ts.length:Nat):Int)<2)=false from uH (by omega))]
 refine xe (zB (xb (zJ (zB (zD ?_)))))
 refine kN 14 [0,0,2,6,15,31,0,0,128,384,960,2047,4095,8191] (by kernel_rfl) (by kernel_rfl) zK ?_
 refine xqg 4 [eS1 12 A ts.length c,(15,.v (.int .i64 (IntKind.i64.wrap ((((ts.length:Nat):Int)).tdiv 2))))] ?_
 rw[(show IntKind.i64.wrap ((((ts.length:Nat):Int)).tdiv 2)=((ts.length/2:Nat):Int) by rw[tF (by omega),IntKind.wrap_i64];omega)]
 refine xqj 16 (.slice A (ts.take (ts.length/2)).length c) (fun w Q=>by rw[B0];exact Zm0 (t:=80) (e:=248) (A:=A) (len:=ts.length) (cap:=c) (x:=.tmp 12) (hi:=.tmp 15) (h:=ts.length/2) (sz:=5) (by omega)) ?_
 refine xqd 227 [.slice A (ts.take (ts.length/2)).length c] 17 (fun x:{x:Option Addr×Nat × List RT // SoP (ts.take (ts.length/2)) x.2.1 x.2.2}=>.slice x.1.1 x.1.2.2.length x.1.2.1) _ (fun w R Q=>(IH A c (ts.take (ts.length/2)) _ (by rw[uL];omega) ((V.ext R).take (by omega)) (fun t G=>(hI t (sD G)).ext R) (fun t G=>hg t (sD G)) (by rw[uL];omega)).mono (fun _ _ h=>Zff (B ▸ R.size) h)) fun xa=>?_
 obtain⟨⟨r,g,aa⟩,K⟩:=xa
 replace K:SoP (ts.take (ts.length/2)) g aa:=K
 refine xqg 4 [eS1 18 A ts.length c,(21,.v (.int .i64 (IntKind.i64.wrap ((((ts.length:Nat):Int)).tdiv 2))))] ?_
 rw[(show IntKind.i64.wrap ((((ts.length:Nat):Int)).tdiv 2)=((ts.length/2:Nat):Int) by rw[tF (by omega),IntKind.wrap_i64];omega)]
 refine xqj 22 (.slice (A.map (·.add (ts.length/2*5))) (ts.drop (ts.length/2)).length (c-ts.length/2)) (fun w Q=>by rw[C0];exact ZkJ (t:=80) (e:=248) (A:=A) (len:=ts.length) (cap:=c) (x:=.tmp 18) (lo:=.tmp 21) (l:=ts.length/2) (sz:=5) (by omega) (by omega)) ?_
 refine xqd 227 [.slice (A.map (·.add (ts.length/2*5))) (ts.drop (ts.length/2)).length (c-ts.length/2)] 23 (fun x:{x:Option Addr×Nat × List RT // SoP (ts.drop (ts.length/2)) x.2.1 x.2.2}=>.slice x.1.1 x.1.2.2.length x.1.2.1) _ (fun w R Q=>(IH (A.map (·.add (ts.length/2*5))) (c-ts.length/2) (ts.drop (ts.length/2)) _ (by rw[vJ];omega) ((V.ext R).drop (by omega)) (fun t G=>(hI t (sP G)).ext R) (fun t G=>hg t (sP G)) (by rw[vJ];omega)).mono (fun _ _ h=>Zff (B ▸ R.size) h)) fun xb=>?_
 obtain⟨⟨s,q,bs⟩,M⟩:=xb
 replace M:SoP (ts.drop (ts.length/2)) q bs:=M
 refine xqg 2 [eS1 3 r aa.length g,eS1 4 s bs.length q] ?_
 refine xz (xe (zB (zD ?_)))
 refine SXc.size (fun C=>m0≤C∧(SoB C A (ts.take (ts.length/2)) r aa∧SoB C (A.map (·.add (ts.length/2*5))) (ts.drop (ts.length/2)) s bs)) (fun w R Q=>⟨B ▸ R.size,SoR.below Q.1.2,SoR.below Q.2⟩) fun C y=>?_
 refine zC (xr 1 [eS1 2 none 0 0,eS1 3 r aa.length g,eS1 4 s bs.length q,eS1 5 none 0 0] [] ?_)
 refine xe (zB (zD ?_))
 have D0:∀ z∈aa,z∈ts:=fun z hz=>sD (K.mem z hz)
 have E0:∀ z∈bs,z∈ts:=fun z hz=>sP (M.mem z hz)
 refine SXc.know (p:=0<aa.length→∃ b off,r=some ⟨b,off,none⟩) (fun w R Q=>TsAt.at0 ((Q.1.1.2).at ((TsAt.ext V Q.1.1.1).take (by omega)))) fun q0=>?_
 refine SXc.know (p:=0<bs.length→∃ b off,s=some ⟨b,off,none⟩) (fun w R Q=>TsAt.at0 ((Q.1.2).at ((TsAt.ext V Q.1.1.1).drop (by omega)))) fun r0=>?_
 refine zC (xq 2 [yJ 6 0,yJ 7 0] [] ?_)
 refine xe (zB (zD (zN ?_)))
 refine yC [eS1 2 none 0 0,eS1 3 r aa.length g,eS1 4 s bs.length q,eS1 5 none 0 0,yJ 6 ((0:Nat):Int),yJ 7 ((0:Nat):Int)] [] (fun w=>((((SoR w m0 A (ts.take (ts.length/2)) r g aa∧SoR w m0 (A.map (·.add (ts.length/2*5))) (ts.drop (ts.length/2)) s q bs)∧Ext E w)∧C≤w.heap.size)∧OwnD w C 248 5 none 0 0 (wC ([]:List RT)))) (fun w Q=>⟨⟨⟨⟨Q.1.1.2,Q.1.2⟩,Q.1.1.1⟩,Q.2⟩,(OwnD.nil _ _ _ _)⟩) ?_
 refine xS (fun nn ss ff=>∃ (i k:Nat) (O:Option Addr) (D:Nat) (a:List RT) (zn:Nat),ss=ofL [eS1 2 none 0 0,eS1 3 r aa.length g,eS1 4 s bs.length q,eS1 5 O zn D,yJ 6 (i:Int),yJ 7 (k:Int)] []∧ff=(fun w=>((((SoR w m0 A (ts.take (ts.length/2)) r g aa∧SoR w m0 (A.map (·.add (ts.length/2*5))) (ts.drop (ts.length/2)) s q bs)∧Ext E w)∧C≤w.heap.size)∧OwnD w C 248 5 O D zn (wC a)))∧(MInv ts aa bs a i k)∧(a.length=0→O=none)∧(a.length=zn)∧nn=(1+(aa.length-i)+(bs.length-k))) ((1+(aa.length-0)+(bs.length-0))) ⟨0,0,none,0,([]:List RT),0,rfl,rfl,(MInv.start K M D0 E0),(fun _=>rfl),rfl,rfl⟩ ?_
 rintro nn ss ff ⟨i,k,O,D,a,zn,rfl,rfl,f,W,F0,rfl⟩
 subst F0
 refine zD (zD (zC (xq 5 [yB 28 (decide ((i:Int)<((aa.length:Nat):Int)))] [] ?_)))
 rcases bl2 ((decide ((i:Int)<((aa.length:Nat):Int)))) with F|F
 ·rw[F]
  have hi:i<aa.length:=by have:=uF F;omega
  obtain⟨t,G⟩:∃ x,aa[i]! = x:=⟨_,rfl⟩
  obtain⟨ba,oa,H⟩:=q0 (uN (uM _) hi)
  have d0:=f.mA t (fJ hi G)
  have X:=hg t d0
  refine xq 5 [yB 33 true] [] ?_
  refine xe (zB (xa (zJ (zB (zN (zD ?_))))))
  refine kN 24 [0,0,2,7,15,31,31,95,255,511,1023,1023,4095,8191,16383,1023,1023,99327,230399,492543,1048575,2097151,4194303,8388607] (by kernel_rfl) (by kernel_rfl) zK ?_
  refine xqg 5 [yB 38 (((k:Int):Int) == ((bs.length:Nat):Int))] ?_
  rcases bl2 ((((k:Int):Int) == ((bs.length:Nat):Int))) with N|N
  ·rw[N]
   have u0:k=bs.length:=by have h:=N;have:=f.hk;simp at h;omega
   refine xqg 19 [yB 57 true] ?_
   refine xz (xe (zB (xa (zD ?_))))
   have Y:bs.length≤k:=by omega
   refine zC (xq 3 [eS1 58 O a.length D,eS1 59 r aa.length g,yJ 60 (i:Int)] [] ?_)
   refine xqk 61 (.pointer (some ⟨ba,oa+i*5,none⟩)) (fun w R Q=>xD H (t:=80) (e:=248) (sz:=5) (x:=.tmp 59) (ix:=.tmp 60) (len:=aa.length) (cap:=g) (i:=i) hi) ?_
   refine xqk 62 (.agg #[.bool t.c.1,.slice t.c.2.1 t.c.2.2.1 t.c.2.2.2.1,.bool t.c.2.2.2.2.1,.slice t.c.2.2.2.2.2.1 t.c.2.2.2.2.2.2.1 t.c.2.2.2.2.2.2.2,.slice t.A t.ex.length t.cap]) (fun w R Q=>by rw[←G];exact bV H (t:=248) (x:=.tmp 61) ((Q.1.1.1.1).at ((TsAt.ext V Q.1.1.2).take (by omega))) hi) ?_
   refine yD (d:=63) (fun I:{b:Nat // m0≤b}=>.slice (some ⟨I.1,0,none⟩) 1 1) (fun I zw=>Blk 248 zw I.1 #[.bool t.c.1,.slice t.c.2.1 t.c.2.2.1 t.c.2.2.2.1,.bool t.c.2.2.2.2.1,.slice t.c.2.2.2.2.2.1 t.c.2.2.2.2.2.2.1 t.c.2.2.2.2.2.2.2,.slice t.A t.ex.length t.cap]) (fun w R Q=>xF (m0:=m0) (B ▸ R.size) (t:=80) (e:=248) (n:=1) (sz:=5) (z:=.agg #[.bool false,.slice none 0 0,.bool false,.slice none 0 0,.slice none 0 0]) (parts:=#[(0,Operand.tmp 62)]) (by kernel_rfl) (by kernel_rfl) (by kernel_rfl) (by kernel_rfl) (by kernel_rfl) (by kernel_rfl)) fun⟨v0,H0⟩=>?_
   refine xr 0 [eS1 2 none 0 0,eS1 3 r aa.length g,eS1 4 s bs.length q,eS1 5 O a.length D,yJ 6 (i:Int),yJ 7 (k:Int),eS1 58 O a.length D,eS1 63 (some ⟨v0,0,none⟩) 1 1] [] ?_
   refine lJ (d:=64) (k:=5) (n:=a.length) (m:=1) (cap:=D) (bytes:=88) (t:=80) (e:=248) (s0:=Operand.tmp 58) (x:=Operand.tmp 63) (xs:=wC a) (news:=[.bool t.c.1,.slice t.c.2.1 t.c.2.2.1 t.c.2.2.2.1,.bool t.c.2.2.2.2.1,.slice t.c.2.2.2.2.2.1 t.c.2.2.2.2.2.2.1 t.c.2.2.2.2.2.2.2,.slice t.A t.ex.length t.cap]) (z:=(.agg #[.bool false,.slice none 0 0,.bool false,.slice none 0 0,.slice none 0 0])) C O (fun j hj h=>Or.inl (uD (B ▸ y.1) h)) v0 1 (fun w=>(((SoR w m0 A (ts.take (ts.length/2)) r g aa∧SoR w m0 (A.map (·.add (ts.length/2*5))) (ts.drop (ts.length/2)) s q bs)∧Ext E w)∧C≤w.heap.size)) (fun w R Q=>Q.1.1.2) (fun w Q=>Q.1.2) (fun w Q=>Blk.news Q.2) rfl (by decide) rfl (wG.list (by simp)) (by decide) (by simp[Value.oneCell']) (by simp) (by have:=f.len;have:=f.hi;have:=f.hk;have:=K.len;have:=M.len;rw[uL] at *;rw[vJ] at *;simp only[maxLen];omega) (by have:=f.len;have:=f.hi;have:=f.hk;have:=K.len;have:=M.len;rw[uL] at *;rw[vJ] at *;omega) W (fun w w2 R Q J=>⟨⟨⟨SoR.keep Q.1.1.1.1.1 y.2.1 Q.1.2 J,SoR.keep Q.1.1.1.1.2 y.2.2 Q.1.2 J⟩,R⟩,uD Q.1.1.2 J.size⟩) fun e0 f0 I0=>?_
   refine xr 1 [eS1 2 none 0 0,eS1 3 r aa.length g,eS1 4 s bs.length q,eS1 5 e0 (a.length+1) f0,yJ 6 (i:Int),yJ 7 (k:Int)] [] ?_
   refine xe (zB (zC (xq 2 [yJ 66 (IntKind.i64.wrap ((i:Int)+1))] [] ?_)))
   rw[(show IntKind.i64.wrap ((i:Int)+1)=((i+1:Nat):Int) by rw[IntKind.wrap_i64];have:=f.hi;have:=K.len;rw[uL] at this;omega)]
   refine xq 1 [yJ 6 ((i+1:Nat):Int)] [] ?_
   refine xe (xK ?_)
   refine yP [eS1 2 none 0 0,eS1 3 r aa.length g,eS1 4 s bs.length q,eS1 5 e0 (a.length+1) f0,yJ 6 (((i+1):Nat):Int),yJ 7 (k:Int)] [] (fun w=>((((SoR w m0 A (ts.take (ts.length/2)) r g aa∧SoR w m0 (A.map (·.add (ts.length/2*5))) (ts.drop (ts.length/2)) s q bs)∧Ext E w)∧C≤w.heap.size)∧OwnD w C 248 5 e0 f0 (a.length+1) (wC (a ++ [t])))) (fun w Q=>⟨⟨⟨⟨Q.1.1.1.1,Q.1.1.1.2⟩,Q.1.1.2⟩,Q.1.2⟩,(by rw[jW];exact Q.2)⟩) ?_
   exact xE ((1+(aa.length-(i+1))+(bs.length-k))) (by have:=f.hi;have:=f.hk;omega) ⟨(i+1),k,e0,f0,(a ++ [t]),(a.length+1),rfl,rfl,(f.left hi G (Or.inl Y)),(fun h=>by rw[uA] at h;simp at h),uA,rfl⟩
  rw[N]
  have T:k<bs.length:=by have h:=N;have:=f.hk;simp at h;omega
  obtain⟨u,hu⟩:∃ x,bs[k]! = x:=⟨_,rfl⟩
  obtain⟨Z,ob,U⟩:=r0 (uN (uM _) T)
  have g0:=f.mB u (fJ T hu)
  have a0:=hg u g0
  refine xqg 4 [yB 42 (decide ((i:Int)<((aa.length:Nat):Int)))] ?_
  rw[F]
  refine xqg 3 [yB 43 true,eS1 44 r aa.length g,yJ 45 (i:Int)] ?_
  refine xqj 46 (.pointer (some ⟨ba,oa+i*5,none⟩)) (fun w Q=>xD H (t:=80) (e:=248) (sz:=5) (x:=.tmp 44) (ix:=.tmp 45) (len:=aa.length) (cap:=g) (i:=i) hi) ?_
  refine xqg 1 [(47,.v (.pointer (some ⟨ba,oa+i*5+4,none⟩)))] ?_
  refine xqj 48 (.slice t.A t.ex.length t.cap) (fun w Q=>by rw[←G];exact dD H (t:=22) (x:=.tmp 47) ((Q.1.1.1.1).at ((TsAt.ext V Q.1.1.2).take (by omega))) hi) ?_
  refine xqg 2 [eS1 49 s bs.length q,yJ 50 (k:Int)] ?_
  refine xqj 51 (.pointer (some ⟨Z,ob+k*5,none⟩)) (fun w Q=>xD U (t:=80) (e:=248) (sz:=5) (x:=.tmp 49) (ix:=.tmp 50) (len:=bs.length) (cap:=q) (i:=k) T) ?_
  refine xqg 1 [(52,.v (.pointer (some ⟨Z,ob+k*5+4,none⟩)))] ?_
  refine xqj 53 (.slice u.A u.ex.length u.cap) (fun w Q=>by rw[←hu];exact dD U (t:=22) (x:=.tmp 52) ((Q.1.1.1.2).at ((TsAt.ext V Q.1.1.2).drop (by omega))) T) ?_
  refine xqd 228 [.slice t.A t.ex.length t.cap,.slice u.A u.ex.length u.cap] 54 (fun _:Unit=>.int .i64 (ordF t.ex u.ex)) _ (fun w R Q=>yN (ZfU t.A u.A t.cap u.cap t.ex u.ex _ (ZkI hn X a0) ((hI t d0).ext R) ((hI u g0).ext R) (Zgl hn X) (Zgl hn a0))) fun xx=>?_
  refine xqg 3 [yB 57 (decide ((ordF t.ex u.ex)≥0))] ?_
  refine xz (xe (zB ?_))
  refine yQ ((decide ((ordF t.ex u.ex)≥0))) (fun b0=>?_) fun b0=>?_
  ·have t0:=ZnM hn X a0 (uF b0)
   refine zD (zC (xq 3 [eS1 58 O a.length D,eS1 59 r aa.length g,yJ 60 (i:Int)] [] ?_))
   refine xqk 61 (.pointer (some ⟨ba,oa+i*5,none⟩)) (fun w R Q=>xD H (t:=80) (e:=248) (sz:=5) (x:=.tmp 59) (ix:=.tmp 60) (len:=aa.length) (cap:=g) (i:=i) hi) ?_
   refine xqk 62 (.agg #[.bool t.c.1,.slice t.c.2.1 t.c.2.2.1 t.c.2.2.2.1,.bool t.c.2.2.2.2.1,.slice t.c.2.2.2.2.2.1 t.c.2.2.2.2.2.2.1 t.c.2.2.2.2.2.2.2,.slice t.A t.ex.length t.cap]) (fun w R Q=>by rw[←G];exact bV H (t:=248) (x:=.tmp 61) ((Q.1.1.1.1.1).at ((TsAt.ext V Q.1.1.1.2).take (by omega))) hi) ?_
   refine yD (d:=63) (fun I:{b:Nat // m0≤b}=>.slice (some ⟨I.1,0,none⟩) 1 1) (fun I zw=>Blk 248 zw I.1 #[.bool t.c.1,.slice t.c.2.1 t.c.2.2.1 t.c.2.2.2.1,.bool t.c.2.2.2.2.1,.slice t.c.2.2.2.2.2.1 t.c.2.2.2.2.2.2.1 t.c.2.2.2.2.2.2.2,.slice t.A t.ex.length t.cap]) (fun w R Q=>xF (m0:=m0) (B ▸ R.size) (t:=80) (e:=248) (n:=1) (sz:=5) (z:=.agg #[.bool false,.slice none 0 0,.bool false,.slice none 0 0,.slice none 0 0]) (parts:=#[(0,Operand.tmp 62)]) (by kernel_rfl) (by kernel_rfl) (by kernel_rfl) (by kernel_rfl) (by kernel_rfl) (by kernel_rfl)) fun⟨x0,J0⟩=>?_
   refine xr 0 [eS1 2 none 0 0,eS1 3 r aa.length g,eS1 4 s bs.length q,eS1 5 O a.length D,yJ 6 (i:Int),yJ 7 (k:Int),eS1 58 O a.length D,eS1 63 (some ⟨x0,0,none⟩) 1 1] [] ?_
   refine lJ (d:=64) (k:=5) (n:=a.length) (m:=1) (cap:=D) (bytes:=88) (t:=80) (e:=248) (s0:=Operand.tmp 58) (x:=Operand.tmp 63) (xs:=wC a) (news:=[.bool t.c.1,.slice t.c.2.1 t.c.2.2.1 t.c.2.2.2.1,.bool t.c.2.2.2.2.1,.slice t.c.2.2.2.2.2.1 t.c.2.2.2.2.2.2.1 t.c.2.2.2.2.2.2.2,.slice t.A t.ex.length t.cap]) (z:=(.agg #[.bool false,.slice none 0 0,.bool false,.slice none 0 0,.slice none 0 0])) C O (fun j hj h=>Or.inl (uD (B ▸ y.1) h)) x0 1 (fun w=>(((SoR w m0 A (ts.take (ts.length/2)) r g aa∧SoR w m0 (A.map (·.add (ts.length/2*5))) (ts.drop (ts.length/2)) s q bs)∧Ext E w)∧C≤w.heap.size)) (fun w R Q=>Q.1.1.1.2) (fun w Q=>Q.1.1.2) (fun w Q=>Blk.news Q.2) rfl (by decide) rfl (wG.list (by simp)) (by decide) (by simp[Value.oneCell']) (by simp) (by have:=f.len;have:=f.hi;have:=f.hk;have:=K.len;have:=M.len;rw[uL] at *;rw[vJ] at *;simp only[maxLen];omega) (by have:=f.len;have:=f.hi;have:=f.hk;have:=K.len;have:=M.len;rw[uL] at *;rw[vJ] at *;omega) W (fun w w2 R Q J=>⟨⟨⟨SoR.keep Q.1.1.1.1.1.1 y.2.1 Q.1.1.2 J,SoR.keep Q.1.1.1.1.1.2 y.2.2 Q.1.1.2 J⟩,R⟩,uD Q.1.1.1.2 J.size⟩) fun h0 i0 K0=>?_
   refine xr 1 [eS1 2 none 0 0,eS1 3 r aa.length g,eS1 4 s bs.length q,eS1 5 h0 (a.length+1) i0,yJ 6 (i:Int),yJ 7 (k:Int)] [] ?_
   refine xe (zB (zC (xq 2 [yJ 66 (IntKind.i64.wrap ((i:Int)+1))] [] ?_)))
   rw[(show IntKind.i64.wrap ((i:Int)+1)=((i+1:Nat):Int) by rw[IntKind.wrap_i64];have:=f.hi;have:=K.len;rw[uL] at this;omega)]
   refine xq 1 [yJ 6 ((i+1:Nat):Int)] [] ?_
   refine xe (xK ?_)
   refine yP [eS1 2 none 0 0,eS1 3 r aa.length g,eS1 4 s bs.length q,eS1 5 h0 (a.length+1) i0,yJ 6 (((i+1):Nat):Int),yJ 7 (k:Int)] [] (fun w=>((((SoR w m0 A (ts.take (ts.length/2)) r g aa∧SoR w m0 (A.map (·.add (ts.length/2*5))) (ts.drop (ts.length/2)) s q bs)∧Ext E w)∧C≤w.heap.size)∧OwnD w C 248 5 h0 i0 (a.length+1) (wC (a ++ [t])))) (fun w Q=>⟨⟨⟨⟨Q.1.1.1.1,Q.1.1.1.2⟩,Q.1.1.2⟩,Q.1.2⟩,(by rw[jW];exact Q.2)⟩) ?_
   exact xE ((1+(aa.length-(i+1))+(bs.length-k))) (by have:=f.hi;have:=f.hk;omega) ⟨(i+1),k,h0,i0,(a ++ [t]),(a.length+1),rfl,rfl,(f.left hi G (Or.inr ⟨T,u,hu,t0⟩)),(fun h=>by rw[uA] at h;simp at h),uA,rfl⟩
  have t0:=ZnN hn X a0 (uE b0)
  refine zD (zC (xq 3 [eS1 67 O a.length D,eS1 68 s bs.length q,yJ 69 (k:Int)] [] ?_))
  refine xqk 70 (.pointer (some ⟨Z,ob+k*5,none⟩)) (fun w R Q=>xD U (t:=80) (e:=248) (sz:=5) (x:=.tmp 68) (ix:=.tmp 69) (len:=bs.length) (cap:=q) (i:=k) T) ?_
  refine xqk 71 (.agg #[.bool u.c.1,.slice u.c.2.1 u.c.2.2.1 u.c.2.2.2.1,.bool u.c.2.2.2.2.1,.slice u.c.2.2.2.2.2.1 u.c.2.2.2.2.2.2.1 u.c.2.2.2.2.2.2.2,.slice u.A u.ex.length u.cap]) (fun w R Q=>by rw[←hu];exact bV U (t:=248) (x:=.tmp 70) ((Q.1.1.1.1.2).at ((TsAt.ext V Q.1.1.1.2).drop (by omega))) T) ?_
  refine yD (d:=72) (fun I:{b:Nat // m0≤b}=>.slice (some ⟨I.1,0,none⟩) 1 1) (fun I zw=>Blk 248 zw I.1 #[.bool u.c.1,.slice u.c.2.1 u.c.2.2.1 u.c.2.2.2.1,.bool u.c.2.2.2.2.1,.slice u.c.2.2.2.2.2.1 u.c.2.2.2.2.2.2.1 u.c.2.2.2.2.2.2.2,.slice u.A u.ex.length u.cap]) (fun w R Q=>xF (m0:=m0) (B ▸ R.size) (t:=80) (e:=248) (n:=1) (sz:=5) (z:=.agg #[.bool false,.slice none 0 0,.bool false,.slice none 0 0,.slice none 0 0]) (parts:=#[(0,Operand.tmp 71)]) (by kernel_rfl) (by kernel_rfl) (by kernel_rfl) (by kernel_rfl) (by kernel_rfl) (by kernel_rfl)) fun⟨y0,L0⟩=>?_
  refine xr 0 [eS1 2 none 0 0,eS1 3 r aa.length g,eS1 4 s bs.length q,eS1 5 O a.length D,yJ 6 (i:Int),yJ 7 (k:Int),eS1 67 O a.length D,eS1 72 (some ⟨y0,0,none⟩) 1 1] [] ?_
  refine lJ (d:=73) (k:=5) (n:=a.length) (m:=1) (cap:=D) (bytes:=88) (t:=80) (e:=248) (s0:=Operand.tmp 67) (x:=Operand.tmp 72) (xs:=wC a) (news:=[.bool u.c.1,.slice u.c.2.1 u.c.2.2.1 u.c.2.2.2.1,.bool u.c.2.2.2.2.1,.slice u.c.2.2.2.2.2.1 u.c.2.2.2.2.2.2.1 u.c.2.2.2.2.2.2.2,.slice u.A u.ex.length u.cap]) (z:=(.agg #[.bool false,.slice none 0 0,.bool false,.slice none 0 0,.slice none 0 0])) C O (fun j hj h=>Or.inl (uD (B ▸ y.1) h)) y0 1 (fun w=>(((SoR w m0 A (ts.take (ts.length/2)) r g aa∧SoR w m0 (A.map (·.add (ts.length/2*5))) (ts.drop (ts.length/2)) s q bs)∧Ext E w)∧C≤w.heap.size)) (fun w R Q=>Q.1.1.1.2) (fun w Q=>Q.1.1.2) (fun w Q=>Blk.news Q.2) rfl (by decide) rfl (wG.list (by simp)) (by decide) (by simp[Value.oneCell']) (by simp) (by have:=f.len;have:=f.hi;have:=f.hk;have:=K.len;have:=M.len;rw[uL] at *;rw[vJ] at *;simp only[maxLen];omega) (by have:=f.len;have:=f.hi;have:=f.hk;have:=K.len;have:=M.len;rw[uL] at *;rw[vJ] at *;omega) W (fun w w2 R Q J=>⟨⟨⟨SoR.keep Q.1.1.1.1.1.1 y.2.1 Q.1.1.2 J,SoR.keep Q.1.1.1.1.1.2 y.2.2 Q.1.1.2 J⟩,R⟩,uD Q.1.1.1.2 J.size⟩) fun j0 k0 M0=>?_
  refine xr 1 [eS1 2 none 0 0,eS1 3 r aa.length g,eS1 4 s bs.length q,eS1 5 j0 (a.length+1) k0,yJ 6 (i:Int),yJ 7 (k:Int)] [] ?_
  refine xe (zB (zC (xq 2 [yJ 75 (IntKind.i64.wrap ((k:Int)+1))] [] ?_)))
  rw[(show IntKind.i64.wrap ((k:Int)+1)=((k+1:Nat):Int) by rw[IntKind.wrap_i64];have:=f.hk;have:=M.len;rw[vJ] at this;omega)]
  refine xq 1 [yJ 7 ((k+1:Nat):Int)] [] ?_
  refine xe (xK ?_)
  refine yP [eS1 2 none 0 0,eS1 3 r aa.length g,eS1 4 s bs.length q,eS1 5 j0 (a.length+1) k0,yJ 6 (i:Int),yJ 7 (((k+1):Nat):Int)] [] (fun w=>((((SoR w m0 A (ts.take (ts.length/2)) r g aa∧SoR w m0 (A.map (·.add (ts.length/2*5))) (ts.drop (ts.length/2)) s q bs)∧Ext E w)∧C≤w.heap.size)∧OwnD w C 248 5 j0 k0 (a.length+1) (wC (a ++ [u])))) (fun w Q=>⟨⟨⟨⟨Q.1.1.1.1,Q.1.1.1.2⟩,Q.1.1.2⟩,Q.1.2⟩,(by rw[jW];exact Q.2)⟩) ?_
  exact xE ((1+(aa.length-i)+(bs.length-(k+1)))) (by have:=f.hi;have:=f.hk;omega) ⟨i,(k+1),j0,k0,(a ++ [u]),(a.length+1),rfl,rfl,(f.right T hu (Or.inr ⟨hi,t,G,t0⟩)),(fun h=>by rw[uA] at h;simp at h),uA,rfl⟩
 rw[F]
 have G0:aa.length≤i:=by have:=uE F;omega
 refine xq 5 [yB 33 (decide ((k:Int)<((bs.length:Nat):Int)))] [] ?_
 refine xe (zB ?_)
 refine yQ ((decide ((k:Int)<((bs.length:Nat):Int)))) (fun c0=>?_) fun c0=>?_
 ·have T:k<bs.length:=by have:=uF c0;omega
  obtain⟨u,hu⟩:∃ x,bs[k]! = x:=⟨_,rfl⟩
  obtain⟨Z,ob,U⟩:=r0 (uN (uM _) T)
  have g0:=f.mB u (fJ T hu)
  have a0:=hg u g0
  refine zJ (zB (zN (zD ?_)))
  refine kN 24 [0,0,2,7,15,31,31,95,255,511,1023,1023,4095,8191,16383,1023,1023,99327,230399,492543,1048575,2097151,4194303,8388607] (by kernel_rfl) (by kernel_rfl) zK ?_
  refine xqg 5 [yB 38 (((k:Int):Int) == ((bs.length:Nat):Int))] ?_
  rcases bl2 ((((k:Int):Int) == ((bs.length:Nat):Int))) with S|S
  ·rw[S]
   have u0:k=bs.length:=by have h:=S;have:=f.hk;simp at h;omega
   refine xqg 19 [yB 57 true] ?_
   refine xz (xe (zB (xa (zD ?_))))
   have Y:bs.length≤k:=by omega
   have hi:i<aa.length:=by have:=f.hi;omega
   obtain⟨t,G⟩:∃ x,aa[i]! = x:=⟨_,rfl⟩
   obtain⟨ba,oa,H⟩:=q0 (uN (uM _) hi)
   have d0:=f.mA t (fJ hi G)
   have X:=hg t d0
   refine zC (xq 3 [eS1 58 O a.length D,eS1 59 r aa.length g,yJ 60 (i:Int)] [] ?_)
   refine xqk 61 (.pointer (some ⟨ba,oa+i*5,none⟩)) (fun w R Q=>xD H (t:=80) (e:=248) (sz:=5) (x:=.tmp 59) (ix:=.tmp 60) (len:=aa.length) (cap:=g) (i:=i) hi) ?_
   refine xqk 62 (.agg #[.bool t.c.1,.slice t.c.2.1 t.c.2.2.1 t.c.2.2.2.1,.bool t.c.2.2.2.2.1,.slice t.c.2.2.2.2.2.1 t.c.2.2.2.2.2.2.1 t.c.2.2.2.2.2.2.2,.slice t.A t.ex.length t.cap]) (fun w R Q=>by rw[←G];exact bV H (t:=248) (x:=.tmp 61) ((Q.1.1.1.1).at ((TsAt.ext V Q.1.1.2).take (by omega))) hi) ?_
   refine yD (d:=63) (fun I:{b:Nat // m0≤b}=>.slice (some ⟨I.1,0,none⟩) 1 1) (fun I zw=>Blk 248 zw I.1 #[.bool t.c.1,.slice t.c.2.1 t.c.2.2.1 t.c.2.2.2.1,.bool t.c.2.2.2.2.1,.slice t.c.2.2.2.2.2.1 t.c.2.2.2.2.2.2.1 t.c.2.2.2.2.2.2.2,.slice t.A t.ex.length t.cap]) (fun w R Q=>xF (m0:=m0) (B ▸ R.size) (t:=80) (e:=248) (n:=1) (sz:=5) (z:=.agg #[.bool false,.slice none 0 0,.bool false,.slice none 0 0,.slice none 0 0]) (parts:=#[(0,Operand.tmp 62)]) (by kernel_rfl) (by kernel_rfl) (by kernel_rfl) (by kernel_rfl) (by kernel_rfl) (by kernel_rfl)) fun⟨z0,N0⟩=>?_
   refine xr 0 [eS1 2 none 0 0,eS1 3 r aa.length g,eS1 4 s bs.length q,eS1 5 O a.length D,yJ 6 (i:Int),yJ 7 (k:Int),eS1 58 O a.length D,eS1 63 (some ⟨z0,0,none⟩) 1 1] [] ?_
   refine lJ (d:=64) (k:=5) (n:=a.length) (m:=1) (cap:=D) (bytes:=88) (t:=80) (e:=248) (s0:=Operand.tmp 58) (x:=Operand.tmp 63) (xs:=wC a) (news:=[.bool t.c.1,.slice t.c.2.1 t.c.2.2.1 t.c.2.2.2.1,.bool t.c.2.2.2.2.1,.slice t.c.2.2.2.2.2.1 t.c.2.2.2.2.2.2.1 t.c.2.2.2.2.2.2.2,.slice t.A t.ex.length t.cap]) (z:=(.agg #[.bool false,.slice none 0 0,.bool false,.slice none 0 0,.slice none 0 0])) C O (fun j hj h=>Or.inl (uD (B ▸ y.1) h)) z0 1 (fun w=>(((SoR w m0 A (ts.take (ts.length/2)) r g aa∧SoR w m0 (A.map (·.add (ts.length/2*5))) (ts.drop (ts.length/2)) s q bs)∧Ext E w)∧C≤w.heap.size)) (fun w R Q=>Q.1.1.2) (fun w Q=>Q.1.2) (fun w Q=>Blk.news Q.2) rfl (by decide) rfl (wG.list (by simp)) (by decide) (by simp[Value.oneCell']) (by simp) (by have:=f.len;have:=f.hi;have:=f.hk;have:=K.len;have:=M.len;rw[uL] at *;rw[vJ] at *;simp only[maxLen];omega) (by have:=f.len;have:=f.hi;have:=f.hk;have:=K.len;have:=M.len;rw[uL] at *;rw[vJ] at *;omega) W (fun w w2 R Q J=>⟨⟨⟨SoR.keep Q.1.1.1.1.1 y.2.1 Q.1.2 J,SoR.keep Q.1.1.1.1.2 y.2.2 Q.1.2 J⟩,R⟩,uD Q.1.1.2 J.size⟩) fun l0 n0 O0=>?_
   refine xr 1 [eS1 2 none 0 0,eS1 3 r aa.length g,eS1 4 s bs.length q,eS1 5 l0 (a.length+1) n0,yJ 6 (i:Int),yJ 7 (k:Int)] [] ?_
   refine xe (zB (zC (xq 2 [yJ 66 (IntKind.i64.wrap ((i:Int)+1))] [] ?_)))
   rw[(show IntKind.i64.wrap ((i:Int)+1)=((i+1:Nat):Int) by rw[IntKind.wrap_i64];have:=f.hi;have:=K.len;rw[uL] at this;omega)]
   refine xq 1 [yJ 6 ((i+1:Nat):Int)] [] ?_
   refine xe (xK ?_)
   refine yP [eS1 2 none 0 0,eS1 3 r aa.length g,eS1 4 s bs.length q,eS1 5 l0 (a.length+1) n0,yJ 6 (((i+1):Nat):Int),yJ 7 (k:Int)] [] (fun w=>((((SoR w m0 A (ts.take (ts.length/2)) r g aa∧SoR w m0 (A.map (·.add (ts.length/2*5))) (ts.drop (ts.length/2)) s q bs)∧Ext E w)∧C≤w.heap.size)∧OwnD w C 248 5 l0 n0 (a.length+1) (wC (a ++ [t])))) (fun w Q=>⟨⟨⟨⟨Q.1.1.1.1,Q.1.1.1.2⟩,Q.1.1.2⟩,Q.1.2⟩,(by rw[jW];exact Q.2)⟩) ?_
   exact xE ((1+(aa.length-(i+1))+(bs.length-k))) (by have:=f.hi;have:=f.hk;omega) ⟨(i+1),k,l0,n0,(a ++ [t]),(a.length+1),rfl,rfl,(f.left hi G (Or.inl Y)),(fun h=>by rw[uA] at h;simp at h),uA,rfl⟩
  rw[S]
  have T:k<bs.length:=by have h:=S;have:=f.hk;simp at h;omega
  refine xqg 4 [yB 42 (decide ((i:Int)<((aa.length:Nat):Int)))] ?_
  rw[F]
  refine xqg 15 [yB 57 false] ?_
  refine xz (xe (zB (xb (zD (zC (xq 3 [eS1 67 O a.length D,eS1 68 s bs.length q,yJ 69 (k:Int)] [] ?_))))))
  refine xqk 70 (.pointer (some ⟨Z,ob+k*5,none⟩)) (fun w R Q=>xD U (t:=80) (e:=248) (sz:=5) (x:=.tmp 68) (ix:=.tmp 69) (len:=bs.length) (cap:=q) (i:=k) T) ?_
  refine xqk 71 (.agg #[.bool u.c.1,.slice u.c.2.1 u.c.2.2.1 u.c.2.2.2.1,.bool u.c.2.2.2.2.1,.slice u.c.2.2.2.2.2.1 u.c.2.2.2.2.2.2.1 u.c.2.2.2.2.2.2.2,.slice u.A u.ex.length u.cap]) (fun w R Q=>by rw[←hu];exact bV U (t:=248) (x:=.tmp 70) ((Q.1.1.1.2).at ((TsAt.ext V Q.1.1.2).drop (by omega))) T) ?_
  refine yD (d:=72) (fun I:{b:Nat // m0≤b}=>.slice (some ⟨I.1,0,none⟩) 1 1) (fun I zw=>Blk 248 zw I.1 #[.bool u.c.1,.slice u.c.2.1 u.c.2.2.1 u.c.2.2.2.1,.bool u.c.2.2.2.2.1,.slice u.c.2.2.2.2.2.1 u.c.2.2.2.2.2.2.1 u.c.2.2.2.2.2.2.2,.slice u.A u.ex.length u.cap]) (fun w R Q=>xF (m0:=m0) (B ▸ R.size) (t:=80) (e:=248) (n:=1) (sz:=5) (z:=.agg #[.bool false,.slice none 0 0,.bool false,.slice none 0 0,.slice none 0 0]) (parts:=#[(0,Operand.tmp 71)]) (by kernel_rfl) (by kernel_rfl) (by kernel_rfl) (by kernel_rfl) (by kernel_rfl) (by kernel_rfl)) fun⟨A0,P0⟩=>?_
  refine xr 0 [eS1 2 none 0 0,eS1 3 r aa.length g,eS1 4 s bs.length q,eS1 5 O a.length D,yJ 6 (i:Int),yJ 7 (k:Int),eS1 67 O a.length D,eS1 72 (some ⟨A0,0,none⟩) 1 1] [] ?_
  refine lJ (d:=73) (k:=5) (n:=a.length) (m:=1) (cap:=D) (bytes:=88) (t:=80) (e:=248) (s0:=Operand.tmp 67) (x:=Operand.tmp 72) (xs:=wC a) (news:=[.bool u.c.1,.slice u.c.2.1 u.c.2.2.1 u.c.2.2.2.1,.bool u.c.2.2.2.2.1,.slice u.c.2.2.2.2.2.1 u.c.2.2.2.2.2.2.1 u.c.2.2.2.2.2.2.2,.slice u.A u.ex.length u.cap]) (z:=(.agg #[.bool false,.slice none 0 0,.bool false,.slice none 0 0,.slice none 0 0])) C O (fun j hj h=>Or.inl (uD (B ▸ y.1) h)) A0 1 (fun w=>(((SoR w m0 A (ts.take (ts.length/2)) r g aa∧SoR w m0 (A.map (·.add (ts.length/2*5))) (ts.drop (ts.length/2)) s q bs)∧Ext E w)∧C≤w.heap.size)) (fun w R Q=>Q.1.1.2) (fun w Q=>Q.1.2) (fun w Q=>Blk.news Q.2) rfl (by decide) rfl (wG.list (by simp)) (by decide) (by simp[Value.oneCell']) (by simp) (by have:=f.len;have:=f.hi;have:=f.hk;have:=K.len;have:=M.len;rw[uL] at *;rw[vJ] at *;simp only[maxLen];omega) (by have:=f.len;have:=f.hi;have:=f.hk;have:=K.len;have:=M.len;rw[uL] at *;rw[vJ] at *;omega) W (fun w w2 R Q J=>⟨⟨⟨SoR.keep Q.1.1.1.1.1 y.2.1 Q.1.2 J,SoR.keep Q.1.1.1.1.2 y.2.2 Q.1.2 J⟩,R⟩,uD Q.1.1.2 J.size⟩) fun o0 p0 Q0=>?_
  refine xr 1 [eS1 2 none 0 0,eS1 3 r aa.length g,eS1 4 s bs.length q,eS1 5 o0 (a.length+1) p0,yJ 6 (i:Int),yJ 7 (k:Int)] [] ?_
  refine xe (zB (zC (xq 2 [yJ 75 (IntKind.i64.wrap ((k:Int)+1))] [] ?_)))
  rw[(show IntKind.i64.wrap ((k:Int)+1)=((k+1:Nat):Int) by rw[IntKind.wrap_i64];have:=f.hk;have:=M.len;rw[vJ] at this;omega)]
  refine xq 1 [yJ 7 ((k+1:Nat):Int)] [] ?_
  refine xe (xK ?_)
  refine yP [eS1 2 none 0 0,eS1 3 r aa.length g,eS1 4 s bs.length q,eS1 5 o0 (a.length+1) p0,yJ 6 (i:Int),yJ 7 (((k+1):Nat):Int)] [] (fun w=>((((SoR w m0 A (ts.take (ts.length/2)) r g aa∧SoR w m0 (A.map (·.add (ts.length/2*5))) (ts.drop (ts.length/2)) s q bs)∧Ext E w)∧C≤w.heap.size)∧OwnD w C 248 5 o0 p0 (a.length+1) (wC (a ++ [u])))) (fun w Q=>⟨⟨⟨⟨Q.1.1.1.1,Q.1.1.1.2⟩,Q.1.1.2⟩,Q.1.2⟩,(by rw[jW];exact Q.2)⟩) ?_
  exact xE ((1+(aa.length-i)+(bs.length-(k+1)))) (by have:=f.hi;have:=f.hk;omega) ⟨i,(k+1),o0,p0,(a ++ [u]),(a.length+1),rfl,rfl,(f.right T hu (Or.inl G0)),(fun h=>by rw[uA] at h;simp at h),uA,rfl⟩
 have u0:bs.length≤k:=by have:=uE c0;omega
 refine xN (zH (zH (xX (zB (zD (zC (xq 2 [eS1 2 O a.length D] [] ?_)))))))
 refine xe (zB (zI ?_))
 refine yR (.slice O a.length D) fun w' R Q=>?_
 obtain rfl:i=aa.length:=by have:=f.hi;omega
 obtain rfl:k=bs.length:=by have:=f.hk;omega
 exact⟨O,D,a,f.done K.len M.len (OwnD.le Q.2),rfl,Or.inr (OwnD.mono Q.2 (B ▸ y.1)),R⟩
theorem Zjt (n:Nat)(f:n=1∨n=2)(A:Option Addr)(c:Nat)(ts:List RT)(a:World)(r:ts.length≤1000)(g:TsAt a A ts)(i:∀ t∈ts,IRow a t.A t.ex)(j:∀ t∈ts,EX n t.ex)(k:ts.length≤c) :
 yA 227 #[.slice A ts.length c] a (Zcu A ts a):=by
 have d:∀ L,L≤1001→∀ (A:Option Addr) (c:Nat) (ts:List RT) (a:World),ts.length<L→TsAt a A ts→(∀ t∈ts,IRow a t.A t.ex)→(∀ t∈ts,EX n t.ex)→ts.length≤c→yA 227 #[.slice A ts.length c] a (Zcu A ts a):=fun L=>by
  induction L with
  | zero=>intro _ A c ts a h;omega
  | succ L ih=>intro s A c ts a h l m p q;exact ZhY L n (ih (by omega)) A c ts a (by omega) l m p f (by omega) q
 exact d 1001 (uR _) A c ts a (by omega) g i j k
def ZcS (ts zs:List RT):Prop:=zs.length≤ts.length∧(∀ z∈zs,z.q≠0∧Dq z.q (2*ts.length)∧∃ s∈ts,z.A=s.A∧z.cap=s.cap∧z.ex=s.ex)∧zs.Pairwise (fun a b=>rk b.ex<rk a.ex)
def ZiB (v:Int) (ts:List RT) (w:World) (e:Ending) (w':World):Prop:=∃ B cB zs,ZcS ts zs∧e=.returned (.agg #[.int .i64 v,.slice B zs.length cB])∧OwnD w' w.heap.size 248 5 B cB zs.length (wC zs)∧(∀ t∈zs,zF w' (xC t.c) t.q)∧Ext w w'
structure SInv (ts ys zs:List RT) (i:Nat):Prop where
 len:zs.length≤i
 mem:∀ z∈zs,z.q≠0∧Dq z.q (2*ys.length)∧∃ s∈ts,z.A=s.A∧z.cap=s.cap∧z.ex=s.ex
 desc:zs.Pairwise (fun a b=>rk b.ex<rk a.ex)
 top:∀ z∈zs,∀ y∈ys.drop i,rk y.ex<rk z.ex
theorem SInv.start (ts a:List RT):SInv ts a [] 0:=⟨uR _,fun z h=>by (cases h),List.Pairwise.nil,fun z h=>by (cases h)⟩
theorem ZnO {ts a:List RT}{c i k:Nat}{t:RT}(g:SoP ts c a)(hi:i<a.length)(h:a[i]! = t)(j:i<k)(f:k<a.length→rk a[k]!.ex≠rk a[i]!.ex):∀ y∈a.drop k,rk y.ex<rk t.ex:=fun y hy=>by
 rcases uZ k a.length with d|d
 ·have m:=(fK g.desc d rfl).2 y hy
  have n:=(fK g.desc hi h).2 a[k]! (by rw[getElem!_pos a k d];exact List.mem_of_getElem? (i:=k-i) (by rw[List.getElem?_drop,show i+(k-i)=k by omega,List.getElem?_eq_getElem d]))
  have l:=f d
  rw[h] at l
  omega
 rw[qP d] at hy;cases hy
theorem Zhg {a:List RT}{i k:Nat}(h:i≤k){y:RT}(c:y∈a.drop k):y∈a.drop i:=by
 rw[show k=i+(k-i) by omega,← tH] at c
 exact sP c
theorem SInv.skip {ts a zs:List RT}{c i k:Nat}{t:RT}(h:SInv ts a zs i)(d:i<k)(_:SoP ts c a)(_:a[i]! = t):SInv ts a zs k :=
 ⟨by have:=h.len;omega,h.mem,h.desc,fun z f y g=>h.top z f y (Zhg (qX d) g)⟩
theorem SInv.snoc {ts d zs:List RT}{c i k:Nat}{t:RT}{x:ShQ}{q:Rat}(h:SInv ts d zs i)(l:SoP ts c d)(hi:i<d.length)(m:d[i]! = t)(f:i<k)(g:k<d.length→rk d[k]!.ex≠rk d[i]!.ex)(n:q≠0)(p:Dq q (2*d.length)):SInv ts d (zs ++ [⟨x,q,t.A,t.cap,t.ex⟩]) k:=by
 refine⟨by rw[uA];have:=h.len;simp;omega,fun z a=>?_,?_,fun z a y j=>?_⟩
 ·rcases vL.1 a with a|a
  ·exact h.mem z a
  obtain rfl:=vH.1 a
  exact⟨n,p,t,l.mem t (fJ hi m),rfl,rfl,rfl⟩
 ·rw[sR]
  refine⟨h.desc,qK _ _,fun z a y j=>?_⟩
  obtain rfl:=vH.1 j
  exact h.top z a t (by rw[(fK l.desc hi m).1];simp)
 rcases vL.1 a with a|a
 ·exact h.top z a y (Zhg (qX f) j)
 obtain rfl:=vH.1 a
 exact ZnO l hi m f g y j
theorem SInv.done {ts a zs:List RT}{c:Nat}(h:SInv ts a zs a.length)(d:SoP ts c a):ZcS ts zs:=by
 have e:=d.len
 exact⟨by have:=h.len;omega,fun z f=>by have:=h.mem z f;rw[e] at this;exact this,h.desc⟩
theorem ZiC {zs:List RT}{w:World}{t:RT}(h:∀ t∈zs,zF w (xC t.c) t.q)(d:zF w (xC t.c) t.q):∀ u∈zs ++ [t],zF w (xC u.c) u.q:=fun z a=>by
 rcases vL.1 a with a|a
 ·exact h z a
 rw[vH.1 a];exact d
theorem Zm1 (a:List RT)(i:Nat):∀ j,i≤j→j<i+1→rk a[j]!.ex=rk a[i]!.ex:=fun j c d=>by
 obtain rfl:j=i:=by omega
 rfl
theorem ZlL {a:List RT}{i k:Nat}{t u:RT}(h:∀ j,i≤j→j<k→rk a[j]!.ex=rk a[i]!.ex)(f:a[i]! = t)(g:a[k]! = u)(c:rk u.ex=rk t.ex):∀ j,i≤j→j<k+1→rk a[j]!.ex=rk a[i]!.ex:=fun j l m=>by
 rcases uZ j k with d|d
 ·exact h j l d
 obtain rfl:j=k:=by omega
 rw[g,f,c]
theorem ZnY {n:Nat}{ex a:List Int}(d:n=1∨n=2)(h:EX n ex)(f:EX n a)(c:ordF ex a=0):rk a=rk ex:=by
 rw[Zbb d h f] at c
 unfold cmpF at c
 (repeat' split at c)<;>omega
theorem ZnZ {n:Nat}{ex a:List Int}(c:n=1∨n=2)(h:EX n ex)(d:EX n a)(f:¬ ordF ex a=0):rk a≠rk ex:=fun e=>f (by rw[Zbb c h d,e];unfold cmpF;rw[vP (by omega),vP (by omega)])
theorem Zm2 (n:Nat)(v:Int)(A:Option Addr)(c:Nat)(ts:List RT)(K:World)(hQ:∀ t∈ts,zF K (xC t.c) t.q∧Dq t.q 1)(hT:TsAt K A ts)(hI:∀ t∈ts,IRow K t.A t.ex)(hg:∀ t∈ts,EX n t.ex)(hn:n=1∨n=2)(hl:ts.length≤1000)(hc:ts.length≤c) :
 yA 167 #[.int .i64 v,.slice A ts.length c] K (ZiB v ts K):=by
 obtain⟨m0,O⟩:∃ m,m=K.heap.size:=⟨_,rfl⟩
 refine xB (Φ:=fun w=>Ext K w) Tryz.func167 rfl (by kernel_rfl) (fun w' hf=>hf) ?_
 refine zD (zC (xq 1 [(4,.p 4 0)] [(4,82,[.v (.int .i64 0),.v (.slice none 0 0)])] ?_))
 refine xe (zB (zD (zC (xq 1 [eS1 10 A ts.length c] [] ?_))))
 refine xqc 227 [.slice A ts.length c] 11 (fun x:{x:Option Addr×Nat × List RT // SoP ts x.2.1 x.2.2}=>.slice x.1.1 x.1.2.2.length x.1.2.1) _ (fun w R Q=>(Zjt n hn A c ts _ hl (TsAt.ext hT R) (fun t L=>(hI t L).ext R) hg hc).mono (fun _ _ h=>Zff (O ▸ R.size) h)) fun xs=>?_
 obtain⟨⟨S,f,ys⟩,N⟩:=xs
 replace N:SoP ts f ys:=N
 refine xq 1 [eS1 5 S ys.length f] [] ?_
 refine xe (zB (zD ?_))
 refine SXc.size (fun I=>m0≤I∧SoB I A ts S ys) (fun w R Q=>⟨O ▸ R.size,SoR.below Q.2⟩) fun I W=>?_
 refine SXc.know (p:=0<ys.length→∃ b off,S=some ⟨b,off,none⟩) (fun w R Q=>TsAt.at0 ((Q.1.2).at (TsAt.ext hT Q.1.1))) fun A0=>?_
 refine zC (xr 4 [(4,.p 4 0),eS1 5 S ys.length f,(6,.p 6 0)] [(6,82,[.v (.int .i64 v),.v (.slice none 0 0)]),(4,82,[.v (.int .i64 0),.v (.slice none 0 0)])] ?_)
 refine xe (zB (zD (zD (zC (xq 1 [yJ 7 0] [] ?_)))))
 refine xe (zB (zN ?_))
 refine yC [(4,.p 4 0),eS1 5 S ys.length f,(6,.p 6 0),yJ 7 ((0:Nat):Int)] [(6,82,[.v (.int .i64 v),.v (.slice none 0 0)]),(4,82,[.v (.int .i64 0),.v (.slice none 0 0)])] (fun w=>((((Ext K w∧SoR w m0 A ts S f ys)∧I≤w.heap.size)∧OwnD w I 248 5 none 0 0 (wC ([]:List RT)))∧(∀ g∈([]:List RT),zF w (xC g.c) g.q))) (fun w Q=>⟨⟨⟨⟨Q.1.1,Q.1.2⟩,Q.2⟩,(OwnD.nil _ _ _ _)⟩,(fun t h=>by cases h)⟩) ?_
 refine xS (fun nn ss ff=>∃ (i:Nat) (B:Option Addr) (G:Nat) (a:List RT) (zn:Nat),ss=ofL [(4,.p 4 0),eS1 5 S ys.length f,(6,.p 6 0),yJ 7 (i:Int)] [(6,82,[.v (.int .i64 v),.v (.slice B zn G)]),(4,82,[.v (.int .i64 0),.v (.slice none 0 0)])]∧ff=(fun w=>((((Ext K w∧SoR w m0 A ts S f ys)∧I≤w.heap.size)∧OwnD w I 248 5 B G zn (wC a))∧(∀ g∈a,zF w (xC g.c) g.q)))∧(i≤ys.length)∧(SInv ts ys a i)∧(a.length=0→B=none)∧(a.length=zn)∧nn=(1+(ys.length-i))) ((1+(ys.length-0))) ⟨0,none,0,([]:List RT),0,rfl,rfl,(uM _),SInv.start ts ys,(fun _=>rfl),rfl,rfl⟩ ?_
 rintro nn ss ff ⟨i,B,G,a,zn,rfl,rfl,K0,hZ,l0,E0,rfl⟩
 subst E0
 refine zD (zD (zC (xq 4 [yB 17 (decide ((i:Int)<((ys.length:Nat):Int)))] [] ?_)))
 refine xe (zB ?_)
 refine yQ ((decide ((i:Int)<((ys.length:Nat):Int)))) (fun X=>?_) fun X=>?_
 ·have T:i<ys.length:=by have:=uF X;omega
  refine zJ (zB (zN (zD ?_)))
  obtain⟨U,V,J⟩:=A0 (uN (uM _) T)
  obtain⟨t,L⟩:∃ x,ys[i]! = x:=⟨_,rfl⟩
  have n0:=N.mem t (fJ T L)
  have o0:=hg t n0
  refine zC (xq 2 [eS1 18 S ys.length f,yJ 19 (i:Int)] [] ?_)
  refine xqk 20 (.pointer (some ⟨U,V+i*5,none⟩)) (fun w R Q=>xD J (t:=80) (e:=248) (sz:=5) (x:=.tmp 18) (ix:=.tmp 19) (len:=ys.length) (cap:=f) (i:=i) T) ?_
  refine xq 1 [(21,.v (.pointer (some ⟨U,V+i*5,none⟩)))] [] ?_
  refine xqk 22 (.agg #[.bool t.c.1,.slice t.c.2.1 t.c.2.2.1 t.c.2.2.2.1,.bool t.c.2.2.2.2.1,.slice t.c.2.2.2.2.2.1 t.c.2.2.2.2.2.2.1 t.c.2.2.2.2.2.2.2]) (fun w R Q=>by rw[←L];exact ZfW J (t:=127) (x:=.tmp 21) ((Q.1.1.1.2).at (TsAt.ext hT Q.1.1.1.1)) T) ?_
  refine xq 2 [(8,.p 8 0)] [bR4 8 127 t.c.1 t.c.2.1 t.c.2.2.1 t.c.2.2.2.1 t.c.2.2.2.2.1 t.c.2.2.2.2.2.1 t.c.2.2.2.2.2.2.1 t.c.2.2.2.2.2.2.2] ?_
  refine xe (zB (zD (zC (xq 2 [yJ 24 (IntKind.i64.wrap ((i:Int)+1))] [] ?_))))
  rw[(show IntKind.i64.wrap ((i:Int)+1)=((i+1:Nat):Int) by rw[IntKind.wrap_i64];have:=N.len;omega)]
  refine xq 1 [yJ 9 ((i+1:Nat):Int)] [] ?_
  refine xe (zB (zD (zN ?_)))
  refine yC [(4,.p 4 0),eS1 5 S ys.length f,(6,.p 6 0),yJ 7 (i:Int),(8,.p 8 0),yJ 9 (((i+1):Nat):Int)] [(8,127,[.v (.bool t.c.1),.v (.slice t.c.2.1 t.c.2.2.1 t.c.2.2.2.1),.v (.bool t.c.2.2.2.2.1),.v (.slice t.c.2.2.2.2.2.1 t.c.2.2.2.2.2.2.1 t.c.2.2.2.2.2.2.2)]),(6,82,[.v (.int .i64 v),.v (.slice B a.length G)]),(4,82,[.v (.int .i64 0),.v (.slice none 0 0)])] (fun w=>(((((Ext K w∧SoR w m0 A ts S f ys)∧I≤w.heap.size)∧OwnD w I 248 5 B G a.length (wC a))∧(∀ g∈a,zF w (xC g.c) g.q))∧zF w (.agg #[.bool t.c.1,.slice t.c.2.1 t.c.2.2.1 t.c.2.2.2.1,.bool t.c.2.2.2.2.1,.slice t.c.2.2.2.2.2.1 t.c.2.2.2.2.2.2.1 t.c.2.2.2.2.2.2.2]) (t.q))) (fun w Q=>⟨⟨⟨⟨⟨Q.1.1.1.1,Q.1.1.1.2⟩,Q.1.1.2⟩,Q.1.2⟩,Q.2⟩,((hQ t n0).1.ext Q.1.1.1.1)⟩) ?_
  refine xS (fun nn ss ff=>∃ (k:Nat) (l:Bool) (r:Option Addr) (s y:Nat) (C:Bool) (D:Option Addr) (E F:Nat) (H:Rat),ss=ofL [(4,.p 4 0),eS1 5 S ys.length f,(6,.p 6 0),yJ 7 (i:Int),(8,.p 8 0),yJ 9 (k:Int)] [(8,127,[.v (.bool l),.v (.slice r s y),.v (.bool C),.v (.slice D E F)]),(6,82,[.v (.int .i64 v),.v (.slice B a.length G)]),(4,82,[.v (.int .i64 0),.v (.slice none 0 0)])]∧ff=(fun w=>(((((Ext K w∧SoR w m0 A ts S f ys)∧I≤w.heap.size)∧OwnD w I 248 5 B G a.length (wC a))∧(∀ g∈a,zF w (xC g.c) g.q))∧zF w (.agg #[.bool l,.slice r s y,.bool C,.slice D E F]) (H)))∧(i<k)∧(k≤ys.length)∧(Dq H (2*(k-i)))∧(∀ j,i≤j→j<k→rk ys[j]!.ex=rk ys[i]!.ex)∧nn=(1+(ys.length-k))) ((1+(ys.length-(i+1)))) ⟨(i+1),t.c.1,t.c.2.1,t.c.2.2.1,t.c.2.2.2.1,t.c.2.2.2.2.1,t.c.2.2.2.2.2.1,t.c.2.2.2.2.2.2.1,t.c.2.2.2.2.2.2.2,t.q,rfl,rfl,(by omega),(by omega),((hQ t n0).2.up (by omega)),(Zm1 ys i),rfl⟩ ?_
  rintro nn ss ff ⟨k,l,r,s,y,C,D,E,F,H,rfl,rfl,p0,q0,r0,B0,rfl⟩
  refine zD (zD ?_)
  refine kN 18 [0,0,2,7,15,31,31,127,255,511,31,31,3103,7199,15391,32767,65535,131071] (by kernel_rfl) (by kernel_rfl) zK ?_
  refine xqg 5 [yB 29 (decide ((k:Int)<((ys.length:Nat):Int)))] ?_
  rcases bl2 ((decide ((k:Int)<((ys.length:Nat):Int)))) with M|M
  ·rw[M]
   have hk:k<ys.length:=by have:=uF M;omega
   obtain⟨u,hu⟩:∃ x,ys[k]! = x:=⟨_,rfl⟩
   have Y:=N.mem u (fJ hk hu)
   have t0:=hg u Y
   refine xqg 2 [eS1 30 S ys.length f,yJ 31 (i:Int)] ?_
   refine xqj 32 (.pointer (some ⟨U,V+i*5,none⟩)) (fun w Q=>xD J (t:=80) (e:=248) (sz:=5) (x:=.tmp 30) (ix:=.tmp 31) (len:=ys.length) (cap:=f) (i:=i) T) ?_
   refine xqg 1 [(33,.v (.pointer (some ⟨U,V+i*5+4,none⟩)))] ?_
   refine xqj 34 (.slice t.A t.ex.length t.cap) (fun w Q=>by rw[←L];exact dD J (t:=22) (x:=.tmp 33) ((Q.1.1.1.1.2).at (TsAt.ext hT Q.1.1.1.1.1)) T) ?_
   refine xqg 2 [eS1 35 S ys.length f,yJ 36 (k:Int)] ?_
   refine xqj 37 (.pointer (some ⟨U,V+k*5,none⟩)) (fun w Q=>xD J (t:=80) (e:=248) (sz:=5) (x:=.tmp 35) (ix:=.tmp 36) (len:=ys.length) (cap:=f) (i:=k) hk) ?_
   refine xqg 1 [(38,.v (.pointer (some ⟨U,V+k*5+4,none⟩)))] ?_
   refine xqj 39 (.slice u.A u.ex.length u.cap) (fun w Q=>by rw[←hu];exact dD J (t:=22) (x:=.tmp 38) ((Q.1.1.1.1.2).at (TsAt.ext hT Q.1.1.1.1.1)) hk) ?_
   refine xqd 228 [.slice t.A t.ex.length t.cap,.slice u.A u.ex.length u.cap] 40 (fun _:Unit=>.int .i64 (ordF t.ex u.ex)) _ (fun w R Q=>yN (ZfU t.A u.A t.cap u.cap t.ex u.ex _ (ZkI hn o0 t0) ((hI t n0).ext R) ((hI u Y).ext R) (Zgl hn o0) (Zgl hn t0))) fun xx=>?_
   refine xqg 2 [yB 42 (((ordF t.ex u.ex):Int) == 0)] ?_
   refine xz (xe (zB ?_))
   refine yQ ((((ordF t.ex u.ex):Int) == 0)) (fun Z=>?_) fun Z=>?_
   ·have F0:rk u.ex=rk t.ex:=ZnY hn o0 t0 (by simpa using Z)
    refine zJ (zB (zN (zD ?_)))
    refine yO 8 zK ?_
    refine xqg 3 [eR4 43 l r s y C D E F,eS1 44 S ys.length f,yJ 45 (k:Int)] ?_
    refine xqj 46 (.pointer (some ⟨U,V+k*5,none⟩)) (fun w Q=>xD J (t:=80) (e:=248) (sz:=5) (x:=.tmp 44) (ix:=.tmp 45) (len:=ys.length) (cap:=f) (i:=k) hk) ?_
    refine xqg 1 [(47,.v (.pointer (some ⟨U,V+k*5,none⟩)))] ?_
    refine xqj 48 (.agg #[.bool u.c.1,.slice u.c.2.1 u.c.2.2.1 u.c.2.2.2.1,.bool u.c.2.2.2.2.1,.slice u.c.2.2.2.2.2.1 u.c.2.2.2.2.2.2.1 u.c.2.2.2.2.2.2.2]) (fun w Q=>by rw[←hu];exact ZfW J (t:=127) (x:=.tmp 47) ((Q.1.1.1.1.1.2).at (TsAt.ext hT Q.1.1.1.1.1.1)) hk) ?_
    refine xqd 104 [vR4 l r s y C D E F,vR4 u.c.1 u.c.2.1 u.c.2.2.1 u.c.2.2.2.1 u.c.2.2.2.2.1 u.c.2.2.2.2.2.1 u.c.2.2.2.2.2.2.1 u.c.2.2.2.2.2.2.2] 49 xC _ (fun w R Q=>yM wW (ZaO _ _ H u.q _ Q.1.2 ((hQ u Y).1.ext R) (Dq.rfit r0 (by have:=N.len;omega)) (Dq.rfit (hQ u Y).2 (by decide)))) fun⟨a0,b0,c0,d0,e0,f0,g0,h0⟩=>?_
    refine xqf 1 [] [bR4 8 127 a0 b0 c0 d0 e0 f0 g0 h0,bR4 8 127 l r s y C D E F,(6,82,[.v (.int .i64 v),.v (.slice B a.length G)]),(4,82,[.v (.int .i64 0),.v (.slice none 0 0)])] ?_
    refine xz (xe (zB (zC (xq 2 [yJ 51 (IntKind.i64.wrap ((k:Int)+1))] [bR4 8 127 a0 b0 c0 d0 e0 f0 g0 h0] ?_))))
    rw[(show IntKind.i64.wrap ((k:Int)+1)=((k+1:Nat):Int) by rw[IntKind.wrap_i64];have:=N.len;omega)]
    refine xq 1 [yJ 9 ((k+1:Nat):Int)] [] ?_
    refine xe (xK ?_)
    refine yP [(4,.p 4 0),eS1 5 S ys.length f,(6,.p 6 0),yJ 7 (i:Int),(8,.p 8 0),yJ 9 (((k+1):Nat):Int)] [(8,127,[.v (.bool a0),.v (.slice b0 c0 d0),.v (.bool e0),.v (.slice f0 g0 h0)]),(6,82,[.v (.int .i64 v),.v (.slice B a.length G)]),(4,82,[.v (.int .i64 0),.v (.slice none 0 0)])] (fun w=>(((((Ext K w∧SoR w m0 A ts S f ys)∧I≤w.heap.size)∧OwnD w I 248 5 B G a.length (wC a))∧(∀ g∈a,zF w (xC g.c) g.q))∧zF w (.agg #[.bool a0,.slice b0 c0 d0,.bool e0,.slice f0 g0 h0]) ((H+u.q)))) (fun w Q=>⟨⟨⟨⟨⟨Q.1.1.1.1.1.1.1,Q.1.1.1.1.1.1.2⟩,Q.1.1.1.1.1.2⟩,Q.1.1.1.1.2⟩,Q.1.1.1.2⟩,Q.2⟩) ?_
    exact xE ((1+(ys.length-(k+1)))) (by omega) ⟨(k+1),a0,b0,c0,d0,e0,f0,g0,h0,(H+u.q),rfl,rfl,(by omega),(by omega),(Dq.up (r0.add (hQ u Y).2) (by omega)),(ZlL B0 L hu F0),rfl⟩
   have i0:k<ys.length→rk ys[k]!.ex≠rk ys[i]!.ex:=fun _=>by rw[hu,L];exact ZnZ hn o0 t0 (by simpa using Z)
   refine xN (zH (zH (xX (zB (zD (zD (zC (xq 1 [eR4 52 l r s y C D E F] [] ?_))))))))
   refine xqc 103 [vR4 l r s y C D E F] 53 (fun _:Unit=>.int .i64 H.num.sign) _ (fun w R Q=>yN (fS _ H _ Q.1.2)) fun xx=>?_
   refine xq 1 [yB 54 ((H.num.sign:Int) != 0)] [] ?_
   refine xe (zB ?_)
   refine yQ (((H.num.sign:Int) != 0)) (fun j0=>?_) fun j0=>?_
   ·have z0:H≠0:=fun e=>by rw[e] at j0;simp at j0
    refine Zal 8 10 ?_
    refine xqg 5 [eS1 56 B a.length G,eR4 57 l r s y C D E F,eS1 58 S ys.length f,yJ 59 (i:Int)] ?_
    refine xqj 60 (.pointer (some ⟨U,V+i*5,none⟩)) (fun w Q=>xD J (t:=80) (e:=248) (sz:=5) (x:=.tmp 58) (ix:=.tmp 59) (len:=ys.length) (cap:=f) (i:=i) T) ?_
    refine xqg 1 [(61,.v (.pointer (some ⟨U,V+i*5+4,none⟩)))] ?_
    refine xqj 62 (.slice t.A t.ex.length t.cap) (fun w Q=>by rw[←L];exact dD J (t:=22) (x:=.tmp 61) ((Q.1.1.1.1.1.1.2).at (TsAt.ext hT Q.1.1.1.1.1.1.1)) T) ?_
    refine xqg 1 [(63,.v (.agg #[.bool l,.slice r s y,.bool C,.slice D E F,.slice t.A t.ex.length t.cap]))] ?_
    refine gC 64 (fun zb:{b:Nat // m0≤b}=>.slice (some ⟨zb.1,0,none⟩) 1 1) (fun zb zw=>Blk 248 zw zb.1 #[.bool l,.slice r s y,.bool C,.slice D E F,.slice t.A t.ex.length t.cap]) (by kernel_rfl) (by kernel_rfl) (by kernel_rfl) (by kernel_rfl) (by kernel_rfl) (by kernel_rfl) (by kernel_rfl) (fun w R Q=>xF (m0:=m0) (O ▸ R.size) (t:=80) (e:=248) (n:=1) (sz:=5) (z:=.agg #[.bool false,.slice none 0 0,.bool false,.slice none 0 0,.slice none 0 0]) (parts:=#[(0,Operand.tmp 63)]) (by kernel_rfl) (by kernel_rfl) (by kernel_rfl) (by kernel_rfl) (by kernel_rfl) (by kernel_rfl)) fun⟨C0,G0⟩=>?_
    refine xf 0 [(4,.p 4 0),eS1 5 S ys.length f,(6,.p 6 0),yJ 7 (i:Int),yJ 9 (k:Int),eS1 56 B a.length G,eS1 64 (some ⟨C0,0,none⟩) 1 1] [bR4 8 127 l r s y C D E F,(6,82,[.v (.int .i64 v),.v (.slice B a.length G)]),(4,82,[.v (.int .i64 0),.v (.slice none 0 0)])] ?_
    refine xz ?_
    refine lJ (d:=65) (k:=5) (n:=a.length) (m:=1) (cap:=G) (bytes:=88) (t:=80) (e:=248) (s0:=Operand.tmp 56) (x:=Operand.tmp 64) (xs:=wC a) (news:=[.bool l,.slice r s y,.bool C,.slice D E F,.slice t.A t.ex.length t.cap]) (z:=(.agg #[.bool false,.slice none 0 0,.bool false,.slice none 0 0,.slice none 0 0])) I B (fun j hj h=>Or.inl (uD (O ▸ W.1) h)) C0 1 (fun w=>((((Ext K w∧SoR w m0 A ts S f ys)∧I≤w.heap.size)∧(∀ g∈a,zF w (xC g.c) g.q))∧zF w (.agg #[.bool l,.slice r s y,.bool C,.slice D E F]) (H))) (fun w R Q=>Q.1.1.1.1.1.1.2) (fun w Q=>Q.1.1.1.1.1.2) (fun w Q=>Blk.news Q.2) rfl (by decide) rfl (wG.list (by simp)) (by decide) (by simp[Value.oneCell']) (by simp) (by have:=hZ.len;have:=N.len;simp only[maxLen];omega) (by have:=hZ.len;have:=N.len;omega) l0 (fun w w2 R Q hF=>⟨⟨⟨⟨R,SoR.keep Q.1.1.1.1.1.1.1.2 W.2 Q.1.1.1.1.1.2 hF⟩,uD Q.1.1.1.1.1.1.2 hF.size⟩,fun t L=>zF.rowUp (Q.1.1.1.1.2 t L) Q.1.1.1.1.1.2 hF⟩,zF.rowUp Q.1.1.1.2 Q.1.1.1.1.1.2 hF⟩) fun u0 v0 H0=>?_
    refine xr 2 [(4,.p 4 0),eS1 5 S ys.length f,(6,.p 6 0),yJ 7 (i:Int),yJ 9 (k:Int)] [(6,82,[.v (.int .i64 v),.v (.slice u0 (a.length+1) v0)]),(4,82,[.v (.int .i64 0),.v (.slice none 0 0)])] ?_
    refine xe (zB (zC (xq 2 [yJ 7 (k:Int)] [] ?_)))
    refine xe (xK ?_)
    refine yP [(4,.p 4 0),eS1 5 S ys.length f,(6,.p 6 0),yJ 7 (k:Int)] [(6,82,[.v (.int .i64 v),.v (.slice u0 (a.length+1) v0)]),(4,82,[.v (.int .i64 0),.v (.slice none 0 0)])] (fun w=>((((Ext K w∧SoR w m0 A ts S f ys)∧I≤w.heap.size)∧OwnD w I 248 5 u0 v0 (a.length+1) (wC (a ++ [⟨(l,r,s,y,C,D,E,F),H,t.A,t.cap,t.ex⟩])))∧(∀ g∈(a ++ [⟨(l,r,s,y,C,D,E,F),H,t.A,t.cap,t.ex⟩]),zF w (xC g.c) g.q))) (fun w Q=>⟨⟨⟨⟨Q.1.1.1.1.1,Q.1.1.1.1.2⟩,Q.1.1.1.2⟩,(by rw[jW];exact Q.2)⟩,(ZiC (t:=⟨(l,r,s,y,C,D,E,F),H,t.A,t.cap,t.ex⟩) Q.1.1.2 Q.1.2)⟩) ?_
    exact xE ((1+(ys.length-k))) (by omega) ⟨k,u0,v0,(a ++ [⟨(l,r,s,y,C,D,E,F),H,t.A,t.cap,t.ex⟩]),(a.length+1),rfl,rfl,q0,(hZ.snoc N T L p0 i0 z0 (Dq.up r0 (by omega))),(fun h=>by rw[uA] at h;simp at h),uA,rfl⟩
   refine zJ (zB (zC (xq 2 [yJ 7 (k:Int)] [] ?_)))
   refine xe (xK ?_)
   refine yP [(4,.p 4 0),eS1 5 S ys.length f,(6,.p 6 0),yJ 7 (k:Int)] [(6,82,[.v (.int .i64 v),.v (.slice B a.length G)]),(4,82,[.v (.int .i64 0),.v (.slice none 0 0)])] (fun w=>((((Ext K w∧SoR w m0 A ts S f ys)∧I≤w.heap.size)∧OwnD w I 248 5 B G a.length (wC a))∧(∀ g∈a,zF w (xC g.c) g.q))) (fun w Q=>⟨⟨⟨⟨Q.1.1.1.1.1.1.1,Q.1.1.1.1.1.1.2⟩,Q.1.1.1.1.1.2⟩,Q.1.1.1.1.2⟩,Q.1.1.1.2⟩) ?_
   exact xE ((1+(ys.length-k))) (by omega) ⟨k,B,G,a,a.length,rfl,rfl,q0,(hZ.skip p0 N L),l0,rfl,rfl⟩
  rw[M]
  have L0:ys.length≤k:=by have:=uE M;omega
  have i0:k<ys.length→rk ys[k]!.ex≠rk ys[i]!.ex:=fun h=>absurd h (by omega)
  refine xqg 13 [yB 42 false] ?_
  refine xz (xe (zB (xb (xN (zH (zH (xX (zB (zD (zD (zC (xq 1 [eR4 52 l r s y C D E F] [] ?_))))))))))))
  refine xqc 103 [vR4 l r s y C D E F] 53 (fun _:Unit=>.int .i64 H.num.sign) _ (fun w R Q=>yN (fS _ H _ Q.2)) fun xx=>?_
  refine xq 1 [yB 54 ((H.num.sign:Int) != 0)] [] ?_
  refine xe (zB ?_)
  refine yQ (((H.num.sign:Int) != 0)) (fun k0=>?_) fun k0=>?_
  ·have z0:H≠0:=fun e=>by rw[e] at k0;simp at k0
   refine Zal 8 10 ?_
   refine xqg 5 [eS1 56 B a.length G,eR4 57 l r s y C D E F,eS1 58 S ys.length f,yJ 59 (i:Int)] ?_
   refine xqj 60 (.pointer (some ⟨U,V+i*5,none⟩)) (fun w Q=>xD J (t:=80) (e:=248) (sz:=5) (x:=.tmp 58) (ix:=.tmp 59) (len:=ys.length) (cap:=f) (i:=i) T) ?_
   refine xqg 1 [(61,.v (.pointer (some ⟨U,V+i*5+4,none⟩)))] ?_
   refine xqj 62 (.slice t.A t.ex.length t.cap) (fun w Q=>by rw[←L];exact dD J (t:=22) (x:=.tmp 61) ((Q.1.1.1.1.1.2).at (TsAt.ext hT Q.1.1.1.1.1.1)) T) ?_
   refine xqg 1 [(63,.v (.agg #[.bool l,.slice r s y,.bool C,.slice D E F,.slice t.A t.ex.length t.cap]))] ?_
   refine gC 64 (fun zb:{b:Nat // m0≤b}=>.slice (some ⟨zb.1,0,none⟩) 1 1) (fun zb zw=>Blk 248 zw zb.1 #[.bool l,.slice r s y,.bool C,.slice D E F,.slice t.A t.ex.length t.cap]) (by kernel_rfl) (by kernel_rfl) (by kernel_rfl) (by kernel_rfl) (by kernel_rfl) (by kernel_rfl) (by kernel_rfl) (fun w R Q=>xF (m0:=m0) (O ▸ R.size) (t:=80) (e:=248) (n:=1) (sz:=5) (z:=.agg #[.bool false,.slice none 0 0,.bool false,.slice none 0 0,.slice none 0 0]) (parts:=#[(0,Operand.tmp 63)]) (by kernel_rfl) (by kernel_rfl) (by kernel_rfl) (by kernel_rfl) (by kernel_rfl) (by kernel_rfl)) fun⟨D0,I0⟩=>?_
   refine xf 0 [(4,.p 4 0),eS1 5 S ys.length f,(6,.p 6 0),yJ 7 (i:Int),yJ 9 (k:Int),eS1 56 B a.length G,eS1 64 (some ⟨D0,0,none⟩) 1 1] [bR4 8 127 l r s y C D E F,(6,82,[.v (.int .i64 v),.v (.slice B a.length G)]),(4,82,[.v (.int .i64 0),.v (.slice none 0 0)])] ?_
   refine xz ?_
   refine lJ (d:=65) (k:=5) (n:=a.length) (m:=1) (cap:=G) (bytes:=88) (t:=80) (e:=248) (s0:=Operand.tmp 56) (x:=Operand.tmp 64) (xs:=wC a) (news:=[.bool l,.slice r s y,.bool C,.slice D E F,.slice t.A t.ex.length t.cap]) (z:=(.agg #[.bool false,.slice none 0 0,.bool false,.slice none 0 0,.slice none 0 0])) I B (fun j hj h=>Or.inl (uD (O ▸ W.1) h)) D0 1 (fun w=>((((Ext K w∧SoR w m0 A ts S f ys)∧I≤w.heap.size)∧(∀ g∈a,zF w (xC g.c) g.q))∧zF w (.agg #[.bool l,.slice r s y,.bool C,.slice D E F]) (H))) (fun w R Q=>Q.1.1.1.1.1.2) (fun w Q=>Q.1.1.1.1.2) (fun w Q=>Blk.news Q.2) rfl (by decide) rfl (wG.list (by simp)) (by decide) (by simp[Value.oneCell']) (by simp) (by have:=hZ.len;have:=N.len;simp only[maxLen];omega) (by have:=hZ.len;have:=N.len;omega) l0 (fun w w2 R Q hF=>⟨⟨⟨⟨R,SoR.keep Q.1.1.1.1.1.1.2 W.2 Q.1.1.1.1.2 hF⟩,uD Q.1.1.1.1.1.2 hF.size⟩,fun t L=>zF.rowUp (Q.1.1.1.2 t L) Q.1.1.1.1.2 hF⟩,zF.rowUp Q.1.1.2 Q.1.1.1.1.2 hF⟩) fun x0 y0 J0=>?_
   refine xr 2 [(4,.p 4 0),eS1 5 S ys.length f,(6,.p 6 0),yJ 7 (i:Int),yJ 9 (k:Int)] [(6,82,[.v (.int .i64 v),.v (.slice x0 (a.length+1) y0)]),(4,82,[.v (.int .i64 0),.v (.slice none 0 0)])] ?_
   refine xe (zB (zC (xq 2 [yJ 7 (k:Int)] [] ?_)))
   refine xe (xK ?_)
   refine yP [(4,.p 4 0),eS1 5 S ys.length f,(6,.p 6 0),yJ 7 (k:Int)] [(6,82,[.v (.int .i64 v),.v (.slice x0 (a.length+1) y0)]),(4,82,[.v (.int .i64 0),.v (.slice none 0 0)])] (fun w=>((((Ext K w∧SoR w m0 A ts S f ys)∧I≤w.heap.size)∧OwnD w I 248 5 x0 y0 (a.length+1) (wC (a ++ [⟨(l,r,s,y,C,D,E,F),H,t.A,t.cap,t.ex⟩])))∧(∀ g∈(a ++ [⟨(l,r,s,y,C,D,E,F),H,t.A,t.cap,t.ex⟩]),zF w (xC g.c) g.q))) (fun w Q=>⟨⟨⟨⟨Q.1.1.1.1.1,Q.1.1.1.1.2⟩,Q.1.1.1.2⟩,(by rw[jW];exact Q.2)⟩,(ZiC (t:=⟨(l,r,s,y,C,D,E,F),H,t.A,t.cap,t.ex⟩) Q.1.1.2 Q.1.2)⟩) ?_
   exact xE ((1+(ys.length-k))) (by omega) ⟨k,x0,y0,(a ++ [⟨(l,r,s,y,C,D,E,F),H,t.A,t.cap,t.ex⟩]),(a.length+1),rfl,rfl,q0,(hZ.snoc N T L p0 i0 z0 (Dq.up r0 (by omega))),(fun h=>by rw[uA] at h;simp at h),uA,rfl⟩
  refine zJ (zB (zC (xq 2 [yJ 7 (k:Int)] [] ?_)))
  refine xe (xK ?_)
  refine yP [(4,.p 4 0),eS1 5 S ys.length f,(6,.p 6 0),yJ 7 (k:Int)] [(6,82,[.v (.int .i64 v),.v (.slice B a.length G)]),(4,82,[.v (.int .i64 0),.v (.slice none 0 0)])] (fun w=>((((Ext K w∧SoR w m0 A ts S f ys)∧I≤w.heap.size)∧OwnD w I 248 5 B G a.length (wC a))∧(∀ g∈a,zF w (xC g.c) g.q))) (fun w Q=>⟨⟨⟨⟨Q.1.1.1.1.1.1,Q.1.1.1.1.1.2⟩,Q.1.1.1.1.2⟩,Q.1.1.1.2⟩,Q.1.1.2⟩) ?_
  exact xE ((1+(ys.length-k))) (by omega) ⟨k,B,G,a,a.length,rfl,rfl,q0,(hZ.skip p0 N L),l0,rfl,rfl⟩
 have M0:ys.length≤i:=by have:=uE X;omega
 refine xN (zH (zH (xX (zB (zD (zC (xq 2 [] [(4,82,[.v (.int .i64 v),.v (.slice B a.length G)])] ?_)))))))
 refine xe (zB (zI ?_))
 refine yR (.agg #[.int .i64 v,.slice B a.length G]) fun w' R Q=>?_
 obtain rfl:i=ys.length:=by omega
 exact⟨B,G,a,hZ.done N,rfl,OwnD.mono Q.1.2 (O ▸ W.1),Q.2,R⟩
def LiG (n:Nat) (x:LiR):Prop:=(∀ t∈x.es,EG n t)∧0<x.es.length∧x.es.length≤9
theorem ZkK {n m0:Nat}{w w':World}{e:Ending}(b:m0≤w.heap.size)(h:∃ x:LiR,(∀ t∈x.es,EG n t)∧0<x.es.length∧x.es.length≤9∧e=.returned (.slice x.A x.es.length x.c)∧dLi.ok w.heap.size w' x∧Ext w w') :
 wS (fun x:{x:LiR // LiG n x}=>.slice x.1.A x.1.es.length x.1.c) (fun x w=>dLi.ok m0 w x.1) w e w':=by
 obtain⟨x,d,f,g,rfl,i,Q⟩:=h
 exact⟨⟨x,d,f,g⟩,rfl,Q,fun S j a k=>Dp.mono _ (Dp.boxN i Q S j a k) b⟩
theorem ZlM {v:Int}{ts:List RT}{m0:Nat}{w w':World}{e:Ending}(g:m0≤w.heap.size)(h:ZiB v ts w e w') :
 wS (fun x:{x:Option Addr×Nat × List RT // ZcS ts x.2.2}=>.agg #[.int .i64 v,.slice x.1.1 x.1.2.2.length x.1.2.1]) (fun x w=>OwnD w m0 248 5 x.1.1 x.1.2.1 x.1.2.2.length (wC x.1.2.2)∧∀ t∈x.1.2.2,zF w (xC t.c) t.q) w e w':=by
 obtain⟨B,j,k,l,rfl,b,m,Q⟩:=h
 exact⟨⟨(B,j,k),l⟩,rfl,Q,fun S d n f=>⟨(b.fr f (fun i a p=>by have:=(b.blk a).1;have:=(d i p).1;omega)).mono g,fun t r=>(m t r).nrb (fun i a=>(d i a).2.ext Q) f⟩⟩
section
variable {P:Program} {o:Oper} {ρ:Operand→Value} {w:World} {t e:TypeId} {x:Operand}
theorem ZlN {A:Option Addr}{m c n j:Nat}{a:List TermR}(h:OwnD w m e 1 A c n (wR a))(d:j<a.length)(f:o.op=Op.load t x:=by kernel_rfl)(g:ρ x=atA A (j*1):=by kernel_rfl)(i:(teOf P t).map (fun e=>e.agg)=some false:=by kernel_rfl) :
 (execOp ρ o).run P w=.ok (.value (.slice a[j]!.A a[j]!.exps.length a[j]!.cap)) w:=by
 have l:=aS (enc:=fun t:TermR=>[Value.slice t.A t.exps.length t.cap]) (k:=1) (fun _=>rfl) a j 0 d (by decide)
 obtain⟨b,rfl,_,p⟩:=h.at (j:=j*1+0) (v:=.slice a[j]!.A a[j]!.exps.length a[j]!.cap) l
 exact gT p f (by rw[g,atA,sH,iC];rfl) i
end
def PG (n:Nat) (p:RP):Prop:=p.v=((n:Nat):Int)∧p.ts.length≤3∧(∀ t∈p.ts,t.q≠0∧Dq t.q 6∧EX n t.ex)∧p.ts.Pairwise (fun a b=>rk b.ex<rk a.ex)
def SG (n:Nat) (s:RS):Prop:=PG n s.a∧PG n s.b
instance {n:Nat}:Nonempty {x:RP // PG n x}:=⟨⟨⟨((n:Nat):Int),none,0,[]⟩,rfl,uM _,fun t h=>(by cases h),List.Pairwise.nil⟩⟩
instance {n:Nat}:Nonempty {x:RS // SG n x}:=by
 obtain⟨⟨p,hp⟩⟩:=(inferInstance:Nonempty {x:RP // PG n x})
 exact⟨⟨⟨p,p⟩,hp,hp⟩⟩
theorem ZiD {n:Nat}{p:RP}(h:PG n p):PG n ⟨p.v,none,0,[]⟩:=⟨h.1,uM _,fun t h=>(by cases h),List.Pairwise.nil⟩
theorem ZiE (m:Nat)(w:World)(v:Int):dRP.ok m w ⟨v,none,0,[]⟩:=⟨OwnD.nil _ _ _ _,fun t h=>(by cases h)⟩
theorem Zm3 {n:Nat}{ts:List RT}{x:ShQ}{q:Rat}{e:TermR}(h:∀ t∈ts,Dq t.q 1∧EX n t.ex)(b:Dq q 1)(c:EG n e):∀ t∈ts ++ [(⟨x,q,e.A,e.cap,e.exps⟩:RT)],Dq t.q 1∧EX n t.ex:=fun t a=>by
 rcases vL.1 a with a|a
 ·exact h t a
 obtain rfl:=vH.1 a;exact⟨b,c⟩
theorem Zn0 {n:Nat}{ts zs:List RT}{Z:Option Addr}{c:Nat}(_:n=1∨n=2)(a:∀ t∈ts,Dq t.q 1∧EX n t.ex)(h:ZcS ts zs)(b:ts.length≤3):PG n ⟨((n:Nat):Int),Z,c,zs⟩:=by
 refine⟨rfl,uD h.1 b,fun t d=>?_,h.2.2⟩
 obtain⟨f,g,s,i,_,_,e⟩:=h.2.1 t d
 exact⟨f,Dq.up g (by omega),by rw[e];exact (a s i).2⟩
theorem Zn1 {m:Nat}{w:World}{ts zs:List RT}(h:ZcS ts zs)(d:∀ t∈zs,zF w (xC t.c) t.q)(f:dRT.list.ok m w ts):∀ t∈zs,dRT.ok m w t:=fun t a=>by
 obtain⟨_,_,s,g,i,j,k⟩:=h.2.1 t a
 have b:OwnD w m 3 1 s.A s.cap s.ex.length (intV s.ex):=(f s g).2
 rw[←i,← j,← k] at b
 exact⟨d t a,b⟩
theorem bX (τ:Tap)(wl w:World)(X:TOld wl τ)(h0:Ext wl w)(hT:TOk τ w)(n d m:Nat)(hn:n=1∨n=2)(hd:d≤2)(hm:m≤3) :
 yA 74 #[.pointer (some ⟨τ.g,0,none⟩),.int .i64 ((n:Nat):Int),.int .i64 ((d:Nat):Int),.int .i64 ((m:Nat):Int)] w (RetT τ (fun p:RP=>.agg #[.int .i64 p.v,.slice p.A p.ts.length p.c]) (PG n) (fun p w'=>dRP.ok w.heap.size w' p) w):=by
 obtain⟨m0,K⟩:∃ m,m=w.heap.size:=⟨_,rfl⟩
 have I:τ.g<m0:=K ▸ hT.lt
 refine lW (fun i=>i=τ.g) (Φ:=fun w=>TOk τ w) Tryz.func74 rfl (by kernel_rfl) (fun w' hf=>hT.ext hf) ?_
 refine zD (zC (xq 1 [(8,.p 8 0)] [(8,82,[.v (.int .i64 0),.v (.slice none 0 0)])] ?_))
 refine xe (zB (zD (zC (xq 2 [yJ 12 (n:Int),yJ 13 (d:Int)] [] ?_))))
 refine xqc 166 [.int .i64 (n:Int),.int .i64 (d:Int)] 14 (fun x:{x:LiR // LiG n x}=>.slice x.1.A x.1.es.length x.1.c) _ (fun w R Q=>(ZlK n d _ hn hd).mono (fun _ _ h=>ZkK (K ▸ R.size) h)) fun xl=>?_
 obtain⟨⟨F,G,es⟩,W⟩:=xl
 have g0:0<es.length:=W.2.1
 have i0:es.length≤9:=W.2.2
 refine xq 1 [eS1 9 F es.length G] [] ?_
 refine xe (zB (zD (zC (xq 1 [eS1 10 none 0 0] [] ?_))))
 refine xe (zB (zD (zD (zC (xq 3 [(15,.v (.pointer (some ⟨τ.g,0,none⟩))),yJ 17 (IntKind.i64.wrap ((m:Int)+1))] [] ?_)))))
 rw[(show IntKind.i64.wrap ((m:Int)+1)=((m+1:Nat):Int) by rw[IntKind.wrap_i64];omega)]
 refine wJ (b:=τ.g) (d:=18) (j:=0) (c:=.slice τ.A τ.l τ.c) 24 [.pointer (some ⟨τ.g,0,none⟩),.int .i64 ((m+1:Nat):Int)] (fun x:{x:Nat // (fun v=>(v:Int)<((m+1:Nat):Int)) x}=>(fun v=>.int .i64 (v:Int)) x.1) (fun w=>dLi.ok m0 w ⟨F,G,es⟩) (fun x w=>TOk τ w∧(fun _ _=>True) x.1 w) (fun w Q=>TOk.cell Q.1) (Or.inr rfl) (fun w R Q=>(lQ τ wl (((m+1:Nat):Int)) _ X (X.old h0 R) Q.1 (by omega) (by omega)).mono (fun _ _ h=>wQ h (fun x H h=>fun _ _ _ _=>trivial))) (fun w w2 R Q H=>Dp.tape Q.2 Q.1 I H) fun⟨S,j0⟩=>?_
 refine xr 1 [(0,.v (.pointer (some ⟨τ.g,0,none⟩))),yJ 1 (n:Int),(8,.p 8 0),eS1 9 F es.length G,eS1 10 none 0 0,yJ 11 (S:Int)] [(8,82,[.v (.int .i64 0),.v (.slice none 0 0)])] ?_
 refine xe (zB (zN ?_))
 refine yC [(0,.v (.pointer (some ⟨τ.g,0,none⟩))),yJ 1 (n:Int),(8,.p 8 0),eS1 9 F es.length G,eS1 10 none 0 0,yJ 11 (S:Int)] [(8,82,[.v (.int .i64 0),.v (.slice none 0 0)])] (fun w=>(((TOk τ w∧dLi.ok m0 w ⟨F,G,es⟩)∧OwnD w m0 248 5 none 0 0 (wC ([]:List RT)))∧dRT.list.ok m0 w ([]:List RT))) (fun w Q=>⟨⟨⟨Q.2.1,Q.1⟩,(OwnD.nil _ _ _ _)⟩,(Dp.none _ _ _)⟩) ?_
 refine xS (fun nn ss ff=>∃ (j:Nat) (B:Option Addr) (J:Nat) (a:List RT) (tn:Nat),ss=ofL [(0,.v (.pointer (some ⟨τ.g,0,none⟩))),yJ 1 (n:Int),(8,.p 8 0),eS1 9 F es.length G,eS1 10 B tn J,yJ 11 (j:Int)] [(8,82,[.v (.int .i64 0),.v (.slice none 0 0)])]∧ff=(fun w=>(((TOk τ w∧dLi.ok m0 w ⟨F,G,es⟩)∧OwnD w m0 248 5 B J tn (wC a))∧dRT.list.ok m0 w a))∧(a.length+j≤3)∧(∀ t∈a,Dq t.q 1∧EX n t.ex)∧(a.length=0→B=none)∧(a.length=tn)∧nn=(1+j)) ((1+S)) ⟨S,none,0,([]:List RT),0,rfl,rfl,(by show 0+_≤3;omega),(fun t h=>by cases h),(fun _=>rfl),rfl,rfl⟩ ?_
 rintro nn ss ff ⟨j,B,J,a,tn,rfl,rfl,o0,T,e0,f0,rfl⟩
 subst f0
 refine zD (zD (zC (xq 2 [yB 20 (decide ((j:Int)>0))] [] ?_)))
 refine xe (zB ?_)
 refine yQ ((decide ((j:Int)>0))) (fun M=>?_) fun M=>?_
 ·have hj:0<j:=by have:=uF M;omega
  refine zJ (zB (zD (zN (zC (xq 2 [eS1 23 B a.length J,(24,.v (.pointer (some ⟨τ.g,0,none⟩)))] [] ?_)))))
  refine wJ (b:=τ.g) (d:=25) (j:=0) (c:=.slice τ.A τ.l τ.c) 49 [.pointer (some ⟨τ.g,0,none⟩)] (fun x:{x:ShQ×Rat // (fun x=>Dq x.2 1) x}=>(fun x=>xC x.1) x.1) (fun w=>((dLi.ok m0 w ⟨F,G,es⟩∧OwnD w m0 248 5 B J a.length (wC a))∧dRT.list.ok m0 w a)) (fun x w=>TOk τ w∧(fun x w=>zF w (xC x.1) x.2) x.1 w) (fun w Q=>TOk.cell Q.1.1.1) (Or.inr rfl) (fun w R Q=>(ZlI τ wl _ X (X.old h0 R) Q.1.1.1).mono (fun _ _ h=>wQ h (fun x H h=>h.boxT H))) (fun w w2 R Q H=>⟨⟨Dp.tape Q.1.1.2 Q.1.1.1 I H,OwnD.tape Q.1.2 H I⟩,Dp.tape Q.2 Q.1.1.1 I H⟩) fun xx=>?_
  obtain⟨⟨⟨f,r,s,u,y,C,D,E⟩,L⟩,a0⟩:=xx
  refine xr 4 [(0,.v (.pointer (some ⟨τ.g,0,none⟩))),yJ 1 (n:Int),(8,.p 8 0),eS1 9 F es.length G,eS1 10 B a.length J,yJ 11 (j:Int),eS1 23 B a.length J,eR4 25 f r s u y C D E,eS1 26 F es.length G,(27,.v (.pointer (some ⟨τ.g,0,none⟩))),yJ 29 ((es.length:Nat):Int)] [(8,82,[.v (.int .i64 0),.v (.slice none 0 0)])] ?_
  refine wJ (b:=τ.g) (d:=30) (j:=0) (c:=.slice τ.A τ.l τ.c) 24 [.pointer (some ⟨τ.g,0,none⟩),.int .i64 ((es.length:Nat):Int)] (fun x:{x:Nat // (fun v=>(v:Int)<((es.length:Nat):Int)) x}=>(fun v=>.int .i64 (v:Int)) x.1) (fun w=>(((dLi.ok m0 w ⟨F,G,es⟩∧OwnD w m0 248 5 B J a.length (wC a))∧dRT.list.ok m0 w a)∧zF w (.agg #[.bool f,.slice r s u,.bool y,.slice C D E]) (L))) (fun x w=>TOk τ w∧(fun _ _=>True) x.1 w) (fun w Q=>TOk.cell Q.2.1) (Or.inr rfl) (fun w R Q=>(lQ τ wl (((es.length:Nat):Int)) _ X (X.old h0 R) Q.2.1 (by omega) (by omega)).mono (fun _ _ h=>wQ h (fun x H h=>fun _ _ _ _=>trivial))) (fun w w2 R Q H=>⟨⟨⟨Dp.tape Q.1.1.1 Q.2.1 I H,OwnD.tape Q.1.1.2 H I⟩,Dp.tape Q.1.2 Q.2.1 I H⟩,zF.tape Q.2.2 Q.2.1 H⟩) fun⟨N,k0⟩=>?_
  refine xr 0 [(0,.v (.pointer (some ⟨τ.g,0,none⟩))),yJ 1 (n:Int),(8,.p 8 0),eS1 9 F es.length G,eS1 10 B a.length J,yJ 11 (j:Int),eS1 23 B a.length J,eR4 25 f r s u y C D E,eS1 26 F es.length G,yJ 30 (N:Int)] [(8,82,[.v (.int .i64 0),.v (.slice none 0 0)])] ?_
  obtain⟨e,he⟩:∃ x,es[N]! = x:=⟨_,rfl⟩
  have O:N<es.length:=by omega
  have b0:e∈es:=by rw[←he,getElem!_pos es _ O];exact tY O
  refine xqk 31 (atA F (N*1)) (fun w R Q=>wT (t:=245) (e:=22) (sz:=1) (x:=.tmp 26) (ix:=.tmp 30) (len:=es.length) (cap:=G) (i:=N) (OwnD.ne (Q.1.1.1.1).1 O) O) ?_
  refine xqk 32 (.slice e.A e.exps.length e.cap) (fun w R Q=>by rw[←he];exact ZlN (t:=22) (x:=.tmp 31) (Q.1.1.1.1).1 O) ?_
  refine xq 1 [(33,.v (.agg #[.bool f,.slice r s u,.bool y,.slice C D E,.slice e.A e.exps.length e.cap]))] [] ?_
  refine yD (d:=34) (fun zb:{b:Nat // m0≤b}=>.slice (some ⟨zb.1,0,none⟩) 1 1) (fun zb zw=>Blk 248 zw zb.1 #[.bool f,.slice r s u,.bool y,.slice C D E,.slice e.A e.exps.length e.cap]) (fun w R Q=>xF (m0:=m0) (K ▸ R.size) (t:=80) (e:=248) (n:=1) (sz:=5) (z:=.agg #[.bool false,.slice none 0 0,.bool false,.slice none 0 0,.slice none 0 0]) (parts:=#[(0,Operand.tmp 33)]) (by kernel_rfl) (by kernel_rfl) (by kernel_rfl) (by kernel_rfl) (by kernel_rfl) (by kernel_rfl)) fun⟨c0,l0⟩=>?_
  refine xr 0 [(0,.v (.pointer (some ⟨τ.g,0,none⟩))),yJ 1 (n:Int),(8,.p 8 0),eS1 9 F es.length G,eS1 10 B a.length J,yJ 11 (j:Int),eS1 23 B a.length J,eS1 34 (some ⟨c0,0,none⟩) 1 1] [(8,82,[.v (.int .i64 0),.v (.slice none 0 0)])] ?_
  refine lJ (d:=35) (k:=5) (n:=a.length) (m:=1) (cap:=J) (bytes:=88) (t:=80) (e:=248) (s0:=Operand.tmp 23) (x:=Operand.tmp 34) (xs:=wC a) (news:=[.bool f,.slice r s u,.bool y,.slice C D E,.slice e.A e.exps.length e.cap]) (z:=(.agg #[.bool false,.slice none 0 0,.bool false,.slice none 0 0,.slice none 0 0])) m0 B (fun j hj h=>Or.inl (K ▸ h)) c0 1 (fun w=>(((dLi.ok m0 w ⟨F,G,es⟩∧dRT.list.ok m0 w a)∧zF w (.agg #[.bool f,.slice r s u,.bool y,.slice C D E]) (L))∧TOk τ w)) (fun w R Q=>K ▸ R.size) (fun w Q=>Q.1.1.1.1.2) (fun w Q=>Blk.news Q.2) rfl (by decide) rfl (wG.list (by simp)) (by decide) (by simp[Value.oneCell']) (by simp) (by simp only[maxLen];omega) (by omega) e0 (fun w w2 R Q H=>⟨⟨⟨Dp.rowUp Q.1.1.1.1.1 Q.1.1.1.1.2 (by decide) H,Dp.rowUp Q.1.1.1.2 Q.1.1.1.1.2 (by decide) H⟩,zF.rowUp Q.1.1.2 Q.1.1.1.1.2 H⟩,TOk.row Q.1.2.1 Q.1.1.1.1.2 I H⟩) fun U V n0=>?_
  refine xr 1 [(0,.v (.pointer (some ⟨τ.g,0,none⟩))),yJ 1 (n:Int),(8,.p 8 0),eS1 9 F es.length G,eS1 10 U (a.length+1) V,yJ 11 (j:Int)] [(8,82,[.v (.int .i64 0),.v (.slice none 0 0)])] ?_
  refine xe (xK (zB (zC (xq 2 [yJ 22 (IntKind.i64.wrap ((j:Int)-1))] [] ?_))))
  rw[(show IntKind.i64.wrap ((j:Int)-1)=((j-1:Nat):Int) by rw[IntKind.wrap_i64];omega)]
  refine xq 1 [yJ 11 ((j-1:Nat):Int)] [] ?_
  refine xe ?_
  refine yP [(0,.v (.pointer (some ⟨τ.g,0,none⟩))),yJ 1 (n:Int),(8,.p 8 0),eS1 9 F es.length G,eS1 10 U (a.length+1) V,yJ 11 (((j-1):Nat):Int)] [(8,82,[.v (.int .i64 0),.v (.slice none 0 0)])] (fun w=>(((TOk τ w∧dLi.ok m0 w ⟨F,G,es⟩)∧OwnD w m0 248 5 U V (a.length+1) (wC (a ++ [⟨(f,r,s,u,y,C,D,E),L,e.A,e.cap,e.exps⟩])))∧dRT.list.ok m0 w (a ++ [⟨(f,r,s,u,y,C,D,E),L,e.A,e.cap,e.exps⟩]))) (fun w Q=>⟨⟨⟨Q.1.2,Q.1.1.1.1⟩,(by rw[jW];exact Q.2)⟩,(Dp.snoc Q.1.1.1.2 (show dRT.ok m0 w (⟨(f,r,s,u,y,C,D,E),L,e.A,e.cap,e.exps⟩:RT) from ⟨Q.1.1.2,(Q.1.1.1.1).2 e b0⟩))⟩) ?_
  exact xE ((1+(j-1))) (by omega) ⟨(j-1),U,V,(a ++ [⟨(f,r,s,u,y,C,D,E),L,e.A,e.cap,e.exps⟩]),(a.length+1),rfl,rfl,(by rw[uA];show a.length+1+(j-1)≤3;omega),(Zm3 T a0 (W.1 e b0)),(fun h=>by rw[uA] at h;simp at h),uA,rfl⟩
 have p0:j=0:=by have:=uE M;omega
 refine xN (zH (zH (xX (zB (zD (zC (xq 2 [yJ 36 (n:Int),eS1 37 B a.length J] [] ?_)))))))
 refine xqc 167 [.int .i64 (n:Int),.slice B a.length J] 38 (fun x:{x:Option Addr×Nat × List RT // ZcS a x.2.2}=>.agg #[.int .i64 (n:Int),.slice x.1.1 x.1.2.2.length x.1.2.1]) _ (fun w R Q=>(Zm2 n (n:Int) B J a _ (fun t Y=>⟨(Q.2 t Y).1,(T t Y).1⟩) (TsAt.own Q.1.2) (fun t Y=>OwnD.irow (Q.2 t Y).2) (fun t Y=>(T t Y).2) hn (by omega) (OwnD.le Q.1.2)).mono (fun _ _ h=>ZlM (K ▸ R.size) h)) fun xz=>?_
 obtain⟨⟨Z,cZ,zs⟩,d0⟩:=xz
 refine xq 1 [] [(8,82,[.v (.int .i64 (n:Int)),.v (.slice Z zs.length cZ)])] ?_
 refine xe (zB (zI ?_))
 refine yR (.agg #[.int .i64 (n:Int),.slice Z zs.length cZ]) fun w' R Q=>?_
 exact⟨⟨(n:Int),Z,cZ,zs⟩,Zn0 hn T d0 (by omega),rfl,R,Q.1.1.1.1,K ▸ ⟨Q.2.1,Zn1 d0 Q.2.2 Q.1.2⟩⟩
theorem ZlO (v:Int)(A:Option Addr)(l c:Nat)(w:World) :
 yA 171 #[.agg #[.int .i64 v,.slice A l c]] w (RetV w (.agg #[.int .i64 v,.slice A l c,.int .i64 v,.slice none 0 0])):=by
 refine xB (Φ:=fun w=>True) Tryz.func171 rfl (by kernel_rfl) (fun w' a=>trivial) ?_
 refine zD (zC (xq 2 [(1,.p 1 0),(2,.p 2 0)] [(2,172,[.v (.int .i64 0),.v (.slice none 0 0),.v (.int .i64 0),.v (.slice none 0 0)]),(1,82,[.v (.int .i64 v),.v (.slice A l c)])] ?_))
 refine xe (zB (zD (zC (xq 6 [] [(2,172,[.v (.int .i64 v),.v (.slice A l c),.v (.int .i64 v),.v (.slice none 0 0)])] ?_))))
 refine xe (zB (zI ?_))
 refine yR (.agg #[.int .i64 v,.slice A l c,.int .i64 v,.slice none 0 0]) fun w' R Q=>?_
 exact⟨rfl,R⟩
theorem ZfX (τ:Tap)(wl w:World)(B:TOld wl τ)(G:Ext wl w)(H:TOk τ w)(n k m:Nat)(d:Int)(I:n=1∨n=2)(M:k≤2)(N:m≤3) :
 yA 76 #[.pointer (some ⟨τ.g,0,none⟩),.int .i64 ((n:Nat):Int),.int .i64 d,.int .i64 ((k:Nat):Int),.int .i64 ((m:Nat):Int)] w (RetT τ (fun s:RS=>.agg #[.int .i64 s.a.v,.slice s.a.A s.a.ts.length s.a.c,.int .i64 s.b.v,.slice s.b.A s.b.ts.length s.b.c]) (SG n) (fun s w'=>dRS.ok w.heap.size w' s) w):=by
 obtain⟨m0,u⟩:∃ m,m=w.heap.size:=⟨_,rfl⟩
 have C:τ.g<m0:=u ▸ H.lt
 refine lW (fun i=>i=τ.g) (Φ:=fun w=>TOk τ w) Tryz.func76 rfl (by kernel_rfl) (fun w' L=>H.ext L) ?_
 refine zD (zC (xq 1 [(10,.p 10 0)] [(10,172,[.v (.int .i64 0),.v (.slice none 0 0),.v (.int .i64 0),.v (.slice none 0 0)])] ?_))
 refine xe (zB (zD (zC (xq 4 [(12,.v (.pointer (some ⟨τ.g,0,none⟩))),yJ 13 (n:Int),yJ 14 (k:Int),yJ 15 (m:Int)] [] ?_))))
 refine wJ (b:=τ.g) (d:=16) (j:=0) (c:=.slice τ.A τ.l τ.c) 74 [.pointer (some ⟨τ.g,0,none⟩),.int .i64 (n:Int),.int .i64 (k:Int),.int .i64 (m:Int)] (fun x:{x:RP // (PG n) x}=>(fun p=>.agg #[.int .i64 p.v,.slice p.A p.ts.length p.c]) x.1) (fun w=>True) (fun x w=>TOk τ w∧(fun p w=>dRP.ok m0 w p) x.1 w) (fun w Q=>TOk.cell Q) (Or.inr rfl) (fun w R Q=>(bX τ wl _ B (B.old G R) Q (n) (k) (m) I (by omega) (by omega)).mono (fun _ _ h=>wQ h (fun x z h=>Dp.boxTm h z (u ▸ R.size)))) (fun w J R Q z=>trivial) fun⟨f,r⟩=>?_
 refine xr 0 [(0,.v (.pointer (some ⟨τ.g,0,none⟩))),yJ 1 (n:Int),yJ 2 d,yJ 3 (k:Int),yJ 4 (m:Int),(10,.p 10 0),(16,.v (.agg #[.int .i64 f.v,.slice f.A f.ts.length f.c]))] [(10,172,[.v (.int .i64 0),.v (.slice none 0 0),.v (.int .i64 0),.v (.slice none 0 0)])] ?_
 refine xqc 171 [.agg #[.int .i64 f.v,.slice f.A f.ts.length f.c]] 17 (fun _:Unit=>.agg #[.int .i64 f.v,.slice f.A f.ts.length f.c,.int .i64 f.v,.slice none 0 0]) _ (fun w R Q=>yN (ZlO _ _ _ _ _)) fun O=>?_
 refine xq 2 [(11,.p 11 0)] [(11,172,[.v (.int .i64 f.v),.v (.slice f.A f.ts.length f.c),.v (.int .i64 f.v),.v (.slice none 0 0)])] ?_
 refine xe (zB (zD (zD (zC (xq 3 [yB 20 (decide (d>1))] [] ?_)))))
 rcases bl2 ((decide (d>1))) with y|y
 ·rw[y]
  refine xq 1 [(21,.v (.pointer (some ⟨τ.g,0,none⟩)))] [] ?_
  refine wJ (b:=τ.g) (d:=22) (j:=0) (c:=.slice τ.A τ.l τ.c) 24 [.pointer (some ⟨τ.g,0,none⟩),.int .i64 2] (fun x:{x:Nat // (fun v=>(v:Int)<2) x}=>(fun v=>.int .i64 (v:Int)) x.1) (fun w=>dRP.ok m0 w f) (fun x w=>TOk τ w∧(fun _ _=>True) x.1 w) (fun w Q=>TOk.cell Q.1.2.1) (Or.inr rfl) (fun w R Q=>(lQ τ wl (2) _ B (B.old G R) Q.1.2.1 (by decide) (by decide)).mono (fun _ _ h=>wQ h (fun x z h=>fun _ _ _ _=>trivial))) (fun w J R Q z=>Dp.tape Q.1.2.2 Q.1.2.1 C z) fun⟨D,K⟩=>?_
  refine xr 2 [(0,.v (.pointer (some ⟨τ.g,0,none⟩))),yJ 1 (n:Int),yJ 3 (k:Int),yJ 4 (m:Int),(10,.p 10 0),(11,.p 11 0),yB 24 (((D:Int):Int) == 1)] [(11,172,[.v (.int .i64 f.v),.v (.slice f.A f.ts.length f.c),.v (.int .i64 f.v),.v (.slice none 0 0)]),(10,172,[.v (.int .i64 0),.v (.slice none 0 0),.v (.int .i64 0),.v (.slice none 0 0)])] ?_
  refine xe (zB ?_)
  refine yQ ((((D:Int):Int) == 1)) (fun E=>?_) fun E=>?_
  ·refine zC (xq 4 [(25,.v (.pointer (some ⟨τ.g,0,none⟩))),yJ 26 (n:Int),yJ 27 (k:Int),yJ 28 (m:Int)] [] ?_)
   refine wJ (b:=τ.g) (d:=29) (j:=0) (c:=.slice τ.A τ.l τ.c) 74 [.pointer (some ⟨τ.g,0,none⟩),.int .i64 (n:Int),.int .i64 (k:Int),.int .i64 (m:Int)] (fun x:{x:RP // (PG n) x}=>(fun p=>.agg #[.int .i64 p.v,.slice p.A p.ts.length p.c]) x.1) (fun w=>dRP.ok m0 w f) (fun x w=>TOk τ w∧(fun p w=>dRP.ok m0 w p) x.1 w) (fun w Q=>TOk.cell Q.2.1) (Or.inr rfl) (fun w R Q=>(bX τ wl _ B (B.old G R) Q.2.1 (n) (k) (m) I (by omega) (by omega)).mono (fun _ _ h=>wQ h (fun x z h=>Dp.boxTm h z (u ▸ R.size)))) (fun w J R Q z=>Dp.tape Q.1 Q.2.1 C z) fun⟨q,F⟩=>?_
   refine xr 2 [(10,.p 10 0),(11,.p 11 0)] [(11,172,[.v (.int .i64 f.v),.v (.slice f.A f.ts.length f.c),.v (.int .i64 q.v),.v (.slice q.A q.ts.length q.c)]),(10,172,[.v (.int .i64 0),.v (.slice none 0 0),.v (.int .i64 0),.v (.slice none 0 0)])] ?_
   refine xe (zB (zD (zC (xq 2 [] [(10,172,[.v (.int .i64 f.v),.v (.slice f.A f.ts.length f.c),.v (.int .i64 q.v),.v (.slice q.A q.ts.length q.c)])] ?_))))
   refine xe (zB (zI ?_))
   refine yR (.agg #[.int .i64 f.v,.slice f.A f.ts.length f.c,.int .i64 q.v,.slice q.A q.ts.length q.c]) fun w' R Q=>?_
   exact⟨⟨f,q⟩,⟨r,F⟩,rfl,R,Q.2.1,u ▸ ⟨Q.1,Q.2.2⟩⟩
  refine zJ (zB (zD (zC (xq 2 [] [(10,172,[.v (.int .i64 f.v),.v (.slice f.A f.ts.length f.c),.v (.int .i64 f.v),.v (.slice none 0 0)])] ?_))))
  refine xe (zB (zI ?_))
  refine yR (.agg #[.int .i64 f.v,.slice f.A f.ts.length f.c,.int .i64 f.v,.slice none 0 0]) fun w' R Q=>?_
  exact⟨⟨f,⟨f.v,none,0,[]⟩⟩,⟨r,ZiD r⟩,rfl,R,Q.2.1,u ▸ ⟨Q.1,ZiE _ _ _⟩⟩
 rw[y]
 refine xq 4 [yB 24 false] [] ?_
 refine xe (zB (xb (zJ (zB (zD (zC (xq 2 [] [(10,172,[.v (.int .i64 f.v),.v (.slice f.A f.ts.length f.c),.v (.int .i64 f.v),.v (.slice none 0 0)])] ?_)))))))
 refine xe (zB (zI ?_))
 refine yR (.agg #[.int .i64 f.v,.slice f.A f.ts.length f.c,.int .i64 f.v,.slice none 0 0]) fun w' R Q=>?_
 exact⟨⟨f,⟨f.v,none,0,[]⟩⟩,⟨r,ZiD r⟩,rfl,R,Q.1.2.1,u ▸ ⟨Q.1.2.2,ZiE _ _ _⟩⟩
structure QV where
 ov:Int
 oA:Option Addr
 ol:Nat
 oc:Nat
 iA:Option Addr
 il:Nat
 ic:Nat
 eA:Option Addr
 el:Nat
 ec:Nat
def QGd (n:Nat) (d:Int) (s:RQ):Prop:=(Dq s.qa 1∧Dq s.qb 1∧(s.qb=0∨d≠1))∧SG n s.r
def PGd (n:Nat) (d:Int) (p:RPart):Prop:=(∀ z∈p.zs,0≤z∧z≤2)∧p.zs.length≤2∧p.sq.length≤2∧∀ s∈p.sq,QGd n d s
def CGd (n:Nat) (d:Int) (x:RC):Prop:=x.d=d∧x.ps.length≤2∧x.ms.length≤1∧(∀ p∈x.ps,PGd n d p)∧∀ s∈x.ms,SG n s
theorem ZaR {l:List Value}(h:l.all (fun v=>match v with | .int k _=>k == .i64 | _=>true)=true):∀ (k:IntKind) (z:Int),Value.int k z∈l→k=.i64:=fun k z a=>by
 have:=vC.1 h _ a
 simpa using this
theorem ZkL (zs:List Int)(z:Int):intV (zs ++ [z])=intV zs ++ [.int .i64 z]:=by simp[intV]
theorem eL {α:Type}{p:α→Prop}{l:List α}{a:α}(h:∀ x∈l,p x)(c:p a):∀ x∈l ++ [a],p x:=fun x b=>by
 rcases vL.1 b with b|b
 ·exact h x b
 obtain rfl:=vH.1 b;exact c
theorem Zhh (τ:Tap)(wl w:World)(G:TOld wl τ)(T:Ext wl w)(hT:TOk τ w)(n d:Nat)(Z:n=1∨n=2)(hd:d≤2) :
 yA 28 #[.pointer (some ⟨τ.g,0,none⟩),.int .i64 ((n:Nat):Int),.int .i64 ((d:Nat):Int)] w (RetT τ (fun x:QV=>.agg #[.int .i64 ((n:Nat):Int),.int .i64 x.ov,.slice x.oA x.ol x.oc,.slice x.iA x.il x.ic,.slice x.eA x.el x.ec]) (fun x=>x.il≤2∧x.el≤1) (fun _ _=>True) w):=by
 obtain⟨m0,r⟩:∃ m,m=w.heap.size:=⟨_,rfl⟩
 have u:τ.g<m0:=r ▸ hT.lt
 refine lW (fun i=>i=τ.g) (Φ:=fun w=>TOk τ w) Tryz.func28 rfl (by kernel_rfl) (fun w' hf=>hT.ext hf) ?_
 refine zD (zC (xq 1 [(6,.p 6 0)] [(6,85,[.v (.int .i64 0),.v (.int .i64 0),.v (.slice none 0 0),.v (.slice none 0 0),.v (.slice none 0 0)])] ?_))
 refine xe (zB (zD (zC (xq 4 [yJ 10 (n:Int),(11,.v (.pointer (some ⟨τ.g,0,none⟩))),yJ 12 (n:Int),yJ 13 (d:Int)] [] ?_))))
 refine wJ (b:=τ.g) (d:=14) (j:=0) (c:=.slice τ.A τ.l τ.c) 74 [.pointer (some ⟨τ.g,0,none⟩),.int .i64 (n:Int),.int .i64 (d:Int),.int .i64 3] (fun x:{x:RP // (PG n) x}=>(fun p=>.agg #[.int .i64 p.v,.slice p.A p.ts.length p.c]) x.1) (fun w=>True) (fun x w=>TOk τ w∧(fun p w=>dRP.ok m0 w p) x.1 w) (fun w Q=>TOk.cell Q) (Or.inr rfl) (fun w R Q=>(bX τ wl _ G (G.old T R) Q (n) (d) (3) Z (by omega) (by omega)).mono (fun _ _ h=>wQ h (fun x s h=>Dp.boxTm h s (r ▸ R.size)))) (fun w S R Q s=>trivial) fun⟨a,e0⟩=>?_
 refine xr 3 [(0,.v (.pointer (some ⟨τ.g,0,none⟩))),yJ 1 (n:Int),yJ 2 (d:Int),(6,.p 6 0),(7,.p 7 0)] [(7,85,[.v (.int .i64 (n:Int)),.v (.int .i64 a.v),.v (.slice a.A a.ts.length a.c),.v (.slice none 0 0),.v (.slice none 0 0)]),(6,85,[.v (.int .i64 0),.v (.int .i64 0),.v (.slice none 0 0),.v (.slice none 0 0),.v (.slice none 0 0)])] ?_
 refine xe (zB (zD (zD (zC (xq 1 [(16,.v (.pointer (some ⟨τ.g,0,none⟩)))] [] ?_)))))
 refine wJ (b:=τ.g) (d:=17) (j:=0) (c:=.slice τ.A τ.l τ.c) 24 [.pointer (some ⟨τ.g,0,none⟩),.int .i64 3] (fun x:{x:Nat // (fun v=>(v:Int)<3) x}=>(fun v=>.int .i64 (v:Int)) x.1) (fun w=>dRP.ok m0 w a) (fun x w=>TOk τ w∧(fun _ _=>True) x.1 w) (fun w Q=>TOk.cell Q.2.1) (Or.inr rfl) (fun w R Q=>(lQ τ wl (3) _ G (G.old T R) Q.2.1 (by decide) (by decide)).mono (fun _ _ h=>wQ h (fun x s h=>fun _ _ _ _=>trivial))) (fun w S R Q s=>Dp.tape Q.2.2 Q.2.1 u s) fun⟨H,f0⟩=>?_
 refine xr 1 [(0,.v (.pointer (some ⟨τ.g,0,none⟩))),yJ 1 (n:Int),yJ 2 (d:Int),(6,.p 6 0),(7,.p 7 0),yJ 8 (H:Int)] [(7,85,[.v (.int .i64 (n:Int)),.v (.int .i64 a.v),.v (.slice a.A a.ts.length a.c),.v (.slice none 0 0),.v (.slice none 0 0)]),(6,85,[.v (.int .i64 0),.v (.int .i64 0),.v (.slice none 0 0),.v (.slice none 0 0),.v (.slice none 0 0)])] ?_
 refine xe (zB (zN ?_))
 refine yC [(0,.v (.pointer (some ⟨τ.g,0,none⟩))),yJ 1 (n:Int),yJ 2 (d:Int),(6,.p 6 0),(7,.p 7 0),yJ 8 (H:Int)] [(7,85,[.v (.int .i64 (n:Int)),.v (.int .i64 a.v),.v (.slice a.A a.ts.length a.c),.v (.slice none 0 0),.v (.slice none 0 0)]),(6,85,[.v (.int .i64 0),.v (.int .i64 0),.v (.slice none 0 0),.v (.slice none 0 0),.v (.slice none 0 0)])] (fun w=>(TOk τ w∧OwnD w m0 82 2 none 0 0 ([]:List Value))) (fun w Q=>⟨Q.2.1,(OwnD.nil _ _ _ _)⟩) ?_
 refine xS (fun U V W=>∃ (j k:Nat) (B:Option Addr) (q:Nat) (xs:List Value),V=ofL [(0,.v (.pointer (some ⟨τ.g,0,none⟩))),yJ 1 (n:Int),yJ 2 (d:Int),(6,.p 6 0),(7,.p 7 0),yJ 8 (j:Int)] [(7,85,[.v (.int .i64 (n:Int)),.v (.int .i64 a.v),.v (.slice a.A a.ts.length a.c),.v (.slice B k q),.v (.slice none 0 0)]),(6,85,[.v (.int .i64 0),.v (.int .i64 0),.v (.slice none 0 0),.v (.slice none 0 0),.v (.slice none 0 0)])]∧W=(fun w=>(TOk τ w∧OwnD w m0 82 2 B q k xs))∧(k+j≤2)∧(k=0→B=none)∧U=(1+j)) ((1+H)) ⟨H,0,none,0,([]:List Value),rfl,rfl,(by omega),(fun _=>rfl),rfl⟩ ?_
 rintro U V W ⟨j,k,B,q,xs,rfl,rfl,hj,N,rfl⟩
 refine zD (zD (zC (xq 2 [yB 19 (decide ((j:Int)>0))] [] ?_)))
 refine xe (zB ?_)
 refine yQ ((decide ((j:Int)>0))) (fun E=>?_) fun E=>?_
 ·have a0:0<j:=by have:=uF E;omega
  refine zJ (zB (zD (zN ?_)))
  refine yO 7 zK ?_
  refine xqg 5 [eS1 23 B k q,(24,.v (.pointer (some ⟨τ.g,0,none⟩))),yJ 25 (n:Int),yJ 26 (d:Int)] ?_
  refine cI 27 (b:=τ.g) (j:=0) (c:=.slice τ.A τ.l τ.c) 74 [.pointer (some ⟨τ.g,0,none⟩),.int .i64 (n:Int),.int .i64 (d:Int),.int .i64 2] (fun x:{x:RP // (PG n) x}=>(fun p=>.agg #[.int .i64 p.v,.slice p.A p.ts.length p.c]) x.1) (fun w=>OwnD w m0 82 2 B q k xs) (fun x w=>TOk τ w∧(fun p w=>dRP.ok m0 w p) x.1 w) (fun w Q=>TOk.cell Q.1) (Or.inr rfl) (fun w R Q=>(bX τ wl _ G (G.old T R) Q.1 (n) (d) (2) Z (by omega) (by omega)).mono (fun _ _ h=>wQ h (fun x s h=>Dp.boxTm h s (r ▸ R.size)))) (fun w S R Q s=>OwnD.tape Q.2 s u) (fun x w Q=>⟨Q.2.1,Q.1⟩) fun⟨f,g0⟩=>?_
  refine xf 0 [(0,.v (.pointer (some ⟨τ.g,0,none⟩))),yJ 1 (n:Int),yJ 2 (d:Int),(6,.p 6 0),(7,.p 7 0),yJ 8 (j:Int),eS1 23 B k q,(27,.v (.agg #[.int .i64 f.v,.slice f.A f.ts.length f.c]))] [(7,85,[.v (.int .i64 (n:Int)),.v (.int .i64 a.v),.v (.slice a.A a.ts.length a.c),.v (.slice B k q),.v (.slice none 0 0)]),(6,85,[.v (.int .i64 0),.v (.int .i64 0),.v (.slice none 0 0),.v (.slice none 0 0),.v (.slice none 0 0)])] ?_
  refine gC 28 (fun O:{b:Nat // m0≤b}=>.slice (some ⟨O.1,0,none⟩) 1 1) (fun O zw=>Blk 82 zw O.1 #[.int .i64 f.v,.slice f.A f.ts.length f.c]) (by kernel_rfl) (by kernel_rfl) (by kernel_rfl) (by kernel_rfl) (by kernel_rfl) (by kernel_rfl) (by kernel_rfl) (fun w R Q=>xF (m0:=m0) (r ▸ R.size) (t:=83) (e:=82) (n:=1) (sz:=2) (z:=.agg #[.int .i64 0,.slice none 0 0]) (parts:=#[(0,Operand.tmp 27)]) (by kernel_rfl) (by kernel_rfl) (by kernel_rfl) (by kernel_rfl) (by kernel_rfl) (by kernel_rfl)) fun⟨X,i0⟩=>?_
  refine xf 0 [(0,.v (.pointer (some ⟨τ.g,0,none⟩))),yJ 1 (n:Int),yJ 2 (d:Int),(6,.p 6 0),(7,.p 7 0),yJ 8 (j:Int),eS1 23 B k q,eS1 28 (some ⟨X,0,none⟩) 1 1] [(7,85,[.v (.int .i64 (n:Int)),.v (.int .i64 a.v),.v (.slice a.A a.ts.length a.c),.v (.slice B k q),.v (.slice none 0 0)]),(6,85,[.v (.int .i64 0),.v (.int .i64 0),.v (.slice none 0 0),.v (.slice none 0 0),.v (.slice none 0 0)])] ?_
  refine xz ?_
  refine lJ (d:=29) (k:=2) (n:=k) (m:=1) (cap:=q) (bytes:=32) (t:=83) (e:=82) (s0:=Operand.tmp 23) (x:=Operand.tmp 28) (xs:=xs) (news:=[.int .i64 f.v,.slice f.A f.ts.length f.c]) (z:=(.agg #[.int .i64 0,.slice none 0 0])) m0 B (fun j hj h=>Or.inl (r ▸ h)) X 1 (fun w=>TOk τ w) (fun w R Q=>r ▸ R.size) (fun w Q=>Q.1.1) (fun w Q=>Blk.news Q.2) rfl (by decide) rfl (wG.list (by simp)) (by decide) (by simp[Value.oneCell']) (ZaR rfl) (by simp only[maxLen];omega) (by omega) N (fun w S R Q s=>TOk.row Q.1.2.1 Q.1.1 u s) fun I J j0=>?_
  refine xr 2 [(0,.v (.pointer (some ⟨τ.g,0,none⟩))),yJ 1 (n:Int),yJ 2 (d:Int),(6,.p 6 0),(7,.p 7 0),yJ 8 (j:Int)] [(7,85,[.v (.int .i64 (n:Int)),.v (.int .i64 a.v),.v (.slice a.A a.ts.length a.c),.v (.slice I (k+1) J),.v (.slice none 0 0)]),(6,85,[.v (.int .i64 0),.v (.int .i64 0),.v (.slice none 0 0),.v (.slice none 0 0),.v (.slice none 0 0)])] ?_
  refine xe (xK (zB (zC (xq 2 [yJ 21 (IntKind.i64.wrap ((j:Int)-1))] [] ?_))))
  rw[(show IntKind.i64.wrap ((j:Int)-1)=((j-1:Nat):Int) by rw[IntKind.wrap_i64];omega)]
  refine xq 1 [yJ 8 ((j-1:Nat):Int)] [] ?_
  refine xe ?_
  refine yP [(0,.v (.pointer (some ⟨τ.g,0,none⟩))),yJ 1 (n:Int),yJ 2 (d:Int),(6,.p 6 0),(7,.p 7 0),yJ 8 (((j-1):Nat):Int)] [(7,85,[.v (.int .i64 (n:Int)),.v (.int .i64 a.v),.v (.slice a.A a.ts.length a.c),.v (.slice I (k+1) J),.v (.slice none 0 0)]),(6,85,[.v (.int .i64 0),.v (.int .i64 0),.v (.slice none 0 0),.v (.slice none 0 0),.v (.slice none 0 0)])] (fun w=>(TOk τ w∧OwnD w m0 82 2 I J (k+1) (xs ++ [.int .i64 f.v,.slice f.A f.ts.length f.c]))) (fun w Q=>⟨Q.1,Q.2⟩) ?_
  exact xE ((1+(j-1))) (by omega) ⟨(j-1),(k+1),I,J,(xs ++ [.int .i64 f.v,.slice f.A f.ts.length f.c]),rfl,rfl,(by omega),(fun h=>absurd h (by omega)),rfl⟩
 have b0:j=0:=by have:=uE E;omega
 obtain⟨y,P⟩:∃ x,x=k:=⟨_,rfl⟩
 rw[←P]
 obtain⟨C,c0⟩:∃ x,x=B:=⟨_,rfl⟩
 rw[←c0]
 obtain⟨D,d0⟩:∃ x,x=q:=⟨_,rfl⟩
 rw[←d0]
 have P:y≤2:=by omega
 refine xN (zH (zH (xX (zB (zD (zD (zC (xq 1 [(31,.v (.pointer (some ⟨τ.g,0,none⟩)))] [(7,85,[.v (.int .i64 (n:Int)),.v (.int .i64 a.v),.v (.slice a.A a.ts.length a.c),.v (.slice C y D),.v (.slice none 0 0)])] ?_))))))))
 refine wJ (b:=τ.g) (d:=32) (j:=0) (c:=.slice τ.A τ.l τ.c) 24 [.pointer (some ⟨τ.g,0,none⟩),.int .i64 2] (fun x:{x:Nat // (fun v=>(v:Int)<2) x}=>(fun v=>.int .i64 (v:Int)) x.1) (fun w=>OwnD w m0 82 2 C D y xs) (fun x w=>TOk τ w∧(fun _ _=>True) x.1 w) (fun w Q=>TOk.cell Q.1) (Or.inr rfl) (fun w R Q=>(lQ τ wl (2) _ G (G.old T R) Q.1 (by decide) (by decide)).mono (fun _ _ h=>wQ h (fun x s h=>fun _ _ _ _=>trivial))) (fun w S R Q s=>OwnD.tape Q.2 s u) fun⟨K,k0⟩=>?_
 refine xr 1 [(0,.v (.pointer (some ⟨τ.g,0,none⟩))),yJ 1 (n:Int),yJ 2 (d:Int),(6,.p 6 0),(7,.p 7 0),yJ 9 (K:Int)] [(7,85,[.v (.int .i64 (n:Int)),.v (.int .i64 a.v),.v (.slice a.A a.ts.length a.c),.v (.slice C y D),.v (.slice none 0 0)]),(6,85,[.v (.int .i64 0),.v (.int .i64 0),.v (.slice none 0 0),.v (.slice none 0 0),.v (.slice none 0 0)])] ?_
 refine xe (zB (zN ?_))
 refine yC [(0,.v (.pointer (some ⟨τ.g,0,none⟩))),yJ 1 (n:Int),yJ 2 (d:Int),(6,.p 6 0),(7,.p 7 0),yJ 9 (K:Int)] [(7,85,[.v (.int .i64 (n:Int)),.v (.int .i64 a.v),.v (.slice a.A a.ts.length a.c),.v (.slice C y D),.v (.slice none 0 0)]),(6,85,[.v (.int .i64 0),.v (.int .i64 0),.v (.slice none 0 0),.v (.slice none 0 0),.v (.slice none 0 0)])] (fun w=>(TOk τ w∧OwnD w m0 82 2 none 0 0 ([]:List Value))) (fun w Q=>⟨Q.2.1,(OwnD.nil _ _ _ _)⟩) ?_
 refine xS (fun U V W=>∃ (j k:Nat) (B:Option Addr) (q:Nat) (xs:List Value),V=ofL [(0,.v (.pointer (some ⟨τ.g,0,none⟩))),yJ 1 (n:Int),yJ 2 (d:Int),(6,.p 6 0),(7,.p 7 0),yJ 9 (j:Int)] [(7,85,[.v (.int .i64 (n:Int)),.v (.int .i64 a.v),.v (.slice a.A a.ts.length a.c),.v (.slice C y D),.v (.slice B k q)]),(6,85,[.v (.int .i64 0),.v (.int .i64 0),.v (.slice none 0 0),.v (.slice none 0 0),.v (.slice none 0 0)])]∧W=(fun w=>(TOk τ w∧OwnD w m0 82 2 B q k xs))∧(k+j≤1)∧(k=0→B=none)∧U=(1+j)) ((1+K)) ⟨K,0,none,0,([]:List Value),rfl,rfl,(by omega),(fun _=>rfl),rfl⟩ ?_
 rintro U V W ⟨j,k,B,q,xs,rfl,rfl,hj,N,rfl⟩
 refine zD (zD (zC (xq 2 [yB 34 (decide ((j:Int)>0))] [] ?_)))
 refine xe (zB ?_)
 refine yQ ((decide ((j:Int)>0))) (fun F=>?_) fun F=>?_
 ·have a0:0<j:=by have:=uF F;omega
  refine zJ (zB (zD (zN ?_)))
  refine yO 7 zK ?_
  refine xqg 5 [eS1 38 B k q,(39,.v (.pointer (some ⟨τ.g,0,none⟩))),yJ 40 (n:Int),yJ 41 (d:Int)] ?_
  refine cI 42 (b:=τ.g) (j:=0) (c:=.slice τ.A τ.l τ.c) 74 [.pointer (some ⟨τ.g,0,none⟩),.int .i64 (n:Int),.int .i64 (d:Int),.int .i64 2] (fun x:{x:RP // (PG n) x}=>(fun p=>.agg #[.int .i64 p.v,.slice p.A p.ts.length p.c]) x.1) (fun w=>OwnD w m0 82 2 B q k xs) (fun x w=>TOk τ w∧(fun p w=>dRP.ok m0 w p) x.1 w) (fun w Q=>TOk.cell Q.1) (Or.inr rfl) (fun w R Q=>(bX τ wl _ G (G.old T R) Q.1 (n) (d) (2) Z (by omega) (by omega)).mono (fun _ _ h=>wQ h (fun x s h=>Dp.boxTm h s (r ▸ R.size)))) (fun w S R Q s=>OwnD.tape Q.2 s u) (fun x w Q=>⟨Q.2.1,Q.1⟩) fun⟨o,l0⟩=>?_
  refine xf 0 [(0,.v (.pointer (some ⟨τ.g,0,none⟩))),yJ 1 (n:Int),yJ 2 (d:Int),(6,.p 6 0),(7,.p 7 0),yJ 9 (j:Int),eS1 38 B k q,(42,.v (.agg #[.int .i64 o.v,.slice o.A o.ts.length o.c]))] [(7,85,[.v (.int .i64 (n:Int)),.v (.int .i64 a.v),.v (.slice a.A a.ts.length a.c),.v (.slice C y D),.v (.slice B k q)]),(6,85,[.v (.int .i64 0),.v (.int .i64 0),.v (.slice none 0 0),.v (.slice none 0 0),.v (.slice none 0 0)])] ?_
  refine gC 43 (fun O:{b:Nat // m0≤b}=>.slice (some ⟨O.1,0,none⟩) 1 1) (fun O zw=>Blk 82 zw O.1 #[.int .i64 o.v,.slice o.A o.ts.length o.c]) (by kernel_rfl) (by kernel_rfl) (by kernel_rfl) (by kernel_rfl) (by kernel_rfl) (by kernel_rfl) (by kernel_rfl) (fun w R Q=>xF (m0:=m0) (r ▸ R.size) (t:=83) (e:=82) (n:=1) (sz:=2) (z:=.agg #[.int .i64 0,.slice none 0 0]) (parts:=#[(0,Operand.tmp 42)]) (by kernel_rfl) (by kernel_rfl) (by kernel_rfl) (by kernel_rfl) (by kernel_rfl) (by kernel_rfl)) fun⟨Y,n0⟩=>?_
  refine xf 0 [(0,.v (.pointer (some ⟨τ.g,0,none⟩))),yJ 1 (n:Int),yJ 2 (d:Int),(6,.p 6 0),(7,.p 7 0),yJ 9 (j:Int),eS1 38 B k q,eS1 43 (some ⟨Y,0,none⟩) 1 1] [(7,85,[.v (.int .i64 (n:Int)),.v (.int .i64 a.v),.v (.slice a.A a.ts.length a.c),.v (.slice C y D),.v (.slice B k q)]),(6,85,[.v (.int .i64 0),.v (.int .i64 0),.v (.slice none 0 0),.v (.slice none 0 0),.v (.slice none 0 0)])] ?_
  refine xz ?_
  refine lJ (d:=44) (k:=2) (n:=k) (m:=1) (cap:=q) (bytes:=32) (t:=83) (e:=82) (s0:=Operand.tmp 38) (x:=Operand.tmp 43) (xs:=xs) (news:=[.int .i64 o.v,.slice o.A o.ts.length o.c]) (z:=(.agg #[.int .i64 0,.slice none 0 0])) m0 B (fun j hj h=>Or.inl (r ▸ h)) Y 1 (fun w=>TOk τ w) (fun w R Q=>r ▸ R.size) (fun w Q=>Q.1.1) (fun w Q=>Blk.news Q.2) rfl (by decide) rfl (wG.list (by simp)) (by decide) (by simp[Value.oneCell']) (ZaR rfl) (by simp only[maxLen];omega) (by omega) N (fun w S R Q s=>TOk.row Q.1.2.1 Q.1.1 u s) fun L M o0=>?_
  refine xr 2 [(0,.v (.pointer (some ⟨τ.g,0,none⟩))),yJ 1 (n:Int),yJ 2 (d:Int),(6,.p 6 0),(7,.p 7 0),yJ 9 (j:Int)] [(7,85,[.v (.int .i64 (n:Int)),.v (.int .i64 a.v),.v (.slice a.A a.ts.length a.c),.v (.slice C y D),.v (.slice L (k+1) M)]),(6,85,[.v (.int .i64 0),.v (.int .i64 0),.v (.slice none 0 0),.v (.slice none 0 0),.v (.slice none 0 0)])] ?_
  refine xe (xK (zB (zC (xq 2 [yJ 36 (IntKind.i64.wrap ((j:Int)-1))] [] ?_))))
  rw[(show IntKind.i64.wrap ((j:Int)-1)=((j-1:Nat):Int) by rw[IntKind.wrap_i64];omega)]
  refine xq 1 [yJ 9 ((j-1:Nat):Int)] [] ?_
  refine xe ?_
  refine yP [(0,.v (.pointer (some ⟨τ.g,0,none⟩))),yJ 1 (n:Int),yJ 2 (d:Int),(6,.p 6 0),(7,.p 7 0),yJ 9 (((j-1):Nat):Int)] [(7,85,[.v (.int .i64 (n:Int)),.v (.int .i64 a.v),.v (.slice a.A a.ts.length a.c),.v (.slice C y D),.v (.slice L (k+1) M)]),(6,85,[.v (.int .i64 0),.v (.int .i64 0),.v (.slice none 0 0),.v (.slice none 0 0),.v (.slice none 0 0)])] (fun w=>(TOk τ w∧OwnD w m0 82 2 L M (k+1) (xs ++ [.int .i64 o.v,.slice o.A o.ts.length o.c]))) (fun w Q=>⟨Q.1,Q.2⟩) ?_
  exact xE ((1+(j-1))) (by omega) ⟨(j-1),(k+1),L,M,(xs ++ [.int .i64 o.v,.slice o.A o.ts.length o.c]),rfl,rfl,(by omega),(fun h=>absurd h (by omega)),rfl⟩
 have b0:j=0:=by have:=uE F;omega
 refine xN (zH (zH (xX (zB (zD (zC (xq 2 [] [(6,85,[.v (.int .i64 (n:Int)),.v (.int .i64 a.v),.v (.slice a.A a.ts.length a.c),.v (.slice C y D),.v (.slice B k q)])] ?_)))))))
 refine xe (zB (zI ?_))
 refine yR (.agg #[.int .i64 (n:Int),.int .i64 a.v,.slice a.A a.ts.length a.c,.slice C y D,.slice B k q]) fun w' R Q=>?_
 exact⟨⟨a.v,a.A,a.ts.length,a.c,C,y,D,B,k,q⟩,⟨P,by show k≤1;omega⟩,rfl,R,Q.1,trivial⟩
theorem ZkM (τ:Tap)(wl w:World)(hO:TOld wl τ)(h0:Ext wl w)(hT:TOk τ w)(n:Nat)(q:QV)(d:Int)(hn:n=1∨n=2)(g1:q.il≤2)(h1:q.el≤1)(K0:1≤d)(L0:d≤9) :
 yA 30 #[.pointer (some ⟨τ.g,0,none⟩),.agg #[.int .i64 ((n:Nat):Int),.int .i64 q.ov,.slice q.oA q.ol q.oc,.slice q.iA q.il q.ic,.slice q.eA q.el q.ec],.int .i64 d] w (RetT τ (fun x:RC=>.agg #[.int .i64 x.d,.slice x.pA x.ps.length x.pc,.slice x.mA x.ms.length x.mc]) (CGd n d) (fun x w'=>dC.ok w.heap.size w' x) w):=by
 obtain⟨m0,P⟩:∃ m,m=w.heap.size:=⟨_,rfl⟩
 have N:τ.g<m0:=P ▸ hT.lt
 refine lW (fun i=>i=τ.g) (Φ:=fun w=>TOk τ w) Tryz.func30 rfl (by kernel_rfl) (fun w' hf=>hT.ext hf) ?_
 refine zD (zC (xq 2 [(4,.p 4 0),(6,.p 6 0)] [(6,91,[.v (.int .i64 0),.v (.slice none 0 0),.v (.slice none 0 0)]),(4,85,[.v (.int .i64 (n:Int)),.v (.int .i64 q.ov),.v (.slice q.oA q.ol q.oc),.v (.slice q.iA q.il q.ic),.v (.slice q.eA q.el q.ec)])] ?_))
 refine xe (zB (zD (zC (xq 4 [(7,.p 7 0)] [(7,91,[.v (.int .i64 d),.v (.slice none 0 0),.v (.slice none 0 0)])] ?_))))
 refine xe (zB (zD (zD (zC (xq 1 [(16,.v (.pointer (some ⟨τ.g,0,none⟩)))] [] ?_)))))
 refine wJ (b:=τ.g) (d:=17) (j:=0) (c:=.slice τ.A τ.l τ.c) 24 [.pointer (some ⟨τ.g,0,none⟩),.int .i64 3] (fun x:{x:Nat // (fun v=>(v:Int)<3) x}=>(fun v=>.int .i64 (v:Int)) x.1) (fun w=>True) (fun x w=>TOk τ w∧(fun _ _=>True) x.1 w) (fun w Q=>TOk.cell Q) (Or.inr rfl) (fun w R Q=>(lQ τ wl (3) _ hO (hO.old h0 R) Q (by decide) (by decide)).mono (fun _ _ h=>wQ h (fun x o h=>fun _ _ _ _=>trivial))) (fun w w2 R Q o=>trivial) fun⟨k0,V0⟩=>?_
 refine xr 1 [(0,.v (.pointer (some ⟨τ.g,0,none⟩))),yJ 2 d,(4,.p 4 0),(6,.p 6 0),(7,.p 7 0),yJ 8 (k0:Int)] [(7,91,[.v (.int .i64 d),.v (.slice none 0 0),.v (.slice none 0 0)]),(6,91,[.v (.int .i64 0),.v (.slice none 0 0),.v (.slice none 0 0)]),(4,85,[.v (.int .i64 (n:Int)),.v (.int .i64 q.ov),.v (.slice q.oA q.ol q.oc),.v (.slice q.iA q.il q.ic),.v (.slice q.eA q.el q.ec)])] ?_
 refine xe (zB (zN ?_))
 refine yC [(0,.v (.pointer (some ⟨τ.g,0,none⟩))),yJ 2 d,(4,.p 4 0),(6,.p 6 0),(7,.p 7 0),yJ 8 (k0:Int)] [(7,91,[.v (.int .i64 d),.v (.slice none 0 0),.v (.slice none 0 0)]),(6,91,[.v (.int .i64 0),.v (.slice none 0 0),.v (.slice none 0 0)]),(4,85,[.v (.int .i64 (n:Int)),.v (.int .i64 q.ov),.v (.slice q.oA q.ol q.oc),.v (.slice q.iA q.il q.ic),.v (.slice q.eA q.el q.ec)])] (fun w=>((TOk τ w∧OwnD w m0 170 2 none 0 0 (([]:List RPart).flatMap RPart.cells))∧kE.list.ok m0 w ([]:List RPart))) (fun w Q=>⟨⟨Q.2.1,(OwnD.nil _ _ _ _)⟩,(Dp.none _ _ _)⟩) ?_
 refine xS (fun nn ss ff=>∃ (j:Nat) (B:Option Addr) (C:Nat) (f:List RPart) (pn:Nat),ss=ofL [(0,.v (.pointer (some ⟨τ.g,0,none⟩))),yJ 2 d,(4,.p 4 0),(6,.p 6 0),(7,.p 7 0),yJ 8 (j:Int)] [(7,91,[.v (.int .i64 d),.v (.slice B pn C),.v (.slice none 0 0)]),(6,91,[.v (.int .i64 0),.v (.slice none 0 0),.v (.slice none 0 0)]),(4,85,[.v (.int .i64 (n:Int)),.v (.int .i64 q.ov),.v (.slice q.oA q.ol q.oc),.v (.slice q.iA q.il q.ic),.v (.slice q.eA q.el q.ec)])]∧ff=(fun w=>((TOk τ w∧OwnD w m0 170 2 B C pn (f.flatMap RPart.cells))∧kE.list.ok m0 w f))∧(f.length+j≤2)∧(∀ p∈f,PGd n d p)∧(f.length=0→B=none)∧(f.length=pn)∧nn=(1+j)) ((1+k0)) ⟨k0,none,0,([]:List RPart),0,rfl,rfl,(by show 0+_≤2;omega),(fun t h=>by cases h),(fun _=>rfl),rfl,rfl⟩ ?_
 rintro nn ss ff ⟨j,B,C,f,pn,rfl,rfl,hj,w0,M0,N0,rfl⟩
 subst N0
 refine zD (zD (zC (xq 2 [yB 19 (decide ((j:Int)>0))] [] ?_)))
 refine xe (zB ?_)
 refine yQ ((decide ((j:Int)>0))) (fun f0=>?_) fun f0=>?_
 ·have i1:0<j:=by have:=uF f0;omega
  refine zJ (zB (zD (zN (zD ?_))))
  refine SXc.size (fun m1=>m0≤m1∧kE.list.below m1 f) (fun w R Q=>⟨P ▸ R.size,Dp.lt Q.2⟩) fun m1 e0=>?_
  have b0:τ.g<m1:=uX N e0.1
  refine zC (xr 1 [(0,.v (.pointer (some ⟨τ.g,0,none⟩))),yJ 2 d,(4,.p 4 0),(6,.p 6 0),(7,.p 7 0),yJ 8 (j:Int),(9,.p 9 0)] [(9,170,[.v (.slice none 0 0),.v (.slice none 0 0)]),(7,91,[.v (.int .i64 d),.v (.slice B f.length C),.v (.slice none 0 0)]),(6,91,[.v (.int .i64 0),.v (.slice none 0 0),.v (.slice none 0 0)]),(4,85,[.v (.int .i64 (n:Int)),.v (.int .i64 q.ov),.v (.slice q.oA q.ol q.oc),.v (.slice q.iA q.il q.ic),.v (.slice q.eA q.el q.ec)])] ?_)
  refine xe (zB (zD (zD (zC (xq 4 [yJ 24 ((q.il:Nat):Int),yJ 25 0] [] ?_)))))
  refine xe (zB (zN ?_))
  refine yC [(0,.v (.pointer (some ⟨τ.g,0,none⟩))),yJ 2 d,(4,.p 4 0),(6,.p 6 0),(7,.p 7 0),yJ 8 (j:Int),(9,.p 9 0),yJ 24 ((q.il:Nat):Int),yJ 25 ((0:Nat):Int)] [(9,170,[.v (.slice none 0 0),.v (.slice none 0 0)]),(7,91,[.v (.int .i64 d),.v (.slice B f.length C),.v (.slice none 0 0)]),(6,91,[.v (.int .i64 0),.v (.slice none 0 0),.v (.slice none 0 0)]),(4,85,[.v (.int .i64 (n:Int)),.v (.int .i64 q.ov),.v (.slice q.oA q.ol q.oc),.v (.slice q.iA q.il q.ic),.v (.slice q.eA q.el q.ec)])] (fun w=>((((TOk τ w∧OwnD w m0 170 2 B C f.length (f.flatMap RPart.cells))∧kE.list.ok m0 w f)∧m1≤w.heap.size)∧OwnD w m1 3 1 none 0 0 (intV ([]:List Int)))) (fun w Q=>⟨⟨⟨⟨Q.1.1.1,Q.1.1.2⟩,Q.1.2⟩,Q.2⟩,(OwnD.nil _ _ _ _)⟩) ?_
  refine xS (fun nn ss ff=>∃ (k:Nat) (M:Option Addr) (O:Nat) (u:List Int) (zn:Nat),ss=ofL [(0,.v (.pointer (some ⟨τ.g,0,none⟩))),yJ 2 d,(4,.p 4 0),(6,.p 6 0),(7,.p 7 0),yJ 8 (j:Int),(9,.p 9 0),yJ 24 ((q.il:Nat):Int),yJ 25 (k:Int)] [(9,170,[.v (.slice M zn O),.v (.slice none 0 0)]),(7,91,[.v (.int .i64 d),.v (.slice B f.length C),.v (.slice none 0 0)]),(6,91,[.v (.int .i64 0),.v (.slice none 0 0),.v (.slice none 0 0)]),(4,85,[.v (.int .i64 (n:Int)),.v (.int .i64 q.ov),.v (.slice q.oA q.ol q.oc),.v (.slice q.iA q.il q.ic),.v (.slice q.eA q.el q.ec)])]∧ff=(fun w=>((((TOk τ w∧OwnD w m0 170 2 B C f.length (f.flatMap RPart.cells))∧kE.list.ok m0 w f)∧m1≤w.heap.size)∧OwnD w m1 3 1 M O zn (intV u)))∧(k≤q.il)∧(u.length≤k)∧(∀ z∈u,0≤z∧z≤2)∧(u.length=0→M=none)∧(u.length=zn)∧nn=(1+(q.il-k))) ((1+(q.il-0))) ⟨0,none,0,([]:List Int),0,rfl,rfl,(uM _),(uM _),(fun t h=>by cases h),(fun _=>rfl),rfl,rfl⟩ ?_
  rintro nn ss ff ⟨k,M,O,u,zn,rfl,rfl,hk,j1,hz,x0,O0,rfl⟩
  subst O0
  refine zD (zC (xq 1 [yB 26 (decide ((k:Int)<((q.il:Nat):Int)))] [] ?_))
  refine xe (zB (zD ?_))
  refine yQ ((decide ((k:Int)<((q.il:Nat):Int)))) (fun g0=>?_) fun g0=>?_
  ·have P0:k<q.il:=by have:=uF g0;omega
   refine zJ (zB (zD (zN (zD (zC (xq 2 [yJ 10 (k:Int)] [] ?_))))))
   refine xe (zB (zD (zC (xq 1 [(28,.v (.pointer (some ⟨τ.g,0,none⟩)))] [] ?_))))
   refine wJ (b:=τ.g) (d:=29) (j:=0) (c:=.slice τ.A τ.l τ.c) 24 [.pointer (some ⟨τ.g,0,none⟩),.int .i64 3] (fun x:{x:Nat // (fun v=>(v:Int)<3) x}=>(fun v=>.int .i64 (v:Int)) x.1) (fun w=>(((OwnD w m0 170 2 B C f.length (f.flatMap RPart.cells)∧kE.list.ok m0 w f)∧m1≤w.heap.size)∧OwnD w m1 3 1 M O u.length (intV u))) (fun x w=>TOk τ w∧(fun _ _=>True) x.1 w) (fun w Q=>TOk.cell Q.1.1.1.1) (Or.inr rfl) (fun w R Q=>(lQ τ wl (3) _ hO (hO.old h0 R) Q.1.1.1.1 (by decide) (by decide)).mono (fun _ _ h=>wQ h (fun x o h=>fun _ _ _ _=>trivial))) (fun w w2 R Q o=>⟨⟨⟨OwnD.tape Q.1.1.1.2 o N,Dp.tape Q.1.1.2 Q.1.1.1.1 N o⟩,uD Q.1.2 o.size⟩,OwnD.tape Q.2 o b0⟩) fun⟨y0,W0⟩=>?_
   refine xr 1 [(0,.v (.pointer (some ⟨τ.g,0,none⟩))),yJ 2 d,(4,.p 4 0),(6,.p 6 0),(7,.p 7 0),yJ 8 (j:Int),(9,.p 9 0),yJ 10 (k:Int),yJ 24 ((q.il:Nat):Int),yJ 25 (k:Int),yB 30 (((y0:Int):Int) == 2)] [(9,170,[.v (.slice M u.length O),.v (.slice none 0 0)]),(7,91,[.v (.int .i64 d),.v (.slice B f.length C),.v (.slice none 0 0)]),(6,91,[.v (.int .i64 0),.v (.slice none 0 0),.v (.slice none 0 0)]),(4,85,[.v (.int .i64 (n:Int)),.v (.int .i64 q.ov),.v (.slice q.oA q.ol q.oc),.v (.slice q.iA q.il q.ic),.v (.slice q.eA q.el q.ec)])] ?_
   refine xe (zB ?_)
   refine yQ ((((y0:Int):Int) == 2)) (fun z0=>?_) fun z0=>?_
   ·refine zC (xq 3 [eS1 32 M u.length O,yJ 33 (k:Int)] [] ?_)
    refine yD (d:=34) (fun zb:{b:Nat // m0≤b}=>.slice (some ⟨zb.1,0,none⟩) 1 1) (fun zb zw=>Blk 3 zw zb.1 #[.int .i64 (k:Int)]) (fun w R Q=>xF (m0:=m0) (P ▸ R.size) (t:=22) (e:=3) (n:=1) (sz:=1) (z:=.int .i64 0) (parts:=#[(0,Operand.tmp 33)]) (by kernel_rfl) (by kernel_rfl) (by kernel_rfl) (by kernel_rfl) (by kernel_rfl) (by kernel_rfl)) fun⟨A0,X0⟩=>?_
    refine xr 0 [(0,.v (.pointer (some ⟨τ.g,0,none⟩))),yJ 2 d,(4,.p 4 0),(6,.p 6 0),(7,.p 7 0),yJ 8 (j:Int),(9,.p 9 0),yJ 24 ((q.il:Nat):Int),yJ 25 (k:Int),eS1 32 M u.length O,eS1 34 (some ⟨A0,0,none⟩) 1 1] [(9,170,[.v (.slice M u.length O),.v (.slice none 0 0)]),(7,91,[.v (.int .i64 d),.v (.slice B f.length C),.v (.slice none 0 0)]),(6,91,[.v (.int .i64 0),.v (.slice none 0 0),.v (.slice none 0 0)]),(4,85,[.v (.int .i64 (n:Int)),.v (.int .i64 q.ov),.v (.slice q.oA q.ol q.oc),.v (.slice q.iA q.il q.ic),.v (.slice q.eA q.el q.ec)])] ?_
    refine lJ (d:=35) (k:=1) (n:=u.length) (m:=1) (cap:=O) (bytes:=8) (t:=22) (e:=3) (s0:=Operand.tmp 32) (x:=Operand.tmp 34) (xs:=intV u) (news:=[.int .i64 (k:Int)]) (z:=.int .i64 0) m1 M (fun j hj h=>Or.inl (P ▸ uD e0.1 h)) A0 1 (fun w=>(((OwnD w m0 170 2 B C f.length (f.flatMap RPart.cells)∧kE.list.ok m0 w f)∧m1≤w.heap.size)∧TOk τ w)) (fun w R Q=>Q.1.1.1.2) (fun w Q=>Q.1.1.2) (fun w Q=>Blk.news Q.2) rfl (by decide) rfl (wG.list (by simp)) (by decide) (by simp[Value.oneCell']) (by simp) (by simp only[maxLen];omega) (by omega) x0 (fun w w2 R Q o=>⟨⟨⟨OwnD.other Q.1.1.1.1.1 Q.1.1.2 (by decide) o,Dp.rowB Q.1.1.1.1.2 e0.2 Q.1.1.2 o⟩,uD Q.1.1.1.2 o.size⟩,TOk.row Q.1.2.1 Q.1.1.2 b0 o⟩) fun l0 n0 Y0=>?_
    refine xr 2 [(0,.v (.pointer (some ⟨τ.g,0,none⟩))),yJ 2 d,(4,.p 4 0),(6,.p 6 0),(7,.p 7 0),yJ 8 (j:Int),(9,.p 9 0),yJ 24 ((q.il:Nat):Int),yJ 25 (k:Int)] [(9,170,[.v (.slice l0 (u.length+1) n0),.v (.slice none 0 0)]),(7,91,[.v (.int .i64 d),.v (.slice B f.length C),.v (.slice none 0 0)]),(6,91,[.v (.int .i64 0),.v (.slice none 0 0),.v (.slice none 0 0)]),(4,85,[.v (.int .i64 (n:Int)),.v (.int .i64 q.ov),.v (.slice q.oA q.ol q.oc),.v (.slice q.iA q.il q.ic),.v (.slice q.eA q.el q.ec)])] ?_
    refine xe (xK (zB (zC (xq 1 [yJ 37 (IntKind.i64.wrap ((k:Int)+1))] [] ?_))))
    rw[(show IntKind.i64.wrap ((k:Int)+1)=((k+1:Nat):Int) by rw[IntKind.wrap_i64];omega)]
    refine xq 1 [yJ 25 ((k+1:Nat):Int)] [] ?_
    refine xe ?_
    refine yP [(0,.v (.pointer (some ⟨τ.g,0,none⟩))),yJ 2 d,(4,.p 4 0),(6,.p 6 0),(7,.p 7 0),yJ 8 (j:Int),(9,.p 9 0),yJ 24 ((q.il:Nat):Int),yJ 25 (((k+1):Nat):Int)] [(9,170,[.v (.slice l0 (u.length+1) n0),.v (.slice none 0 0)]),(7,91,[.v (.int .i64 d),.v (.slice B f.length C),.v (.slice none 0 0)]),(6,91,[.v (.int .i64 0),.v (.slice none 0 0),.v (.slice none 0 0)]),(4,85,[.v (.int .i64 (n:Int)),.v (.int .i64 q.ov),.v (.slice q.oA q.ol q.oc),.v (.slice q.iA q.il q.ic),.v (.slice q.eA q.el q.ec)])] (fun w=>((((TOk τ w∧OwnD w m0 170 2 B C f.length (f.flatMap RPart.cells))∧kE.list.ok m0 w f)∧m1≤w.heap.size)∧OwnD w m1 3 1 l0 n0 (u.length+1) (intV (u ++ [(k:Int)])))) (fun w Q=>⟨⟨⟨⟨Q.1.2,Q.1.1.1.1⟩,Q.1.1.1.2⟩,Q.1.1.2⟩,(by rw[ZkL];exact Q.2)⟩) ?_
    exact xE ((1+(q.il-(k+1)))) (by omega) ⟨(k+1),l0,n0,(u ++ [(k:Int)]),(u.length+1),rfl,rfl,(by omega),(by rw[uA];show u.length+1≤k+1;omega),(eL hz ⟨by omega,by omega⟩),(fun h=>by rw[uA] at h;simp at h),uA,rfl⟩
   refine zJ (xK (zB (zC (xq 1 [yJ 37 (IntKind.i64.wrap ((k:Int)+1))] [] ?_))))
   rw[(show IntKind.i64.wrap ((k:Int)+1)=((k+1:Nat):Int) by rw[IntKind.wrap_i64];omega)]
   refine xq 1 [yJ 25 ((k+1:Nat):Int)] [] ?_
   refine xe ?_
   refine yP [(0,.v (.pointer (some ⟨τ.g,0,none⟩))),yJ 2 d,(4,.p 4 0),(6,.p 6 0),(7,.p 7 0),yJ 8 (j:Int),(9,.p 9 0),yJ 24 ((q.il:Nat):Int),yJ 25 (((k+1):Nat):Int)] [(9,170,[.v (.slice M u.length O),.v (.slice none 0 0)]),(7,91,[.v (.int .i64 d),.v (.slice B f.length C),.v (.slice none 0 0)]),(6,91,[.v (.int .i64 0),.v (.slice none 0 0),.v (.slice none 0 0)]),(4,85,[.v (.int .i64 (n:Int)),.v (.int .i64 q.ov),.v (.slice q.oA q.ol q.oc),.v (.slice q.iA q.il q.ic),.v (.slice q.eA q.el q.ec)])] (fun w=>((((TOk τ w∧OwnD w m0 170 2 B C f.length (f.flatMap RPart.cells))∧kE.list.ok m0 w f)∧m1≤w.heap.size)∧OwnD w m1 3 1 M O u.length (intV u))) (fun w Q=>⟨⟨⟨⟨Q.2.1,Q.1.1.1.1⟩,Q.1.1.1.2⟩,Q.1.1.2⟩,Q.1.2⟩) ?_
   exact xE ((1+(q.il-(k+1)))) (by omega) ⟨(k+1),M,O,u,u.length,rfl,rfl,(by omega),(by omega),hz,x0,rfl,rfl⟩
  have Q0:k=q.il:=by have:=uE g0;omega
  refine xN (zH (zH (xX (zB (zD (zD (zC (xq 1 [(38,.v (.pointer (some ⟨τ.g,0,none⟩)))] [] ?_))))))))
  refine wJ (b:=τ.g) (d:=39) (j:=0) (c:=.slice τ.A τ.l τ.c) 24 [.pointer (some ⟨τ.g,0,none⟩),.int .i64 3] (fun x:{x:Nat // (fun v=>(v:Int)<3) x}=>(fun v=>.int .i64 (v:Int)) x.1) (fun w=>(((OwnD w m0 170 2 B C f.length (f.flatMap RPart.cells)∧kE.list.ok m0 w f)∧m1≤w.heap.size)∧OwnD w m1 3 1 M O u.length (intV u))) (fun x w=>TOk τ w∧(fun _ _=>True) x.1 w) (fun w Q=>TOk.cell Q.1.1.1.1) (Or.inr rfl) (fun w R Q=>(lQ τ wl (3) _ hO (hO.old h0 R) Q.1.1.1.1 (by decide) (by decide)).mono (fun _ _ h=>wQ h (fun x o h=>fun _ _ _ _=>trivial))) (fun w w2 R Q o=>⟨⟨⟨OwnD.tape Q.1.1.1.2 o N,Dp.tape Q.1.1.2 Q.1.1.1.1 N o⟩,uD Q.1.2 o.size⟩,OwnD.tape Q.2 o b0⟩) fun⟨o0,Z0⟩=>?_
  refine xr 1 [(0,.v (.pointer (some ⟨τ.g,0,none⟩))),yJ 2 d,(4,.p 4 0),(6,.p 6 0),(7,.p 7 0),yJ 8 (j:Int),(9,.p 9 0),yJ 11 (o0:Int)] [(9,170,[.v (.slice M u.length O),.v (.slice none 0 0)]),(7,91,[.v (.int .i64 d),.v (.slice B f.length C),.v (.slice none 0 0)]),(6,91,[.v (.int .i64 0),.v (.slice none 0 0),.v (.slice none 0 0)]),(4,85,[.v (.int .i64 (n:Int)),.v (.int .i64 q.ov),.v (.slice q.oA q.ol q.oc),.v (.slice q.iA q.il q.ic),.v (.slice q.eA q.el q.ec)])] ?_
  refine xe (zB (zN ?_))
  refine yC [(0,.v (.pointer (some ⟨τ.g,0,none⟩))),yJ 2 d,(4,.p 4 0),(6,.p 6 0),(7,.p 7 0),yJ 8 (j:Int),(9,.p 9 0),yJ 11 (o0:Int)] [(9,170,[.v (.slice M u.length O),.v (.slice none 0 0)]),(7,91,[.v (.int .i64 d),.v (.slice B f.length C),.v (.slice none 0 0)]),(6,91,[.v (.int .i64 0),.v (.slice none 0 0),.v (.slice none 0 0)]),(4,85,[.v (.int .i64 (n:Int)),.v (.int .i64 q.ov),.v (.slice q.oA q.ol q.oc),.v (.slice q.iA q.il q.ic),.v (.slice q.eA q.el q.ec)])] (fun w=>((((((TOk τ w∧OwnD w m0 170 2 B C f.length (f.flatMap RPart.cells))∧kE.list.ok m0 w f)∧m1≤w.heap.size)∧OwnD w m1 3 1 M O u.length (intV u))∧OwnD w m1 175 12 none 0 0 (([]:List RQ).flatMap RQ.cells))∧dRQ.list.ok m0 w ([]:List RQ))) (fun w Q=>⟨⟨⟨⟨⟨⟨Q.2.1,Q.1.1.1.1⟩,Q.1.1.1.2⟩,Q.1.1.2⟩,Q.1.2⟩,(OwnD.nil _ _ _ _)⟩,(Dp.none _ _ _)⟩) ?_
  refine xS (fun nn ss ff=>∃ (i:Nat) (SA:Option Addr) (sc:Nat) (D:List RQ) (sn:Nat),ss=ofL [(0,.v (.pointer (some ⟨τ.g,0,none⟩))),yJ 2 d,(4,.p 4 0),(6,.p 6 0),(7,.p 7 0),yJ 8 (j:Int),(9,.p 9 0),yJ 11 (i:Int)] [(9,170,[.v (.slice M u.length O),.v (.slice SA sn sc)]),(7,91,[.v (.int .i64 d),.v (.slice B f.length C),.v (.slice none 0 0)]),(6,91,[.v (.int .i64 0),.v (.slice none 0 0),.v (.slice none 0 0)]),(4,85,[.v (.int .i64 (n:Int)),.v (.int .i64 q.ov),.v (.slice q.oA q.ol q.oc),.v (.slice q.iA q.il q.ic),.v (.slice q.eA q.el q.ec)])]∧ff=(fun w=>((((((TOk τ w∧OwnD w m0 170 2 B C f.length (f.flatMap RPart.cells))∧kE.list.ok m0 w f)∧m1≤w.heap.size)∧OwnD w m1 3 1 M O u.length (intV u))∧OwnD w m1 175 12 SA sc sn (D.flatMap RQ.cells))∧dRQ.list.ok m0 w D))∧(D.length+i≤2)∧(∀ s∈D,QGd n d s)∧(D.length=0→SA=none)∧(D.length=sn)∧nn=(1+i)) ((1+o0)) ⟨o0,none,0,([]:List RQ),0,rfl,rfl,(by show 0+_≤2;omega),(fun t h=>by cases h),(fun _=>rfl),rfl,rfl⟩ ?_
  rintro nn ss ff ⟨i,SA,sc,D,sn,rfl,rfl,hi,B0,R0,S0,rfl⟩
  subst S0
  refine zD (zD (zC (xq 2 [yB 41 (decide ((i:Int)>0))] [] ?_)))
  refine xe (zB ?_)
  refine yQ ((decide ((i:Int)>0))) (fun i0=>?_) fun i0=>?_
  ·have k1:0<i:=by have:=uF i0;omega
   refine zJ (zB (zD (zN (zD (zC (xq 2 [(45,.v (.pointer (some ⟨τ.g,0,none⟩))),yJ 46 d] [] ?_))))))
   refine wJ (b:=τ.g) (d:=47) (j:=0) (c:=.slice τ.A τ.l τ.c) 41 [.pointer (some ⟨τ.g,0,none⟩),.int .i64 d] (fun x:{x:ShQ×Rat × ShQ×Rat // (fun x=>Dq x.2.1 1∧Dq x.2.2.2 1∧(x.2.2.2=0∨d≠1)) x}=>(fun x=>.tuple #[xC x.1,xC x.2.2.1]) x.1) (fun w=>(((((OwnD w m0 170 2 B C f.length (f.flatMap RPart.cells)∧kE.list.ok m0 w f)∧m1≤w.heap.size)∧OwnD w m1 3 1 M O u.length (intV u))∧OwnD w m1 175 12 SA sc D.length (D.flatMap RQ.cells))∧dRQ.list.ok m0 w D)) (fun x w=>TOk τ w∧(fun x w=>zF w (xC x.1) x.2.1∧zF w (xC x.2.2.1) x.2.2.2) x.1 w) (fun w Q=>TOk.cell Q.1.1.1.1.1.1) (Or.inr rfl) (fun w R Q=>(ZhV τ wl _ hO (hO.old h0 R) Q.1.1.1.1.1.1 d K0 L0).mono (fun _ _ h=>wQ h (fun x o h=>(h.1.boxT o).and (h.2.boxT o)))) (fun w w2 R Q o=>⟨⟨⟨⟨⟨OwnD.tape Q.1.1.1.1.1.2 o N,Dp.tape Q.1.1.1.1.2 Q.1.1.1.1.1.1 N o⟩,uD Q.1.1.1.2 o.size⟩,OwnD.tape Q.1.1.2 o b0⟩,OwnD.tape Q.1.2 o b0⟩,Dp.tape Q.2 Q.1.1.1.1.1.1 N o⟩) fun xx=>?_
   obtain⟨⟨⟨T,U,V,W,X,Y,Z,a0⟩,c0,⟨E,F,G,H,I,J,K,L⟩,d0⟩,C0⟩:=xx
   refine xr 7 [(0,.v (.pointer (some ⟨τ.g,0,none⟩))),yJ 2 d,(4,.p 4 0),(6,.p 6 0),(7,.p 7 0),yJ 8 (j:Int),(9,.p 9 0),yJ 11 (i:Int),(12,.p 12 0),(13,.p 13 0)] [bR4 13 127 E F G H I J K L,bR4 12 127 T U V W X Y Z a0,(9,170,[.v (.slice M u.length O),.v (.slice SA D.length sc)]),(7,91,[.v (.int .i64 d),.v (.slice B f.length C),.v (.slice none 0 0)]),(6,91,[.v (.int .i64 0),.v (.slice none 0 0),.v (.slice none 0 0)]),(4,85,[.v (.int .i64 (n:Int)),.v (.int .i64 q.ov),.v (.slice q.oA q.ol q.oc),.v (.slice q.iA q.il q.ic),.v (.slice q.eA q.el q.ec)])] ?_
   refine xe (zB ?_)
   refine Zal 8 11 ?_
   refine xqg 8 [eS1 51 SA D.length sc,eR4 52 T U V W X Y Z a0,eR4 53 E F G H I J K L,(54,.v (.pointer (some ⟨τ.g,0,none⟩))),yJ 56 (n:Int),yJ 57 d] ?_
   refine cI 58 (b:=τ.g) (j:=0) (c:=.slice τ.A τ.l τ.c) 76 [.pointer (some ⟨τ.g,0,none⟩),.int .i64 (n:Int),.int .i64 d,.int .i64 1,.int .i64 2] (fun x:{x:RS // (SG n) x}=>(fun s=>.agg #[.int .i64 s.a.v,.slice s.a.A s.a.ts.length s.a.c,.int .i64 s.b.v,.slice s.b.A s.b.ts.length s.b.c]) x.1) (fun w=>(((((((OwnD w m0 170 2 B C f.length (f.flatMap RPart.cells)∧kE.list.ok m0 w f)∧m1≤w.heap.size)∧OwnD w m1 3 1 M O u.length (intV u))∧OwnD w m1 175 12 SA sc D.length (D.flatMap RQ.cells))∧dRQ.list.ok m0 w D)∧zF w (.agg #[.bool T,.slice U V W,.bool X,.slice Y Z a0]) (c0))∧zF w (.agg #[.bool E,.slice F G H,.bool I,.slice J K L]) (d0))) (fun x w=>TOk τ w∧(fun s w=>dRS.ok m0 w s) x.1 w) (fun w Q=>TOk.cell Q.2.1) (Or.inr rfl) (fun w R Q=>(ZfX τ wl _ hO (hO.old h0 R) Q.2.1 n 1 2 d hn (by decide) (by decide)).mono (fun _ _ h=>wQ h (fun x o h=>Dp.boxTm h o (P ▸ R.size)))) (fun w w2 R Q o=>⟨⟨⟨⟨⟨⟨⟨OwnD.tape Q.1.1.1.1.1.1 o N,Dp.tape Q.1.1.1.1.1.2 Q.2.1 N o⟩,uD Q.1.1.1.1.2 o.size⟩,OwnD.tape Q.1.1.1.2 o b0⟩,OwnD.tape Q.1.1.2 o b0⟩,Dp.tape Q.1.2 Q.2.1 N o⟩,zF.tape Q.2.2.1 Q.2.1 o⟩,zF.tape Q.2.2.2 Q.2.1 o⟩) (fun x w Q=>⟨⟨⟨⟨⟨⟨Q.1.1.1.1.1.1.1.1,Q.1.1.1.1.1.1.1.2⟩,Q.1.1.1.1.1.1.2⟩,Q.1.1.1.1.1.2⟩,Q.1.1.1.1.2⟩,Q.1.1.1.2⟩,⟨Q.2.1,⟨Q.1.1.2,Q.1.2⟩⟩⟩) fun⟨r,D0⟩=>?_
   refine xf 1 [(0,.v (.pointer (some ⟨τ.g,0,none⟩))),yJ 2 d,(4,.p 4 0),(6,.p 6 0),(7,.p 7 0),yJ 8 (j:Int),(9,.p 9 0),yJ 11 (i:Int),eS1 51 SA D.length sc,(59,.v (.agg #[.bool T,.slice U V W,.bool X,.slice Y Z a0,.bool E,.slice F G H,.bool I,.slice J K L,.int .i64 r.a.v,.slice r.a.A r.a.ts.length r.a.c,.int .i64 r.b.v,.slice r.b.A r.b.ts.length r.b.c]))] [bR4 13 127 E F G H I J K L,bR4 12 127 T U V W X Y Z a0,(9,170,[.v (.slice M u.length O),.v (.slice SA D.length sc)]),(7,91,[.v (.int .i64 d),.v (.slice B f.length C),.v (.slice none 0 0)]),(6,91,[.v (.int .i64 0),.v (.slice none 0 0),.v (.slice none 0 0)]),(4,85,[.v (.int .i64 (n:Int)),.v (.int .i64 q.ov),.v (.slice q.oA q.ol q.oc),.v (.slice q.iA q.il q.ic),.v (.slice q.eA q.el q.ec)])] ?_
   refine gC 60 (fun zb:{b:Nat // m0≤b}=>.slice (some ⟨zb.1,0,none⟩) 1 1) (fun zb zw=>Blk 175 zw zb.1 #[.bool T,.slice U V W,.bool X,.slice Y Z a0,.bool E,.slice F G H,.bool I,.slice J K L,.int .i64 r.a.v,.slice r.a.A r.a.ts.length r.a.c,.int .i64 r.b.v,.slice r.b.A r.b.ts.length r.b.c]) (by kernel_rfl) (by kernel_rfl) (by kernel_rfl) (by kernel_rfl) (by kernel_rfl) (by kernel_rfl) (by kernel_rfl) (fun w R Q=>xF (m0:=m0) (P ▸ R.size) (t:=168) (e:=175) (n:=1) (sz:=12) (z:=.agg #[.bool false,.slice none 0 0,.bool false,.slice none 0 0,.bool false,.slice none 0 0,.bool false,.slice none 0 0,.int .i64 0,.slice none 0 0,.int .i64 0,.slice none 0 0]) (parts:=#[(0,Operand.tmp 59)]) (by kernel_rfl) (by kernel_rfl) (by kernel_rfl) (by kernel_rfl) (by kernel_rfl) (by kernel_rfl)) fun⟨E0,a1⟩=>?_
   refine xf 0 [(0,.v (.pointer (some ⟨τ.g,0,none⟩))),yJ 2 d,(4,.p 4 0),(6,.p 6 0),(7,.p 7 0),yJ 8 (j:Int),(9,.p 9 0),yJ 11 (i:Int),eS1 51 SA D.length sc,eS1 60 (some ⟨E0,0,none⟩) 1 1] [bR4 13 127 E F G H I J K L,bR4 12 127 T U V W X Y Z a0,(9,170,[.v (.slice M u.length O),.v (.slice SA D.length sc)]),(7,91,[.v (.int .i64 d),.v (.slice B f.length C),.v (.slice none 0 0)]),(6,91,[.v (.int .i64 0),.v (.slice none 0 0),.v (.slice none 0 0)]),(4,85,[.v (.int .i64 (n:Int)),.v (.int .i64 q.ov),.v (.slice q.oA q.ol q.oc),.v (.slice q.iA q.il q.ic),.v (.slice q.eA q.el q.ec)])] ?_
   refine xz ?_
   refine lJ (d:=61) (k:=12) (n:=D.length) (m:=1) (cap:=sc) (bytes:=192) (t:=168) (e:=175) (s0:=Operand.tmp 51) (x:=Operand.tmp 60) (xs:=D.flatMap RQ.cells) (news:=[.bool T,.slice U V W,.bool X,.slice Y Z a0,.bool E,.slice F G H,.bool I,.slice J K L,.int .i64 r.a.v,.slice r.a.A r.a.ts.length r.a.c,.int .i64 r.b.v,.slice r.b.A r.b.ts.length r.b.c]) (z:=(.agg #[.bool false,.slice none 0 0,.bool false,.slice none 0 0,.bool false,.slice none 0 0,.bool false,.slice none 0 0,.int .i64 0,.slice none 0 0,.int .i64 0,.slice none 0 0])) m1 SA (fun j hj h=>Or.inl (P ▸ uD e0.1 h)) E0 1 (fun w=>((((((((OwnD w m0 170 2 B C f.length (f.flatMap RPart.cells)∧kE.list.ok m0 w f)∧m1≤w.heap.size)∧OwnD w m1 3 1 M O u.length (intV u))∧dRQ.list.ok m0 w D)∧zF w (.agg #[.bool T,.slice U V W,.bool X,.slice Y Z a0]) (c0))∧zF w (.agg #[.bool E,.slice F G H,.bool I,.slice J K L]) (d0))∧TOk τ w)∧dRS.ok m0 w r)) (fun w R Q=>Q.1.1.1.1.1.1.1.2) (fun w Q=>Q.1.1.1.1.1.2) (fun w Q=>Blk.news Q.2) rfl (by decide) rfl (wG.list (by simp)) (by decide) (by simp[Value.oneCell']) (ZaR rfl) (by simp only[maxLen];omega) (by omega) R0 (fun w w2 R Q o=>⟨⟨⟨⟨⟨⟨⟨⟨OwnD.other Q.1.1.1.1.1.1.1.1.1 Q.1.1.1.1.1.2 (by decide) o,Dp.rowB Q.1.1.1.1.1.1.1.1.2 e0.2 Q.1.1.1.1.1.2 o⟩,uD Q.1.1.1.1.1.1.1.2 o.size⟩,OwnD.other Q.1.1.1.1.1.1.2 Q.1.1.1.1.1.2 (by decide) o⟩,Dp.rowUp Q.1.1.1.1.2 Q.1.1.1.1.1.2 (by decide) o⟩,zF.rowUp Q.1.1.1.2 Q.1.1.1.1.1.2 o⟩,zF.rowUp Q.1.1.2 Q.1.1.1.1.1.2 o⟩,TOk.row Q.1.2.1 Q.1.1.1.1.1.2 b0 o⟩,Dp.rowUp Q.1.2.2 Q.1.1.1.1.1.2 (by decide) o⟩) fun p0 q0 b1=>?_
   refine xr 2 [(0,.v (.pointer (some ⟨τ.g,0,none⟩))),yJ 2 d,(4,.p 4 0),(6,.p 6 0),(7,.p 7 0),yJ 8 (j:Int),(9,.p 9 0),yJ 11 (i:Int)] [(9,170,[.v (.slice M u.length O),.v (.slice p0 (D.length+1) q0)]),(7,91,[.v (.int .i64 d),.v (.slice B f.length C),.v (.slice none 0 0)]),(6,91,[.v (.int .i64 0),.v (.slice none 0 0),.v (.slice none 0 0)]),(4,85,[.v (.int .i64 (n:Int)),.v (.int .i64 q.ov),.v (.slice q.oA q.ol q.oc),.v (.slice q.iA q.il q.ic),.v (.slice q.eA q.el q.ec)])] ?_
   refine xe (xK (zB (zC (xq 2 [yJ 43 (IntKind.i64.wrap ((i:Int)-1))] [] ?_))))
   rw[(show IntKind.i64.wrap ((i:Int)-1)=((i-1:Nat):Int) by rw[IntKind.wrap_i64];omega)]
   refine xq 1 [yJ 11 ((i-1:Nat):Int)] [] ?_
   refine xe ?_
   refine yP [(0,.v (.pointer (some ⟨τ.g,0,none⟩))),yJ 2 d,(4,.p 4 0),(6,.p 6 0),(7,.p 7 0),yJ 8 (j:Int),(9,.p 9 0),yJ 11 (((i-1):Nat):Int)] [(9,170,[.v (.slice M u.length O),.v (.slice p0 (D.length+1) q0)]),(7,91,[.v (.int .i64 d),.v (.slice B f.length C),.v (.slice none 0 0)]),(6,91,[.v (.int .i64 0),.v (.slice none 0 0),.v (.slice none 0 0)]),(4,85,[.v (.int .i64 (n:Int)),.v (.int .i64 q.ov),.v (.slice q.oA q.ol q.oc),.v (.slice q.iA q.il q.ic),.v (.slice q.eA q.el q.ec)])] (fun w=>((((((TOk τ w∧OwnD w m0 170 2 B C f.length (f.flatMap RPart.cells))∧kE.list.ok m0 w f)∧m1≤w.heap.size)∧OwnD w m1 3 1 M O u.length (intV u))∧OwnD w m1 175 12 p0 q0 (D.length+1) ((D ++ [(⟨(T,U,V,W,X,Y,Z,a0),c0,(E,F,G,H,I,J,K,L),d0,r⟩:RQ)]).flatMap RQ.cells))∧dRQ.list.ok m0 w (D ++ [(⟨(T,U,V,W,X,Y,Z,a0),c0,(E,F,G,H,I,J,K,L),d0,r⟩:RQ)]))) (fun w Q=>⟨⟨⟨⟨⟨⟨Q.1.1.2,Q.1.1.1.1.1.1.1.1.1⟩,Q.1.1.1.1.1.1.1.1.2⟩,Q.1.1.1.1.1.1.1.2⟩,Q.1.1.1.1.1.1.2⟩,(by rw[tI];exact Q.2)⟩,(Dp.snoc Q.1.1.1.1.1.2 (show dRQ.ok m0 w ((⟨(T,U,V,W,X,Y,Z,a0),c0,(E,F,G,H,I,J,K,L),d0,r⟩:RQ):RQ) from ⟨⟨Q.1.1.1.1.2,Q.1.1.1.2⟩,Q.1.2⟩))⟩) ?_
   exact xE ((1+(i-1))) (by omega) ⟨(i-1),p0,q0,(D ++ [(⟨(T,U,V,W,X,Y,Z,a0),c0,(E,F,G,H,I,J,K,L),d0,r⟩:RQ)]),(D.length+1),rfl,rfl,(by rw[uA];show D.length+1+(i-1)≤2;omega),(eL B0 ⟨C0,D0⟩),(fun h=>by rw[uA] at h;simp at h),uA,rfl⟩
  have l1:i=0:=by have:=uE i0;omega
  refine xN (zH (zH (xX (zB (zC (xq 3 [eS1 64 B f.length C,(65,.v (.agg #[.slice M u.length O,.slice SA D.length sc]))] [] ?_))))))
  refine yD (d:=66) (fun zb:{b:Nat // m0≤b}=>.slice (some ⟨zb.1,0,none⟩) 1 1) (fun zb zw=>Blk 170 zw zb.1 #[.slice M u.length O,.slice SA D.length sc]) (fun w R Q=>xF (m0:=m0) (P ▸ R.size) (t:=88) (e:=170) (n:=1) (sz:=2) (z:=.agg #[.slice none 0 0,.slice none 0 0]) (parts:=#[(0,Operand.tmp 65)]) (by kernel_rfl) (by kernel_rfl) (by kernel_rfl) (by kernel_rfl) (by kernel_rfl) (by kernel_rfl)) fun⟨F0,c1⟩=>?_
  refine xr 0 [(0,.v (.pointer (some ⟨τ.g,0,none⟩))),yJ 2 d,(4,.p 4 0),(6,.p 6 0),(7,.p 7 0),yJ 8 (j:Int),eS1 64 B f.length C,eS1 66 (some ⟨F0,0,none⟩) 1 1] [(7,91,[.v (.int .i64 d),.v (.slice B f.length C),.v (.slice none 0 0)]),(6,91,[.v (.int .i64 0),.v (.slice none 0 0),.v (.slice none 0 0)]),(4,85,[.v (.int .i64 (n:Int)),.v (.int .i64 q.ov),.v (.slice q.oA q.ol q.oc),.v (.slice q.iA q.il q.ic),.v (.slice q.eA q.el q.ec)])] ?_
  refine lJ (d:=67) (k:=2) (n:=f.length) (m:=1) (cap:=C) (bytes:=48) (t:=88) (e:=170) (s0:=Operand.tmp 64) (x:=Operand.tmp 66) (xs:=f.flatMap RPart.cells) (news:=[.slice M u.length O,.slice SA D.length sc]) (z:=(.agg #[.slice none 0 0,.slice none 0 0])) m0 B (fun j hj h=>Or.inl (P ▸ h)) F0 1 (fun w=>(((((TOk τ w∧kE.list.ok m0 w f)∧m1≤w.heap.size)∧OwnD w m1 3 1 M O u.length (intV u))∧OwnD w m1 175 12 SA sc D.length (D.flatMap RQ.cells))∧dRQ.list.ok m0 w D)) (fun w R Q=>P ▸ R.size) (fun w Q=>Q.1.1.1.1.1.1.2) (fun w Q=>Blk.news Q.2) rfl (by decide) rfl (wG.list (by simp)) (by decide) (by simp[Value.oneCell']) (ZaR rfl) (by simp only[maxLen];omega) (by omega) M0 (fun w w2 R Q o=>⟨⟨⟨⟨⟨TOk.row Q.1.1.1.1.1.1.1 Q.1.1.1.1.1.1.2 N o,Dp.rowUp Q.1.1.1.1.1.2 Q.1.1.1.1.1.1.2 (by decide) o⟩,uD Q.1.1.1.1.2 o.size⟩,OwnD.other Q.1.1.1.2 Q.1.1.1.1.1.1.2 (by decide) o⟩,OwnD.other Q.1.1.2 Q.1.1.1.1.1.1.2 (by decide) o⟩,Dp.rowUp Q.1.2 Q.1.1.1.1.1.1.2 (by decide) o⟩) fun r0 t0 d1=>?_
  refine xr 2 [(0,.v (.pointer (some ⟨τ.g,0,none⟩))),yJ 2 d,(4,.p 4 0),(6,.p 6 0),(7,.p 7 0),yJ 8 (j:Int)] [(7,91,[.v (.int .i64 d),.v (.slice r0 (f.length+1) t0),.v (.slice none 0 0)]),(6,91,[.v (.int .i64 0),.v (.slice none 0 0),.v (.slice none 0 0)]),(4,85,[.v (.int .i64 (n:Int)),.v (.int .i64 q.ov),.v (.slice q.oA q.ol q.oc),.v (.slice q.iA q.il q.ic),.v (.slice q.eA q.el q.ec)])] ?_
  refine xe (xK (zB (zC (xq 2 [yJ 21 (IntKind.i64.wrap ((j:Int)-1))] [] ?_))))
  rw[(show IntKind.i64.wrap ((j:Int)-1)=((j-1:Nat):Int) by rw[IntKind.wrap_i64];omega)]
  refine xq 1 [yJ 8 ((j-1:Nat):Int)] [] ?_
  refine xe ?_
  refine yP [(0,.v (.pointer (some ⟨τ.g,0,none⟩))),yJ 2 d,(4,.p 4 0),(6,.p 6 0),(7,.p 7 0),yJ 8 (((j-1):Nat):Int)] [(7,91,[.v (.int .i64 d),.v (.slice r0 (f.length+1) t0),.v (.slice none 0 0)]),(6,91,[.v (.int .i64 0),.v (.slice none 0 0),.v (.slice none 0 0)]),(4,85,[.v (.int .i64 (n:Int)),.v (.int .i64 q.ov),.v (.slice q.oA q.ol q.oc),.v (.slice q.iA q.il q.ic),.v (.slice q.eA q.el q.ec)])] (fun w=>((TOk τ w∧OwnD w m0 170 2 r0 t0 (f.length+1) ((f ++ [(⟨M,O,u,SA,sc,D⟩:RPart)]).flatMap RPart.cells))∧kE.list.ok m0 w (f ++ [(⟨M,O,u,SA,sc,D⟩:RPart)]))) (fun w Q=>⟨⟨Q.1.1.1.1.1.1,(by rw[tI];exact Q.2)⟩,(Dp.snoc Q.1.1.1.1.1.2 (show kE.ok m0 w ((⟨M,O,u,SA,sc,D⟩:RPart):RPart) from ⟨OwnD.mono Q.1.1.1.2 e0.1,OwnD.mono Q.1.1.2 e0.1,Q.1.2⟩))⟩) ?_
  exact xE ((1+(j-1))) (by omega) ⟨(j-1),r0,t0,(f ++ [(⟨M,O,u,SA,sc,D⟩:RPart)]),(f.length+1),rfl,rfl,(by rw[uA];show f.length+1+(j-1)≤2;omega),(eL w0 ⟨hz,by show u.length≤2;omega,by show D.length≤2;omega,B0⟩),(fun h=>by rw[uA] at h;simp at h),uA,rfl⟩
 have n1:j=0:=by have:=uE f0;omega
 refine xN (zH (zH (xX (zB (zD (zD (zC (xq 4 [yJ 71 ((q.el:Nat):Int),yJ 72 0] [] ?_))))))))
 refine xe (zB (zN ?_))
 refine yC [(0,.v (.pointer (some ⟨τ.g,0,none⟩))),yJ 2 d,(4,.p 4 0),(6,.p 6 0),(7,.p 7 0),yJ 71 ((q.el:Nat):Int),yJ 72 ((0:Nat):Int)] [(7,91,[.v (.int .i64 d),.v (.slice B f.length C),.v (.slice none 0 0)]),(6,91,[.v (.int .i64 0),.v (.slice none 0 0),.v (.slice none 0 0)]),(4,85,[.v (.int .i64 (n:Int)),.v (.int .i64 q.ov),.v (.slice q.oA q.ol q.oc),.v (.slice q.iA q.il q.ic),.v (.slice q.eA q.el q.ec)])] (fun w=>((((TOk τ w∧OwnD w m0 170 2 B C f.length (f.flatMap RPart.cells))∧kE.list.ok m0 w f)∧OwnD w m0 172 4 none 0 0 (([]:List RS).flatMap RS.cells))∧dRS.list.ok m0 w ([]:List RS))) (fun w Q=>⟨⟨⟨⟨Q.1.1,Q.1.2⟩,Q.2⟩,(OwnD.nil _ _ _ _)⟩,(Dp.none _ _ _)⟩) ?_
 refine xS (fun nn ss ff=>∃ (k:Nat) (MA:Option Addr) (mc:Nat) (S:List RS) (mn:Nat),ss=ofL [(0,.v (.pointer (some ⟨τ.g,0,none⟩))),yJ 2 d,(4,.p 4 0),(6,.p 6 0),(7,.p 7 0),yJ 71 ((q.el:Nat):Int),yJ 72 (k:Int)] [(7,91,[.v (.int .i64 d),.v (.slice B f.length C),.v (.slice MA mn mc)]),(6,91,[.v (.int .i64 0),.v (.slice none 0 0),.v (.slice none 0 0)]),(4,85,[.v (.int .i64 (n:Int)),.v (.int .i64 q.ov),.v (.slice q.oA q.ol q.oc),.v (.slice q.iA q.il q.ic),.v (.slice q.eA q.el q.ec)])]∧ff=(fun w=>((((TOk τ w∧OwnD w m0 170 2 B C f.length (f.flatMap RPart.cells))∧kE.list.ok m0 w f)∧OwnD w m0 172 4 MA mc mn (S.flatMap RS.cells))∧dRS.list.ok m0 w S))∧(k≤q.el)∧(S.length=k)∧(∀ s∈S,SG n s)∧(S.length=0→MA=none)∧(S.length=mn)∧nn=(1+(q.el-k))) ((1+(q.el-0))) ⟨0,none,0,([]:List RS),0,rfl,rfl,(uM _),rfl,(fun t h=>by cases h),(fun _=>rfl),rfl,rfl⟩ ?_
 rintro nn ss ff ⟨k,MA,mc,S,mn,rfl,rfl,hk,T0,G0,H0,U0,rfl⟩
 subst U0
 refine zD (zC (xq 1 [yB 73 (decide ((k:Int)<((q.el:Nat):Int)))] [] ?_))
 refine xe (zB (zD ?_))
 refine yQ ((decide ((k:Int)<((q.el:Nat):Int)))) (fun j0=>?_) fun j0=>?_
 ·have P0:k<q.el:=by have:=uF j0;omega
  refine zJ (zB (zD (zN ?_)))
  refine yO 8 zK ?_
  refine xqg 6 [eS1 75 MA S.length mc,(76,.v (.pointer (some ⟨τ.g,0,none⟩))),yJ 78 (n:Int),yJ 79 d] ?_
  refine cI 80 (b:=τ.g) (j:=0) (c:=.slice τ.A τ.l τ.c) 76 [.pointer (some ⟨τ.g,0,none⟩),.int .i64 (n:Int),.int .i64 d,.int .i64 1,.int .i64 2] (fun x:{x:RS // (SG n) x}=>(fun s=>.agg #[.int .i64 s.a.v,.slice s.a.A s.a.ts.length s.a.c,.int .i64 s.b.v,.slice s.b.A s.b.ts.length s.b.c]) x.1) (fun w=>(((OwnD w m0 170 2 B C f.length (f.flatMap RPart.cells)∧kE.list.ok m0 w f)∧OwnD w m0 172 4 MA mc S.length (S.flatMap RS.cells))∧dRS.list.ok m0 w S)) (fun x w=>TOk τ w∧(fun s w=>dRS.ok m0 w s) x.1 w) (fun w Q=>TOk.cell Q.1.1.1.1) (Or.inr rfl) (fun w R Q=>(ZfX τ wl _ hO (hO.old h0 R) Q.1.1.1.1 n 1 2 d hn (by decide) (by decide)).mono (fun _ _ h=>wQ h (fun x o h=>Dp.boxTm h o (P ▸ R.size)))) (fun w w2 R Q o=>⟨⟨⟨OwnD.tape Q.1.1.1.2 o N,Dp.tape Q.1.1.2 Q.1.1.1.1 N o⟩,OwnD.tape Q.1.2 o N⟩,Dp.tape Q.2 Q.1.1.1.1 N o⟩) (fun x w Q=>⟨⟨⟨⟨Q.2.1,Q.1.1.1.1⟩,Q.1.1.1.2⟩,Q.1.1.2⟩,Q.1.2⟩) fun⟨y,I0⟩=>?_
  refine xf 0 [(0,.v (.pointer (some ⟨τ.g,0,none⟩))),yJ 2 d,(4,.p 4 0),(6,.p 6 0),(7,.p 7 0),yJ 71 ((q.el:Nat):Int),yJ 72 (k:Int),eS1 75 MA S.length mc,(80,.v (.agg #[.int .i64 y.a.v,.slice y.a.A y.a.ts.length y.a.c,.int .i64 y.b.v,.slice y.b.A y.b.ts.length y.b.c]))] [(7,91,[.v (.int .i64 d),.v (.slice B f.length C),.v (.slice MA S.length mc)]),(6,91,[.v (.int .i64 0),.v (.slice none 0 0),.v (.slice none 0 0)]),(4,85,[.v (.int .i64 (n:Int)),.v (.int .i64 q.ov),.v (.slice q.oA q.ol q.oc),.v (.slice q.iA q.il q.ic),.v (.slice q.eA q.el q.ec)])] ?_
  refine gC 81 (fun zb:{b:Nat // m0≤b}=>.slice (some ⟨zb.1,0,none⟩) 1 1) (fun zb zw=>Blk 172 zw zb.1 #[.int .i64 y.a.v,.slice y.a.A y.a.ts.length y.a.c,.int .i64 y.b.v,.slice y.b.A y.b.ts.length y.b.c]) (by kernel_rfl) (by kernel_rfl) (by kernel_rfl) (by kernel_rfl) (by kernel_rfl) (by kernel_rfl) (by kernel_rfl) (fun w R Q=>xF (m0:=m0) (P ▸ R.size) (t:=89) (e:=172) (n:=1) (sz:=4) (z:=.agg #[.int .i64 0,.slice none 0 0,.int .i64 0,.slice none 0 0]) (parts:=#[(0,Operand.tmp 80)]) (by kernel_rfl) (by kernel_rfl) (by kernel_rfl) (by kernel_rfl) (by kernel_rfl) (by kernel_rfl)) fun⟨J0,e1⟩=>?_
  refine xf 0 [(0,.v (.pointer (some ⟨τ.g,0,none⟩))),yJ 2 d,(4,.p 4 0),(6,.p 6 0),(7,.p 7 0),yJ 71 ((q.el:Nat):Int),yJ 72 (k:Int),eS1 75 MA S.length mc,eS1 81 (some ⟨J0,0,none⟩) 1 1] [(7,91,[.v (.int .i64 d),.v (.slice B f.length C),.v (.slice MA S.length mc)]),(6,91,[.v (.int .i64 0),.v (.slice none 0 0),.v (.slice none 0 0)]),(4,85,[.v (.int .i64 (n:Int)),.v (.int .i64 q.ov),.v (.slice q.oA q.ol q.oc),.v (.slice q.iA q.il q.ic),.v (.slice q.eA q.el q.ec)])] ?_
  refine xz ?_
  refine lJ (d:=82) (k:=4) (n:=S.length) (m:=1) (cap:=mc) (bytes:=64) (t:=89) (e:=172) (s0:=Operand.tmp 75) (x:=Operand.tmp 81) (xs:=S.flatMap RS.cells) (news:=[.int .i64 y.a.v,.slice y.a.A y.a.ts.length y.a.c,.int .i64 y.b.v,.slice y.b.A y.b.ts.length y.b.c]) (z:=(.agg #[.int .i64 0,.slice none 0 0,.int .i64 0,.slice none 0 0])) m0 MA (fun j hj h=>Or.inl (P ▸ h)) J0 1 (fun w=>((((OwnD w m0 170 2 B C f.length (f.flatMap RPart.cells)∧kE.list.ok m0 w f)∧dRS.list.ok m0 w S)∧TOk τ w)∧dRS.ok m0 w y)) (fun w R Q=>P ▸ R.size) (fun w Q=>Q.1.1.1.2) (fun w Q=>Blk.news Q.2) rfl (by decide) rfl (wG.list (by simp)) (by decide) (by simp[Value.oneCell']) (ZaR rfl) (by simp only[maxLen];omega) (by omega) H0 (fun w w2 R Q o=>⟨⟨⟨⟨OwnD.other Q.1.1.1.1.1 Q.1.1.1.2 (by decide) o,Dp.rowUp Q.1.1.1.1.2 Q.1.1.1.2 (by decide) o⟩,Dp.rowUp Q.1.1.2 Q.1.1.1.2 (by decide) o⟩,TOk.row Q.1.2.1 Q.1.1.1.2 N o⟩,Dp.rowUp Q.1.2.2 Q.1.1.1.2 (by decide) o⟩) fun u0 v0 f1=>?_
  refine xr 2 [(0,.v (.pointer (some ⟨τ.g,0,none⟩))),yJ 2 d,(4,.p 4 0),(6,.p 6 0),(7,.p 7 0),yJ 71 ((q.el:Nat):Int),yJ 72 (k:Int)] [(7,91,[.v (.int .i64 d),.v (.slice B f.length C),.v (.slice u0 (S.length+1) v0)]),(6,91,[.v (.int .i64 0),.v (.slice none 0 0),.v (.slice none 0 0)]),(4,85,[.v (.int .i64 (n:Int)),.v (.int .i64 q.ov),.v (.slice q.oA q.ol q.oc),.v (.slice q.iA q.il q.ic),.v (.slice q.eA q.el q.ec)])] ?_
  refine xe (xK (zB (zC (xq 1 [yJ 84 (IntKind.i64.wrap ((k:Int)+1))] [] ?_))))
  rw[(show IntKind.i64.wrap ((k:Int)+1)=((k+1:Nat):Int) by rw[IntKind.wrap_i64];omega)]
  refine xq 1 [yJ 72 ((k+1:Nat):Int)] [] ?_
  refine xe ?_
  refine yP [(0,.v (.pointer (some ⟨τ.g,0,none⟩))),yJ 2 d,(4,.p 4 0),(6,.p 6 0),(7,.p 7 0),yJ 71 ((q.el:Nat):Int),yJ 72 (((k+1):Nat):Int)] [(7,91,[.v (.int .i64 d),.v (.slice B f.length C),.v (.slice u0 (S.length+1) v0)]),(6,91,[.v (.int .i64 0),.v (.slice none 0 0),.v (.slice none 0 0)]),(4,85,[.v (.int .i64 (n:Int)),.v (.int .i64 q.ov),.v (.slice q.oA q.ol q.oc),.v (.slice q.iA q.il q.ic),.v (.slice q.eA q.el q.ec)])] (fun w=>((((TOk τ w∧OwnD w m0 170 2 B C f.length (f.flatMap RPart.cells))∧kE.list.ok m0 w f)∧OwnD w m0 172 4 u0 v0 (S.length+1) ((S ++ [y]).flatMap RS.cells))∧dRS.list.ok m0 w (S ++ [y]))) (fun w Q=>⟨⟨⟨⟨Q.1.1.2,Q.1.1.1.1.1⟩,Q.1.1.1.1.2⟩,(by rw[tI];exact Q.2)⟩,(Dp.snoc Q.1.1.1.2 Q.1.2)⟩) ?_
  exact xE ((1+(q.el-(k+1)))) (by omega) ⟨(k+1),u0,v0,(S ++ [y]),(S.length+1),rfl,rfl,(by omega),(by rw[uA,T0];rfl),(eL G0 I0),(fun h=>by rw[uA] at h;simp at h),uA,rfl⟩
 have Q0:k=q.el:=by have:=uE j0;omega
 refine xN (zH (zH (xX (zB (zD (zC (xq 2 [] [(6,91,[.v (.int .i64 d),.v (.slice B f.length C),.v (.slice MA S.length mc)])] ?_)))))))
 refine xe (zB (zI ?_))
 refine yR (.agg #[.int .i64 d,.slice B f.length C,.slice MA S.length mc]) fun w' R Q=>?_
 exact⟨⟨d,B,C,f,MA,mc,S⟩,⟨rfl,by show f.length≤2;omega,by show S.length≤1;omega,w0,G0⟩,rfl,R,Q.1.1.1.1,P ▸ ⟨⟨Q.1.1.1.2,Q.1.1.2⟩,Q.1.2,Q.2⟩⟩
section
variable {N:Nat} {S0:Nat→Prop} {w0:World} {P:Program} {s:St} {Φ Φ0:World→Prop} {ops:Array Oper} {Q:Exit→Act→World→Prop}
theorem xl {i:Nat}(d:Nat)(y:Value)(a:∀ w,Fr S0 w0 w→Φ w→(execOp s.rho (opAt ops i)).run P w=.ok (.value y) w)(K:SXi P N S0 w0 ops Q (i+1) (s.put d (.v y)) Φ)(hi:Nat.blt i ops.size=true:=by kernel_rfl)(b:lF (opAt ops i).op=true:=by kernel_rfl)(c:s.wantB ops (opAt ops i)=some true:=by kernel_rfl)(h:(opAt ops i).op.operands.toList.all s.vB=true:=by kernel_rfl)(j:(opAt ops i).dst=some d:=by kernel_rfl)(k:Nat.blt d N=true:=by kernel_rfl):SXi P N S0 w0 ops Q i s Φ:=Zib d y hi b c h j k a K
theorem xm {n i:Nat}(d:Nat)(y:Value)(a:∀ w,Φ0 w→(execOp s.rho (opAt ops i)).run P w=.ok (.value y) w)(K:StI P N S0 w0 ops Φ0 Q n (i+1) (s.put d (.v y)) Φ)(hi:Nat.blt i n=true:=by kernel_rfl)(b:aZ (opAt ops i).op=true:=by kernel_rfl)(c:s.wantB ops (opAt ops i)=some true:=by kernel_rfl)(h:(opAt ops i).op.operands.toList.all s.vB=true:=by kernel_rfl)(j:(opAt ops i).dst=some d:=by kernel_rfl)(k:Nat.blt d N=true:=by kernel_rfl):StI P N S0 w0 ops Φ0 Q n i s Φ:=Zia d y hi b c h j k a K
end
abbrev vS3 (a b:ByteArray) (d:Int):Value:=.agg #[.string a,.string b,.int .i64 d]
abbrev eS3 (n:Nat) (a b:ByteArray) (d:Int):Nat × AV:=(n,.v (vS3 a b d))
abbrev bS3 (n:Nat) (t:TypeId) (a b:ByteArray) (d:Int):Nat × TypeId×List AV:=(n,t,[.v (.string a),.v (.string b),.v (.int .i64 d)])
section
variable {w w':World} {e:Ending} {l:List UInt8} {o:Option Sd}
theorem Zgf (h:Za9 w l e w'):wS (fun a:Bool×ShQ=>.tuple #[xC a.2,.bool a.1]) (fun _ _=>True) w e w':=by
 obtain⟨v,i,rfl,Q,h⟩:=h
 obtain⟨s,A,l,c,t,B,m,d,rfl⟩:∃ s A l c t B m d,v=.agg #[.bool s,.slice A l c,.bool t,.slice B m d]:=by
  rcases h with ⟨_,q,_,b⟩|⟨_,_,b⟩<;>exact b.shp
 exact⟨(i,s,A,l,c,t,B,m,d),rfl,Q,BoxN.pure trivial⟩
end
theorem Zfg {z:Int}(a : -9223372036854775808≤z)(b:z≤9223372036854775807):IntKind.i64.wrap z=z:=by
 rw[IntKind.wrap_i64];omega
theorem Zm4 {P:Program}{o:Oper}{ρ:Operand→Value}{w:World}{t k:TypeId}{x y:Operand}{a b:Nat}(c:o.op=Op.binOp .quo t x y k)(i:ρ x=.int .i64 ((a:Nat):Int))(j:ρ y=.int .i64 ((b:Nat):Int))(m:0<b)(n:a≤1000000) :
 (execOp ρ o).run P w=.ok (.value (.int .i64 ((a/b:Nat):Int))) w:=by
 have h:¬ ((b:Int)=0):=by omega
 have e:IntKind.i64.wrap ((a:Int).tdiv (b:Int))=((a/b:Nat):Int):=by
  rw[Zln];have r:=vU a b;generalize a/b=q at *;exact Zfg (by omega) (by omega)
 simp only[execOp,c,i,j,eqGuard,binOp,Op.intDiv,vP h,e]
 rfl
theorem Zm5 {P:Program}{o:Oper}{ρ:Operand→Value}{w:World}{t k:TypeId}{x y:Operand}{a b:Nat}(c:o.op=Op.binOp .rem t x y k)(i:ρ x=.int .i64 ((a:Nat):Int))(j:ρ y=.int .i64 ((b:Nat):Int))(m:0<b) :
 (execOp ρ o).run P w=.ok (.value (.int .i64 ((a%b:Nat):Int))) w:=by
 have h:¬ ((b:Int)=0):=by omega
 have e:((a:Int).tmod (b:Int))=((a%b:Nat):Int):=by
  rw[tJ (by omega)];rfl
 simp only[execOp,c,i,j,eqGuard,binOp,Op.intDiv,vP h,e]
 rfl
theorem nmul {a b:Nat}(h:a*b≤1000000000):IntKind.i64.wrap (((a:Nat):Int)*((b:Nat):Int))=((a*b:Nat):Int):=by
 rw[←tW];exact Zfg (by omega) (by omega)
theorem ninc {a:Nat}(h:a≤1000000000):IntKind.i64.wrap (((a:Nat):Int)+1)=((a+1:Nat):Int):=by
 rw[Zfg (by omega) (by omega)];rfl
theorem Zju {k:Nat}(h:k≤1001):k*k≤1000000000:=by
 have:=sE h h;omega
theorem le_t {a b:Nat}(h:decide (((a:Nat):Int)≤((b:Nat):Int))=true):a≤b:=by have:=uF h;omega
theorem le_f {a b:Nat}(h:decide (((a:Nat):Int)≤((b:Nat):Int))=false):b<a:=by have:=uE h;omega
theorem md_t {a:Nat}(h:(((a:Nat):Int) == 0)=true):a=0:=by have:=eq_of_beq h;omega
theorem md_f {a:Nat}(h:(((a:Nat):Int) == 0)=false):a≠0:=fun e=>by subst e;cases h
theorem k_le {k m:Nat}(h:k*k≤m)(a:m≤1000000):k≤1000:=by
 refine Decidable.byContradiction fun b=>?_
 have:=sE (show 1001≤k by omega) (show 1001≤k by omega)
 omega
theorem sq_r {r m N:Nat}(h:r*r*m=N)(a:0<m)(b:N≤1000000):r≤1000:=by
 refine k_le (m:=N) ?_ b
 rw[←h];exact Nat.le_mul_of_pos_right _ a
theorem Zn2 {r k:Nat}(h:r≤1000)(a:k≤1000):r*k≤1000000000:=by
 have:=sE h a;omega
theorem ZnP {m j:Nat}(a:0<m)(h:m%j=0)(b:4≤j):0<m/j∧m/j<m :=
 ⟨Nat.div_pos (qU a (qQ h)) (by omega),Nat.div_lt_self a (by omega)⟩
theorem kk4 {k:Nat}(h:2≤k):4≤k*k:=sE h h
theorem Zm6 {r k m N:Nat}(a:r*r*m=N)(h:m%(k*k)=0):r*k*(r*k)*(m/(k*k))=N:=by
 obtain⟨q,rfl⟩:=qQ h
 by_cases b:k*k=0
 ·rw[b] at a ⊢;grind
 rw[sQ _ (by omega),← a];grind
theorem ZiF {N R M:Nat}(h:SqF N R M):(R=1↔Free N):=by
 constructor
 ·intro e;have:=h.mul;subst e
  have this:M=N:=by omega
  exact this ▸ h.free
 intro a
 exact (h.eq ⟨by omega,h.pos,a⟩).1
section
variable {A B:List UInt8} {D:Int} {p q:Rat}
theorem ZkN (a:xI A=some p)(b:xI B=some q)(c:(D == 1)=true)(h:q.num=0):rdS A B D=some ⟨p,0,1⟩:=by
 have e:=eq_of_beq c;subst e
 have e:=Rat.num_eq_zero.1 h;subst e
 exact Zg7 a b (Or.inl ⟨rfl,rfl⟩)
theorem ZkO (a:xI A=some p)(b:xI B=some q)(c:(D == 1)=true)(i:q.num≠0):rdS A B D=none:=by
 have e:=eq_of_beq c;subst e
 refine Zkz a b ?_
 rintro (⟨_,h⟩|⟨h,_⟩)
 ·simp only at h;subst h;exact i rfl
 simp only at h;omega
theorem ZnQ (h:(D == 1)=false):D≠1:=fun e=>by subst e;cases h
theorem ZeF (i:xI A=some p)(j:xI B=some q)(k:(D == 1)=false)(h:D<2∨D>1000000∨q.num=0∨¬ Free D.toNat):rdS A B D=none:=by
 refine Zkz i j ?_
 have:=ZnQ k
 rintro (⟨a,_⟩|⟨a,m,b,c⟩)
 ·exact this a
 simp only at a m b c
 rcases h with h|h|h|h
 ·omega
 ·omega
 ·exact b (Rat.num_eq_zero.1 h)
 exact h c
theorem Zl9 (a:xI A=some p)(b:xI B=some q)(c:2≤D)(h:D≤1000000)(i:q.num≠0)(j:Free D.toNat):rdS A B D=some ⟨p,q,D⟩ :=
 Zg7 a b (Or.inr ⟨c,h,fun e=>i (by simp only at e;rw[e];rfl),j⟩)
end
theorem Zn3 {R N M:Nat}(a:SqF N R M)(h:(((R:Nat):Int) != 1)=true):¬ Free N:=fun b=>by
 have:=(ZiF a).2 b;subst this;cases h
theorem Zn4 {R N M:Nat}(a:SqF N R M)(h:(((R:Nat):Int) != 1)=false):Free N:=by
 refine (ZiF a).1 ?_
 have:(R:Int)=1:=by simpa using h
 omega
-- results
section
variable {o o':Option Sd} {f:Sd→Sd→Value} {g:Sd→Value} {z:Value} {x y:Sd}
end
section
variable {w w':World} {e:Ending} {o o':Option Sd} {x y:Sd}
end
section
variable {A B:List UInt8} {d:Int} {R M:Nat} {p q:Rat}
end
theorem Zbz {α β κ:Type}{f:α→κ}{g:β→κ}{xs:List α}{a:List β}(h:xs.map f=a.map g):xs.length=a.length:=by
 have:=tC List.length h
 simpa using this
def keyQ (t:RT):ByteArray×List Int:=(⟨(xA t.q).toArray⟩,t.ex)
def PyG (n:Nat) (r:PolyR):Prop:=∃ p:RP,PG n p∧r.v=((n:Nat):Int)∧r.ts.map keyT=p.ts.map keyQ
def MuG (n:Nat) (m:MuR):Prop:=PyG n m.a∧PyG n m.b
def SuG (a b:ByteArray) (d:Int):Prop:=(rdS (bytes a) (bytes b) d).isSome=true∧(bytes a).length≤20∧(bytes b).length≤20∧1≤d∧d≤9
def SqG (n:Nat) (s:SqR):Prop:=SuG s.sa s.sb s.d∧MuG n s.r
def PrG (n:Nat) (p:PrR):Prop:=(∀ z∈p.zs,0≤z∧z≤2)∧p.zs.length≤2∧p.sq.length≤2∧∀ s∈p.sq,SqG n s
def IdG (n:Nat) (x:IdR):Prop:=(1≤x.d∧x.d≤9)∧x.ps.length≤2∧x.ms.length≤1∧(∀ p∈x.ps,PrG n p)∧∀ s∈x.ms,MuG n s
theorem PyG.len {n:Nat}{r:PolyR}(h:PyG n r):r.ts.length≤3:=by
 obtain⟨p,a,_,b⟩:=h
 have:=Zbz b
 have:=a.2.1
 omega
theorem PyG.term {n:Nat}{r:PolyR}(h:PyG n r){i:Nat}(hi:i<r.ts.length):∃ q,r.ts[i]!.coef=⟨(xA q).toArray⟩∧q≠0∧Dq q 6∧EX n r.ts[i]!.exps:=by
 obtain⟨p,d,_,c⟩:=h
 have e:r.ts.length=p.ts.length:=Zbz c
 have a:(r.ts.map keyT)[i]? = (p.ts.map keyQ)[i]? := by rw[c]
 rw[List.getElem?_map,List.getElem?_map,List.getElem?_eq_getElem hi,List.getElem?_eq_getElem (by omega)] at a
 simp only[sH,sC,keyT,keyQ,Prod.mk.injEq] at a
 have b:=d.2.2.1 p.ts[i] (tY _)
 rw[getElem!_pos r.ts i hi,a.1,a.2]
 exact⟨_,rfl,b.1,b.2.1,b.2.2⟩
theorem PyG.coef {n:Nat}{r:PolyR}(h:PyG n r):∀ i,i<r.ts.length→(bytes r.ts[i]!.coef).length≤20:=fun i b=>by
 obtain⟨q,c,_,a,_⟩:=h.term b
 rw[c]
 exact uD (Zbx (k:=6) (by decide) a.1 a.2) (by decide)
theorem PyG.exl {n:Nat}(c:n=1∨n=2){r:PolyR}(h:PyG n r):∀ i,i<r.ts.length→r.ts[i]!.exps.length≤2:=fun i a=>by
 obtain⟨_,_,_,_,b⟩:=h.term a
 have:=b.1
 omega
theorem PyG.good {n:Nat}(x:n=1∨n=2){r:PolyR}(h:PyG n r):r.good:=by
 have D:=h.len
 have y:r.v=(n:Int):=by obtain⟨p,_,d,_⟩:=h;exact d
 have o:∀ i,i<r.ts.length→xM r.v r.ts[i]! = true:=fun i g=>by
  obtain⟨q,d,l,_,m⟩:=h.term g
  unfold xM bD
  rw[d,show xI (bytes ⟨(xA q).toArray⟩)=some q from bP q]
  have s:r.ts[i]!.exps.all expB=true:=Zih (fun j z=>by
   have:=m.2 _ (Zba z)
   exact Zij (by omega) (by omega))
  simp only[s,Bool.and_true,uI l,Bool.true_and]
  rw[y,m.1]
  exact uI rfl
 have t:∀ k,k≤r.ts.length→wfT r.v r.ts k=true:=fun k=>by
  induction k with
  | zero=>intro _;rfl
  | succ k ih =>
   intro E
   refine ZdG (ih (by omega)) rfl (o k (by omega)) ?_
   rcases uJ k with c|c
   ·exact Or.inl c
   right
   obtain⟨p,u,_,l⟩:=h
   have A:r.ts.length=p.ts.length:=Zbz l
   have f:∀ i (g:i<p.ts.length),r.ts[i]!.exps=p.ts[i].ex:=fun i g=>by
    have w:(r.ts.map keyT)[i]? = (p.ts.map keyQ)[i]? := by rw[l]
    rw[List.getElem?_map,List.getElem?_map,List.getElem?_eq_getElem (by omega),List.getElem?_eq_getElem g] at w
    simp only[sH,sC,keyT,keyQ,Prod.mk.injEq] at w
    rw[getElem!_pos r.ts i (by omega),w.2]
   have d:=List.pairwise_iff_getElem.1 u.2.2.2 (k-1) k (by omega) (by omega) (by omega)
   rw[f (k-1) (by omega),f k (by omega)]
   rw[Zbb x (u.2.2.1 _ (tY _)).2.2 (u.2.2.1 _ (tY _)).2.2]
   unfold cmpF
   rw[vP (by omega),tA d]
   decide
 unfold PolyR.good wP
 rw[t _ (uR _),uI (by omega:r.ts.length≤4096),uI (by omega:0≤r.v),uI (by omega:r.v≤6)]
 rcases uJ r.ts.length with c|c
 ·rw[uI c];rfl
 obtain⟨q,_,_,_,m⟩:=h.term c
 have s:(0:Int)≤degF r.ts[0]!.exps:=by
  rcases ZcR x m with ⟨a,e,B,C,_⟩|⟨a,b,e,B,C,_⟩<;>rw[e]
  ·unfold degF degT degT nth;simp;rw[vP (by omega)];omega
  unfold degF degT degT degT nth;simp;repeat' split
  all_goals omega
 rw[uI s,Bool.or_true];rfl
-- lengths
theorem iN (k:Nat){z:Int}(a:0≤z)(h:z<((10^(k+1):Nat):Int)):(bytes (zO z)).length≤k+1:=by
 show (Lib.itoa z).length≤k+1
 rw[Zev a]
 exact ZfH k z.toNat (by omega)
theorem Zat (k:ByteArray)(ss:List ByteArray)(m:Nat)(h:∀ s∈ss,(bytes s).length≤m):(wY k ss).length≤(bytes k).length+ss.length*(m+1)+1:=by
 have b:(wX ss).length≤ss.length*(m+1):=by
  unfold wX
  induction ss with
  | nil=>simp
  | cons s ss ih =>
   have c:=ih (fun t a=>h t (tD _ a))
   have d:=h s tB
   rw[sK,uA,vM,vM,uT]
   omega
 unfold wY
 rw[uA,uA]
 simp only[vM,sO]
 omega
theorem Zau {α:Type}{enc:α→List UInt8}(m:Nat):∀ (l:List α),(∀ x∈l,(enc x).length≤m)→(l.flatMap enc).length≤l.length*m
 | [],_=>by simp
 | x :: l,h=>by
  have b:=Zau m l (fun t a=>h t (tD _ a))
  have c:=h x tB
  rw[sK,uA,vM,uT]
  omega
theorem EX.words {n:Nat}{a:List Int}(h:EX n a):∀ s∈a.map zO,(bytes s).length≤20:=fun s b=>by
 obtain⟨z,c,rfl⟩:=rH.1 b
 have:=h.2 z c
 exact uD (iN 0 this.1 (by omega)) (by decide)
theorem PyG.tl {n:Nat}(k:n=1∨n=2){r:PolyR}(h:PyG n r):(pyT r).length≤300:=by
 have l:=h.len
 have q:r.v=(n:Int):=by obtain⟨p,_,b,_⟩:=h;exact b
 unfold pyT kZ
 rw[uA]
 have b:=Zat jP [zO r.v,zO ((r.ts.length:Nat):Int)] 20 (fun s a=>by
  rcases tX.1 a with rfl|a
  ·exact uD (iN 0 (by omega) (by omega)) (by decide)
  obtain rfl:=vH.1 a
  exact uD (iN 0 (by omega) (by omega)) (by decide))
 have u:=Zau (enc:=lN) 68 r.ts (fun t m=>by
  obtain⟨i,c,rfl⟩:=rO m
  have e:r.ts[i]! = r.ts[i]:=getElem!_pos r.ts i c
  obtain⟨_,_,_,_,d⟩:=h.term c
  have g:=h.coef i c
  rw[e] at g d
  have j:=Zat Zbq (r.ts[i].coef :: r.ts[i].exps.map zO) 20 (fun s a=>by
   rcases tX.1 a with rfl|a
   ·exact g
   exact d.words s a)
  have o:=d.1
  have f:(bytes Zbq).length=4:=rfl
  unfold lN
  rw[vM,rW,f] at j
  rcases k with rfl|rfl<;>rw[o] at j<;>omega)
 have f:(bytes jP).length=4:=rfl
 rw[f] at b
 simp only[vM,sO] at b
 have w:r.ts.length*68≤3*68:=uC _ l
 omega
theorem MuG.good {n:Nat}(a:n=1∨n=2){m:MuR}(h:MuG n m):m.good:=⟨h.1.good a,h.2.good a⟩
theorem MuG.tl {n:Nat}(a:n=1∨n=2){m:MuR}(h:MuG n m):(muT m).length≤600:=by
 unfold muT
 rw[uA]
 have:=h.1.tl a
 have:=h.2.tl a
 omega
theorem SqG.good {n:Nat}(a:n=1∨n=2){s:SqR}(h:SqG n s):s.good:=⟨h.1.1,h.2.good a⟩
theorem SqG.tl {n:Nat}(b:n=1∨n=2){s:SqR}(h:SqG n s):(sqT s).length≤700:=by
 unfold sqT
 rw[uA]
 have e:=h.2.tl b
 have a:=Zat aT [s.sa,s.sb,zO s.d] 20 (bU h.1.2.1 h.1.2.2.1 (uD (iN 0 (by have:=h.1.2.2.2;omega) (by have:=h.1.2.2.2;omega)) (by decide)))
 have c:(bytes aT).length=6:=rfl
 rw[c] at a
 simp only[vM,sO] at a
 omega
theorem PrG.good {n:Nat}(a:n=1∨n=2){p:PrR}(h:PrG n p):p.good:=⟨fun z b=>(h.1 z b).1,fun s c=>(h.2.2.2 s c).good a⟩
theorem PrG.tl {n:Nat}(c:n=1∨n=2){p:PrR}(h:PrG n p):(prT p).length≤1500:=by
 unfold prT
 rw[uA]
 have g:=h.2.1
 have b:=h.2.2.1
 have d:=Zat eK (zO ((p.sq.length:Nat):Int) :: p.zs.map zO) 20 (fun s a=>by
  rcases tX.1 a with rfl|a
  ·exact uD (iN 0 (by omega) (by omega)) (by decide)
  obtain⟨z,e,rfl⟩:=rH.1 a
  have:=h.1 z e
  exact uD (iN 0 this.1 (by omega)) (by decide))
 have i:=Zau (enc:=sqT) 700 p.sq (fun s a=>(h.2.2.2 s a).tl c)
 have f:(bytes eK).length=7:=rfl
 rw[f,vM,rW] at d
 have j:p.sq.length*700≤2*700:=uC _ b
 have k:(p.zs.length+1)*21≤3*21:=uC _ (by omega)
 omega
theorem IdG.good {n:Nat}(a:n=1∨n=2){x:IdR}(h:IdG n x):x.good:=⟨by have:=h.1.1;omega,fun p b=>(h.2.2.2.1 p b).good a,fun m c=>(h.2.2.2.2 m c).good a⟩
theorem IdG.tl {n:Nat}(b:n=1∨n=2){x:IdR}(h:IdG n x):(idT x).length≤5000:=by
 obtain⟨l,e,f,g,i⟩:=h
 unfold idT idH
 rw[uA,uA]
 have c:=Zat bR [zO x.d,zO ((x.ps.length:Nat):Int),zO ((x.ms.length:Nat):Int)] 20 (bU (uD (iN 0 (by omega) (by omega)) (by decide)) (uD (iN 0 (by omega) (by omega)) (by decide)) (uD (iN 0 (by omega) (by omega)) (by decide)))
 have m:=Zau (enc:=prT) 1500 x.ps (fun s a=>(g s a).tl b)
 have o:=Zau (enc:=muT) 600 x.ms (fun s a=>(i s a).tl b)
 have j:(bytes bR).length=8:=rfl
 rw[j] at c
 simp only[vM,sO] at c
 have p:x.ps.length*1500≤2*1500:=uC _ e
 have k:x.ms.length*600≤1*600:=uC _ f
 omega
-- surds that are written
theorem ZkP:xI (bytes ⟨#[48]⟩)=some 0:=by
 have h:=ZaP 0
 have e:Lib.itoa 0=bytes ⟨#[48]⟩:=tC bytes (ZaQ (n:=0) (by decide))
 rw[e] at h
 exact h
theorem Zm7 {d:Nat}(c:0<d)(h:∀ j,2≤j→j≤3→d%(j*j)≠0)(f:d<16):Free d:=fun j e b=>by
 rcases uZ j 4 with a|a
 ·exact h j e (by omega) (Nat.mod_eq_zero_of_dvd b)
 have:=qU c b
 have:4*4≤j*j:=sE a a
 omega
theorem ZlP {d:Int}(h:d=2∨d=3∨d=5):Free d.toNat:=by
 rcases h with rfl|rfl|rfl
 all_goals
  refine Zm7 (by decide) (fun j a b=>?_) (by decide)
  rcases (by omega:j=2∨j=3) with rfl|rfl<;>decide
theorem ZeG {a:Rat}(h:Dq a 6):SuG ⟨(xA a).toArray⟩ ⟨#[48]⟩ 1:=by
 refine⟨?_,uD (Zbx (k:=6) (by decide) h.1 h.2) (by decide),by decide,by decide,by decide⟩
 rw[ZkN (bP a) ZkP rfl rfl];rfl
theorem Zn5 {a b:Rat}{d:Int}(e:Dq a 6)(f:Dq b 6)(c:b.num≠0)(g:d=2∨d=3∨d=5):SuG ⟨(xA a).toArray⟩ ⟨(xA b).toArray⟩ d:=by
 refine⟨?_,uD (Zbx (k:=6) (by decide) e.1 e.2) (by decide),uD (Zbx (k:=6) (by decide) f.1 f.2) (by decide),by omega,by omega⟩
 rw[Zl9 (bP a) (bP b) (by omega) (by omega) c (ZlP g)];rfl
theorem OwnD.empty {w:World}{m b k:Nat}{e:TypeId}(h:Blk e w b #[])(a:m≤b):OwnD w m e k (some ⟨b,0,none⟩) 0 0 []:=by
 refine⟨by simp,Or.inr ⟨b,#[],rfl,a,h,fun i k z h=>by simp at h,uR _,uM _,by simp,by simp⟩⟩
section
variable {P:Program} {o:Oper} {ρ:Operand→Value} {w:World} {lo m1 k n c bytes b:Nat} {t e:TypeId} {s0 x:Operand} {A:Option Addr} {news:List Value} {z:Value}
theorem ZeH (X:0<n)(p:OwnD w m1 e k A c n news)(Y:0<k)(K:z.cells.size=k)(C:wG z.cells)(D:lo≤w.heap.size)(E:∀ (k:IntKind) (z:Int),Value.int k z∈news→k=.i64)(r:n≤maxLen)(d:n*bytes≤140737488355328)(L:o.op=.call { callee:=.builtin .append,args:=#[s0,x],argTypes:=#[t,t] }:=by kernel_rfl)(M:P.underlying t=some (.slice e):=by kernel_rfl)(l:(P.info? e).map (fun i=>(i.zero,i.size,i.bytes))=some (some z,k,bytes):=by kernel_rfl)(N:ρ s0=.slice (some ⟨b,0,none⟩) 0 0:=by kernel_rfl)(O:ρ x=.slice A n c:=by kernel_rfl) :
 Does P o ρ w (DoR (fun q:Option Addr×Nat=>.slice q.1 n q.2) (fun q w=>OwnD w lo e k q.1 q.2 n news) w):=by
 obtain⟨F,s,G⟩:=uV.1 l
 injection G with hz0 G
 injection G with hsize hby
 subst hsize hby
 have J:n≤9223372036854775807:=by simp only[maxLen] at r;omega
 obtain⟨g,rfl⟩:∃ g,A=some ⟨g,0,none⟩:=by
  rcases p.2 with ⟨_,_,a⟩|⟨g,_,a,_⟩
  ·omega
  exact⟨g,a⟩
 have f:=run_append_grow (P:=P) w t o.type e F z M s hz0 ⟨b,0,none⟩ 0 0 [] (by simp) (fun j v h=>by simp at h) ⟨g,0,none⟩ n c news p.1 (fun j u B=>by
  obtain⟨Z,a,_,R⟩:=OwnD.at p B
  injection a with a
  injection a with a
  subst a
  rw[Lib.add_plain];exact R) (by omega) (by omega) (growslice_fits (by omega) (by rw[vO];exact d))
 rw[vO] at f
 have H:=grownCap_ge w n 0 e
 have m:(execOp ρ o).run P w=.ok (.value (.slice (some ⟨w.heap.size,0,none⟩) n (grownCap w n 0 e))) (w.drew.alloc (.cells (([]:List Value).toArray ++ news.toArray ++ Builtin.zeroCells z.cells (grownCap w n 0 e-n)) e)):=by simp[execOp,L,resolve,invoke,builtin,N,O,f,Result.andThen]
 have Q:Ext w (w.drew.alloc (.cells (([]:List Value).toArray ++ news.toArray ++ Builtin.zeroCells z.cells (grownCap w n 0 e-n)) e)):=((Fr.refl _ w).drewN 1).alloc _
 refine Or.inl ⟨_,_,m,(some ⟨w.heap.size,0,none⟩,grownCap w n 0 e),rfl,Q,fun S T U V=>?_⟩
 have I:Blk e (w.drew.alloc (.cells (([]:List Value).toArray ++ news.toArray ++ Builtin.zeroCells z.cells (grownCap w n 0 e-n)) e)) w.heap.size (([]:List Value).toArray ++ news.toArray ++ Builtin.zeroCells z.cells (grownCap w n 0 e-n)):=heap_alloc_new w.drew _
 have W:=Blk.fr I V (fun h=>by have:=(T _ h).1;omega)
 refine⟨p.1,Or.inr ⟨w.heap.size,_,rfl,D,W,fun j q y B=>?_,H,grownCap_le_maxLen w n 0 e r,?_,?_⟩⟩
 ·have a:=List.mem_of_getElem? (by rw[←Array.getElem?_toList] at B;exact B)
  rw[tZ,tZ] at a
  rcases vL.1 a with a|a
  ·exact E q y (by simpa using a)
  exact C.mem (Zdz a)
 ·simp only[Array.size_append,qO,size_zeroCells,K,p.1,sO,vO]
  rw[←uT]
  congr 1
  omega
 simp only[tZ,qW]
 rw[←p.1]
 exact List.take_left
theorem ZkQ (Q:OwnD w m1 e k A c n news)(R:0<k)(T:z.cells.size=k)(B:wG z.cells)(C:lo≤w.heap.size)(D:∀ (k:IntKind) (z:Int),Value.int k z∈news→k=.i64)(E:n≤maxLen)(g:n*bytes≤140737488355328)(M:o.op=.call { callee:=.builtin .append,args:=#[s0,x],argTypes:=#[t,t] }:=by kernel_rfl)(F:P.underlying t=some (.slice e):=by kernel_rfl)(d:(P.info? e).map (fun i=>(i.zero,i.size,i.bytes))=some (some z,k,bytes):=by kernel_rfl)(N:ρ s0=.slice (some ⟨b,0,none⟩) 0 0:=by kernel_rfl)(O:ρ x=.slice A n c:=by kernel_rfl) :
 Does P o ρ w (DoR (fun q:{q:Option Addr×Nat // n=0→q=(some ⟨b,0,none⟩,0)}=>.slice q.1.1 n q.1.2) (fun q w=>n=0∨OwnD w lo e k q.1.1 q.1.2 n news) w):=by
 rcases uJ n with G|G
 ·subst G
  obtain⟨H,m,r⟩:=uV.1 d
  have p:(Builtin.append_ #[t,t] o.type #[.slice (some ⟨b,0,none⟩) 0 0,.slice A 0 c]).run P w=.ok (.slice (some ⟨b,0,none⟩) 0 0) w:=by
   rcases A with _|a
   ·simp[Builtin.append_,run_underlying F,sizeOf,typeInfo,m,Builtin.lenOf,run_firstCells_none,storeCells]
   have I:=run_firstCells_some (P:=P) w H.size 0 a 0 c [] (by simp) (fun j u h=>by simp at h)
   simp[Builtin.append_,run_underlying F,sizeOf,typeInfo,m,Builtin.lenOf,I,storeCells]
  exact Or.inl ⟨.slice (some ⟨b,0,none⟩) 0 0,w,by simp[execOp,M,resolve,invoke,builtin,N,O,p,Result.andThen],⟨(some ⟨b,0,none⟩,0),fun _=>rfl⟩,rfl,Fr.refl _ w,fun S s l v=>Or.inl rfl⟩
 have h:=ZeH (lo:=lo) (b:=b) G Q R T B C D E g M F d N O
 rcases h with ⟨y,w',J,q,K,r,L⟩|⟨f,args,U,J,V⟩
 ·exact Or.inl ⟨y,w',J,⟨q,fun h=>by omega⟩,K,r,fun S s l v=>Or.inr (L S s l v)⟩
 refine Or.inr ⟨f,args,U,J,V.mono (fun e w' h=>?_)⟩
 obtain⟨y,I,q,K,r,L⟩:=h
 exact⟨y,I,⟨q,fun h=>by omega⟩,K,r,fun S s l v=>Or.inr (L S s l v)⟩
end
theorem ZlQ {w:World}{lo k n b:Nat}{e:TypeId}{news:List Value}{q:Option Addr×Nat}(a:news.length=n*k)(d:lo≤b)(f:n=0→q=(some ⟨b,0,none⟩,0))(h:n=0∨OwnD w lo e k q.1 q.2 n news)(g:Blk e w b #[]):OwnD w lo e k q.1 q.2 n news:=by
 rcases h with h|h
 ·subst h
  obtain rfl:news=[]:=sJ (by rw[a,sU])
  rw[f rfl]
  exact OwnD.empty g d
 exact h
theorem ZfY (zs:List Int):∀ (k:IntKind) (z:Int),Value.int k z∈intV zs→k=.i64:=fun k z h=>by
 obtain⟨y,_,e⟩:=rH.1 h
 injection e with e
 exact e.symm
end Go.Proofs.YtoanifijmlgcgaaGreatDoor
