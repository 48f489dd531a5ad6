/-
 My texts Rm, Rs, Rx, Mf, Ki put together.
-/
import Derived.Test.YthlipnahcbcjkaaGreatDoorR18
import Derived.Test.YthlipnahcbcjkaaGreatDoorR17
set_option maxRecDepth 100000
namespace Go.Proofs.YthlipnahcbcjkaaGreatDoor
open Go.RowKit
theorem Zea (A0:Option Addr) (n m c0:Nat) (R:Nat→Option Addr) (C:Nat→Nat) (Z:Nat→List Int) (P:Nat) (W0:World) (ha:ArgI W0 A0 n R C Z) (hn:n≤1000) (hm1:m≤1000) (hm:∀ i,i < n→(Z i).length=m) (hp:1≤P) (hp31:P≤2147483647) :
 Calls Tryz.prog 65 #[.slice A0 n c0, .int .i64 ((P:Nat):Int)] W0 (Zkv W0 n ((P:Nat):Int) Z .i64 3 23):=by
 refine Zbi (Φ:=fun w=>ArgI w A0 n R C Z) Tryz.func65 rfl (by kernel_rfl) (fun w' hf=>ha.ext hf) ?_
 refine Zac (Zab (xr 1 [eS1 0 A0 n c0,(1, .v (.int .i64 ((P:Nat):Int))),eS1 4 none 0 0] [] ?_))
 refine xe (Zaa (Zac (Zab (xr 2 [eS1 0 A0 n c0,(1, .v (.int .i64 ((P:Nat):Int))),eS1 4 none 0 0,(9, .v (.int .i64 ((n:Nat):Int)))] [] ?_))))
 refine ZcG (d:=10) (fun b:Nat=>.slice (some ⟨b,0,none⟩) n n) (fun b w=>ResI .i64 3 23 (fun w=>ArgI w A0 n R C Z) W0 w b n (fun _=>none) (fun _=>0) (fun _=>[])) (fun w hE' Q=>(fun ⟨w',h1,h2,h3,h4⟩=>⟨w.heap.size,w',h1,h2,fun w'' hw=>⟨Q.ext (h3.ext hw),h4.ext hw,fun g hg=>hg.elim (fun e=>e ▸ hE'.size) (fun ⟨_,_,_,h5,_⟩=>nomatch h5)⟩⟩) (ZoR (k:=.i64) (te:=3) (t:=22) (l:=.tmp 9) (c:=.tmp 9) (n:=n) (bw:=24) (kl:=.i64) (kc:=.i64) (by omega) (by decide) hE')) (fun b=>?_)
 refine xr 1 [eS1 0 A0 n c0,(1, .v (.int .i64 ((P:Nat):Int))),eS1 4 none 0 0,eS1 5 (some ⟨b,0,none⟩) n n] [] ?_
 refine xe (Zaa (Zac (Zac (Zab (xr 1 [eS1 0 A0 n c0,(1, .v (.int .i64 ((P:Nat):Int))),eS1 4 none 0 0,eS1 5 (some ⟨b,0,none⟩) n n,(6, .v (.int .i64 0))] [] ?_)))))
 refine xe (Zaa (Zap ?_))
 refine SXc.weak [(0, .v (.slice A0 n c0)),(1, .v (.int .i64 ((P:Nat):Int))),(4, .v (.slice none 0 0)),(5, .v (.slice (some ⟨b,0,none⟩) n n)),(6, .v (.int .i64 ((0:Nat):Int)))] [] (Ψ:=fun w=>ResI .i64 3 23 (fun w=>ArgI w A0 n R C Z) W0 w b n ((fun _=>none)) ((fun _=>0)) ((fun _=>[]))) (Zaw.of (by kernel_rfl)) (by kernel_rfl) (fun w Q=>Q) ?_
 refine ZaU (fun nn ss ff=>∃ (A:Nat→Option Addr) (C1:Nat→Nat) (X:Nat→List Nat) (i:Nat),ss=ofL [(0, .v (.slice A0 n c0)),(1, .v (.int .i64 ((P:Nat):Int))),(4, .v (.slice none 0 0)),(5, .v (.slice (some ⟨b,0,none⟩) n n)),(6, .v (.int .i64 ((i:Nat):Int)))] []∧ff=(fun w=>ResI .i64 3 23 (fun w=>ArgI w A0 n R C Z) W0 w b n (A) (C1) (X))∧(i≤n)∧(∀ a,a < i→X a=redL ((P:Nat):Int) (Z a))∧(∀ a,i≤a→X a=[])∧nn=(n - i)) ((n - 0)) ⟨(fun _=>none),(fun _=>0),(fun _=>[]),0,rfl,rfl,Nat.zero_le _,fun a ha=>absurd ha (by omega),fun _ _=>rfl,rfl⟩ ?_
 rintro nn ss ff ⟨A,C1,X,i,rfl,rfl,hi,hXd,hX0,rfl⟩
 refine Zac (Zac (Zab (xr 4 [eS1 0 A0 n c0,(1, .v (.int .i64 ((P:Nat):Int))),eS1 4 none 0 0,eS1 5 (some ⟨b,0,none⟩) n n,(6, .v (.int .i64 ((i:Nat):Int))),(14, .v (.bool (decide (((i:Nat):Int) < ((n:Nat):Int)))))] [] ?_)))
 refine xe (Zaa ?_)
 refine Zar ((decide (((i:Nat):Int) < ((n:Nat):Int)))) (by kernel_rfl) (fun hb10=>?_) (fun hb10=>?_)
 ·have hin:i < n:=by have:=of_decide_eq_true hb10; omega
  refine Zam (Zaa (Zac (Zap (Zac (Zab (xr 1 [eS1 0 A0 n c0,(1, .v (.int .i64 ((P:Nat):Int))),eS1 4 none 0 0,eS1 5 (some ⟨b,0,none⟩) n n,(6, .v (.int .i64 ((i:Nat):Int))),(7, .v (.int .i64 0))] [] ?_))))))
  refine xe (Zaa (Zap ?_))
  refine SXc.weak [(0, .v (.slice A0 n c0)),(1, .v (.int .i64 ((P:Nat):Int))),(4, .v (.slice none 0 0)),(5, .v (.slice (some ⟨b,0,none⟩) n n)),(6, .v (.int .i64 ((i:Nat):Int))),(7, .v (.int .i64 ((0:Nat):Int)))] [] (Ψ:=fun w=>ResI .i64 3 23 (fun w=>ArgI w A0 n R C Z) W0 w b n (A) (C1) (X)) (Zaw.of (by kernel_rfl)) (by kernel_rfl) (fun w Q=>Q) ?_
  refine ZaU (fun nn ss ff=>∃ (A:Nat→Option Addr) (C1:Nat→Nat) (X:Nat→List Nat) (j:Nat),ss=ofL [(0, .v (.slice A0 n c0)),(1, .v (.int .i64 ((P:Nat):Int))),(4, .v (.slice none 0 0)),(5, .v (.slice (some ⟨b,0,none⟩) n n)),(6, .v (.int .i64 ((i:Nat):Int))),(7, .v (.int .i64 ((j:Nat):Int)))] []∧ff=(fun w=>ResI .i64 3 23 (fun w=>ArgI w A0 n R C Z) W0 w b n (A) (C1) (X))∧(j≤m)∧(X i=redL ((P:Nat):Int) ((Z i).take j))∧(∀ a,a < i→X a=redL ((P:Nat):Int) (Z a))∧(∀ a,i < a→X a=[])∧nn=(m - j)) ((m - 0)) ⟨A,C1,X,0,rfl,rfl,Nat.zero_le _,(hX0 i (Nat.le_refl _)),hXd,(fun a ha=>hX0 a (by omega)),rfl⟩ ?_
  rintro nn ss ff ⟨A,C1,X,j,rfl,rfl,hj,hXi,hXd,hX0,rfl⟩
  refine Zac (Zac (Zab (xr 3 [eS1 0 A0 n c0,(1, .v (.int .i64 ((P:Nat):Int))),eS1 4 none 0 0,eS1 5 (some ⟨b,0,none⟩) n n,(6, .v (.int .i64 ((i:Nat):Int))),(7, .v (.int .i64 ((j:Nat):Int))),(17, .v (.int .i64 ((j:Nat):Int))),eS1 18 A0 n c0,(19, .v (.int .i64 ((i:Nat):Int)))] [] ?_)))
  refine xk 20 (atA A0 i) (fun w hE' Q=>Zbr (t:=22) (e:=23) (x:=.tmp 18) (ix:=.tmp 19) (i:=i) (cap:=c0) Q.arg hin) ?_
  refine xk 21 (.slice (R i) m (C i)) (fun w hE' Q=>Zbs (t:=23) (x:=.tmp 20) (i:=i) Q.arg hin (hm i hin)) ?_
  refine xr 2 [eS1 0 A0 n c0,(1, .v (.int .i64 ((P:Nat):Int))),eS1 4 none 0 0,eS1 5 (some ⟨b,0,none⟩) n n,(6, .v (.int .i64 ((i:Nat):Int))),(7, .v (.int .i64 ((j:Nat):Int))),(23, .v (.bool (decide (((j:Nat):Int) < ((m:Nat):Int)))))] [] ?_
  refine xe (Zaa ?_)
  refine Zar ((decide (((j:Nat):Int) < ((m:Nat):Int)))) (by kernel_rfl) (fun hb11=>?_) (fun hb11=>?_)
  ·have hjm:j < m:=by have:=of_decide_eq_true hb11; omega
   refine Zam (Zaa (Zac (Zap ?_)))
   obtain ⟨z,hz⟩:∃ z,(Z i).getD j 0=z:=⟨_,rfl⟩
   obtain ⟨q,hq⟩:∃ q:Nat,z % ((P:Nat):Int)=(q:Int):=Int.eq_ofNat_of_zero_le (Int.emod_nonneg z (by omega))
   have hXj:(X i).length=j:=by rw [hXi,Zfg,List.length_take,hm i hin]; omega
   refine Zg5 8 16 5 26 6 27 5 28 6 29 (.slice (some ⟨b,0,none⟩) n n) (.int .i64 ((i:Nat):Int)) (.slice (some ⟨b,0,none⟩) n n) (.int .i64 ((i:Nat):Int)) ?_
   refine xf 0 [eS1 0 A0 n c0,(1, .v (.int .i64 ((P:Nat):Int))),eS1 4 none 0 0,eS1 5 (some ⟨b,0,none⟩) n n,(6, .v (.int .i64 ((i:Nat):Int))),(7, .v (.int .i64 ((j:Nat):Int))),eS1 26 (some ⟨b,0,none⟩) n n,(27, .v (.int .i64 ((i:Nat):Int))),eS1 28 (some ⟨b,0,none⟩) n n,(29, .v (.int .i64 ((i:Nat):Int)))] [] ?_
   refine xj 30 (.pointer (some ⟨b,i,none⟩)) (fun w Q=>Zax (g:=b) (len:=n) (cap:=n) (i:=i) (t:=22) (e:=23) (x:=.tmp 28) (ix:=.tmp 29) hin) ?_
   refine xj 31 (.slice (A i) j (C1 i)) (fun w Q=>ZaQ (t:=23) (x:=.tmp 30) Q.mat hin hXj) ?_
   refine xf 2 [eS1 0 A0 n c0,(1, .v (.int .i64 ((P:Nat):Int))),eS1 4 none 0 0,eS1 5 (some ⟨b,0,none⟩) n n,(6, .v (.int .i64 ((i:Nat):Int))),(7, .v (.int .i64 ((j:Nat):Int))),eS1 26 (some ⟨b,0,none⟩) n n,(27, .v (.int .i64 ((i:Nat):Int))),eS1 31 (A i) j (C1 i),eS1 32 A0 n c0,(33, .v (.int .i64 ((i:Nat):Int)))] [] ?_
   refine xj 34 (atA A0 i) (fun w Q=>Zbr (t:=22) (e:=23) (x:=.tmp 32) (ix:=.tmp 33) (i:=i) (cap:=c0) Q.arg hin) ?_
   refine xj 35 (.slice (R i) m (C i)) (fun w Q=>Zbs (t:=23) (x:=.tmp 34) (i:=i) Q.arg hin (hm i hin)) ?_
   refine xf 1 [eS1 0 A0 n c0,(1, .v (.int .i64 ((P:Nat):Int))),eS1 4 none 0 0,eS1 5 (some ⟨b,0,none⟩) n n,(6, .v (.int .i64 ((i:Nat):Int))),(7, .v (.int .i64 ((j:Nat):Int))),eS1 26 (some ⟨b,0,none⟩) n n,(27, .v (.int .i64 ((i:Nat):Int))),eS1 31 (A i) j (C1 i),eS1 35 (R i) m (C i),(36, .v (.int .i64 ((j:Nat):Int)))] [] ?_
   refine xj 37 (atA (R i) j) (fun w Q=>Zem (t:=23) (e:=3) (x:=.tmp 35) (ix:=.tmp 36) (cap:=C i) (Q.arg.row i hin) (hm i hin) hjm) ?_
   refine xj 38 (.int .i64 z) (fun w Q=>Zen (t:=3) (x:=.tmp 37) (j:=j) (Q.arg.row i hin) (by rw [hm i hin]; exact hjm) hz) ?_
   refine xf 1 [eS1 0 A0 n c0,(1, .v (.int .i64 ((P:Nat):Int))),eS1 4 none 0 0,eS1 5 (some ⟨b,0,none⟩) n n,(6, .v (.int .i64 ((i:Nat):Int))),(7, .v (.int .i64 ((j:Nat):Int))),eS1 26 (some ⟨b,0,none⟩) n n,(27, .v (.int .i64 ((i:Nat):Int))),eS1 31 (A i) j (C1 i),(38, .v (.int .i64 z)),(39, .v (.int .i64 ((P:Nat):Int)))] [] ?_
   refine xd 66 [.int .i64 z, .int .i64 ((P:Nat):Int)] 40 (fun _:Unit=>.int .i64 ((q:Nat):Int)) _ (fun w S Q=>(Zgv z P q _ (by omega) (by omega) hq).mono (fun _ _ h=>Zau h rfl)) (fun xx=>?_)
   refine xf 0 [eS1 0 A0 n c0,(1, .v (.int .i64 ((P:Nat):Int))),eS1 4 none 0 0,eS1 5 (some ⟨b,0,none⟩) n n,(6, .v (.int .i64 ((i:Nat):Int))),(7, .v (.int .i64 ((j:Nat):Int))),eS1 26 (some ⟨b,0,none⟩) n n,(27, .v (.int .i64 ((i:Nat):Int))),eS1 31 (A i) j (C1 i),(40, .v (.int .i64 ((q:Nat):Int)))] [] ?_
   refine ZfY 41 (fun zb:Nat=>.slice (some ⟨zb,0,none⟩) 1 1) (fun zb zw=>Blk 3 zw zb #[.int .i64 ((q:Nat):Int)]) (by kernel_rfl) (by kernel_rfl) (by kernel_rfl) (by kernel_rfl) (by kernel_rfl) (by kernel_rfl) (by kernel_rfl) (fun w S Q=>Zce (t:=23) (e:=3) (n:=1) (sz:=1) (z:=.int .i64 0) (parts:=#[(0,Operand.tmp 40)]) (by kernel_rfl) (by kernel_rfl) (by kernel_rfl) (by kernel_rfl) (by kernel_rfl) (by kernel_rfl)) (fun b12=>?_)
   refine xf 0 [eS1 0 A0 n c0,(1, .v (.int .i64 ((P:Nat):Int))),eS1 4 none 0 0,eS1 5 (some ⟨b,0,none⟩) n n,(6, .v (.int .i64 ((i:Nat):Int))),(7, .v (.int .i64 ((j:Nat):Int))),eS1 26 (some ⟨b,0,none⟩) n n,(27, .v (.int .i64 ((i:Nat):Int))),eS1 31 (A i) j (C1 i),eS1 41 (some ⟨b12,0,none⟩) 1 1] [] ?_
   refine xz ?_
   refine ZcG (d:=42) (fun z:Option Addr × Nat=>.slice z.1 (j + 1) z.2) (fun z w=>LooseI .i64 3 23 (fun w=>ArgI w A0 n R C Z) W0 w b n i (A) (C1) (X) (z.1) (z.2) (X i ++ [q])) (fun w hE' Q=>Zff (t:=23) (x:=.tmp 31) (y:=.tmp 41) (g:=b12) (x':=q) (bw:=8) (ZcI ha) Q.1.1 hE' hin hXj (by omega) (by decide) (ZeT Q.2)) (fun z=>?_)
   obtain ⟨A3,c3⟩:=z
   refine xk 43 (.pointer (some ⟨b,i,none⟩)) (fun w hE' Q=>Zax (g:=b) (len:=n) (cap:=n) (i:=i) (t:=22) (e:=23) (x:=.tmp 26) (ix:=.tmp 27) hin) ?_
   refine Zb8 (fun w=>ResI .i64 3 23 (fun w=>ArgI w A0 n R C Z) W0 w b n (upF A i A3) (upF C1 i c3) (upF X i (X i ++ [q]))) (fun w hE' Q=>ZeS (t:=23) (x:=.tmp 43) (y:=.tmp 42) (ZcI ha) Q hE' hin (by rw [List.length_append,hXj,List.length_singleton])) ?_
   refine xr 0 [eS1 0 A0 n c0,(1, .v (.int .i64 ((P:Nat):Int))),eS1 4 none 0 0,eS1 5 (some ⟨b,0,none⟩) n n,(6, .v (.int .i64 ((i:Nat):Int))),(7, .v (.int .i64 ((j:Nat):Int)))] [] ?_
   refine xe (ZaN (Zaa (Zab (xr 2 [eS1 0 A0 n c0,(1, .v (.int .i64 ((P:Nat):Int))),eS1 4 none 0 0,eS1 5 (some ⟨b,0,none⟩) n n,(6, .v (.int .i64 ((i:Nat):Int))),(7, .v (.int .i64 ((j:Nat):Int))),(25, .v (.int .i64 (IntKind.i64.wrap (((j:Nat):Int) + 1))))] [] ?_))))
   rw [ZaI (k:=j) (by omega)]
   refine xr 1 [eS1 0 A0 n c0,(1, .v (.int .i64 ((P:Nat):Int))),eS1 4 none 0 0,eS1 5 (some ⟨b,0,none⟩) n n,(6, .v (.int .i64 ((i:Nat):Int))),(7, .v (.int .i64 ((j + 1:Nat):Int)))] [] ?_
   refine xe ?_
   refine SXq.weak [(0, .v (.slice A0 n c0)),(1, .v (.int .i64 ((P:Nat):Int))),(4, .v (.slice none 0 0)),(5, .v (.slice (some ⟨b,0,none⟩) n n)),(6, .v (.int .i64 ((i:Nat):Int))),(7, .v (.int .i64 (((j + 1):Nat):Int)))] [] (Ψ:=fun w=>ResI .i64 3 23 (fun w=>ArgI w A0 n R C Z) W0 w b n ((upF A i A3)) ((upF C1 i c3)) ((upF X i (X i ++ [q])))) (Zaw.of (by kernel_rfl)) (by kernel_rfl) (fun w Q=>Q) ?_
   exact ZaB ((m - (j + 1))) (by omega) ⟨(upF A i A3),(upF C1 i c3),(upF X i (X i ++ [q])),(j + 1),rfl,rfl,(by omega),(by rw [Zas,hXi]; exact Zj9 (by rw [hm i hin]; exact hjm) (by rw [hz]; exact hq)),(fun a ha=>by rw [ZaP (by omega)]; exact hXd a ha),(fun a ha=>by rw [ZaP (by omega)]; exact hX0 a ha),rfl⟩
  ·have hjm:m≤j:=by have:=of_decide_eq_false hb11; omega
   refine ZaC (Zae (Zae (ZaO (ZaN (Zaa (Zab (xr 2 [eS1 0 A0 n c0,(1, .v (.int .i64 ((P:Nat):Int))),eS1 4 none 0 0,eS1 5 (some ⟨b,0,none⟩) n n,(6, .v (.int .i64 ((i:Nat):Int))),(16, .v (.int .i64 (IntKind.i64.wrap (((i:Nat):Int) + 1))))] [] ?_)))))))
   rw [ZaI (k:=i) (by omega)]
   refine xr 1 [eS1 0 A0 n c0,(1, .v (.int .i64 ((P:Nat):Int))),eS1 4 none 0 0,eS1 5 (some ⟨b,0,none⟩) n n,(6, .v (.int .i64 ((i + 1:Nat):Int)))] [] ?_
   refine xe ?_
   refine SXq.weak [(0, .v (.slice A0 n c0)),(1, .v (.int .i64 ((P:Nat):Int))),(4, .v (.slice none 0 0)),(5, .v (.slice (some ⟨b,0,none⟩) n n)),(6, .v (.int .i64 (((i + 1):Nat):Int)))] [] (Ψ:=fun w=>ResI .i64 3 23 (fun w=>ArgI w A0 n R C Z) W0 w b n (A) (C1) (X)) (Zaw.of (by kernel_rfl)) (by kernel_rfl) (fun w Q=>Q) ?_
   exact ZaB ((n - (i + 1))) (by omega) ⟨A,C1,X,(i + 1),rfl,rfl,(by omega),(fun a ha=>by rcases Nat.lt_or_ge a i with h3 | h3; exact hXd a h3; obtain rfl:a=i:=(by omega); rw [hXi]; exact Zlp (by rw [hm a (by omega)]; omega)),(fun a ha=>hX0 a (by omega)),rfl⟩
 ·have hin:n≤i:=by have:=of_decide_eq_false hb10; omega
  refine ZaC (Zae (Zae (ZaO (Zaa (Zac (Zab (xr 2 [eS1 4 (some ⟨b,0,none⟩) n n] [] ?_)))))))
  refine xe (Zaa (Zao ?_))
  refine Zak (v:=.slice (some ⟨b,0,none⟩) n n) (by kernel_rfl) (fun w' S Q=>?_)
  exact ⟨b,A,C1,X,rfl,S,Q.mat,Q.new,fun a ha=>hXd a (by omega)⟩
inductive ShpIs (n:Nat) (Z:Nat→List Int) (p:Int):Int→Prop
 | bad (h:prB p=false):ShpIs n Z p 1
 | empty (h:prB p=true) (hn:n=0):ShpIs n Z p 4
 | zero (h:prB p=true) (hn:0 < n) (hz:(Z 0).length=0):ShpIs n Z p 4
 | uneven (i:Nat) (h:prB p=true) (hn:0 < n) (hz:(Z 0).length≠0) (hi:i < n) (hne:(Z i).length≠(Z 0).length):ShpIs n Z p 4
 | ok (h:prB p=true) (hn:0 < n) (hz:(Z 0).length≠0) (he:∀ i,i < n→(Z i).length=(Z 0).length):ShpIs n Z p 0
structure ShX (n:Nat) (Z:Nat→List Int) (p:Int) where
 v:Value
 c:Int
 h:ShpIs n Z p c
def ZnQ (w:World) (n:Nat) (Z:Nat→List Int) (p:Int) (e:Ending) (w':World):Prop:=∃ x:ShX n Z p,e=.returned (.tuple #[x.v, .int .i64 x.c])∧Ext w w'
theorem Zip {w w':World} {n:Nat} {Z:Nat→List Int} {p:Int} {e:Ending} (h:ZnQ w n Z p e w'):Zcy (fun x:ShX n Z p=>.tuple #[x.v, .int .i64 x.c]) (fun _ _=>True) w e w':=by
 obtain ⟨x,rfl,Q⟩:=h
 exact ⟨x,rfl,Q,BoxN.pure trivial⟩
theorem Zhd (A0:Option Addr) (n c0:Nat) (R:Nat→Option Addr) (C:Nat→Nat) (Z:Nat→List Int) (p:Int) (w:World) (ha:ArgI w A0 n R C Z) (hn1:n≤100000) :
 Calls Tryz.prog 63 #[.slice A0 n c0, .int .i64 p] w (ZnQ w n Z p):=by
 obtain ⟨pb,hpb⟩:∃ b,prB p=b:=⟨_,rfl⟩
 refine Zbi (Φ:=fun w=>ArgI w A0 n R C Z) Tryz.func63 rfl (by kernel_rfl) (fun w' hf=>ha.ext hf) ?_
 refine Zac (Zab (xr 2 [eS1 0 A0 n c0,(1, .v (.int .i64 p)),eS1 4 none 0 0,(5, .v (.int .i64 0))] [] ?_))
 refine xe (Zaa (Zac (Zac (Zab (xr 1 [eS1 0 A0 n c0,eS1 4 none 0 0,(5, .v (.int .i64 0)),(7, .v (.int .i64 p))] [] ?_)))))
 refine xc 125 [.int .i64 p] 8 (fun _:Unit=>.bool pb) _ (fun w S Q=>(ZjH p _ hpb).mono (fun _ _ h=>Zau h rfl)) (fun xx=>?_)
 rcases pb with _ | _
 ·refine xr 1 [eS1 0 A0 n c0,eS1 4 none 0 0,(5, .v (.int .i64 0)),(9, .v (.bool true))] [] ?_
  refine xe (Zaa (xa (Zac (Zab (xr 2 [eS1 0 A0 n c0,eS1 4 none 0 0,(5, .v (.int .i64 1))] [] ?_)))))
  refine xe (Zaa (Zao (Zag ?_)))
  refine Zak (v:=.tuple #[.slice none 0 0, .int .i64 1]) (by kernel_rfl) (fun w' S Q=>?_)
  exact ⟨⟨_,_, .bad hpb⟩,rfl,S⟩
 ·refine xr 1 [eS1 0 A0 n c0,eS1 4 none 0 0,(5, .v (.int .i64 0)),(9, .v (.bool false))] [] ?_
  refine xe (Zaa (xb (Zam (Zaa (Zac (Zac (Zab (xr 4 [eS1 0 A0 n c0,eS1 4 none 0 0,(5, .v (.int .i64 0)),(13, .v (.bool ((((n:Nat):Int):Int) == 0)))] [] ?_))))))))
  rcases bl2 (((((n:Nat):Int):Int) == 0)) with hb10 | hb10
  ·rw [hb10]
   have hn:n=0:=z_eq hb10
   refine xr 6 [eS1 0 A0 n c0,eS1 4 none 0 0,(5, .v (.int .i64 0)),(19, .v (.bool true))] [] ?_
   refine xe (Zaa (xa (Zac (Zab (xr 2 [eS1 0 A0 n c0,eS1 4 none 0 0,(5, .v (.int .i64 4))] [] ?_)))))
   refine xe (Zaa (Zao (Zag ?_)))
   refine Zak (v:=.tuple #[.slice none 0 0, .int .i64 4]) (by kernel_rfl) (fun w' S Q=>?_)
   exact ⟨⟨_,_, .empty hpb hn⟩,rfl,S⟩
  ·rw [hb10]
   have hn:n≠0:=z_ne hb10
   refine xr 1 [eS1 0 A0 n c0,eS1 4 none 0 0,(5, .v (.int .i64 0)),(13, .v (.bool false)),eS1 14 A0 n c0] [] ?_
   refine xk 15 (atA A0 0) (fun w hE' Q=>Zbr (t:=22) (e:=23) (x:=.tmp 14) (ix:=(.const (.int .i64 0))) (i:=0) (cap:=c0) Q.1 (by omega)) ?_
   refine xk 16 (.slice (R 0) (Z 0).length (C 0)) (fun w hE' Q=>Zbs (t:=23) (x:=.tmp 15) (i:=0) Q.1 (by omega) rfl) ?_
   refine xr 3 [eS1 0 A0 n c0,eS1 4 none 0 0,(5, .v (.int .i64 0)),(19, .v (.bool (((((Z 0).length:Nat):Int):Int) == 0)))] [] ?_
   refine xe (Zaa ?_)
   refine Zar ((((((Z 0).length:Nat):Int):Int) == 0)) (by kernel_rfl) (fun hb11=>?_) (fun hb11=>?_)
   ·have hz:(Z 0).length=0:=z_eq hb11
    refine Zac (Zab (xr 2 [eS1 0 A0 n c0,eS1 4 none 0 0,(5, .v (.int .i64 4))] [] ?_))
    refine xe (Zaa (Zao (Zag ?_)))
    refine Zak (v:=.tuple #[.slice none 0 0, .int .i64 4]) (by kernel_rfl) (fun w' S Q=>?_)
    exact ⟨⟨_,_, .zero hpb (by omega) hz⟩,rfl,S⟩
   ·have hz:(Z 0).length≠0:=z_ne hb11
    refine Zam (Zaa (Zac (Zac (Zab (xr 1 [eS1 0 A0 n c0,eS1 4 none 0 0,(5, .v (.int .i64 0)),(6, .v (.int .i64 0))] [] ?_)))))
    refine xe (Zaa (Zap ?_))
    refine SXc.weak [(0, .v (.slice A0 n c0)),(4, .v (.slice none 0 0)),(5, .v (.int .i64 0)),(6, .v (.int .i64 ((0:Nat):Int)))] [] (Ψ:=fun w=>ArgI w A0 n R C Z) (Zaw.of (by kernel_rfl)) (by kernel_rfl) (fun w Q=>Q.1) ?_
    refine ZaU (fun nn ss ff=>∃ (k:Nat),ss=ofL [(0, .v (.slice A0 n c0)),(4, .v (.slice none 0 0)),(5, .v (.int .i64 0)),(6, .v (.int .i64 ((k:Nat):Int)))] []∧ff=(fun w=>ArgI w A0 n R C Z)∧(k≤n)∧(∀ i,i < k→(Z i).length=(Z 0).length)∧nn=(n - k)) ((n - 0)) ⟨0,rfl,rfl,Nat.zero_le _,fun i hi=>absurd hi (by omega),rfl⟩ ?_
    rintro nn ss ff ⟨k,rfl,rfl,hk,hev,rfl⟩
    refine Zac (Zac (Zab (xr 4 [eS1 0 A0 n c0,eS1 4 none 0 0,(5, .v (.int .i64 0)),(6, .v (.int .i64 ((k:Nat):Int))),(23, .v (.bool (decide (((k:Nat):Int) < ((n:Nat):Int)))))] [] ?_)))
    refine xe (Zaa ?_)
    refine Zar ((decide (((k:Nat):Int) < ((n:Nat):Int)))) (by kernel_rfl) (fun hb12=>?_) (fun hb12=>?_)
    ·have hkn:k < n:=by have:=of_decide_eq_true hb12; omega
     refine Zam (Zaa (Zac (Zap (Zac ?_))))
     refine Zej 10 (by kernel_rfl) (by kernel_rfl) ZaE ?_
     refine xf 2 [eS1 0 A0 n c0,eS1 4 none 0 0,(5, .v (.int .i64 0)),(6, .v (.int .i64 ((k:Nat):Int))),eS1 26 A0 n c0,(27, .v (.int .i64 ((k:Nat):Int)))] [] ?_
     refine xj 28 (atA A0 k) (fun w Q=>Zbr (t:=22) (e:=23) (x:=.tmp 26) (ix:=(.tmp 27)) (i:=k) (cap:=c0) Q (by omega)) ?_
     refine xj 29 (.slice (R k) (Z k).length (C k)) (fun w Q=>Zbs (t:=23) (x:=.tmp 28) (i:=k) Q (by omega) rfl) ?_
     refine xf 2 [eS1 0 A0 n c0,eS1 4 none 0 0,(5, .v (.int .i64 0)),(6, .v (.int .i64 ((k:Nat):Int))),(30, .v (.int .i64 (((Z k).length:Nat):Int))),eS1 31 A0 n c0] [] ?_
     refine xj 32 (atA A0 0) (fun w Q=>Zbr (t:=22) (e:=23) (x:=.tmp 31) (ix:=(.const (.int .i64 0))) (i:=0) (cap:=c0) Q (by omega)) ?_
     refine xj 33 (.slice (R 0) (Z 0).length (C 0)) (fun w Q=>Zbs (t:=23) (x:=.tmp 32) (i:=0) Q (by omega) rfl) ?_
     refine xf 2 [eS1 0 A0 n c0,eS1 4 none 0 0,(5, .v (.int .i64 0)),(6, .v (.int .i64 ((k:Nat):Int))),(35, .v (.bool (((((Z k).length:Nat):Int):Int) != (((Z 0).length:Nat):Int))))] [] ?_
     refine xz (xe (Zaa ?_))
     refine Zar ((((((Z k).length:Nat):Int):Int) != (((Z 0).length:Nat):Int))) (by kernel_rfl) (fun hb13=>?_) (fun hb13=>?_)
     ·have hk2:=ZcY hb13
      refine Zac (Zab (xr 2 [eS1 0 A0 n c0,eS1 4 none 0 0,(5, .v (.int .i64 4)),(6, .v (.int .i64 ((k:Nat):Int)))] [] ?_))
      refine xe (Zaa (Zao (ZaZ (Zag (Zag (ZaZ (Zag ?_)))))))
      refine Zak (v:=.tuple #[.slice none 0 0, .int .i64 4]) (by kernel_rfl) (fun w' S Q=>?_)
      exact ⟨⟨_,_, .uneven k hpb (by omega) hz hkn hk2⟩,rfl,S⟩
     ·have hk2:=ZcZ hb13
      refine Zam (ZaN (Zaa (Zab (xr 2 [eS1 0 A0 n c0,eS1 4 none 0 0,(5, .v (.int .i64 0)),(6, .v (.int .i64 ((k:Nat):Int))),(25, .v (.int .i64 (IntKind.i64.wrap (((k:Nat):Int) + 1))))] [] ?_))))
      rw [ZaI (k:=k) (by omega)]
      refine xr 1 [eS1 0 A0 n c0,eS1 4 none 0 0,(5, .v (.int .i64 0)),(6, .v (.int .i64 ((k + 1:Nat):Int)))] [] ?_
      refine xe ?_
      refine SXq.weak [(0, .v (.slice A0 n c0)),(4, .v (.slice none 0 0)),(5, .v (.int .i64 0)),(6, .v (.int .i64 (((k + 1):Nat):Int)))] [] (Ψ:=fun w=>ArgI w A0 n R C Z) (Zaw.of (by kernel_rfl)) (by kernel_rfl) (fun w Q=>Q) ?_
      exact ZaB ((n - (k + 1))) (by omega) ⟨(k + 1),rfl,rfl,(by omega),(fun i hi=>by rcases Nat.lt_or_ge i k with h3 | h3; exact hev i h3; obtain rfl:i=k:=(by omega); exact hk2),rfl⟩
    ·have hkn:n≤k:=by have:=of_decide_eq_false hb12; omega
     refine ZaC (Zae (Zae (ZaO (Zaa (Zac (Zab (xr 3 [eS1 4 A0 n c0,(5, .v (.int .i64 0))] [] ?_)))))))
     refine xe (Zaa (Zao ?_))
     refine Zak (v:=.tuple #[.slice A0 n c0, .int .i64 0]) (by kernel_rfl) (fun w' S Q=>?_)
     exact ⟨⟨_,_, .ok hpb (by omega) hz (fun i hi=>hev i (by omega))⟩,rfl,S⟩
end Go.Proofs.YthlipnahcbcjkaaGreatDoor

namespace Go.Proofs.YthlipnahcbcjkaaGreatDoor
open Go.RowKit
theorem ShpIs.okk {n:Nat} {Z:Nat→List Int} {p c:Int} (h:ShpIs n Z p c) (h0:c=0):prB p=true∧0 < n∧(Z 0).length≠0∧∀ i,i < n→(Z i).length=(Z 0).length:=by
 cases h with
 | ok h hn hz he=>exact ⟨h,hn,hz,he⟩
 | _=>exact absurd h0 (by decide)
instance {n:Nat} {p:Int} {Z:Nat→List Int}:Nonempty (RsX n p Z):=⟨⟨0,fun _=>none,fun _=>0,fun i=>redL p (Z i),fun _ _=>rfl⟩⟩
theorem Zpt {k:IntKind} {te tr:TypeId} {w0 w w':World} {n:Nat} {p:Int} {Z:Nat→List Int} {e:Ending} (Q:Ext w0 w) (h:Zkv w n p Z k te tr e w'):Zcy (fun x:RsX n p Z=>.slice (some ⟨x.b,0,none⟩) n n) (fun x v=>MatO k te tr v x.b n ⟨x.A,x.C,x.X⟩∧∀ g,MatB x.b n ⟨x.A,x.C,x.X⟩ g→w0.heap.size≤g) w e w':=by
 obtain ⟨b,A,C,X,rfl,h1,h2,h3,h4⟩:=h
 exact ⟨⟨b,A,C,X,h4⟩,rfl,h1,fun S hS w'' hF=>⟨h2.fr hF (fun g hg hs=>by have:=(hS g hs).1; have:=h3 g hg; omega),fun g hg=>Nat.le_trans Q.size (h3 g hg)⟩⟩
structure ReX (p n m cols:Nat) (X0:Nat→List Nat) where
 c:Nat
 r:Nat
 d:Nat
 A:Nat→Option Addr
 C:Nat→Nat
 X:Nat→List Nat
 hR:RRun p n m X0 c X r d
 hc:c≤cols
 he:c=cols∨n≤r
 hB:ElB p n m X r d
theorem Ziq {Γ:World→Prop} {w0 w w':World} {b n m cols P:Nat} {A:Nat→Option Addr} {C:Nat→Nat} {X:Nat→List Nat} {e:Ending} (hΓ:OldG Γ w0) (hg:ResI .i64 3 23 Γ w0 w b n A C X) (Q:Ext w0 w) (h:ZoT w b n m cols P A C X e w'):∃ x:ReX P n m cols X,e=.returned (.tuple #[.int .i64 ((x.r:Nat):Int), .int .i64 ((x.d:Nat):Int)])∧Ext w0 w'∧∀ w'',Ext w' w''→ResI .i64 3 23 Γ w0 w'' b n x.A x.C x.X:=by
 obtain ⟨c,r,d,A',C',X',rfl,h1,h2,h3,h4,h5,h6,h7⟩:=h
 have h0:Ext w0 w':=Q.next h1 (fun g hg2 hg3=>by have:=hg.new g hg3; omega)
 refine ⟨⟨c,r,d,A',C',X',h2,h3,h4,h5⟩,rfl,h0,fun w'' hw=>⟨hΓ.step h0 (hΓ w w' _ Q hg.arg h1 hg.new) hw,h7.ext hw,fun g hg2=>?_⟩⟩
 rcases hg2 with rfl | ⟨i,hi,hg2⟩
 ·exact hg.new _ (Or.inl rfl)
 ·obtain ⟨j,hj,e⟩:=h6 i hi
  exact hg.new g (Or.inr ⟨j,hj,by show Zad (A j) g; rw [← e]; exact hg2⟩)
inductive RkIs (n:Nat) (Z:Nat→List Int) (p:Int):Int→Int→Prop
 | err (c:Int) (hc:ShpIs n Z p c) (h0:c≠0):RkIs n Z p 0 c
 | lim (hc:ShpIs n Z p 0) (hl:64 < n∨64 < (Z 0).length):RkIs n Z p 0 2
 | ok (P m:Nat) (X0 X:Nat→List Nat) (c r d:Nat) (hc:ShpIs n Z p 0) (hl:n≤64) (hl2:(Z 0).length≤64) (hm:m=(Z 0).length) (hp:p=(P:Int)) (hX:∀ i,i < n→X0 i=redL p (Z i)) (hR:RRun P n m X0 c X r d) (hcm:c≤m) (he:c=m∨n≤r):RkIs n Z p ((r:Nat):Int) 0
def Zqc (w:World) (n:Nat) (Z:Nat→List Int) (p:Int) (e:Ending) (w':World):Prop:=∃ r c:Int,e=.returned (.tuple #[.int .i64 r, .int .i64 c])∧RkIs n Z p r c∧Ext w w'
inductive RankIs (n:Nat) (Z:Nat→List Int) (p:Int):Int→Int→Prop
 | err (c:Int) (hc:ChkIs n Z p false c) (h0:c≠0):RankIs n Z p 0 c
 | ok (P m:Nat) (X0 X:Nat→List Nat) (r d:Nat) (hc:ChkIs n Z p false 0) (hm:m=(Z 0).length) (hp:p=(P:Int)) (hX:∀ i,i < n→X0 i=redL p (Z i)) (hR:ElRun P n m X0 m X r d):RankIs n Z p ((r:Nat):Int) 0
def Zpu (w:World) (n:Nat) (Z:Nat→List Int) (p:Int) (e:Ending) (w':World):Prop:=∃ r c:Int,e=.returned (.tuple #[.int .i64 r, .int .i64 c])∧RankIs n Z p r c∧Ext w w'
inductive RdIs (n:Nat) (Z:Nat→List Int) (p:Int):Int→Int→Prop
 | err (c:Int) (hc:ShpIs n Z p c) (h0:c≠0):RdIs n Z p 0 c
 | nosq (hc:ShpIs n Z p 0) (hs:n≠(Z 0).length):RdIs n Z p 0 4
 | lim (hc:ShpIs n Z p 0) (hs:n=(Z 0).length) (hl:64 < n):RdIs n Z p 0 2
 | low (P:Nat) (X0 X:Nat→List Nat) (c r d:Nat) (hc:ShpIs n Z p 0) (hs:n=(Z 0).length) (hl:n≤64) (hp:p=(P:Int)) (hX:∀ i,i < n→X0 i=redL p (Z i)) (hR:RRun P n n X0 c X r d) (hcm:c≤n) (he:c=n∨n≤r) (hr:r < n):RdIs n Z p 0 0
 | full (P:Nat) (X0 X:Nat→List Nat) (c r d:Nat) (hc:ShpIs n Z p 0) (hs:n=(Z 0).length) (hl:n≤64) (hp:p=(P:Int)) (hX:∀ i,i < n→X0 i=redL p (Z i)) (hR:RRun P n n X0 c X r d) (hcm:c≤n) (he:c=n∨n≤r) (hr:¬ r < n):RdIs n Z p ((d % P:Nat):Int) 0
def Zqd (w:World) (n:Nat) (Z:Nat→List Int) (p:Int) (e:Ending) (w':World):Prop:=∃ r c:Int,e=.returned (.tuple #[.int .i64 r, .int .i64 c])∧RdIs n Z p r c∧Ext w w'
theorem Zlu (A0:Option Addr) (n c0:Nat) (R:Nat→Option Addr) (C:Nat→Nat) (Z:Nat→List Int) (p:Int) (W0:World) (ha:ArgI W0 A0 n R C Z) (hn1:n≤100000) :
 Calls Tryz.prog 15 #[.slice A0 n c0, .int .i64 p] W0 (Zpu W0 n Z p):=by
 refine Zbi (Φ:=fun w=>ArgI w A0 n R C Z) Tryz.func15 rfl (by kernel_rfl) (fun w' hf=>ha.ext hf) ?_
 refine Zac (Zab (xr 2 [eS1 0 A0 n c0,(1, .v (.int .i64 p)),(4, .v (.int .i64 0)),(5, .v (.int .i64 0))] [] ?_))
 refine xe (Zaa (Zac (Zac (Zab (xr 2 [eS1 0 A0 n c0,(1, .v (.int .i64 p)),(4, .v (.int .i64 0)),(5, .v (.int .i64 0)),eS1 10 A0 n c0,(11, .v (.int .i64 p))] [] ?_)))))
 refine xc 59 [.slice A0 n c0, .int .i64 p, .bool false] 12 (fun c:{c:Int // ChkIs n Z p false c}=>.int .i64 c.1) _ (fun w S Q=>(ZnC A0 n c0 R C Z p _ Q (by omega)).mono (fun _ _=>Zin)) (fun xx=>?_)
 obtain ⟨c,hc⟩:=xx
 refine xr 1 [eS1 0 A0 n c0,(1, .v (.int .i64 p)),(4, .v (.int .i64 0)),(5, .v (.int .i64 0)),(6, .v (.int .i64 c))] [] ?_
 refine xe (Zaa (Zac (Zab (xr 2 [eS1 0 A0 n c0,(1, .v (.int .i64 p)),(4, .v (.int .i64 0)),(5, .v (.int .i64 0)),(6, .v (.int .i64 c)),(14, .v (.bool ((c:Int) != 0)))] [] ?_))))
 refine xe (Zaa ?_)
 refine Zar (((c:Int) != 0)) (by kernel_rfl) (fun hb10=>?_) (fun hb10=>?_)
 ·have hc0:=Zgo hb10
  refine Zac (Zab (xr 3 [eS1 0 A0 n c0,(1, .v (.int .i64 p)),(4, .v (.int .i64 0)),(5, .v (.int .i64 c))] [] ?_))
  refine xe (Zaa (Zao (Zag ?_)))
  refine Zak (v:=.tuple #[.int .i64 0, .int .i64 c]) (by kernel_rfl) (fun w' S Q=>?_)
  exact ⟨_,_,rfl, .err c hc hc0,S⟩
 ·have hc0:=Zgp hb10
  refine Zam (Zaa (Zac ?_))
  obtain ⟨hpb,hn0,hz,hs,hev,hn64,hz64⟩:=hc.okk hc0
  obtain ⟨P,rfl,hP2,hP31,hPr⟩:=ZbW hpb
  obtain ⟨m,hmn⟩:∃ m,m=(Z 0).length:=⟨_,rfl⟩
  have hmm:∀ i,i < n→(Z i).length=m:=fun i hi=>by rw [hev i hi,hmn]
  refine Zab (xr 2 [eS1 0 A0 n c0,(1, .v (.int .i64 ((P:Nat):Int))),(4, .v (.int .i64 0)),(5, .v (.int .i64 0)),eS1 16 A0 n c0,(17, .v (.int .i64 ((P:Nat):Int)))] [] ?_)
  refine Zbk (d:=18) 61 [.slice A0 n c0, .int .i64 ((P:Nat):Int)] (fun x:RsX n ((P:Nat):Int) Z=>.slice (some ⟨x.b,0,none⟩) n n) (fun x w=>ResI .u64 88 93 (fun w=>ArgI w A0 n R C Z) W0 w x.b n (x.A) (x.C) (x.X)) (fun w hE' Q=>(Zd8 A0 n m c0 R C Z ((P:Nat):Int) w Q.1 (by omega) (by omega) hmm (by omega) (by omega)).mono (fun _ _ h=>Zeo (ZcI ha) Q.1 hE' h)) (fun x=>?_)
  obtain ⟨b,A,C1,X,hX⟩:=x
  refine xr 1 [eS1 0 A0 n c0,(1, .v (.int .i64 ((P:Nat):Int))),(4, .v (.int .i64 0)),(5, .v (.int .i64 0)),eS1 7 (some ⟨b,0,none⟩) n n] [] ?_
  refine xe (Zaa (Zac (Zab (xr 2 [(1, .v (.int .i64 ((P:Nat):Int))),(4, .v (.int .i64 0)),(5, .v (.int .i64 0)),eS1 20 (some ⟨b,0,none⟩) n n,eS1 21 A0 n c0] [] ?_))))
  refine xk 22 (atA A0 0) (fun w hE' Q=>Zbr (t:=22) (e:=23) (x:=.tmp 21) (ix:=(.const (.int .i64 0))) (i:=0) (cap:=c0) Q.arg (by omega)) ?_
  refine xk 23 (.slice (R 0) m (C 0)) (fun w hE' Q=>Zbs (t:=23) (x:=.tmp 22) (i:=0) Q.arg (by omega) (hmm 0 (by omega))) ?_
  refine xr 3 [(4, .v (.int .i64 0)),(5, .v (.int .i64 0)),eS1 20 (some ⟨b,0,none⟩) n n,(24, .v (.int .i64 ((m:Nat):Int))),(26, .v (.int .u64 (IntKind.u64.wrap (((P:Nat):Int)))))] [] ?_
  rw [Zf0 hP31]
  refine Zbk (d:=27) 60 [.slice (some ⟨b,0,none⟩) n n, .int .i64 ((m:Nat):Int), .int .u64 ((P:Nat):Int)] (fun x:ElX P n (m) m (X)=>.tuple #[.int .i64 ((x.r:Nat):Int), .int .u64 ((x.d:Nat):Int)]) (fun x w=>ResI .u64 88 93 (fun w=>ArgI w A0 n R C Z) W0 w b n (x.A) (x.C) (x.X)) (fun w hE' Q=>(ZdD b n (m) m P (A) (C1) (X) w Q.mat (by omega) (by omega) (by omega) (by omega) (by omega) (Zep rfl hP2 hX hmm)).mono (fun _ _ h=>ZhA (ZcI ha) Q hE' h)) (fun x=>?_)
  obtain ⟨r,d,A',C',X',hR,hB⟩:=x
  refine xr 5 [(4, .v (.int .i64 0)),(5, .v (.int .i64 0)),(8, .v (.int .i64 ((r:Nat):Int)))] [] ?_
  refine xe (Zaa (Zac (Zab (xr 3 [(4, .v (.int .i64 ((r:Nat):Int))),(5, .v (.int .i64 0))] [] ?_))))
  refine xe (Zaa (Zao ?_))
  refine Zak (v:=.tuple #[.int .i64 ((r:Nat):Int), .int .i64 0]) (by kernel_rfl) (fun w' S Q=>?_)
  exact ⟨_,_,rfl, .ok P m X X' r d (hc0 ▸ hc) hmn rfl hX hR,S⟩
theorem Zh1 (A0:Option Addr) (n c0:Nat) (R:Nat→Option Addr) (C:Nat→Nat) (Z:Nat→List Int) (p:Int) (W0:World) (ha:ArgI W0 A0 n R C Z) (hn1:n≤100000) :
 Calls Tryz.prog 16 #[.slice A0 n c0, .int .i64 p] W0 (Zqc W0 n Z p):=by
 refine Zbi (Φ:=fun w=>ArgI w A0 n R C Z) Tryz.func16 rfl (by kernel_rfl) (fun w' hf=>ha.ext hf) ?_
 refine Zac (Zab (xr 2 [eS1 0 A0 n c0,(1, .v (.int .i64 p)),(4, .v (.int .i64 0)),(5, .v (.int .i64 0))] [] ?_))
 refine xe (Zaa (Zac (Zab (xr 2 [eS1 0 A0 n c0,(1, .v (.int .i64 p)),(4, .v (.int .i64 0)),(5, .v (.int .i64 0)),eS1 11 A0 n c0,(12, .v (.int .i64 p))] [] ?_))))
 refine xc 63 [.slice A0 n c0, .int .i64 p] 13 (fun x:ShX n Z p=>.tuple #[x.v, .int .i64 x.c]) _ (fun w S Q=>(Zhd A0 n c0 R C Z p _ Q (by omega)).mono (fun _ _=>Zip)) (fun xx=>?_)
 obtain ⟨vv,c,hc⟩:=xx
 refine xr 5 [eS1 0 A0 n c0,(1, .v (.int .i64 p)),(4, .v (.int .i64 0)),(5, .v (.int .i64 0)),(7, .v (.int .i64 c))] [] ?_
 refine xe (Zaa (Zac (Zac (Zab (xr 2 [eS1 0 A0 n c0,(1, .v (.int .i64 p)),(4, .v (.int .i64 0)),(5, .v (.int .i64 0)),(7, .v (.int .i64 c)),(17, .v (.bool ((c:Int) != 0)))] [] ?_)))))
 refine xe (Zaa ?_)
 refine Zar (((c:Int) != 0)) (by kernel_rfl) (fun hb10=>?_) (fun hb10=>?_)
 ·have hc0:=Zgo hb10
  refine Zac (Zab (xr 3 [eS1 0 A0 n c0,(1, .v (.int .i64 p)),(4, .v (.int .i64 0)),(5, .v (.int .i64 c))] [] ?_))
  refine xe (Zaa (Zao (Zag ?_)))
  refine Zak (v:=.tuple #[.int .i64 0, .int .i64 c]) (by kernel_rfl) (fun w' S Q=>?_)
  exact ⟨_,_,rfl, .err c hc hc0,S⟩
 ·have hc0:=Zgp hb10
  refine Zam (Zaa (Zac (Zac ?_)))
  obtain ⟨hpb,hn0,hz,hev⟩:=hc.okk hc0
  refine Zab (xr 4 [eS1 0 A0 n c0,(1, .v (.int .i64 p)),(4, .v (.int .i64 0)),(5, .v (.int .i64 0)),(22, .v (.bool (decide (((n:Nat):Int) > 64))))] [] ?_)
  rcases bl2 ((decide (((n:Nat):Int) > 64))) with hb11 | hb11
  ·rw [hb11]
   have hl1:64 < n:=by have:=of_decide_eq_true hb11; omega
   refine xr 6 [eS1 0 A0 n c0,(1, .v (.int .i64 p)),(4, .v (.int .i64 0)),(5, .v (.int .i64 0)),(28, .v (.bool true))] [] ?_
   refine xe (Zaa (xa (Zac (Zab (xr 2 [eS1 0 A0 n c0,(1, .v (.int .i64 p)),(4, .v (.int .i64 0)),(5, .v (.int .i64 2))] [] ?_)))))
   refine xe (Zaa (Zao (Zag ?_)))
   refine Zak (v:=.tuple #[.int .i64 0, .int .i64 2]) (by kernel_rfl) (fun w' S Q=>?_)
   exact ⟨_,_,rfl, .lim (hc0 ▸ hc) (Or.inl hl1),S⟩
  ·rw [hb11]
   have hl1:n≤64:=by have:=of_decide_eq_false hb11; omega
   refine xr 1 [eS1 0 A0 n c0,(1, .v (.int .i64 p)),(4, .v (.int .i64 0)),(5, .v (.int .i64 0)),(22, .v (.bool false)),eS1 23 A0 n c0] [] ?_
   refine xk 24 (atA A0 0) (fun w hE' Q=>Zbr (t:=22) (e:=23) (x:=.tmp 23) (ix:=(.const (.int .i64 0))) (i:=0) (cap:=c0) Q.1 (by omega)) ?_
   refine xk 25 (.slice (R 0) (Z 0).length (C 0)) (fun w hE' Q=>Zbs (t:=23) (x:=.tmp 24) (i:=0) Q.1 (by omega) rfl) ?_
   refine xr 3 [eS1 0 A0 n c0,(1, .v (.int .i64 p)),(4, .v (.int .i64 0)),(5, .v (.int .i64 0)),(28, .v (.bool (decide ((((Z 0).length:Nat):Int) > 64))))] [] ?_
   refine xe (Zaa ?_)
   refine Zar ((decide ((((Z 0).length:Nat):Int) > 64))) (by kernel_rfl) (fun hb12=>?_) (fun hb12=>?_)
   ·have hl2:64 < (Z 0).length:=by have:=of_decide_eq_true hb12; omega
    refine Zac (Zab (xr 2 [eS1 0 A0 n c0,(1, .v (.int .i64 p)),(4, .v (.int .i64 0)),(5, .v (.int .i64 2))] [] ?_))
    refine xe (Zaa (Zao (Zag ?_)))
    refine Zak (v:=.tuple #[.int .i64 0, .int .i64 2]) (by kernel_rfl) (fun w' S Q=>?_)
    exact ⟨_,_,rfl, .lim (hc0 ▸ hc) (Or.inr hl2),S⟩
   ·have hl2:(Z 0).length≤64:=by have:=of_decide_eq_false hb12; omega
    refine Zam (Zaa (Zac ?_))
    obtain ⟨P,rfl,hP2,hP31,hPr⟩:=ZbW hpb
    obtain ⟨m,hmn⟩:∃ m,m=(Z 0).length:=⟨_,rfl⟩
    have hmm:∀ i,i < n→(Z i).length=m:=fun i hi=>by rw [hev i hi,hmn]
    refine Zop 8 8 ?_
    refine xf 2 [eS1 0 A0 n c0,(1, .v (.int .i64 ((P:Nat):Int))),(4, .v (.int .i64 0)),(5, .v (.int .i64 0)),eS1 30 A0 n c0,(31, .v (.int .i64 ((P:Nat):Int)))] [] ?_
    refine xd 65 [.slice A0 n c0, .int .i64 ((P:Nat):Int)] 32 (fun x:RsX n ((P:Nat):Int) Z=>.slice (some ⟨x.b,0,none⟩) n n) _ (fun w S Q=>(Zea A0 n m c0 R C Z P _ Q.1 (by omega) (by omega) hmm (by omega) (by omega)).mono (fun _ _ h=>Zpt S h)) (fun xx=>?_)
    obtain ⟨b,A,C1,X,hX⟩:=xx
    refine xf 1 [(1, .v (.int .i64 ((P:Nat):Int))),(4, .v (.int .i64 0)),(5, .v (.int .i64 0)),eS1 32 (some ⟨b,0,none⟩) n n,eS1 33 A0 n c0] [] ?_
    refine xj 34 (atA A0 0) (fun w Q=>Zbr (t:=22) (e:=23) (x:=.tmp 33) (ix:=(.const (.int .i64 0))) (i:=0) (cap:=c0) Q.1 (by omega)) ?_
    refine xj 35 (.slice (R 0) m (C 0)) (fun w Q=>Zbs (t:=23) (x:=.tmp 34) (i:=0) Q.1 (by omega) (hmm 0 (by omega))) ?_
    refine xf 2 [(4, .v (.int .i64 0)),(5, .v (.int .i64 0)),eS1 32 (some ⟨b,0,none⟩) n n,(36, .v (.int .i64 ((m:Nat):Int))),(37, .v (.int .i64 ((P:Nat):Int)))] [] ?_
    refine xz ?_
    refine Zbk (d:=38) 64 [.slice (some ⟨b,0,none⟩) n n, .int .i64 ((m:Nat):Int), .int .i64 ((P:Nat):Int)] (fun x:ReX P n (m) m X=>.tuple #[.int .i64 ((x.r:Nat):Int), .int .i64 ((x.d:Nat):Int)]) (fun x w=>ResI .i64 3 23 (fun w=>ArgI w A0 n R C Z) W0 w b n (x.A) (x.C) (x.X)) (fun w hE' Q=>(Zgw b n (m) m P A C1 X w (show ResI .i64 3 23 (fun w=>ArgI w A0 n R C Z) W0 w b n (A) (C1) (X) from ⟨Q.1.1,Q.2.1,Q.2.2⟩).mat (by omega) (by omega) (by omega) hPr (by omega) (by omega) (Zep rfl hP2 hX hmm)).mono (fun _ _ h=>Ziq (ZcI ha) (show ResI .i64 3 23 (fun w=>ArgI w A0 n R C Z) W0 w b n (A) (C1) (X) from ⟨Q.1.1,Q.2.1,Q.2.2⟩) hE' h)) (fun x=>?_)
    obtain ⟨cc,r,d,A',C',X',hR,hcc,hend,hB⟩:=x
    refine xr 5 [(4, .v (.int .i64 0)),(5, .v (.int .i64 0)),(8, .v (.int .i64 ((r:Nat):Int)))] [] ?_
    refine xe (Zaa (Zac (Zab (xr 3 [(4, .v (.int .i64 ((r:Nat):Int))),(5, .v (.int .i64 0))] [] ?_))))
    refine xe (Zaa (Zao ?_))
    refine Zak (v:=.tuple #[.int .i64 ((r:Nat):Int), .int .i64 0]) (by kernel_rfl) (fun w' S Q=>?_)
    exact ⟨_,_,rfl, .ok P m X X' cc r d (hc0 ▸ hc) hl1 hl2 hmn rfl hX hR hcc hend,S⟩
theorem Zjd (A0:Option Addr) (n c0:Nat) (R:Nat→Option Addr) (C:Nat→Nat) (Z:Nat→List Int) (p:Int) (W0:World) (ha:ArgI W0 A0 n R C Z) (hn1:n≤100000) :
 Calls Tryz.prog 17 #[.slice A0 n c0, .int .i64 p] W0 (Zqd W0 n Z p):=by
 refine Zbi (Φ:=fun w=>ArgI w A0 n R C Z) Tryz.func17 rfl (by kernel_rfl) (fun w' hf=>ha.ext hf) ?_
 refine Zac (Zab (xr 2 [eS1 0 A0 n c0,(1, .v (.int .i64 p)),(4, .v (.int .i64 0)),(5, .v (.int .i64 0))] [] ?_))
 refine xe (Zaa (Zac (Zab (xr 2 [eS1 0 A0 n c0,(1, .v (.int .i64 p)),(4, .v (.int .i64 0)),(5, .v (.int .i64 0)),eS1 11 A0 n c0,(12, .v (.int .i64 p))] [] ?_))))
 refine xc 63 [.slice A0 n c0, .int .i64 p] 13 (fun x:ShX n Z p=>.tuple #[x.v, .int .i64 x.c]) _ (fun w S Q=>(Zhd A0 n c0 R C Z p _ Q (by omega)).mono (fun _ _=>Zip)) (fun xx=>?_)
 obtain ⟨vv,c,hc⟩:=xx
 refine xr 5 [eS1 0 A0 n c0,(1, .v (.int .i64 p)),(4, .v (.int .i64 0)),(5, .v (.int .i64 0)),(7, .v (.int .i64 c))] [] ?_
 refine xe (Zaa (Zac (Zap (Zac (Zab (xr 3 [eS1 0 A0 n c0,(1, .v (.int .i64 p)),(4, .v (.int .i64 0)),(5, .v (.int .i64 0)),(7, .v (.int .i64 c)),(16, .v (.bool ((c:Int) != 0)))] [] ?_))))))
 refine xe (Zaa ?_)
 refine Zar (((c:Int) != 0)) (by kernel_rfl) (fun hb10=>?_) (fun hb10=>?_)
 ·have hc0:=Zgo hb10
  refine Zac (Zab (xr 3 [eS1 0 A0 n c0,(1, .v (.int .i64 p)),(4, .v (.int .i64 0)),(5, .v (.int .i64 c))] [] ?_))
  refine xe (Zaa (Zao (ZaZ (Zag ?_))))
  refine Zak (v:=.tuple #[.int .i64 0, .int .i64 c]) (by kernel_rfl) (fun w' S Q=>?_)
  exact ⟨_,_,rfl, .err c hc hc0,S⟩
 ·have hc0:=Zgp hb10
  refine Zac ?_
  obtain ⟨hpb,hn0,hz,hev⟩:=hc.okk hc0
  refine Zab (xr 3 [eS1 0 A0 n c0,(1, .v (.int .i64 p)),(4, .v (.int .i64 0)),(5, .v (.int .i64 0)),(22, .v (.int .i64 ((n:Nat):Int))),eS1 23 A0 n c0] [] ?_)
  refine xk 24 (atA A0 0) (fun w hE' Q=>Zbr (t:=22) (e:=23) (x:=.tmp 23) (ix:=(.const (.int .i64 0))) (i:=0) (cap:=c0) Q.1 (by omega)) ?_
  refine xk 25 (.slice (R 0) (Z 0).length (C 0)) (fun w hE' Q=>Zbs (t:=23) (x:=.tmp 24) (i:=0) Q.1 (by omega) rfl) ?_
  refine xr 3 [eS1 0 A0 n c0,(1, .v (.int .i64 p)),(4, .v (.int .i64 0)),(5, .v (.int .i64 0)),(20, .v (.bool ((((n:Nat):Int):Int) != (((Z 0).length:Nat):Int))))] [] ?_
  refine xe (Zaa ?_)
  refine Zar (((((n:Nat):Int):Int) != (((Z 0).length:Nat):Int))) (by kernel_rfl) (fun hb11=>?_) (fun hb11=>?_)
  ·have hs:=ZcY hb11
   refine Zac (Zab (xr 2 [eS1 0 A0 n c0,(1, .v (.int .i64 p)),(4, .v (.int .i64 0)),(5, .v (.int .i64 4))] [] ?_))
   refine xe (Zaa (Zao (ZaZ (Zag ?_))))
   refine Zak (v:=.tuple #[.int .i64 0, .int .i64 4]) (by kernel_rfl) (fun w' S Q=>?_)
   exact ⟨_,_,rfl, .nosq (hc0 ▸ hc) hs,S⟩
  ·have hs:=ZcZ hb11
   refine Zac (Zab (xr 4 [eS1 0 A0 n c0,(1, .v (.int .i64 p)),(4, .v (.int .i64 0)),(5, .v (.int .i64 0)),(28, .v (.bool (decide (((n:Nat):Int) > 64))))] [] ?_))
   refine xe (Zaa ?_)
   refine Zar ((decide (((n:Nat):Int) > 64))) (by kernel_rfl) (fun hb12=>?_) (fun hb12=>?_)
   ·have hl:64 < n:=by have:=of_decide_eq_true hb12; omega
    refine Zac (Zab (xr 2 [eS1 0 A0 n c0,(1, .v (.int .i64 p)),(4, .v (.int .i64 0)),(5, .v (.int .i64 2))] [] ?_))
    refine xe (Zaa (Zao (ZaZ (Zag ?_))))
    refine Zak (v:=.tuple #[.int .i64 0, .int .i64 2]) (by kernel_rfl) (fun w' S Q=>?_)
    exact ⟨_,_,rfl, .lim (hc0 ▸ hc) hs hl,S⟩
   ·have hl:n≤64:=by have:=of_decide_eq_false hb12; omega
    refine Zam (ZaN (Zaa (Zac ?_)))
    obtain ⟨P,rfl,hP2,hP31,hPr⟩:=ZbW hpb
    obtain ⟨m,hmn⟩:∃ m,m=n:=⟨_,rfl⟩
    have hmm:∀ i,i < n→(Z i).length=m:=fun i hi=>by rw [hev i hi]; omega
    refine Zab (xr 2 [eS1 0 A0 n c0,(1, .v (.int .i64 ((P:Nat):Int))),(4, .v (.int .i64 0)),(5, .v (.int .i64 0)),eS1 33 A0 n c0,(34, .v (.int .i64 ((P:Nat):Int)))] [] ?_)
    refine Zbk (d:=35) 65 [.slice A0 n c0, .int .i64 ((P:Nat):Int)] (fun x:RsX n ((P:Nat):Int) Z=>.slice (some ⟨x.b,0,none⟩) n n) (fun x w=>ResI .i64 3 23 (fun w=>ArgI w A0 n R C Z) W0 w x.b n (x.A) (x.C) (x.X)) (fun w hE' Q=>(Zea A0 n m c0 R C Z P w Q.1 (by omega) (by omega) hmm (by omega) (by omega)).mono (fun _ _ h=>Zeo (ZcI ha) Q.1 hE' h)) (fun x=>?_)
    obtain ⟨b,A,C1,X,hX⟩:=x
    refine xr 3 [eS1 0 A0 n c0,(1, .v (.int .i64 ((P:Nat):Int))),(4, .v (.int .i64 0)),(5, .v (.int .i64 0)),eS1 35 (some ⟨b,0,none⟩) n n,(37, .v (.int .i64 ((n:Nat):Int))),(38, .v (.int .i64 ((P:Nat):Int)))] [] ?_
    refine Zbk (d:=39) 64 [.slice (some ⟨b,0,none⟩) n n, .int .i64 ((n:Nat):Int), .int .i64 ((P:Nat):Int)] (fun x:ReX P n (n) n X=>.tuple #[.int .i64 ((x.r:Nat):Int), .int .i64 ((x.d:Nat):Int)]) (fun x w=>ResI .i64 3 23 (fun w=>ArgI w A0 n R C Z) W0 w b n (x.A) (x.C) (x.X)) (fun w hE' Q=>(Zgw b n (n) n P A C1 X w Q.mat (by omega) (by omega) (by omega) hPr (by omega) (by omega) (Zep rfl hP2 hX (fun i hi=>(hmm i hi).trans hmn))).mono (fun _ _ h=>Ziq (ZcI ha) Q hE' h)) (fun x=>?_)
    obtain ⟨cc,r,d,A',C',X',hR,hcc,hend,hB⟩:=x
    refine xr 5 [eS1 0 A0 n c0,(1, .v (.int .i64 ((P:Nat):Int))),(4, .v (.int .i64 0)),(5, .v (.int .i64 0)),(8, .v (.int .i64 ((r:Nat):Int))),(9, .v (.int .i64 ((d:Nat):Int)))] [] ?_
    refine xe (Zaa (Zac (Zac (Zab (xr 4 [(1, .v (.int .i64 ((P:Nat):Int))),(4, .v (.int .i64 0)),(5, .v (.int .i64 0)),(9, .v (.int .i64 ((d:Nat):Int))),(45, .v (.bool (decide (((r:Nat):Int) < ((n:Nat):Int)))))] [] ?_)))))
    refine xe (Zaa ?_)
    refine Zar ((decide (((r:Nat):Int) < ((n:Nat):Int)))) (by kernel_rfl) (fun hb13=>?_) (fun hb13=>?_)
    ·have hr:r < n:=by have:=of_decide_eq_true hb13; omega
     refine Zac (Zab (xr 2 [(1, .v (.int .i64 ((P:Nat):Int))),(4, .v (.int .i64 0)),(5, .v (.int .i64 0)),(9, .v (.int .i64 ((d:Nat):Int)))] [] ?_))
     refine xe (Zaa (Zao (Zag ?_)))
     refine Zak (v:=.tuple #[.int .i64 0, .int .i64 0]) (by kernel_rfl) (fun w' S Q=>?_)
     exact ⟨_,_,rfl, .low P X X' cc r d (hc0 ▸ hc) hs hl rfl hX hR hcc hend hr,S⟩
    ·have hr:¬ r < n:=by have:=of_decide_eq_false hb13; omega
     refine Zam (Zaa (Zac (Zab (xr 2 [(4, .v (.int .i64 0)),(5, .v (.int .i64 0)),(46, .v (.int .i64 ((d:Nat):Int))),(47, .v (.int .i64 ((P:Nat):Int)))] [] ?_))))
     refine xk 48 (.int .i64 ((d % P:Nat):Int)) (fun w hE' Q=>Zdj (k:=.i64) (t:=3) (k':=3) (x:=.tmp 46) (y:=.tmp 47) (a:=d) (b:=P) (by omega)) ?_
     refine xr 2 [(4, .v (.int .i64 ((d % P:Nat):Int))),(5, .v (.int .i64 0))] [] ?_
     refine xe (Zaa (Zao ?_))
     refine Zak (v:=.tuple #[.int .i64 ((d % P:Nat):Int), .int .i64 0]) (by kernel_rfl) (fun w' S Q=>?_)
     exact ⟨_,_,rfl, .full P X X' cc r d (hc0 ▸ hc) hs hl rfl hX hR hcc hend hr,S⟩
end Go.Proofs.YthlipnahcbcjkaaGreatDoor

namespace Go.Proofs.YthlipnahcbcjkaaGreatDoor
open Go.RowKit
structure SolJ (Γ:World→Prop) (w0 w:World) (b n:Nat) (A:Nat→Option Addr) (C:Nat→Nat) (X:Nat→List Nat) (az:Option Addr) (cz:Nat) (zs:List Nat):Prop where
 mat:ResI .i64 3 23 Γ w0 w b n A C X
 zr:Buf .i64 3 w az cz zs
 nz:∀ g,Zad az g→w0.heap.size≤g
 dj:∀ g,Zad az g→¬ MatB b n ⟨A,C,X⟩ g
section
variable {P:Program} {o:Oper} {ρ:Operand→Value} {w w0:World} {t:TypeId} {x y:Operand} {b n j g x':Nat} {A:Nat→Option Addr} {C:Nat→Nat} {X:Nat→List Nat} {az:Option Addr} {cz:Nat} {zs:List Nat} {Γ:World→Prop}
theorem SolJ.start (h:ResI .i64 3 23 Γ w0 w b n A C X):SolJ Γ w0 w b n A C X none 0 []:=⟨h,Buf.nil,fun g hg=>(by obtain ⟨_,h,_⟩:=hg; cases h),fun g hg=>(by obtain ⟨_,h,_⟩:=hg; cases h)⟩
theorem appZ (hΓ:OldG Γ w0) (h:SolJ Γ w0 w b n A C X az cz zs) (Q:Ext w0 w) (hlen:zs.length=j) (hj:j≤100000) (hq:Zan .i64 w (some ⟨g,0,none⟩) [x'])
 (ho:o.op=.call { callee:=.builtin .append,args:=#[x,y],argTypes:=#[t,t] }:=by kernel_rfl) (ht:P.underlying t=some (.slice 3):=by kernel_rfl) (hinfo:(P.info? 3).map (fun i=>(i.zero,i.size,i.bytes))=some (some (.int .i64 0),1,8):=by kernel_rfl)
 (hx:ρ x=.slice az j cz:=by kernel_rfl) (hy:ρ y=.slice (some ⟨g,0,none⟩) 1 1:=by kernel_rfl) :
 ∃ (z:Option Addr × Nat) (w':World),(execOp ρ o).run P w=.ok (.value (.slice z.1 (j + 1) z.2)) w'∧Ext w0 w'∧∀ w'',Ext w' w''→SolJ Γ w0 w'' b n A C X z.1 z.2 (zs ++ [x']):=by
 obtain ⟨A',cap',w',hrun,h2,h3,h4⟩:=ZdI (P:=P) w t o.type 3 .i64 8 ht hinfo az (some ⟨g,0,none⟩) j 1 cz 1 zs [x'] hlen rfl h.zr hq (by simp only [maxLen]; omega) (by omega)
 have h0:Ext w0 w':=Q.next h3 (fun a ha hb=>by have:=h.nz a hb; omega)
 refine ⟨(A',cap'),w',?_,h0,fun w'' hw=>⟨⟨hΓ.step h0 (hΓ w w' _ Q h.mat.arg h3 h.nz) hw,(h.mat.mat.fr h3 (fun g hg hs=>h.dj g hs hg)).ext hw,h.mat.new⟩,h2.ext hw,fun g hg=>?_,fun g hg hm=>?_⟩⟩
 ·simp only [execOp,ho,resolve,invoke,builtin,Sem.run_bind,Sem.run_pure,Result.andThen_ok,List.map_toArray,List.map_cons,List.map_nil,hx,hy,hrun]
 ·rcases h4 g hg with h5 | h5
  ·exact h.nz g h5
  ·rw [h5]; exact Q.size
 ·rcases h4 g hg with h5 | h5
  ·exact h.dj g h5 hm
  ·have:=h.mat.mat.lt hm; omega
end
inductive SrIs (n nb:Nat) (Z:Nat→List Int) (bz:List Int) (p:Int) (az:Option Addr) (cz:Nat) (zs:List Nat):Value→Int→Prop
 | err (c:Int) (hc:ShpIs n Z p c) (h0:c≠0):SrIs n nb Z bz p az cz zs (.slice none 0 0) c
 | bad (hc:ShpIs n Z p 0) (hs:n≠(Z 0).length∨nb≠n):SrIs n nb Z bz p az cz zs (.slice none 0 0) 4
 | lim (hc:ShpIs n Z p 0) (hs:n=(Z 0).length) (hb:nb=n) (hl:64 < n):SrIs n nb Z bz p az cz zs (.slice none 0 0) 2
 | sing (P:Nat) (X0 X:Nat→List Nat) (c r d:Nat) (hc:ShpIs n Z p 0) (hs:n=(Z 0).length) (hb:nb=n) (hl:n≤64) (hp:p=(P:Int)) (hX:AugD n p Z bz X0 n) (hR:RRun P n (n + 1) X0 c X r d) (hcn:c≤n) (he:c=n∨n≤r) (hr:r < n):SrIs n nb Z bz p az cz zs (.slice none 0 0) 7
 | ok (P:Nat) (X0 X:Nat→List Nat) (c r d:Nat) (hc:ShpIs n Z p 0) (hs:n=(Z 0).length) (hb:nb=n) (hl:n≤64) (hp:p=(P:Int)) (hX:AugD n p Z bz X0 n) (hR:RRun P n (n + 1) X0 c X r d) (hcn:c≤n) (he:c=n∨n≤r) (hr:¬ r < n) (hz:zs.length=n) (hzs:∀ i,i < n→zs[i]?.getD 0=(X i)[n]?.getD 0):SrIs n nb Z bz p az cz zs (.slice az n cz) 0
structure SrX (n nb:Nat) (Z:Nat→List Int) (bz:List Int) (p:Int) where
 az:Option Addr
 cz:Nat
 zs:List Nat
 v:Value
 c:Int
 h:SrIs n nb Z bz p az cz zs v c
def ZoU (w:World) (n nb:Nat) (Z:Nat→List Int) (bz:List Int) (p:Int) (e:Ending) (w':World):Prop:=∃ x:SrX n nb Z bz p,e=.returned (.tuple #[x.v, .int .i64 x.c])∧Ext w w'∧(x.c=0→Buf .i64 3 w' x.az x.cz x.zs∧∀ g,Zad x.az g→w.heap.size≤g)
theorem Zpv {zs:List Nat} {X:Nat→List Nat} {n i q:Nat} (hl:zs.length=i) (h:∀ a,a < i→zs[a]?.getD 0=(X a)[n]?.getD 0) (hq:(X i)[n]?.getD 0=q):∀ a,a < i + 1→(zs ++ [q])[a]?.getD 0=(X a)[n]?.getD 0:=fun a ha=>by
 rcases Nat.lt_or_ge a i with h2 | h2
 ·rw [List.getElem?_append_left (by omega)]; exact h a h2
 ·obtain rfl:a=i:=by omega
  rw [List.getElem?_append_right (by omega),hl,Nat.sub_self,hq]; rfl
theorem Zhe (A0:Option Addr) (n c0:Nat) (R:Nat→Option Addr) (C:Nat→Nat) (Z:Nat→List Int) (B0:Option Addr) (nb cb:Nat) (bz:List Int) (p:Int) (W0:World) (ha:ArgI W0 A0 n R C Z) (hb0:Zaq W0 B0 bz) (hbl:bz.length=nb) (hn1:n≤100000) :
 Calls Tryz.prog 18 #[.slice A0 n c0, .slice B0 nb cb, .int .i64 p] W0 (ZoU W0 n nb Z bz p):=by
 refine Zbi (Φ:=fun w=>(ArgI w A0 n R C Z∧Zaq w B0 bz)) Tryz.func18 rfl (by kernel_rfl) (fun w' hf=>⟨ha.ext hf,hb0.ext hf⟩) ?_
 refine Zac (Zab (xr 2 [eS1 0 A0 n c0,eS1 1 B0 nb cb,(2, .v (.int .i64 p)),eS1 6 none 0 0,(7, .v (.int .i64 0))] [] ?_))
 refine xe (Zaa (Zac (Zab (xr 2 [eS1 0 A0 n c0,eS1 1 B0 nb cb,(2, .v (.int .i64 p)),eS1 6 none 0 0,(7, .v (.int .i64 0)),eS1 17 A0 n c0,(18, .v (.int .i64 p))] [] ?_))))
 refine xc 63 [.slice A0 n c0, .int .i64 p] 19 (fun x:ShX n Z p=>.tuple #[x.v, .int .i64 x.c]) _ (fun w S Q=>(Zhd A0 n c0 R C Z p _ Q.1 (by omega)).mono (fun _ _=>Zip)) (fun xx=>?_)
 obtain ⟨vv,c,hc⟩:=xx
 refine xr 5 [eS1 0 A0 n c0,eS1 1 B0 nb cb,(2, .v (.int .i64 p)),eS1 6 none 0 0,(7, .v (.int .i64 0)),(9, .v (.int .i64 c))] [] ?_
 refine xe (Zaa (Zac (Zap (Zac (Zab (xr 3 [eS1 0 A0 n c0,eS1 1 B0 nb cb,(2, .v (.int .i64 p)),eS1 6 none 0 0,(7, .v (.int .i64 0)),(9, .v (.int .i64 c)),(22, .v (.bool ((c:Int) != 0)))] [] ?_))))))
 refine xe (Zaa ?_)
 refine Zar (((c:Int) != 0)) (by kernel_rfl) (fun hb10=>?_) (fun hb10=>?_)
 ·have hc0:=Zgo hb10
  refine Zac (Zab (xr 3 [eS1 0 A0 n c0,eS1 1 B0 nb cb,(2, .v (.int .i64 p)),eS1 6 none 0 0,(7, .v (.int .i64 c))] [] ?_))
  refine xe (Zaa (Zao (ZaZ (Zag ?_))))
  refine Zak (v:=.tuple #[.slice none 0 0, .int .i64 c]) (by kernel_rfl) (fun w' S Q=>?_)
  exact ⟨⟨none,0,[],_,_, .err c hc hc0⟩,rfl,S,(fun e=>absurd e hc0)⟩
 ·have hc0:=Zgp hb10
  refine Zac ?_
  obtain ⟨hpb,hn0,hz,hev⟩:=hc.okk hc0
  refine Zab (xr 3 [eS1 0 A0 n c0,eS1 1 B0 nb cb,(2, .v (.int .i64 p)),eS1 6 none 0 0,(7, .v (.int .i64 0)),(28, .v (.int .i64 ((n:Nat):Int))),eS1 29 A0 n c0] [] ?_)
  refine xk 30 (atA A0 0) (fun w hE' Q=>Zbr (t:=22) (e:=23) (x:=.tmp 29) (ix:=(.const (.int .i64 0))) (i:=0) (cap:=c0) Q.1.1 (by omega)) ?_
  refine xk 31 (.slice (R 0) (Z 0).length (C 0)) (fun w hE' Q=>Zbs (t:=23) (x:=.tmp 30) (i:=0) Q.1.1 (by omega) rfl) ?_
  refine xr 3 [eS1 0 A0 n c0,eS1 1 B0 nb cb,(2, .v (.int .i64 p)),eS1 6 none 0 0,(7, .v (.int .i64 0)),(34, .v (.bool ((((n:Nat):Int):Int) != (((Z 0).length:Nat):Int))))] [] ?_
  rcases bl2 (((((n:Nat):Int):Int) != (((Z 0).length:Nat):Int))) with hb11 | hb11
  ·rw [hb11]
   have hs:=ZcY hb11
   refine xr 7 [eS1 0 A0 n c0,eS1 1 B0 nb cb,(2, .v (.int .i64 p)),eS1 6 none 0 0,(7, .v (.int .i64 0)),(26, .v (.bool true))] [] ?_
   refine xe (Zaa (xa (Zac (Zab (xr 2 [eS1 0 A0 n c0,eS1 1 B0 nb cb,(2, .v (.int .i64 p)),eS1 6 none 0 0,(7, .v (.int .i64 4))] [] ?_)))))
   refine xe (Zaa (Zao (ZaZ (Zag ?_))))
   refine Zak (v:=.tuple #[.slice none 0 0, .int .i64 4]) (by kernel_rfl) (fun w' S Q=>?_)
   exact ⟨⟨none,0,[],_,_, .bad (hc0 ▸ hc) (Or.inl hs)⟩,rfl,S,(fun e=>absurd (show (4:Int)=0 from e) (by decide))⟩
  ·rw [hb11]
   have hs:=ZcZ hb11
   refine xr 7 [eS1 0 A0 n c0,eS1 1 B0 nb cb,(2, .v (.int .i64 p)),eS1 6 none 0 0,(7, .v (.int .i64 0)),(26, .v (.bool ((((nb:Nat):Int):Int) != ((n:Nat):Int))))] [] ?_
   refine xe (Zaa ?_)
   refine Zar (((((nb:Nat):Int):Int) != ((n:Nat):Int))) (by kernel_rfl) (fun hb12=>?_) (fun hb12=>?_)
   ·have hnb:=ZcY hb12
    refine Zac (Zab (xr 2 [eS1 0 A0 n c0,eS1 1 B0 nb cb,(2, .v (.int .i64 p)),eS1 6 none 0 0,(7, .v (.int .i64 4))] [] ?_))
    refine xe (Zaa (Zao (ZaZ (Zag ?_))))
    refine Zak (v:=.tuple #[.slice none 0 0, .int .i64 4]) (by kernel_rfl) (fun w' S Q=>?_)
    exact ⟨⟨none,0,[],_,_, .bad (hc0 ▸ hc) (Or.inr hnb)⟩,rfl,S,(fun e=>absurd (show (4:Int)=0 from e) (by decide))⟩
   ·have hnb:=ZcZ hb12
    refine Zac (Zab (xr 4 [eS1 0 A0 n c0,eS1 1 B0 nb cb,(2, .v (.int .i64 p)),eS1 6 none 0 0,(7, .v (.int .i64 0)),(41, .v (.bool (decide (((n:Nat):Int) > 64))))] [] ?_))
    refine xe (Zaa ?_)
    refine Zar ((decide (((n:Nat):Int) > 64))) (by kernel_rfl) (fun hb13=>?_) (fun hb13=>?_)
    ·have hl:64 < n:=by have:=of_decide_eq_true hb13; omega
     refine Zac (Zab (xr 2 [eS1 0 A0 n c0,eS1 1 B0 nb cb,(2, .v (.int .i64 p)),eS1 6 none 0 0,(7, .v (.int .i64 2))] [] ?_))
     refine xe (Zaa (Zao (ZaZ (Zag ?_))))
     refine Zak (v:=.tuple #[.slice none 0 0, .int .i64 2]) (by kernel_rfl) (fun w' S Q=>?_)
     exact ⟨⟨none,0,[],_,_, .lim (hc0 ▸ hc) hs hnb hl⟩,rfl,S,(fun e=>absurd (show (2:Int)=0 from e) (by decide))⟩
    ·have hl:n≤64:=by have:=of_decide_eq_false hb13; omega
     refine Zam (ZaN (Zaa (Zac ?_)))
     obtain ⟨P,rfl,hP2,hP31,hPr⟩:=ZbW hpb
     obtain ⟨m,hmn⟩:∃ m,m=n:=⟨_,rfl⟩
     have hmm:∀ i,i < n→(Z i).length=m:=fun i hi=>by rw [hev i hi]; omega
     refine Zab (xr 2 [eS1 0 A0 n c0,eS1 1 B0 nb cb,(2, .v (.int .i64 ((P:Nat):Int))),eS1 6 none 0 0,(7, .v (.int .i64 0)),eS1 45 A0 n c0,(46, .v (.int .i64 ((P:Nat):Int)))] [] ?_)
     refine Zbk (d:=47) 65 [.slice A0 n c0, .int .i64 ((P:Nat):Int)] (fun x:RsX n ((P:Nat):Int) Z=>.slice (some ⟨x.b,0,none⟩) n n) (fun x w=>ResI .i64 3 23 (fun w=>ArgI w A0 n R C Z∧Zaq w B0 bz) W0 w x.b n (x.A) (x.C) (x.X)) (fun w hE' Q=>(Zea A0 n m c0 R C Z P w Q.1.1 (by omega) (by omega) hmm (by omega) (by omega)).mono (fun _ _ h=>Zeo (bOld ha hb0) Q.1 hE' h)) (fun x=>?_)
     obtain ⟨b,A,C1,X,hX⟩:=x
     refine xr 1 [eS1 0 A0 n c0,eS1 1 B0 nb cb,(2, .v (.int .i64 ((P:Nat):Int))),eS1 6 none 0 0,(7, .v (.int .i64 0)),eS1 10 (some ⟨b,0,none⟩) n n] [] ?_
     refine xe (Zaa (Zac (Zac (Zab (xr 1 [eS1 0 A0 n c0,eS1 1 B0 nb cb,(2, .v (.int .i64 ((P:Nat):Int))),eS1 6 none 0 0,(7, .v (.int .i64 0)),eS1 10 (some ⟨b,0,none⟩) n n,(11, .v (.int .i64 0))] [] ?_)))))
     refine xe (Zaa (Zap ?_))
     refine SXc.weak [(0, .v (.slice A0 n c0)),(1, .v (.slice B0 nb cb)),(2, .v (.int .i64 ((P:Nat):Int))),(6, .v (.slice none 0 0)),(7, .v (.int .i64 0)),(10, .v (.slice (some ⟨b,0,none⟩) n n)),(11, .v (.int .i64 ((0:Nat):Int)))] [] (Ψ:=fun w=>ResI .i64 3 23 (fun w=>ArgI w A0 n R C Z∧Zaq w B0 bz) W0 w b n (A) (C1) (X)) (Zaw.of (by kernel_rfl)) (by kernel_rfl) (fun w Q=>Q) ?_
     refine ZaU (fun nn ss ff=>∃ (A:Nat→Option Addr) (C1:Nat→Nat) (X:Nat→List Nat) (i:Nat),ss=ofL [(0, .v (.slice A0 n c0)),(1, .v (.slice B0 nb cb)),(2, .v (.int .i64 ((P:Nat):Int))),(6, .v (.slice none 0 0)),(7, .v (.int .i64 0)),(10, .v (.slice (some ⟨b,0,none⟩) n n)),(11, .v (.int .i64 ((i:Nat):Int)))] []∧ff=(fun w=>ResI .i64 3 23 (fun w=>ArgI w A0 n R C Z∧Zaq w B0 bz) W0 w b n (A) (C1) (X))∧(i≤n)∧(AugD n ((P:Nat):Int) Z bz X i)∧nn=(n - i)) ((n - 0)) ⟨A,C1,X,0,rfl,rfl,Nat.zero_le _,(AugD.start hX),rfl⟩ ?_
     rintro nn ss ff ⟨A,C1,X,i,rfl,rfl,hi,hD,rfl⟩
     refine Zac (Zac (Zab (xr 4 [eS1 0 A0 n c0,eS1 1 B0 nb cb,(2, .v (.int .i64 ((P:Nat):Int))),eS1 6 none 0 0,(7, .v (.int .i64 0)),eS1 10 (some ⟨b,0,none⟩) n n,(11, .v (.int .i64 ((i:Nat):Int))),(51, .v (.bool (decide (((i:Nat):Int) < ((n:Nat):Int)))))] [] ?_)))
     refine xe (Zaa ?_)
     refine Zar ((decide (((i:Nat):Int) < ((n:Nat):Int)))) (by kernel_rfl) (fun hb14=>?_) (fun hb14=>?_)
     ·have hin:i < n:=by have:=of_decide_eq_true hb14; omega
      refine Zam (Zaa (Zac (Zap ?_)))
      obtain ⟨z,hz'⟩:∃ z,bz.getD i 0=z:=⟨_,rfl⟩
      obtain ⟨q,hq⟩:∃ q:Nat,z % ((P:Nat):Int)=(q:Int):=Int.eq_ofNat_of_zero_le (Int.emod_nonneg z (by omega))
      refine Zg5 8 13 10 54 11 55 10 56 11 57 (.slice (some ⟨b,0,none⟩) n n) (.int .i64 ((i:Nat):Int)) (.slice (some ⟨b,0,none⟩) n n) (.int .i64 ((i:Nat):Int)) ?_
      refine xf 0 [eS1 0 A0 n c0,eS1 1 B0 nb cb,(2, .v (.int .i64 ((P:Nat):Int))),eS1 6 none 0 0,(7, .v (.int .i64 0)),eS1 10 (some ⟨b,0,none⟩) n n,(11, .v (.int .i64 ((i:Nat):Int))),eS1 54 (some ⟨b,0,none⟩) n n,(55, .v (.int .i64 ((i:Nat):Int))),eS1 56 (some ⟨b,0,none⟩) n n,(57, .v (.int .i64 ((i:Nat):Int)))] [] ?_
      refine xj 58 (.pointer (some ⟨b,i,none⟩)) (fun w Q=>Zax (g:=b) (len:=n) (cap:=n) (i:=i) (t:=22) (e:=23) (x:=.tmp 56) (ix:=.tmp 57) hin) ?_
      refine xj 59 (.slice (A i) m (C1 i)) (fun w Q=>ZaQ (t:=23) (x:=.tmp 58) (m:=m) Q.mat hin (hD.len hin (hmm i hin))) ?_
      refine xf 2 [eS1 0 A0 n c0,eS1 1 B0 nb cb,(2, .v (.int .i64 ((P:Nat):Int))),eS1 6 none 0 0,(7, .v (.int .i64 0)),eS1 10 (some ⟨b,0,none⟩) n n,(11, .v (.int .i64 ((i:Nat):Int))),eS1 54 (some ⟨b,0,none⟩) n n,(55, .v (.int .i64 ((i:Nat):Int))),eS1 59 (A i) m (C1 i),eS1 60 B0 nb cb,(61, .v (.int .i64 ((i:Nat):Int)))] [] ?_
      refine xj 62 (atA B0 i) (fun w Q=>Zem (t:=23) (e:=3) (x:=.tmp 60) (ix:=.tmp 61) (cap:=cb) Q.arg.2 hbl (by omega)) ?_
      refine xj 63 (.int .i64 z) (fun w Q=>Zen (t:=3) (x:=.tmp 62) (j:=i) Q.arg.2 (by omega) hz') ?_
      refine xf 1 [eS1 0 A0 n c0,eS1 1 B0 nb cb,(2, .v (.int .i64 ((P:Nat):Int))),eS1 6 none 0 0,(7, .v (.int .i64 0)),eS1 10 (some ⟨b,0,none⟩) n n,(11, .v (.int .i64 ((i:Nat):Int))),eS1 54 (some ⟨b,0,none⟩) n n,(55, .v (.int .i64 ((i:Nat):Int))),eS1 59 (A i) m (C1 i),(63, .v (.int .i64 z)),(64, .v (.int .i64 ((P:Nat):Int)))] [] ?_
      refine xd 66 [.int .i64 z, .int .i64 ((P:Nat):Int)] 65 (fun _:Unit=>.int .i64 ((q:Nat):Int)) _ (fun w S Q=>(Zgv z P q _ (by omega) (by omega) hq).mono (fun _ _ h=>Zau h rfl)) (fun xx=>?_)
      refine xf 0 [eS1 0 A0 n c0,eS1 1 B0 nb cb,(2, .v (.int .i64 ((P:Nat):Int))),eS1 6 none 0 0,(7, .v (.int .i64 0)),eS1 10 (some ⟨b,0,none⟩) n n,(11, .v (.int .i64 ((i:Nat):Int))),eS1 54 (some ⟨b,0,none⟩) n n,(55, .v (.int .i64 ((i:Nat):Int))),eS1 59 (A i) m (C1 i),(65, .v (.int .i64 ((q:Nat):Int)))] [] ?_
      refine ZfY 66 (fun zb:Nat=>.slice (some ⟨zb,0,none⟩) 1 1) (fun zb zw=>Blk 3 zw zb #[.int .i64 ((q:Nat):Int)]) (by kernel_rfl) (by kernel_rfl) (by kernel_rfl) (by kernel_rfl) (by kernel_rfl) (by kernel_rfl) (by kernel_rfl) (fun w S Q=>Zce (t:=23) (e:=3) (n:=1) (sz:=1) (z:=.int .i64 0) (parts:=#[(0,Operand.tmp 65)]) (by kernel_rfl) (by kernel_rfl) (by kernel_rfl) (by kernel_rfl) (by kernel_rfl) (by kernel_rfl)) (fun b15=>?_)
      refine xf 0 [eS1 0 A0 n c0,eS1 1 B0 nb cb,(2, .v (.int .i64 ((P:Nat):Int))),eS1 6 none 0 0,(7, .v (.int .i64 0)),eS1 10 (some ⟨b,0,none⟩) n n,(11, .v (.int .i64 ((i:Nat):Int))),eS1 54 (some ⟨b,0,none⟩) n n,(55, .v (.int .i64 ((i:Nat):Int))),eS1 59 (A i) m (C1 i),eS1 66 (some ⟨b15,0,none⟩) 1 1] [] ?_
      refine xz ?_
      refine ZcG (d:=67) (fun z:Option Addr × Nat=>.slice z.1 (m + 1) z.2) (fun z w=>LooseI .i64 3 23 (fun w=>ArgI w A0 n R C Z∧Zaq w B0 bz) W0 w b n i (A) (C1) (X) (z.1) (z.2) (X i ++ [q])) (fun w hE' Q=>Zff (t:=23) (x:=.tmp 59) (y:=.tmp 66) (g:=b15) (x':=q) (bw:=8) (bOld ha hb0) Q.1.1 hE' hin (hD.len hin (hmm i hin)) (by omega) (by decide) (ZeT Q.2)) (fun z=>?_)
      obtain ⟨A3,c3⟩:=z
      refine xk 68 (.pointer (some ⟨b,i,none⟩)) (fun w hE' Q=>Zax (g:=b) (len:=n) (cap:=n) (i:=i) (t:=22) (e:=23) (x:=.tmp 54) (ix:=.tmp 55) hin) ?_
      refine Zb8 (fun w=>ResI .i64 3 23 (fun w=>ArgI w A0 n R C Z∧Zaq w B0 bz) W0 w b n (upF A i A3) (upF C1 i c3) (upF X i (X i ++ [q]))) (fun w hE' Q=>ZeS (t:=23) (x:=.tmp 68) (y:=.tmp 67) (bOld ha hb0) Q hE' hin (by rw [List.length_append,hD.len hin (hmm i hin),List.length_singleton])) ?_
      refine xr 0 [eS1 0 A0 n c0,eS1 1 B0 nb cb,(2, .v (.int .i64 ((P:Nat):Int))),eS1 6 none 0 0,(7, .v (.int .i64 0)),eS1 10 (some ⟨b,0,none⟩) n n,(11, .v (.int .i64 ((i:Nat):Int)))] [] ?_
      refine xe (ZaN (Zaa (Zab (xr 2 [eS1 0 A0 n c0,eS1 1 B0 nb cb,(2, .v (.int .i64 ((P:Nat):Int))),eS1 6 none 0 0,(7, .v (.int .i64 0)),eS1 10 (some ⟨b,0,none⟩) n n,(11, .v (.int .i64 ((i:Nat):Int))),(53, .v (.int .i64 (IntKind.i64.wrap (((i:Nat):Int) + 1))))] [] ?_))))
      rw [ZaI (k:=i) (by omega)]
      refine xr 1 [eS1 0 A0 n c0,eS1 1 B0 nb cb,(2, .v (.int .i64 ((P:Nat):Int))),eS1 6 none 0 0,(7, .v (.int .i64 0)),eS1 10 (some ⟨b,0,none⟩) n n,(11, .v (.int .i64 ((i + 1:Nat):Int)))] [] ?_
      refine xe ?_
      refine SXq.weak [(0, .v (.slice A0 n c0)),(1, .v (.slice B0 nb cb)),(2, .v (.int .i64 ((P:Nat):Int))),(6, .v (.slice none 0 0)),(7, .v (.int .i64 0)),(10, .v (.slice (some ⟨b,0,none⟩) n n)),(11, .v (.int .i64 (((i + 1):Nat):Int)))] [] (Ψ:=fun w=>ResI .i64 3 23 (fun w=>ArgI w A0 n R C Z∧Zaq w B0 bz) W0 w b n ((upF A i A3)) ((upF C1 i c3)) ((upF X i (X i ++ [q])))) (Zaw.of (by kernel_rfl)) (by kernel_rfl) (fun w Q=>Q) ?_
      exact ZaB ((n - (i + 1))) (by omega) ⟨(upF A i A3),(upF C1 i c3),(upF X i (X i ++ [q])),(i + 1),rfl,rfl,(by omega),(hD.step hin (by rw [hz']; exact hq)),rfl⟩
     ·have hin:n≤i:=by have:=of_decide_eq_false hb14; omega
      refine ZaC (Zae (Zae (ZaO (Zaa (Zac ?_)))))
      have hD':AugD n ((P:Nat):Int) Z bz X n:=by obtain rfl:i=n:=(by omega); exact hD
      refine Zab (xr 4 [eS1 0 A0 n c0,eS1 6 none 0 0,(7, .v (.int .i64 0)),eS1 10 (some ⟨b,0,none⟩) n n,eS1 70 (some ⟨b,0,none⟩) n n,(72, .v (.int .i64 ((n:Nat):Int))),(73, .v (.int .i64 ((P:Nat):Int)))] [] ?_)
      refine Zbk (d:=74) 64 [.slice (some ⟨b,0,none⟩) n n, .int .i64 ((n:Nat):Int), .int .i64 ((P:Nat):Int)] (fun x:ReX P n ((n + 1)) n X=>.tuple #[.int .i64 ((x.r:Nat):Int), .int .i64 ((x.d:Nat):Int)]) (fun x w=>ResI .i64 3 23 (fun w=>ArgI w A0 n R C Z∧Zaq w B0 bz) W0 w b n (x.A) (x.C) (x.X)) (fun w hE' Q=>(Zgw b n ((n + 1)) n P A C1 X w Q.mat (by omega) (by omega) (by omega) hPr (by omega) (by omega) (ZdS rfl hP2 hD' (fun i hi=>(hmm i hi).trans hmn))).mono (fun _ _ h=>Ziq (bOld ha hb0) Q hE' h)) (fun x=>?_)
      obtain ⟨cc,r,d,A',C',X',hR,hcc,hend,hB⟩:=x
      refine xr 5 [eS1 0 A0 n c0,eS1 6 none 0 0,(7, .v (.int .i64 0)),eS1 10 (some ⟨b,0,none⟩) n n,(12, .v (.int .i64 ((r:Nat):Int)))] [] ?_
      refine xe (Zaa (Zac (Zac (Zab (xr 4 [eS1 0 A0 n c0,eS1 6 none 0 0,(7, .v (.int .i64 0)),eS1 10 (some ⟨b,0,none⟩) n n,(80, .v (.bool (decide (((r:Nat):Int) < ((n:Nat):Int)))))] [] ?_)))))
      refine xe (Zaa ?_)
      refine Zar ((decide (((r:Nat):Int) < ((n:Nat):Int)))) (by kernel_rfl) (fun hb16=>?_) (fun hb16=>?_)
      ·have hr:r < n:=by have:=of_decide_eq_true hb16; omega
       refine Zac (Zab (xr 2 [eS1 0 A0 n c0,eS1 6 none 0 0,(7, .v (.int .i64 7)),eS1 10 (some ⟨b,0,none⟩) n n] [] ?_))
       refine xe (Zaa (Zao (Zag ?_)))
       refine Zak (v:=.tuple #[.slice none 0 0, .int .i64 7]) (by kernel_rfl) (fun w' S Q=>?_)
       exact ⟨⟨none,0,[],_,_, .sing P X X' cc r d (hc0 ▸ hc) hs hnb hl rfl hD' hR hcc hend hr⟩,rfl,S,(fun e=>absurd (show (7:Int)=0 from e) (by decide))⟩
      ·have hr:¬ r < n:=by have:=of_decide_eq_false hb16; omega
       refine Zam (Zaa (Zac (Zab (xr 1 [eS1 0 A0 n c0,eS1 6 none 0 0,(7, .v (.int .i64 0)),eS1 10 (some ⟨b,0,none⟩) n n,eS1 14 none 0 0] [] ?_))))
       refine xe (Zaa (Zac (Zac (Zab (xr 1 [eS1 0 A0 n c0,eS1 6 none 0 0,(7, .v (.int .i64 0)),eS1 10 (some ⟨b,0,none⟩) n n,eS1 14 none 0 0,(15, .v (.int .i64 0))] [] ?_)))))
       refine xe (Zaa (Zap ?_))
       refine SXc.weak [(0, .v (.slice A0 n c0)),(6, .v (.slice none 0 0)),(7, .v (.int .i64 0)),(10, .v (.slice (some ⟨b,0,none⟩) n n)),(14, .v (.slice none 0 0)),(15, .v (.int .i64 ((0:Nat):Int)))] [] (Ψ:=fun w=>SolJ (fun w=>ArgI w A0 n R C Z∧Zaq w B0 bz) W0 w b n A' C' X' (none) (0) ([])) (Zaw.of (by kernel_rfl)) (by kernel_rfl) (fun w Q=>(SolJ.start Q)) ?_
       refine ZaU (fun nn ss ff=>∃ (az:Option Addr) (cz:Nat) (zs:List Nat) (t:Nat),ss=ofL [(0, .v (.slice A0 n c0)),(6, .v (.slice none 0 0)),(7, .v (.int .i64 0)),(10, .v (.slice (some ⟨b,0,none⟩) n n)),(14, .v (.slice az t cz)),(15, .v (.int .i64 ((t:Nat):Int)))] []∧ff=(fun w=>SolJ (fun w=>ArgI w A0 n R C Z∧Zaq w B0 bz) W0 w b n A' C' X' (az) (cz) (zs))∧(t≤n)∧(zs.length=t)∧(∀ a,a < t→zs[a]?.getD 0=(X' a)[n]?.getD 0)∧nn=(n - t)) ((n - 0)) ⟨none,0,[],0,rfl,rfl,Nat.zero_le _,rfl,(fun a ha=>absurd ha (by omega)),rfl⟩ ?_
       rintro nn ss ff ⟨az,cz,zs,t,rfl,rfl,hi,hzl,hzs,rfl⟩
       refine Zac (Zac (Zab (xr 4 [eS1 0 A0 n c0,eS1 6 none 0 0,(7, .v (.int .i64 0)),eS1 10 (some ⟨b,0,none⟩) n n,eS1 14 az t cz,(15, .v (.int .i64 ((t:Nat):Int))),(84, .v (.bool (decide (((t:Nat):Int) < ((n:Nat):Int)))))] [] ?_)))
       refine xe (Zaa ?_)
       refine Zar ((decide (((t:Nat):Int) < ((n:Nat):Int)))) (by kernel_rfl) (fun hb17=>?_) (fun hb17=>?_)
       ·have htn:t < n:=by have:=of_decide_eq_true hb17; omega
        refine Zam (Zaa (Zac (Zap (Zab (xr 3 [eS1 0 A0 n c0,eS1 6 none 0 0,(7, .v (.int .i64 0)),eS1 10 (some ⟨b,0,none⟩) n n,eS1 14 az t cz,(15, .v (.int .i64 ((t:Nat):Int))),eS1 87 az t cz,eS1 88 (some ⟨b,0,none⟩) n n,(89, .v (.int .i64 ((t:Nat):Int)))] [] ?_)))))
        refine xk 90 (.pointer (some ⟨b,t,none⟩)) (fun w hE' Q=>Zax (g:=b) (len:=n) (cap:=n) (i:=t) (t:=22) (e:=23) (x:=.tmp 88) (ix:=.tmp 89) htn) ?_
        refine xk 91 (.slice (A' t) (n + 1) (C' t)) (fun w hE' Q=>ZaQ (t:=23) (x:=.tmp 90) (m:=n + 1) Q.mat.mat htn (hB.len t htn)) ?_
        refine xr 2 [eS1 0 A0 n c0,eS1 6 none 0 0,(7, .v (.int .i64 0)),eS1 10 (some ⟨b,0,none⟩) n n,eS1 14 az t cz,(15, .v (.int .i64 ((t:Nat):Int))),eS1 87 az t cz,eS1 91 (A' t) (n + 1) (C' t),(93, .v (.int .i64 ((n:Nat):Int)))] [] ?_
        refine xk 94 (atA (A' t) n) (fun w hE' Q=>Za4 (t:=23) (e:=3) (x:=.tmp 91) (ix:=.tmp 93) (cap:=C' t) (m:=n + 1) Q.mat.mat htn (hB.len t htn) (by omega)) ?_
        obtain ⟨u,hu⟩:∃ u,(X' t)[n]?.getD 0=u:=⟨_,rfl⟩
        refine xk 95 (.int .i64 ((u:Nat):Int)) (fun w hE' Q=>Zbo (t:=3) (x:=.tmp 94) (i:=t) (j:=n) (m:=n + 1) Q.mat.mat htn (hB.len t htn) (by omega) hu) ?_
        refine ZfW (d:=96) (fun zb:Nat=>.slice (some ⟨zb,0,none⟩) 1 1) (fun zb zw=>Blk 3 zw zb #[.int .i64 ((u:Nat):Int)]) (by kernel_rfl) (by kernel_rfl) (by kernel_rfl) (by kernel_rfl) (by kernel_rfl) (by kernel_rfl) (fun w S Q=>Zce (t:=23) (e:=3) (n:=1) (sz:=1) (z:=.int .i64 0) (parts:=#[(0,Operand.tmp 95)]) (by kernel_rfl) (by kernel_rfl) (by kernel_rfl) (by kernel_rfl) (by kernel_rfl) (by kernel_rfl)) (fun b18=>?_)
        refine xr 0 [eS1 0 A0 n c0,eS1 6 none 0 0,(7, .v (.int .i64 0)),eS1 10 (some ⟨b,0,none⟩) n n,eS1 14 az t cz,(15, .v (.int .i64 ((t:Nat):Int))),eS1 87 az t cz,eS1 96 (some ⟨b18,0,none⟩) 1 1] [] ?_
        refine ZcG (d:=97) (fun z:Option Addr × Nat=>.slice z.1 (t + 1) z.2) (fun z w=>SolJ (fun w=>ArgI w A0 n R C Z∧Zaq w B0 bz) W0 w b n A' C' X' (z.1) (z.2) (zs ++ [u])) (fun w hE' Q=>appZ (t:=23) (x:=.tmp 87) (y:=.tmp 96) (g:=b18) (x':=u) (bOld ha hb0) Q.1 hE' hzl (by omega) (ZeT Q.2)) (fun z=>?_)
        obtain ⟨az3,cz3⟩:=z
        refine xr 1 [eS1 0 A0 n c0,eS1 6 none 0 0,(7, .v (.int .i64 0)),eS1 10 (some ⟨b,0,none⟩) n n,eS1 14 az3 (t + 1) cz3,(15, .v (.int .i64 ((t:Nat):Int)))] [] ?_
        refine xe (ZaN (Zaa (Zab (xr 2 [eS1 0 A0 n c0,eS1 6 none 0 0,(7, .v (.int .i64 0)),eS1 10 (some ⟨b,0,none⟩) n n,eS1 14 az3 (t + 1) cz3,(15, .v (.int .i64 ((t:Nat):Int))),(86, .v (.int .i64 (IntKind.i64.wrap (((t:Nat):Int) + 1))))] [] ?_))))
        rw [ZaI (k:=t) (by omega)]
        refine xr 1 [eS1 0 A0 n c0,eS1 6 none 0 0,(7, .v (.int .i64 0)),eS1 10 (some ⟨b,0,none⟩) n n,eS1 14 az3 (t + 1) cz3,(15, .v (.int .i64 ((t + 1:Nat):Int)))] [] ?_
        refine xe ?_
        refine SXq.weak [(0, .v (.slice A0 n c0)),(6, .v (.slice none 0 0)),(7, .v (.int .i64 0)),(10, .v (.slice (some ⟨b,0,none⟩) n n)),(14, .v (.slice az3 (t + 1) cz3)),(15, .v (.int .i64 (((t + 1):Nat):Int)))] [] (Ψ:=fun w=>SolJ (fun w=>ArgI w A0 n R C Z∧Zaq w B0 bz) W0 w b n A' C' X' (az3) (cz3) ((zs ++ [u]))) (Zaw.of (by kernel_rfl)) (by kernel_rfl) (fun w Q=>Q) ?_
        exact ZaB ((n - (t + 1))) (by omega) ⟨az3,cz3,(zs ++ [u]),(t + 1),rfl,rfl,(by omega),(by rw [List.length_append,hzl]; rfl),(Zpv hzl hzs hu),rfl⟩
       ·have htn:n≤t:=by have:=of_decide_eq_false hb17; omega
        refine ZaC (Zae (Zae (ZaO (Zaa (Zac (Zab (xr 3 [eS1 6 az t cz,(7, .v (.int .i64 0))] [] ?_)))))))
        refine xe (Zaa (Zao ?_))
        refine Zak (v:=.tuple #[.slice az t cz, .int .i64 0]) (by kernel_rfl) (fun w' S Q=>?_)
        obtain rfl:t=n:=by omega
        exact ⟨⟨az,cz,zs,_,_, .ok P X X' cc r d (hc0 ▸ hc) hs hnb hl rfl hD' hR hcc hend hr hzl hzs⟩,rfl,S,fun _=>⟨Q.zr,Q.nz⟩⟩
end Go.Proofs.YthlipnahcbcjkaaGreatDoor

namespace Go.Proofs.YthlipnahcbcjkaaGreatDoor
open Go.RowKit
def E4 (n:Nat) (Z:Nat→List Int) (sq:Bool):Prop:=n=0∨(Z 0).length=0∨(sq=true∧(Z 0).length≠n)∨∃ i,i < n∧(Z i).length≠(Z 0).length
open Classical in
noncomputable def chkC (n:Nat) (Z:Nat→List Int) (p:Int) (sq:Bool):Int:=if prB p=false then 1 else if E4 n Z sq then 4 else if 64 < n∨64 < (Z 0).length then 2 else 0
section
variable {n nb:Nat} {Z:Nat→List Int} {p c c' a a':Int} {sq:Bool}
theorem nf {b:Bool} (h:b=true):¬ b=false:=by rw [h]; exact fun e=>by cases e
theorem no4 (hn:0 < n) (hz:(Z 0).length≠0) (hs:sq=true→(Z 0).length=n) (he:∀ i,i < n→(Z i).length=(Z 0).length):¬ E4 n Z sq:=by
 rintro (h | h | ⟨h1,h2⟩ | ⟨i,h1,h2⟩)
 ·omega
 ·exact hz h
 ·exact h2 (hs h1)
 ·exact h2 (he i h1)
theorem ChkIs.cc (h:ChkIs n Z p sq c):c=chkC n Z p sq:=by
 unfold chkC
 cases h with
 | bad h=>rw [if_pos h]
 | empty h hn=>rw [if_neg (nf h),if_pos (show E4 n Z sq from Or.inl hn)]
 | zero h hn hz=>rw [if_neg (nf h),if_pos (show E4 n Z sq from Or.inr (Or.inl hz))]
 | nosq h hn hz hs hs2=>rw [if_neg (nf h),if_pos (show E4 n Z sq from Or.inr (Or.inr (Or.inl ⟨hs,hs2⟩)))]
 | uneven i h hn hz hs hi hne=>rw [if_neg (nf h),if_pos (show E4 n Z sq from Or.inr (Or.inr (Or.inr ⟨i,hi,hne⟩)))]
 | limit h hn hz hs he hl=>rw [if_neg (nf h),if_neg (no4 hn hz hs he),if_pos hl]
 | ok h hn hz hs he hl hl2=>rw [if_neg (nf h),if_neg (no4 hn hz hs he),if_neg (by omega)]
theorem ShpIs.cc (h:ShpIs n Z p c) (h0:c≠0):c=chkC n Z p sq:=by
 unfold chkC
 cases h with
 | bad h=>rw [if_pos h]
 | empty h hn=>rw [if_neg (nf h),if_pos (show E4 n Z sq from Or.inl hn)]
 | zero h hn hz=>rw [if_neg (nf h),if_pos (show E4 n Z sq from Or.inr (Or.inl hz))]
 | uneven i h hn hz hi hne=>rw [if_neg (nf h),if_pos (show E4 n Z sq from Or.inr (Or.inr (Or.inr ⟨i,hi,hne⟩)))]
 | ok=>exact absurd rfl h0
theorem ShpIs.cc0 (h:ShpIs n Z p 0) (hs:sq=true→(Z 0).length=n):chkC n Z p sq=if 64 < n∨64 < (Z 0).length then 2 else 0:=by
 obtain ⟨h1,h2,h3,h4⟩:=h.okk rfl
 unfold chkC
 rw [if_neg (nf h1),if_neg (no4 h2 h3 hs h4)]
theorem ShpIs.cc4 (h:ShpIs n Z p 0) (hs:(Z 0).length≠n):chkC n Z p true=4:=by
 unfold chkC
 rw [if_neg (nf (h.okk rfl).1),if_pos (show E4 n Z true from Or.inr (Or.inr (Or.inl ⟨rfl,hs⟩)))]
theorem RRun.le {P m c r d:Nat} {X0 X:Nat→List Nat} (h:RRun P n m X0 c X r d):r≤c:=by
 induction h with
 | nil=>exact Nat.le_refl _
 | snoc h hs ih=>cases hs<;>omega
theorem Zje (hD:RankIs n Z p a c) (hR:RkIs n Z p a' c'):a=a'∧c=c':=by
 cases hD with
 | err _ hc h0 =>
   have e:=hc.cc
   cases hR with
   | err _ hc' h0'=>exact ⟨rfl,e.trans (hc'.cc h0').symm⟩
   | lim hc' hl=>rw [hc'.cc0 (sq:=false) (fun e=>by cases e),if_pos hl] at e; exact ⟨rfl,e⟩
   | ok P m X0 X k r d hc' hl hl2=>rw [hc'.cc0 (sq:=false) (fun e=>by cases e),if_neg (by omega)] at e; exact absurd e h0
 | ok P m X0 X r d hc hm hp hX hR' =>
   have e:=hc.cc
   cases hR with
   | err _ hc' h0'=>exact absurd ((hc'.cc h0').trans e.symm) h0'
   | lim hc' hl=>rw [hc'.cc0 (sq:=false) (fun e=>by cases e),if_pos hl] at e; exact absurd e (by decide)
   | ok P' m' Y0 Y k r' d' hc' hl hl2 hm' hp' hY hR2 hcm he =>
     obtain rfl:P=P':=by omega
     obtain rfl:m=m':=by omega
     obtain ⟨hpb,hn,hz,hev⟩:=hc'.okk rfl
     obtain ⟨P2,hp2,hP2,_,hPr⟩:=ZbW hpb
     have hr:=Zpp (by rw [← hp]; exact hPr) (Zep hp (by omega) hX (fun i hi=>(hev i hi).trans hm.symm)) (fun i hi=>(hX i hi).trans (hY i hi).symm) hR' hR2 (Nat.le_refl _) hcm he
     exact ⟨by rw [hr],rfl⟩
theorem Zkd (hD:DetIs n Z p a c) (hR:RdIs n Z p a' c'):a=a'∧c=c':=by
 have cc64:ShpIs n Z p 0→n=(Z 0).length→chkC n Z p true=if 64 < n then 2 else 0:=fun hc hs=>by
  rw [hc.cc0 (fun _=>hs.symm),← hs]
  by_cases h:64 < n
  ·rw [if_pos (Or.inl h),if_pos h]
  ·rw [if_neg (by omega),if_neg h]
 have key:∀ {P P' k r d r' d':Nat} {X0 X Y0 Y:Nat→List Nat},ShpIs n Z p 0→n=(Z 0).length→p=(P:Int)→p=(P':Int)→(∀ i,i < n→X0 i=redL p (Z i))→(∀ i,i < n→Y0 i=redL p (Z i))→ElRun P n n X0 n X r d→RRun P' n n Y0 k Y r' d'→k≤n→(k=n∨n≤r')→r=r'∧(r=n→d=d' % P'):=fun {P P' k r d r' d' X0 X Y0 Y} hc hs hp hp' hX hY h1 h2 hk he=>by
  obtain rfl:P=P':=by omega
  obtain ⟨hpb,hn,hz,hev⟩:=hc.okk rfl
  obtain ⟨P2,hp2,hP2,_,hPr⟩:=ZbW hpb
  obtain rfl:k=n:=by have:=h2.le; omega
  have h3:=ZhC (by rw [← hp]; exact hPr) (Zep hp (by omega) hX (fun i hi=>(hev i hi).trans hs.symm)) (fun i hi=>(hX i hi).trans (hY i hi).symm) h1 h2 (Nat.le_refl _)
  exact ⟨h3.1,fun e=>by rw [← h3.2.2.2.2 e,Nat.mod_eq_of_lt h3.2.2.1.dp]⟩
 have zero:∀ {c':Int},ChkIs n Z p true 0→chkC n Z p true=c'→c'=0:=fun h e=>e.symm.trans h.cc.symm
 cases hR with
 | err _ hc' h0' =>
   cases hD with
   | err _ hc h0=>exact ⟨rfl,hc.cc.trans (hc'.cc h0').symm⟩
   | low P X0 X r d hc=>exact absurd (zero hc (hc'.cc h0').symm) h0'
   | full P X0 X r d hc=>exact absurd (zero hc (hc'.cc h0').symm) h0'
 | nosq hc' hs =>
   have e:=hc'.cc4 (fun h=>hs h.symm)
   cases hD with
   | err _ hc h0=>exact ⟨rfl,hc.cc.trans e⟩
   | low P X0 X r d hc=>have:=zero hc e; omega
   | full P X0 X r d hc=>have:=zero hc e; omega
 | lim hc' hs hl =>
   have e:=cc64 hc' hs
   rw [if_pos hl] at e
   cases hD with
   | err _ hc h0=>exact ⟨rfl,hc.cc.trans e⟩
   | low P X0 X r d hc=>have:=zero hc e; omega
   | full P X0 X r d hc=>have:=zero hc e; omega
 | low P' Y0 Y k r' d' hc' hs hl hp' hY h2 hk he hr =>
   have e:=cc64 hc' hs
   rw [if_neg (by omega)] at e
   cases hD with
   | err _ hc h0=>exact absurd (hc.cc.trans e) h0
   | low=>exact ⟨rfl,rfl⟩
   | full P X0 X r d hc hp hX h1 hB hr1=>have:=(key hc' hs hp hp' hX hY h1 h2 hk he).1; omega
 | full P' Y0 Y k r' d' hc' hs hl hp' hY h2 hk he hr =>
   have e:=cc64 hc' hs
   rw [if_neg (by omega)] at e
   cases hD with
   | err _ hc h0=>exact absurd (hc.cc.trans e) h0
   | low P X0 X r d hc hp hX h1 hr1=>have:=(key hc' hs hp hp' hX hY h1 h2 hk he).1; omega
   | full P X0 X r d hc hp hX h1 hB hr1 =>
     have h3:=key hc' hs hp hp' hX hY h1 h2 hk he
     have:=hB.rn
     exact ⟨by rw [h3.2 (by omega)],rfl⟩
theorem Zke {bz:List Int} {bx cz:Nat} {xs zs:List Nat} {az:Option Addr} {v v':Value} (hD:SolIs n nb Z bz p bx xs v c) (hR:SrIs n nb Z bz p az cz zs v' c') :
 c=c'∧((c≠0∧v=.slice none 0 0∧v'=.slice none 0 0)∨(c=0∧v=.slice (some ⟨bx,0,none⟩) n n∧v'=.slice az n cz∧xs.length=n∧zs=xs)):=by
 have cc64:ShpIs n Z p 0→n=(Z 0).length→chkC n Z p true=if 64 < n then 2 else 0:=fun hc hs=>by
  rw [hc.cc0 (fun _=>hs.symm),← hs]
  by_cases h:64 < n
  ·rw [if_pos (Or.inl h),if_pos h]
  ·rw [if_neg (by omega),if_neg h]
 have key:∀ {P P' k r d r' d':Nat} {X0 X Y0 Y:Nat→List Nat},ShpIs n Z p 0→n=(Z 0).length→p=(P:Int)→p=(P':Int)→AugD n p Z bz X0 n→AugD n p Z bz Y0 n→ElRun P n (n + 1) X0 n X r d→RRun P' n (n + 1) Y0 k Y r' d'→k≤n→(k=n∨n≤r')→r=r':=fun {P P' k r d r' d' X0 X Y0 Y} hc hs hp hp' hX hY h1 h2 hk he=>by
  obtain rfl:P=P':=by omega
  obtain ⟨hpb,hn,hz,hev⟩:=hc.okk rfl
  obtain ⟨P2,hp2,hP2,_,hPr⟩:=ZbW hpb
  obtain rfl:k=n:=by have:=h2.le; omega
  exact (ZhC (by rw [← hp]; exact hPr) (ZdS hp (by omega) hX (fun i hi=>(hev i hi).trans hs.symm)) (fun i hi=>(hX i hi).trans (hY i hi).symm) h1 h2 (Nat.le_succ _)).1
 have zero:∀ {sq c'},ChkIs n Z p sq 0→chkC n Z p sq=c'→c'=0:=fun h e=>e.symm.trans h.cc.symm
 have bad:∀ {c:Int},c≠0→(c≠0∧(Value.slice none 0 0:Value)=.slice none 0 0∧(Value.slice none 0 0:Value)=.slice none 0 0):=fun h=>⟨h,rfl,rfl⟩
 cases hR with
 | err _ hc' h0' =>
   have e:=hc'.cc (sq:=true) h0'
   have hne2:¬ c'=2:=fun e2=>by subst e2; cases hc'
   cases hD with
   | lim hc hb=>exact absurd (e.trans hc.cc.symm) hne2
   | err _ hc h0 h2=>exact ⟨hc.cc.trans e.symm,Or.inl (bad h0)⟩
   | shape hc hb=>exact absurd (zero hc e.symm) h0'
   | sing P X0 X r d hc=>exact absurd (zero hc e.symm) h0'
   | ok P X0 X r d hc=>exact absurd (zero hc e.symm) h0'
 | bad hc' hs =>
   by_cases hs0:n=(Z 0).length
   ·have hb:nb≠n:=hs.resolve_left (fun h=>h hs0)
    have e:=cc64 hc' hs0
    cases hD with
    | lim hc hb=>exact ⟨rfl,Or.inl (bad (by decide))⟩
    | err _ hc h0 h2 =>
      have e1:=hc.cc.trans e
      by_cases h:64 < n
      ·rw [if_pos h] at e1; exact absurd (h2 e1) hb
      ·rw [if_neg h] at e1; exact absurd e1 h0
    | shape hc hb=>exact ⟨rfl,Or.inl (bad (by decide))⟩
    | sing P X0 X r d hc hb'=>exact absurd hb' hb
    | ok P X0 X r d hc hb'=>exact absurd hb' hb
   ·have e:=hc'.cc4 (fun h=>hs0 h.symm)
    cases hD with
    | lim hc hb=>exact ⟨rfl,Or.inl (bad (by decide))⟩
    | err _ hc h0 h2=>exact ⟨hc.cc.trans e,Or.inl (bad h0)⟩
    | shape hc hb=>have:=zero hc e; omega
    | sing P X0 X r d hc=>have:=zero hc e; omega
    | ok P X0 X r d hc=>have:=zero hc e; omega
 | lim hc' hs hb hl =>
   have e:=cc64 hc' hs
   rw [if_pos hl] at e
   cases hD with
   | lim hc hb'=>exact absurd hb hb'
   | err _ hc h0 h2=>exact ⟨hc.cc.trans e,Or.inl (bad h0)⟩
   | shape hc hb'=>have:=zero hc e; omega
   | sing P X0 X r d hc=>have:=zero hc e; omega
   | ok P X0 X r d hc=>have:=zero hc e; omega
 | sing P' Y0 Y k r' d' hc' hs hb hl hp' hY h2 hk he hr =>
   have e:=cc64 hc' hs
   rw [if_neg (by omega)] at e
   cases hD with
   | lim hc hb'=>exact absurd hb hb'
   | err _ hc h0=>exact absurd (hc.cc.trans e) h0
   | shape hc hb'=>exact absurd hb hb'
   | sing=>exact ⟨rfl,Or.inl (bad (by decide))⟩
   | ok P X0 X r d hc hb' hp hX h1 hB hr1=>have:=key hc' hs hp hp' hX hY h1 h2 hk he; omega
 | ok P' Y0 Y k r' d' hc' hs hb hl hp' hY h2 hk he hr hz hzs =>
   have e:=cc64 hc' hs
   rw [if_neg (by omega)] at e
   cases hD with
   | lim hc hb'=>exact absurd hb hb'
   | err _ hc h0=>exact absurd (hc.cc.trans e) h0
   | shape hc hb'=>exact absurd hb hb'
   | sing P X0 X r d hc hb' hp hX h1 hr1=>have:=key hc' hs hp hp' hX hY h1 h2 hk he; omega
   | ok P X0 X r d hc hb' hp hX h1 hB hr1 hxl hlt hbk =>
     obtain rfl:P=P':=by omega
     obtain ⟨hpb,hn,hz0,hev⟩:=hc'.okk rfl
     obtain ⟨P2,hp2,hP2,_,hPr⟩:=ZbW hpb
     rw [hp] at hPr
     have hm:∀ i,i < n→(Z i).length=n:=fun i hi=>(hev i hi).trans hs.symm
     obtain ⟨f1,f2,f3⟩:=ElRun.full (xs:=xs) hPr (ZdS hp (by omega) hX hm) h1
     obtain ⟨e1,_,e3⟩:=f3 (by omega)
     have hS0:=e3 (Zoy (by omega) hB e1 hbk)
     have hS1:Sat P n Y0 xs:=fun i hi=>by rw [hY i hi,← hX i hi]; exact hS0 i hi
     obtain ⟨g1,g2,g3⟩:=RRun.full (xs:=xs) hPr (ZdS hp (by omega) hY hm) h2
     have hk2:k=n:=by have:=h2.le; omega
     subst hk2
     have:=g2.rn
     obtain ⟨i1,i2⟩:=g3 (by omega)
     refine ⟨rfl,Or.inr ⟨rfl,rfl,rfl,hxl,Zcp (by rw [hz,hxl]) (fun t ht=>?_)⟩⟩
     rw [hz] at ht
     rw [hzs t ht]
     exact Zpq g2 i1 (i2 hS1) hxl hlt ht
end
end Go.Proofs.YthlipnahcbcjkaaGreatDoor

namespace Go.Proofs.YthlipnahcbcjkaaGreatDoor
open Go.RowKit
theorem ZnR (x:Int):(x != x)=false:=by simp
theorem ZoA {x y:Nat} (h:x=y):(((x:Nat):Int) != ((y:Nat):Int))=false:=by subst h; simp
theorem ZmO {w w':World} {n k m:Nat} {Z:Nat→List Int} {e:Ending} (h:(∃ b:Bool,e=.returned (.bool b)∧(b=true→n≤k∧∀ i,i < n→(Z i).length≤m))∧Ext w w'):Zcy (fun x:{b:Bool // b=true→n≤k∧∀ i,i < n→(Z i).length≤m}=>.bool x.1) (fun _ _=>True) w e w':=by
 obtain ⟨⟨b,rfl,h⟩,Q⟩:=h
 exact ⟨⟨b,h⟩,rfl,Q,BoxN.pure trivial⟩
theorem ZdF (A B:Option Addr) (n ca cb:Nat) (zs:List Int) (w:World) (hl:zs.length=n) (hA:Zaq w A zs) (hB:Zaq w B zs) (hn:n≤100000) :
 Calls Tryz.prog 19 #[.slice A n ca, .slice B n cb] w (RetV w (.bool true)):=by
 refine Zbi (Φ:=fun w=>(Zaq w A zs∧Zaq w B zs)) Tryz.func19 rfl (by kernel_rfl) (fun w' hf=>⟨hA.ext hf,hB.ext hf⟩) ?_
 refine Zac (Zab (xr 1 [eS1 0 A n ca,eS1 1 B n cb,(4, .v (.bool false))] [] ?_))
 refine xe (Zaa (Zac (Zac (Zab (xr 5 [eS1 0 A n ca,eS1 1 B n cb,(4, .v (.bool false)),(10, .v (.bool ((((n:Nat):Int):Int) != ((n:Nat):Int))))] [] ?_)))))
 rw [ZoA rfl]
 refine xr 0 [eS1 0 A n ca,eS1 1 B n cb,(4, .v (.bool false)),(10, .v (.bool false))] [] ?_
 refine xe (Zaa (xb (Zam (Zaa (Zac (Zac (Zab (xr 1 [eS1 0 A n ca,eS1 1 B n cb,(4, .v (.bool false)),(5, .v (.int .i64 0))] [] ?_))))))))
 refine xe (Zaa (Zap ?_))
 refine SXc.weak [(0, .v (.slice A n ca)),(1, .v (.slice B n cb)),(4, .v (.bool false)),(5, .v (.int .i64 ((0:Nat):Int)))] [] (Ψ:=fun w=>(Zaq w A zs∧Zaq w B zs)) (Zaw.of (by kernel_rfl)) (by kernel_rfl) (fun w Q=>Q) ?_
 refine ZaU (fun nn ss ff=>∃ (k:Nat),ss=ofL [(0, .v (.slice A n ca)),(1, .v (.slice B n cb)),(4, .v (.bool false)),(5, .v (.int .i64 ((k:Nat):Int)))] []∧ff=(fun w=>(Zaq w A zs∧Zaq w B zs))∧(k≤n)∧nn=(n - k)) ((n - 0)) ⟨0,rfl,rfl,Nat.zero_le _,rfl⟩ ?_
 rintro nn ss ff ⟨k,rfl,rfl,hk,rfl⟩
 refine Zac (Zac (Zab (xr 4 [eS1 0 A n ca,eS1 1 B n cb,(4, .v (.bool false)),(5, .v (.int .i64 ((k:Nat):Int))),(14, .v (.bool (decide (((k:Nat):Int) < ((n:Nat):Int)))))] [] ?_)))
 refine xe (Zaa ?_)
 refine Zar ((decide (((k:Nat):Int) < ((n:Nat):Int)))) (by kernel_rfl) (fun hb10=>?_) (fun hb10=>?_)
 ·have hkn:k < n:=by have:=of_decide_eq_true hb10; omega
  refine Zam (Zaa (Zac (Zap (Zac ?_))))
  obtain ⟨z,hz⟩:∃ z,zs.getD k 0=z:=⟨_,rfl⟩
  refine Zej 9 (by kernel_rfl) (by kernel_rfl) ZaE ?_
  refine xf 2 [eS1 0 A n ca,eS1 1 B n cb,(4, .v (.bool false)),(5, .v (.int .i64 ((k:Nat):Int))),eS1 17 A n ca,(18, .v (.int .i64 ((k:Nat):Int)))] [] ?_
  refine xj 19 (atA A k) (fun w Q=>Zem (t:=23) (e:=3) (x:=.tmp 17) (ix:=.tmp 18) (cap:=ca) Q.1 hl hkn) ?_
  refine xj 20 (.int .i64 z) (fun w Q=>Zen (t:=3) (x:=.tmp 19) (j:=k) Q.1 (by omega) hz) ?_
  refine xf 2 [eS1 0 A n ca,eS1 1 B n cb,(4, .v (.bool false)),(5, .v (.int .i64 ((k:Nat):Int))),(20, .v (.int .i64 z)),eS1 21 B n cb,(22, .v (.int .i64 ((k:Nat):Int)))] [] ?_
  refine xj 23 (atA B k) (fun w Q=>Zem (t:=23) (e:=3) (x:=.tmp 21) (ix:=.tmp 22) (cap:=cb) Q.2 hl hkn) ?_
  refine xj 24 (.int .i64 z) (fun w Q=>Zen (t:=3) (x:=.tmp 23) (j:=k) Q.2 (by omega) hz) ?_
  refine xf 1 [eS1 0 A n ca,eS1 1 B n cb,(4, .v (.bool false)),(5, .v (.int .i64 ((k:Nat):Int))),(25, .v (.bool ((z:Int) != z)))] [] ?_
  rw [ZnR z]
  refine xf 0 [eS1 0 A n ca,eS1 1 B n cb,(4, .v (.bool false)),(5, .v (.int .i64 ((k:Nat):Int))),(25, .v (.bool false))] [] ?_
  refine xz (xe (Zaa (xb (Zam (ZaN (Zaa (Zab (xr 2 [eS1 0 A n ca,eS1 1 B n cb,(4, .v (.bool false)),(5, .v (.int .i64 ((k:Nat):Int))),(16, .v (.int .i64 (IntKind.i64.wrap (((k:Nat):Int) + 1))))] [] ?_))))))))
  rw [ZaI (k:=k) (by omega)]
  refine xr 1 [eS1 0 A n ca,eS1 1 B n cb,(4, .v (.bool false)),(5, .v (.int .i64 ((k + 1:Nat):Int)))] [] ?_
  refine xe ?_
  refine SXq.weak [(0, .v (.slice A n ca)),(1, .v (.slice B n cb)),(4, .v (.bool false)),(5, .v (.int .i64 (((k + 1):Nat):Int)))] [] (Ψ:=fun w=>(Zaq w A zs∧Zaq w B zs)) (Zaw.of (by kernel_rfl)) (by kernel_rfl) (fun w Q=>Q) ?_
  exact ZaB ((n - (k + 1))) (by omega) ⟨(k + 1),rfl,rfl,(by omega),rfl⟩
 ·have hkn:n≤k:=by have:=of_decide_eq_false hb10; omega
  refine ZaC (Zae (Zae (ZaO (Zaa (Zac (Zab (xr 1 [(4, .v (.bool true))] [] ?_)))))))
  refine xe (Zaa (Zao ?_))
  refine Zak (v:=.bool true) (by kernel_rfl) (fun w' R Q=>?_)
  exact ⟨rfl,R⟩
theorem Zhf (A0:Option Addr) (n c0 k m:Nat) (R:Nat→Option Addr) (C:Nat→Nat) (Z:Nat→List Int) (w:World) (ha:ArgI w A0 n R C Z) (hk:k≤100000) :
 Calls Tryz.prog 14 #[.slice A0 n c0, .int .i64 ((k:Nat):Int), .int .i64 ((m:Nat):Int)] w (fun e w'=>(∃ b:Bool,e=.returned (.bool b)∧(b=true→n≤k∧∀ i,i < n→(Z i).length≤m))∧Ext w w'):=by
 refine Zbi (Φ:=fun w=>ArgI w A0 n R C Z) Tryz.func14 rfl (by kernel_rfl) (fun w' hf=>ha.ext hf) ?_
 refine Zac (Zab (xr 1 [eS1 0 A0 n c0,(1, .v (.int .i64 ((k:Nat):Int))),(2, .v (.int .i64 ((m:Nat):Int))),(6, .v (.bool false))] [] ?_))
 refine xe (Zaa (Zac (Zac (Zab (xr 4 [eS1 0 A0 n c0,(2, .v (.int .i64 ((m:Nat):Int))),(6, .v (.bool false)),(11, .v (.bool (decide (((n:Nat):Int) > ((k:Nat):Int)))))] [] ?_)))))
 refine xe (Zaa ?_)
 refine Zar ((decide (((n:Nat):Int) > ((k:Nat):Int)))) (by kernel_rfl) (fun hb10=>?_) (fun hb10=>?_)
 ·have hnk:k < n:=by have:=of_decide_eq_true hb10; omega
  refine Zac (Zab (xr 1 [eS1 0 A0 n c0,(2, .v (.int .i64 ((m:Nat):Int))),(6, .v (.bool false))] [] ?_))
  refine xe (Zaa (Zao (Zag ?_)))
  refine Zak (v:=.bool false) (by kernel_rfl) (fun w' S Q=>?_)
  exact ⟨⟨false,rfl,fun e=>by cases e⟩,S⟩
 ·have hnk:n≤k:=by have:=of_decide_eq_false hb10; omega
  refine Zam (Zaa (Zac (Zac (Zab (xr 1 [eS1 0 A0 n c0,(2, .v (.int .i64 ((m:Nat):Int))),(6, .v (.bool false)),(7, .v (.int .i64 0))] [] ?_)))))
  refine xe (Zaa (Zap ?_))
  refine SXc.weak [(0, .v (.slice A0 n c0)),(2, .v (.int .i64 ((m:Nat):Int))),(6, .v (.bool false)),(7, .v (.int .i64 ((0:Nat):Int)))] [] (Ψ:=fun w=>ArgI w A0 n R C Z) (Zaw.of (by kernel_rfl)) (by kernel_rfl) (fun w Q=>Q) ?_
  refine ZaU (fun nn ss ff=>∃ (t:Nat),ss=ofL [(0, .v (.slice A0 n c0)),(2, .v (.int .i64 ((m:Nat):Int))),(6, .v (.bool false)),(7, .v (.int .i64 ((t:Nat):Int)))] []∧ff=(fun w=>ArgI w A0 n R C Z)∧(t≤n)∧(∀ i,i < t→(Z i).length≤m)∧nn=(n - t)) ((n - 0)) ⟨0,rfl,rfl,Nat.zero_le _,fun i hi=>absurd hi (by omega),rfl⟩ ?_
  rintro nn ss ff ⟨t,rfl,rfl,ht,hev,rfl⟩
  refine Zac (Zac (Zab (xr 4 [eS1 0 A0 n c0,(2, .v (.int .i64 ((m:Nat):Int))),(6, .v (.bool false)),(7, .v (.int .i64 ((t:Nat):Int))),(15, .v (.bool (decide (((t:Nat):Int) < ((n:Nat):Int)))))] [] ?_)))
  refine xe (Zaa ?_)
  refine Zar ((decide (((t:Nat):Int) < ((n:Nat):Int)))) (by kernel_rfl) (fun hb11=>?_) (fun hb11=>?_)
  ·have htn:t < n:=by have:=of_decide_eq_true hb11; omega
   refine Zam (Zaa (Zac (Zap (Zac (Zab (xr 2 [eS1 0 A0 n c0,(2, .v (.int .i64 ((m:Nat):Int))),(6, .v (.bool false)),(7, .v (.int .i64 ((t:Nat):Int))),eS1 18 A0 n c0,(19, .v (.int .i64 ((t:Nat):Int)))] [] ?_))))))
   refine xk 20 (atA A0 t) (fun w hE' Q=>Zbr (t:=22) (e:=23) (x:=.tmp 18) (ix:=.tmp 19) (i:=t) (cap:=c0) Q htn) ?_
   refine xk 21 (.slice (R t) (Z t).length (C t)) (fun w hE' Q=>Zbs (t:=23) (x:=.tmp 20) (i:=t) Q htn rfl) ?_
   refine xr 3 [eS1 0 A0 n c0,(2, .v (.int .i64 ((m:Nat):Int))),(6, .v (.bool false)),(7, .v (.int .i64 ((t:Nat):Int))),(24, .v (.bool (decide ((((Z t).length:Nat):Int) > ((m:Nat):Int)))))] [] ?_
   refine xe (Zaa ?_)
   refine Zar ((decide ((((Z t).length:Nat):Int) > ((m:Nat):Int)))) (by kernel_rfl) (fun hb12=>?_) (fun hb12=>?_)
   ·have hzm:m < (Z t).length:=by have:=of_decide_eq_true hb12; omega
    refine Zac (Zab (xr 1 [eS1 0 A0 n c0,(2, .v (.int .i64 ((m:Nat):Int))),(6, .v (.bool false)),(7, .v (.int .i64 ((t:Nat):Int)))] [] ?_))
    refine xe (Zaa (Zao (ZaZ (Zag (Zag (ZaZ (Zag ?_)))))))
    refine Zak (v:=.bool false) (by kernel_rfl) (fun w' S Q=>?_)
    exact ⟨⟨false,rfl,fun e=>by cases e⟩,S⟩
   ·have hzm:(Z t).length≤m:=by have:=of_decide_eq_false hb12; omega
    refine Zam (ZaN (Zaa (Zab (xr 2 [eS1 0 A0 n c0,(2, .v (.int .i64 ((m:Nat):Int))),(6, .v (.bool false)),(7, .v (.int .i64 ((t:Nat):Int))),(17, .v (.int .i64 (IntKind.i64.wrap (((t:Nat):Int) + 1))))] [] ?_))))
    rw [ZaI (k:=t) (by omega)]
    refine xr 1 [eS1 0 A0 n c0,(2, .v (.int .i64 ((m:Nat):Int))),(6, .v (.bool false)),(7, .v (.int .i64 ((t + 1:Nat):Int)))] [] ?_
    refine xe ?_
    refine SXq.weak [(0, .v (.slice A0 n c0)),(2, .v (.int .i64 ((m:Nat):Int))),(6, .v (.bool false)),(7, .v (.int .i64 (((t + 1):Nat):Int)))] [] (Ψ:=fun w=>ArgI w A0 n R C Z) (Zaw.of (by kernel_rfl)) (by kernel_rfl) (fun w Q=>Q) ?_
    exact ZaB ((n - (t + 1))) (by omega) ⟨(t + 1),rfl,rfl,(by omega),(fun i hi=>by rcases Nat.lt_or_ge i t with h3 | h3; exact hev i h3; obtain rfl:i=t:=(by omega); exact hzm),rfl⟩
  ·have htn:n≤t:=by have:=of_decide_eq_false hb11; omega
   refine ZaC (Zae (Zae (ZaO (Zaa (Zac (Zab (xr 1 [(6, .v (.bool true))] [] ?_)))))))
   refine xe (Zaa (Zao ?_))
   refine Zak (v:=.bool true) (by kernel_rfl) (fun w' S Q=>?_)
   exact ⟨⟨true,rfl,fun _=>⟨hnk,fun i hi=>hev i (by omega)⟩⟩,S⟩
end Go.Proofs.YthlipnahcbcjkaaGreatDoor
