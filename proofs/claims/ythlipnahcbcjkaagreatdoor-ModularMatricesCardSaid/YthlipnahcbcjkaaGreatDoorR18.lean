/-
 My texts Rew, Whole, Ra, Ts, Rec, RcM put together.
-/
import Derived.Test.YthlipnahcbcjkaaGreatDoorR16
import Derived.Test.YthlipnahcbcjkaaGreatDoorR11
import Derived.Test.YthlipnahcbcjkaaGreatDoorR15
import Derived.Deep.DeepCutAuto
import Derived.Deep.LoopGhost
set_option maxRecDepth 100000
namespace Go.Proofs.YthlipnahcbcjkaaGreatDoor
open Go.RowKit
theorem Zgv (a:Int) (P q:Nat) (w:World) (hp:0 < P) (hp2:P≤4294967296) (hq:a % (P:Int)=(q:Int)):Calls Tryz.prog 66 #[.int .i64 a, .int .i64 (P:Int)] w (RetV w (.int .i64 ((q:Nat):Int))):=by
 rw [← hq]; exact ZmL a (P:Int) w (by omega) (by omega)
theorem ZmM (y P:Nat) (w:World) (hP:Pr (P:Int)) (hy:y < P) (h0:0 < y):Calls Tryz.prog 137 #[.int .i64 ((y:Nat):Int), .int .i64 ((P:Nat):Int)] w (RetV w (.tuple #[.int .i64 ((invN y P:Nat):Int), .bool true])) :=
 (Zkp (y:Int) y P w hP (Int.emod_eq_of_lt (by omega) (by omega)) h0).mono (fun _ _ ⟨h1,h2⟩=>⟨h1,h2 ▸ Fr.refl _ _⟩)
theorem ZmN {x y p:Nat} (hx:x < p) (hy:y < p) (hp:p≤2147483647):IntKind.i64.wrap (((x:Nat):Int) * ((y:Nat):Int))=((x * y:Nat):Int):=by
 have h:=Nat.mul_lt_mul'' hx hy
 have h2:=Nat.mul_le_mul hp hp
 rw [← Int.natCast_mul,IntKind.wrap_i64]; omega
theorem Zp7 {x y p:Nat} (hx:x < p) (hy:y < p) (hp:p≤2147483647):IntKind.i64.wrap (((x:Nat):Int) - ((y:Nat):Int))=((x:Nat):Int) - ((y:Nat):Int):=by rw [IntKind.wrap_i64]; omega
theorem Zp8 {x p:Nat} (hx:x < p) (hp:p≤2147483647):IntKind.i64.wrap (0 - ((x:Nat):Int)) = -((x:Nat):Int):=by rw [IntKind.wrap_i64]; omega
theorem Zp9 {d P:Nat} (hd:d < P):(-((d:Nat):Int)) % ((P:Nat):Int)=(((P - d) % P:Nat):Int):=by
 rw [Int.natCast_emod,Int.natCast_sub (Nat.le_of_lt hd),← Int.add_emod_right,show -(d:Int) + (P:Int)=(P:Int) - (d:Int) by omega]
theorem Zqa {z v P:Nat} (hv:v≤P):(((z:Nat):Int) - ((v:Nat):Int)) % ((P:Nat):Int)=(((z + P - v) % P:Nat):Int):=by
 rw [Int.natCast_emod,Int.natCast_sub (by omega),Int.natCast_add,← Int.add_emod_right,show (z:Int) - (v:Int) + (P:Int)=(z:Int) + (P:Int) - (v:Int) by omega]
theorem ZpQ {x y:Nat} (h:x=y):(((x:Nat):Int) == ((y:Nat):Int))=true:=by subst h; simp
theorem ZpR {x y:Nat} (h:x≠y):(((x:Nat):Int) == ((y:Nat):Int))=false:=by
 rw [beq_eq_false_iff_ne]; omega
theorem sw_r {k r:Nat}:swF k r r=k:=by
 unfold swF
 by_cases h:r=k
 ·rw [if_pos h]; exact h
 ·rw [if_neg h,if_pos rfl]
def ZoT (w:World) (b n m cols p:Nat) (A0:Nat→Option Addr) (C0:Nat→Nat) (X0:Nat→List Nat) (e:Ending) (w':World):Prop:=∃ c r d A C X,e=.returned (.tuple #[.int .i64 ((r:Nat):Int), .int .i64 ((d:Nat):Int)])∧Fr (MatB b n ⟨A0,C0,X0⟩) w w' ∧
 RRun p n m X0 c X r d∧c≤cols∧(c=cols∨n≤r)∧ElB p n m X r d∧(∀ i,i < n→∃ j,j < n∧A i=A0 j)∧MI w' b n A C X
section
variable {p n m c r d1 q u e y:Nat} {X1:Nat→List Nat} {F:List Nat}
theorem lenR (hB:ElB p n m X1 r d1) (hF:F=mulP 0 (invN y p) p (X1 r) m) (i:Nat) (hi:i < n):(subR c p m r X1 F q i).length=m:=by
 unfold subR upF
 split
 ·rw [ZbP]; exact hB.len i hi
 ·split
  ·rename_i h; rw [hF,ZaD]; exact hB.len r (by omega)
  ·exact hB.len i hi
theorem ltR (hB:ElB p n m X1 r d1) (hF:F=mulP 0 (invN y p) p (X1 r) m) (hp:0 < p) (i:Nat) (hi:i < n):∀ x ∈ subR c p m r X1 F q i,x < p:=by
 unfold subR upF
 split
 ·exact Zl6 hp (hB.lt i hi)
 ·split
  ·rename_i h; rw [hF]; exact ZfZ hp (hB.lt r (by omega))
  ·exact hB.lt i hi
def upE (c p m r:Nat) (X1:Nat→List Nat) (F:List Nat) (q u e:Nat):Nat→List Nat:=fun i=>if i=q∧q≠r then subP u p (X1 q) F e else subR c p m r X1 F q i
theorem upE0:upE c p m r X1 F q u 0=subR c p m r X1 F q:=funext fun i=>by
 unfold upE
 by_cases h:i=q∧q≠r
 ·obtain ⟨rfl,h2⟩:=h
  rw [if_pos ⟨rfl,h2⟩,ZmF,Zlh h2]
 ·rw [if_neg h]
theorem lenE (hB:ElB p n m X1 r d1) (hF:F=mulP 0 (invN y p) p (X1 r) m) (i:Nat) (hi:i < n):(upE c p m r X1 F q u e i).length=m:=by
 unfold upE
 split
 ·rename_i h; rw [ZbP]; exact hB.len q (by omega)
 ·exact lenR hB hF i hi
theorem Zpr {z:Nat} (hqr:q≠r) (hz:(X1 q)[e]?.getD 0=z):(upE c p m r X1 F q u e q)[e]?.getD 0=z:=by unfold upE; rw [if_pos ⟨rfl,hqr⟩,Zor]; exact hz
theorem Zqb {v t:Nat} (hv:F[t]?.getD 0=v):(upE c p m r X1 F q u e r)[t]?.getD 0=v:=by unfold upE; rw [if_neg (by omega),ZpK]; exact hv
theorem Zoz {z v:Nat} (hqr:q≠r) (he:e < (X1 q).length) (hz:(X1 q)[e]?.getD 0=z) (hv:F[e]?.getD 0=v):upF (upE c p m r X1 F q u e) q ((upE c p m r X1 F q u e q).set e ((z + p - u * v % p) % p))=upE c p m r X1 F q u (e + 1):=funext fun i=>by
 by_cases h:i=q
 ·subst h; rw [Zas]; unfold upE; rw [if_pos ⟨rfl,hqr⟩,if_pos ⟨rfl,hqr⟩]; exact Znu he hz hv
 ·rw [ZaP h]; unfold upE; rw [if_neg (by omega),if_neg (by omega)]
theorem Zps (hB:ElB p n m X1 r d1) (hu:(subR c p m r X1 F q q)[c]?.getD 0=u) (he:m≤e) (hq:q < n) (h0:q=r→e=0):upE c p m r X1 F q u e=subR c p m r X1 F (q + 1):=by
 by_cases hqr:q=r
 ·rw [h0 hqr,upE0,hqr]; exact Zj3
 ·rw [Zlh hqr] at hu
  rw [← Znw hqr hu]
  refine funext fun i=>?_
  unfold upE
  by_cases h:i=q
  ·subst h; rw [if_pos ⟨rfl,hqr⟩,Zas]; exact Znv (by rw [hB.len i hq]; exact he) (by rw [hB.len i hq]; exact Nat.le_refl _)
  ·rw [if_neg (by omega),ZaP h]
end
theorem Zgw (b n m cols p:Nat) (A0:Nat→Option Addr) (C0:Nat→Nat) (X0:Nat→List Nat) (w:World) (hM:MI w b n A0 C0 X0) (hn:n≤1000) (hm:m≤1000) (hc:cols≤m) (hPr:Pr (p:Int)) (hp2:2≤p) (hp31:p≤2147483647) (hB0:ElB p n m X0 0 1) :
 Calls Tryz.prog 64 #[.slice (some ⟨b,0,none⟩) n n, .int .i64 ((cols:Nat):Int), .int .i64 ((p:Nat):Int)] w (ZoT w b n m cols p A0 C0 X0):=by
 refine Zj2 (MatB b n ⟨A0,C0,X0⟩) (Φ:=fun w=>MI w b n (A0) (C0) (X0)) Tryz.func64 rfl (by kernel_rfl) (fun w' hf=>hM.ext hf) ?_
 refine Zac (Zab (xr 2 [eS1 0 (some ⟨b,0,none⟩) n n,(1, .v (.int .i64 ((cols:Nat):Int))),(2, .v (.int .i64 ((p:Nat):Int))),(6, .v (.int .i64 0)),(7, .v (.int .i64 0))] [] ?_))
 refine xe (Zaa (Zac (Zab (xr 2 [eS1 0 (some ⟨b,0,none⟩) n n,(1, .v (.int .i64 ((cols:Nat):Int))),(2, .v (.int .i64 ((p:Nat):Int))),(6, .v (.int .i64 0)),(7, .v (.int .i64 0)),(8, .v (.int .i64 0)),(9, .v (.int .i64 1))] [] ?_))))
 refine xe (Zaa (Zac (Zac (Zab (xr 1 [eS1 0 (some ⟨b,0,none⟩) n n,(1, .v (.int .i64 ((cols:Nat):Int))),(2, .v (.int .i64 ((p:Nat):Int))),(6, .v (.int .i64 0)),(7, .v (.int .i64 0)),(8, .v (.int .i64 0)),(9, .v (.int .i64 1)),(10, .v (.int .i64 0))] [] ?_)))))
 refine xe (Zaa (Zap ?_))
 refine SXc.weak [(0, .v (.slice (some ⟨b,0,none⟩) n n)),(1, .v (.int .i64 ((cols:Nat):Int))),(2, .v (.int .i64 ((p:Nat):Int))),(6, .v (.int .i64 0)),(7, .v (.int .i64 0)),(8, .v (.int .i64 ((0:Nat):Int))),(9, .v (.int .i64 ((1:Nat):Int))),(10, .v (.int .i64 ((0:Nat):Int)))] [] (Ψ:=fun w=>MI w b n (A0) (C0) (X0)) (Zaw.of (by kernel_rfl)) (by kernel_rfl) (fun w Q=>Q) ?_
 refine ZaU (fun nn ss ff=>∃ (A:Nat→Option Addr) (C:Nat→Nat) (X:Nat→List Nat) (r d col:Nat),ss=ofL [(0, .v (.slice (some ⟨b,0,none⟩) n n)),(1, .v (.int .i64 ((cols:Nat):Int))),(2, .v (.int .i64 ((p:Nat):Int))),(6, .v (.int .i64 0)),(7, .v (.int .i64 0)),(8, .v (.int .i64 ((r:Nat):Int))),(9, .v (.int .i64 ((d:Nat):Int))),(10, .v (.int .i64 ((col:Nat):Int)))] []∧ff=(fun w=>MI w b n (A) (C) (X))∧(RRun p n m X0 col X r d)∧(ElB p n m X r d)∧(∀ i,i < n→∃ j,j < n∧A i=A0 j)∧(col≤cols)∧nn=(cols - col)) ((cols - 0)) ⟨A0,C0,X0,0,1,0,rfl,rfl, .nil,hB0,fun i hi=>⟨i,hi,rfl⟩,Nat.zero_le _,rfl⟩ ?_
 rintro nn ss ff ⟨A,C,X,r,d,col,rfl,rfl,hR,hB,hA,hcc,rfl⟩
 refine Zac (Zac (Zab (xr 4 [eS1 0 (some ⟨b,0,none⟩) n n,(1, .v (.int .i64 ((cols:Nat):Int))),(2, .v (.int .i64 ((p:Nat):Int))),(6, .v (.int .i64 0)),(7, .v (.int .i64 0)),(8, .v (.int .i64 ((r:Nat):Int))),(9, .v (.int .i64 ((d:Nat):Int))),(10, .v (.int .i64 ((col:Nat):Int))),(21, .v (.bool (decide (((col:Nat):Int) < ((cols:Nat):Int)))))] [] ?_)))
 rcases bl2 ((decide (((col:Nat):Int) < ((cols:Nat):Int)))) with hb10 | hb10
 ·rw [hb10]
  have hcol:col < cols:=by have:=of_decide_eq_true hb10; omega
  refine xr 5 [eS1 0 (some ⟨b,0,none⟩) n n,(1, .v (.int .i64 ((cols:Nat):Int))),(2, .v (.int .i64 ((p:Nat):Int))),(6, .v (.int .i64 0)),(7, .v (.int .i64 0)),(8, .v (.int .i64 ((r:Nat):Int))),(9, .v (.int .i64 ((d:Nat):Int))),(10, .v (.int .i64 ((col:Nat):Int))),(26, .v (.bool (decide (((r:Nat):Int) < ((n:Nat):Int)))))] [] ?_
  refine xe (Zaa ?_)
  refine Zar ((decide (((r:Nat):Int) < ((n:Nat):Int)))) (by kernel_rfl) (fun hb11=>?_) (fun hb11=>?_)
  ·have hrn:r < n:=by have:=of_decide_eq_true hb11; omega
   refine Zam (Zaa (Zac (Zap (Zac (Zab (xr 2 [eS1 0 (some ⟨b,0,none⟩) n n,(1, .v (.int .i64 ((cols:Nat):Int))),(2, .v (.int .i64 ((p:Nat):Int))),(6, .v (.int .i64 0)),(7, .v (.int .i64 0)),(8, .v (.int .i64 ((r:Nat):Int))),(9, .v (.int .i64 ((d:Nat):Int))),(10, .v (.int .i64 ((col:Nat):Int))),(11, .v (.int .i64 ((r:Nat):Int)))] [] ?_))))))
   refine xe (Zaa (Zac (Zap ?_)))
   refine SXc.weak [(0, .v (.slice (some ⟨b,0,none⟩) n n)),(1, .v (.int .i64 ((cols:Nat):Int))),(2, .v (.int .i64 ((p:Nat):Int))),(6, .v (.int .i64 0)),(7, .v (.int .i64 0)),(8, .v (.int .i64 ((r:Nat):Int))),(9, .v (.int .i64 ((d:Nat):Int))),(10, .v (.int .i64 ((col:Nat):Int))),(11, .v (.int .i64 ((r:Nat):Int)))] [] (Ψ:=fun w=>MI w b n (A) (C) (X)) (Zaw.of (by kernel_rfl)) (by kernel_rfl) (fun w Q=>Q) ?_
   refine ZaU (fun nn ss ff=>∃ (k:Nat),ss=ofL [(0, .v (.slice (some ⟨b,0,none⟩) n n)),(1, .v (.int .i64 ((cols:Nat):Int))),(2, .v (.int .i64 ((p:Nat):Int))),(6, .v (.int .i64 0)),(7, .v (.int .i64 0)),(8, .v (.int .i64 ((r:Nat):Int))),(9, .v (.int .i64 ((d:Nat):Int))),(10, .v (.int .i64 ((col:Nat):Int))),(11, .v (.int .i64 ((k:Nat):Int)))] []∧ff=(fun w=>MI w b n (A) (C) (X))∧(r≤k)∧(k≤n)∧(∀ i,r≤i→i < k→(X i)[col]?.getD 0=0)∧nn=(n - k)) ((n - r)) ⟨r,rfl,rfl,Nat.le_refl _,hB.rn,fun i h1 h2=>absurd h1 (by omega),rfl⟩ ?_
   rintro nn ss ff ⟨k,rfl,rfl,hk,hkn,hz,rfl⟩
   refine Zac (Zac ?_)
   obtain ⟨x,hx⟩:∃ x,(X k)[col]?.getD 0=x:=⟨_,rfl⟩
   refine Zab (xr 5 [eS1 0 (some ⟨b,0,none⟩) n n,(1, .v (.int .i64 ((cols:Nat):Int))),(2, .v (.int .i64 ((p:Nat):Int))),(6, .v (.int .i64 0)),(7, .v (.int .i64 0)),(8, .v (.int .i64 ((r:Nat):Int))),(9, .v (.int .i64 ((d:Nat):Int))),(10, .v (.int .i64 ((col:Nat):Int))),(11, .v (.int .i64 ((k:Nat):Int))),(34, .v (.bool (decide (((k:Nat):Int) < ((n:Nat):Int)))))] [] ?_)
   rcases bl2 ((decide (((k:Nat):Int) < ((n:Nat):Int)))) with hb12 | hb12
   ·rw [hb12]
    have hkk:k < n:=by have:=of_decide_eq_true hb12; omega
    refine xr 2 [eS1 0 (some ⟨b,0,none⟩) n n,(1, .v (.int .i64 ((cols:Nat):Int))),(2, .v (.int .i64 ((p:Nat):Int))),(6, .v (.int .i64 0)),(7, .v (.int .i64 0)),(8, .v (.int .i64 ((r:Nat):Int))),(9, .v (.int .i64 ((d:Nat):Int))),(10, .v (.int .i64 ((col:Nat):Int))),(11, .v (.int .i64 ((k:Nat):Int))),(34, .v (.bool true)),eS1 35 (some ⟨b,0,none⟩) n n,(36, .v (.int .i64 ((k:Nat):Int)))] [] ?_
    refine xk 37 (.pointer (some ⟨b,k,none⟩)) (fun w hE' Q=>Zax (g:=b) (len:=n) (cap:=n) (i:=k) (t:=22) (e:=23) (x:=.tmp 35) (ix:=.tmp 36) (by omega)) ?_
    refine xk 38 (.slice (A k) m (C k)) (fun w hE' Q=>ZaQ (t:=23) (x:=.tmp 37) (i:=k) (m:=m) Q (by omega) (hB.len k (by omega))) ?_
    refine xr 1 [eS1 0 (some ⟨b,0,none⟩) n n,(1, .v (.int .i64 ((cols:Nat):Int))),(2, .v (.int .i64 ((p:Nat):Int))),(6, .v (.int .i64 0)),(7, .v (.int .i64 0)),(8, .v (.int .i64 ((r:Nat):Int))),(9, .v (.int .i64 ((d:Nat):Int))),(10, .v (.int .i64 ((col:Nat):Int))),(11, .v (.int .i64 ((k:Nat):Int))),(34, .v (.bool true)),eS1 38 (A k) m (C k),(39, .v (.int .i64 ((col:Nat):Int)))] [] ?_
    refine xk 40 (atA (A k) col) (fun w hE' Q=>Za4 (t:=23) (e:=3) (x:=.tmp 38) (ix:=.tmp 39) (cap:=C k) (i:=k) (m:=m) Q (by omega) (hB.len k (by omega)) (by omega)) ?_
    refine xk 41 (.int .i64 ((x:Nat):Int)) (fun w hE' Q=>Zbo (t:=3) (x:=.tmp 40) (i:=k) (j:=col) (m:=m) Q (by omega) (hB.len k (by omega)) (by omega) hx) ?_
    refine xr 2 [eS1 0 (some ⟨b,0,none⟩) n n,(1, .v (.int .i64 ((cols:Nat):Int))),(2, .v (.int .i64 ((p:Nat):Int))),(6, .v (.int .i64 0)),(7, .v (.int .i64 0)),(8, .v (.int .i64 ((r:Nat):Int))),(9, .v (.int .i64 ((d:Nat):Int))),(10, .v (.int .i64 ((col:Nat):Int))),(11, .v (.int .i64 ((k:Nat):Int))),(43, .v (.bool ((((x:Nat):Int):Int) == 0)))] [] ?_
    refine xe (Zaa ?_)
    refine Zar (((((x:Nat):Int):Int) == 0)) (by kernel_rfl) (fun hb13=>?_) (fun hb13=>?_)
    ·have hx0:x=0:=z_eq hb13
     refine Zam (Zaa (Zap (Zab (xr 2 [eS1 0 (some ⟨b,0,none⟩) n n,(1, .v (.int .i64 ((cols:Nat):Int))),(2, .v (.int .i64 ((p:Nat):Int))),(6, .v (.int .i64 0)),(7, .v (.int .i64 0)),(8, .v (.int .i64 ((r:Nat):Int))),(9, .v (.int .i64 ((d:Nat):Int))),(10, .v (.int .i64 ((col:Nat):Int))),(11, .v (.int .i64 ((k:Nat):Int))),(45, .v (.int .i64 (IntKind.i64.wrap (((k:Nat):Int) + 1))))] [] ?_))))
     rw [ZaI (k:=k) (by omega)]
     refine xr 1 [eS1 0 (some ⟨b,0,none⟩) n n,(1, .v (.int .i64 ((cols:Nat):Int))),(2, .v (.int .i64 ((p:Nat):Int))),(6, .v (.int .i64 0)),(7, .v (.int .i64 0)),(8, .v (.int .i64 ((r:Nat):Int))),(9, .v (.int .i64 ((d:Nat):Int))),(10, .v (.int .i64 ((col:Nat):Int))),(11, .v (.int .i64 ((k + 1:Nat):Int)))] [] ?_
     refine xe (ZaN ?_)
     refine SXq.weak [(0, .v (.slice (some ⟨b,0,none⟩) n n)),(1, .v (.int .i64 ((cols:Nat):Int))),(2, .v (.int .i64 ((p:Nat):Int))),(6, .v (.int .i64 0)),(7, .v (.int .i64 0)),(8, .v (.int .i64 ((r:Nat):Int))),(9, .v (.int .i64 ((d:Nat):Int))),(10, .v (.int .i64 ((col:Nat):Int))),(11, .v (.int .i64 (((k + 1):Nat):Int)))] [] (Ψ:=fun w=>MI w b n (A) (C) (X)) (Zaw.of (by kernel_rfl)) (by kernel_rfl) (fun w Q=>Q) ?_
     exact ZaB ((n - (k + 1))) (by omega) ⟨(k + 1),rfl,rfl,(by omega),(by omega),(fun i h1 h2=>by rcases Nat.lt_or_ge i k with h3 | h3; exact hz i h1 h3; obtain rfl:i=k:=(by omega); rw [hx]; exact hx0),rfl⟩
    ·have hx0:x≠0:=z_ne hb13
     refine ZaC (Zae (Zae (ZaO (Zaa (Zac (Zac ?_))))))
     have hne:(X k)[col]?.getD 0≠0:=by rw [hx]; exact hx0
     refine Zab (xr 4 [eS1 0 (some ⟨b,0,none⟩) n n,(1, .v (.int .i64 ((cols:Nat):Int))),(2, .v (.int .i64 ((p:Nat):Int))),(6, .v (.int .i64 0)),(7, .v (.int .i64 0)),(8, .v (.int .i64 ((r:Nat):Int))),(9, .v (.int .i64 ((d:Nat):Int))),(10, .v (.int .i64 ((col:Nat):Int))),(11, .v (.int .i64 ((k:Nat):Int))),(49, .v (.bool ((((k:Nat):Int):Int) == ((n:Nat):Int))))] [] ?_)
     rw [ZpR (by omega)]
     refine xr 0 [eS1 0 (some ⟨b,0,none⟩) n n,(1, .v (.int .i64 ((cols:Nat):Int))),(2, .v (.int .i64 ((p:Nat):Int))),(6, .v (.int .i64 0)),(7, .v (.int .i64 0)),(8, .v (.int .i64 ((r:Nat):Int))),(9, .v (.int .i64 ((d:Nat):Int))),(10, .v (.int .i64 ((col:Nat):Int))),(11, .v (.int .i64 ((k:Nat):Int))),(49, .v (.bool false))] [] ?_
     refine xe (Zaa (xb (Zam (Zaa ?_))))
     refine Zno (fun ss ff=>∃ (A1:Nat→Option Addr) (C1:Nat→Nat) (X1:Nat→List Nat) (d1:Nat),ss=ofL [(0, .v (.slice (some ⟨b,0,none⟩) n n)),(1, .v (.int .i64 ((cols:Nat):Int))),(2, .v (.int .i64 ((p:Nat):Int))),(6, .v (.int .i64 0)),(7, .v (.int .i64 0)),(8, .v (.int .i64 ((r:Nat):Int))),(9, .v (.int .i64 ((d1:Nat):Int))),(10, .v (.int .i64 ((col:Nat):Int)))] []∧ff=(fun w=>MI w b n (A1) (C1) (X1))∧(X1=fun i=>X (swF k r i))∧(d1=if k=r then d else (p - d) % p)∧(ElB p n m X1 r d1)∧(∀ i,i < n→∃ j,j < n∧A1 i=A0 j)) ?_ ?_
     ·refine Zac (Zab (xr 3 [eS1 0 (some ⟨b,0,none⟩) n n,(1, .v (.int .i64 ((cols:Nat):Int))),(2, .v (.int .i64 ((p:Nat):Int))),(6, .v (.int .i64 0)),(7, .v (.int .i64 0)),(8, .v (.int .i64 ((r:Nat):Int))),(9, .v (.int .i64 ((d:Nat):Int))),(10, .v (.int .i64 ((col:Nat):Int))),(11, .v (.int .i64 ((k:Nat):Int))),(52, .v (.bool ((((k:Nat):Int):Int) != ((r:Nat):Int))))] [] ?_))
      refine xe (Zaa ?_)
      refine Zar (((((k:Nat):Int):Int) != ((r:Nat):Int))) (by kernel_rfl) (fun hb14=>?_) (fun hb14=>?_)
      ·have hkr:=ZcY hb14
       refine Zac ?_
       refine Zfc 13 0 53 11 54 0 55 8 56 (.slice (some ⟨b,0,none⟩) n n) (.int .i64 ((k:Nat):Int)) (.slice (some ⟨b,0,none⟩) n n) (.int .i64 ((r:Nat):Int)) ?_
       refine xf 2 [eS1 0 (some ⟨b,0,none⟩) n n,(1, .v (.int .i64 ((cols:Nat):Int))),(2, .v (.int .i64 ((p:Nat):Int))),(6, .v (.int .i64 0)),(7, .v (.int .i64 0)),(8, .v (.int .i64 ((r:Nat):Int))),(9, .v (.int .i64 ((d:Nat):Int))),(10, .v (.int .i64 ((col:Nat):Int))),(11, .v (.int .i64 ((k:Nat):Int))),eS1 53 (some ⟨b,0,none⟩) n n,(54, .v (.int .i64 ((k:Nat):Int))),eS1 55 (some ⟨b,0,none⟩) n n,(56, .v (.int .i64 ((r:Nat):Int))),eS1 57 (some ⟨b,0,none⟩) n n,(58, .v (.int .i64 ((r:Nat):Int)))] [] ?_
       refine xj 59 (.pointer (some ⟨b,r,none⟩)) (fun w Q=>Zax (g:=b) (len:=n) (cap:=n) (i:=r) (t:=22) (e:=23) (x:=.tmp 57) (ix:=.tmp 58) (by omega)) ?_
       refine xj 60 (.slice (A r) m (C r)) (fun w Q=>ZaQ (t:=23) (x:=.tmp 59) (i:=r) (m:=m) Q (by omega) (hB.len r (by omega))) ?_
       refine xf 2 [eS1 0 (some ⟨b,0,none⟩) n n,(1, .v (.int .i64 ((cols:Nat):Int))),(2, .v (.int .i64 ((p:Nat):Int))),(6, .v (.int .i64 0)),(7, .v (.int .i64 0)),(8, .v (.int .i64 ((r:Nat):Int))),(9, .v (.int .i64 ((d:Nat):Int))),(10, .v (.int .i64 ((col:Nat):Int))),eS1 53 (some ⟨b,0,none⟩) n n,(54, .v (.int .i64 ((k:Nat):Int))),eS1 55 (some ⟨b,0,none⟩) n n,(56, .v (.int .i64 ((r:Nat):Int))),eS1 60 (A r) m (C r),eS1 61 (some ⟨b,0,none⟩) n n,(62, .v (.int .i64 ((k:Nat):Int)))] [] ?_
       refine xj 63 (.pointer (some ⟨b,k,none⟩)) (fun w Q=>Zax (g:=b) (len:=n) (cap:=n) (i:=k) (t:=22) (e:=23) (x:=.tmp 61) (ix:=.tmp 62) (by omega)) ?_
       refine xj 64 (.slice (A k) m (C k)) (fun w Q=>ZaQ (t:=23) (x:=.tmp 63) (i:=k) (m:=m) Q (by omega) (hB.len k (by omega))) ?_
       refine xj 65 (.pointer (some ⟨b,k,none⟩)) (fun w Q=>Zax (g:=b) (len:=n) (cap:=n) (i:=k) (t:=22) (e:=23) (x:=.tmp 53) (ix:=.tmp 54) (by omega)) ?_
       refine xf 0 [eS1 0 (some ⟨b,0,none⟩) n n,(1, .v (.int .i64 ((cols:Nat):Int))),(2, .v (.int .i64 ((p:Nat):Int))),(6, .v (.int .i64 0)),(7, .v (.int .i64 0)),(8, .v (.int .i64 ((r:Nat):Int))),(9, .v (.int .i64 ((d:Nat):Int))),(10, .v (.int .i64 ((col:Nat):Int))),eS1 55 (some ⟨b,0,none⟩) n n,(56, .v (.int .i64 ((r:Nat):Int))),eS1 60 (A r) m (C r),eS1 64 (A k) m (C k),(65, .v (.pointer (some ⟨b,k,none⟩)))] [] ?_
       refine xz ?_
       refine Zb8 (fun w=>Zku .i64 3 23 w b n ⟨A,C,X⟩ k r) (fun w hE' Q=>stH1 (t:=23) (x:=.tmp 65) (y:=.tmp 60) (r:=k) (q:=r) Q hE' (Or.inl (Or.inl rfl)) hkk (hB.len r (by omega))) ?_
       refine xk 66 (.pointer (some ⟨b,r,none⟩)) (fun w hE' Q=>Zax (g:=b) (len:=n) (cap:=n) (i:=r) (t:=22) (e:=23) (x:=.tmp 55) (ix:=.tmp 56) (by omega)) ?_
       refine Zb8 (fun w=>MI w b n (fun i=>A (swF k r i)) (fun i=>C (swF k r i)) (fun i=>X (swF k r i))) (fun w hE' Q=>stH2 (t:=23) (x:=.tmp 66) (y:=.tmp 64) (r:=k) (q:=r) Q hE' (Or.inl (Or.inl rfl)) hkk (by omega) hkr (hB.len k (by omega))) ?_
       refine xr 0 [eS1 0 (some ⟨b,0,none⟩) n n,(1, .v (.int .i64 ((cols:Nat):Int))),(2, .v (.int .i64 ((p:Nat):Int))),(6, .v (.int .i64 0)),(7, .v (.int .i64 0)),(8, .v (.int .i64 ((r:Nat):Int))),(9, .v (.int .i64 ((d:Nat):Int))),(10, .v (.int .i64 ((col:Nat):Int)))] [] ?_
       refine xe (Zaa (Zab (xr 2 [eS1 0 (some ⟨b,0,none⟩) n n,(1, .v (.int .i64 ((cols:Nat):Int))),(2, .v (.int .i64 ((p:Nat):Int))),(6, .v (.int .i64 0)),(7, .v (.int .i64 0)),(8, .v (.int .i64 ((r:Nat):Int))),(9, .v (.int .i64 ((d:Nat):Int))),(10, .v (.int .i64 ((col:Nat):Int))),(68, .v (.int .i64 (IntKind.i64.wrap (0 - ((d:Nat):Int)))))] [] ?_)))
       rw [Zp8 hB.dp hp31]
       refine xr 1 [eS1 0 (some ⟨b,0,none⟩) n n,(1, .v (.int .i64 ((cols:Nat):Int))),(2, .v (.int .i64 ((p:Nat):Int))),(6, .v (.int .i64 0)),(7, .v (.int .i64 0)),(8, .v (.int .i64 ((r:Nat):Int))),(9, .v (.int .i64 ((d:Nat):Int))),(10, .v (.int .i64 ((col:Nat):Int))),(68, .v (.int .i64 (-((d:Nat):Int)))),(69, .v (.int .i64 ((p:Nat):Int)))] [] ?_
       refine xc 66 [.int .i64 (-((d:Nat):Int)), .int .i64 ((p:Nat):Int)] 70 (fun _:Unit=>.int .i64 (((p - d) % p:Nat):Int)) _ (fun w R Q=>(Zgv (-((d:Nat):Int)) p ((p - d) % p) _ (by omega) (by omega) (Zp9 hB.dp)).mono (fun _ _ h=>Zau h rfl)) (fun xx=>?_)
       refine xr 1 [eS1 0 (some ⟨b,0,none⟩) n n,(1, .v (.int .i64 ((cols:Nat):Int))),(2, .v (.int .i64 ((p:Nat):Int))),(6, .v (.int .i64 0)),(7, .v (.int .i64 0)),(8, .v (.int .i64 ((r:Nat):Int))),(9, .v (.int .i64 (((p - d) % p:Nat):Int))),(10, .v (.int .i64 ((col:Nat):Int)))] [] ?_
       refine xe ?_
       refine SXq.weak [(0, .v (.slice (some ⟨b,0,none⟩) n n)),(1, .v (.int .i64 ((cols:Nat):Int))),(2, .v (.int .i64 ((p:Nat):Int))),(6, .v (.int .i64 0)),(7, .v (.int .i64 0)),(8, .v (.int .i64 ((r:Nat):Int))),(9, .v (.int .i64 ((((p - d) % p):Nat):Int))),(10, .v (.int .i64 ((col:Nat):Int)))] [] (Ψ:=fun w=>MI w b n ((fun i=>A (swF k r i))) ((fun i=>C (swF k r i))) ((fun i=>X (swF k r i)))) (Zaw.of (by kernel_rfl)) (by kernel_rfl) (fun w Q=>Q.1) ?_
       exact Zhx ⟨(fun i=>A (swF k r i)),(fun i=>C (swF k r i)),(fun i=>X (swF k r i)),((p - d) % p),rfl,rfl,rfl,(if_neg hkr).symm,⟨fun _ hi=>hB.len _ (ZbM hkk (by omega) hi),fun _ hi=>hB.lt _ (ZbM hkk (by omega) hi),hB.rn,Nat.mod_lt _ (by omega)⟩,(fun i hi=>hA _ (ZbM hkk (by omega) hi))⟩
      ·have hkr:=ZcZ hb14
       refine Zam ?_
       refine SXq.weak [(0, .v (.slice (some ⟨b,0,none⟩) n n)),(1, .v (.int .i64 ((cols:Nat):Int))),(2, .v (.int .i64 ((p:Nat):Int))),(6, .v (.int .i64 0)),(7, .v (.int .i64 0)),(8, .v (.int .i64 ((r:Nat):Int))),(9, .v (.int .i64 ((d:Nat):Int))),(10, .v (.int .i64 ((col:Nat):Int)))] [] (Ψ:=fun w=>MI w b n (A) (C) (X)) (Zaw.of (by kernel_rfl)) (by kernel_rfl) (fun w Q=>Q) ?_
       exact Zhx ⟨A,C,X,d,rfl,rfl,(by rw [hkr]; exact funext fun i=>by rw [Zld]),(if_pos hkr).symm,hB,hA⟩
     ·rintro ss ff ⟨A1,C1,X1,d1,rfl,rfl,hX1,hd1,hB1,hA1⟩
      refine Zac ?_
      obtain ⟨y,hy⟩:∃ y,(X1 r)[col]?.getD 0=y:=⟨_,rfl⟩
      have hyp:y < p:=by rw [← hy]; exact hB1.get (by omega) (by omega)
      have hy0:0 < y:=by have h:y≠0:=(by rw [← hy,hX1]; show (X (swF k r r))[col]?.getD 0≠0; rw [show swF k r r=k from sw_r]; exact hne); omega
      have hsp:invN y p < p:=Zlf (by omega)
      obtain ⟨F,hF⟩:∃ F,F=mulP 0 (invN y p) p (X1 r) m:=⟨_,rfl⟩
      refine Zab (xr 3 [eS1 0 (some ⟨b,0,none⟩) n n,(1, .v (.int .i64 ((cols:Nat):Int))),(2, .v (.int .i64 ((p:Nat):Int))),(6, .v (.int .i64 0)),(7, .v (.int .i64 0)),(8, .v (.int .i64 ((r:Nat):Int))),(9, .v (.int .i64 ((d1:Nat):Int))),(10, .v (.int .i64 ((col:Nat):Int))),(71, .v (.int .i64 ((d1:Nat):Int))),eS1 72 (some ⟨b,0,none⟩) n n,(73, .v (.int .i64 ((r:Nat):Int)))] [] ?_)
      refine xk 74 (.pointer (some ⟨b,r,none⟩)) (fun w hE' Q=>Zax (g:=b) (len:=n) (cap:=n) (i:=r) (t:=22) (e:=23) (x:=.tmp 72) (ix:=.tmp 73) (by omega)) ?_
      refine xk 75 (.slice (A1 r) m (C1 r)) (fun w hE' Q=>ZaQ (t:=23) (x:=.tmp 74) (i:=r) (m:=m) Q (by omega) (hB1.len r (by omega))) ?_
      refine xr 1 [eS1 0 (some ⟨b,0,none⟩) n n,(1, .v (.int .i64 ((cols:Nat):Int))),(2, .v (.int .i64 ((p:Nat):Int))),(6, .v (.int .i64 0)),(7, .v (.int .i64 0)),(8, .v (.int .i64 ((r:Nat):Int))),(9, .v (.int .i64 ((d1:Nat):Int))),(10, .v (.int .i64 ((col:Nat):Int))),(71, .v (.int .i64 ((d1:Nat):Int))),eS1 75 (A1 r) m (C1 r),(76, .v (.int .i64 ((col:Nat):Int)))] [] ?_
      refine xk 77 (atA (A1 r) col) (fun w hE' Q=>Za4 (t:=23) (e:=3) (x:=.tmp 75) (ix:=.tmp 76) (cap:=C1 r) (i:=r) (m:=m) Q (by omega) (hB1.len r (by omega)) (by omega)) ?_
      refine xk 78 (.int .i64 ((y:Nat):Int)) (fun w hE' Q=>Zbo (t:=3) (x:=.tmp 77) (i:=r) (j:=col) (m:=m) Q (by omega) (hB1.len r (by omega)) (by omega) hy) ?_
      refine xr 1 [eS1 0 (some ⟨b,0,none⟩) n n,(1, .v (.int .i64 ((cols:Nat):Int))),(2, .v (.int .i64 ((p:Nat):Int))),(6, .v (.int .i64 0)),(7, .v (.int .i64 0)),(8, .v (.int .i64 ((r:Nat):Int))),(9, .v (.int .i64 ((d1:Nat):Int))),(10, .v (.int .i64 ((col:Nat):Int))),(79, .v (.int .i64 (IntKind.i64.wrap (((d1:Nat):Int) * ((y:Nat):Int)))))] [] ?_
      rw [ZmN hB1.dp hyp hp31]
      refine xr 1 [eS1 0 (some ⟨b,0,none⟩) n n,(1, .v (.int .i64 ((cols:Nat):Int))),(2, .v (.int .i64 ((p:Nat):Int))),(6, .v (.int .i64 0)),(7, .v (.int .i64 0)),(8, .v (.int .i64 ((r:Nat):Int))),(9, .v (.int .i64 ((d1:Nat):Int))),(10, .v (.int .i64 ((col:Nat):Int))),(79, .v (.int .i64 ((d1 * y:Nat):Int))),(80, .v (.int .i64 ((p:Nat):Int)))] [] ?_
      refine xk 81 (.int .i64 (((d1 * y) % p:Nat):Int)) (fun w hE' Q=>Zdj (k:=.i64) (t:=3) (k':=3) (x:=.tmp 79) (y:=.tmp 80) (a:=(d1 * y)) (b:=p) (by omega)) ?_
      refine xr 1 [eS1 0 (some ⟨b,0,none⟩) n n,(1, .v (.int .i64 ((cols:Nat):Int))),(2, .v (.int .i64 ((p:Nat):Int))),(6, .v (.int .i64 0)),(7, .v (.int .i64 0)),(8, .v (.int .i64 ((r:Nat):Int))),(9, .v (.int .i64 (((d1 * y) % p:Nat):Int))),(10, .v (.int .i64 ((col:Nat):Int)))] [] ?_
      refine xe (Zaa (Zac (Zab (xr 2 [eS1 0 (some ⟨b,0,none⟩) n n,(1, .v (.int .i64 ((cols:Nat):Int))),(2, .v (.int .i64 ((p:Nat):Int))),(6, .v (.int .i64 0)),(7, .v (.int .i64 0)),(8, .v (.int .i64 ((r:Nat):Int))),(9, .v (.int .i64 (((d1 * y) % p:Nat):Int))),(10, .v (.int .i64 ((col:Nat):Int))),eS1 83 (some ⟨b,0,none⟩) n n,(84, .v (.int .i64 ((r:Nat):Int)))] [] ?_))))
      refine xk 85 (.pointer (some ⟨b,r,none⟩)) (fun w hE' Q=>Zax (g:=b) (len:=n) (cap:=n) (i:=r) (t:=22) (e:=23) (x:=.tmp 83) (ix:=.tmp 84) (by omega)) ?_
      refine xk 86 (.slice (A1 r) m (C1 r)) (fun w hE' Q=>ZaQ (t:=23) (x:=.tmp 85) (i:=r) (m:=m) Q (by omega) (hB1.len r (by omega))) ?_
      refine xr 1 [eS1 0 (some ⟨b,0,none⟩) n n,(1, .v (.int .i64 ((cols:Nat):Int))),(2, .v (.int .i64 ((p:Nat):Int))),(6, .v (.int .i64 0)),(7, .v (.int .i64 0)),(8, .v (.int .i64 ((r:Nat):Int))),(9, .v (.int .i64 (((d1 * y) % p:Nat):Int))),(10, .v (.int .i64 ((col:Nat):Int))),eS1 86 (A1 r) m (C1 r),(87, .v (.int .i64 ((col:Nat):Int)))] [] ?_
      refine xk 88 (atA (A1 r) col) (fun w hE' Q=>Za4 (t:=23) (e:=3) (x:=.tmp 86) (ix:=.tmp 87) (cap:=C1 r) (i:=r) (m:=m) Q (by omega) (hB1.len r (by omega)) (by omega)) ?_
      refine xk 89 (.int .i64 ((y:Nat):Int)) (fun w hE' Q=>Zbo (t:=3) (x:=.tmp 88) (i:=r) (j:=col) (m:=m) Q (by omega) (hB1.len r (by omega)) (by omega) hy) ?_
      refine xr 1 [eS1 0 (some ⟨b,0,none⟩) n n,(1, .v (.int .i64 ((cols:Nat):Int))),(2, .v (.int .i64 ((p:Nat):Int))),(6, .v (.int .i64 0)),(7, .v (.int .i64 0)),(8, .v (.int .i64 ((r:Nat):Int))),(9, .v (.int .i64 (((d1 * y) % p:Nat):Int))),(10, .v (.int .i64 ((col:Nat):Int))),(89, .v (.int .i64 ((y:Nat):Int))),(90, .v (.int .i64 ((p:Nat):Int)))] [] ?_
      refine xc 137 [.int .i64 ((y:Nat):Int), .int .i64 ((p:Nat):Int)] 91 (fun _:Unit=>.tuple #[.int .i64 ((invN y p:Nat):Int), .bool true]) _ (fun w R Q=>(ZmM y p _ hPr hyp hy0).mono (fun _ _ h=>Zau h rfl)) (fun xx=>?_)
      refine xr 5 [eS1 0 (some ⟨b,0,none⟩) n n,(1, .v (.int .i64 ((cols:Nat):Int))),(2, .v (.int .i64 ((p:Nat):Int))),(6, .v (.int .i64 0)),(7, .v (.int .i64 0)),(8, .v (.int .i64 ((r:Nat):Int))),(9, .v (.int .i64 (((d1 * y) % p:Nat):Int))),(10, .v (.int .i64 ((col:Nat):Int))),(12, .v (.int .i64 ((invN y p:Nat):Int)))] [] ?_
      refine xe (Zaa (Zac (Zac (Zab (xr 1 [eS1 0 (some ⟨b,0,none⟩) n n,(1, .v (.int .i64 ((cols:Nat):Int))),(2, .v (.int .i64 ((p:Nat):Int))),(6, .v (.int .i64 0)),(7, .v (.int .i64 0)),(8, .v (.int .i64 ((r:Nat):Int))),(9, .v (.int .i64 (((d1 * y) % p:Nat):Int))),(10, .v (.int .i64 ((col:Nat):Int))),(12, .v (.int .i64 ((invN y p:Nat):Int))),(14, .v (.int .i64 0))] [] ?_)))))
      refine xe (Zaa (Zap ?_))
      refine SXc.weak [(0, .v (.slice (some ⟨b,0,none⟩) n n)),(1, .v (.int .i64 ((cols:Nat):Int))),(2, .v (.int .i64 ((p:Nat):Int))),(6, .v (.int .i64 0)),(7, .v (.int .i64 0)),(8, .v (.int .i64 ((r:Nat):Int))),(9, .v (.int .i64 (((d1 * y) % p:Nat):Int))),(10, .v (.int .i64 ((col:Nat):Int))),(12, .v (.int .i64 ((invN y p:Nat):Int))),(14, .v (.int .i64 ((0:Nat):Int)))] [] (Ψ:=fun w=>MI w b n (A1) (C1) (upF X1 r (mulP 0 (invN y p) p (X1 r) 0))) (Zaw.of (by kernel_rfl)) (by kernel_rfl) (fun w Q=>(by rw [ZiX,Zij]; exact Q.1)) ?_
      refine ZaU (fun nn ss ff=>∃ (j:Nat),ss=ofL [(0, .v (.slice (some ⟨b,0,none⟩) n n)),(1, .v (.int .i64 ((cols:Nat):Int))),(2, .v (.int .i64 ((p:Nat):Int))),(6, .v (.int .i64 0)),(7, .v (.int .i64 0)),(8, .v (.int .i64 ((r:Nat):Int))),(9, .v (.int .i64 (((d1 * y) % p:Nat):Int))),(10, .v (.int .i64 ((col:Nat):Int))),(12, .v (.int .i64 ((invN y p:Nat):Int))),(14, .v (.int .i64 ((j:Nat):Int)))] []∧ff=(fun w=>MI w b n (A1) (C1) (upF X1 r (mulP 0 (invN y p) p (X1 r) j)))∧(j≤m)∧nn=(m - j)) ((m - 0)) ⟨0,rfl,rfl,Nat.zero_le _,rfl⟩ ?_
      rintro nn ss ff ⟨j,rfl,rfl,hj2,rfl⟩
      refine Zac (Zac (Zab (xr 3 [eS1 0 (some ⟨b,0,none⟩) n n,(1, .v (.int .i64 ((cols:Nat):Int))),(2, .v (.int .i64 ((p:Nat):Int))),(6, .v (.int .i64 0)),(7, .v (.int .i64 0)),(8, .v (.int .i64 ((r:Nat):Int))),(9, .v (.int .i64 (((d1 * y) % p:Nat):Int))),(10, .v (.int .i64 ((col:Nat):Int))),(12, .v (.int .i64 ((invN y p:Nat):Int))),(14, .v (.int .i64 ((j:Nat):Int))),(94, .v (.int .i64 ((j:Nat):Int))),eS1 95 (some ⟨b,0,none⟩) n n,(96, .v (.int .i64 ((r:Nat):Int)))] [] ?_)))
      refine xk 97 (.pointer (some ⟨b,r,none⟩)) (fun w hE' Q=>Zax (g:=b) (len:=n) (cap:=n) (i:=r) (t:=22) (e:=23) (x:=.tmp 95) (ix:=.tmp 96) (by omega)) ?_
      refine xk 98 (.slice (A1 r) m (C1 r)) (fun w hE' Q=>ZaQ (t:=23) (x:=.tmp 97) (i:=r) (m:=m) Q (by omega) (by rw [Zas,ZaD]; exact hB1.len r (by omega))) ?_
      refine xr 2 [eS1 0 (some ⟨b,0,none⟩) n n,(1, .v (.int .i64 ((cols:Nat):Int))),(2, .v (.int .i64 ((p:Nat):Int))),(6, .v (.int .i64 0)),(7, .v (.int .i64 0)),(8, .v (.int .i64 ((r:Nat):Int))),(9, .v (.int .i64 (((d1 * y) % p:Nat):Int))),(10, .v (.int .i64 ((col:Nat):Int))),(12, .v (.int .i64 ((invN y p:Nat):Int))),(14, .v (.int .i64 ((j:Nat):Int))),(100, .v (.bool (decide (((j:Nat):Int) < ((m:Nat):Int)))))] [] ?_
      refine xe (Zaa ?_)
      refine Zar ((decide (((j:Nat):Int) < ((m:Nat):Int)))) (by kernel_rfl) (fun hb15=>?_) (fun hb15=>?_)
      ·have hjm:j < m:=by have:=of_decide_eq_true hb15; omega
       refine Zam (Zaa (Zac (Zap ?_)))
       obtain ⟨z,hz2⟩:∃ z,(X1 r)[j]?.getD 0=z:=⟨_,rfl⟩
       have hzp:z < p:=by rw [← hz2]; exact hB1.get (by omega) hjm
       refine Ze7 17 [0,0,3,7,0,0,0,96,224,0,992,2016,0,8160,0,32736,65535] (by kernel_rfl) (by kernel_rfl) ZaE ?_
       refine xf 2 [eS1 0 (some ⟨b,0,none⟩) n n,(1, .v (.int .i64 ((cols:Nat):Int))),(2, .v (.int .i64 ((p:Nat):Int))),(6, .v (.int .i64 0)),(7, .v (.int .i64 0)),(8, .v (.int .i64 ((r:Nat):Int))),(9, .v (.int .i64 (((d1 * y) % p:Nat):Int))),(10, .v (.int .i64 ((col:Nat):Int))),(12, .v (.int .i64 ((invN y p:Nat):Int))),(14, .v (.int .i64 ((j:Nat):Int))),eS1 103 (some ⟨b,0,none⟩) n n,(104, .v (.int .i64 ((r:Nat):Int)))] [] ?_
       refine xj 105 (.pointer (some ⟨b,r,none⟩)) (fun w Q=>Zax (g:=b) (len:=n) (cap:=n) (i:=r) (t:=22) (e:=23) (x:=.tmp 103) (ix:=.tmp 104) (by omega)) ?_
       refine xj 106 (.slice (A1 r) m (C1 r)) (fun w Q=>ZaQ (t:=23) (x:=.tmp 105) (i:=r) (m:=m) Q (by omega) (by rw [Zas,ZaD]; exact hB1.len r (by omega))) ?_
       refine xf 3 [eS1 0 (some ⟨b,0,none⟩) n n,(1, .v (.int .i64 ((cols:Nat):Int))),(2, .v (.int .i64 ((p:Nat):Int))),(6, .v (.int .i64 0)),(7, .v (.int .i64 0)),(8, .v (.int .i64 ((r:Nat):Int))),(9, .v (.int .i64 (((d1 * y) % p:Nat):Int))),(10, .v (.int .i64 ((col:Nat):Int))),(12, .v (.int .i64 ((invN y p:Nat):Int))),(14, .v (.int .i64 ((j:Nat):Int))),eS1 106 (A1 r) m (C1 r),(107, .v (.int .i64 ((j:Nat):Int))),eS1 108 (some ⟨b,0,none⟩) n n,(109, .v (.int .i64 ((r:Nat):Int)))] [] ?_
       refine xj 110 (.pointer (some ⟨b,r,none⟩)) (fun w Q=>Zax (g:=b) (len:=n) (cap:=n) (i:=r) (t:=22) (e:=23) (x:=.tmp 108) (ix:=.tmp 109) (by omega)) ?_
       refine xj 111 (.slice (A1 r) m (C1 r)) (fun w Q=>ZaQ (t:=23) (x:=.tmp 110) (i:=r) (m:=m) Q (by omega) (by rw [Zas,ZaD]; exact hB1.len r (by omega))) ?_
       refine xf 1 [eS1 0 (some ⟨b,0,none⟩) n n,(1, .v (.int .i64 ((cols:Nat):Int))),(2, .v (.int .i64 ((p:Nat):Int))),(6, .v (.int .i64 0)),(7, .v (.int .i64 0)),(8, .v (.int .i64 ((r:Nat):Int))),(9, .v (.int .i64 (((d1 * y) % p:Nat):Int))),(10, .v (.int .i64 ((col:Nat):Int))),(12, .v (.int .i64 ((invN y p:Nat):Int))),(14, .v (.int .i64 ((j:Nat):Int))),eS1 106 (A1 r) m (C1 r),(107, .v (.int .i64 ((j:Nat):Int))),eS1 111 (A1 r) m (C1 r),(112, .v (.int .i64 ((j:Nat):Int)))] [] ?_
       refine xj 113 (atA (A1 r) j) (fun w Q=>Za4 (t:=23) (e:=3) (x:=.tmp 111) (ix:=.tmp 112) (cap:=C1 r) (i:=r) (m:=m) Q (by omega) (by rw [Zas,ZaD]; exact hB1.len r (by omega)) (by omega)) ?_
       refine xj 114 (.int .i64 ((z:Nat):Int)) (fun w Q=>Zbo (t:=3) (x:=.tmp 113) (i:=r) (j:=j) (m:=m) Q (by omega) (by rw [Zas,ZaD]; exact hB1.len r (by omega)) (by omega) (by rw [Zas,Zlb]; exact hz2)) ?_
       refine xf 2 [eS1 0 (some ⟨b,0,none⟩) n n,(1, .v (.int .i64 ((cols:Nat):Int))),(2, .v (.int .i64 ((p:Nat):Int))),(6, .v (.int .i64 0)),(7, .v (.int .i64 0)),(8, .v (.int .i64 ((r:Nat):Int))),(9, .v (.int .i64 (((d1 * y) % p:Nat):Int))),(10, .v (.int .i64 ((col:Nat):Int))),(12, .v (.int .i64 ((invN y p:Nat):Int))),(14, .v (.int .i64 ((j:Nat):Int))),eS1 106 (A1 r) m (C1 r),(107, .v (.int .i64 ((j:Nat):Int))),(116, .v (.int .i64 (IntKind.i64.wrap (((z:Nat):Int) * ((invN y p:Nat):Int)))))] [] ?_
       rw [ZmN hzp hsp hp31]
       refine xf 1 [eS1 0 (some ⟨b,0,none⟩) n n,(1, .v (.int .i64 ((cols:Nat):Int))),(2, .v (.int .i64 ((p:Nat):Int))),(6, .v (.int .i64 0)),(7, .v (.int .i64 0)),(8, .v (.int .i64 ((r:Nat):Int))),(9, .v (.int .i64 (((d1 * y) % p:Nat):Int))),(10, .v (.int .i64 ((col:Nat):Int))),(12, .v (.int .i64 ((invN y p:Nat):Int))),(14, .v (.int .i64 ((j:Nat):Int))),eS1 106 (A1 r) m (C1 r),(107, .v (.int .i64 ((j:Nat):Int))),(116, .v (.int .i64 ((z * invN y p:Nat):Int))),(117, .v (.int .i64 ((p:Nat):Int)))] [] ?_
       refine xj 118 (.int .i64 (((z * invN y p) % p:Nat):Int)) (fun w Q=>Zdj (k:=.i64) (t:=3) (k':=3) (x:=.tmp 116) (y:=.tmp 117) (a:=(z * invN y p)) (b:=p) (by omega)) ?_
       refine xj 119 (atA (A1 r) j) (fun w Q=>Za4 (t:=23) (e:=3) (x:=.tmp 106) (ix:=.tmp 107) (cap:=C1 r) (i:=r) (m:=m) Q (by omega) (by rw [Zas,ZaD]; exact hB1.len r (by omega)) (by omega)) ?_
       refine xf 0 [eS1 0 (some ⟨b,0,none⟩) n n,(1, .v (.int .i64 ((cols:Nat):Int))),(2, .v (.int .i64 ((p:Nat):Int))),(6, .v (.int .i64 0)),(7, .v (.int .i64 0)),(8, .v (.int .i64 ((r:Nat):Int))),(9, .v (.int .i64 (((d1 * y) % p:Nat):Int))),(10, .v (.int .i64 ((col:Nat):Int))),(12, .v (.int .i64 ((invN y p:Nat):Int))),(14, .v (.int .i64 ((j:Nat):Int))),(118, .v (.int .i64 (((z * invN y p) % p:Nat):Int))),(119, .v (atA (A1 r) j))] [] ?_
       refine xz ?_
       refine Zb8 (fun w=>MI w b n (A1) (C1) (upF X1 r (mulP 0 (invN y p) p (X1 r) (j + 1)))) (fun w hE' Q=>stE (t:=3) (x:=.tmp 119) (y:=.tmp 118) (i:=r) (j:=j) (v:=z * invN y p % p) Q hE' (stS hA1) (by omega) (by rw [Zas,ZaD]; exact hB1.len r (by omega)) hjm (by rw [ZjA,Zas,ZjZ (Nat.zero_le _) (by rw [hB1.len r (by omega)]; exact hjm) hz2])) ?_
       refine xr 0 [eS1 0 (some ⟨b,0,none⟩) n n,(1, .v (.int .i64 ((cols:Nat):Int))),(2, .v (.int .i64 ((p:Nat):Int))),(6, .v (.int .i64 0)),(7, .v (.int .i64 0)),(8, .v (.int .i64 ((r:Nat):Int))),(9, .v (.int .i64 (((d1 * y) % p:Nat):Int))),(10, .v (.int .i64 ((col:Nat):Int))),(12, .v (.int .i64 ((invN y p:Nat):Int))),(14, .v (.int .i64 ((j:Nat):Int)))] [] ?_
       refine xe (ZaN (Zaa (Zab (xr 2 [eS1 0 (some ⟨b,0,none⟩) n n,(1, .v (.int .i64 ((cols:Nat):Int))),(2, .v (.int .i64 ((p:Nat):Int))),(6, .v (.int .i64 0)),(7, .v (.int .i64 0)),(8, .v (.int .i64 ((r:Nat):Int))),(9, .v (.int .i64 (((d1 * y) % p:Nat):Int))),(10, .v (.int .i64 ((col:Nat):Int))),(12, .v (.int .i64 ((invN y p:Nat):Int))),(14, .v (.int .i64 ((j:Nat):Int))),(102, .v (.int .i64 (IntKind.i64.wrap (((j:Nat):Int) + 1))))] [] ?_))))
       rw [ZaI (k:=j) (by omega)]
       refine xr 1 [eS1 0 (some ⟨b,0,none⟩) n n,(1, .v (.int .i64 ((cols:Nat):Int))),(2, .v (.int .i64 ((p:Nat):Int))),(6, .v (.int .i64 0)),(7, .v (.int .i64 0)),(8, .v (.int .i64 ((r:Nat):Int))),(9, .v (.int .i64 (((d1 * y) % p:Nat):Int))),(10, .v (.int .i64 ((col:Nat):Int))),(12, .v (.int .i64 ((invN y p:Nat):Int))),(14, .v (.int .i64 ((j + 1:Nat):Int)))] [] ?_
       refine xe ?_
       refine SXq.weak [(0, .v (.slice (some ⟨b,0,none⟩) n n)),(1, .v (.int .i64 ((cols:Nat):Int))),(2, .v (.int .i64 ((p:Nat):Int))),(6, .v (.int .i64 0)),(7, .v (.int .i64 0)),(8, .v (.int .i64 ((r:Nat):Int))),(9, .v (.int .i64 (((d1 * y) % p:Nat):Int))),(10, .v (.int .i64 ((col:Nat):Int))),(12, .v (.int .i64 ((invN y p:Nat):Int))),(14, .v (.int .i64 (((j + 1):Nat):Int)))] [] (Ψ:=fun w=>MI w b n (A1) (C1) (upF X1 r (mulP 0 (invN y p) p (X1 r) (j + 1)))) (Zaw.of (by kernel_rfl)) (by kernel_rfl) (fun w Q=>Q) ?_
       exact ZaB ((m - (j + 1))) (by omega) ⟨(j + 1),rfl,rfl,(by omega),rfl⟩
      ·have hjm:m≤j:=by have:=of_decide_eq_false hb15; omega
       refine ZaC (Zae (Zae (ZaO (Zaa (Zac (Zac (Zab (xr 1 [eS1 0 (some ⟨b,0,none⟩) n n,(1, .v (.int .i64 ((cols:Nat):Int))),(2, .v (.int .i64 ((p:Nat):Int))),(6, .v (.int .i64 0)),(7, .v (.int .i64 0)),(8, .v (.int .i64 ((r:Nat):Int))),(9, .v (.int .i64 (((d1 * y) % p:Nat):Int))),(10, .v (.int .i64 ((col:Nat):Int))),(15, .v (.int .i64 0))] [] ?_))))))))
       refine xe (Zaa (Zap ?_))
       refine SXc.weak [(0, .v (.slice (some ⟨b,0,none⟩) n n)),(1, .v (.int .i64 ((cols:Nat):Int))),(2, .v (.int .i64 ((p:Nat):Int))),(6, .v (.int .i64 0)),(7, .v (.int .i64 0)),(8, .v (.int .i64 ((r:Nat):Int))),(9, .v (.int .i64 (((d1 * y) % p:Nat):Int))),(10, .v (.int .i64 ((col:Nat):Int))),(15, .v (.int .i64 ((0:Nat):Int)))] [] (Ψ:=fun w=>MI w b n (A1) (C1) (subR col p m r X1 F 0)) (Zaw.of (by kernel_rfl)) (by kernel_rfl) (fun w Q=>(by rw [ZmG,hF,(show m=j by omega)]; exact Q)) ?_
       refine ZaU (fun nn ss ff=>∃ (q:Nat),ss=ofL [(0, .v (.slice (some ⟨b,0,none⟩) n n)),(1, .v (.int .i64 ((cols:Nat):Int))),(2, .v (.int .i64 ((p:Nat):Int))),(6, .v (.int .i64 0)),(7, .v (.int .i64 0)),(8, .v (.int .i64 ((r:Nat):Int))),(9, .v (.int .i64 (((d1 * y) % p:Nat):Int))),(10, .v (.int .i64 ((col:Nat):Int))),(15, .v (.int .i64 ((q:Nat):Int)))] []∧ff=(fun w=>MI w b n (A1) (C1) (subR col p m r X1 F q))∧(q≤n)∧nn=(n - q)) ((n - 0)) ⟨0,rfl,rfl,Nat.zero_le _,rfl⟩ ?_
       rintro nn ss ff ⟨q,rfl,rfl,hq2,rfl⟩
       refine Zac (Zac (Zab (xr 4 [eS1 0 (some ⟨b,0,none⟩) n n,(1, .v (.int .i64 ((cols:Nat):Int))),(2, .v (.int .i64 ((p:Nat):Int))),(6, .v (.int .i64 0)),(7, .v (.int .i64 0)),(8, .v (.int .i64 ((r:Nat):Int))),(9, .v (.int .i64 (((d1 * y) % p:Nat):Int))),(10, .v (.int .i64 ((col:Nat):Int))),(15, .v (.int .i64 ((q:Nat):Int))),(123, .v (.bool (decide (((q:Nat):Int) < ((n:Nat):Int)))))] [] ?_)))
       refine xe (Zaa ?_)
       refine Zar ((decide (((q:Nat):Int) < ((n:Nat):Int)))) (by kernel_rfl) (fun hb16=>?_) (fun hb16=>?_)
       ·have hqn:q < n:=by have:=of_decide_eq_true hb16; omega
        refine Zam (Zaa (Zac (Zap (Zac ?_))))
        obtain ⟨u,hu⟩:∃ u,(subR col p m r X1 F q q)[col]?.getD 0=u:=⟨_,rfl⟩
        have hup:u < p:=by rw [← hu]; exact ltR hB1 hF (by omega) q hqn _ (ZcH (by rw [lenR hB1 hF q hqn]; omega))
        refine Zab (xr 2 [eS1 0 (some ⟨b,0,none⟩) n n,(1, .v (.int .i64 ((cols:Nat):Int))),(2, .v (.int .i64 ((p:Nat):Int))),(6, .v (.int .i64 0)),(7, .v (.int .i64 0)),(8, .v (.int .i64 ((r:Nat):Int))),(9, .v (.int .i64 (((d1 * y) % p:Nat):Int))),(10, .v (.int .i64 ((col:Nat):Int))),(15, .v (.int .i64 ((q:Nat):Int))),eS1 126 (some ⟨b,0,none⟩) n n,(127, .v (.int .i64 ((q:Nat):Int)))] [] ?_)
        refine xk 128 (.pointer (some ⟨b,q,none⟩)) (fun w hE' Q=>Zax (g:=b) (len:=n) (cap:=n) (i:=q) (t:=22) (e:=23) (x:=.tmp 126) (ix:=.tmp 127) (by omega)) ?_
        refine xk 129 (.slice (A1 q) m (C1 q)) (fun w hE' Q=>ZaQ (t:=23) (x:=.tmp 128) (i:=q) (m:=m) Q (by omega) (lenR hB1 hF q (by omega))) ?_
        refine xr 1 [eS1 0 (some ⟨b,0,none⟩) n n,(1, .v (.int .i64 ((cols:Nat):Int))),(2, .v (.int .i64 ((p:Nat):Int))),(6, .v (.int .i64 0)),(7, .v (.int .i64 0)),(8, .v (.int .i64 ((r:Nat):Int))),(9, .v (.int .i64 (((d1 * y) % p:Nat):Int))),(10, .v (.int .i64 ((col:Nat):Int))),(15, .v (.int .i64 ((q:Nat):Int))),eS1 129 (A1 q) m (C1 q),(130, .v (.int .i64 ((col:Nat):Int)))] [] ?_
        refine xk 131 (atA (A1 q) col) (fun w hE' Q=>Za4 (t:=23) (e:=3) (x:=.tmp 129) (ix:=.tmp 130) (cap:=C1 q) (i:=q) (m:=m) Q (by omega) (lenR hB1 hF q (by omega)) (by omega)) ?_
        refine xk 132 (.int .i64 ((u:Nat):Int)) (fun w hE' Q=>Zbo (t:=3) (x:=.tmp 131) (i:=q) (j:=col) (m:=m) Q (by omega) (lenR hB1 hF q (by omega)) (by omega) hu) ?_
        refine xr 1 [eS1 0 (some ⟨b,0,none⟩) n n,(1, .v (.int .i64 ((cols:Nat):Int))),(2, .v (.int .i64 ((p:Nat):Int))),(6, .v (.int .i64 0)),(7, .v (.int .i64 0)),(8, .v (.int .i64 ((r:Nat):Int))),(9, .v (.int .i64 (((d1 * y) % p:Nat):Int))),(10, .v (.int .i64 ((col:Nat):Int))),(15, .v (.int .i64 ((q:Nat):Int))),(16, .v (.int .i64 ((u:Nat):Int)))] [] ?_
        refine xe (Zaa (Zac (Zab (xr 1 [eS1 0 (some ⟨b,0,none⟩) n n,(1, .v (.int .i64 ((cols:Nat):Int))),(2, .v (.int .i64 ((p:Nat):Int))),(6, .v (.int .i64 0)),(7, .v (.int .i64 0)),(8, .v (.int .i64 ((r:Nat):Int))),(9, .v (.int .i64 (((d1 * y) % p:Nat):Int))),(10, .v (.int .i64 ((col:Nat):Int))),(15, .v (.int .i64 ((q:Nat):Int))),(16, .v (.int .i64 ((u:Nat):Int))),(17, .v (.int .i64 0))] [] ?_))))
        refine xe (Zaa (Zap ?_))
        refine SXc.weak [(0, .v (.slice (some ⟨b,0,none⟩) n n)),(1, .v (.int .i64 ((cols:Nat):Int))),(2, .v (.int .i64 ((p:Nat):Int))),(6, .v (.int .i64 0)),(7, .v (.int .i64 0)),(8, .v (.int .i64 ((r:Nat):Int))),(9, .v (.int .i64 (((d1 * y) % p:Nat):Int))),(10, .v (.int .i64 ((col:Nat):Int))),(15, .v (.int .i64 ((q:Nat):Int))),(16, .v (.int .i64 ((u:Nat):Int))),(17, .v (.int .i64 ((0:Nat):Int)))] [] (Ψ:=fun w=>MI w b n (A1) (C1) (upE col p m r X1 F q u 0)) (Zaw.of (by kernel_rfl)) (by kernel_rfl) (fun w Q=>(by rw [upE0]; exact Q)) ?_
        refine ZaU (fun nn ss ff=>∃ (e:Nat),ss=ofL [(0, .v (.slice (some ⟨b,0,none⟩) n n)),(1, .v (.int .i64 ((cols:Nat):Int))),(2, .v (.int .i64 ((p:Nat):Int))),(6, .v (.int .i64 0)),(7, .v (.int .i64 0)),(8, .v (.int .i64 ((r:Nat):Int))),(9, .v (.int .i64 (((d1 * y) % p:Nat):Int))),(10, .v (.int .i64 ((col:Nat):Int))),(15, .v (.int .i64 ((q:Nat):Int))),(16, .v (.int .i64 ((u:Nat):Int))),(17, .v (.int .i64 ((e:Nat):Int)))] []∧ff=(fun w=>MI w b n (A1) (C1) (upE col p m r X1 F q u e))∧(e≤m)∧(q=r→e=0)∧nn=(m - e)) ((m - 0)) ⟨0,rfl,rfl,Nat.zero_le _,fun _=>rfl,rfl⟩ ?_
        rintro nn ss ff ⟨e,rfl,rfl,he2,heq,rfl⟩
        refine Zac (Zac (Zab (xr 3 [eS1 0 (some ⟨b,0,none⟩) n n,(1, .v (.int .i64 ((cols:Nat):Int))),(2, .v (.int .i64 ((p:Nat):Int))),(6, .v (.int .i64 0)),(7, .v (.int .i64 0)),(8, .v (.int .i64 ((r:Nat):Int))),(9, .v (.int .i64 (((d1 * y) % p:Nat):Int))),(10, .v (.int .i64 ((col:Nat):Int))),(15, .v (.int .i64 ((q:Nat):Int))),(16, .v (.int .i64 ((u:Nat):Int))),(17, .v (.int .i64 ((e:Nat):Int))),(133, .v (.int .i64 ((e:Nat):Int))),eS1 134 (some ⟨b,0,none⟩) n n,(135, .v (.int .i64 ((q:Nat):Int)))] [] ?_)))
        refine xk 136 (.pointer (some ⟨b,q,none⟩)) (fun w hE' Q=>Zax (g:=b) (len:=n) (cap:=n) (i:=q) (t:=22) (e:=23) (x:=.tmp 134) (ix:=.tmp 135) (by omega)) ?_
        refine xk 137 (.slice (A1 q) m (C1 q)) (fun w hE' Q=>ZaQ (t:=23) (x:=.tmp 136) (i:=q) (m:=m) Q (by omega) (lenE hB1 hF q (by omega))) ?_
        refine xr 3 [eS1 0 (some ⟨b,0,none⟩) n n,(1, .v (.int .i64 ((cols:Nat):Int))),(2, .v (.int .i64 ((p:Nat):Int))),(6, .v (.int .i64 0)),(7, .v (.int .i64 0)),(8, .v (.int .i64 ((r:Nat):Int))),(9, .v (.int .i64 (((d1 * y) % p:Nat):Int))),(10, .v (.int .i64 ((col:Nat):Int))),(15, .v (.int .i64 ((q:Nat):Int))),(16, .v (.int .i64 ((u:Nat):Int))),(17, .v (.int .i64 ((e:Nat):Int))),(140, .v (.bool (decide (((e:Nat):Int) < ((m:Nat):Int)))))] [] ?_
        rcases bl2 ((decide (((e:Nat):Int) < ((m:Nat):Int)))) with hb17 | hb17
        ·rw [hb17]
         have hem:e < m:=by have:=of_decide_eq_true hb17; omega
         refine xr 4 [eS1 0 (some ⟨b,0,none⟩) n n,(1, .v (.int .i64 ((cols:Nat):Int))),(2, .v (.int .i64 ((p:Nat):Int))),(6, .v (.int .i64 0)),(7, .v (.int .i64 0)),(8, .v (.int .i64 ((r:Nat):Int))),(9, .v (.int .i64 (((d1 * y) % p:Nat):Int))),(10, .v (.int .i64 ((col:Nat):Int))),(15, .v (.int .i64 ((q:Nat):Int))),(16, .v (.int .i64 ((u:Nat):Int))),(17, .v (.int .i64 ((e:Nat):Int))),(144, .v (.bool ((((q:Nat):Int):Int) != ((r:Nat):Int))))] [] ?_
         refine xe (Zaa ?_)
         refine Zar (((((q:Nat):Int):Int) != ((r:Nat):Int))) (by kernel_rfl) (fun hb18=>?_) (fun hb18=>?_)
         ·have hqr:=ZcY hb18
          refine Zam (Zaa (Zac (Zap ?_)))
          obtain ⟨z,hz2⟩:∃ z,(X1 q)[e]?.getD 0=z:=⟨_,rfl⟩
          have hzp:z < p:=by rw [← hz2]; exact hB1.get hqn hem
          obtain ⟨v,hv⟩:∃ v,F[e]?.getD 0=v:=⟨_,rfl⟩
          have hvp:v < p:=by rw [← hv,hF]; exact ZfZ (by omega) (hB1.lt r (by omega)) _ (ZcH (by rw [ZaD,hB1.len r (by omega)]; exact hem))
          have hwp:u * v % p < p:=Nat.mod_lt _ (by omega)
          refine Ze7 27 [0,0,3,7,0,0,0,96,224,0,992,2016,0,0,0,24576,57344,0,253952,516096,1044480,0,4190208,8388576,0,33554400,67108863] (by kernel_rfl) (by kernel_rfl) ZaE ?_
          refine xf 2 [eS1 0 (some ⟨b,0,none⟩) n n,(1, .v (.int .i64 ((cols:Nat):Int))),(2, .v (.int .i64 ((p:Nat):Int))),(6, .v (.int .i64 0)),(7, .v (.int .i64 0)),(8, .v (.int .i64 ((r:Nat):Int))),(9, .v (.int .i64 (((d1 * y) % p:Nat):Int))),(10, .v (.int .i64 ((col:Nat):Int))),(15, .v (.int .i64 ((q:Nat):Int))),(16, .v (.int .i64 ((u:Nat):Int))),(17, .v (.int .i64 ((e:Nat):Int))),eS1 147 (some ⟨b,0,none⟩) n n,(148, .v (.int .i64 ((q:Nat):Int)))] [] ?_
          refine xj 149 (.pointer (some ⟨b,q,none⟩)) (fun w Q=>Zax (g:=b) (len:=n) (cap:=n) (i:=q) (t:=22) (e:=23) (x:=.tmp 147) (ix:=.tmp 148) (by omega)) ?_
          refine xj 150 (.slice (A1 q) m (C1 q)) (fun w Q=>ZaQ (t:=23) (x:=.tmp 149) (i:=q) (m:=m) Q (by omega) (lenE hB1 hF q (by omega))) ?_
          refine xf 3 [eS1 0 (some ⟨b,0,none⟩) n n,(1, .v (.int .i64 ((cols:Nat):Int))),(2, .v (.int .i64 ((p:Nat):Int))),(6, .v (.int .i64 0)),(7, .v (.int .i64 0)),(8, .v (.int .i64 ((r:Nat):Int))),(9, .v (.int .i64 (((d1 * y) % p:Nat):Int))),(10, .v (.int .i64 ((col:Nat):Int))),(15, .v (.int .i64 ((q:Nat):Int))),(16, .v (.int .i64 ((u:Nat):Int))),(17, .v (.int .i64 ((e:Nat):Int))),eS1 150 (A1 q) m (C1 q),(151, .v (.int .i64 ((e:Nat):Int))),eS1 152 (some ⟨b,0,none⟩) n n,(153, .v (.int .i64 ((q:Nat):Int)))] [] ?_
          refine xj 154 (.pointer (some ⟨b,q,none⟩)) (fun w Q=>Zax (g:=b) (len:=n) (cap:=n) (i:=q) (t:=22) (e:=23) (x:=.tmp 152) (ix:=.tmp 153) (by omega)) ?_
          refine xj 155 (.slice (A1 q) m (C1 q)) (fun w Q=>ZaQ (t:=23) (x:=.tmp 154) (i:=q) (m:=m) Q (by omega) (lenE hB1 hF q (by omega))) ?_
          refine xf 1 [eS1 0 (some ⟨b,0,none⟩) n n,(1, .v (.int .i64 ((cols:Nat):Int))),(2, .v (.int .i64 ((p:Nat):Int))),(6, .v (.int .i64 0)),(7, .v (.int .i64 0)),(8, .v (.int .i64 ((r:Nat):Int))),(9, .v (.int .i64 (((d1 * y) % p:Nat):Int))),(10, .v (.int .i64 ((col:Nat):Int))),(15, .v (.int .i64 ((q:Nat):Int))),(16, .v (.int .i64 ((u:Nat):Int))),(17, .v (.int .i64 ((e:Nat):Int))),eS1 150 (A1 q) m (C1 q),(151, .v (.int .i64 ((e:Nat):Int))),eS1 155 (A1 q) m (C1 q),(156, .v (.int .i64 ((e:Nat):Int)))] [] ?_
          refine xj 157 (atA (A1 q) e) (fun w Q=>Za4 (t:=23) (e:=3) (x:=.tmp 155) (ix:=.tmp 156) (cap:=C1 q) (i:=q) (m:=m) Q (by omega) (lenE hB1 hF q (by omega)) (by omega)) ?_
          refine xj 158 (.int .i64 ((z:Nat):Int)) (fun w Q=>Zbo (t:=3) (x:=.tmp 157) (i:=q) (j:=e) (m:=m) Q (by omega) (lenE hB1 hF q (by omega)) (by omega) (Zpr hqr hz2)) ?_
          refine xf 3 [eS1 0 (some ⟨b,0,none⟩) n n,(1, .v (.int .i64 ((cols:Nat):Int))),(2, .v (.int .i64 ((p:Nat):Int))),(6, .v (.int .i64 0)),(7, .v (.int .i64 0)),(8, .v (.int .i64 ((r:Nat):Int))),(9, .v (.int .i64 (((d1 * y) % p:Nat):Int))),(10, .v (.int .i64 ((col:Nat):Int))),(15, .v (.int .i64 ((q:Nat):Int))),(16, .v (.int .i64 ((u:Nat):Int))),(17, .v (.int .i64 ((e:Nat):Int))),eS1 150 (A1 q) m (C1 q),(151, .v (.int .i64 ((e:Nat):Int))),(158, .v (.int .i64 ((z:Nat):Int))),(159, .v (.int .i64 ((u:Nat):Int))),eS1 160 (some ⟨b,0,none⟩) n n,(161, .v (.int .i64 ((r:Nat):Int)))] [] ?_
          refine xj 162 (.pointer (some ⟨b,r,none⟩)) (fun w Q=>Zax (g:=b) (len:=n) (cap:=n) (i:=r) (t:=22) (e:=23) (x:=.tmp 160) (ix:=.tmp 161) (by omega)) ?_
          refine xj 163 (.slice (A1 r) m (C1 r)) (fun w Q=>ZaQ (t:=23) (x:=.tmp 162) (i:=r) (m:=m) Q (by omega) (lenE hB1 hF r (by omega))) ?_
          refine xf 1 [eS1 0 (some ⟨b,0,none⟩) n n,(1, .v (.int .i64 ((cols:Nat):Int))),(2, .v (.int .i64 ((p:Nat):Int))),(6, .v (.int .i64 0)),(7, .v (.int .i64 0)),(8, .v (.int .i64 ((r:Nat):Int))),(9, .v (.int .i64 (((d1 * y) % p:Nat):Int))),(10, .v (.int .i64 ((col:Nat):Int))),(15, .v (.int .i64 ((q:Nat):Int))),(16, .v (.int .i64 ((u:Nat):Int))),(17, .v (.int .i64 ((e:Nat):Int))),eS1 150 (A1 q) m (C1 q),(151, .v (.int .i64 ((e:Nat):Int))),(158, .v (.int .i64 ((z:Nat):Int))),(159, .v (.int .i64 ((u:Nat):Int))),eS1 163 (A1 r) m (C1 r),(164, .v (.int .i64 ((e:Nat):Int)))] [] ?_
          refine xj 165 (atA (A1 r) e) (fun w Q=>Za4 (t:=23) (e:=3) (x:=.tmp 163) (ix:=.tmp 164) (cap:=C1 r) (i:=r) (m:=m) Q (by omega) (lenE hB1 hF r (by omega)) (by omega)) ?_
          refine xj 166 (.int .i64 ((v:Nat):Int)) (fun w Q=>Zbo (t:=3) (x:=.tmp 165) (i:=r) (j:=e) (m:=m) Q (by omega) (lenE hB1 hF r (by omega)) (by omega) (Zqb hv)) ?_
          refine xf 1 [eS1 0 (some ⟨b,0,none⟩) n n,(1, .v (.int .i64 ((cols:Nat):Int))),(2, .v (.int .i64 ((p:Nat):Int))),(6, .v (.int .i64 0)),(7, .v (.int .i64 0)),(8, .v (.int .i64 ((r:Nat):Int))),(9, .v (.int .i64 (((d1 * y) % p:Nat):Int))),(10, .v (.int .i64 ((col:Nat):Int))),(15, .v (.int .i64 ((q:Nat):Int))),(16, .v (.int .i64 ((u:Nat):Int))),(17, .v (.int .i64 ((e:Nat):Int))),eS1 150 (A1 q) m (C1 q),(151, .v (.int .i64 ((e:Nat):Int))),(158, .v (.int .i64 ((z:Nat):Int))),(167, .v (.int .i64 (IntKind.i64.wrap (((u:Nat):Int) * ((v:Nat):Int)))))] [] ?_
          rw [ZmN hup hvp hp31]
          refine xf 1 [eS1 0 (some ⟨b,0,none⟩) n n,(1, .v (.int .i64 ((cols:Nat):Int))),(2, .v (.int .i64 ((p:Nat):Int))),(6, .v (.int .i64 0)),(7, .v (.int .i64 0)),(8, .v (.int .i64 ((r:Nat):Int))),(9, .v (.int .i64 (((d1 * y) % p:Nat):Int))),(10, .v (.int .i64 ((col:Nat):Int))),(15, .v (.int .i64 ((q:Nat):Int))),(16, .v (.int .i64 ((u:Nat):Int))),(17, .v (.int .i64 ((e:Nat):Int))),eS1 150 (A1 q) m (C1 q),(151, .v (.int .i64 ((e:Nat):Int))),(158, .v (.int .i64 ((z:Nat):Int))),(167, .v (.int .i64 ((u * v:Nat):Int))),(168, .v (.int .i64 ((p:Nat):Int)))] [] ?_
          refine xj 169 (.int .i64 (((u * v) % p:Nat):Int)) (fun w Q=>Zdj (k:=.i64) (t:=3) (k':=3) (x:=.tmp 167) (y:=.tmp 168) (a:=(u * v)) (b:=p) (by omega)) ?_
          refine xf 1 [eS1 0 (some ⟨b,0,none⟩) n n,(1, .v (.int .i64 ((cols:Nat):Int))),(2, .v (.int .i64 ((p:Nat):Int))),(6, .v (.int .i64 0)),(7, .v (.int .i64 0)),(8, .v (.int .i64 ((r:Nat):Int))),(9, .v (.int .i64 (((d1 * y) % p:Nat):Int))),(10, .v (.int .i64 ((col:Nat):Int))),(15, .v (.int .i64 ((q:Nat):Int))),(16, .v (.int .i64 ((u:Nat):Int))),(17, .v (.int .i64 ((e:Nat):Int))),eS1 150 (A1 q) m (C1 q),(151, .v (.int .i64 ((e:Nat):Int))),(170, .v (.int .i64 (IntKind.i64.wrap (((z:Nat):Int) - (((u * v) % p:Nat):Int)))))] [] ?_
          rw [Zp7 hzp hwp hp31]
          refine xf 1 [eS1 0 (some ⟨b,0,none⟩) n n,(1, .v (.int .i64 ((cols:Nat):Int))),(2, .v (.int .i64 ((p:Nat):Int))),(6, .v (.int .i64 0)),(7, .v (.int .i64 0)),(8, .v (.int .i64 ((r:Nat):Int))),(9, .v (.int .i64 (((d1 * y) % p:Nat):Int))),(10, .v (.int .i64 ((col:Nat):Int))),(15, .v (.int .i64 ((q:Nat):Int))),(16, .v (.int .i64 ((u:Nat):Int))),(17, .v (.int .i64 ((e:Nat):Int))),eS1 150 (A1 q) m (C1 q),(151, .v (.int .i64 ((e:Nat):Int))),(170, .v (.int .i64 (((z:Nat):Int) - ((u * v % p:Nat):Int)))),(171, .v (.int .i64 ((p:Nat):Int)))] [] ?_
          refine xd 66 [.int .i64 (((z:Nat):Int) - ((u * v % p:Nat):Int)), .int .i64 ((p:Nat):Int)] 172 (fun _:Unit=>.int .i64 (((z + p - u * v % p) % p:Nat):Int)) _ (fun w R Q=>(Zgv (((z:Nat):Int) - ((u * v % p:Nat):Int)) p ((z + p - u * v % p) % p) _ (by omega) (by omega) (Zqa (Nat.le_of_lt hwp))).mono (fun _ _ h=>Zau h rfl)) (fun xx=>?_)
          refine xf 0 [eS1 0 (some ⟨b,0,none⟩) n n,(1, .v (.int .i64 ((cols:Nat):Int))),(2, .v (.int .i64 ((p:Nat):Int))),(6, .v (.int .i64 0)),(7, .v (.int .i64 0)),(8, .v (.int .i64 ((r:Nat):Int))),(9, .v (.int .i64 (((d1 * y) % p:Nat):Int))),(10, .v (.int .i64 ((col:Nat):Int))),(15, .v (.int .i64 ((q:Nat):Int))),(16, .v (.int .i64 ((u:Nat):Int))),(17, .v (.int .i64 ((e:Nat):Int))),eS1 150 (A1 q) m (C1 q),(151, .v (.int .i64 ((e:Nat):Int))),(172, .v (.int .i64 (((z + p - u * v % p) % p:Nat):Int)))] [] ?_
          refine xj 173 (atA (A1 q) e) (fun w Q=>Za4 (t:=23) (e:=3) (x:=.tmp 150) (ix:=.tmp 151) (cap:=C1 q) (i:=q) (m:=m) Q (by omega) (lenE hB1 hF q (by omega)) (by omega)) ?_
          refine xf 0 [eS1 0 (some ⟨b,0,none⟩) n n,(1, .v (.int .i64 ((cols:Nat):Int))),(2, .v (.int .i64 ((p:Nat):Int))),(6, .v (.int .i64 0)),(7, .v (.int .i64 0)),(8, .v (.int .i64 ((r:Nat):Int))),(9, .v (.int .i64 (((d1 * y) % p:Nat):Int))),(10, .v (.int .i64 ((col:Nat):Int))),(15, .v (.int .i64 ((q:Nat):Int))),(16, .v (.int .i64 ((u:Nat):Int))),(17, .v (.int .i64 ((e:Nat):Int))),(172, .v (.int .i64 (((z + p - u * v % p) % p:Nat):Int))),(173, .v (atA (A1 q) e))] [] ?_
          refine xz ?_
          refine Zb8 (fun w=>MI w b n (A1) (C1) (upE col p m r X1 F q u (e + 1))) (fun w hE' Q=>stE (t:=3) (x:=.tmp 173) (y:=.tmp 172) (i:=q) (j:=e) (v:=(z + p - u * v % p) % p) Q.1 hE' (stS hA1) hqn (lenE hB1 hF q hqn) hem (Zoz hqr (by rw [hB1.len q hqn]; exact hem) hz2 hv)) ?_
          refine xr 0 [eS1 0 (some ⟨b,0,none⟩) n n,(1, .v (.int .i64 ((cols:Nat):Int))),(2, .v (.int .i64 ((p:Nat):Int))),(6, .v (.int .i64 0)),(7, .v (.int .i64 0)),(8, .v (.int .i64 ((r:Nat):Int))),(9, .v (.int .i64 (((d1 * y) % p:Nat):Int))),(10, .v (.int .i64 ((col:Nat):Int))),(15, .v (.int .i64 ((q:Nat):Int))),(16, .v (.int .i64 ((u:Nat):Int))),(17, .v (.int .i64 ((e:Nat):Int)))] [] ?_
          refine xe (ZaN (Zaa (Zab (xr 2 [eS1 0 (some ⟨b,0,none⟩) n n,(1, .v (.int .i64 ((cols:Nat):Int))),(2, .v (.int .i64 ((p:Nat):Int))),(6, .v (.int .i64 0)),(7, .v (.int .i64 0)),(8, .v (.int .i64 ((r:Nat):Int))),(9, .v (.int .i64 (((d1 * y) % p:Nat):Int))),(10, .v (.int .i64 ((col:Nat):Int))),(15, .v (.int .i64 ((q:Nat):Int))),(16, .v (.int .i64 ((u:Nat):Int))),(17, .v (.int .i64 ((e:Nat):Int))),(146, .v (.int .i64 (IntKind.i64.wrap (((e:Nat):Int) + 1))))] [] ?_))))
          rw [ZaI (k:=e) (by omega)]
          refine xr 1 [eS1 0 (some ⟨b,0,none⟩) n n,(1, .v (.int .i64 ((cols:Nat):Int))),(2, .v (.int .i64 ((p:Nat):Int))),(6, .v (.int .i64 0)),(7, .v (.int .i64 0)),(8, .v (.int .i64 ((r:Nat):Int))),(9, .v (.int .i64 (((d1 * y) % p:Nat):Int))),(10, .v (.int .i64 ((col:Nat):Int))),(15, .v (.int .i64 ((q:Nat):Int))),(16, .v (.int .i64 ((u:Nat):Int))),(17, .v (.int .i64 ((e + 1:Nat):Int)))] [] ?_
          refine xe ?_
          refine SXq.weak [(0, .v (.slice (some ⟨b,0,none⟩) n n)),(1, .v (.int .i64 ((cols:Nat):Int))),(2, .v (.int .i64 ((p:Nat):Int))),(6, .v (.int .i64 0)),(7, .v (.int .i64 0)),(8, .v (.int .i64 ((r:Nat):Int))),(9, .v (.int .i64 (((d1 * y) % p:Nat):Int))),(10, .v (.int .i64 ((col:Nat):Int))),(15, .v (.int .i64 ((q:Nat):Int))),(16, .v (.int .i64 ((u:Nat):Int))),(17, .v (.int .i64 (((e + 1):Nat):Int)))] [] (Ψ:=fun w=>MI w b n (A1) (C1) (upE col p m r X1 F q u (e + 1))) (Zaw.of (by kernel_rfl)) (by kernel_rfl) (fun w Q=>Q) ?_
          exact ZaB ((m - (e + 1))) (by omega) ⟨(e + 1),rfl,rfl,(by omega),(fun h=>absurd h hqr),rfl⟩
         ·have hqr:=ZcZ hb18
          refine ZaC (Zae (Zae (ZaO (ZaN (Zaa ?_)))))
          have hrow:upE col p m r X1 F q u e=subR col p m r X1 F (q + 1):=by rw [heq hqr,upE0,hqr]; exact Zj3
          refine Zab (xr 2 [eS1 0 (some ⟨b,0,none⟩) n n,(1, .v (.int .i64 ((cols:Nat):Int))),(2, .v (.int .i64 ((p:Nat):Int))),(6, .v (.int .i64 0)),(7, .v (.int .i64 0)),(8, .v (.int .i64 ((r:Nat):Int))),(9, .v (.int .i64 (((d1 * y) % p:Nat):Int))),(10, .v (.int .i64 ((col:Nat):Int))),(15, .v (.int .i64 ((q:Nat):Int))),(125, .v (.int .i64 (IntKind.i64.wrap (((q:Nat):Int) + 1))))] [] ?_)
          rw [ZaI (k:=q) (by omega)]
          refine xr 1 [eS1 0 (some ⟨b,0,none⟩) n n,(1, .v (.int .i64 ((cols:Nat):Int))),(2, .v (.int .i64 ((p:Nat):Int))),(6, .v (.int .i64 0)),(7, .v (.int .i64 0)),(8, .v (.int .i64 ((r:Nat):Int))),(9, .v (.int .i64 (((d1 * y) % p:Nat):Int))),(10, .v (.int .i64 ((col:Nat):Int))),(15, .v (.int .i64 ((q + 1:Nat):Int)))] [] ?_
          refine xe ?_
          refine SXq.weak [(0, .v (.slice (some ⟨b,0,none⟩) n n)),(1, .v (.int .i64 ((cols:Nat):Int))),(2, .v (.int .i64 ((p:Nat):Int))),(6, .v (.int .i64 0)),(7, .v (.int .i64 0)),(8, .v (.int .i64 ((r:Nat):Int))),(9, .v (.int .i64 (((d1 * y) % p:Nat):Int))),(10, .v (.int .i64 ((col:Nat):Int))),(15, .v (.int .i64 (((q + 1):Nat):Int)))] [] (Ψ:=fun w=>MI w b n (A1) (C1) (subR col p m r X1 F (q + 1))) (Zaw.of (by kernel_rfl)) (by kernel_rfl) (fun w Q=>(by rw [← hrow]; exact Q)) ?_
          exact ZaB ((n - (q + 1))) (by omega) ⟨(q + 1),rfl,rfl,(by omega),rfl⟩
        ·rw [hb17]
         have hem:m≤e:=by have:=of_decide_eq_false hb17; omega
         refine xr 4 [eS1 0 (some ⟨b,0,none⟩) n n,(1, .v (.int .i64 ((cols:Nat):Int))),(2, .v (.int .i64 ((p:Nat):Int))),(6, .v (.int .i64 0)),(7, .v (.int .i64 0)),(8, .v (.int .i64 ((r:Nat):Int))),(9, .v (.int .i64 (((d1 * y) % p:Nat):Int))),(10, .v (.int .i64 ((col:Nat):Int))),(15, .v (.int .i64 ((q:Nat):Int))),(16, .v (.int .i64 ((u:Nat):Int))),(17, .v (.int .i64 ((e:Nat):Int))),(144, .v (.bool false))] [] ?_
         refine xe (Zaa (xb (ZaC (Zae (Zae (ZaO (ZaN (Zaa ?_))))))))
         have hrow:upE col p m r X1 F q u e=subR col p m r X1 F (q + 1):=Zps hB1 hu (by omega) hqn heq
         refine Zab (xr 2 [eS1 0 (some ⟨b,0,none⟩) n n,(1, .v (.int .i64 ((cols:Nat):Int))),(2, .v (.int .i64 ((p:Nat):Int))),(6, .v (.int .i64 0)),(7, .v (.int .i64 0)),(8, .v (.int .i64 ((r:Nat):Int))),(9, .v (.int .i64 (((d1 * y) % p:Nat):Int))),(10, .v (.int .i64 ((col:Nat):Int))),(15, .v (.int .i64 ((q:Nat):Int))),(125, .v (.int .i64 (IntKind.i64.wrap (((q:Nat):Int) + 1))))] [] ?_)
         rw [ZaI (k:=q) (by omega)]
         refine xr 1 [eS1 0 (some ⟨b,0,none⟩) n n,(1, .v (.int .i64 ((cols:Nat):Int))),(2, .v (.int .i64 ((p:Nat):Int))),(6, .v (.int .i64 0)),(7, .v (.int .i64 0)),(8, .v (.int .i64 ((r:Nat):Int))),(9, .v (.int .i64 (((d1 * y) % p:Nat):Int))),(10, .v (.int .i64 ((col:Nat):Int))),(15, .v (.int .i64 ((q + 1:Nat):Int)))] [] ?_
         refine xe ?_
         refine SXq.weak [(0, .v (.slice (some ⟨b,0,none⟩) n n)),(1, .v (.int .i64 ((cols:Nat):Int))),(2, .v (.int .i64 ((p:Nat):Int))),(6, .v (.int .i64 0)),(7, .v (.int .i64 0)),(8, .v (.int .i64 ((r:Nat):Int))),(9, .v (.int .i64 (((d1 * y) % p:Nat):Int))),(10, .v (.int .i64 ((col:Nat):Int))),(15, .v (.int .i64 (((q + 1):Nat):Int)))] [] (Ψ:=fun w=>MI w b n (A1) (C1) (subR col p m r X1 F (q + 1))) (Zaw.of (by kernel_rfl)) (by kernel_rfl) (fun w Q=>(by rw [← hrow]; exact Q)) ?_
         exact ZaB ((n - (q + 1))) (by omega) ⟨(q + 1),rfl,rfl,(by omega),rfl⟩
       ·have hqn:n≤q:=by have:=of_decide_eq_false hb16; omega
        refine ZaC (Zae (Zae (ZaO (Zaa (Zab (xr 2 [eS1 0 (some ⟨b,0,none⟩) n n,(1, .v (.int .i64 ((cols:Nat):Int))),(2, .v (.int .i64 ((p:Nat):Int))),(6, .v (.int .i64 0)),(7, .v (.int .i64 0)),(8, .v (.int .i64 ((r:Nat):Int))),(9, .v (.int .i64 (((d1 * y) % p:Nat):Int))),(10, .v (.int .i64 ((col:Nat):Int))),(175, .v (.int .i64 (IntKind.i64.wrap (((r:Nat):Int) + 1))))] [] ?_))))))
        rw [ZaI (k:=r) (by omega)]
        refine xr 1 [eS1 0 (some ⟨b,0,none⟩) n n,(1, .v (.int .i64 ((cols:Nat):Int))),(2, .v (.int .i64 ((p:Nat):Int))),(6, .v (.int .i64 0)),(7, .v (.int .i64 0)),(8, .v (.int .i64 ((r + 1:Nat):Int))),(9, .v (.int .i64 (((d1 * y) % p:Nat):Int))),(10, .v (.int .i64 ((col:Nat):Int)))] [] ?_
        refine xe (ZaN (Zaa (Zab (xr 2 [eS1 0 (some ⟨b,0,none⟩) n n,(1, .v (.int .i64 ((cols:Nat):Int))),(2, .v (.int .i64 ((p:Nat):Int))),(6, .v (.int .i64 0)),(7, .v (.int .i64 0)),(8, .v (.int .i64 ((r + 1:Nat):Int))),(9, .v (.int .i64 (((d1 * y) % p:Nat):Int))),(10, .v (.int .i64 ((col:Nat):Int))),(28, .v (.int .i64 (IntKind.i64.wrap (((col:Nat):Int) + 1))))] [] ?_))))
        rw [ZaI (k:=col) (by omega)]
        refine xr 1 [eS1 0 (some ⟨b,0,none⟩) n n,(1, .v (.int .i64 ((cols:Nat):Int))),(2, .v (.int .i64 ((p:Nat):Int))),(6, .v (.int .i64 0)),(7, .v (.int .i64 0)),(8, .v (.int .i64 ((r + 1:Nat):Int))),(9, .v (.int .i64 (((d1 * y) % p:Nat):Int))),(10, .v (.int .i64 ((col + 1:Nat):Int)))] [] ?_
        refine xe ?_
        refine SXq.weak [(0, .v (.slice (some ⟨b,0,none⟩) n n)),(1, .v (.int .i64 ((cols:Nat):Int))),(2, .v (.int .i64 ((p:Nat):Int))),(6, .v (.int .i64 0)),(7, .v (.int .i64 0)),(8, .v (.int .i64 (((r + 1):Nat):Int))),(9, .v (.int .i64 (((d1 * y % p):Nat):Int))),(10, .v (.int .i64 (((col + 1):Nat):Int)))] [] (Ψ:=fun w=>MI w b n (A1) (C1) ((subR col p m r X1 F n))) (Zaw.of (by kernel_rfl)) (by kernel_rfl) (fun w Q=>(by have h:=Q; rw [(show q=n by omega)] at h; exact h)) ?_
        exact ZaB ((cols - (col + 1))) (by omega) ⟨A1,C1,(subR col p m r X1 F n),(r + 1),(d1 * y % p),(col + 1),rfl,rfl,(hR.snoc (.some k X1 d1 y F hk hkk hz hne hX1 hd1 hy hF)),(RStep.bd (by omega) hB (c:=col) (.some k X1 d1 y F hk hkk hz hne hX1 hd1 hy hF)),hA1,(by omega),rfl⟩
   ·rw [hb12]
    have hkk:n≤k:=by have:=of_decide_eq_false hb12; omega
    refine xr 9 [eS1 0 (some ⟨b,0,none⟩) n n,(1, .v (.int .i64 ((cols:Nat):Int))),(2, .v (.int .i64 ((p:Nat):Int))),(6, .v (.int .i64 0)),(7, .v (.int .i64 0)),(8, .v (.int .i64 ((r:Nat):Int))),(9, .v (.int .i64 ((d:Nat):Int))),(10, .v (.int .i64 ((col:Nat):Int))),(11, .v (.int .i64 ((k:Nat):Int))),(43, .v (.bool false))] [] ?_
    refine xe (Zaa (xb (ZaC (Zae (Zae (ZaO (Zaa (Zac (Zac (Zab (xr 4 [eS1 0 (some ⟨b,0,none⟩) n n,(1, .v (.int .i64 ((cols:Nat):Int))),(2, .v (.int .i64 ((p:Nat):Int))),(6, .v (.int .i64 0)),(7, .v (.int .i64 0)),(8, .v (.int .i64 ((r:Nat):Int))),(9, .v (.int .i64 ((d:Nat):Int))),(10, .v (.int .i64 ((col:Nat):Int))),(11, .v (.int .i64 ((k:Nat):Int))),(49, .v (.bool ((((k:Nat):Int):Int) == ((n:Nat):Int))))] [] ?_)))))))))))
    rw [ZpQ (show k=n by omega)]
    refine xr 0 [eS1 0 (some ⟨b,0,none⟩) n n,(1, .v (.int .i64 ((cols:Nat):Int))),(2, .v (.int .i64 ((p:Nat):Int))),(6, .v (.int .i64 0)),(7, .v (.int .i64 0)),(8, .v (.int .i64 ((r:Nat):Int))),(9, .v (.int .i64 ((d:Nat):Int))),(10, .v (.int .i64 ((col:Nat):Int))),(11, .v (.int .i64 ((k:Nat):Int))),(49, .v (.bool true))] [] ?_
    refine xe (Zaa (xa (Zac (Zab (xr 1 [eS1 0 (some ⟨b,0,none⟩) n n,(1, .v (.int .i64 ((cols:Nat):Int))),(2, .v (.int .i64 ((p:Nat):Int))),(6, .v (.int .i64 0)),(7, .v (.int .i64 0)),(8, .v (.int .i64 ((r:Nat):Int))),(9, .v (.int .i64 0)),(10, .v (.int .i64 ((col:Nat):Int))),(11, .v (.int .i64 ((k:Nat):Int)))] [] ?_)))))
    refine xe (Zaa (ZaC (Zae (ZaO (Zaa (Zab (xr 2 [eS1 0 (some ⟨b,0,none⟩) n n,(1, .v (.int .i64 ((cols:Nat):Int))),(2, .v (.int .i64 ((p:Nat):Int))),(6, .v (.int .i64 0)),(7, .v (.int .i64 0)),(8, .v (.int .i64 ((r:Nat):Int))),(9, .v (.int .i64 0)),(10, .v (.int .i64 ((col:Nat):Int))),(28, .v (.int .i64 (IntKind.i64.wrap (((col:Nat):Int) + 1))))] [] ?_)))))))
    rw [ZaI (k:=col) (by omega)]
    refine xr 1 [eS1 0 (some ⟨b,0,none⟩) n n,(1, .v (.int .i64 ((cols:Nat):Int))),(2, .v (.int .i64 ((p:Nat):Int))),(6, .v (.int .i64 0)),(7, .v (.int .i64 0)),(8, .v (.int .i64 ((r:Nat):Int))),(9, .v (.int .i64 0)),(10, .v (.int .i64 ((col + 1:Nat):Int)))] [] ?_
    refine xe ?_
    refine SXq.weak [(0, .v (.slice (some ⟨b,0,none⟩) n n)),(1, .v (.int .i64 ((cols:Nat):Int))),(2, .v (.int .i64 ((p:Nat):Int))),(6, .v (.int .i64 0)),(7, .v (.int .i64 0)),(8, .v (.int .i64 ((r:Nat):Int))),(9, .v (.int .i64 ((0:Nat):Int))),(10, .v (.int .i64 (((col + 1):Nat):Int)))] [] (Ψ:=fun w=>MI w b n (A) (C) (X)) (Zaw.of (by kernel_rfl)) (by kernel_rfl) (fun w Q=>Q) ?_
    exact ZaB ((cols - (col + 1))) (by omega) ⟨A,C,X,r,0,(col + 1),rfl,rfl,(hR.snoc (.none (fun i h1 h2=>hz i h1 (by omega)))),(RStep.bd (by omega) hB (c:=col) (.none (fun i h1 h2=>hz i h1 (by omega)))),hA,(by omega),rfl⟩
  ·have hrn:n≤r:=by have:=of_decide_eq_false hb11; omega
   refine ZaC (Zae (Zae (ZaO (Zaa (Zac (Zab (xr 4 [(6, .v (.int .i64 ((r:Nat):Int))),(7, .v (.int .i64 ((d:Nat):Int)))] [] ?_)))))))
   refine xe (Zaa (Zao ?_))
   refine Zak (v:=.tuple #[.int .i64 ((r:Nat):Int), .int .i64 ((d:Nat):Int)]) (by kernel_rfl) (fun w' R Q=>?_)
   exact ⟨col,r,d,A,C,X,rfl,R,hR,hcc,Or.inr hrn,hB,hA,Q⟩
 ·rw [hb10]
  have hcol:cols≤col:=by have:=of_decide_eq_false hb10; omega
  refine xr 5 [eS1 0 (some ⟨b,0,none⟩) n n,(1, .v (.int .i64 ((cols:Nat):Int))),(2, .v (.int .i64 ((p:Nat):Int))),(6, .v (.int .i64 0)),(7, .v (.int .i64 0)),(8, .v (.int .i64 ((r:Nat):Int))),(9, .v (.int .i64 ((d:Nat):Int))),(10, .v (.int .i64 ((col:Nat):Int))),(26, .v (.bool false))] [] ?_
  refine xe (Zaa (xb (ZaC (Zae (Zae (ZaO (Zaa (Zac (Zab (xr 4 [(6, .v (.int .i64 ((r:Nat):Int))),(7, .v (.int .i64 ((d:Nat):Int)))] [] ?_))))))))))
  refine xe (Zaa (Zao ?_))
  refine Zak (v:=.tuple #[.int .i64 ((r:Nat):Int), .int .i64 ((d:Nat):Int)]) (by kernel_rfl) (fun w' R Q=>?_)
  exact ⟨col,r,d,A,C,X,rfl,R,hR,hcc,Or.inl (by omega),hB,hA,Q⟩
end Go.Proofs.YthlipnahcbcjkaaGreatDoor

namespace Go.Proofs.YthlipnahcbcjkaaGreatDoor
open Go.RowKit
theorem Zkq (n:Int) (w:World) (hg:Glob w) (h0 : -9223372036854775808≤n) (h1:n≤9223372036854775807) :
 Calls Tryz.prog 121 #[.int .i64 n, .int .i64 10] w (RetV w (.string ⟨(Lib.itoa n).toArray⟩)) :=
 (Tryz.strconv_FormatInt_10 n h0 h1 w hg.1).mono (by
  rintro e w' ⟨rfl,k,os,rfl⟩
  exact ⟨rfl,Fr.ofBelow (Lib.below_grow _ w (Nat.le_refl _) k os)⟩)
set_option maxHeartbeats 1000000 in
theorem ZlU (n:Int) (w:World) (hg:Glob w) (h0 : -9223372036854775808≤n) (h1:n≤9223372036854775807) :
 Calls Tryz.prog 53 #[.int .i64 n] w (RetV w (.string ⟨(Lib.itoa n).toArray⟩)):=by
 have H:=zh (Zkq n w hg h0 h1)
 generalize Lib.itoa n=t at *
 clear hg
 go_enter Tryz.func53,Tryz.ntmps53
 go_wp2_with fail
 refine H.out.mono ?_
 rintro e w1 ⟨rfl,hF⟩
 have HF:=zh hF
 clear hF
 go_wp2
 go_ret
 exact ⟨rfl,HF.out⟩
def ZpS (w:World) (z:Int) (e:Ending) (w':World):Prop :=
 ∃ (z':Int) (ok:Bool),e=.returned (.tuple #[.int .i64 z', .bool ok])∧Hid (ok=true→z'=z ∧ -9223372036854775808≤z∧z≤9223372036854775807)∧Ext w w'
set_option maxHeartbeats 1000000 in
theorem ZnT (a:Value) (z:Int) (w:World) (ha:Zah w a z):Calls Tryz.prog 154 #[a] w (ZpS w z):=by
 obtain ⟨s,A,l,c,rfl,hN,hz,h0⟩:=ha.open
 obtain ⟨A',xs,c',he,hc,hX,hd,ht,hv⟩:=hN
 injection he with e1 e2 e3
 subst e1 e2 e3
 match xs,hX,hd,ht,hv with
 | [],hX,hd,ht,hv =>
   have hz0:z=0:=by simp at hv; omega
   have HZ:Hid ((0:Int)=z ∧ -9223372036854775808≤z∧z≤9223372036854775807):=by unfold Hid; omega
   clear hX hd ht hv hz h0 hc hz0
   go_enter Tryz.func154,Tryz.ntmps154
   go_wp2
   go_ret2
   exact ⟨0,true,rfl,(fun _=>HZ.out),(Fr.refl _ _).alloc _⟩
 | [x],hX,hd,ht,hv =>
   obtain ⟨b,off,rfl,hb,hc0⟩:=hX.at (i:=0) (by simp)
   simp at hc0
   have hne:=Nat.ne_of_lt hb
   have hxv:x=z.natAbs:=by simpa using hv
   have hxW:x < 18446744073709551616:=by have:=hd x (by simp); rwa [Zal] at this
   cases s with
   | false =>
     have hzz:z=(x:Int):=by simp [sg] at hz; omega
     by_cases hle:x≤9223372036854775807
     ·have HZ:Hid ((x:Int)=z ∧ -9223372036854775808≤z∧z≤9223372036854775807):=by unfold Hid; omega
      have f1:IntKind.i64.wrap (x:Int)=(x:Int):=IntWalk.i64_in _ (by omega)
      have t1:decide ((x:Int)≤9223372036854775807)=true:=by simp; omega
      clear hX hd ht hv hz h0 hc hxv hzz hle hxW
      go_enter Tryz.func154,Tryz.ntmps154
      go_wp2
      go_ret2
      exact ⟨x,true,rfl,(fun _=>HZ.out),(Fr.refl _ _).alloc _⟩
     ·have t1:decide ((x:Int)≤9223372036854775807)=false:=by simp; omega
      clear hX hd ht hv hz h0 hc hxv hzz hle hxW
      go_enter Tryz.func154,Tryz.ntmps154
      go_wp2
      go_ret2
      exact ⟨0,false,rfl,(fun h=>by cases h),(Fr.refl _ _).alloc _⟩
   | true =>
     have hzz:z = -(x:Int):=by simp [sg] at hz; omega
     by_cases hle:x≤9223372036854775808
     ·have HZ:Hid (-(x:Int)=z ∧ -9223372036854775808≤z∧z≤9223372036854775807):=by unfold Hid; omega
      have f1:IntKind.i64.wrap (IntKind.u64.wrap (-(x:Int))) = -(x:Int):=by
       rw [IntKind.wrap_u64,IntKind.wrap_i64]; omega
      have t1:decide ((x:Int)≤9223372036854775808)=true:=by simp; omega
      clear hX hd ht hv hz h0 hc hxv hzz hle hxW
      go_enter Tryz.func154,Tryz.ntmps154
      go_wp2
      go_ret2
      exact ⟨-(x:Int),true,rfl,(fun _=>HZ.out),(Fr.refl _ _).alloc _⟩
     ·have t1:decide ((x:Int)≤9223372036854775808)=false:=by simp; omega
      clear hX hd ht hv hz h0 hc hxv hzz hle hxW
      go_enter Tryz.func154,Tryz.ntmps154
      go_wp2
      go_ret2
      exact ⟨0,false,rfl,(fun h=>by cases h),(Fr.refl _ _).alloc _⟩
 | x :: y :: ys,hX,hd,ht,hv =>
   obtain ⟨b,off,rfl,hb,hc0⟩:=hX.at (i:=0) (by simp)
   simp at hc0
   have hne:=Nat.ne_of_lt hb
   obtain ⟨k,hk⟩:∃ k,(x :: y :: ys).length=k:=⟨_,rfl⟩
   have hk2:2≤k:=by simp at hk; omega
   rw [hk]
   have t0:((k:Int) == 0)=false:=by simp; omega
   clear hX hd ht hv hz h0 hc hk
   go_enter Tryz.func154,Tryz.ntmps154
   go_wp2
   go_ret2
   exact ⟨0,false,rfl,(fun h=>by cases h),(Fr.refl _ _).alloc _⟩
set_option maxHeartbeats 1000000 in
theorem Zkr (a:Value) (q:Rat) (w:World) (hg:Glob w) (ha:ZaX w a q) (h1:q.den=1) (hp:Zb0 q.num.natAbs) :
 Calls Tryz.prog 76 #[a] w (RetV w (.string ⟨(Lib.itoa q.num).toArray⟩)):=by
 obtain ⟨s,t,A,B,l,c,l',c',rfl,hn,hd⟩:=ha
 rw [ZdQ.2 h1] at hd
 generalize q.num=z at *
 have HN:=zh hn
 have HD:=zh hd
 have HG:=zh hg
 have HP:=zh hp
 clear hn hd h1 hg hp
 go_enter Tryz.func76,Tryz.ntmps76
 go_wp2_with fail
 generalize hwb:World.alloc w _=wb
 obtain ⟨hB0,hE0⟩:=Blk.one hwb
 clear hwb
 refine (Zdm _ 0 _ (HD.out.ext hE0)).mono ?_
 rw [decide_eq_true rfl]
 rintro e w1 ⟨rfl,hF1⟩
 have HB1:=zh (hB0.ext hF1)
 have HE1:=zh (hE0.trans hF1)
 obtain ⟨x0,x1,x2,x3,_⟩:=(hB0.ext hF1).cell4
 clear hB0 hE0 hF1
 go_wp2_with fail
 refine (ZnT _ z _ (HN.out.ext HE1.out)).mono ?_
 rintro e w2 ⟨z',ok,rfl,hR,hF2⟩
 have HB2:=zh (HB1.out.ext hF2)
 have HE2:=zh (HE1.out.trans hF2)
 obtain ⟨y0,y1,y2,y3,_⟩:=(HB1.out.ext hF2).cell4
 clear hF2 x0 x1 x2 x3 HB1 HE1
 cases ok with
 | true =>
   obtain ⟨rfl,r1,r2⟩:=hR.out rfl
   have HC:=zh (ZlU z' w2 (HG.out.ext HE2.out) r1 r2)
   generalize Lib.itoa z'=txt at *
   clear r1 r2
   go_wp2_with fail
   refine HC.out.mono ?_
   rintro e w3 ⟨rfl,hF3⟩
   have HE3:=zh (HE2.out.trans hF3)
   clear hF3
   go_wp2
   go_ret
   exact ⟨rfl,HE3.out⟩
 | false =>
   have HC:=zh (Zgl _ z w2 (HG.out.ext HE2.out) (HN.out.ext HE2.out) HP.out)
   generalize Lib.itoa z=txt at *
   clear hR
   go_wp2_with fail
   refine HC.out.mono ?_
   rintro e w3 ⟨rfl,hF3⟩
   have HE3:=zh (HE2.out.trans hF3)
   clear hF3
   go_wp2
   go_ret
   exact ⟨rfl,HE3.out⟩
end Go.Proofs.YthlipnahcbcjkaaGreatDoor

namespace Go.Proofs.YthlipnahcbcjkaaGreatDoor
open Go.RowKit
end Go.Proofs.YthlipnahcbcjkaaGreatDoor

namespace Go.Proofs.YthlipnahcbcjkaaGreatDoor
open Go.RowKit
theorem Zjf:∀ (k u:Nat),1≤k→u < 10 ^ k→Lib.nDigits u≤k
 | 0,_,h,_=>by omega
 | k + 1,u,_,h=>by
   by_cases h0:u < 10
   ·rw [Lib.nDigits_small h0]; omega
   ·rw [Lib.nDigits_big h0]
    have hk:1≤k:=by
     rcases Nat.eq_zero_or_pos k with e | e
     ·subst e; simp at h; omega
     ·exact e
    have h1:u / 10 < 10 ^ k:=by
     rw [Nat.pow_succ] at h
     exact Nat.div_lt_of_lt_mul (by rw [Nat.mul_comm]; exact h)
    have:=Zjf k (u / 10) hk h1
    omega
theorem Zpw {z:Int} {k:Nat} (hk:1≤k) (h:z.natAbs < 10 ^ k):(Lib.itoa z).length≤k + 1:=by
 have h1:=Zjf k z.natAbs hk h
 have e:0≤z→z.toNat=z.natAbs:=fun h=>by omega
 unfold Lib.itoa
 split
 ·simp only [List.length_cons,Lib.decDigits_length]
  omega
 ·rename_i hz
  rw [Lib.decDigits_length]
  first
   | omega
   | (rw [e (by omega)]; omega)
theorem ZpT {n k:Nat} (h:wl n≤k):n < 10 ^ (20 * k):=by
 have h1:n < W64 ^ k:=ZbB.1 h
 have h2:W64 ^ k≤(10 ^ 20) ^ k:=Nat.pow_le_pow_left (by rw [Zal]; decide) k
 rw [← Nat.pow_mul] at h2
 omega
theorem ZlV (a:Value) (q:Rat) (w:World) (hg:Glob w) (ha:ZaX w a q) (hn:Zb0 q.num.natAbs) (hd:Zb0 q.den):Calls Tryz.prog 76 #[a] w (RetV w (.string ⟨(Zcg q).toArray⟩)):=by
 by_cases h:q.den=1
 ·have:=Zkr a q w hg ha h hn
  unfold Zcg
  rw [if_pos h]; exact this
 ·refine Zlr a q w hg ha hn hd h ?_
  unfold Zb0 at hn
  have h1:=ZpT (show wl q.num.natAbs≤128 by omega)
  have h2:=Zpw (z:=q.num) (k:=20 * 128) (by decide) h1
  omega
end Go.Proofs.YthlipnahcbcjkaaGreatDoor

namespace Go.Proofs.YthlipnahcbcjkaaGreatDoor
open Go.RowKit
inductive RecRun (m:Int):Int→Int→Int→Int→Int→Int→Prop
 | done {r0 r1 t0 t1:Int} (h:r1 * r1 * 2 < m):RecRun m r0 r1 t0 t1 r1 t1
 | step {r0 r1 t0 t1 r t:Int} (h:¬ r1 * r1 * 2 < m) (k:RecRun m r1 (r0.tmod r1) t1 (t0 - r0.tdiv r1 * t1) r t):RecRun m r0 r1 t0 t1 r t
theorem RecRun.unique {m r0 r1 t0 t1 r t r' t':Int} (h:RecRun m r0 r1 t0 t1 r t) (k:RecRun m r0 r1 t0 t1 r' t'):r=r'∧t=t':=by
 induction h with
 | done h =>
   cases k with
   | done=>exact ⟨rfl,rfl⟩
   | step h'=>exact absurd h h'
 | step h _ ih =>
   cases k with
   | done h'=>exact absurd h' h
   | step _ k=>exact ih k
structure RecInv (m r0 r1 t0 t1:Int):Prop where
 nonneg:0≤r1
 lt:r1 < r0
 le:r0≤m
 sum:(t1.natAbs:Int) * r0 + (t0.natAbs:Int) * r1=m
 alt:(0≤t0∧t1≤0)∨(t0≤0∧0≤t1)
theorem RecInv.start {m r:Int} (h0:0≤r) (hr:r < m):RecInv m m r 0 1:=⟨h0,hr,Int.le_refl _,by simp,Or.inr ⟨Int.le_refl _,by omega⟩⟩
theorem RecInv.next {m r0 r1 t0 t1:Int} (h:RecInv m r0 r1 t0 t1) (h1:0 < r1):RecInv m r1 (r0.tmod r1) t1 (t0 - r0.tdiv r1 * t1):=by
 obtain ⟨h2,h3,h4,h5,h6⟩:=h
 have e1:r0.tdiv r1=r0 / r1:=Int.tdiv_eq_ediv_of_nonneg (by omega)
 have e2:r0.tmod r1=r0 % r1:=Int.tmod_eq_emod_of_nonneg (by omega)
 rw [e1,e2]
 have hq:0≤r0 / r1:=Int.ediv_nonneg (by omega) h2
 have hd:=Int.mul_ediv_add_emod r0 r1
 have hm0:=Int.emod_nonneg r0 (show r1≠0 by omega)
 have hm1:=Int.emod_lt_of_pos r0 h1
 generalize r0 / r1=q at *
 generalize r0 % r1=r2 at *
 have habs:((t0 - q * t1).natAbs:Int)=(t0.natAbs:Int) + q * (t1.natAbs:Int):=by
  rcases h6 with ⟨a,b⟩ | ⟨a,b⟩
  ·have e3:(t1.natAbs:Int) = -t1:=by omega
   have e4:(t0.natAbs:Int)=t0:=by omega
   have hp:0≤q * -t1:=Int.mul_nonneg hq (by omega)
   rw [e3,e4,Int.mul_neg]
   rw [Int.mul_neg] at hp
   omega
  ·have e3:(t1.natAbs:Int)=t1:=by omega
   have e4:(t0.natAbs:Int) = -t0:=by omega
   have hp:0≤q * t1:=Int.mul_nonneg hq b
   rw [e3,e4]
   omega
 refine ⟨hm0,hm1,by omega,?_,?_⟩
 ·rw [habs,Int.add_mul]
  rw [← hd,Int.mul_add] at h5
  rw [← h5,Int.mul_right_comm q,Int.mul_assoc q,Int.mul_comm (t1.natAbs:Int) (r1 * q),Int.mul_right_comm r1 q,Int.mul_comm q,Int.mul_comm r1 (t1.natAbs:Int)]
  omega
 ·rcases h6 with ⟨a,b⟩ | ⟨a,b⟩
  ·right
   have hp:0≤q * -t1:=Int.mul_nonneg hq (by omega)
   rw [Int.mul_neg] at hp
   exact ⟨b,by omega⟩
  ·left
   have hp:0≤q * t1:=Int.mul_nonneg hq b
   exact ⟨b,by omega⟩
theorem RecInv.bound {m r0 r1 t0 t1:Int} (h:RecInv m r0 r1 t0 t1):t1.natAbs≤m.natAbs∧r0.natAbs≤m.natAbs∧r1.natAbs≤m.natAbs∧(0 < r1→t0.natAbs≤m.natAbs):=by
 obtain ⟨h2,h3,h4,h5,_⟩:=h
 have a1:0≤(t1.natAbs:Int) * r0:=Int.mul_nonneg (by omega) (by omega)
 have a2:0≤(t0.natAbs:Int) * r1:=Int.mul_nonneg (by omega) h2
 have a3:(t1.natAbs:Int) * 1≤(t1.natAbs:Int) * r0:=Int.mul_le_mul_of_nonneg_left (by omega) (by omega)
 refine ⟨by omega,by omega,by omega,fun h1=>?_⟩
 have a4:(t0.natAbs:Int) * 1≤(t0.natAbs:Int) * r1:=Int.mul_le_mul_of_nonneg_left (by omega) (by omega)
 omega
def Zfj (wb wx:World) (g h:Nat) (x y:Int):Prop:=Zbc wx g x∧Zbc wx h y∧Ext wb wx∧g≠h∧wb.heap.size≤g∧wb.heap.size≤h
theorem Zbc.new {w:World} {z:Int} {s:Bool} {A:Option Addr} {l c:Nat} (hI:Zah w (.agg #[.bool s, .slice A l c]) z):Zbc (w.alloc (.cells #[.bool s, .slice A l c] 105)) w.heap.size z :=
 ⟨s,A,l,c,Blk.new _ _ _,hI.ext ((Fr.refl _ _).alloc _)⟩
theorem Zgx (w:World) (t:TypeId) (x y:Array Value):Blk t ((w.alloc (.cells x t)).alloc (.cells y t)) (w.heap.size + 1) y:=by
 have e:(w.alloc (.cells x t)).heap.size=w.heap.size + 1:=by simp
 have h1:=Blk.new (w.alloc (.cells x t)) t y
 rwa [e] at h1
theorem ZbS {w:World} {g:Nat} (h:Blk 105 w g #[.bool false, .slice none 0 0]):Zbc w g 0:=⟨_,_,_,_,h,Zah.zero w⟩
structure RecMem (w wr:World) (M R b r f g:Nat) (m r0 r1 t0 t1:Int):Prop where
 ext:Ext w wr
 mod:Zbc wr M m
 res:Blk 107 wr R #[.bool false, .slice none 0 0, .bool false, .slice none 0 0]
 rest0:Zbc wr b r0
 rest1:Zbc wr r r1
 fac0:Zbc wr f t0
 fac1:Zbc wr g t1
theorem RecMem.on {w wr wx:World} {M R b r f g:Nat} {m r0 r1 t0 t1:Int} (h:RecMem w wr M R b r f g m r0 r1 t0 t1) (hF:Ext wr wx):RecMem w wx M R b r f g m r0 r1 t0 t1 :=
 ⟨h.ext.trans hF,h.mod.ext hF,h.res.ext hF,h.rest0.ext hF,h.rest1.ext hF,h.fac0.ext hF,h.fac1.ext hF⟩
def ZeC (w:World) (M R b r f g:Nat):Prop:=w.heap.size≤M∧w.heap.size≤R∧M≠R∧M < b∧M < r∧R < b∧R < r∧b≠r∧b < f∧r < f∧b < g∧r < g∧f≠g
section
variable {w wr:World} {M R b r f g:Nat} {m r0 r1 t0 t1 z:Int} {s:Bool} {A:Option Addr} {l c:Nat}
theorem RecMem.put0 (h:RecMem w wr M R b r f g m r0 r1 t0 t1) (hd:ZeC w M R b r f g) (hI:Zah wr (.agg #[.bool s, .slice A l c]) z):RecMem w ((wr.setCell ⟨b,0,none⟩ (.bool s)).setCell ⟨b,1,none⟩ (.slice A l c)) M R b r f g m z r1 t0 t1:=by
 unfold ZeC at hd
 exact ⟨Fr.local_ h.ext (Fr.set2 _ _) (by omega),h.mod.away h.rest0 (by omega),h.res.fr (Fr.set2 (r:=b) (i:=0) (j:=1) _ _) (by omega),h.rest0.put hI,h.rest1.away h.rest0 (by omega),h.fac0.away h.rest0 (by omega),h.fac1.away h.rest0 (by omega)⟩
theorem RecMem.put1 (h:RecMem w wr M R b r f g m r0 r1 t0 t1) (hd:ZeC w M R b r f g) (hI:Zah wr (.agg #[.bool s, .slice A l c]) z):RecMem w ((wr.setCell ⟨r,0,none⟩ (.bool s)).setCell ⟨r,1,none⟩ (.slice A l c)) M R b r f g m r0 z t0 t1:=by
 unfold ZeC at hd
 exact ⟨Fr.local_ h.ext (Fr.set2 _ _) (by omega),h.mod.away h.rest1 (by omega),h.res.fr (Fr.set2 (r:=r) (i:=0) (j:=1) _ _) (by omega),h.rest0.away h.rest1 (by omega),h.rest1.put hI,h.fac0.away h.rest1 (by omega),h.fac1.away h.rest1 (by omega)⟩
theorem RecMem.put2 (h:RecMem w wr M R b r f g m r0 r1 t0 t1) (hd:ZeC w M R b r f g) (hI:Zah wr (.agg #[.bool s, .slice A l c]) z):RecMem w ((wr.setCell ⟨f,0,none⟩ (.bool s)).setCell ⟨f,1,none⟩ (.slice A l c)) M R b r f g m r0 r1 z t1:=by
 unfold ZeC at hd
 exact ⟨Fr.local_ h.ext (Fr.set2 _ _) (by omega),h.mod.away h.fac0 (by omega),h.res.fr (Fr.set2 (r:=f) (i:=0) (j:=1) _ _) (by omega),h.rest0.away h.fac0 (by omega),h.rest1.away h.fac0 (by omega),h.fac0.put hI,h.fac1.away h.fac0 (by omega)⟩
theorem RecMem.put3 (h:RecMem w wr M R b r f g m r0 r1 t0 t1) (hd:ZeC w M R b r f g) (hI:Zah wr (.agg #[.bool s, .slice A l c]) z):RecMem w ((wr.setCell ⟨g,0,none⟩ (.bool s)).setCell ⟨g,1,none⟩ (.slice A l c)) M R b r f g m r0 r1 t0 z:=by
 unfold ZeC at hd
 exact ⟨Fr.local_ h.ext (Fr.set2 _ _) (by omega),h.mod.away h.fac1 (by omega),h.res.fr (Fr.set2 (r:=g) (i:=0) (j:=1) _ _) (by omega),h.rest0.away h.fac1 (by omega),h.rest1.away h.fac1 (by omega),h.fac0.away h.fac1 (by omega),h.fac1.put hI⟩
end
def ZoV (w wr:World) (M R b r f g:Nat) (v m r0 r1 t0 t1:Int):Prop :=
 RecMem w wr M R b r f g m r0 r1 t0 t1∧RecInv m r0 r1 t0 t1∧∀ x y,RecRun m r0 r1 t0 t1 x y→RecRun m m (v % m) 0 1 x y
def Zjg (m:Int):Prop:=∀ x y:Int,x.natAbs≤m.natAbs∧y.natAbs≤m.natAbs→Zdn x y
theorem Zjg.words {m:Int} (h:wl m.natAbs < 39):Zjg m:=fun x y hxy=>Zdn.words (by have:=Za3 hxy.1; omega) (by have:=Za3 hxy.2; omega)
def ZbK (v m:Int) (q:Rat) (ok:Bool):Prop:=∃ r t:Int,RecRun m m (v % m) 0 1 r t ∧
 ((ok=true∧t * t * 2 < m∧Int.gcd t m=1∧Int.gcd t r=1∧q=Rat.divInt r t)∨(ok=false∧¬ (t * t * 2 < m∧Int.gcd t m=1∧Int.gcd t r=1)∧q=0))
def Zlv (w:World) (v m:Int) (e:Ending) (w':World):Prop:=∃ x q ok,e=.returned (.tuple #[x, .bool ok])∧ZaX w' x q∧ZbK v m q ok∧Ext w w'
theorem ZlW {t u:TypeId} {w wb:World} {x y z:Array Value} (h:((w.alloc (.cells x t)).alloc (.cells y t)).alloc (.cells z u)=wb) :
 Blk t wb w.heap.size x∧Blk t wb (w.heap.size + 1) y∧Blk u wb (w.heap.size + 1 + 1) z∧Ext w wb:=by
 obtain ⟨h0,h1,h2⟩:=Zcr (t:=t) (w:=w) (x:=x) (y:=y) rfl
 subst h
 have e2:((w.alloc (.cells x t)).alloc (.cells y t)).heap.size=w.heap.size + 1 + 1:=by simp
 have h3:=Blk.new ((w.alloc (.cells x t)).alloc (.cells y t)) u z
 rw [e2] at h3
 exact ⟨h0.alloc _,h1.alloc _,h3,h2.alloc _⟩
theorem Zlw {t t' t'':TypeId} {w w':World} {g g' g'':Nat} {x y x' y' x'' y'':Value} (h:Blk t w g #[x,y]) (h':Blk t' w g' #[x',y']) (h'':Blk t'' w g'' #[x'',y'']) (hF:Ext w w') :
 (w'.cell? ⟨g,0,none⟩=some x∧w'.cell? ⟨g,1,none⟩=some y)∧(w'.cell? ⟨g',0,none⟩=some x'∧w'.cell? ⟨g',1,none⟩=some y')∧(w'.cell? ⟨g'',0,none⟩=some x''∧w'.cell? ⟨g'',1,none⟩=some y'') :=
 ⟨⟨(h.ext hF).cell 0,(h.ext hF).cell 1⟩,⟨(h'.ext hF).cell 0,(h'.ext hF).cell 1⟩,⟨(h''.ext hF).cell 0,(h''.ext hF).cell 1⟩⟩
theorem ZhD {fn:Func} {tmps:Array Value} {w wz:World} {r:Nat} {ok:Bool} {s t:Bool} {A B:Option Addr} {l c l' c':Nat} {v m:Int} {q:Rat} (hres:fn.results=#[.cell 4 107, .tmp 5]) (ht:tmps[4]? = some (.pointer (some ⟨r,0,none⟩))) (h3:tmps[5]? = some (.bool ok))
 (hB:Blk 107 wz r #[.bool s, .slice A l c, .bool t, .slice B l' c']) (Q:Ext w wz) (hR:ZaX wz (.agg #[.bool s, .slice A l c, .bool t, .slice B l' c']) q) (hI:ZbK v m q ok) :
 bodyPost Tryz.prog fn (Zlv w v m) .ret ⟨tmps,[]⟩ wz:=by
 obtain ⟨h0,h1,h2,h4,_⟩:=hB.cell4
 exact bodyPost_ret (v:=.tuple #[.agg #[.bool s, .slice A l c, .bool t, .slice B l' c'], .bool ok]) (by simp [results,hres,ht,h3,go_sem,h0,h1,h2,h4]) rfl ⟨_,q,ok,rfl,hR,hI,Q⟩
theorem ZpU {t t':TypeId} {w:World} {g g' r i j:Nat} {x y x' y' a b:Value} (h:Blk t w g #[x,y]) (h':Blk t' w g' #[x',y']) (hg:g≠r) (hg':g'≠r) :
 ((((w.setCell ⟨r,i,none⟩ a).setCell ⟨r,j,none⟩ b).drew.cell? ⟨g,0,none⟩=some x∧((w.setCell ⟨r,i,none⟩ a).setCell ⟨r,j,none⟩ b).drew.cell? ⟨g,1,none⟩=some y)∧(((w.setCell ⟨r,i,none⟩ a).setCell ⟨r,j,none⟩ b).drew.cell? ⟨g',0,none⟩=some x'∧((w.setCell ⟨r,i,none⟩ a).setCell ⟨r,j,none⟩ b).drew.cell? ⟨g',1,none⟩=some y')) :=
 ⟨⟨(h.fr (Fr.set2 a b) hg).cell 0,(h.fr (Fr.set2 a b) hg).cell 1⟩,⟨(h'.fr (Fr.set2 a b) hg').cell 0,(h'.fr (Fr.set2 a b) hg').cell 1⟩⟩
section
variable {wb w1:World} {x y:Int} {s s':Bool} {A A':Option Addr} {l c l' c':Nat}
abbrev bx (s:Bool) (A:Option Addr) (l c:Nat):Obj:=.cells #[.bool s, .slice A l c] 105
theorem Zgy (hX:Ext wb w1) (hx:Zah w1 (.agg #[.bool s, .slice A l c]) x) (hy:Zah w1 (.agg #[.bool s', .slice A' l' c']) y):Zfj wb ((w1.alloc (bx s A l c)).alloc (bx s' A' l' c')) w1.heap.size (w1.heap.size + 1) x y:=by
 refine ⟨(Zbc.new hx).ext ((Fr.refl _ _).alloc _),⟨_,_,_,_,Zgx _ _ _ _,hy.ext (((Fr.refl _ _).alloc _).alloc _)⟩,(hX.alloc _).alloc _,by omega,hX.size,by have:=hX.size; omega⟩
theorem ZoB (hX:Ext wb w1) (hx:Zah w1 (.agg #[.bool s, .slice A l c]) x) (hy:Zah w1 (.agg #[.bool s', .slice A' l' c']) y):Zfj wb ((w1.alloc (bx s' A' l' c')).alloc (bx s A l c)) (w1.heap.size + 1) w1.heap.size x y:=by
 obtain ⟨h1,h2,h3,h4,h5,h6⟩:=Zgy hX hy hx
 exact ⟨h2,h1,h3,Ne.symm h4,h6,h5⟩
theorem Zlx (hX:Ext wb w1) (hb:Blk 105 w1 wb.heap.size #[.bool false, .slice none 0 0]) (hx:Zah w1 (.agg #[.bool s, .slice A l c]) x) (hy:Zah w1 (.agg #[.bool s', .slice A' l' c']) y) :
 Zfj wb (((w1.setCell ⟨wb.heap.size,0,none⟩ (.bool s)).setCell ⟨wb.heap.size,1,none⟩ (.slice A l c)).alloc (bx s' A' l' c')) wb.heap.size w1.heap.size x y:=by
 have h1:=(ZbS hb).put hx
 have h2:=Zah.away (a:=.bool s) (b:=.slice A l c) hy (ZbS hb)
 have h3:=Fr.local_ hX (Fr.set2 (r:=wb.heap.size) (i:=0) (j:=1) (.bool s) (.slice A l c)) (Nat.le_refl _)
 have e:((w1.setCell ⟨wb.heap.size,0,none⟩ (.bool s)).setCell ⟨wb.heap.size,1,none⟩ (.slice A l c)).heap.size=w1.heap.size:=by simp [World.setCell]
 have h4:=Zbc.new h2
 rw [e] at h4
 exact ⟨h1.ext ((Fr.refl _ _).alloc _),h4,h3.alloc _,Nat.ne_of_lt hb.lt,Nat.le_refl _,hX.size⟩
theorem ZoC (hX:Ext wb w1) (hb:Blk 105 w1 wb.heap.size #[.bool false, .slice none 0 0]) (hx:Zah w1 (.agg #[.bool s, .slice A l c]) x) (hy:Zah w1 (.agg #[.bool s', .slice A' l' c']) y) :
 Zfj wb (((w1.setCell ⟨wb.heap.size,0,none⟩ (.bool s')).setCell ⟨wb.heap.size,1,none⟩ (.slice A' l' c')).alloc (bx s A l c)) w1.heap.size wb.heap.size x y:=by
 obtain ⟨h1,h2,h3,h4,h5,h6⟩:=Zlx hX hb hy hx
 exact ⟨h2,h1,h3,Ne.symm h4,h6,h5⟩
theorem ZoD (hX:Ext wb w1) (hb:Blk 105 w1 wb.heap.size #[.bool false, .slice none 0 0]) (hb2:Blk 105 w1 (wb.heap.size + 1) #[.bool false, .slice none 0 0]) (hx:Zah w1 (.agg #[.bool s, .slice A l c]) x) (hy:Zah w1 (.agg #[.bool s', .slice A' l' c']) y) :
 Zfj wb ((((w1.setCell ⟨wb.heap.size,0,none⟩ (.bool s)).setCell ⟨wb.heap.size,1,none⟩ (.slice A l c)).setCell ⟨wb.heap.size + 1,0,none⟩ (.bool s')).setCell ⟨wb.heap.size + 1,1,none⟩ (.slice A' l' c')) wb.heap.size (wb.heap.size + 1) x y:=by
 have h1:=(ZbS hb).put hx
 have h2:=Zah.away (a:=.bool s) (b:=.slice A l c) hy (ZbS hb)
 have h3:=Fr.local_ hX (Fr.set2 (r:=wb.heap.size) (i:=0) (j:=1) (.bool s) (.slice A l c)) (Nat.le_refl _)
 have h4:=Zbc.away (a:=.bool s) (b:=.slice A l c) (ZbS hb2) (ZbS hb) (by omega)
 have h5:=Fr.local_ h3 (Fr.set2 (r:=wb.heap.size + 1) (i:=0) (j:=1) (.bool s') (.slice A' l' c')) (by omega)
 exact ⟨h1.away h4 (by omega),h4.put h2,h5,by omega,Nat.le_refl _,by omega⟩
theorem ZoE (hX:Ext wb w1) (hb:Blk 105 w1 wb.heap.size #[.bool false, .slice none 0 0]) (hb2:Blk 105 w1 (wb.heap.size + 1) #[.bool false, .slice none 0 0]) (hx:Zah w1 (.agg #[.bool s, .slice A l c]) x) (hy:Zah w1 (.agg #[.bool s', .slice A' l' c']) y) :
 Zfj wb ((((w1.setCell ⟨wb.heap.size + 1,0,none⟩ (.bool s)).setCell ⟨wb.heap.size + 1,1,none⟩ (.slice A l c)).setCell ⟨wb.heap.size,0,none⟩ (.bool s')).setCell ⟨wb.heap.size,1,none⟩ (.slice A' l' c')) (wb.heap.size + 1) wb.heap.size x y:=by
 have h1:=(ZbS hb2).put hx
 have h2:=Zah.away (a:=.bool s) (b:=.slice A l c) hy (ZbS hb2)
 have h3:=Fr.local_ hX (Fr.set2 (r:=wb.heap.size + 1) (i:=0) (j:=1) (.bool s) (.slice A l c)) (by omega)
 have h4:=Zbc.away (a:=.bool s) (b:=.slice A l c) (ZbS hb) (ZbS hb2) (by omega)
 have h5:=Fr.local_ h3 (Fr.set2 (r:=wb.heap.size) (i:=0) (j:=1) (.bool s') (.slice A' l' c')) (Nat.le_refl _)
 exact ⟨h1.away h4 (by omega),h4.put h2,h5,by omega,by omega,Nat.le_refl _⟩
end
set_option maxHeartbeats 4000000 in
theorem Zgz (a b:Value) (v m:Int) (w:World) (hgl:Glob w) (ha:Zah w a v) (hb:Zah w b m) (hv:Fits v) (hm:wl m.natAbs < 39) (h2:2≤m) (hga:Zjg m):Calls Tryz.prog 136 #[a,b] w (Zlv w v m):=by
 obtain ⟨s,A,l,c,rfl⟩:=ha.shape
 obtain ⟨t,B,l',c',rfl⟩:=hb.shape
 have HA:=zh ha
 have HB:=zh hb
 have HGl:=zh hgl
 have HV:=zh hv
 have HM:=zh hm
 have HGA:=zh hga
 clear ha hb hgl hv hm hga
 go_enter Tryz.func136,Tryz.ntmps136
 go_wp2_with fail
 generalize hwb:World.alloc (World.alloc (World.alloc w _) _) _=wb
 obtain ⟨hB0,hB1,hB2,Q⟩:=ZlW hwb
 have HB0:=zh hB0
 have HB1:=zh hB1
 have HR:=zh hB2
 have HE:=zh Q
 clear hwb hB0 hB1 hB2 Q
 go_cut [6,7] (fun s6 s7 wx=>∃ g6 g7:Nat,s6=.pointer (some ⟨g6,0,none⟩)∧s7=.pointer (some ⟨g7,0,none⟩)∧Hid (Zfj wb wx g6 g7 m (v % m)))
 case first =>
  refine Zey 6 (fun w'=>(w'.cell? ⟨w.heap.size,0,none⟩=some (.bool s)∧w'.cell? ⟨w.heap.size,1,none⟩=some (.slice A l c))∧(w'.cell? ⟨w.heap.size + 1,0,none⟩=some (.bool t)∧w'.cell? ⟨w.heap.size + 1,1,none⟩=some (.slice B l' c'))) ZdB ?_
  refine Zb4 0 rfl (by kernel_rfl) (fun _ _ _ h=>h) (Zbp HB0.out HB1.out ((Fr.refl _ _).drew)) (fun _=>Zbz rfl rfl rfl (fun _ h=>h.2)) (fun hS=>?_)
  refine Zb4 1 rfl (by kernel_rfl) (fun _ _ _ h=>h) hS (fun _=>Zbz rfl rfl rfl (fun _ h=>h.1)) (fun hS=>?_)
  refine Zb4 2 rfl (by kernel_rfl) (fun _ _ _ h=>h) hS (fun _=>Zbz rfl rfl rfl (fun _ h=>h.2)) (fun hS=>?_)
  refine Zcu (rs:=[3,4,5]) (by kernel_rfl) (Zk2 ?_ ?_ ?_)
  ·refine ⟨_,rfl,rfl,fun K hK=>?_⟩
   go_simp
   refine (ZfR _ _ v m _ (HA.out.ext (HE.out.trans ((Fr.refl _ _).drew))) (HB.out.ext (HE.out.trans ((Fr.refl _ _).drew))) HV.out (by have:=HM.out; omega) (by omega)).mono ?_
   rintro e w1 ⟨u1,rfl,hI1,hF1⟩
   obtain ⟨s1,A1,l1,c1,rfl⟩:=hI1.shape
   have hX:Ext wb w1:=((Fr.refl _ _).drew).trans hF1
   refine hK _ _ (Zbp HB0.out HB1.out (hX)) ?_
   refine Zcu (rs:=[4,5]) (by kernel_rfl) (Zgc ?_ ?_)
   ·refine ⟨_,rfl,rfl,fun K hK=>?_⟩
    go_simp
    refine hK _ _ (Zbp HB0.out HB1.out (hX.alloc _)) ?_
    refine Zcu (rs:=[5]) (by kernel_rfl) (Zdo ?_)
    refine ⟨_,rfl,rfl,fun K hK=>?_⟩
    go_simp
    refine hK _ _ (Zbp HB0.out HB1.out ((hX.alloc _).alloc _)) ?_
    refine ZcP (l:=[_,_]) 6 rfl (by kernel_rfl) ?_
    go_wp2_with fail
    go_meet
    exact ⟨_,_,rfl,rfl,Zgy hX (HB.out.ext (HE.out.trans hX)) hI1⟩
   ·refine ⟨_,rfl,rfl,fun K hK=>?_⟩
    go_simp
    refine hK _ _ (Zbp HB0.out HB1.out (hX.alloc _)) ?_
    refine Zcu (rs:=[4]) (by kernel_rfl) (Zdo ?_)
    refine ⟨_,rfl,rfl,fun K hK=>?_⟩
    go_simp
    refine hK _ _ (Zbp HB0.out HB1.out ((hX.alloc _).alloc _)) ?_
    refine ZcP (l:=[_,_]) 6 rfl (by kernel_rfl) ?_
    go_wp2_with fail
    go_meet
    exact ⟨_,_,rfl,rfl,ZoB hX (HB.out.ext (HE.out.trans hX)) hI1⟩
  ·refine ⟨_,rfl,rfl,fun K hK=>?_⟩
   go_simp
   refine hK _ _ (Zbp HB0.out HB1.out (((Fr.refl _ _).drew).alloc _)) ?_
   refine Zcu (rs:=[3,5]) (by kernel_rfl) (Zgc ?_ ?_)
   ·refine ⟨_,rfl,rfl,fun K hK=>?_⟩
    go_simp
    refine (ZfR _ _ v m _ (HA.out.ext (HE.out.trans (((Fr.refl _ _).drew).alloc _))) (HB.out.ext (HE.out.trans (((Fr.refl _ _).drew).alloc _))) HV.out (by have:=HM.out; omega) (by omega)).mono ?_
    rintro e w1 ⟨u1,rfl,hI1,hF1⟩
    obtain ⟨s1,A1,l1,c1,rfl⟩:=hI1.shape
    have hX:Ext wb w1:=(((Fr.refl _ _).drew).alloc _).trans hF1
    refine hK _ _ (Zbp HB0.out HB1.out (hX)) ?_
    refine Zcu (rs:=[5]) (by kernel_rfl) (Zdo ?_)
    refine ⟨_,rfl,rfl,fun K hK=>?_⟩
    go_simp
    refine hK _ _ (Zbp HB0.out HB1.out (hX.alloc _)) ?_
    have hb:=(Blk.new wb 105 #[.bool false, .slice none 0 0]).ext (Fr.undrew hF1)
    obtain ⟨f0,f1,f2,f3⟩:=hb.cell2
    have hlt:=hb.lt
    have hne:=Nat.ne_of_lt hlt
    refine ZcP (l:=[_,_]) 6 rfl (by kernel_rfl) ?_
    go_wp2_with fail
    go_meet
    exact ⟨_,_,rfl,rfl,Zlx hX hb (HB.out.ext (HE.out.trans hX)) hI1⟩
   ·refine ⟨_,rfl,rfl,fun K hK=>?_⟩
    go_simp
    refine hK _ _ (Zbp HB0.out HB1.out ((((Fr.refl _ _).drew).alloc _).alloc _)) ?_
    refine Zcu (rs:=[3]) (by kernel_rfl) (Zdo ?_)
    refine ⟨_,rfl,rfl,fun K hK=>?_⟩
    go_simp
    refine (ZfR _ _ v m _ (HA.out.ext (HE.out.trans ((((Fr.refl _ _).drew).alloc _).alloc _))) (HB.out.ext (HE.out.trans ((((Fr.refl _ _).drew).alloc _).alloc _))) HV.out (by have:=HM.out; omega) (by omega)).mono ?_
    rintro e w1 ⟨u1,rfl,hI1,hF1⟩
    obtain ⟨s1,A1,l1,c1,rfl⟩:=hI1.shape
    have hX:Ext wb w1:=((((Fr.refl _ _).drew).alloc _).alloc _).trans hF1
    refine hK _ _ (Zbp HB0.out HB1.out (hX)) ?_
    have hb:=((Blk.new wb 105 #[.bool false, .slice none 0 0]).alloc (.cells #[.bool false, .slice none 0 0] 105)).ext (Fr.undrew hF1)
    have hb2:=(Zgx wb 105 #[.bool false, .slice none 0 0] #[.bool false, .slice none 0 0]).ext (Fr.undrew hF1)
    obtain ⟨f0,f1,f2,f3⟩:=hb.cell2
    obtain ⟨f4,f5,f6,f7⟩:=hb2.cell2
    refine ZcP (l:=[_,_]) 6 rfl (by kernel_rfl) ?_
    go_wp2_with fail
    go_meet
    exact ⟨_,_,rfl,rfl,ZoD hX hb hb2 (HB.out.ext (HE.out.trans hX)) hI1⟩
  ·refine ⟨_,rfl,rfl,fun K hK=>?_⟩
   go_simp
   refine hK _ _ (Zbp HB0.out HB1.out (((Fr.refl _ _).drew).alloc _)) ?_
   refine Zcu (rs:=[3,4]) (by kernel_rfl) (Zgc ?_ ?_)
   ·refine ⟨_,rfl,rfl,fun K hK=>?_⟩
    go_simp
    refine (ZfR _ _ v m _ (HA.out.ext (HE.out.trans (((Fr.refl _ _).drew).alloc _))) (HB.out.ext (HE.out.trans (((Fr.refl _ _).drew).alloc _))) HV.out (by have:=HM.out; omega) (by omega)).mono ?_
    rintro e w1 ⟨u1,rfl,hI1,hF1⟩
    obtain ⟨s1,A1,l1,c1,rfl⟩:=hI1.shape
    have hX:Ext wb w1:=(((Fr.refl _ _).drew).alloc _).trans hF1
    refine hK _ _ (Zbp HB0.out HB1.out (hX)) ?_
    refine Zcu (rs:=[4]) (by kernel_rfl) (Zdo ?_)
    refine ⟨_,rfl,rfl,fun K hK=>?_⟩
    go_simp
    refine hK _ _ (Zbp HB0.out HB1.out (hX.alloc _)) ?_
    have hb:=(Blk.new wb 105 #[.bool false, .slice none 0 0]).ext (Fr.undrew hF1)
    obtain ⟨f0,f1,f2,f3⟩:=hb.cell2
    have hlt:=hb.lt
    have hne:=Nat.ne_of_lt hlt
    refine ZcP (l:=[_,_]) 6 rfl (by kernel_rfl) ?_
    go_wp2_with fail
    go_meet
    exact ⟨_,_,rfl,rfl,ZoC hX hb (HB.out.ext (HE.out.trans hX)) hI1⟩
   ·refine ⟨_,rfl,rfl,fun K hK=>?_⟩
    go_simp
    refine hK _ _ (Zbp HB0.out HB1.out ((((Fr.refl _ _).drew).alloc _).alloc _)) ?_
    refine Zcu (rs:=[3]) (by kernel_rfl) (Zdo ?_)
    refine ⟨_,rfl,rfl,fun K hK=>?_⟩
    go_simp
    refine (ZfR _ _ v m _ (HA.out.ext (HE.out.trans ((((Fr.refl _ _).drew).alloc _).alloc _))) (HB.out.ext (HE.out.trans ((((Fr.refl _ _).drew).alloc _).alloc _))) HV.out (by have:=HM.out; omega) (by omega)).mono ?_
    rintro e w1 ⟨u1,rfl,hI1,hF1⟩
    obtain ⟨s1,A1,l1,c1,rfl⟩:=hI1.shape
    have hX:Ext wb w1:=((((Fr.refl _ _).drew).alloc _).alloc _).trans hF1
    refine hK _ _ (Zbp HB0.out HB1.out (hX)) ?_
    have hb:=((Blk.new wb 105 #[.bool false, .slice none 0 0]).alloc (.cells #[.bool false, .slice none 0 0] 105)).ext (Fr.undrew hF1)
    have hb2:=(Zgx wb 105 #[.bool false, .slice none 0 0] #[.bool false, .slice none 0 0]).ext (Fr.undrew hF1)
    obtain ⟨f0,f1,f2,f3⟩:=hb.cell2
    obtain ⟨f4,f5,f6,f7⟩:=hb2.cell2
    refine ZcP (l:=[_,_]) 6 rfl (by kernel_rfl) ?_
    go_wp2_with fail
    go_meet
    exact ⟨_,_,rfl,rfl,ZoE hX hb hb2 (HB.out.ext (HE.out.trans hX)) hI1⟩
 case rest =>
  obtain ⟨g6,g7,rfl,rfl,hT⟩:=hcut
  obtain ⟨h6,h7,hEc,hne67,hl6,hl7⟩:=hT.out
  have hR1:=HR.out.ext hEc
  have hM1:Zbc wc (w.heap.size + 1) m:=⟨_,_,_,_,HB1.out.ext hEc,HB.out.ext (HE.out.trans hEc)⟩
  have hsz:w.heap.size + 1 + 1 < wb.heap.size:=HR.out.lt
  have hmod0:=Int.emod_nonneg v (show m≠0 by omega)
  have hmod1:=Int.emod_lt_of_pos v (show 0 < m by omega)
  have H6:=zh h6
  have H7:=zh h7
  have HEc:=zh (HE.out.trans hEc)
  have HR1:=zh hR1
  have HM1:=zh hM1
  have hc6:=h6.lt
  have hc7:=h7.lt
  clear h6 h7 hEc hT hR1 hM1 HB0 HB1 HR HE HA HV
  generalize hMM:w.heap.size + 1=M at *
  generalize hRR:M + 1=R at *
  have d1:w.heap.size≤M:=by omega
  have d2:w.heap.size≤R:=by omega
  have d3:M≠R:=by omega
  have d4:M < g6:=by omega
  have d5:M < g7:=by omega
  have d6:R < g6:=by omega
  have d7:R < g7:=by omega
  clear hMM hRR hsz hl6 hl7
  clear wb
  go_wp2_with fail
  refine (Zeh 0 _ Zai rfl rfl).mono ?_
  rintro e w1 ⟨u1,rfl,hI1,hF1⟩
  obtain ⟨s1,B1,l1,c1,rfl⟩:=hI1.shape
  go_wp2_with fail
  refine (Zeh 1 _ ZdM rfl rfl).mono ?_
  rintro e w2 ⟨u2,rfl,hI2,hF2⟩
  obtain ⟨s2,B2,l2,c2,rfl⟩:=hI2.shape
  have HTN:=zh (Zgy (hF1.trans hF2) (hI1.ext hF2) hI2)
  have d8:g6 < w2.heap.size:=Nat.lt_of_lt_of_le hc6 (hF1.trans hF2).size
  have d9:g7 < w2.heap.size:=Nat.lt_of_lt_of_le hc7 (hF1.trans hF2).size
  clear hI1 hI2 hF1 hF2 hc6 hc7
  go_wp2
  generalize hwx:World.alloc (World.alloc w2 _) _=wx
  have HST:Hid (ZoV w wx M R g6 g7 w2.heap.size (w2.heap.size + 1) v m m (v % m) 0 1):=by
   have h:=HTN.out
   rw [show (w2.alloc (bx s1 B1 l1 c1)).alloc (bx s2 B2 l2 c2)=wx from hwx] at h
   obtain ⟨k1,k2,k3,_⟩:=h
   exact ⟨⟨HEc.out.trans k3,HM1.out.ext k3,HR1.out.ext k3,H6.out.ext k3,H7.out.ext k3,k1,k2⟩,RecInv.start hmod0 hmod1,fun _ _ h=>h⟩
  have hfg:w2.heap.size≠w2.heap.size + 1:=by omega
  have d10:g6 < w2.heap.size + 1:=by omega
  have d11:g7 < w2.heap.size + 1:=by omega
  generalize w2.heap.size + 1=g at *
  generalize w2.heap.size=f at *
  clear hwx HTN H6 H7 HEc HR1 HM1 hmod0 hmod1 w1 w2
  have HNE:Hid (ZeC w M R g6 g7 f g):=⟨d1,d2,d3,d4,d5,d6,d7,hne67,d8,d9,d10,d11,hfg⟩
  go_loopg [10] (v % m).toNat (fun k _ wr=>∃ r0 r1 t0 t1:Int,k=r1.toNat∧Hid (ZoV w wr M R g6 g7 f g v m r0 r1 t0 t1))
  case atStart=>exact ⟨m,v % m,0,1,rfl,HST.out⟩
  case round =>
   obtain ⟨r0,r1,t0,t1,hk,hST⟩:=hrel
   have HK:=zh hk
   clear hk HST
   obtain ⟨hMem,hInv,hRun⟩:=hST.out
   obtain ⟨b1,b2,b3,b4⟩:=hInv.bound
   have HInv:=zh hInv
   have HRun:=zh hRun
   have HMem:=zh hMem
   have HBt:=zh b1
   have W1:Hid (wl t1.natAbs < 39):=Nat.lt_of_le_of_lt (Za3 b1) HM.out
   have W2:Hid (wl r0.natAbs < 39):=Nat.lt_of_le_of_lt (Za3 b2) HM.out
   have W3:Hid (wl r1.natAbs < 39):=Nat.lt_of_le_of_lt (Za3 b3) HM.out
   have W4:Hid (0 < r1→wl t0.natAbs < 39):=fun h=>Nat.lt_of_le_of_lt (Za3 (b4 h)) HM.out
   have HB3:=zh b3
   have FM:Hid (Fits m):=by have:=HM.out; unfold Hid Fits; omega
   obtain ⟨sm,Am,lm,cm,hBm,hIm⟩:=hMem.mod
   obtain ⟨sr,Ar,lr,cr,hBr,hIr⟩:=hMem.rest1
   obtain ⟨m0,m1,_,_⟩:=hBm.cell2
   obtain ⟨n0,n1,_,_⟩:=hBr.cell2
   clear hST hMem hInv hRun b1 b2 b3 b4
   go_wp2_with fail
   refine (ZhW _ _ r1 m _ hIr hIm (by have:=W3.out; omega) FM.out).mono ?_
   by_cases hsm:r1 * r1 * 2 < m
   ·have HSM:=zh hsm
    rw [decide_eq_true hsm]
    rintro e w1 ⟨rfl,hF1⟩
    replace HMem:=zh (HMem.out.on hF1)
    clear hBm hIm hBr hIr m0 m1 n0 n1 hF1 hsm
    obtain ⟨sm,Am,lm,cm,hBm,hIm⟩:=HMem.out.mod
    obtain ⟨sg_,Ag,lg,cg,hBg,hIg⟩:=HMem.out.fac1
    obtain ⟨m0,m1,_,_⟩:=hBm.cell2
    obtain ⟨n0,n1,_,_⟩:=hBg.cell2
    go_wp2_with fail
    refine (ZhW _ _ t1 m _ hIg hIm (by have:=W1.out; omega) FM.out).mono ?_
    by_cases hst:t1 * t1 * 2 < m
    ·have HST:=zh hst
     rw [decide_eq_true hst]
     rintro e w2 ⟨rfl,hF1⟩
     replace HMem:=zh (HMem.out.on hF1)
     clear hBm hIm hBg hIg m0 m1 n0 n1 hF1 hst
     obtain ⟨sm,Am,lm,cm,hBm,hIm⟩:=HMem.out.mod
     obtain ⟨sg_,Ag,lg,cg,hBg,hIg⟩:=HMem.out.fac1
     obtain ⟨m0,m1,_,_⟩:=hBm.cell2
     obtain ⟨n0,n1,_,_⟩:=hBg.cell2
     go_wp2_with fail
     refine (ZeP _ _ t1 m _ (HGl.out.ext HMem.out.ext) hIg hIm (by have:=W1.out; unfold Fits; omega) FM.out (HGA.out _ _ ⟨HBt.out,Nat.le_refl _⟩)).mono ?_
     rintro e w3 ⟨u3,rfl,hI3,hF1⟩
     obtain ⟨s3,A3,l3,c3,rfl⟩:=hI3.shape
     have HI3:=zh hI3
     replace HMem:=zh (HMem.out.on hF1)
     clear hBm hIm hBg hIg m0 m1 n0 n1 hF1 hI3
     go_wp2_with fail
     refine (Zbt _ _ _ HI3.out).mono ?_
     clear HI3
     by_cases hg1:((Int.gcd t1 m:Nat):Int)=1
     ·rw [decide_eq_true hg1]
      have HG1:Hid (Int.gcd t1 m=1):=by unfold Hid; omega
      rintro e w4 ⟨rfl,hF1⟩
      replace HMem:=zh (HMem.out.on hF1)
      clear hF1 hg1
      obtain ⟨sr,Ar,lr,cr,hBr,hIr⟩:=HMem.out.rest1
      obtain ⟨sg_,Ag,lg,cg,hBg,hIg⟩:=HMem.out.fac1
      obtain ⟨m0,m1,_,_⟩:=hBr.cell2
      obtain ⟨n0,n1,_,_⟩:=hBg.cell2
      go_wp2_with fail
      refine (ZeP _ _ t1 r1 _ (HGl.out.ext HMem.out.ext) hIg hIr (by have:=W1.out; unfold Fits; omega) (by have:=W3.out; unfold Fits; omega) (HGA.out _ _ ⟨HBt.out,HB3.out⟩)).mono ?_
      rintro e w5 ⟨u5,rfl,hI5,hF1⟩
      obtain ⟨s5,A5,l5,c5,rfl⟩:=hI5.shape
      have HI5:=zh hI5
      replace HMem:=zh (HMem.out.on hF1)
      clear hBr hIr hBg hIg m0 m1 n0 n1 hF1 hI5
      go_wp2_with fail
      refine (Zbt _ _ _ HI5.out).mono ?_
      clear HI5
      by_cases hg2:((Int.gcd t1 r1:Nat):Int)=1
      ·rw [decide_eq_true hg2]
       have HG2:Hid (Int.gcd t1 r1=1):=by unfold Hid; omega
       have Ht0:Hid (t1≠0):=fun e0=>by
        have h1:=HG1.out
        rw [e0] at h1
        simp at h1
        omega
       rintro e w6 ⟨rfl,hF1⟩
       have HRi:Hid (ZbK v m (Rat.divInt r1 t1) true):=⟨r1,t1,HRun.out _ _ (RecRun.done HSM.out),Or.inl ⟨rfl,HST.out,HG1.out,HG2.out,rfl⟩⟩
       replace HMem:=zh (HMem.out.on hF1)
       clear hF1 hg2
       obtain ⟨sr,Ar,lr,cr,hBr,hIr⟩:=HMem.out.rest1
       obtain ⟨sg_,Ag,lg,cg,hBg,hIg⟩:=HMem.out.fac1
       obtain ⟨m0,m1,_,_⟩:=hBr.cell2
       obtain ⟨n0,n1,_,_⟩:=hBg.cell2
       go_wp2_with fail
       refine (Zls _ _ r1 t1 _ (HGl.out.ext HMem.out.ext) hIr hIg (by have:=W3.out; unfold Fits; omega) (by have:=W1.out; unfold Fits; omega) (HGA.out _ _ ⟨HB3.out,HBt.out⟩) (by have:=W1.out; omega) Ht0.out).mono ?_
       rintro e w7 ⟨u7,rfl,hR7,hF1⟩
       obtain ⟨s,t,A,B,l,c,l',c',rfl,hIn,hId⟩:=hR7
       have HIn:=zh hIn
       have HId:=zh hId
       replace HMem:=zh (HMem.out.on hF1)
       clear hBr hIr hBg hIg m0 m1 n0 n1 hF1 hIn hId
       obtain ⟨z0,z1,z2,z3,z4,z5,z6,z7⟩:=HMem.out.res.cell4
       go_wp2
       exact ZhD rfl rfl rfl (HMem.out.res.put4 _ _ _ _) (Fr.local_ HMem.out.ext (Fr.set4 _ _ _ _) d2) ⟨_,_,_,_,_,_,_,_,rfl,HIn.out.other HMem.out.res Zbj (Fr.set4 _ _ _ _),HId.out.other HMem.out.res Zbj (Fr.set4 _ _ _ _)⟩ HRi.out
      ·rw [decide_eq_false hg2]
       have HG2:Hid (¬ Int.gcd t1 r1=1):=by unfold Hid; omega
       clear hg2
       rintro e w6 ⟨rfl,hF⟩
       have HRi:Hid (ZbK v m 0 false):=⟨r1,t1,HRun.out _ _ (RecRun.done HSM.out),Or.inr ⟨rfl,fun hh=>HG2.out hh.2.2,rfl⟩⟩
       replace HMem:=zh (HMem.out.on hF)
       clear hF
       obtain ⟨z0,z1,z2,z3,z4,z5,z6,z7⟩:=HMem.out.res.cell4
       go_wp2
       exact ZhD rfl rfl rfl (HMem.out.res.put4 _ _ _ _) (Fr.local_ HMem.out.ext (Fr.set4 _ _ _ _) d2) (ZaX.zero _) HRi.out
     ·rw [decide_eq_false hg1]
      have HG1:Hid (¬ Int.gcd t1 m=1):=by unfold Hid; omega
      clear hg1
      rintro e w4 ⟨rfl,hF⟩
      have HRi:Hid (ZbK v m 0 false):=⟨r1,t1,HRun.out _ _ (RecRun.done HSM.out),Or.inr ⟨rfl,fun hh=>HG1.out hh.2.1,rfl⟩⟩
      replace HMem:=zh (HMem.out.on hF)
      clear hF
      obtain ⟨z0,z1,z2,z3,z4,z5,z6,z7⟩:=HMem.out.res.cell4
      go_wp2
      exact ZhD rfl rfl rfl (HMem.out.res.put4 _ _ _ _) (Fr.local_ HMem.out.ext (Fr.set4 _ _ _ _) d2) (ZaX.zero _) HRi.out
    ·rw [decide_eq_false hst]
     have HST:=zh hst
     clear hst hBm hIm hBg hIg m0 m1 n0 n1
     rintro e w2 ⟨rfl,hF⟩
     have HRi:Hid (ZbK v m 0 false):=⟨r1,t1,HRun.out _ _ (RecRun.done HSM.out),Or.inr ⟨rfl,fun hh=>HST.out hh.1,rfl⟩⟩
     replace HMem:=zh (HMem.out.on hF)
     clear hF
     obtain ⟨z0,z1,z2,z3,z4,z5,z6,z7⟩:=HMem.out.res.cell4
     go_wp2
     exact ZhD rfl rfl rfl (HMem.out.res.put4 _ _ _ _) (Fr.local_ HMem.out.ext (Fr.set4 _ _ _ _) d2) (ZaX.zero _) HRi.out
   ·rw [decide_eq_false hsm]
    rintro e w1 ⟨rfl,hF1⟩
    have HSM:=zh hsm
    have hr1:0 < r1:=by
     have:=HInv.out.nonneg
     rcases Int.lt_or_le 0 r1 with h | h
     ·exact h
     ·exfalso; apply hsm; have e0:r1=0:=by omega
      rw [e0]; omega
    replace HMem:=zh (HMem.out.on hF1)
    clear hBm hIm hBr hIr m0 m1 n0 n1 hF1 hsm
    obtain ⟨s0,A0,l0,c0,hB0,hI0⟩:=HMem.out.rest0
    obtain ⟨s7,A7,l7,c7,hB7,hI7⟩:=HMem.out.rest1
    obtain ⟨m0,m1,_,_⟩:=hB0.cell2
    obtain ⟨n0,n1,_,_⟩:=hB7.cell2
    go_wp2_with fail
    refine (Zf7 _ _ r0 r1 _ hI0 hI7 (by have:=W2.out; unfold Fits; omega) (by have:=W3.out; omega) (by omega)).mono ?_
    rintro e w2 ⟨u1,u2,rfl,hN1,hN2,hF2⟩
    obtain ⟨sq,Aq,lq,cq,rfl⟩:=hN1.shape
    obtain ⟨sn,An,ln,cn,rfl⟩:=hN2.shape
    have HI7:=zh (hI7.ext hF2)
    have HTN:=zh (Zgy (Fr.refl _ _) hN1 hN2)
    replace HMem:=zh (HMem.out.on hF2)
    have e10:g < w2.heap.size:=HMem.out.fac1.lt
    have e11:f < w2.heap.size:=HMem.out.fac0.lt
    have HWq:Hid (wl (r0.tdiv r1).natAbs < 39):=by
     have h1:(r0.tdiv r1).natAbs≤r0.natAbs:=by rw [Int.natAbs_tdiv]; exact Nat.div_le_self _ _
     exact Nat.lt_of_le_of_lt (Za3 h1) W2.out
    have HNx:=zh (HInv.out.next hr1)
    have HRn:Hid (∀ x y,RecRun m r1 (r0.tmod r1) t1 (t0 - r0.tdiv r1 * t1) x y→RecRun m m (v % m) 0 1 x y):=fun x y h=>HRun.out x y (RecRun.step (Int.not_lt.2 HSM.out) h)
    have hmeas:Hid ((r0.tmod r1).toNat < gk):=by
     have h1:=HNx.out.lt
     have h2:=HNx.out.nonneg
     have:=HK.out
     unfold Hid; omega
    clear hN1 hN2 hF2 hB0 hI0 hB7 hI7 m0 m1 n0 n1 HSM HInv HRun
    go_wp2_with fail
    generalize hw3:World.alloc (World.alloc w2 _) _=w3
    have hTN:=HTN.out
    rw [show (w2.alloc (bx sq Aq lq cq)).alloc (bx sn An ln cn)=w3 from hw3] at hTN
    obtain ⟨h10,h11,hE3,hne10,_,_⟩:=hTN
    replace HMem:=zh (HMem.out.on hE3)
    replace HI7:=zh (HI7.out.ext hE3)
    have e12:g < w2.heap.size + 1:=by omega
    have e13:f < w2.heap.size + 1:=by omega
    have H10:=zh h10
    have H11:=zh h11
    generalize w2.heap.size + 1=G11 at *
    generalize w2.heap.size=G10 at *
    clear hw3 HTN hE3 h10 h11
    obtain ⟨s7',A7',l7',c7',hB7,hI7⟩:=HMem.out.rest1
    obtain ⟨s11,A11,l11,c11,hB11,hI11⟩:=H11.out
    obtain ⟨s6,A6,l6,c6,hB6,_⟩:=HMem.out.rest0
    obtain ⟨p0,p1,p2,p3⟩:=hB6.cell2
    have hD:=HNE.out
    unfold ZeC at hD
    refine Zey 3 (fun w'=>(w'.cell? ⟨g7,0,none⟩=some (.bool s7')∧w'.cell? ⟨g7,1,none⟩=some (.slice A7' l7' c7'))∧(w'.cell? ⟨G11,0,none⟩=some (.bool s11)∧w'.cell? ⟨G11,1,none⟩=some (.slice A11 l11 c11))) ZdB ?_
    refine Zb4 0 rfl (by kernel_rfl) (fun _ _ _ h=>h) (Zbp hB7 hB11 (Fr.refl _ _).drew) (fun _=>Zbz rfl rfl rfl (fun _ h=>h.1)) (fun hS=>?_)
    refine Zb4 1 rfl (by kernel_rfl) (fun _ _ _ h=>h) hS (fun _=>Zbz rfl rfl rfl (fun _ h=>h.2)) (fun hS=>?_)
    refine Zdg 2 rfl (by kernel_rfl) rfl (fun K hK=>?_)
    go_simp
    refine hK _ _ (ZpU hB7 hB11 (r:=g6) (i:=0) (j:=1) (by omega) (by omega)) ?_
    have kA:=(HMem.out.put0 HNE.out hI7).on (Fr.refl _ _).drew
    have kI:=(Zah.away (a:=.bool s7') (b:=.slice A7' l7' c7') hI11 HMem.out.rest0).ext (Fr.refl _ _).drew
    have k10:=(Zbc.away (a:=.bool s7') (b:=.slice A7' l7' c7') H10.out HMem.out.rest0 (by omega)).ext (Fr.refl _ _).drew
    first
     | generalize World.drew (World.setCell (World.setCell w3 _ _) _ _)=wA at *
     | generalize World.setCell (World.setCell (World.drew w3) _ _) _ _=wA at *
    have HMA:=zh kA
    have HIA:=zh kI
    have H10A:=zh k10
    obtain ⟨s7'',A7'',l7'',c7'',hB7'',_⟩:=kA.rest1
    obtain ⟨q0,q1,q2,q3⟩:=hB7''.cell2
    clear kA kI k10 hK hS hB7 hI7 hB11 hI11 hB6 p0 p1 p2 p3 HI7 H10 H11 hB7'' HMem
    refine ZcP (l:=[_]) 3 rfl (by kernel_rfl) ?_
    go_wp2_with fail
    have kB:=HMA.out.put1 HNE.out HIA.out
    have k10:=Zbc.away (a:=.bool s11) (b:=.slice A11 l11 c11) H10A.out HMA.out.rest1 (by omega)
    generalize World.setCell (World.setCell wA _ _) _ _=wB at *
    have HMB:=zh kB
    have H10B:=zh k10
    clear kB k10 q0 q1 q2 q3 HMA HIA H10A
    obtain ⟨sf,Af,lf,cf,hBf,hIf⟩:=HMB.out.fac0
    obtain ⟨sg_,Ag,lg,cg,hBg,hIg⟩:=HMB.out.fac1
    obtain ⟨st,At,lt,ct,hBt,hIt⟩:=H10B.out
    refine Zey 6 (fun w'=>(w'.cell? ⟨g,0,none⟩=some (.bool sg_)∧w'.cell? ⟨g,1,none⟩=some (.slice Ag lg cg))∧(w'.cell? ⟨f,0,none⟩=some (.bool sf)∧w'.cell? ⟨f,1,none⟩=some (.slice Af lf cf))∧(w'.cell? ⟨G10,0,none⟩=some (.bool st)∧w'.cell? ⟨G10,1,none⟩=some (.slice At lt ct))) ZdB ?_
    refine Zb4 0 rfl (by kernel_rfl) (fun _ _ _ h=>h) (Zlw hBg hBf hBt (Fr.refl _ _).drew) (fun _=>Zbz rfl rfl rfl (fun _ h=>h.1)) (fun hS=>?_)
    refine Zb4 1 rfl (by kernel_rfl) (fun _ _ _ h=>h) hS (fun _=>Zbz rfl rfl rfl (fun _ h=>h.2.1)) (fun hS=>?_)
    refine Zb4 2 rfl (by kernel_rfl) (fun _ _ _ h=>h) hS (fun _=>Zbz rfl rfl rfl (fun _ h=>h.2.2)) (fun hS=>?_)
    refine Zb4 3 rfl (by kernel_rfl) (fun _ _ _ h=>h) hS (fun _=>Zbz rfl rfl rfl (fun _ h=>h.1)) (fun hS=>?_)
    refine Zdg 4 rfl (by kernel_rfl) rfl (fun K hK=>?_)
    go_simp
    refine (Zhp _ _ (r0.tdiv r1) t1 _ (hIt.ext (Fr.refl _ _).drew) (hIg.ext (Fr.refl _ _).drew) (by have:=HWq.out; unfold Fits; omega) (by have:=W1.out; unfold Fits; omega) (Or.inr (by have:=W1.out; omega))).mono ?_
    rintro e wM ⟨uM,rfl,hIM,hFM⟩
    obtain ⟨sM,AM,lM,cM,rfl⟩:=hIM.shape
    replace hFM:=Fr.undrew hFM
    refine hK _ _ (Zlw hBg hBf hBt hFM) ?_
    refine Zdg 5 rfl (by kernel_rfl) rfl (fun K hK=>?_)
    go_simp
    refine (Zo9 _ _ t0 (r0.tdiv r1 * t1) _ (hIf.ext hFM) hIM (by have:=W4.out hr1; unfold Fits; omega) (by have h1:=ZfK (r0.tdiv r1).natAbs t1.natAbs; have:=HWq.out; have:=W1.out; unfold Fits; rw [Int.natAbs_mul]; omega)).mono ?_
    rintro e wS ⟨uS,rfl,hIS,hFS⟩
    obtain ⟨sS,AS,lS,cS,rfl⟩:=hIS.shape
    refine hK _ _ (Zlw hBg hBf hBt (hFM.trans hFS)) ?_
    have HMC:=zh (HMB.out.on (hFM.trans hFS))
    have HIg:=zh (hIg.ext (hFM.trans hFS))
    have HIS:=zh hIS
    clear hK hS hBf hIf hBg hIg hBt hIt hIM hFM hIS hFS HMB H10B
    obtain ⟨sf',Af',lf',cf',hBf',_⟩:=HMC.out.fac0
    obtain ⟨sg',Ag',lg',cg',hBg',_⟩:=HMC.out.fac1
    obtain ⟨p0,p1,p2,p3⟩:=hBf'.cell2
    obtain ⟨q0,q1,q2,q3⟩:=hBg'.cell2
    clear hBf' hBg'
    refine ZcP (l:=[_,_]) 6 rfl (by kernel_rfl) ?_
    go_wp2
    have kC:=HMC.out.put2 HNE.out HIg.out
    have kI:=Zah.away (a:=.bool sg_) (b:=.slice Ag lg cg) HIS.out HMC.out.fac0
    have kD:=kC.put3 HNE.out kI
    go_roundg (r0.tmod r1).toNat
    case measure=>exact hmeas.out
    case rel=>exact ⟨r1,r0.tmod r1,t1,t0 - r0.tdiv r1 * t1,rfl,kD,HNx.out,HRn.out⟩
end Go.Proofs.YthlipnahcbcjkaaGreatDoor

namespace Go.Proofs.YthlipnahcbcjkaaGreatDoor
open Go.RowKit
def RcIs (la lb s:List UInt8) (ok:Bool):Prop :=
 (ok=true∧∃ v m:Int,ZaG la=some (v:Rat)∧ZaG lb=some (m:Rat)∧2≤m∧∃ q,ZbK v m q true∧s=Zcg q) ∨
 (ok=false∧s=[]∧∀ v m:Int,ZaG la=some (v:Rat)→ZaG lb=some (m:Rat)→2≤m→∀ q,¬ ZbK v m q true)
theorem ZbK.one {v m:Int} {q q':Rat} (h:ZbK v m q true) (k:ZbK v m q' true):q=q':=by
 obtain ⟨r,t,h1,h2⟩:=h
 obtain ⟨r',t',k1,k2⟩:=k
 obtain ⟨rfl,rfl⟩:=h1.unique k1
 rcases h2 with ⟨_,_,_,_,e⟩ | ⟨e,_⟩
 ·rcases k2 with ⟨_,_,_,_,e'⟩ | ⟨e',_⟩
  ·rw [e,e']
  ·cases e'
 ·cases e
theorem RcIs.unique {la lb s s':List UInt8} {ok ok':Bool} (h:RcIs la lb s ok) (k:RcIs la lb s' ok'):s=s'∧ok=ok':=by
 rcases h with ⟨rfl,v,m,h1,h2,h3,q,h4,rfl⟩ | ⟨rfl,rfl,h⟩
 ·rcases k with ⟨rfl,v',m',k1,k2,k3,q',k4,rfl⟩ | ⟨rfl,rfl,k⟩
  ·rw [h1] at k1; rw [h2] at k2
   injection k1 with k1; injection k2 with k2
   obtain rfl:=Rat.intCast_inj.1 k1
   obtain rfl:=Rat.intCast_inj.1 k2
   exact ⟨by rw [h4.one k4],rfl⟩
  ·exact absurd h4 (k v m h1 h2 h3 q)
 ·rcases k with ⟨rfl,v',m',k1,k2,k3,q',k4,rfl⟩ | ⟨rfl,rfl,k⟩
  ·exact absurd k4 (h v' m' k1 k2 k3 q')
  ·exact ⟨rfl,rfl⟩
theorem RecRun.small {m r0 r1 t0 t1 r t:Int} (h:RecRun m r0 r1 t0 t1 r t):r * r * 2 < m:=by
 induction h with
 | done h=>exact h
 | step _ _ ih=>exact ih
theorem Zly {r m:Int} (h:r * r * 2 < m):r.natAbs≤m.natAbs:=by
 have h1:((r.natAbs * r.natAbs:Nat):Int)=r * r:=Int.natAbs_mul_self
 rcases Nat.eq_zero_or_pos r.natAbs with e | e
 ·omega
 ·have h2:r.natAbs * 1≤r.natAbs * r.natAbs:=Nat.mul_le_mul_left _ e
  omega
theorem Zpx {q:Rat} {n d:Int} (hd:d≠0) (h:Rat.divInt n d=q):q.num.natAbs≤n.natAbs∧q.den≤d.natAbs:=by
 have hc:q.num * d=n * q.den:=by
  have h1:=Rat.num_divInt_den q
  rw [← h1] at h
  exact ((Rat.divInt_eq_divInt_iff hd (denI q)).1 h).symm
 have hn:q.num.natAbs * d.natAbs=n.natAbs * q.den:=by
  have:=congrArg Int.natAbs hc
  rwa [Int.natAbs_mul,Int.natAbs_mul,Int.natAbs_natCast] at this
 have hcop:=q.reduced
 have hd1:q.den ∣ d.natAbs:=(Nat.Coprime.symm hcop).dvd_of_dvd_mul_left ⟨n.natAbs,by rw [hn,Nat.mul_comm]⟩
 have hd0:0 < d.natAbs:=by omega
 have hde:=Nat.le_of_dvd hd0 hd1
 refine ⟨?_,hde⟩
 have hn1:q.num.natAbs ∣ n.natAbs:=hcop.dvd_of_dvd_mul_right ⟨d.natAbs,hn.symm⟩
 rcases Nat.eq_zero_or_pos n.natAbs with e | e
 ·rw [e,Nat.zero_mul] at hn
  rcases Nat.mul_eq_zero.1 hn with e2 | e2
  ·omega
  ·omega
 ·exact Nat.le_of_dvd e hn1
theorem ZbK.size {v m:Int} {q:Rat} (h:ZbK v m q true) (hm:2≤m):q.num.natAbs≤m.natAbs∧q.den≤m.natAbs:=by
 obtain ⟨r,t,h1,h2⟩:=h
 rcases h2 with ⟨_,h3,h4,_,rfl⟩ | ⟨e,_⟩
 ·have ht:t≠0:=fun e=>by
   rw [e] at h4
   simp at h4; omega
  obtain ⟨f1,f2⟩:=Zpx (n:=r) ht rfl
  have:=Zly h1.small
  have:=Zly h3
  omega
 ·cases e
theorem ZbK.ok {v m:Int} {q:Rat} (h:ZbK v m q false):∀ q',¬ ZbK v m q' true:=fun q' k=>by
 obtain ⟨r,t,h1,h2⟩:=h
 obtain ⟨r',t',k1,k2⟩:=k
 obtain ⟨rfl,rfl⟩:=h1.unique k1
 rcases h2 with ⟨e,_⟩ | ⟨_,h2,_⟩
 ·cases e
 ·rcases k2 with ⟨_,a,b,c,_⟩ | ⟨e,_⟩
  ·exact h2 ⟨a,b,c⟩
  ·cases e
theorem RcIs.none1 {la lb:List UInt8} (h:ZaG la=none):RcIs la lb [] false:=Or.inr ⟨rfl,rfl,fun v m h1=>by rw [h] at h1; cases h1⟩
theorem RcIs.none2 {la lb:List UInt8} (h:ZaG lb=none):RcIs la lb [] false:=Or.inr ⟨rfl,rfl,fun v m _ h1=>by rw [h] at h1; cases h1⟩
theorem RcIs.frac1 {la lb:List UInt8} {q:Rat} (h:ZaG la=some q) (hd:¬ q.den=1):RcIs la lb [] false:=Or.inr ⟨rfl,rfl,fun v m h1=>by rw [h] at h1; injection h1 with h1; exact absurd (by rw [h1]; rfl) hd⟩
theorem RcIs.frac2 {la lb:List UInt8} {q:Rat} (h:ZaG lb=some q) (hd:¬ q.den=1):RcIs la lb [] false:=Or.inr ⟨rfl,rfl,fun v m _ h1=>by rw [h] at h1; injection h1 with h1; exact absurd (by rw [h1]; rfl) hd⟩
theorem RcIs.low {la lb:List UInt8} {q:Rat} (h:ZaG lb=some q) (hd:q.num < 2):RcIs la lb [] false:=Or.inr ⟨rfl,rfl,fun v m _ h1 h2=>by rw [h] at h1; injection h1 with h1; rw [h1] at hd; exact absurd hd (by simp; omega)⟩
theorem RcIs.got {la lb:List UInt8} {p q x:Rat} (h1:ZaG la=some p) (h2:ZaG lb=some q) (d1:p.den=1) (d2:q.den=1) (hm:¬ q.num < 2) (h:ZbK p.num q.num x true):RcIs la lb (Zcg x) true :=
 Or.inl ⟨rfl,p.num,q.num,by rw [h1,← Zkb d1],by rw [h2,← Zkb d2],by omega,x,h,rfl⟩
theorem RcIs.not {la lb:List UInt8} {p q:Rat} (h1:ZaG la=some p) (h2:ZaG lb=some q) (h:∀ x,¬ ZbK p.num q.num x true):RcIs la lb [] false :=
 Or.inr ⟨rfl,rfl,fun v m k1 k2 _ x=>by
  rw [h1] at k1; rw [h2] at k2
  injection k1 with k1; injection k2 with k2
  rw [k1,k2] at h
  exact h x⟩
end Go.Proofs.YthlipnahcbcjkaaGreatDoor
