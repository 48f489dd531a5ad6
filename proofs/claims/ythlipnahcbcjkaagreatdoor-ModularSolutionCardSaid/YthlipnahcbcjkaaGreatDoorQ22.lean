/-
 My texts MsL put together.
-/
import Derived.Test.YthlipnahcbcjkaaGreatDoorQ17
import Derived.Test.YthlipnahcbcjkaaGreatDoorQ19
import Derived.Test.YthlipnahcbcjkaaGreatDoorQ21
set_option maxRecDepth 100000
namespace Go.Proofs.YthlipnahcbcjkaaGreatDoor
open Go.RowKit
theorem ZlS {w w':World} {e:Ending} (h:(∃ P:Nat,e=.returned (.int .i64 (P:Int))∧Hid (Pr (P:Int))∧P≤1000003)∧w=w'):ZcP (fun P:{P:Nat // Pr (P:Int)∧P≤1000003}=>.int .i64 ((P.1:Nat):Int)) (fun _ _=>True) w e w':=by
 obtain ⟨⟨P,rfl,h1,h2⟩,rfl⟩:=h
 exact ⟨⟨P,h1.out,h2⟩,rfl,Fr.refl _ _,BoxN.pure trivial⟩
theorem ZnN {n:Nat} {Z:Nat→List Int} {p:Int} {w w':World} {e:Ending} (h:ZmE w n Z p e w'):ZcP (fun x:{x:Int × Int // DetIs n Z p x.1 x.2}=>.tuple #[.int .i64 x.1.1, .int .i64 x.1.2]) (fun _ _=>True) w e w':=by
 obtain ⟨d,c,rfl,h1,Q⟩:=h
 exact ⟨⟨(d,c),h1⟩,rfl,Q,BoxN.pure trivial⟩
theorem Zjz (a:Int) (P q:Nat) (w:World) (hp:0 < P) (hp2:P≤4294967296) (hq:a % (P:Int)=(q:Int)):Calls Tryz.prog 13 #[.int .i64 a, .int .i64 (P:Int)] w (RetV w (.int .i64 ((q:Nat):Int))):=by
 rw [← hq]; exact (ZgR a (P:Int) w (by omega) (by omega)).mono fun _ _ h=>⟨h.1,h.2 ▸ Fr.refl _ _⟩
theorem ZnO {n nb:Nat} {Z:Nat→List Int} {bz:List Int} {p:Int} {w w0 w':World} {e:Ending} {Γ:World→Prop} (hΓ:∀ w w',Γ w→Ext w w'→Γ w') (hg:Γ w) (Q:Ext w0 w) (h:ZmH w n nb Z bz p e w') :
 ∃ x:SolX n nb Z bz p,e=.returned (.tuple #[x.v, .int .i64 x.c])∧Ext w0 w'∧∀ w'',Ext w' w''→Γ w''∧(x.c=0→Own .i64 3 w'' x.bx x.xs):=by
 obtain ⟨x,rfl,h1,h2⟩:=h
 exact ⟨x,rfl,Q.ext h1,fun w'' hw=>⟨hΓ _ _ hg (h1.ext hw),fun h0=>(h2 h0).1.fr hw (fun e=>e)⟩⟩
theorem Zpd {A0:Option Addr} {n:Nat} {R:Nat→Option Addr} {C:Nat→Nat} {Z:Nat→List Int} {B0:Option Addr} {bz:List Int}:∀ w w',(Glob w∧ArgI w A0 n R C Z∧Zan w B0 bz)→Ext w w'→(Glob w'∧ArgI w' A0 n R C Z∧Zan w' B0 bz):=fun _ _ h Q=>⟨h.1.ext Q,h.2.1.ext Q,h.2.2.ext Q⟩
theorem ZoC {c:Int} (h:c≠0):((c:Int) != 0)=true:=by simpa using h
theorem ZoX (y:Nat):decide (((y:Nat):Int) < 0)=false:=decide_eq_false (by omega)
theorem ZoD {y p:Nat} (h:y < p):decide (((y:Nat):Int) ≥ ((p:Nat):Int))=false:=decide_eq_false (by omega)
theorem mulI {x y p:Nat} (hx:x < p) (hy:y < p) (hp:p≤1000003):IntKind.i64.wrap (((x:Nat):Int) * ((y:Nat):Int))=((x * y:Nat):Int):=by
 have h:=Nat.mul_lt_mul'' hx hy
 have h2:=Nat.mul_le_mul hp hp
 rw [← Int.natCast_mul,IntKind.wrap_i64]; omega
theorem addI {x y z p:Nat} (hz:z < p) (hx:x < p) (hy:y < p) (hp:p≤1000003):IntKind.i64.wrap (((z:Nat):Int) + ((x * y:Nat):Int))=((z + x * y:Nat):Int):=by
 have h:=Nat.mul_lt_mul'' hx hy
 have h2:=Nat.mul_le_mul hp hp
 rw [IntKind.wrap_i64]; omega
theorem Zm0 (x:Int):(x != x)=false:=by simp
theorem ZnP {x y:Nat} (h:x=y):(((x:Nat):Int) != ((y:Nat):Int))=false:=by subst h; simp
theorem ZoY {p:Int} {zs:List Int} {k q:Nat} (hk:k < zs.length) (hq:zs.getD k 0 % p=(q:Int)):(redL p zs)[k]?.getD 0=q:=by
 unfold redL
 rw [List.getElem?_map,List.getElem?_eq_getElem hk]
 rw [List.getD_eq_getElem?_getD,List.getElem?_eq_getElem hk] at hq
 simp only [Option.map_some,Option.getD_some] at hq ⊢
 rw [hq]; rfl
theorem Zgm (A0:Option Addr) (n c0:Nat) (R:Nat→Option Addr) (C:Nat→Nat) (Z:Nat→List Int) (B0:Option Addr) (nb cb:Nat) (bz:List Int) (t:Int) (w:World) (hg:Glob w) (ha:ArgI w A0 n R C Z) (hb0:Zan w B0 bz) (hbl:bz.length=nb) (hb64:Zen bz) :
 Calls Tryz.prog 3 #[.slice A0 n c0, .slice B0 nb cb, .int .i64 t] w (RetV w (.bool true)):=by
 refine Zc0 (Φ:=fun w=>(Glob w∧ArgI w A0 n R C Z∧Zan w B0 bz)) Tryz.func3 rfl (by kernel_rfl) (fun w' hf=>⟨hg.ext hf,ha.ext hf,hb0.ext hf⟩) ?_
 refine Zac (Zab (xr 1 [eS1 0 A0 n c0,eS1 1 B0 nb cb,(2, .v (.int .i64 t)),(6, .v (.bool false))] [] ?_))
 refine xe (Zaa (Zac (Zab (xr 1 [eS1 0 A0 n c0,eS1 1 B0 nb cb,(6, .v (.bool false)),(16, .v (.int .i64 t))] [] ?_))))
 refine xc 9 [.int .i64 t] 17 (fun P:{P:Nat // Pr (P:Int)∧P≤1000003}=>.int .i64 ((P.1:Nat):Int)) _ (fun w S Q=>(ZmZ t _).mono (fun _ _=>ZlS)) (fun xx=>?_)
 obtain ⟨P,hPr,hPm⟩:=xx
 refine xr 1 [eS1 0 A0 n c0,eS1 1 B0 nb cb,(6, .v (.bool false)),(7, .v (.int .i64 ((P:Nat):Int)))] [] ?_
 refine xe (Zaa (Zac (Zac ?_)))
 have hP2:2≤P:=by have:=hPr.1; omega
 refine Zab (xr 4 [eS1 0 A0 n c0,eS1 1 B0 nb cb,(6, .v (.bool false)),(7, .v (.int .i64 ((P:Nat):Int))),(21, .v (.bool (decide (((n:Nat):Int) > 5))))] [] ?_)
 rcases bl2 ((decide (((n:Nat):Int) > 5))) with hb10 | hb10
 ·rw [hb10]
  have hn5:5 < n:=by have:=of_decide_eq_true hb10; omega
  refine xr 11 [eS1 0 A0 n c0,eS1 1 B0 nb cb,(6, .v (.bool false)),(7, .v (.int .i64 ((P:Nat):Int))),(32, .v (.bool true))] [] ?_
  refine xe (Zaa (xa (Zac (Zab ?_))))
  refine xc 10 [] 33 (fun _:Unit=>.bool true) _ (fun w S Q=>(Zda _ Q.1.1).mono (fun _ _ h=>Zau h rfl)) (fun xx=>?_)
  refine xr 1 [eS1 0 A0 n c0,eS1 1 B0 nb cb,(6, .v (.bool true)),(7, .v (.int .i64 ((P:Nat):Int)))] [] ?_
  refine xe (Zaa (Zaw (Zam ?_)))
  refine Zaq (v:=.bool true) (by kernel_rfl) (fun w' S Q=>?_)
  exact ⟨rfl,S⟩
 ·rw [hb10]
  have hn5:n≤5:=by have:=of_decide_eq_false hb10; omega
  refine xr 5 [eS1 0 A0 n c0,eS1 1 B0 nb cb,(6, .v (.bool false)),(7, .v (.int .i64 ((P:Nat):Int))),(26, .v (.bool ((((n:Nat):Int):Int) == 0)))] [] ?_
  rcases bl2 (((((n:Nat):Int):Int) == 0)) with hb11 | hb11
  ·rw [hb11]
   have hn0:n=0:=z_eq hb11
   refine xr 6 [eS1 0 A0 n c0,eS1 1 B0 nb cb,(6, .v (.bool false)),(7, .v (.int .i64 ((P:Nat):Int))),(32, .v (.bool true))] [] ?_
   refine xe (Zaa (xa (Zac (Zab ?_))))
   refine xc 10 [] 33 (fun _:Unit=>.bool true) _ (fun w S Q=>(Zda _ Q.1.1).mono (fun _ _ h=>Zau h rfl)) (fun xx=>?_)
   refine xr 1 [eS1 0 A0 n c0,eS1 1 B0 nb cb,(6, .v (.bool true)),(7, .v (.int .i64 ((P:Nat):Int)))] [] ?_
   refine xe (Zaa (Zaw (Zam ?_)))
   refine Zaq (v:=.bool true) (by kernel_rfl) (fun w' S Q=>?_)
   exact ⟨rfl,S⟩
  ·rw [hb11]
   have hn0:n≠0:=z_ne hb11
   refine xr 6 [eS1 0 A0 n c0,eS1 1 B0 nb cb,(6, .v (.bool false)),(7, .v (.int .i64 ((P:Nat):Int))),(32, .v (.bool ((((nb:Nat):Int):Int) != ((n:Nat):Int))))] [] ?_
   refine xe (Zaa ?_)
   refine Zax (((((nb:Nat):Int):Int) != ((n:Nat):Int))) (by kernel_rfl) (fun hb12=>?_) (fun hb12=>?_)
   ·have hnb:=ZeP hb12
    refine Zac (Zab ?_)
    refine xc 10 [] 33 (fun _:Unit=>.bool true) _ (fun w S Q=>(Zda _ Q.1.1).mono (fun _ _ h=>Zau h rfl)) (fun xx=>?_)
    refine xr 1 [eS1 0 A0 n c0,eS1 1 B0 nb cb,(6, .v (.bool true)),(7, .v (.int .i64 ((P:Nat):Int)))] [] ?_
    refine xe (Zaa (Zaw (Zam ?_)))
    refine Zaq (v:=.bool true) (by kernel_rfl) (fun w' S Q=>?_)
    exact ⟨rfl,S⟩
   ·have hnb:=ZeQ hb12
    refine Zap (Zaa (Zac (Zac (Zab (xr 1 [eS1 0 A0 n c0,eS1 1 B0 nb cb,(6, .v (.bool false)),(7, .v (.int .i64 ((P:Nat):Int))),(8, .v (.int .i64 0))] [] ?_)))))
    refine xe (Zaa (Zar ?_))
    refine SXc.weak [(0, .v (.slice A0 n c0)),(1, .v (.slice B0 nb cb)),(6, .v (.bool false)),(7, .v (.int .i64 ((P:Nat):Int))),(8, .v (.int .i64 ((0:Nat):Int)))] [] (Ψ:=fun w=>(Glob w∧ArgI w A0 n R C Z∧Zan w B0 bz)) (ZaA.of (by kernel_rfl)) (by kernel_rfl) (fun w Q=>Q.1) ?_
    refine Zbs (fun nn ss ff=>∃ (a:Nat),ss=ofL [(0, .v (.slice A0 n c0)),(1, .v (.slice B0 nb cb)),(6, .v (.bool false)),(7, .v (.int .i64 ((P:Nat):Int))),(8, .v (.int .i64 ((a:Nat):Int)))] []∧ff=(fun w=>(Glob w∧ArgI w A0 n R C Z∧Zan w B0 bz))∧(a≤n)∧(∀ i,i < a→(Z i).length=n)∧nn=(n - a)) ((n - 0)) ⟨0,rfl,rfl,Nat.zero_le _,fun i hi=>absurd hi (by omega),rfl⟩ ?_
    rintro nn ss ff ⟨a,rfl,rfl,hk,hev,rfl⟩
    refine Zac (Zac (Zab (xr 4 [eS1 0 A0 n c0,eS1 1 B0 nb cb,(6, .v (.bool false)),(7, .v (.int .i64 ((P:Nat):Int))),(8, .v (.int .i64 ((a:Nat):Int))),(37, .v (.bool (decide (((a:Nat):Int) < ((n:Nat):Int)))))] [] ?_)))
    refine xe (Zaa ?_)
    refine Zax ((decide (((a:Nat):Int) < ((n:Nat):Int)))) (by kernel_rfl) (fun hb13=>?_) (fun hb13=>?_)
    ·have han:a < n:=by have:=of_decide_eq_true hb13; omega
     refine Zap (Zaa (Zac (Zar (Zac (Zab (xr 2 [eS1 0 A0 n c0,eS1 1 B0 nb cb,(6, .v (.bool false)),(7, .v (.int .i64 ((P:Nat):Int))),(8, .v (.int .i64 ((a:Nat):Int))),eS1 40 A0 n c0,(41, .v (.int .i64 ((a:Nat):Int)))] [] ?_))))))
     refine xk 42 (atA A0 a) (fun w hE' Q=>ZeT (t:=22) (e:=23) (x:=.tmp 40) (ix:=.tmp 41) (i:=a) (cap:=c0) Q.2.1 han) ?_
     refine xk 43 (.slice (R a) (Z a).length (C a)) (fun w hE' Q=>ZeU (t:=23) (x:=.tmp 42) (i:=a) Q.2.1 han rfl) ?_
     refine xr 4 [eS1 0 A0 n c0,eS1 1 B0 nb cb,(6, .v (.bool false)),(7, .v (.int .i64 ((P:Nat):Int))),(8, .v (.int .i64 ((a:Nat):Int))),(47, .v (.bool (((((Z a).length:Nat):Int):Int) != ((n:Nat):Int))))] [] ?_
     refine xe (Zaa ?_)
     refine Zax ((((((Z a).length:Nat):Int):Int) != ((n:Nat):Int))) (by kernel_rfl) (fun hb14=>?_) (fun hb14=>?_)
     ·have hk2:=ZeP hb14
      refine Zac (Zab ?_)
      refine xc 10 [] 48 (fun _:Unit=>.bool true) _ (fun w S Q=>(Zda _ Q.1).mono (fun _ _ h=>Zau h rfl)) (fun xx=>?_)
      refine xr 1 [eS1 0 A0 n c0,eS1 1 B0 nb cb,(6, .v (.bool true)),(7, .v (.int .i64 ((P:Nat):Int))),(8, .v (.int .i64 ((a:Nat):Int)))] [] ?_
      refine xe (Zaa (Zaw (Zct (Zam (Zam (Zct (Zam ?_)))))))
      refine Zaq (v:=.bool true) (by kernel_rfl) (fun w' S Q=>?_)
      exact ⟨rfl,S⟩
     ·have hk2:=ZeQ hb14
      refine Zap (Zbr (Zaa (Zab (xr 2 [eS1 0 A0 n c0,eS1 1 B0 nb cb,(6, .v (.bool false)),(7, .v (.int .i64 ((P:Nat):Int))),(8, .v (.int .i64 ((a:Nat):Int))),(39, .v (.int .i64 (IntKind.i64.wrap (((a:Nat):Int) + 1))))] [] ?_))))
      rw [Zbh (k:=a) (by omega)]
      refine xr 1 [eS1 0 A0 n c0,eS1 1 B0 nb cb,(6, .v (.bool false)),(7, .v (.int .i64 ((P:Nat):Int))),(8, .v (.int .i64 ((a + 1:Nat):Int)))] [] ?_
      refine xe ?_
      refine SXq.weak [(0, .v (.slice A0 n c0)),(1, .v (.slice B0 nb cb)),(6, .v (.bool false)),(7, .v (.int .i64 ((P:Nat):Int))),(8, .v (.int .i64 (((a + 1):Nat):Int)))] [] (Ψ:=fun w=>(Glob w∧ArgI w A0 n R C Z∧Zan w B0 bz)) (ZaA.of (by kernel_rfl)) (by kernel_rfl) (fun w Q=>Q) ?_
      exact Za0 ((n - (a + 1))) (by omega) ⟨(a + 1),rfl,rfl,(by omega),(fun i hi=>by rcases Nat.lt_or_ge i a with h3 | h3; exact hev i h3; obtain rfl:i=a:=(by omega); exact hk2),rfl⟩
    ·have han:n≤a:=by have:=of_decide_eq_false hb13; omega
     refine Zbf (Zaj (Zaj (Zbv (Zaa (Zac (Zab (xr 2 [eS1 0 A0 n c0,eS1 1 B0 nb cb,(6, .v (.bool false)),(7, .v (.int .i64 ((P:Nat):Int))),eS1 50 A0 n c0,(51, .v (.int .i64 ((P:Nat):Int)))] [] ?_)))))))
     refine xc 11 [.slice A0 n c0, .int .i64 ((P:Nat):Int)] 52 (fun x:{x:Int × Int // DetIs n Z ((P:Nat):Int) x.1 x.2}=>.tuple #[.int .i64 x.1.1, .int .i64 x.1.2]) _ (fun w S Q=>(Zow A0 n c0 R C Z ((P:Nat):Int) _ Q.2.1 (by omega)).mono (fun _ _=>ZnN)) (fun xx=>?_)
     obtain ⟨⟨dd,e1⟩,hD⟩:=xx
     refine xr 5 [eS1 0 A0 n c0,eS1 1 B0 nb cb,(6, .v (.bool false)),(7, .v (.int .i64 ((P:Nat):Int))),(9, .v (.int .i64 dd)),(10, .v (.int .i64 e1))] [] ?_
     refine xe (Zaa (Zac (Zab (xr 3 [eS1 0 A0 n c0,eS1 1 B0 nb cb,(6, .v (.bool false)),(7, .v (.int .i64 ((P:Nat):Int))),(9, .v (.int .i64 dd)),(10, .v (.int .i64 e1)),eS1 56 A0 n c0,eS1 57 B0 nb cb,(58, .v (.int .i64 ((P:Nat):Int)))] [] ?_))))
     refine Zdt (d:=59) 12 [.slice A0 n c0, .slice B0 nb cb, .int .i64 ((P:Nat):Int)] (fun x:SolX n nb Z bz ((P:Nat):Int)=>.tuple #[x.v, .int .i64 x.c]) (fun x w=>((Glob w∧ArgI w A0 n R C Z∧Zan w B0 bz)∧(x.c=0→Own .i64 3 w x.bx x.xs))) (fun w hE' Q=>(ZmK A0 n c0 R C Z B0 nb cb bz ((P:Nat):Int) w Q.1.2.1 Q.1.2.2 hbl hb64 (by omega)).mono (fun _ _ h=>ZnO Zpd Q.1 hE' h)) (fun x=>?_)
     obtain ⟨bx,xs,vv,e2,hS⟩:=x
     refine xr 5 [eS1 0 A0 n c0,eS1 1 B0 nb cb,(6, .v (.bool false)),(7, .v (.int .i64 ((P:Nat):Int))),(9, .v (.int .i64 dd)),(10, .v (.int .i64 e1)),(11, .v (vv)),(12, .v (.int .i64 e2))] [] ?_
     refine xe (Zaa (Zac (Zac ?_)))
     have hl:∀ i,i < n→(Z i).length=n:=fun i hi=>hev i (by omega)
     rw [hnb] at hS
     have hDS:=Zoy hPr (by omega) (by omega) hl hD hS
     obtain ⟨rfl,hDS⟩:=hDS
     rcases hDS with ⟨rfl,rfl⟩ | ⟨rfl,hd0,rfl,hxl,hlt,hEq⟩
     ·refine Zab (xr 9 [eS1 0 A0 n c0,eS1 1 B0 nb cb,(6, .v (.bool false)),(7, .v (.int .i64 ((P:Nat):Int))),(9, .v (.int .i64 0)),(11, .v (vv)),(12, .v (.int .i64 7)),(70, .v (.bool false))] [] ?_)
      refine xe (Zaa (xb (Zap (Zaa (Zac (Zac (Zab (xr 2 [eS1 0 A0 n c0,eS1 1 B0 nb cb,(6, .v (.bool false)),(7, .v (.int .i64 ((P:Nat):Int))),(9, .v (.int .i64 0)),(11, .v (vv)),(12, .v (.int .i64 7)),(72, .v (.bool true))] [] ?_))))))))
      refine xe (Zaa (xa (Zac (Zab (xr 7 [eS1 0 A0 n c0,eS1 1 B0 nb cb,(6, .v (.bool false)),(7, .v (.int .i64 ((P:Nat):Int))),(11, .v (vv)),(79, .v (.bool true))] [] ?_)))))
      refine xc 10 [] 80 (fun _:Unit=>.bool true) _ (fun w S Q=>(Zda _ Q.1.1).mono (fun _ _ h=>Zau h rfl)) (fun xx=>?_)
      refine xr 2 [eS1 0 A0 n c0,eS1 1 B0 nb cb,(6, .v (.bool true)),(7, .v (.int .i64 ((P:Nat):Int))),(11, .v (vv))] [] ?_
      refine xe (Zaa (Zaw (Zam ?_)))
      refine Zaq (v:=.bool true) (by kernel_rfl) (fun w' S Q=>?_)
      exact ⟨rfl,S⟩
     ·refine Zab (xr 7 [eS1 0 A0 n c0,eS1 1 B0 nb cb,(6, .v (.bool false)),(7, .v (.int .i64 ((P:Nat):Int))),(9, .v (.int .i64 dd)),eS1 11 (some ⟨bx,0,none⟩) n n,(12, .v (.int .i64 0)),(64, .v (.bool false)),(66, .v (.bool true)),(68, .v (.bool ((dd:Int) != 0)))] [] ?_)
      rw [ZoC hd0]
      refine xr 2 [eS1 0 A0 n c0,eS1 1 B0 nb cb,(6, .v (.bool false)),(7, .v (.int .i64 ((P:Nat):Int))),(9, .v (.int .i64 dd)),eS1 11 (some ⟨bx,0,none⟩) n n,(12, .v (.int .i64 0)),(70, .v (.bool false))] [] ?_
      refine xe (Zaa (xb (Zap (Zaa (Zac (Zac (Zab (xr 2 [eS1 0 A0 n c0,eS1 1 B0 nb cb,(6, .v (.bool false)),(7, .v (.int .i64 ((P:Nat):Int))),(9, .v (.int .i64 dd)),eS1 11 (some ⟨bx,0,none⟩) n n,(12, .v (.int .i64 0)),(72, .v (.bool false))] [] ?_))))))))
      refine xe (Zaa (xb (Zap (Zaa (Zac (Zac (Zab (xr 5 [eS1 0 A0 n c0,eS1 1 B0 nb cb,(6, .v (.bool false)),(7, .v (.int .i64 ((P:Nat):Int))),eS1 11 (some ⟨bx,0,none⟩) n n,(86, .v (.bool ((((n:Nat):Int):Int) != ((n:Nat):Int))))] [] ?_))))))))
      rw [Zm0]
      refine xr 0 [eS1 0 A0 n c0,eS1 1 B0 nb cb,(6, .v (.bool false)),(7, .v (.int .i64 ((P:Nat):Int))),eS1 11 (some ⟨bx,0,none⟩) n n,(86, .v (.bool false))] [] ?_
      refine xe (Zaa (xb (Zap (Zaa (Zac (Zac (Zab (xr 1 [eS1 0 A0 n c0,eS1 1 B0 nb cb,(6, .v (.bool false)),(7, .v (.int .i64 ((P:Nat):Int))),eS1 11 (some ⟨bx,0,none⟩) n n,(13, .v (.int .i64 0))] [] ?_))))))))
      refine xe (Zaa (Zar ?_))
      refine SXc.weak [(0, .v (.slice A0 n c0)),(1, .v (.slice B0 nb cb)),(6, .v (.bool false)),(7, .v (.int .i64 ((P:Nat):Int))),(11, .v (.slice (some ⟨bx,0,none⟩) n n)),(13, .v (.int .i64 ((0:Nat):Int)))] [] (Ψ:=fun w=>((Glob w∧ArgI w A0 n R C Z∧Zan w B0 bz)∧(0=0→Own .i64 3 w bx xs))) (ZaA.of (by kernel_rfl)) (by kernel_rfl) (fun w Q=>Q) ?_
      refine Zbs (fun nn ss ff=>∃ (i:Nat),ss=ofL [(0, .v (.slice A0 n c0)),(1, .v (.slice B0 nb cb)),(6, .v (.bool false)),(7, .v (.int .i64 ((P:Nat):Int))),(11, .v (.slice (some ⟨bx,0,none⟩) n n)),(13, .v (.int .i64 ((i:Nat):Int)))] []∧ff=(fun w=>((Glob w∧ArgI w A0 n R C Z∧Zan w B0 bz)∧(0=0→Own .i64 3 w bx xs)))∧(i≤n)∧nn=(n - i)) ((n - 0)) ⟨0,rfl,rfl,Nat.zero_le _,rfl⟩ ?_
      rintro nn ss ff ⟨i,rfl,rfl,hi,rfl⟩
      refine Zac (Zac (Zab (xr 4 [eS1 0 A0 n c0,eS1 1 B0 nb cb,(6, .v (.bool false)),(7, .v (.int .i64 ((P:Nat):Int))),eS1 11 (some ⟨bx,0,none⟩) n n,(13, .v (.int .i64 ((i:Nat):Int))),(90, .v (.bool (decide (((i:Nat):Int) < ((n:Nat):Int)))))] [] ?_)))
      refine xe (Zaa ?_)
      refine Zax ((decide (((i:Nat):Int) < ((n:Nat):Int)))) (by kernel_rfl) (fun hb15=>?_) (fun hb15=>?_)
      ·have hin:i < n:=by have:=of_decide_eq_true hb15; omega
       refine Zap (Zaa (Zac (Zar (Zac (Zab (xr 1 [eS1 0 A0 n c0,eS1 1 B0 nb cb,(6, .v (.bool false)),(7, .v (.int .i64 ((P:Nat):Int))),eS1 11 (some ⟨bx,0,none⟩) n n,(13, .v (.int .i64 ((i:Nat):Int))),(14, .v (.int .i64 0))] [] ?_))))))
       refine xe (Zaa (Zac (Zac (Zab (xr 1 [eS1 0 A0 n c0,eS1 1 B0 nb cb,(6, .v (.bool false)),(7, .v (.int .i64 ((P:Nat):Int))),eS1 11 (some ⟨bx,0,none⟩) n n,(13, .v (.int .i64 ((i:Nat):Int))),(14, .v (.int .i64 0)),(15, .v (.int .i64 0))] [] ?_)))))
       refine xe (Zaa (Zar ?_))
       refine SXc.weak [(0, .v (.slice A0 n c0)),(1, .v (.slice B0 nb cb)),(6, .v (.bool false)),(7, .v (.int .i64 ((P:Nat):Int))),(11, .v (.slice (some ⟨bx,0,none⟩) n n)),(13, .v (.int .i64 ((i:Nat):Int))),(14, .v (.int .i64 ((0:Nat):Int))),(15, .v (.int .i64 ((0:Nat):Int)))] [] (Ψ:=fun w=>((Glob w∧ArgI w A0 n R C Z∧Zan w B0 bz)∧(0=0→Own .i64 3 w bx xs))) (ZaA.of (by kernel_rfl)) (by kernel_rfl) (fun w Q=>Q) ?_
       refine Zbs (fun nn ss ff=>∃ (s k:Nat),ss=ofL [(0, .v (.slice A0 n c0)),(1, .v (.slice B0 nb cb)),(6, .v (.bool false)),(7, .v (.int .i64 ((P:Nat):Int))),(11, .v (.slice (some ⟨bx,0,none⟩) n n)),(13, .v (.int .i64 ((i:Nat):Int))),(14, .v (.int .i64 ((s:Nat):Int))),(15, .v (.int .i64 ((k:Nat):Int)))] []∧ff=(fun w=>((Glob w∧ArgI w A0 n R C Z∧Zan w B0 bz)∧(0=0→Own .i64 3 w bx xs)))∧(s=accN P (redL ((P:Nat):Int) (Z i)) xs k)∧(s < P)∧(k≤n)∧nn=(n - k)) ((n - 0)) ⟨0,0,rfl,rfl,rfl,(by omega),Nat.zero_le _,rfl⟩ ?_
       rintro nn ss ff ⟨s,k,rfl,rfl,hs,hsP,hk,rfl⟩
       refine Zac (Zac (Zab (xr 4 [eS1 0 A0 n c0,eS1 1 B0 nb cb,(6, .v (.bool false)),(7, .v (.int .i64 ((P:Nat):Int))),eS1 11 (some ⟨bx,0,none⟩) n n,(13, .v (.int .i64 ((i:Nat):Int))),(14, .v (.int .i64 ((s:Nat):Int))),(15, .v (.int .i64 ((k:Nat):Int))),(96, .v (.bool (decide (((k:Nat):Int) < ((n:Nat):Int)))))] [] ?_)))
       refine xe (Zaa ?_)
       refine Zax ((decide (((k:Nat):Int) < ((n:Nat):Int)))) (by kernel_rfl) (fun hb16=>?_) (fun hb16=>?_)
       ·have hkn:k < n:=by have:=of_decide_eq_true hb16; omega
        refine Zap (Zaa (Zac (Zar (Zac (Zac ?_)))))
        obtain ⟨y,hy⟩:∃ y,xs[k]?.getD 0=y:=⟨_,rfl⟩
        have hyP:y < P:=by rw [← hy]; exact hlt _ (ZdO (by omega))
        refine Zab (xr 2 [eS1 0 A0 n c0,eS1 1 B0 nb cb,(6, .v (.bool false)),(7, .v (.int .i64 ((P:Nat):Int))),eS1 11 (some ⟨bx,0,none⟩) n n,(13, .v (.int .i64 ((i:Nat):Int))),(14, .v (.int .i64 ((s:Nat):Int))),(15, .v (.int .i64 ((k:Nat):Int))),eS1 99 (some ⟨bx,0,none⟩) n n,(100, .v (.int .i64 ((k:Nat):Int)))] [] ?_)
        refine xk 101 (.pointer (some ⟨bx,k,none⟩)) (fun w hE' Q=>ZaH (g:=bx) (len:=n) (cap:=n) (i:=k) (t:=23) (e:=3) (x:=.tmp 99) (ix:=.tmp 100) hkn) ?_
        refine xk 102 (.int .i64 ((y:Nat):Int)) (fun w hE' Q=>by rw [← hy]; exact ZfE (t:=3) (x:=.tmp 101) (j:=k) (Q.2 rfl) (by omega)) ?_
        refine xr 1 [eS1 0 A0 n c0,eS1 1 B0 nb cb,(6, .v (.bool false)),(7, .v (.int .i64 ((P:Nat):Int))),eS1 11 (some ⟨bx,0,none⟩) n n,(13, .v (.int .i64 ((i:Nat):Int))),(14, .v (.int .i64 ((s:Nat):Int))),(15, .v (.int .i64 ((k:Nat):Int))),(103, .v (.bool (decide (((y:Nat):Int) < 0))))] [] ?_
        rw [ZoX y]
        refine xr 3 [eS1 0 A0 n c0,eS1 1 B0 nb cb,(6, .v (.bool false)),(7, .v (.int .i64 ((P:Nat):Int))),eS1 11 (some ⟨bx,0,none⟩) n n,(13, .v (.int .i64 ((i:Nat):Int))),(14, .v (.int .i64 ((s:Nat):Int))),(15, .v (.int .i64 ((k:Nat):Int))),(104, .v (.bool false)),eS1 105 (some ⟨bx,0,none⟩) n n,(106, .v (.int .i64 ((k:Nat):Int)))] [] ?_
        refine xk 107 (.pointer (some ⟨bx,k,none⟩)) (fun w hE' Q=>ZaH (g:=bx) (len:=n) (cap:=n) (i:=k) (t:=23) (e:=3) (x:=.tmp 105) (ix:=.tmp 106) hkn) ?_
        refine xk 108 (.int .i64 ((y:Nat):Int)) (fun w hE' Q=>by rw [← hy]; exact ZfE (t:=3) (x:=.tmp 107) (j:=k) (Q.2 rfl) (by omega)) ?_
        refine xr 2 [eS1 0 A0 n c0,eS1 1 B0 nb cb,(6, .v (.bool false)),(7, .v (.int .i64 ((P:Nat):Int))),eS1 11 (some ⟨bx,0,none⟩) n n,(13, .v (.int .i64 ((i:Nat):Int))),(14, .v (.int .i64 ((s:Nat):Int))),(15, .v (.int .i64 ((k:Nat):Int))),(104, .v (.bool false)),(110, .v (.bool (decide (((y:Nat):Int) ≥ ((P:Nat):Int)))))] [] ?_
        rw [ZoD hyP]
        refine xr 1 [eS1 0 A0 n c0,eS1 1 B0 nb cb,(6, .v (.bool false)),(7, .v (.int .i64 ((P:Nat):Int))),eS1 11 (some ⟨bx,0,none⟩) n n,(13, .v (.int .i64 ((i:Nat):Int))),(14, .v (.int .i64 ((s:Nat):Int))),(15, .v (.int .i64 ((k:Nat):Int))),(111, .v (.bool false))] [] ?_
        refine xe (Zaa (xb (Zap (Zaa ?_))))
        obtain ⟨zz,hzz⟩:∃ z,(Z i).getD k 0=z:=⟨_,rfl⟩
        obtain ⟨q,hq⟩:∃ q:Nat,zz % ((P:Nat):Int)=(q:Int):=Int.eq_ofNat_of_zero_le (Int.emod_nonneg zz (by omega))
        have hqP:q < P:=by have:=Int.emod_lt_of_pos zz (show (0:Int) < P by omega); omega
        refine ZfV 19 [0,0,0,6,14,0,62,126,0,510,0,0,3072,7168,16382,32767,0,131071,262143] (by kernel_rfl) (by kernel_rfl) Za6 ?_
        refine xf 3 [eS1 0 A0 n c0,eS1 1 B0 nb cb,(6, .v (.bool false)),(7, .v (.int .i64 ((P:Nat):Int))),eS1 11 (some ⟨bx,0,none⟩) n n,(13, .v (.int .i64 ((i:Nat):Int))),(14, .v (.int .i64 ((s:Nat):Int))),(15, .v (.int .i64 ((k:Nat):Int))),(112, .v (.int .i64 ((s:Nat):Int))),eS1 113 A0 n c0,(114, .v (.int .i64 ((i:Nat):Int)))] [] ?_
        refine xj 115 (atA A0 i) (fun w Q=>ZeT (t:=22) (e:=23) (x:=.tmp 113) (ix:=.tmp 114) (i:=i) (cap:=c0) Q.1.2.1 hin) ?_
        refine xj 116 (.slice (R i) n (C i)) (fun w Q=>ZeU (t:=23) (x:=.tmp 115) (i:=i) Q.1.2.1 hin (hl i hin)) ?_
        refine xf 1 [eS1 0 A0 n c0,eS1 1 B0 nb cb,(6, .v (.bool false)),(7, .v (.int .i64 ((P:Nat):Int))),eS1 11 (some ⟨bx,0,none⟩) n n,(13, .v (.int .i64 ((i:Nat):Int))),(14, .v (.int .i64 ((s:Nat):Int))),(15, .v (.int .i64 ((k:Nat):Int))),(112, .v (.int .i64 ((s:Nat):Int))),eS1 116 (R i) n (C i),(117, .v (.int .i64 ((k:Nat):Int)))] [] ?_
        refine xj 118 (atA (R i) k) (fun w Q=>ZfF (t:=23) (e:=3) (x:=.tmp 116) (ix:=.tmp 117) (cap:=C i) (Q.1.2.1.row i hin) (hl i hin) hkn) ?_
        refine xj 119 (.int .i64 zz) (fun w Q=>ZfG (t:=3) (x:=.tmp 118) (j:=k) (Q.1.2.1.row i hin) (by rw [hl i hin]; exact hkn) hzz) ?_
        refine xf 1 [eS1 0 A0 n c0,eS1 1 B0 nb cb,(6, .v (.bool false)),(7, .v (.int .i64 ((P:Nat):Int))),eS1 11 (some ⟨bx,0,none⟩) n n,(13, .v (.int .i64 ((i:Nat):Int))),(14, .v (.int .i64 ((s:Nat):Int))),(15, .v (.int .i64 ((k:Nat):Int))),(112, .v (.int .i64 ((s:Nat):Int))),(119, .v (.int .i64 zz)),(120, .v (.int .i64 ((P:Nat):Int)))] [] ?_
        refine xd 13 [.int .i64 zz, .int .i64 ((P:Nat):Int)] 121 (fun _:Unit=>.int .i64 ((q:Nat):Int)) _ (fun w S Q=>(Zjz zz P q _ (by omega) (by omega) hq).mono (fun _ _ h=>Zau h rfl)) (fun xx=>?_)
        refine xf 2 [eS1 0 A0 n c0,eS1 1 B0 nb cb,(6, .v (.bool false)),(7, .v (.int .i64 ((P:Nat):Int))),eS1 11 (some ⟨bx,0,none⟩) n n,(13, .v (.int .i64 ((i:Nat):Int))),(14, .v (.int .i64 ((s:Nat):Int))),(15, .v (.int .i64 ((k:Nat):Int))),(112, .v (.int .i64 ((s:Nat):Int))),(121, .v (.int .i64 ((q:Nat):Int))),eS1 122 (some ⟨bx,0,none⟩) n n,(123, .v (.int .i64 ((k:Nat):Int)))] [] ?_
        refine xj 124 (.pointer (some ⟨bx,k,none⟩)) (fun w Q=>ZaH (g:=bx) (len:=n) (cap:=n) (i:=k) (t:=23) (e:=3) (x:=.tmp 122) (ix:=.tmp 123) hkn) ?_
        refine xj 125 (.int .i64 ((y:Nat):Int)) (fun w Q=>by rw [← hy]; exact ZfE (t:=3) (x:=.tmp 124) (j:=k) (Q.2 rfl) (by omega)) ?_
        refine xf 1 [eS1 0 A0 n c0,eS1 1 B0 nb cb,(6, .v (.bool false)),(7, .v (.int .i64 ((P:Nat):Int))),eS1 11 (some ⟨bx,0,none⟩) n n,(13, .v (.int .i64 ((i:Nat):Int))),(14, .v (.int .i64 ((s:Nat):Int))),(15, .v (.int .i64 ((k:Nat):Int))),(112, .v (.int .i64 ((s:Nat):Int))),(126, .v (.int .i64 (IntKind.i64.wrap (((q:Nat):Int) * ((y:Nat):Int)))))] [] ?_
        rw [mulI hqP hyP hPm]
        refine xf 1 [eS1 0 A0 n c0,eS1 1 B0 nb cb,(6, .v (.bool false)),(7, .v (.int .i64 ((P:Nat):Int))),eS1 11 (some ⟨bx,0,none⟩) n n,(13, .v (.int .i64 ((i:Nat):Int))),(14, .v (.int .i64 ((s:Nat):Int))),(15, .v (.int .i64 ((k:Nat):Int))),(127, .v (.int .i64 (IntKind.i64.wrap (((s:Nat):Int) + ((q * y:Nat):Int)))))] [] ?_
        rw [addI hsP hqP hyP hPm]
        refine xf 1 [eS1 0 A0 n c0,eS1 1 B0 nb cb,(6, .v (.bool false)),(7, .v (.int .i64 ((P:Nat):Int))),eS1 11 (some ⟨bx,0,none⟩) n n,(13, .v (.int .i64 ((i:Nat):Int))),(14, .v (.int .i64 ((s:Nat):Int))),(15, .v (.int .i64 ((k:Nat):Int))),(127, .v (.int .i64 ((s + q * y:Nat):Int))),(128, .v (.int .i64 ((P:Nat):Int)))] [] ?_
        refine xj 129 (.int .i64 (((s + q * y) % P:Nat):Int)) (fun w Q=>Zem (k:=.i64) (t:=3) (k':=3) (x:=.tmp 127) (y:=.tmp 128) (a:=(s + q * y)) (b:=P) (by omega)) ?_
        refine xf 1 [eS1 0 A0 n c0,eS1 1 B0 nb cb,(6, .v (.bool false)),(7, .v (.int .i64 ((P:Nat):Int))),eS1 11 (some ⟨bx,0,none⟩) n n,(13, .v (.int .i64 ((i:Nat):Int))),(14, .v (.int .i64 (((s + q * y) % P:Nat):Int))),(15, .v (.int .i64 ((k:Nat):Int)))] [] ?_
        refine xz (xe (Zbr (Zaa (Zab (xr 2 [eS1 0 A0 n c0,eS1 1 B0 nb cb,(6, .v (.bool false)),(7, .v (.int .i64 ((P:Nat):Int))),eS1 11 (some ⟨bx,0,none⟩) n n,(13, .v (.int .i64 ((i:Nat):Int))),(14, .v (.int .i64 (((s + q * y) % P:Nat):Int))),(15, .v (.int .i64 ((k:Nat):Int))),(98, .v (.int .i64 (IntKind.i64.wrap (((k:Nat):Int) + 1))))] [] ?_)))))
        rw [Zbh (k:=k) (by omega)]
        refine xr 1 [eS1 0 A0 n c0,eS1 1 B0 nb cb,(6, .v (.bool false)),(7, .v (.int .i64 ((P:Nat):Int))),eS1 11 (some ⟨bx,0,none⟩) n n,(13, .v (.int .i64 ((i:Nat):Int))),(14, .v (.int .i64 (((s + q * y) % P:Nat):Int))),(15, .v (.int .i64 ((k + 1:Nat):Int)))] [] ?_
        refine xe ?_
        refine SXq.weak [(0, .v (.slice A0 n c0)),(1, .v (.slice B0 nb cb)),(6, .v (.bool false)),(7, .v (.int .i64 ((P:Nat):Int))),(11, .v (.slice (some ⟨bx,0,none⟩) n n)),(13, .v (.int .i64 ((i:Nat):Int))),(14, .v (.int .i64 ((((s + q * y) % P):Nat):Int))),(15, .v (.int .i64 (((k + 1):Nat):Int)))] [] (Ψ:=fun w=>((Glob w∧ArgI w A0 n R C Z∧Zan w B0 bz)∧(0=0→Own .i64 3 w bx xs))) (ZaA.of (by kernel_rfl)) (by kernel_rfl) (fun w Q=>Q.1) ?_
        exact Za0 ((n - (k + 1))) (by omega) ⟨((s + q * y) % P),(k + 1),rfl,rfl,(by have hr:=ZoY (p:=((P:Nat):Int)) (zs:=Z i) (k:=k) (q:=q) (by rw [hl i hin]; exact hkn) (by rw [hzz]; exact hq); rw [hs,← hy,← hr]; rfl),(Nat.mod_lt _ (by omega)),(by omega),rfl⟩
       ·have hkn:n≤k:=by have:=of_decide_eq_false hb16; omega
        refine Zbf (Zaj (Zaj (Zbv (Zaa (Zac ?_)))))
        obtain ⟨zb,hzb⟩:∃ z,bz.getD i 0=z:=⟨_,rfl⟩
        obtain ⟨q2,hq2⟩:∃ q:Nat,zb % ((P:Nat):Int)=(q:Int):=Int.eq_ofNat_of_zero_le (Int.emod_nonneg zb (by omega))
        have hsq:s=q2:=by rw [hs,(show k=n by omega)]; exact hEq i hin q2 (by rw [hzb]; exact hq2)
        refine Zab (xr 3 [eS1 0 A0 n c0,eS1 1 B0 nb cb,(6, .v (.bool false)),(7, .v (.int .i64 ((P:Nat):Int))),eS1 11 (some ⟨bx,0,none⟩) n n,(13, .v (.int .i64 ((i:Nat):Int))),(130, .v (.int .i64 ((s:Nat):Int))),eS1 131 B0 nb cb,(132, .v (.int .i64 ((i:Nat):Int)))] [] ?_)
        refine xk 133 (atA B0 i) (fun w hE' Q=>ZfF (t:=23) (e:=3) (x:=.tmp 131) (ix:=.tmp 132) (cap:=cb) Q.1.2.2 hbl (by omega)) ?_
        refine xk 134 (.int .i64 zb) (fun w hE' Q=>ZfG (t:=3) (x:=.tmp 133) (j:=i) Q.1.2.2 (by omega) hzb) ?_
        refine xr 1 [eS1 0 A0 n c0,eS1 1 B0 nb cb,(6, .v (.bool false)),(7, .v (.int .i64 ((P:Nat):Int))),eS1 11 (some ⟨bx,0,none⟩) n n,(13, .v (.int .i64 ((i:Nat):Int))),(130, .v (.int .i64 ((s:Nat):Int))),(134, .v (.int .i64 zb)),(135, .v (.int .i64 ((P:Nat):Int)))] [] ?_
        refine xc 13 [.int .i64 zb, .int .i64 ((P:Nat):Int)] 136 (fun _:Unit=>.int .i64 ((q2:Nat):Int)) _ (fun w S Q=>(Zjz zb P q2 _ (by omega) (by omega) hq2).mono (fun _ _ h=>Zau h rfl)) (fun xx=>?_)
        refine xr 1 [eS1 0 A0 n c0,eS1 1 B0 nb cb,(6, .v (.bool false)),(7, .v (.int .i64 ((P:Nat):Int))),eS1 11 (some ⟨bx,0,none⟩) n n,(13, .v (.int .i64 ((i:Nat):Int))),(137, .v (.bool ((((s:Nat):Int):Int) != ((q2:Nat):Int))))] [] ?_
        rw [ZnP hsq]
        refine xr 0 [eS1 0 A0 n c0,eS1 1 B0 nb cb,(6, .v (.bool false)),(7, .v (.int .i64 ((P:Nat):Int))),eS1 11 (some ⟨bx,0,none⟩) n n,(13, .v (.int .i64 ((i:Nat):Int))),(137, .v (.bool false))] [] ?_
        refine xe (Zaa (xb (Zap (Zbr (Zaa (Zab (xr 2 [eS1 0 A0 n c0,eS1 1 B0 nb cb,(6, .v (.bool false)),(7, .v (.int .i64 ((P:Nat):Int))),eS1 11 (some ⟨bx,0,none⟩) n n,(13, .v (.int .i64 ((i:Nat):Int))),(92, .v (.int .i64 (IntKind.i64.wrap (((i:Nat):Int) + 1))))] [] ?_)))))))
        rw [Zbh (k:=i) (by omega)]
        refine xr 1 [eS1 0 A0 n c0,eS1 1 B0 nb cb,(6, .v (.bool false)),(7, .v (.int .i64 ((P:Nat):Int))),eS1 11 (some ⟨bx,0,none⟩) n n,(13, .v (.int .i64 ((i + 1:Nat):Int)))] [] ?_
        refine xe ?_
        refine SXq.weak [(0, .v (.slice A0 n c0)),(1, .v (.slice B0 nb cb)),(6, .v (.bool false)),(7, .v (.int .i64 ((P:Nat):Int))),(11, .v (.slice (some ⟨bx,0,none⟩) n n)),(13, .v (.int .i64 (((i + 1):Nat):Int)))] [] (Ψ:=fun w=>((Glob w∧ArgI w A0 n R C Z∧Zan w B0 bz)∧(0=0→Own .i64 3 w bx xs))) (ZaA.of (by kernel_rfl)) (by kernel_rfl) (fun w Q=>Q.1) ?_
        exact Za0 ((n - (i + 1))) (by omega) ⟨(i + 1),rfl,rfl,(by omega),rfl⟩
      ·have hin:n≤i:=by have:=of_decide_eq_false hb15; omega
       refine Zbf (Zaj (Zaj (Zbv (Zaa (Zac (Zab ?_))))))
       refine xc 10 [] 138 (fun _:Unit=>.bool true) _ (fun w S Q=>(Zda _ Q.1.1).mono (fun _ _ h=>Zau h rfl)) (fun xx=>?_)
       refine xr 1 [(6, .v (.bool true))] [] ?_
       refine xe (Zaa (Zaw ?_))
       refine Zaq (v:=.bool true) (by kernel_rfl) (fun w' S Q=>?_)
       exact ⟨rfl,S⟩
end Go.Proofs.YthlipnahcbcjkaaGreatDoor
