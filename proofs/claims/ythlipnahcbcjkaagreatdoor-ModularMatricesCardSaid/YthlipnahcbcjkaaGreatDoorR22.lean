/-
 My texts MmL put together.
-/
import Derived.Test.YthlipnahcbcjkaaGreatDoorR19
import Derived.Test.YthlipnahcbcjkaaGreatDoorR21
set_option maxRecDepth 100000
namespace Go.Proofs.YthlipnahcbcjkaaGreatDoor
open Go.RowKit
theorem ZdT {Ψ:Int→Int→Prop} {w w':World} {e:Ending} (h:∃ d c:Int,e=.returned (.tuple #[.int .i64 d, .int .i64 c])∧Ψ d c∧Ext w w'):Zcy (fun x:{x:Int × Int // Ψ x.1 x.2}=>.tuple #[.int .i64 x.1.1, .int .i64 x.1.2]) (fun _ _=>True) w e w':=by
 obtain ⟨d,c,rfl,h1,Q⟩:=h
 exact ⟨⟨(d,c),h1⟩,rfl,Q,BoxN.pure trivial⟩
theorem Zlz {n nb:Nat} {Z:Nat→List Int} {bz:List Int} {p:Int} {w w0 w':World} {e:Ending} {Γ:World→Prop} (hΓ:∀ w w',Γ w→Ext w w'→Γ w') (hg:Γ w) (Q:Ext w0 w) (h:ZnF w n nb Z bz p e w') :
 ∃ x:SolX n nb Z bz p,e=.returned (.tuple #[x.v, .int .i64 x.c])∧Ext w0 w'∧∀ w'',Ext w' w''→Γ w''∧(x.c=0→Own .i64 3 w'' x.bx x.xs):=by
 obtain ⟨x,rfl,h1,h2⟩:=h
 exact ⟨x,rfl,Q.ext h1,fun w'' hw=>⟨hΓ _ _ hg (h1.ext hw),fun h0=>(h2 h0).1.fr hw (fun e=>e)⟩⟩
theorem Zmh {n nb:Nat} {Z:Nat→List Int} {bz:List Int} {p:Int} {w w0 w':World} {e:Ending} {Γ:World→Prop} (hΓ:∀ w w',Γ w→Ext w w'→Γ w') (hg:Γ w) (Q:Ext w0 w) (h:ZoU w n nb Z bz p e w') :
 ∃ x:SrX n nb Z bz p,e=.returned (.tuple #[x.v, .int .i64 x.c])∧Ext w0 w'∧∀ w'',Ext w' w''→Γ w''∧(x.c=0→Buf .i64 3 w'' x.az x.cz x.zs):=by
 obtain ⟨x,rfl,h1,h2⟩:=h
 exact ⟨x,rfl,Q.ext h1,fun w'' hw=>⟨hΓ _ _ hg (h1.ext hw),fun h0=>(h2 h0).1.ext hw⟩⟩
theorem Zkx {A0:Option Addr} {n:Nat} {R:Nat→Option Addr} {C:Nat→Nat} {Z:Nat→List Int} {B0:Option Addr} {bz:List Int}:∀ w w',(Glob w∧ArgI w A0 n R C Z∧Zaq w B0 bz)→Ext w w'→(Glob w'∧ArgI w' A0 n R C Z∧Zaq w' B0 bz):=fun _ _ h Q=>⟨h.1.ext Q,h.2.1.ext Q,h.2.2.ext Q⟩
theorem ZoX {Γ:World→Prop} {c:Int} {bx:Nat} {xs:List Nat} (hΓ:∀ w w',Γ w→Ext w w'→Γ w'):∀ w w',(Γ w∧(c=0→Own .i64 3 w bx xs))→Ext w w'→(Γ w'∧(c=0→Own .i64 3 w' bx xs)):=fun _ _ h Q=>⟨hΓ _ _ h.1 Q,fun h0=>(h.2 h0).fr Q (fun e=>e)⟩
def asI (xs:List Nat):List Int:=xs.map fun x:Nat=>(x:Int)
theorem ZjJ {xs:List Nat}:(asI xs).length=xs.length:=List.length_map _
theorem ZhE {w:World} {A:Option Addr} {xs:List Nat} (h:Zan .i64 w A xs):Zaq w A (asI xs):=fun hne=>by
 obtain ⟨b,off,h1,h2,h3⟩:=h (fun e=>hne (by rw [e]; rfl))
 refine ⟨b,off,h1,h2,fun i hi=>?_⟩
 rw [ZjJ] at hi
 have h4:=h3 i hi
 have e:(asI xs).getD i 0=((xs.getD i 0:Nat):Int):=by
  unfold asI
  rw [List.getD_eq_getElem?_getD,List.getElem?_map,List.getElem?_eq_getElem hi,List.getD_eq_getElem?_getD,List.getElem?_eq_getElem hi]
  rfl
 rw [e]
 exact h4
theorem ZbN {x:Int}:(x == x)=true:=by simp
theorem ZgK (A0:Option Addr) (n c0:Nat) (R:Nat→Option Addr) (C:Nat→Nat) (Z:Nat→List Int) (B0:Option Addr) (nb cb:Nat) (bz:List Int) (t:Int) (w:World) (hg:Glob w) (ha:ArgI w A0 n R C Z) (hb0:Zaq w B0 bz) (hbl:bz.length=nb) (hb64:ZeH bz) :
 Calls Tryz.prog 4 #[.slice A0 n c0, .slice B0 nb cb, .int .i64 t] w (RetV w (.bool true)):=by
 refine Zbi (Φ:=fun w=>(Glob w∧ArgI w A0 n R C Z∧Zaq w B0 bz)) Tryz.func4 rfl (by kernel_rfl) (fun w' hf=>⟨hg.ext hf,ha.ext hf,hb0.ext hf⟩) ?_
 refine Zac (Zab (xr 1 [eS1 0 A0 n c0,eS1 1 B0 nb cb,(2, .v (.int .i64 t)),(6, .v (.bool false))] [] ?_))
 refine xe (Zaa (Zac (Zac (Zab (xr 1 [eS1 0 A0 n c0,eS1 1 B0 nb cb,(2, .v (.int .i64 t)),(6, .v (.bool false)),eS1 19 A0 n c0] [] ?_)))))
 refine xc 14 [.slice A0 n c0, .int .i64 70, .int .i64 70] 20 (fun x:{b:Bool // b=true→n≤70∧∀ i,i < n→(Z i).length≤70}=>.bool x.1) _ (fun w S Q=>(Zhf A0 n c0 70 70 R C Z _ Q.2.1 (by omega)).mono (fun _ _=>ZmO)) (fun xx=>?_)
 obtain ⟨sb,hsb⟩:=xx
 rcases sb with _ | _
 ·refine xr 16 [eS1 0 A0 n c0,eS1 1 B0 nb cb,(2, .v (.int .i64 t)),(6, .v (.bool false)),(36, .v (.bool true))] [] ?_
  refine xe (Zaa (xa (Zac (Zab ?_))))
  refine xc 10 [] 37 (fun _:Unit=>.bool true) _ (fun w S Q=>(ZcS _ Q.1.1).mono (fun _ _ h=>Zau h rfl)) (fun xx=>?_)
  refine xr 1 [eS1 0 A0 n c0,eS1 1 B0 nb cb,(2, .v (.int .i64 t)),(6, .v (.bool true))] [] ?_
  refine xe (Zaa (Zao (Zag ?_)))
  refine Zak (v:=.bool true) (by kernel_rfl) (fun w' S Q=>?_)
  exact ⟨rfl,S⟩
 ·refine xr 7 [eS1 0 A0 n c0,eS1 1 B0 nb cb,(2, .v (.int .i64 t)),(6, .v (.bool false)),(27, .v (.bool (decide (((nb:Nat):Int) > 80))))] [] ?_
  rcases bl2 ((decide (((nb:Nat):Int) > 80))) with hb10 | hb10
  ·rw [hb10]
   refine xr 9 [eS1 0 A0 n c0,eS1 1 B0 nb cb,(2, .v (.int .i64 t)),(6, .v (.bool false)),(36, .v (.bool true))] [] ?_
   refine xe (Zaa (xa (Zac (Zab ?_))))
   refine xc 10 [] 37 (fun _:Unit=>.bool true) _ (fun w S Q=>(ZcS _ Q.1.1).mono (fun _ _ h=>Zau h rfl)) (fun xx=>?_)
   refine xr 1 [eS1 0 A0 n c0,eS1 1 B0 nb cb,(2, .v (.int .i64 t)),(6, .v (.bool true))] [] ?_
   refine xe (Zaa (Zao (Zag ?_)))
   refine Zak (v:=.bool true) (by kernel_rfl) (fun w' S Q=>?_)
   exact ⟨rfl,S⟩
  ·rw [hb10]
   refine xr 4 [eS1 0 A0 n c0,eS1 1 B0 nb cb,(2, .v (.int .i64 t)),(6, .v (.bool false)),(27, .v (.bool false)),(31, .v (.bool (decide (((n:Nat):Int) > 6))))] [] ?_
   rcases bl2 ((decide (((n:Nat):Int) > 6))) with hb11 | hb11
   ·rw [hb11]
    refine xr 5 [eS1 0 A0 n c0,eS1 1 B0 nb cb,(2, .v (.int .i64 t)),(6, .v (.bool false)),(36, .v (.bool (decide (((n:Nat):Int) < 60))))] [] ?_
    refine xe (Zaa ?_)
    refine Zar ((decide (((n:Nat):Int) < 60))) (by kernel_rfl) (fun hb12=>?_) (fun hb12=>?_)
    ·refine Zac (Zab ?_)
     refine xc 10 [] 37 (fun _:Unit=>.bool true) _ (fun w S Q=>(ZcS _ Q.1.1).mono (fun _ _ h=>Zau h rfl)) (fun xx=>?_)
     refine xr 1 [eS1 0 A0 n c0,eS1 1 B0 nb cb,(2, .v (.int .i64 t)),(6, .v (.bool true))] [] ?_
     refine xe (Zaa (Zao (Zag ?_)))
     refine Zak (v:=.bool true) (by kernel_rfl) (fun w' S Q=>?_)
     exact ⟨rfl,S⟩
    ·refine Zam (Zaa (Zac ?_))
     have hn70:n≤70:=(hsb rfl).1
     refine Zab (xr 2 [eS1 0 A0 n c0,eS1 1 B0 nb cb,(2, .v (.int .i64 t)),(6, .v (.bool false)),eS1 39 A0 n c0,(40, .v (.int .i64 t))] [] ?_)
     refine xc 15 [.slice A0 n c0, .int .i64 t] 41 (fun x:{x:Int × Int // RankIs n Z t x.1 x.2}=>.tuple #[.int .i64 x.1.1, .int .i64 x.1.2]) _ (fun w S Q=>(Zlu A0 n c0 R C Z t _ Q.1.2.1 (by omega)).mono (fun _ _ h=>ZdT (Ψ:=RankIs n Z t) h)) (fun xx=>?_)
     obtain ⟨⟨ra,ea⟩,hK⟩:=xx
     refine xr 5 [eS1 0 A0 n c0,eS1 1 B0 nb cb,(2, .v (.int .i64 t)),(6, .v (.bool false)),(7, .v (.int .i64 ra)),(8, .v (.int .i64 ea))] [] ?_
     refine xe (Zaa (Zac (Zab (xr 2 [eS1 0 A0 n c0,eS1 1 B0 nb cb,(2, .v (.int .i64 t)),(6, .v (.bool false)),(7, .v (.int .i64 ra)),(8, .v (.int .i64 ea)),eS1 45 A0 n c0,(46, .v (.int .i64 t))] [] ?_))))
     refine xc 16 [.slice A0 n c0, .int .i64 t] 47 (fun x:{x:Int × Int // RkIs n Z t x.1 x.2}=>.tuple #[.int .i64 x.1.1, .int .i64 x.1.2]) _ (fun w S Q=>(Zh1 A0 n c0 R C Z t _ Q.1.1.2.1 (by omega)).mono (fun _ _ h=>ZdT (Ψ:=RkIs n Z t) h)) (fun xx=>?_)
     obtain ⟨⟨rb,eb⟩,hK2⟩:=xx
     refine xr 5 [eS1 0 A0 n c0,eS1 1 B0 nb cb,(2, .v (.int .i64 t)),(6, .v (.bool false)),(7, .v (.int .i64 ra)),(8, .v (.int .i64 ea)),(9, .v (.int .i64 rb)),(10, .v (.int .i64 eb))] [] ?_
     refine xe (Zaa (Zac (Zab (xr 2 [eS1 0 A0 n c0,eS1 1 B0 nb cb,(2, .v (.int .i64 t)),(6, .v (.bool false)),(7, .v (.int .i64 ra)),(8, .v (.int .i64 ea)),(9, .v (.int .i64 rb)),(10, .v (.int .i64 eb)),eS1 51 A0 n c0,(52, .v (.int .i64 t))] [] ?_))))
     refine xc 11 [.slice A0 n c0, .int .i64 t] 53 (fun x:{x:Int × Int // DetIs n Z t x.1 x.2}=>.tuple #[.int .i64 x.1.1, .int .i64 x.1.2]) _ (fun w S Q=>(Zmb A0 n c0 R C Z t _ Q.1.1.1.2.1 (by omega)).mono (fun _ _ h=>ZdT (Ψ:=DetIs n Z t) h)) (fun xx=>?_)
     obtain ⟨⟨da,fa⟩,hD⟩:=xx
     refine xr 5 [eS1 0 A0 n c0,eS1 1 B0 nb cb,(2, .v (.int .i64 t)),(6, .v (.bool false)),(7, .v (.int .i64 ra)),(8, .v (.int .i64 ea)),(9, .v (.int .i64 rb)),(10, .v (.int .i64 eb)),(11, .v (.int .i64 da)),(12, .v (.int .i64 fa))] [] ?_
     refine xe (Zaa (Zac (Zab (xr 2 [eS1 0 A0 n c0,eS1 1 B0 nb cb,(2, .v (.int .i64 t)),(6, .v (.bool false)),(7, .v (.int .i64 ra)),(8, .v (.int .i64 ea)),(9, .v (.int .i64 rb)),(10, .v (.int .i64 eb)),(11, .v (.int .i64 da)),(12, .v (.int .i64 fa)),eS1 57 A0 n c0,(58, .v (.int .i64 t))] [] ?_))))
     refine xc 17 [.slice A0 n c0, .int .i64 t] 59 (fun x:{x:Int × Int // RdIs n Z t x.1 x.2}=>.tuple #[.int .i64 x.1.1, .int .i64 x.1.2]) _ (fun w S Q=>(Zjd A0 n c0 R C Z t _ Q.1.1.1.1.2.1 (by omega)).mono (fun _ _ h=>ZdT (Ψ:=RdIs n Z t) h)) (fun xx=>?_)
     obtain ⟨⟨db,fb⟩,hD2⟩:=xx
     refine xr 5 [eS1 0 A0 n c0,eS1 1 B0 nb cb,(2, .v (.int .i64 t)),(6, .v (.bool false)),(7, .v (.int .i64 ra)),(8, .v (.int .i64 ea)),(9, .v (.int .i64 rb)),(10, .v (.int .i64 eb)),(11, .v (.int .i64 da)),(12, .v (.int .i64 fa)),(13, .v (.int .i64 db)),(14, .v (.int .i64 fb))] [] ?_
     refine xe (Zaa (Zac (Zab (xr 3 [eS1 0 A0 n c0,eS1 1 B0 nb cb,(2, .v (.int .i64 t)),(6, .v (.bool false)),(7, .v (.int .i64 ra)),(8, .v (.int .i64 ea)),(9, .v (.int .i64 rb)),(10, .v (.int .i64 eb)),(11, .v (.int .i64 da)),(12, .v (.int .i64 fa)),(13, .v (.int .i64 db)),(14, .v (.int .i64 fb)),eS1 63 A0 n c0,eS1 64 B0 nb cb,(65, .v (.int .i64 t))] [] ?_))))
     refine Zbk (d:=66) 12 [.slice A0 n c0, .slice B0 nb cb, .int .i64 t] (fun x:SolX n nb Z bz t=>.tuple #[x.v, .int .i64 x.c]) (fun x w=>((Glob w∧ArgI w A0 n R C Z∧Zaq w B0 bz)∧(x.c=0→Own .i64 3 w x.bx x.xs))) (fun w hE' Q=>(Zka A0 n c0 R C Z B0 nb cb bz t w Q.1.1.1.1.1.2.1 Q.1.1.1.1.1.2.2 hbl hb64 (by omega)).mono (fun _ _ h=>Zlz Zkx Q.1.1.1.1.1 hE' h)) (fun x=>?_)
     obtain ⟨bx,xs,vv,e2,hS⟩:=x
     refine xr 5 [eS1 0 A0 n c0,eS1 1 B0 nb cb,(2, .v (.int .i64 t)),(6, .v (.bool false)),(7, .v (.int .i64 ra)),(8, .v (.int .i64 ea)),(9, .v (.int .i64 rb)),(10, .v (.int .i64 eb)),(11, .v (.int .i64 da)),(12, .v (.int .i64 fa)),(13, .v (.int .i64 db)),(14, .v (.int .i64 fb)),(15, .v (vv)),(16, .v (.int .i64 e2))] [] ?_
     refine xe (Zaa (Zac (Zab (xr 3 [(6, .v (.bool false)),(7, .v (.int .i64 ra)),(8, .v (.int .i64 ea)),(9, .v (.int .i64 rb)),(10, .v (.int .i64 eb)),(11, .v (.int .i64 da)),(12, .v (.int .i64 fa)),(13, .v (.int .i64 db)),(14, .v (.int .i64 fb)),(15, .v (vv)),(16, .v (.int .i64 e2)),eS1 70 A0 n c0,eS1 71 B0 nb cb,(72, .v (.int .i64 t))] [] ?_))))
     refine Zbk (d:=73) 18 [.slice A0 n c0, .slice B0 nb cb, .int .i64 t] (fun x:SrX n nb Z bz t=>.tuple #[x.v, .int .i64 x.c]) (fun x w=>(((Glob w∧ArgI w A0 n R C Z∧Zaq w B0 bz)∧(e2=0→Own .i64 3 w bx xs))∧(x.c=0→Buf .i64 3 w x.az x.cz x.zs))) (fun w hE' Q=>(Zhe A0 n c0 R C Z B0 nb cb bz t w Q.1.2.1 Q.1.2.2 hbl (by omega)).mono (fun _ _ h=>Zmh (ZoX Zkx) Q hE' h)) (fun x=>?_)
     obtain ⟨az,cz,zs,ww,e3,hS2⟩:=x
     refine xr 5 [(6, .v (.bool false)),(7, .v (.int .i64 ra)),(8, .v (.int .i64 ea)),(9, .v (.int .i64 rb)),(10, .v (.int .i64 eb)),(11, .v (.int .i64 da)),(12, .v (.int .i64 fa)),(13, .v (.int .i64 db)),(14, .v (.int .i64 fb)),(15, .v (vv)),(16, .v (.int .i64 e2)),(17, .v (ww)),(18, .v (.int .i64 e3))] [] ?_
     refine xe (Zaa (Zac ?_))
     obtain ⟨rfl,rfl⟩:=Zje hK hK2
     obtain ⟨rfl,rfl⟩:=Zkd hD hD2
     rcases Zke hS hS2 with ⟨rfl,⟨he2,rfl,rfl⟩ | ⟨rfl,rfl,rfl,hxl,rfl⟩⟩
     ·refine Zab (xr 3 [(6, .v (.bool false)),(8, .v (.int .i64 ea)),(10, .v (.int .i64 ea)),(11, .v (.int .i64 da)),(12, .v (.int .i64 fa)),(13, .v (.int .i64 da)),(14, .v (.int .i64 fa)),eS1 15 none 0 0,(16, .v (.int .i64 e2)),eS1 17 none 0 0,(18, .v (.int .i64 e2)),(78, .v (.bool ((ra:Int) == ra)))] [] ?_)
      rw [ZbN]
      refine xr 4 [(6, .v (.bool false)),(11, .v (.int .i64 da)),(12, .v (.int .i64 fa)),(13, .v (.int .i64 da)),(14, .v (.int .i64 fa)),eS1 15 none 0 0,(16, .v (.int .i64 e2)),eS1 17 none 0 0,(18, .v (.int .i64 e2)),(79, .v (.bool true)),(82, .v (.bool ((ea:Int) == ea)))] [] ?_
      rw [ZbN]
      refine xr 5 [(6, .v (.bool false)),(12, .v (.int .i64 fa)),(14, .v (.int .i64 fa)),eS1 15 none 0 0,(16, .v (.int .i64 e2)),eS1 17 none 0 0,(18, .v (.int .i64 e2)),(84, .v (.bool true)),(87, .v (.bool ((da:Int) == da)))] [] ?_
      rw [ZbN]
      refine xr 5 [(6, .v (.bool false)),eS1 15 none 0 0,(16, .v (.int .i64 e2)),eS1 17 none 0 0,(18, .v (.int .i64 e2)),(89, .v (.bool true)),(92, .v (.bool ((fa:Int) == fa)))] [] ?_
      rw [ZbN]
      refine xr 4 [(6, .v (.bool false)),(16, .v (.int .i64 e2)),(18, .v (.int .i64 e2)),(94, .v (.bool true)),eS1 95 none 0 0,eS1 96 none 0 0] [] ?_
      refine xc 19 [.slice none 0 0, .slice none 0 0] 97 (fun _:Unit=>.bool true) _ (fun w S Q=>(ZdF none none 0 0 0 [] _ rfl (fun h=>absurd rfl h) (fun h=>absurd rfl h) (by omega)).mono (fun _ _ h=>Zau h rfl)) (fun xx=>?_)
      refine xr 5 [(6, .v (.bool false)),(99, .v (.bool true)),(102, .v (.bool ((e2:Int) == e2)))] [] ?_
      rw [ZbN]
      refine xr 2 [(6, .v (.bool false)),(104, .v (.bool true))] [] ?_
      refine xc 10 [] 105 (fun _:Unit=>.bool true) _ (fun w S Q=>(ZcS _ Q.1.1.1.1).mono (fun _ _ h=>Zau h rfl)) (fun xx=>?_)
      refine xr 2 [(6, .v (.bool true))] [] ?_
      refine xe (Zaa (Zao ?_))
      refine Zak (v:=.bool true) (by kernel_rfl) (fun w' S Q=>?_)
      exact ⟨rfl,S⟩
     ·refine Zab (xr 3 [(6, .v (.bool false)),(8, .v (.int .i64 ea)),(10, .v (.int .i64 ea)),(11, .v (.int .i64 da)),(12, .v (.int .i64 fa)),(13, .v (.int .i64 da)),(14, .v (.int .i64 fa)),eS1 15 (some ⟨bx,0,none⟩) n n,(16, .v (.int .i64 0)),eS1 17 az n cz,(18, .v (.int .i64 0)),(78, .v (.bool ((ra:Int) == ra)))] [] ?_)
      rw [ZbN]
      refine xr 4 [(6, .v (.bool false)),(11, .v (.int .i64 da)),(12, .v (.int .i64 fa)),(13, .v (.int .i64 da)),(14, .v (.int .i64 fa)),eS1 15 (some ⟨bx,0,none⟩) n n,(16, .v (.int .i64 0)),eS1 17 az n cz,(18, .v (.int .i64 0)),(79, .v (.bool true)),(82, .v (.bool ((ea:Int) == ea)))] [] ?_
      rw [ZbN]
      refine xr 5 [(6, .v (.bool false)),(12, .v (.int .i64 fa)),(14, .v (.int .i64 fa)),eS1 15 (some ⟨bx,0,none⟩) n n,(16, .v (.int .i64 0)),eS1 17 az n cz,(18, .v (.int .i64 0)),(84, .v (.bool true)),(87, .v (.bool ((da:Int) == da)))] [] ?_
      rw [ZbN]
      refine xr 5 [(6, .v (.bool false)),eS1 15 (some ⟨bx,0,none⟩) n n,(16, .v (.int .i64 0)),eS1 17 az n cz,(18, .v (.int .i64 0)),(89, .v (.bool true)),(92, .v (.bool ((fa:Int) == fa)))] [] ?_
      rw [ZbN]
      refine xr 4 [(6, .v (.bool false)),(16, .v (.int .i64 0)),(18, .v (.int .i64 0)),(94, .v (.bool true)),eS1 95 (some ⟨bx,0,none⟩) n n,eS1 96 az n cz] [] ?_
      refine xc 19 [.slice (some ⟨bx,0,none⟩) n n, .slice az n cz] 97 (fun _:Unit=>.bool true) _ (fun w S Q=>(ZdF (some ⟨bx,0,none⟩) az n n cz (asI zs) _ (by rw [ZjJ]; exact hxl) (ZhE (Q.1.2 rfl).shows0) (ZhE (Q.2 rfl).shows) (by omega)).mono (fun _ _ h=>Zau h rfl)) (fun xx=>?_)
      refine xr 7 [(6, .v (.bool false)),(104, .v (.bool true))] [] ?_
      refine xc 10 [] 105 (fun _:Unit=>.bool true) _ (fun w S Q=>(ZcS _ Q.1.1.1.1).mono (fun _ _ h=>Zau h rfl)) (fun xx=>?_)
      refine xr 2 [(6, .v (.bool true))] [] ?_
      refine xe (Zaa (Zao ?_))
      refine Zak (v:=.bool true) (by kernel_rfl) (fun w' S Q=>?_)
      exact ⟨rfl,S⟩
   ·rw [hb11]
    refine xr 5 [eS1 0 A0 n c0,eS1 1 B0 nb cb,(2, .v (.int .i64 t)),(6, .v (.bool false)),(36, .v (.bool false))] [] ?_
    refine xe (Zaa (xb (Zam (Zaa (Zac ?_)))))
    have hn70:n≤70:=(hsb rfl).1
    refine Zab (xr 2 [eS1 0 A0 n c0,eS1 1 B0 nb cb,(2, .v (.int .i64 t)),(6, .v (.bool false)),eS1 39 A0 n c0,(40, .v (.int .i64 t))] [] ?_)
    refine xc 15 [.slice A0 n c0, .int .i64 t] 41 (fun x:{x:Int × Int // RankIs n Z t x.1 x.2}=>.tuple #[.int .i64 x.1.1, .int .i64 x.1.2]) _ (fun w S Q=>(Zlu A0 n c0 R C Z t _ Q.1.2.1 (by omega)).mono (fun _ _ h=>ZdT (Ψ:=RankIs n Z t) h)) (fun xx=>?_)
    obtain ⟨⟨ra,ea⟩,hK⟩:=xx
    refine xr 5 [eS1 0 A0 n c0,eS1 1 B0 nb cb,(2, .v (.int .i64 t)),(6, .v (.bool false)),(7, .v (.int .i64 ra)),(8, .v (.int .i64 ea))] [] ?_
    refine xe (Zaa (Zac (Zab (xr 2 [eS1 0 A0 n c0,eS1 1 B0 nb cb,(2, .v (.int .i64 t)),(6, .v (.bool false)),(7, .v (.int .i64 ra)),(8, .v (.int .i64 ea)),eS1 45 A0 n c0,(46, .v (.int .i64 t))] [] ?_))))
    refine xc 16 [.slice A0 n c0, .int .i64 t] 47 (fun x:{x:Int × Int // RkIs n Z t x.1 x.2}=>.tuple #[.int .i64 x.1.1, .int .i64 x.1.2]) _ (fun w S Q=>(Zh1 A0 n c0 R C Z t _ Q.1.1.2.1 (by omega)).mono (fun _ _ h=>ZdT (Ψ:=RkIs n Z t) h)) (fun xx=>?_)
    obtain ⟨⟨rb,eb⟩,hK2⟩:=xx
    refine xr 5 [eS1 0 A0 n c0,eS1 1 B0 nb cb,(2, .v (.int .i64 t)),(6, .v (.bool false)),(7, .v (.int .i64 ra)),(8, .v (.int .i64 ea)),(9, .v (.int .i64 rb)),(10, .v (.int .i64 eb))] [] ?_
    refine xe (Zaa (Zac (Zab (xr 2 [eS1 0 A0 n c0,eS1 1 B0 nb cb,(2, .v (.int .i64 t)),(6, .v (.bool false)),(7, .v (.int .i64 ra)),(8, .v (.int .i64 ea)),(9, .v (.int .i64 rb)),(10, .v (.int .i64 eb)),eS1 51 A0 n c0,(52, .v (.int .i64 t))] [] ?_))))
    refine xc 11 [.slice A0 n c0, .int .i64 t] 53 (fun x:{x:Int × Int // DetIs n Z t x.1 x.2}=>.tuple #[.int .i64 x.1.1, .int .i64 x.1.2]) _ (fun w S Q=>(Zmb A0 n c0 R C Z t _ Q.1.1.1.2.1 (by omega)).mono (fun _ _ h=>ZdT (Ψ:=DetIs n Z t) h)) (fun xx=>?_)
    obtain ⟨⟨da,fa⟩,hD⟩:=xx
    refine xr 5 [eS1 0 A0 n c0,eS1 1 B0 nb cb,(2, .v (.int .i64 t)),(6, .v (.bool false)),(7, .v (.int .i64 ra)),(8, .v (.int .i64 ea)),(9, .v (.int .i64 rb)),(10, .v (.int .i64 eb)),(11, .v (.int .i64 da)),(12, .v (.int .i64 fa))] [] ?_
    refine xe (Zaa (Zac (Zab (xr 2 [eS1 0 A0 n c0,eS1 1 B0 nb cb,(2, .v (.int .i64 t)),(6, .v (.bool false)),(7, .v (.int .i64 ra)),(8, .v (.int .i64 ea)),(9, .v (.int .i64 rb)),(10, .v (.int .i64 eb)),(11, .v (.int .i64 da)),(12, .v (.int .i64 fa)),eS1 57 A0 n c0,(58, .v (.int .i64 t))] [] ?_))))
    refine xc 17 [.slice A0 n c0, .int .i64 t] 59 (fun x:{x:Int × Int // RdIs n Z t x.1 x.2}=>.tuple #[.int .i64 x.1.1, .int .i64 x.1.2]) _ (fun w S Q=>(Zjd A0 n c0 R C Z t _ Q.1.1.1.1.2.1 (by omega)).mono (fun _ _ h=>ZdT (Ψ:=RdIs n Z t) h)) (fun xx=>?_)
    obtain ⟨⟨db,fb⟩,hD2⟩:=xx
    refine xr 5 [eS1 0 A0 n c0,eS1 1 B0 nb cb,(2, .v (.int .i64 t)),(6, .v (.bool false)),(7, .v (.int .i64 ra)),(8, .v (.int .i64 ea)),(9, .v (.int .i64 rb)),(10, .v (.int .i64 eb)),(11, .v (.int .i64 da)),(12, .v (.int .i64 fa)),(13, .v (.int .i64 db)),(14, .v (.int .i64 fb))] [] ?_
    refine xe (Zaa (Zac (Zab (xr 3 [eS1 0 A0 n c0,eS1 1 B0 nb cb,(2, .v (.int .i64 t)),(6, .v (.bool false)),(7, .v (.int .i64 ra)),(8, .v (.int .i64 ea)),(9, .v (.int .i64 rb)),(10, .v (.int .i64 eb)),(11, .v (.int .i64 da)),(12, .v (.int .i64 fa)),(13, .v (.int .i64 db)),(14, .v (.int .i64 fb)),eS1 63 A0 n c0,eS1 64 B0 nb cb,(65, .v (.int .i64 t))] [] ?_))))
    refine Zbk (d:=66) 12 [.slice A0 n c0, .slice B0 nb cb, .int .i64 t] (fun x:SolX n nb Z bz t=>.tuple #[x.v, .int .i64 x.c]) (fun x w=>((Glob w∧ArgI w A0 n R C Z∧Zaq w B0 bz)∧(x.c=0→Own .i64 3 w x.bx x.xs))) (fun w hE' Q=>(Zka A0 n c0 R C Z B0 nb cb bz t w Q.1.1.1.1.1.2.1 Q.1.1.1.1.1.2.2 hbl hb64 (by omega)).mono (fun _ _ h=>Zlz Zkx Q.1.1.1.1.1 hE' h)) (fun x=>?_)
    obtain ⟨bx,xs,vv,e2,hS⟩:=x
    refine xr 5 [eS1 0 A0 n c0,eS1 1 B0 nb cb,(2, .v (.int .i64 t)),(6, .v (.bool false)),(7, .v (.int .i64 ra)),(8, .v (.int .i64 ea)),(9, .v (.int .i64 rb)),(10, .v (.int .i64 eb)),(11, .v (.int .i64 da)),(12, .v (.int .i64 fa)),(13, .v (.int .i64 db)),(14, .v (.int .i64 fb)),(15, .v (vv)),(16, .v (.int .i64 e2))] [] ?_
    refine xe (Zaa (Zac (Zab (xr 3 [(6, .v (.bool false)),(7, .v (.int .i64 ra)),(8, .v (.int .i64 ea)),(9, .v (.int .i64 rb)),(10, .v (.int .i64 eb)),(11, .v (.int .i64 da)),(12, .v (.int .i64 fa)),(13, .v (.int .i64 db)),(14, .v (.int .i64 fb)),(15, .v (vv)),(16, .v (.int .i64 e2)),eS1 70 A0 n c0,eS1 71 B0 nb cb,(72, .v (.int .i64 t))] [] ?_))))
    refine Zbk (d:=73) 18 [.slice A0 n c0, .slice B0 nb cb, .int .i64 t] (fun x:SrX n nb Z bz t=>.tuple #[x.v, .int .i64 x.c]) (fun x w=>(((Glob w∧ArgI w A0 n R C Z∧Zaq w B0 bz)∧(e2=0→Own .i64 3 w bx xs))∧(x.c=0→Buf .i64 3 w x.az x.cz x.zs))) (fun w hE' Q=>(Zhe A0 n c0 R C Z B0 nb cb bz t w Q.1.2.1 Q.1.2.2 hbl (by omega)).mono (fun _ _ h=>Zmh (ZoX Zkx) Q hE' h)) (fun x=>?_)
    obtain ⟨az,cz,zs,ww,e3,hS2⟩:=x
    refine xr 5 [(6, .v (.bool false)),(7, .v (.int .i64 ra)),(8, .v (.int .i64 ea)),(9, .v (.int .i64 rb)),(10, .v (.int .i64 eb)),(11, .v (.int .i64 da)),(12, .v (.int .i64 fa)),(13, .v (.int .i64 db)),(14, .v (.int .i64 fb)),(15, .v (vv)),(16, .v (.int .i64 e2)),(17, .v (ww)),(18, .v (.int .i64 e3))] [] ?_
    refine xe (Zaa (Zac ?_))
    obtain ⟨rfl,rfl⟩:=Zje hK hK2
    obtain ⟨rfl,rfl⟩:=Zkd hD hD2
    rcases Zke hS hS2 with ⟨rfl,⟨he2,rfl,rfl⟩ | ⟨rfl,rfl,rfl,hxl,rfl⟩⟩
    ·refine Zab (xr 3 [(6, .v (.bool false)),(8, .v (.int .i64 ea)),(10, .v (.int .i64 ea)),(11, .v (.int .i64 da)),(12, .v (.int .i64 fa)),(13, .v (.int .i64 da)),(14, .v (.int .i64 fa)),eS1 15 none 0 0,(16, .v (.int .i64 e2)),eS1 17 none 0 0,(18, .v (.int .i64 e2)),(78, .v (.bool ((ra:Int) == ra)))] [] ?_)
     rw [ZbN]
     refine xr 4 [(6, .v (.bool false)),(11, .v (.int .i64 da)),(12, .v (.int .i64 fa)),(13, .v (.int .i64 da)),(14, .v (.int .i64 fa)),eS1 15 none 0 0,(16, .v (.int .i64 e2)),eS1 17 none 0 0,(18, .v (.int .i64 e2)),(79, .v (.bool true)),(82, .v (.bool ((ea:Int) == ea)))] [] ?_
     rw [ZbN]
     refine xr 5 [(6, .v (.bool false)),(12, .v (.int .i64 fa)),(14, .v (.int .i64 fa)),eS1 15 none 0 0,(16, .v (.int .i64 e2)),eS1 17 none 0 0,(18, .v (.int .i64 e2)),(84, .v (.bool true)),(87, .v (.bool ((da:Int) == da)))] [] ?_
     rw [ZbN]
     refine xr 5 [(6, .v (.bool false)),eS1 15 none 0 0,(16, .v (.int .i64 e2)),eS1 17 none 0 0,(18, .v (.int .i64 e2)),(89, .v (.bool true)),(92, .v (.bool ((fa:Int) == fa)))] [] ?_
     rw [ZbN]
     refine xr 4 [(6, .v (.bool false)),(16, .v (.int .i64 e2)),(18, .v (.int .i64 e2)),(94, .v (.bool true)),eS1 95 none 0 0,eS1 96 none 0 0] [] ?_
     refine xc 19 [.slice none 0 0, .slice none 0 0] 97 (fun _:Unit=>.bool true) _ (fun w S Q=>(ZdF none none 0 0 0 [] _ rfl (fun h=>absurd rfl h) (fun h=>absurd rfl h) (by omega)).mono (fun _ _ h=>Zau h rfl)) (fun xx=>?_)
     refine xr 5 [(6, .v (.bool false)),(99, .v (.bool true)),(102, .v (.bool ((e2:Int) == e2)))] [] ?_
     rw [ZbN]
     refine xr 2 [(6, .v (.bool false)),(104, .v (.bool true))] [] ?_
     refine xc 10 [] 105 (fun _:Unit=>.bool true) _ (fun w S Q=>(ZcS _ Q.1.1.1.1).mono (fun _ _ h=>Zau h rfl)) (fun xx=>?_)
     refine xr 2 [(6, .v (.bool true))] [] ?_
     refine xe (Zaa (Zao ?_))
     refine Zak (v:=.bool true) (by kernel_rfl) (fun w' S Q=>?_)
     exact ⟨rfl,S⟩
    ·refine Zab (xr 3 [(6, .v (.bool false)),(8, .v (.int .i64 ea)),(10, .v (.int .i64 ea)),(11, .v (.int .i64 da)),(12, .v (.int .i64 fa)),(13, .v (.int .i64 da)),(14, .v (.int .i64 fa)),eS1 15 (some ⟨bx,0,none⟩) n n,(16, .v (.int .i64 0)),eS1 17 az n cz,(18, .v (.int .i64 0)),(78, .v (.bool ((ra:Int) == ra)))] [] ?_)
     rw [ZbN]
     refine xr 4 [(6, .v (.bool false)),(11, .v (.int .i64 da)),(12, .v (.int .i64 fa)),(13, .v (.int .i64 da)),(14, .v (.int .i64 fa)),eS1 15 (some ⟨bx,0,none⟩) n n,(16, .v (.int .i64 0)),eS1 17 az n cz,(18, .v (.int .i64 0)),(79, .v (.bool true)),(82, .v (.bool ((ea:Int) == ea)))] [] ?_
     rw [ZbN]
     refine xr 5 [(6, .v (.bool false)),(12, .v (.int .i64 fa)),(14, .v (.int .i64 fa)),eS1 15 (some ⟨bx,0,none⟩) n n,(16, .v (.int .i64 0)),eS1 17 az n cz,(18, .v (.int .i64 0)),(84, .v (.bool true)),(87, .v (.bool ((da:Int) == da)))] [] ?_
     rw [ZbN]
     refine xr 5 [(6, .v (.bool false)),eS1 15 (some ⟨bx,0,none⟩) n n,(16, .v (.int .i64 0)),eS1 17 az n cz,(18, .v (.int .i64 0)),(89, .v (.bool true)),(92, .v (.bool ((fa:Int) == fa)))] [] ?_
     rw [ZbN]
     refine xr 4 [(6, .v (.bool false)),(16, .v (.int .i64 0)),(18, .v (.int .i64 0)),(94, .v (.bool true)),eS1 95 (some ⟨bx,0,none⟩) n n,eS1 96 az n cz] [] ?_
     refine xc 19 [.slice (some ⟨bx,0,none⟩) n n, .slice az n cz] 97 (fun _:Unit=>.bool true) _ (fun w S Q=>(ZdF (some ⟨bx,0,none⟩) az n n cz (asI zs) _ (by rw [ZjJ]; exact hxl) (ZhE (Q.1.2 rfl).shows0) (ZhE (Q.2 rfl).shows) (by omega)).mono (fun _ _ h=>Zau h rfl)) (fun xx=>?_)
     refine xr 7 [(6, .v (.bool false)),(104, .v (.bool true))] [] ?_
     refine xc 10 [] 105 (fun _:Unit=>.bool true) _ (fun w S Q=>(ZcS _ Q.1.1.1.1).mono (fun _ _ h=>Zau h rfl)) (fun xx=>?_)
     refine xr 2 [(6, .v (.bool true))] [] ?_
     refine xe (Zaa (Zao ?_))
     refine Zak (v:=.bool true) (by kernel_rfl) (fun w' S Q=>?_)
     exact ⟨rfl,S⟩
end Go.Proofs.YthlipnahcbcjkaaGreatDoor
