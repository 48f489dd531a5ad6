/-
 My texts FrwL put together.
-/
import Derived.Test.YtklpdkpcocnglaaGreatDoorU20
set_option maxRecDepth 100000
set_option maxHeartbeats 8000000
namespace Go.Proofs.YtklpdkpcocnglaaGreatDoor
open Go.RowKit
theorem Zjf (s t:ByteArray)(x y b:Int)(w:World)(X:Glob w) :
 yA 12 #[yS s x, yS t y,.int .i64 b] w (RetV w (.bool true)):=by
 refine Zax (Φ:=fun w=>Glob w) Tryz.func12 rfl (by kernel_rfl) (fun w' Y=>X.ext Y) ?_
 refine Zac (Zab (xq 3 [(3,.p 3 0),(4,.p 4 0),yB 6 false] [yG 4 24 t y,yG 3 24 s x] ?_))
 refine xe (Zaa ?_)
 refine ZgD (fun V W=>∃ (Z:Unit),V=ofL [yJ 2 b,(3,.p 3 0),(4,.p 4 0),yB 6 false] [yG 4 24 t y,yG 3 24 s x]∧W=(fun w=>Glob w)∧(s.size≤200)∧(t.size≤200)) ?_ ?_
 ·refine Zac ?_
  by_cases m:Zfn s x∧Zfn t y
  ·obtain⟨⟨K,_⟩,⟨L,_⟩⟩:=id m
   by_cases q : -300≤x∧x≤300
   ·refine Zab (xq 2 [(15,.v (yS s x)),(16,.v (yS t y))] [] ?_)
    refine yD (d:=17) (fun a:Nat=>.slice (some ⟨a,0,none⟩) 2 2) (fun a l=>Blk 24 l a #[.string s,.int .i64 x,.string t,.int .i64 y]) (fun w R Q=>ZaZ (t:=108) (e:=24) (n:=2) (sz:=2) (z:=.agg #[.string ⟨#[]⟩,.int .i64 0]) (parts:=#[(0,Operand.tmp 15),(1,Operand.tmp 16)]) (by kernel_rfl) (by kernel_rfl) (by kernel_rfl) (by kernel_rfl) (by kernel_rfl) (by kernel_rfl)) fun r=>?_
    refine xr 0 [yJ 2 b,(3,.p 3 0),(4,.p 4 0),yB 6 false,eS1 17 (some ⟨r,0,none⟩) 2 2] [yG 4 24 t y,yG 3 24 s x] ?_
    refine xqc 51 [.slice (some ⟨r,0,none⟩) 2 2] 18 (fun _:Unit=>.bool true) _ (fun w R Q=>(Zgi r s t x y _ Q.2).mono (fun _ _ h=>Zag h (by rw[uQ m]))) fun i=>?_
    refine xq 3 [yB 20 false,(21,.v (yS s x))] [] ?_
    refine yD (d:=22) (fun a:Nat=>.slice (some ⟨a,0,none⟩) 1 1) (fun a l=>Blk 24 l a #[.string s,.int .i64 x]) (fun w R Q=>ZaZ (t:=108) (e:=24) (n:=1) (sz:=2) (z:=.agg #[.string ⟨#[]⟩,.int .i64 0]) (parts:=#[(0,Operand.tmp 21)]) (by kernel_rfl) (by kernel_rfl) (by kernel_rfl) (by kernel_rfl) (by kernel_rfl) (by kernel_rfl)) fun u=>?_
    refine xr 0 [yJ 2 b,(3,.p 3 0),(4,.p 4 0),yB 6 false,yB 20 false,eS1 22 (some ⟨u,0,none⟩) 1 1] [yG 4 24 t y,yG 3 24 s x] ?_
    refine xqc 40 [.slice (some ⟨u,0,none⟩) 1 1] 23 (fun _:Unit=>.bool true) _ (fun w R Q=>(Zf3 u s x _ Q.2 (by omega)).mono (fun _ _ h=>Zag h (by rw[uQ q]))) fun i=>?_
    refine xq 15 [yB 38 false] [] ?_
    refine xe (Zaa (xb (Zal ?_)))
    refine yP [yJ 2 b,(3,.p 3 0),(4,.p 4 0),yB 6 false] [yG 4 24 t y,yG 3 24 s x] (fun w=>Glob w) (fun w Q=>Q.1.1.1.1) ?_
    exact Zb6 ⟨(),rfl,rfl,(by omega),(by omega)⟩
   by_cases M : -300≤y∧y≤300
   ·refine Zab (xq 2 [(15,.v (yS s x)),(16,.v (yS t y))] [] ?_)
    refine yD (d:=17) (fun a:Nat=>.slice (some ⟨a,0,none⟩) 2 2) (fun a l=>Blk 24 l a #[.string s,.int .i64 x,.string t,.int .i64 y]) (fun w R Q=>ZaZ (t:=108) (e:=24) (n:=2) (sz:=2) (z:=.agg #[.string ⟨#[]⟩,.int .i64 0]) (parts:=#[(0,Operand.tmp 15),(1,Operand.tmp 16)]) (by kernel_rfl) (by kernel_rfl) (by kernel_rfl) (by kernel_rfl) (by kernel_rfl) (by kernel_rfl)) fun A=>?_
    refine xr 0 [yJ 2 b,(3,.p 3 0),(4,.p 4 0),yB 6 false,eS1 17 (some ⟨A,0,none⟩) 2 2] [yG 4 24 t y,yG 3 24 s x] ?_
    refine xqc 51 [.slice (some ⟨A,0,none⟩) 2 2] 18 (fun _:Unit=>.bool true) _ (fun w R Q=>(Zgi A s t x y _ Q.2).mono (fun _ _ h=>Zag h (by rw[uQ m]))) fun i=>?_
    refine xq 3 [yB 20 false,(21,.v (yS s x))] [] ?_
    refine yD (d:=22) (fun a:Nat=>.slice (some ⟨a,0,none⟩) 1 1) (fun a l=>Blk 24 l a #[.string s,.int .i64 x]) (fun w R Q=>ZaZ (t:=108) (e:=24) (n:=1) (sz:=2) (z:=.agg #[.string ⟨#[]⟩,.int .i64 0]) (parts:=#[(0,Operand.tmp 21)]) (by kernel_rfl) (by kernel_rfl) (by kernel_rfl) (by kernel_rfl) (by kernel_rfl) (by kernel_rfl)) fun B=>?_
    refine xr 0 [yJ 2 b,(3,.p 3 0),(4,.p 4 0),yB 6 false,yB 20 false,eS1 22 (some ⟨B,0,none⟩) 1 1] [yG 4 24 t y,yG 3 24 s x] ?_
    refine xqc 40 [.slice (some ⟨B,0,none⟩) 1 1] 23 (fun _:Unit=>.bool false) _ (fun w R Q=>(Zf3 B s x _ Q.2 (by omega)).mono (fun _ _ h=>Zag h (by rw[uJ q]))) fun i=>?_
    refine xq 3 [yB 25 true,(26,.v (yS t y))] [] ?_
    refine yD (d:=27) (fun a:Nat=>.slice (some ⟨a,0,none⟩) 1 1) (fun a l=>Blk 24 l a #[.string t,.int .i64 y]) (fun w R Q=>ZaZ (t:=108) (e:=24) (n:=1) (sz:=2) (z:=.agg #[.string ⟨#[]⟩,.int .i64 0]) (parts:=#[(0,Operand.tmp 26)]) (by kernel_rfl) (by kernel_rfl) (by kernel_rfl) (by kernel_rfl) (by kernel_rfl) (by kernel_rfl)) fun C=>?_
    refine xr 0 [yJ 2 b,(3,.p 3 0),(4,.p 4 0),yB 6 false,yB 20 false,yB 25 true,eS1 27 (some ⟨C,0,none⟩) 1 1] [yG 4 24 t y,yG 3 24 s x] ?_
    refine xqc 40 [.slice (some ⟨C,0,none⟩) 1 1] 28 (fun _:Unit=>.bool true) _ (fun w R Q=>(Zf3 C t y _ Q.2 (by omega)).mono (fun _ _ h=>Zag h (by rw[uQ M]))) fun i=>?_
    refine xq 10 [yB 38 false] [] ?_
    refine xe (Zaa (xb (Zal ?_)))
    refine yP [yJ 2 b,(3,.p 3 0),(4,.p 4 0),yB 6 false] [yG 4 24 t y,yG 3 24 s x] (fun w=>Glob w) (fun w Q=>Q.1.1.1.1.1.1) ?_
    exact Zb6 ⟨(),rfl,rfl,(by omega),(by omega)⟩
   refine Zab (xq 2 [(15,.v (yS s x)),(16,.v (yS t y))] [] ?_)
   refine yD (d:=17) (fun a:Nat=>.slice (some ⟨a,0,none⟩) 2 2) (fun a l=>Blk 24 l a #[.string s,.int .i64 x,.string t,.int .i64 y]) (fun w R Q=>ZaZ (t:=108) (e:=24) (n:=2) (sz:=2) (z:=.agg #[.string ⟨#[]⟩,.int .i64 0]) (parts:=#[(0,Operand.tmp 15),(1,Operand.tmp 16)]) (by kernel_rfl) (by kernel_rfl) (by kernel_rfl) (by kernel_rfl) (by kernel_rfl) (by kernel_rfl)) fun D=>?_
   refine xr 0 [yJ 2 b,(3,.p 3 0),(4,.p 4 0),yB 6 false,eS1 17 (some ⟨D,0,none⟩) 2 2] [yG 4 24 t y,yG 3 24 s x] ?_
   refine xqc 51 [.slice (some ⟨D,0,none⟩) 2 2] 18 (fun _:Unit=>.bool true) _ (fun w R Q=>(Zgi D s t x y _ Q.2).mono (fun _ _ h=>Zag h (by rw[uQ m]))) fun i=>?_
   refine xq 3 [yB 20 false,(21,.v (yS s x))] [] ?_
   refine yD (d:=22) (fun a:Nat=>.slice (some ⟨a,0,none⟩) 1 1) (fun a l=>Blk 24 l a #[.string s,.int .i64 x]) (fun w R Q=>ZaZ (t:=108) (e:=24) (n:=1) (sz:=2) (z:=.agg #[.string ⟨#[]⟩,.int .i64 0]) (parts:=#[(0,Operand.tmp 21)]) (by kernel_rfl) (by kernel_rfl) (by kernel_rfl) (by kernel_rfl) (by kernel_rfl) (by kernel_rfl)) fun E=>?_
   refine xr 0 [yJ 2 b,(3,.p 3 0),(4,.p 4 0),yB 6 false,yB 20 false,eS1 22 (some ⟨E,0,none⟩) 1 1] [yG 4 24 t y,yG 3 24 s x] ?_
   refine xqc 40 [.slice (some ⟨E,0,none⟩) 1 1] 23 (fun _:Unit=>.bool false) _ (fun w R Q=>(Zf3 E s x _ Q.2 (by omega)).mono (fun _ _ h=>Zag h (by rw[uJ q]))) fun i=>?_
   refine xq 3 [yB 25 true,(26,.v (yS t y))] [] ?_
   refine yD (d:=27) (fun a:Nat=>.slice (some ⟨a,0,none⟩) 1 1) (fun a l=>Blk 24 l a #[.string t,.int .i64 y]) (fun w R Q=>ZaZ (t:=108) (e:=24) (n:=1) (sz:=2) (z:=.agg #[.string ⟨#[]⟩,.int .i64 0]) (parts:=#[(0,Operand.tmp 26)]) (by kernel_rfl) (by kernel_rfl) (by kernel_rfl) (by kernel_rfl) (by kernel_rfl) (by kernel_rfl)) fun F=>?_
   refine xr 0 [yJ 2 b,(3,.p 3 0),(4,.p 4 0),yB 6 false,yB 20 false,yB 25 true,eS1 27 (some ⟨F,0,none⟩) 1 1] [yG 4 24 t y,yG 3 24 s x] ?_
   refine xqc 40 [.slice (some ⟨F,0,none⟩) 1 1] 28 (fun _:Unit=>.bool false) _ (fun w R Q=>(Zf3 F t y _ Q.2 (by omega)).mono (fun _ _ h=>Zag h (by rw[uJ M]))) fun i=>?_
   refine xq 10 [yB 38 ((x:Int) != y)] [] ?_
   refine xe (Zaa ?_)
   refine yQ (((x:Int) != y)) (fun o=>?_) fun o=>?_
   ·have G:=Zc9 o
    refine Zac (Zab ?_)
    refine xqc 14 [] 39 (fun _:Unit=>.bool true) _ (fun w R Q=>yN (ZfR _ Q.1.1.1.1.1.1)) fun i=>?_
    refine xq 1 [yB 6 true] [] ?_
    refine xe (Zaa (Zaf (Zae ?_)))
    refine yR (.bool true) fun w' R Q=>?_
    exact⟨rfl,R⟩
   have G:=Zda o
   refine Zal ?_
   refine yP [yJ 2 b,(3,.p 3 0),(4,.p 4 0),yB 6 false] [yG 4 24 t y,yG 3 24 s x] (fun w=>Glob w) (fun w Q=>Q.1.1.1.1.1.1) ?_
   exact Zb6 ⟨(),rfl,rfl,(by omega),(by omega)⟩
  refine Zab (xq 2 [(15,.v (yS s x)),(16,.v (yS t y))] [] ?_)
  refine yD (d:=17) (fun a:Nat=>.slice (some ⟨a,0,none⟩) 2 2) (fun a l=>Blk 24 l a #[.string s,.int .i64 x,.string t,.int .i64 y]) (fun w R Q=>ZaZ (t:=108) (e:=24) (n:=2) (sz:=2) (z:=.agg #[.string ⟨#[]⟩,.int .i64 0]) (parts:=#[(0,Operand.tmp 15),(1,Operand.tmp 16)]) (by kernel_rfl) (by kernel_rfl) (by kernel_rfl) (by kernel_rfl) (by kernel_rfl) (by kernel_rfl)) fun H=>?_
  refine xr 0 [yJ 2 b,(3,.p 3 0),(4,.p 4 0),yB 6 false,eS1 17 (some ⟨H,0,none⟩) 2 2] [yG 4 24 t y,yG 3 24 s x] ?_
  refine xqc 51 [.slice (some ⟨H,0,none⟩) 2 2] 18 (fun _:Unit=>.bool false) _ (fun w R Q=>(Zgi H s t x y _ Q.2).mono (fun _ _ h=>Zag h (by rw[uJ m]))) fun i=>?_
  refine xq 20 [yB 38 true] [] ?_
  refine xe (Zaa (xa (Zac (Zab ?_))))
  refine xqc 14 [] 39 (fun _:Unit=>.bool true) _ (fun w R Q=>yN (ZfR _ Q.1.1)) fun i=>?_
  refine xq 1 [yB 6 true] [] ?_
  refine xe (Zaa (Zaf (Zae ?_)))
  refine yR (.bool true) fun w' R Q=>?_
  exact⟨rfl,R⟩
 rintro V W ⟨Z,rfl,rfl,K,L⟩
 refine Zac ?_
 have hs:(bytes s).length≤200:=by rw[Zaq];exact K
 have a0:(bytes t).length≤200:=by rw[Zaq];exact L
 obtain⟨c,N⟩:=yE (binR ZcN (bytes s) (bytes t) x y b)
 obtain⟨f,O⟩:=yE (binR Zck (bytes s) (bytes t) x y b)
 obtain⟨g,P⟩:=yE (binR ZcM (bytes s) (bytes t) x y b)
 obtain⟨j,S⟩:=yE (binR ZcP (bytes s) (bytes t) x y b)
 obtain⟨k,T⟩:=yE (sqF (bytes s) x b)
 refine Zab (xq 3 [(41,.v (yS s x)),(42,.v (yS t y)),yJ 43 b] [] ?_)
 refine xqc 44 [yS s x, yS t y,.int .i64 b] 44 (fun _:Unit=>.tuple #[yS ⟨(frT c).toArray⟩ (frE c),.int .i64 c.err]) _ (fun w R Q=>yN ((show Calls _ _ _ _ (ZbQ _ c) by rw[←N];exact Zt4 s t x y b _ Q (by omega) (by omega)))) fun i=>?_
 refine xq 6 [(7,.p 7 0),yJ 8 c.err] [yG 7 24 ⟨(frT c).toArray⟩ (frE c)] ?_
 refine xe (Zaa (Zac (Zab (xq 3 [(48,.v (yS s x)),(49,.v (yS t y)),yJ 50 b] [] ?_))))
 refine xqc 52 [.int .u8 42, yS s x, yS t y,.int .i64 b] 51 (fun _:Unit=>.tuple #[yS ⟨(frT c).toArray⟩ (frE c),.int .i64 c.err]) _ (fun w R Q=>yN ((show Calls _ _ _ _ (ZbQ _ c) by rw[←N];exact Zrr s t x y b _ (by omega) (by omega)))) fun i=>?_
 refine xq 6 [(9,.p 9 0),yJ 10 c.err] [yG 9 24 ⟨(frT c).toArray⟩ (frE c)] ?_
 refine xe (Zaa (Zac (Zab (xq 3 [(55,.v (yS s x)),(56,.v (yS t y)),yJ 57 b] [] ?_))))
 refine xqc 45 [yS s x, yS t y,.int .i64 b] 58 (fun _:Unit=>.tuple #[yS ⟨(frT f).toArray⟩ (frE f),.int .i64 f.err]) _ (fun w R Q=>yN ((show Calls _ _ _ _ (ZbQ _ f) by rw[←O];exact Zt5 s t x y b _ Q.1.1 (by omega) (by omega)))) fun i=>?_
 refine xq 6 [(11,.p 11 0),yJ 12 f.err] [yG 11 24 ⟨(frT f).toArray⟩ (frE f)] ?_
 refine xe (Zaa (Zac (Zab (xq 3 [(62,.v (yS s x)),(63,.v (yS t y)),yJ 64 b] [] ?_))))
 refine xqc 52 [.int .u8 47, yS s x, yS t y,.int .i64 b] 65 (fun _:Unit=>.tuple #[yS ⟨(frT f).toArray⟩ (frE f),.int .i64 f.err]) _ (fun w R Q=>yN ((show Calls _ _ _ _ (ZbQ _ f) by rw[←O];exact Zru s t x y b _ (by omega) (by omega)))) fun i=>?_
 refine xq 6 [(13,.p 13 0),yJ 14 f.err] [yG 13 24 ⟨(frT f).toArray⟩ (frE f)] ?_
 refine xe (Zaa (Zac (Zac (Zab (xq 4 [(68,.v (yS ⟨(frT c).toArray⟩ (frE c))),yJ 69 c.err,(70,.v (yS ⟨(frT c).toArray⟩ (frE c))),yJ 71 c.err] [] ?_)))))
 refine xqc 17 [yS ⟨(frT c).toArray⟩ (frE c),.int .i64 c.err, yS ⟨(frT c).toArray⟩ (frE c),.int .i64 c.err] 72 (fun _:Unit=>.bool true) _ (fun w R Q=>yN (Zfk _ _ _ _)) fun i=>?_
 refine xq 6 [yB 74 false,(75,.v (yS ⟨(frT f).toArray⟩ (frE f))),yJ 76 f.err,(77,.v (yS ⟨(frT f).toArray⟩ (frE f))),yJ 78 f.err] [] ?_
 refine xqc 17 [yS ⟨(frT f).toArray⟩ (frE f),.int .i64 f.err, yS ⟨(frT f).toArray⟩ (frE f),.int .i64 f.err] 79 (fun _:Unit=>.bool true) _ (fun w R Q=>yN (Zfk _ _ _ _)) fun i=>?_
 refine xq 2 [yB 81 false] [] ?_
 refine xe (Zaa (xb (Zal (Zaa (Zac (Zac ?_))))))
 by_cases U:Zgh s x∧Zgh t y
 ·obtain⟨⟨_,b0,c0⟩,⟨_,d0,e0⟩⟩:=id U
  refine Zab (xq 2 [(82,.v (yS s x)),(83,.v (yS t y))] [] ?_)
  refine yD (d:=84) (fun a:Nat=>.slice (some ⟨a,0,none⟩) 2 2) (fun a l=>Blk 24 l a #[.string s,.int .i64 x,.string t,.int .i64 y]) (fun w R Q=>ZaZ (t:=108) (e:=24) (n:=2) (sz:=2) (z:=.agg #[.string ⟨#[]⟩,.int .i64 0]) (parts:=#[(0,Operand.tmp 82),(1,Operand.tmp 83)]) (by kernel_rfl) (by kernel_rfl) (by kernel_rfl) (by kernel_rfl) (by kernel_rfl) (by kernel_rfl)) fun I=>?_
  refine xr 0 [yJ 2 b,(3,.p 3 0),(4,.p 4 0),yB 6 false,(7,.p 7 0),yJ 8 c.err,(9,.p 9 0),yJ 10 c.err,(11,.p 11 0),yJ 12 f.err,(13,.p 13 0),yJ 14 f.err,eS1 84 (some ⟨I,0,none⟩) 2 2] [yG 13 24 ⟨(frT f).toArray⟩ (frE f),yG 11 24 ⟨(frT f).toArray⟩ (frE f),yG 9 24 ⟨(frT c).toArray⟩ (frE c),yG 7 24 ⟨(frT c).toArray⟩ (frE c),yG 4 24 t y,yG 3 24 s x] ?_
  refine xqc 40 [.slice (some ⟨I,0,none⟩) 2 2] 85 (fun _:Unit=>.bool true) _ (fun w R Q=>(ZmO I s t x y _ Q.2).mono (fun _ _ h=>Zag h (by rw[uQ U]))) fun i=>?_
  refine xq 1 [yB 86 false] [] ?_
  refine xe (Zaa (xb (Zal (Zaa (Zac (Zab (xq 3 [(89,.v (yS s x)),(90,.v (yS t y)),yJ 91 b] [] ?_)))))))
  refine xqc 46 [yS s x, yS t y,.int .i64 b] 92 (fun _:Unit=>.tuple #[yS ⟨(frT g).toArray⟩ (frE g),.int .i64 g.err]) _ (fun w R Q=>yN ((show Calls _ _ _ _ (ZbQ _ g) by rw[←P];exact Zt3 s t x y b _ Q.1.1.1.1.1.1.1.1 (by omega) (by omega)))) fun i=>?_
  refine xq 5 [yJ 8 g.err] [yG 7 24 ⟨(frT g).toArray⟩ (frE g)] ?_
  refine xe (Zaa (Zac (Zab (xq 3 [(96,.v (yS s x)),(97,.v (yS t y)),yJ 98 b] [] ?_))))
  refine xqc 52 [.int .u8 43, yS s x, yS t y,.int .i64 b] 99 (fun _:Unit=>.tuple #[yS ⟨(frT g).toArray⟩ (frE g),.int .i64 g.err]) _ (fun w R Q=>yN ((show Calls _ _ _ _ (ZbQ _ g) by rw[←P];exact Zrs s t x y b _ (by omega) (by omega) (by omega) (by omega)))) fun i=>?_
  refine xq 5 [yJ 10 g.err] [yG 9 24 ⟨(frT g).toArray⟩ (frE g)] ?_
  refine xe (Zaa (Zac (Zab (xq 3 [(103,.v (yS s x)),(104,.v (yS t y)),yJ 105 b] [] ?_))))
  refine xqc 53 [yS s x, yS t y,.int .i64 b] 106 (fun _:Unit=>.tuple #[yS ⟨(frT j).toArray⟩ (frE j),.int .i64 j.err]) _ (fun w R Q=>yN ((show Calls _ _ _ _ (ZbQ _ j) by rw[←S];exact Zuc s t x y b _ Q.1.1.1.1.1.1.1.1.1.1 (by omega) (by omega)))) fun i=>?_
  refine xq 5 [yJ 12 j.err] [yG 11 24 ⟨(frT j).toArray⟩ (frE j)] ?_
  refine xe (Zaa (Zac (Zab (xq 3 [(110,.v (yS s x)),(111,.v (yS t y)),yJ 112 b] [] ?_))))
  refine xqc 52 [.int .u8 45, yS s x, yS t y,.int .i64 b] 113 (fun _:Unit=>.tuple #[yS ⟨(frT j).toArray⟩ (frE j),.int .i64 j.err]) _ (fun w R Q=>yN ((show Calls _ _ _ _ (ZbQ _ j) by rw[←S];exact Zrt s t x y b _ (by omega) (by omega) (by omega) (by omega)))) fun i=>?_
  refine xq 5 [yJ 14 j.err] [yG 13 24 ⟨(frT j).toArray⟩ (frE j)] ?_
  refine xe (Zaa (Zac (Zac (Zab (xq 4 [(116,.v (yS ⟨(frT g).toArray⟩ (frE g))),yJ 117 g.err,(118,.v (yS ⟨(frT g).toArray⟩ (frE g))),yJ 119 g.err] [] ?_)))))
  refine xqc 17 [yS ⟨(frT g).toArray⟩ (frE g),.int .i64 g.err, yS ⟨(frT g).toArray⟩ (frE g),.int .i64 g.err] 120 (fun _:Unit=>.bool true) _ (fun w R Q=>yN (Zfk _ _ _ _)) fun i=>?_
  refine xq 6 [yB 122 false,(123,.v (yS ⟨(frT j).toArray⟩ (frE j))),yJ 124 j.err,(125,.v (yS ⟨(frT j).toArray⟩ (frE j))),yJ 126 j.err] [] ?_
  refine xqc 17 [yS ⟨(frT j).toArray⟩ (frE j),.int .i64 j.err, yS ⟨(frT j).toArray⟩ (frE j),.int .i64 j.err] 127 (fun _:Unit=>.bool true) _ (fun w R Q=>yN (Zfk _ _ _ _)) fun i=>?_
  refine xq 2 [yB 129 false] [] ?_
  refine xe (Zaa (xb (Zal (Zaa (Zac (Zab (xr 2 [yJ 2 b,(3,.p 3 0),yB 6 false,(7,.p 7 0),yJ 8 g.err,(9,.p 9 0),yJ 10 g.err,(131,.v (yS s x)),yJ 132 b] [yG 9 24 ⟨(frT g).toArray⟩ (frE g),yG 7 24 ⟨(frT g).toArray⟩ (frE g),yG 3 24 s x] ?_)))))))
  refine xqc 49 [yS s x,.int .i64 b] 133 (fun _:Unit=>.tuple #[yS ⟨(frT k).toArray⟩ (frE k),.int .i64 k.err]) _ (fun w R Q=>yN ((show Calls _ _ _ _ (ZbQ _ k) by rw[←T];exact Ztb s x b _ Q.1.1.1.1.1.1.1.1.1.1.1.1.1.1 (by omega)))) fun i=>?_
  refine xq 5 [yJ 8 k.err] [yG 7 24 ⟨(frT k).toArray⟩ (frE k)] ?_
  refine xe (Zaa (Zac (Zab (xq 3 [(137,.v (yS s x)),(138,.v (yS ⟨#[48]⟩ 0)),yJ 139 b] [] ?_))))
  refine xqc 52 [.int .u8 115, yS s x, yS ⟨#[48]⟩ 0,.int .i64 b] 140 (fun _:Unit=>.tuple #[yS ⟨(frT k).toArray⟩ (frE k),.int .i64 k.err]) _ (fun w R Q=>yN ((show Calls _ _ _ _ (ZbQ _ k) by rw[←T];exact Zpn s x b _ (by omega) (by omega) (by omega)))) fun i=>?_
  refine xq 5 [yJ 10 k.err] [yG 9 24 ⟨(frT k).toArray⟩ (frE k)] ?_
  refine xe (Zaa (Zac (Zab ?_)))
  refine xqc 14 [] 143 (fun _:Unit=>.bool true) _ (fun w R Q=>yN (ZfR _ Q.1.1.1.1.1.1.1.1.1.1.1.1.1.1.1.1)) fun i=>?_
  refine xq 5 [yB 144 true,(145,.v (yS ⟨(frT k).toArray⟩ (frE k))),yJ 146 k.err,(147,.v (yS ⟨(frT k).toArray⟩ (frE k))),yJ 148 k.err] [] ?_
  refine xqc 17 [yS ⟨(frT k).toArray⟩ (frE k),.int .i64 k.err, yS ⟨(frT k).toArray⟩ (frE k),.int .i64 k.err] 149 (fun _:Unit=>.bool true) _ (fun w R Q=>yN (Zfk _ _ _ _)) fun i=>?_
  refine xq 2 [yB 6 true] [] ?_
  refine xe (Zaa (Zaf ?_))
  refine yR (.bool true) fun w' R Q=>?_
  exact⟨rfl,R⟩
 refine Zab (xq 2 [(82,.v (yS s x)),(83,.v (yS t y))] [] ?_)
 refine yD (d:=84) (fun a:Nat=>.slice (some ⟨a,0,none⟩) 2 2) (fun a l=>Blk 24 l a #[.string s,.int .i64 x,.string t,.int .i64 y]) (fun w R Q=>ZaZ (t:=108) (e:=24) (n:=2) (sz:=2) (z:=.agg #[.string ⟨#[]⟩,.int .i64 0]) (parts:=#[(0,Operand.tmp 82),(1,Operand.tmp 83)]) (by kernel_rfl) (by kernel_rfl) (by kernel_rfl) (by kernel_rfl) (by kernel_rfl) (by kernel_rfl)) fun J=>?_
 refine xr 0 [yJ 2 b,(3,.p 3 0),(4,.p 4 0),yB 6 false,(7,.p 7 0),yJ 8 c.err,(9,.p 9 0),yJ 10 c.err,(11,.p 11 0),yJ 12 f.err,(13,.p 13 0),yJ 14 f.err,eS1 84 (some ⟨J,0,none⟩) 2 2] [yG 13 24 ⟨(frT f).toArray⟩ (frE f),yG 11 24 ⟨(frT f).toArray⟩ (frE f),yG 9 24 ⟨(frT c).toArray⟩ (frE c),yG 7 24 ⟨(frT c).toArray⟩ (frE c),yG 4 24 t y,yG 3 24 s x] ?_
 refine xqc 40 [.slice (some ⟨J,0,none⟩) 2 2] 85 (fun _:Unit=>.bool false) _ (fun w R Q=>(ZmO J s t x y _ Q.2).mono (fun _ _ h=>Zag h (by rw[uJ U]))) fun i=>?_
 refine xq 1 [yB 86 true] [] ?_
 refine xe (Zaa (xa (Zac (Zab ?_))))
 refine xqc 14 [] 87 (fun _:Unit=>.bool true) _ (fun w R Q=>yN (ZfR _ Q.1.1.1.1.1.1.1.1)) fun i=>?_
 refine xq 1 [yB 6 true] [] ?_
 refine xe (Zaa (Zaf (Zae ?_)))
 refine yR (.bool true) fun w' R Q=>?_
 exact⟨rfl,R⟩
end Go.Proofs.YtklpdkpcocnglaaGreatDoor
