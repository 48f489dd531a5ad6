/-
 My texts RvL put together.
-/
import Derived.Test.YthlipnahcbcjkaaGreatDoorM17
import Derived.Test.YthlipnahcbcjkaaGreatDoorM16
import Derived.Test.YthlipnahcbcjkaaGreatDoorM27
import Derived.Test.YthlipnahcbcjkaaGreatDoorM19
import Derived.Test.YthlipnahcbcjkaaGreatDoorM31
set_option maxRecDepth 100000
namespace Go.Proofs.YthlipnahcbcjkaaGreatDoor
open Go.RowKit
theorem Zuw (n:Int) (w:World) (h1 : -9223372036854775808≤n) (h2:n≤9223372036854775807):Calls Tryz.prog 39 #[.int .i64 n] w (Zex w ((n:Int):Rat)) :=
 (Zuv n w h1 h2).mono (fun _ _ ⟨_,_,_,_,e,hN,Q⟩=>⟨_,e,Zaz.whole hN,Q⟩)
theorem Zrg {a:Value} {n:Int} {w:World} (ha:Zaz w a ((n:Int):Rat)) (h1 : -9223372036854775808≤n) (h2:n≤9223372036854775807):Calls Tryz.prog 29 #[a] w (RetV w (.string ⟨(Lib.itoa n).toArray⟩)):=by
 have h:=ZmF (k:=20) ha ⟨by show n.natAbs < 10 ^ 20; omega,by show 1 < 10 ^ 20; decide⟩ (by decide)
 rwa [ZjO] at h
theorem Zi1 (s:ByteArray) (n:Int) (w:World) (hg:Glob w) (he:ErrG w) (hn1 : -9223372036854775808≤n) (hn2:n≤9223372036854775807) :
 Calls Tryz.prog 8 #[.string s, .int .i64 n] w (RetV w (.bool true)):=by
 obtain ⟨v,k,hI⟩:∃ v k,i64F (bytes s)=(v,k):=⟨_,_,rfl⟩
 obtain ⟨b,hb⟩:∃ b,(ZaI (bytes s)).isSome=b:=⟨_,rfl⟩
 have hL:(bytes ⟨(Lib.itoa n).toArray⟩).length≤570:=Nat.le_trans (ZoJ (k:=20) (by decide) (by omega)) (by decide)
 refine ZaB (Φ:=fun w=>(Glob w∧ErrG w)) Tryz.func8 rfl (by kernel_rfl) (fun w' hf=>⟨hg.ext hf,he.ext hf⟩) ?_
 refine Zac (Zab (xr 1 [(0, .v (.string s)),(1, .v (.int .i64 n)),(4, .v (.bool false))] [] ?_))
 refine xe (Zaa (Zac (Zac (Zab (xr 3 [(0, .v (.string s)),(1, .v (.int .i64 n)),(4, .v (.bool false)),(14, .v (.bool (decide (((s).size:Int) > 400))))] [] ?_)))))
 refine xe (Zaa ?_)
 refine ZcF ((decide (((s).size:Int) > 400))) (by kernel_rfl) (fun hb10=>?_) (fun hb10=>?_)
 ·refine Zac (Zab ?_)
  refine xc 21 [] 15 (fun _:Unit=>.bool true) _ (fun w R Q=>(Zfw _ Q.1).mono (fun _ _ h=>Zae h rfl)) (fun xx=>?_)
  refine xr 1 [(0, .v (.string s)),(1, .v (.int .i64 n)),(4, .v (.bool true))] [] ?_
  refine xe (Zaa (Zan (Zao ?_)))
  refine Zag (v:=.bool true) (by kernel_rfl) (fun w' R Q=>?_)
  exact ⟨rfl,R⟩
 ·have L:(bytes s).length≤400:=by rw [Zah]; have:=of_decide_eq_false hb10; omega
  refine ZaA (Zaa (Zac (Zab (xr 1 [(0, .v (.string s)),(1, .v (.int .i64 n)),(4, .v (.bool false)),(17, .v (.string s))] [] ?_))))
  refine xc 51 [.string s] 18 (fun _:Unit=>.tuple #[.int .i64 v, .bool k]) _ (fun w R Q=>(ZkW s _ Q.2 (by omega)).mono (fun _ _ h=>Zae h (by rw [hI]))) (fun xx=>?_)
  refine xr 5 [(0, .v (.string s)),(1, .v (.int .i64 n)),(4, .v (.bool false)),(5, .v (.int .i64 v)),(6, .v (.bool k))] [] ?_
  refine xe (Zaa (Zac (Zab (xr 1 [(0, .v (.string s)),(1, .v (.int .i64 n)),(4, .v (.bool false)),(5, .v (.int .i64 v)),(6, .v (.bool k)),(22, .v (.string s))] [] ?_))))
  refine xc 52 [.string s] 23 (fun _:Unit=>.tuple #[.int .i64 v, .bool k]) _ (fun w R Q=>(ZpM s _ (by rw [← Zah]; omega)).mono (fun _ _ h=>Zae h (by rw [hI]))) (fun xx=>?_)
  refine xr 5 [(0, .v (.string s)),(1, .v (.int .i64 n)),(4, .v (.bool false)),(5, .v (.int .i64 v)),(6, .v (.bool k)),(7, .v (.int .i64 v)),(8, .v (.bool k))] [] ?_
  refine xe (Zaa (Zac (Zab (xr 1 [(0, .v (.string s)),(1, .v (.int .i64 n)),(4, .v (.bool false)),(5, .v (.int .i64 v)),(6, .v (.bool k)),(7, .v (.int .i64 v)),(8, .v (.bool k)),(26, .v (.int .i64 n))] [] ?_))))
  refine xc 53 [.int .i64 n] 27 (fun _:Unit=>.string ⟨(Lib.itoa n).toArray⟩) _ (fun w R Q=>(Zjd n _ Q.1.1.1 hn1 hn2).mono (fun _ _ h=>Zae h (rfl))) (fun xx=>?_)
  refine xr 1 [(0, .v (.string s)),(1, .v (.int .i64 n)),(4, .v (.bool false)),(5, .v (.int .i64 v)),(6, .v (.bool k)),(7, .v (.int .i64 v)),(8, .v (.bool k)),(9, .v (.string ⟨(Lib.itoa n).toArray⟩))] [] ?_
  refine xe (Zaa (Zac (Zab (xr 1 [(0, .v (.string s)),(1, .v (.int .i64 n)),(4, .v (.bool false)),(5, .v (.int .i64 v)),(6, .v (.bool k)),(7, .v (.int .i64 v)),(8, .v (.bool k)),(9, .v (.string ⟨(Lib.itoa n).toArray⟩)),(29, .v (.string ⟨(Lib.itoa n).toArray⟩))] [] ?_))))
  refine xc 51 [.string ⟨(Lib.itoa n).toArray⟩] 30 (fun _:Unit=>.tuple #[.int .i64 n, .bool true]) _ (fun w R Q=>(ZkW ⟨(Lib.itoa n).toArray⟩ _ Q.1.1.1.2 hL).mono (fun _ _ h=>Zae h (by rw [show bytes ⟨(Lib.itoa n).toArray⟩=Lib.itoa n from rfl,Zse n hn1 hn2]))) (fun xx=>?_)
  refine xr 5 [(0, .v (.string s)),(1, .v (.int .i64 n)),(4, .v (.bool false)),(5, .v (.int .i64 v)),(6, .v (.bool k)),(7, .v (.int .i64 v)),(8, .v (.bool k)),(9, .v (.string ⟨(Lib.itoa n).toArray⟩)),(10, .v (.int .i64 n)),(11, .v (.bool true))] [] ?_
  refine xe (Zaa (Zac (Zab (xr 1 [(0, .v (.string s)),(1, .v (.int .i64 n)),(4, .v (.bool false)),(5, .v (.int .i64 v)),(6, .v (.bool k)),(7, .v (.int .i64 v)),(8, .v (.bool k)),(9, .v (.string ⟨(Lib.itoa n).toArray⟩)),(10, .v (.int .i64 n)),(11, .v (.bool true)),(33, .v (.string s))] [] ?_))))
  refine xc 54 [.string s] 34 (fun _:Unit=>.bool b) _ (fun w R Q=>(Zqx s _ Q.1.1.1.1.1 (by omega)).mono (fun _ _ h=>Zae h (by rw [hb]))) (fun xx=>?_)
  refine xr 1 [(1, .v (.int .i64 n)),(4, .v (.bool false)),(5, .v (.int .i64 v)),(6, .v (.bool k)),(7, .v (.int .i64 v)),(8, .v (.bool k)),(9, .v (.string ⟨(Lib.itoa n).toArray⟩)),(10, .v (.int .i64 n)),(11, .v (.bool true)),(34, .v (.bool b)),(35, .v (.string s))] [] ?_
  refine xc 55 [.string s] 36 (fun _:Unit=>.bool b) _ (fun w R Q=>(ZpL s _ (by rw [← Zah]; omega)).mono (fun _ _ h=>Zae h (by rw [hb]))) (fun xx=>?_)
  refine xr 1 [(1, .v (.int .i64 n)),(4, .v (.bool false)),(5, .v (.int .i64 v)),(6, .v (.bool k)),(7, .v (.int .i64 v)),(8, .v (.bool k)),(9, .v (.string ⟨(Lib.itoa n).toArray⟩)),(10, .v (.int .i64 n)),(11, .v (.bool true)),(37, .v (.bool (b == b)))] [] ?_
  rw [(beq_self_eq_true b)]
  refine xr 4 [(1, .v (.int .i64 n)),(4, .v (.bool false)),(6, .v (.bool k)),(8, .v (.bool k)),(9, .v (.string ⟨(Lib.itoa n).toArray⟩)),(10, .v (.int .i64 n)),(11, .v (.bool true)),(38, .v (.bool true)),(41, .v (.bool ((v:Int) == v)))] [] ?_
  rw [ZjH]
  refine xr 5 [(1, .v (.int .i64 n)),(4, .v (.bool false)),(9, .v (.string ⟨(Lib.itoa n).toArray⟩)),(10, .v (.int .i64 n)),(11, .v (.bool true)),(43, .v (.bool true)),(46, .v (.bool (k == k)))] [] ?_
  rw [(beq_self_eq_true k)]
  refine xr 4 [(1, .v (.int .i64 n)),(4, .v (.bool false)),(10, .v (.int .i64 n)),(11, .v (.bool true)),(48, .v (.bool true)),(49, .v (.string ⟨(Lib.itoa n).toArray⟩)),(50, .v (.int .i64 n))] [] ?_
  refine xc 39 [.int .i64 n] 51 ZaJ _ (fun w R Q=>(Zuw n _ hn1 hn2).mono (fun _ _=>ZbE)) (fun xx=>?_)
  obtain ⟨s11,A11,l11,c11,t11,B11,m11,d11⟩:=xx
  refine xr 0 [(1, .v (.int .i64 n)),(4, .v (.bool false)),(10, .v (.int .i64 n)),(11, .v (.bool true)),(48, .v (.bool true)),(49, .v (.string ⟨(Lib.itoa n).toArray⟩)),eR4 51 s11 A11 l11 c11 t11 B11 m11 d11] [] ?_
  refine xc 29 [vR4 s11 A11 l11 c11 t11 B11 m11 d11] 52 (fun _:Unit=>.string ⟨(Lib.itoa n).toArray⟩) _ (fun w R Q=>(Zrg Q.2 hn1 hn2).mono (fun _ _ h=>Zae h rfl)) (fun xx=>?_)
  refine xr 1 [(1, .v (.int .i64 n)),(4, .v (.bool false)),(10, .v (.int .i64 n)),(11, .v (.bool true)),(48, .v (.bool true)),(53, .v (.bool ((⟨(Lib.itoa n).toArray⟩:ByteArray).toList == (⟨(Lib.itoa n).toArray⟩:ByteArray).toList)))] [] ?_
  rw [ZcP]
  refine xr 5 [(4, .v (.bool false)),(11, .v (.bool true)),(55, .v (.bool true)),(58, .v (.bool ((n:Int) == n)))] [] ?_
  rw [ZjH]
  refine xr 5 [(4, .v (.bool false)),(63, .v (.bool true))] [] ?_
  refine xc 21 [] 64 (fun _:Unit=>.bool true) _ (fun w R Q=>(Zfw _ Q.1.1.1.1.1.1.1.1.1).mono (fun _ _ h=>Zae h rfl)) (fun xx=>?_)
  refine xr 2 [(4, .v (.bool true))] [] ?_
  refine xe (Zaa (Zan ?_))
  refine Zag (v:=.bool true) (by kernel_rfl) (fun w' R Q=>?_)
  exact ⟨rfl,R⟩
end Go.Proofs.YthlipnahcbcjkaaGreatDoor
