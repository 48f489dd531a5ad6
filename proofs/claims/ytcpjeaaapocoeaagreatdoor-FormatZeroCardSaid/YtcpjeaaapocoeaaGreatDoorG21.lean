/-
 My texts Nr, Ng, Nf, Nt, Nd, Nrd, RdK, Po, Pw2, Pv, Wr, Wr2, Rpo put together.
-/
import Derived.Test.YtcpjeaaapocoeaaGreatDoorG15
import Derived.Test.YtcpjeaaapocoeaaGreatDoorG20
import Derived.Test.YtcpjeaaapocoeaaGreatDoorG14
import Derived.Test.YtcpjeaaapocoeaaGreatDoorG19
set_option maxRecDepth 100000
namespace Go.Proofs.YtcpjeaaapocoeaaGreatDoor
open Go.RowKit
end Go.Proofs.YtcpjeaaapocoeaaGreatDoor

namespace Go.Proofs.YtcpjeaaapocoeaaGreatDoor
open Go.RowKit
end Go.Proofs.YtcpjeaaapocoeaaGreatDoor

namespace Go.Proofs.YtcpjeaaapocoeaaGreatDoor
open Go.RowKit
end Go.Proofs.YtcpjeaaapocoeaaGreatDoor

namespace Go.Proofs.YtcpjeaaapocoeaaGreatDoor
open Go.RowKit
end Go.Proofs.YtcpjeaaapocoeaaGreatDoor

namespace Go.Proofs.YtcpjeaaapocoeaaGreatDoor
open Go.RowKit
end Go.Proofs.YtcpjeaaapocoeaaGreatDoor

namespace Go.Proofs.YtcpjeaaapocoeaaGreatDoor
open Go.RowKit
end Go.Proofs.YtcpjeaaapocoeaaGreatDoor

namespace Go.Proofs.YtcpjeaaapocoeaaGreatDoor
open Go.RowKit
theorem ZlW {α:Type} (o:Option α):o=none∨∃ x,o=some x:=by cases o; exact Or.inl rfl; exact Or.inr ⟨_,rfl⟩
section
variable {w w':World} {e:Ending} {l:List UInt8}
theorem Zg5 (h:Zff w l e w') (hr:Zap l=none):Zba (fun x:ShQ=>.tuple #[Zfj x, .bool false]) (fun x w=>ZaU w (Zfj x) 0) w e w':=by
 obtain ⟨v,ok,rfl,Q,⟨rfl,q,h1,h2⟩ | ⟨rfl,h1,h2⟩⟩:=h
 ·rw [hr] at h1; cases h1
 ·obtain ⟨s,A,l,c,t,B,m,d,rfl⟩:=h2.shp
  exact ⟨(s,A,l,c,t,B,m,d),rfl,Q,boxn Q (fun S w'' hS hF=>h2.nrb hS hF)⟩
theorem Zg6 {q:Rat} (h:Zff w l e w') (hr:Zap l=some q):Zba (fun x:ShQ=>.tuple #[Zfj x, .bool true]) (fun x w=>ZaU w (Zfj x) q) w e w':=by
 obtain ⟨v,ok,rfl,Q,⟨rfl,q,h1,h2⟩ | ⟨rfl,h1,h2⟩⟩:=h
 ·rw [hr] at h1; injection h1 with h1; subst h1
  obtain ⟨s,A,l,c,t,B,m,d,rfl⟩:=h2.shp
  exact ⟨(s,A,l,c,t,B,m,d),rfl,Q,boxn Q (fun S w'' hS hF=>h2.nrb hS hF)⟩
 ·rw [hr] at h1; cases h1
end
end Go.Proofs.YtcpjeaaapocoeaaGreatDoor

namespace Go.Proofs.YtcpjeaaapocoeaaGreatDoor
open Go.RowKit
def Zcp (w:World) (ok:Bool) (e:Ending) (w':World):Prop:=∃ (x0 x1 x2 x3 x4 x5:Int) (s:Bool) (A:Option Addr) (l c:Nat) (t:Bool) (B:Option Addr) (m d:Nat),
 e=.returned (.tuple #[.agg #[.int .i64 x0, .int .i64 x1, .int .i64 x2, .int .i64 x3, .int .i64 x4, .int .i64 x5, .bool s, .slice A l c, .bool t, .slice B m d], .bool ok])∧Ext w w'
theorem Zcp.of {w w':World} {ok r:Bool} {x0 x1 x2 x3 x4 x5:Int} {s:Bool} {A:Option Addr} {l c:Nat} {t:Bool} {B:Option Addr} {m d:Nat} (h:ok=r) (Q:Ext w w') :
 Zcp w ok (.returned (.tuple #[.agg #[.int .i64 x0, .int .i64 x1, .int .i64 x2, .int .i64 x3, .int .i64 x4, .int .i64 x5, .bool s, .slice A l c, .bool t, .slice B m d], .bool r])) w':=by
 subst h; exact ⟨_,_,_,_,_,_,_,_,_,_,_,_,_,_,rfl,Q⟩
section
variable {v:Int} {t:TermR} {q:Rat}
theorem Zjb (hr:Zap (bytes t.coef)=none):Zam v t=false:=by simp [Zam,Zc8,hr]
theorem Zjc (hr:Zap (bytes t.coef)=some q) (hz:q.num=0):Zam v t=false:=by
 have:q=0:=by rw [← Rat.num_divInt_den q,hz,Rat.zero_divInt]
 simp [Zam,Zc8,hr,this]
theorem ZlX (h:¬ (t.exps.length:Int)=v):Zam v t=false:=by simp [Zam,h]
theorem Zjd (h:t.exps.all expB=false):Zam v t=false:=by unfold Zam; rw [h,Bool.and_false,Bool.and_false]
theorem ZlY (hr:Zap (bytes t.coef)=some q) (hz:¬ q.num=0) (h:(t.exps.length:Int)=v) (ha:t.exps.all expB=true):Zam v t=true:=by
 have:q≠0:=by rintro rfl; exact hz rfl
 simp only [Zam,Zc8,hr]
 rw [ha,decide_eq_true h,decide_eq_true this]; rfl
theorem Zje {z:Int} (h:z < 0∨1048576 < z):expB z=false:=by
 unfold expB
 rcases h with h | h
 ·rw [decide_eq_false (by omega:¬ 0≤z)]; rfl
 ·rw [decide_eq_false (by omega:¬ z≤1048576),Bool.and_false]
end
theorem Ze3 (t:TermR) (v:Int) (w:World) (hg:Glob w) (hs:(bytes t.coef).length≤570) (hl:t.exps.length≤9223372036854775807) (hv:v≤6) (hI:IRow w t.A t.exps) :
 Calls Tryz.prog 318 #[.int .i64 v, .agg #[.string t.coef, .slice t.A t.exps.length t.cap]] w (Zcp w (Zam v t)):=by
 refine Za9 (Φ:=fun w=>(Glob w∧IRow w t.A t.exps)) Tryz.func318 rfl (by kernel_rfl) (fun w' hf=>⟨hg.ext hf,hI.ext hf⟩) ?_
 refine Zad (Zab (xq 3 [(3, .p 3 0),(4, .p 4 0),(5, .v (.bool false))] [(4,397,[.v (.int .i64 0), .v (.int .i64 0), .v (.int .i64 0), .v (.int .i64 0), .v (.int .i64 0), .v (.int .i64 0), .v (.bool false), .v (.slice none 0 0), .v (.bool false), .v (.slice none 0 0)]),(3,53,[.v (.string t.coef), .v (.slice t.A t.exps.length t.cap)])] ?_))
 refine xe (Zaa (Zad (Zab (xq 2 [(13, .v (.string t.coef))] [] ?_))))
 rcases ZlW (Zap (bytes t.coef)) with hr | ⟨q,hr⟩
 ·refine xqc 236 [.string t.coef] 14 (fun x:ShQ=>.tuple #[Zfj x, .bool false]) _ (fun w R Q=>(Zh7 t.coef _ Q.1 (ZeQ.of_len hs)).mono (fun _ _ h=>Zg5 h hr)) (fun xx=>?_)
  obtain ⟨s10,A10,l10,c10,t10,B10,m10,d10⟩:=xx
  refine xq 6 [(6, .p 6 0),(7, .v (.bool false))] [bR4 6 142 s10 A10 l10 c10 t10 B10 m10 d10] ?_
  refine xe (Zaa (Zad (Zad ?_)))
  by_cases hlen:(t.exps.length:Int)=v
  ·refine Zab (xq 13 [(29, .v (.bool true))] [] ?_)
   refine xe (Zaa (xa (Zad (Zab (xq 3 [(5, .v (.bool false))] [] ?_)))))
   refine xe (Zaa (Zau (Zak ?_)))
   refine Zaq (v:=.tuple #[.agg #[.int .i64 0, .int .i64 0, .int .i64 0, .int .i64 0, .int .i64 0, .int .i64 0, .bool false, .slice none 0 0, .bool false, .slice none 0 0], .bool false]) (by kernel_rfl) (fun w' R Q=>?_)
   exact Zcp.of (Zjb hr) R
  ·refine Zab (xq 13 [(29, .v (.bool true))] [] ?_)
   refine xe (Zaa (xa (Zad (Zab (xq 3 [(5, .v (.bool false))] [] ?_)))))
   refine xe (Zaa (Zau (Zak ?_)))
   refine Zaq (v:=.tuple #[.agg #[.int .i64 0, .int .i64 0, .int .i64 0, .int .i64 0, .int .i64 0, .int .i64 0, .bool false, .slice none 0 0, .bool false, .slice none 0 0], .bool false]) (by kernel_rfl) (fun w' R Q=>?_)
   exact Zcp.of (Zjb hr) R
 ·refine xqc 236 [.string t.coef] 14 (fun x:ShQ=>.tuple #[Zfj x, .bool true]) _ (fun w R Q=>(Zh7 t.coef _ Q.1 (ZeQ.of_len hs)).mono (fun _ _ h=>Zg6 h hr)) (fun xx=>?_)
  obtain ⟨s11,A11,l11,c11,t11,B11,m11,d11⟩:=xx
  refine xq 6 [(6, .p 6 0),(7, .v (.bool true))] [bR4 6 142 s11 A11 l11 c11 t11 B11 m11 d11] ?_
  refine xe (Zaa (Zad (Zad ?_)))
  by_cases hlen:(t.exps.length:Int)=v
  ·refine Zab (xq 4 [(19, .v (.bool false)),eR4 20 s11 A11 l11 c11 t11 B11 m11 d11] [] ?_)
   by_cases hz:q.num=0
   ·refine xqc 131 [vR4 s11 A11 l11 c11 t11 B11 m11 d11] 21 (fun _:Unit=>.bool true) _ (fun w R Q=>(ZcZ _ q _ Q.2).mono (fun _ _ h=>ZaB h (by rw [decide_eq_true hz]))) (fun xx=>?_)
    refine xq 8 [(29, .v (.bool true))] [] ?_
    refine xe (Zaa (xa (Zad (Zab (xq 3 [(5, .v (.bool false))] [] ?_)))))
    refine xe (Zaa (Zau (Zak ?_)))
    refine Zaq (v:=.tuple #[.agg #[.int .i64 0, .int .i64 0, .int .i64 0, .int .i64 0, .int .i64 0, .int .i64 0, .bool false, .slice none 0 0, .bool false, .slice none 0 0], .bool false]) (by kernel_rfl) (fun w' R Q=>?_)
    exact Zcp.of (Zjc hr hz) R
   ·refine xqc 131 [vR4 s11 A11 l11 c11 t11 B11 m11 d11] 21 (fun _:Unit=>.bool false) _ (fun w R Q=>(ZcZ _ q _ Q.2).mono (fun _ _ h=>ZaB h (by rw [decide_eq_false hz]))) (fun xx=>?_)
    refine xq 7 [(23, .v (.bool false)),(28, .v (.bool ((((t.exps.length:Nat):Int):Int) != v)))] [] ?_
    rw [(show (((t.exps.length:Nat):Int) != v)=false from by simp [hlen])]
    refine xq 1 [(29, .v (.bool false))] [] ?_
    refine xe (Zaa (xb (ZaK (Zaa (Zad (Zad (Zab (xq 4 [eS1 32 t.A t.exps.length t.cap,(33, .v (.int .i64 ((t.exps.length:Nat):Int))),(34, .v (.int .i64 0))] [] ?_))))))))
    refine xe (Zaa (Za8 ?_))
    refine SXc.weak [(3, .p 3 0),(4, .p 4 0),(5, .v (.bool false)),(6, .p 6 0),(32, .v (.slice t.A t.exps.length t.cap)),(33, .v (.int .i64 ((t.exps.length:Nat):Int))),(34, .v (.int .i64 ((0:Nat):Int)))] [(6,142,[.v (.bool s11), .v (.slice A11 l11 c11), .v (.bool t11), .v (.slice B11 m11 d11)]),(4,397,[.v (.int .i64 0), .v (.int .i64 0), .v (.int .i64 0), .v (.int .i64 0), .v (.int .i64 0), .v (.int .i64 0), .v (.bool false), .v (.slice none 0 0), .v (.bool false), .v (.slice none 0 0)]),(3,53,[.v (.string t.coef), .v (.slice t.A t.exps.length t.cap)])] (Ψ:=fun w=>(IRow w t.A t.exps∧ZaU w (.agg #[.bool s11, .slice A11 l11 c11, .bool t11, .slice B11 m11 d11]) (q))) (ZaX.of (by kernel_rfl)) (by kernel_rfl) (fun w Q=>⟨Q.1.1.2,Q.1.2⟩) ?_
    refine ZcR (fun nn ss ff=>∃ (k:Nat),ss=ofL [(3, .p 3 0),(4, .p 4 0),(5, .v (.bool false)),(6, .p 6 0),(32, .v (.slice t.A t.exps.length t.cap)),(33, .v (.int .i64 ((t.exps.length:Nat):Int))),(34, .v (.int .i64 ((k:Nat):Int)))] [(6,142,[.v (.bool s11), .v (.slice A11 l11 c11), .v (.bool t11), .v (.slice B11 m11 d11)]),(4,397,[.v (.int .i64 0), .v (.int .i64 0), .v (.int .i64 0), .v (.int .i64 0), .v (.int .i64 0), .v (.int .i64 0), .v (.bool false), .v (.slice none 0 0), .v (.bool false), .v (.slice none 0 0)]),(3,53,[.v (.string t.coef), .v (.slice t.A t.exps.length t.cap)])]∧ff=(fun w=>(IRow w t.A t.exps∧ZaU w (.agg #[.bool s11, .slice A11 l11 c11, .bool t11, .slice B11 m11 d11]) (q)))∧(k≤t.exps.length)∧(∀ i,i < k→expB (nth t.exps i)=true)∧nn=(1 + (t.exps.length - k))) ((1 + (t.exps.length - 0))) ⟨0,rfl,rfl,(Nat.zero_le _),(fun i hi=>absurd hi (Nat.not_lt_zero i)),rfl⟩ ?_
    rintro nn ss ff ⟨k,rfl,rfl,hk,hall,rfl⟩
    refine Zad (Zab (xq 1 [(35, .v (.bool (decide (((k:Nat):Int) < ((t.exps.length:Nat):Int)))))] [] ?_))
    refine xe (Zaa (Zad ?_))
    refine Zcz ((decide (((k:Nat):Int) < ((t.exps.length:Nat):Int)))) (by kernel_rfl) (fun hb12=>?_) (fun hb12=>?_)
    ·have hlt:k < t.exps.length:=by have:=of_decide_eq_true hb12; omega
     refine ZaK (Zaa (Zad (Za8 (Zad (Zab ?_)))))
     refine xqk 36 (atA t.A (k * 1)) (fun w R Q=>ZbS (t:=22) (e:=3) (sz:=1) (x:=.tmp 32) (ix:=.tmp 34) (len:=t.exps.length) (cap:=t.cap) (i:=k) ((Q.1).ne hlt) hlt) ?_
     refine xqk 37 (.int .i64 (nth t.exps k)) (fun w R Q=>Zd7 (t:=3) (x:=.tmp 36) (zs:=t.exps) (j:=k) (Q.1) hlt) ?_
     refine xq 1 [(9, .v (.int .i64 (nth t.exps k)))] [] ?_
     refine xe (Zaa (Zad ?_))
     by_cases h0:nth t.exps k < 0
     ·refine Zab (xq 2 [(39, .v (.bool (decide ((nth t.exps k) < 0))))] [] ?_)
      rw [(show decide (nth t.exps k < 0)=true from decide_eq_true h0)]
      refine xq 4 [(43, .v (.bool true))] [] ?_
      refine xe (Zaa (xa (Zad (Zab (xq 3 [(5, .v (.bool false))] [] ?_)))))
      refine xe (Zaa (Zau (ZbK (Zak (Zak (ZbK (Zak ?_)))))))
      refine Zaq (v:=.tuple #[.agg #[.int .i64 0, .int .i64 0, .int .i64 0, .int .i64 0, .int .i64 0, .int .i64 0, .bool false, .slice none 0 0, .bool false, .slice none 0 0], .bool false]) (by kernel_rfl) (fun w' R Q=>?_)
      exact Zcp.of (Zjd (Zio hlt (Zje (Or.inl h0)))) R
     ·by_cases h1:1048576 < nth t.exps k
      ·refine Zab (xq 2 [(39, .v (.bool (decide ((nth t.exps k) < 0))))] [] ?_)
       rw [(show decide (nth t.exps k < 0)=false from decide_eq_false h0)]
       refine xq 3 [(40, .v (.bool false)),(42, .v (.bool (decide ((nth t.exps k) > 1048576))))] [] ?_
       rw [(show decide (nth t.exps k > 1048576)=true from decide_eq_true h1)]
       refine xq 1 [(43, .v (.bool true))] [] ?_
       refine xe (Zaa (xa (Zad (Zab (xq 3 [(5, .v (.bool false))] [] ?_)))))
       refine xe (Zaa (Zau (ZbK (Zak (Zak (ZbK (Zak ?_)))))))
       refine Zaq (v:=.tuple #[.agg #[.int .i64 0, .int .i64 0, .int .i64 0, .int .i64 0, .int .i64 0, .int .i64 0, .bool false, .slice none 0 0, .bool false, .slice none 0 0], .bool false]) (by kernel_rfl) (fun w' R Q=>?_)
       exact Zcp.of (Zjd (Zio hlt (Zje (Or.inr h1)))) R
      ·refine Zab (xq 2 [(39, .v (.bool (decide ((nth t.exps k) < 0))))] [] ?_)
       rw [(show decide (nth t.exps k < 0)=false from decide_eq_false h0)]
       refine xq 3 [(40, .v (.bool false)),(42, .v (.bool (decide ((nth t.exps k) > 1048576))))] [] ?_
       rw [(show decide (nth t.exps k > 1048576)=false from decide_eq_false h1)]
       refine xq 1 [(43, .v (.bool false))] [] ?_
       refine xe (Zaa (xb (ZaK (Zc3 (Zaa (Zab (xq 1 [(45, .v (.int .i64 (IntKind.i64.wrap (((k:Nat):Int) + 1))))] [] ?_)))))))
       rw [show IntKind.i64.wrap ((((k:Nat):Int) + 1))=((k + 1:Nat):Int) from by rw [IntKind.wrap_i64]; omega]
       refine xq 1 [(34, .v (.int .i64 ((k + 1:Nat):Int)))] [] ?_
       refine xe ?_
       refine SXq.weak [(3, .p 3 0),(4, .p 4 0),(5, .v (.bool false)),(6, .p 6 0),(32, .v (.slice t.A t.exps.length t.cap)),(33, .v (.int .i64 ((t.exps.length:Nat):Int))),(34, .v (.int .i64 (((k + 1):Nat):Int)))] [(6,142,[.v (.bool s11), .v (.slice A11 l11 c11), .v (.bool t11), .v (.slice B11 m11 d11)]),(4,397,[.v (.int .i64 0), .v (.int .i64 0), .v (.int .i64 0), .v (.int .i64 0), .v (.int .i64 0), .v (.int .i64 0), .v (.bool false), .v (.slice none 0 0), .v (.bool false), .v (.slice none 0 0)]),(3,53,[.v (.string t.coef), .v (.slice t.A t.exps.length t.cap)])] (Ψ:=fun w=>(IRow w t.A t.exps∧ZaU w (.agg #[.bool s11, .slice A11 l11 c11, .bool t11, .slice B11 m11 d11]) (q))) (ZaX.of (by kernel_rfl)) (by kernel_rfl) (fun w Q=>⟨Q.1,Q.2⟩) ?_
       exact Zcb ((1 + (t.exps.length - (k + 1)))) (by omega) ⟨(k + 1),rfl,rfl,hlt,(fun i hi=>by rcases (by omega:i < k∨i=k) with h | rfl; exact hall i h; exact ZlU h0 h1),rfl⟩
    ·have hge:t.exps.length≤k:=by have:=of_decide_eq_false hb12; omega
     refine ZcQ (ZaE (ZaE (Zdq (Zaa (Zad (Zab (xq 1 [(10, .p 10 0)] [(10,397,[.v (.int .i64 0), .v (.int .i64 0), .v (.int .i64 0), .v (.int .i64 0), .v (.int .i64 0), .v (.int .i64 0), .v (.bool false), .v (.slice none 0 0), .v (.bool false), .v (.slice none 0 0)])] ?_)))))))
     refine xe (Zaa (Zad (Zab (xq 3 [] [(10,397,[.v (.int .i64 0), .v (.int .i64 0), .v (.int .i64 0), .v (.int .i64 0), .v (.int .i64 0), .v (.int .i64 0), .v (.bool s11), .v (.slice A11 l11 c11), .v (.bool t11), .v (.slice B11 m11 d11)])] ?_))))
     refine xe (Zaa (Zad ?_))
     refine SXc.freezeN 10 397 [.int .i64 0, .int .i64 0, .int .i64 0, .int .i64 0, .int .i64 0, .int .i64 0, .bool s11, .slice A11 l11 c11, .bool t11, .slice B11 m11 d11] (fun gr=>[(3, .p 3 0),(4, .p 4 0),(5, .v (.bool false)),(10, .v (.pointer (some ⟨gr,0,none⟩)))]) [(4,397,[.v (.int .i64 0), .v (.int .i64 0), .v (.int .i64 0), .v (.int .i64 0), .v (.int .i64 0), .v (.int .i64 0), .v (.bool false), .v (.slice none 0 0), .v (.bool false), .v (.slice none 0 0)]),(3,53,[.v (.string t.coef), .v (.slice t.A t.exps.length t.cap)])] (by kernel_rfl) (fun _=>by kernel_rfl) (by kernel_rfl) (by kernel_rfl) (fun _=>by kernel_rfl) (fun gr hgr=>?_)
     refine Zfh 4 (by kernel_rfl) (by kernel_rfl) ZaD ?_
     refine xqg 4 [eS1 49 (some ⟨gr,0,none⟩) 6 6,eS1 51 t.A t.exps.length t.cap] ?_
     refine xz ?_
     obtain ⟨x0,x1,x2,x3,x4,x5,hx⟩:=Zld (m:=t.exps.length) (zs:=t.exps) rfl (by omega) [.bool s11, .slice A11 l11 c11, .bool t11, .slice B11 m11 d11]
     refine Zlc (dT:=22) (sT:=22) (e:=3) (bt:=397) (dx:=.tmp 49) (sx:=.tmp 51) (d:=52) (n:=6) (m:=t.exps.length) (dc:=6) (sc:=t.cap) (cs:=[.int .i64 0, .int .i64 0, .int .i64 0, .int .i64 0, .int .i64 0, .int .i64 0, .bool s11, .slice A11 l11 c11, .bool t11, .slice B11 m11 d11]) (zs:=t.exps) gr (fun w=>Blk 397 w gr [.int .i64 x0, .int .i64 x1, .int .i64 x2, .int .i64 x3, .int .i64 x4, .int .i64 x5, .bool s11, .slice A11 l11 c11, .bool t11, .slice B11 m11 d11].toArray) rfl (by omega) (show 6≤10 from by decide) (show 0 < 10 from by decide) (fun w Q=>Q.2) (fun w Q=>Q.1.1) hgr (fun w w' Q hF hB=>Eq.mp (congrArg (fun l:List Value=>Blk 397 w' gr l.toArray) hx) hB) ?_
     refine xe (Zaa (Zad (Zab ?_)))
     refine xqk 53 (.agg #[.int .i64 x0, .int .i64 x1, .int .i64 x2, .int .i64 x3, .int .i64 x4, .int .i64 x5, .bool s11, .slice A11 l11 c11, .bool t11, .slice B11 m11 d11]) (fun w R Q=>ZlT (t:=397) (x:=.tmp 10) (cs:=[.int .i64 x0, .int .i64 x1, .int .i64 x2, .int .i64 x3, .int .i64 x4, .int .i64 x5, .bool s11, .slice A11 l11 c11, .bool t11, .slice B11 m11 d11]) Q) ?_
     refine xq 2 [(5, .v (.bool true))] [(4,397,[.v (.int .i64 x0), .v (.int .i64 x1), .v (.int .i64 x2), .v (.int .i64 x3), .v (.int .i64 x4), .v (.int .i64 x5), .v (.bool s11), .v (.slice A11 l11 c11), .v (.bool t11), .v (.slice B11 m11 d11)])] ?_
     refine xe (Zaa (Zau ?_))
     refine Zaq (v:=.tuple #[.agg #[.int .i64 x0, .int .i64 x1, .int .i64 x2, .int .i64 x3, .int .i64 x4, .int .i64 x5, .bool s11, .slice A11 l11 c11, .bool t11, .slice B11 m11 d11], .bool true]) (by kernel_rfl) (fun w' R Q=>?_)
     exact Zcp.of (ZlY hr hz hlen (ZlS (fun i hi=>hall i (by omega)))) R
  ·refine Zab (xq 4 [(19, .v (.bool false)),eR4 20 s11 A11 l11 c11 t11 B11 m11 d11] [] ?_)
   by_cases hz:q.num=0
   ·refine xqc 131 [vR4 s11 A11 l11 c11 t11 B11 m11 d11] 21 (fun _:Unit=>.bool true) _ (fun w R Q=>(ZcZ _ q _ Q.2).mono (fun _ _ h=>ZaB h (by rw [decide_eq_true hz]))) (fun xx=>?_)
    refine xq 8 [(29, .v (.bool true))] [] ?_
    refine xe (Zaa (xa (Zad (Zab (xq 3 [(5, .v (.bool false))] [] ?_)))))
    refine xe (Zaa (Zau (Zak ?_)))
    refine Zaq (v:=.tuple #[.agg #[.int .i64 0, .int .i64 0, .int .i64 0, .int .i64 0, .int .i64 0, .int .i64 0, .bool false, .slice none 0 0, .bool false, .slice none 0 0], .bool false]) (by kernel_rfl) (fun w' R Q=>?_)
    exact Zcp.of (Zjc hr hz) R
   ·refine xqc 131 [vR4 s11 A11 l11 c11 t11 B11 m11 d11] 21 (fun _:Unit=>.bool false) _ (fun w R Q=>(ZcZ _ q _ Q.2).mono (fun _ _ h=>ZaB h (by rw [decide_eq_false hz]))) (fun xx=>?_)
    refine xq 7 [(23, .v (.bool false)),(28, .v (.bool ((((t.exps.length:Nat):Int):Int) != v)))] [] ?_
    rw [(show (((t.exps.length:Nat):Int) != v)=true from by simp [hlen])]
    refine xq 1 [(29, .v (.bool true))] [] ?_
    refine xe (Zaa (xa (Zad (Zab (xq 3 [(5, .v (.bool false))] [] ?_)))))
    refine xe (Zaa (Zau (Zak ?_)))
    refine Zaq (v:=.tuple #[.agg #[.int .i64 0, .int .i64 0, .int .i64 0, .int .i64 0, .int .i64 0, .int .i64 0, .bool false, .slice none 0 0, .bool false, .slice none 0 0], .bool false]) (by kernel_rfl) (fun w' R Q=>?_)
    exact Zcp.of (ZlX hlen) R
end Go.Proofs.YtcpjeaaapocoeaaGreatDoor

namespace Go.Proofs.YtcpjeaaapocoeaaGreatDoor
open Go.RowKit
theorem TRow.at_ {w:World} {A:Option Addr} {ts:List TermR} (h:TRow w A ts) {i:Nat} (hi:i < ts.length):∃ b off,A=some ⟨b,off,none⟩:=by
 obtain ⟨b,off,e,_⟩:=h i hi; exact ⟨b,off,e⟩
section
variable {P:Program} {o:Oper} {ρ:Operand→Value} {w:World} {t e:TypeId} {x ix:Operand} {A:Option Addr} {b off:Nat}
theorem Zcc (hA:A=some ⟨b,off,none⟩) {len cap i sz:Nat} (h:i < len) (ho:o.op=Op.indexAddr t x ix:=by kernel_rfl) (ht:P.underlying t=some (.slice e):=by kernel_rfl) (hs:(P.info? e).map (fun i=>i.size)=some sz:=by kernel_rfl)
 (hx:ρ x=.slice A len cap:=by kernel_rfl) (hi:ρ ix=.int .i64 ((i:Nat):Int):=by kernel_rfl):(execOp ρ o).run P w=.ok (.value (.pointer (some ⟨b,off + i * sz,none⟩))) w:=by
 have:=ZbS (w:=w) (A:=A) (by rw [hA]; simp) h ho ht hs hx hi
 rw [this,hA,atA,Option.map_some,ZbR]
theorem Zds (hA:A=some ⟨b,off,none⟩) {ts:List TermR} {j:Nat} (hS:TRow w A ts) (hj:j < ts.length) (ho:o.op=Op.load t x:=by kernel_rfl) (hx:ρ x=.pointer (some ⟨b,off + j * 2 + 1,none⟩):=by kernel_rfl) (ha:(teOf P t).map (fun e=>e.agg)=some false:=by kernel_rfl) :
 (execOp ρ o).run P w=.ok (.value (.slice ts[j]!.A ts[j]!.exps.length ts[j]!.cap)) w:=by
 refine ZlV hS hj ho ?_ ha
 rw [hx,hA,atA,Option.map_some,ZbR,Nat.add_assoc]
end
theorem TRow.exps {w:World} {A:Option Addr} {ts:List TermR} (h:TRow w A ts) {i:Nat} (hi:i < ts.length):IRow w ts[i]!.A ts[i]!.exps:=by
 obtain ⟨_,_,_,_,_,_,h⟩:=h i hi; exact h
abbrev ShTm:=Int × Int × Int × Int × Int × Int × Bool × Option Addr × Nat × Nat × Bool × Option Addr × Nat × Nat
def shTm (x:ShTm) (ok:Bool):Value:=match x with
 | (x0,x1,x2,x3,x4,x5,s,A,l,c,t,B,m,d)=>.tuple #[.agg #[.int .i64 x0, .int .i64 x1, .int .i64 x2, .int .i64 x3, .int .i64 x4, .int .i64 x5, .bool s, .slice A l c, .bool t, .slice B m d], .bool ok]
theorem Zjf {w w':World} {e:Ending} {ok:Bool} (h:Zcp w ok e w'):Zba (fun x=>shTm x ok) (fun _ _=>True) w e w':=by
 obtain ⟨x0,x1,x2,x3,x4,x5,s,A,l,c,t,B,m,d,rfl,Q⟩:=h
 exact ⟨(x0,x1,x2,x3,x4,x5,s,A,l,c,t,B,m,d),rfl,Q,BoxN.pure trivial⟩
def ZbT (w:World) (ok:Bool) (e:Ending) (w':World):Prop:=∃ (A:Option Addr) (l c:Nat),e=.returned (.tuple #[.slice A l c, .bool ok])∧Ext w w'
theorem ZbT.of {w w':World} {ok r:Bool} {A:Option Addr} {l c:Nat} (h:ok=r) (Q:Ext w w'):ZbT w ok (.returned (.tuple #[.slice A l c, .bool r])) w':=by
 subst h; exact ⟨_,_,_,rfl,Q⟩
theorem Zg7 {w w':World} {e:Ending} {ok:Bool} (h:ZbT w ok e w'):Zba (fun x:ShN=>.tuple #[.slice x.1 x.2.1 x.2.2, .bool ok]) (fun _ _=>True) w e w':=by
 obtain ⟨A,l,c,rfl,Q⟩:=h
 exact ⟨(A,l,c),rfl,Q,BoxN.pure trivial⟩
section
variable {v:Int} {ts:List TermR} {k n:Nat} {t u:TermR}
theorem Zen (h:wfT v ts k=true) {i:Nat} (hi:i < k):Zam v ts[i]! = true:=by
 induction k with
 | zero=>omega
 | succ k ih =>
   unfold wfT at h
   rw [Bool.and_eq_true,Bool.and_eq_true] at h
   rcases (by omega:i < k∨i=k) with h' | rfl
   ·exact ih h.1 h'
   ·exact h.2.1
theorem Zli (hwf:wfT v ts k=true) (hk:0 < k) (hu:ts[k - 1]! = u) (hok:Zam v t=true) (hv6:v≤6):(Zgi u.exps∧Zgi t.exps)∧u.exps.length=t.exps.length:=by
 have h1:=Zam.exp (Zen hwf (show k - 1 < k by omega)) hv6
 rw [hu] at h1
 have h2:=Zam.exp hok hv6
 exact ⟨⟨h1.1,h2.1⟩,by have:=h1.2; have:=h2.2; omega⟩
theorem Ziu (hwf:wfT v ts k=true) (ht:ts[k]! = t) (hok:Zam v t=true) (h:k=0∨0 < ordF ts[k - 1]!.exps t.exps):wfT v ts (k + 1)=true:=by
 unfold wfT
 rw [hwf,ht,hok]
 rcases h with h | h
 ·rw [decide_eq_true h]; rfl
 ·rw [decide_eq_true h,Bool.or_true]; rfl
theorem ZlZ (ht:ts[k]! = t) (hok:Zam v t=false):wfT v ts (k + 1)=false:=by
 unfold wfT; rw [ht,hok,Bool.false_and,Bool.and_false]
theorem Zl0 (ht:ts[k]! = t) (hu:ts[k - 1]! = u) (hk:¬ k=0) (ho:¬ 0 < ordF u.exps t.exps):wfT v ts (k + 1)=false:=by
 unfold wfT; rw [ht,hu,decide_eq_false hk,decide_eq_false ho,Bool.or_false,Bool.and_false,Bool.and_false]
theorem ZjI (h:v < 0∨6 < v):(decide (0≤v) && (decide (v≤6) && wfT v ts n))=false:=by
 rcases h with h | h
 ·rw [decide_eq_false (by omega:¬ 0≤v)]; rfl
 ·rw [decide_eq_false (by omega:¬ v≤6),Bool.false_and,Bool.and_false]
theorem Zlv (h:wfT v ts n=false):(decide (0≤v) && (decide (v≤6) && wfT v ts n))=false:=by rw [h,Bool.and_false,Bool.and_false]
theorem Zmx (h0:¬ v < 0) (h7:¬ 6 < v) (h:wfT v ts n=true):(decide (0≤v) && (decide (v≤6) && wfT v ts n))=true:=by
 rw [h,decide_eq_true (by omega:0≤v),decide_eq_true (by omega:v≤6)]; rfl
end
theorem ZgG (A:Option Addr) (c:Nat) (ts:List TermR) (v:Int) (w:World) (hg:Glob w) (hT:TRow w A ts) (hlen:ts.length≤4096) (hc:∀ i,i < ts.length→(bytes ts[i]!.coef).length≤570) (hx:∀ i,i < ts.length→ts[i]!.exps.length≤9223372036854775807) :
 Calls Tryz.prog 245 #[.agg #[.int .i64 v, .slice A ts.length c]] w (ZbT w (decide (0≤v) && (decide (v≤6) && wfT v ts ts.length))):=by
 refine Za9 (Φ:=fun w=>(Glob w∧TRow w A ts)) Tryz.func245 rfl (by kernel_rfl) (fun w' hf=>⟨hg.ext hf,hT.ext hf⟩) ?_
 refine Zad (Zab (xq 3 [(1, .p 1 0),eS1 2 none 0 0,(3, .v (.bool false))] [(1,43,[.v (.int .i64 v), .v (.slice A ts.length c)])] ?_))
 refine xe (Zaa (Zad (Zad ?_)))
 by_cases hv0:v < 0
 ·refine Zab (xq 3 [(11, .v (.bool (decide (v < 0))))] [] ?_)
  rw [(show decide (v < 0)=true from decide_eq_true hv0)]
  refine xq 5 [(16, .v (.bool true))] [] ?_
  refine xe (Zaa (xa (Zad (Zab (xq 2 [eS1 2 none 0 0,(3, .v (.bool false))] [] ?_)))))
  refine xe (Zaa (Zau (Zak ?_)))
  refine Zaq (v:=.tuple #[.slice none 0 0, .bool false]) (by kernel_rfl) (fun w' R Q=>?_)
  exact ZbT.of (ZjI (by omega)) R
 ·by_cases hv7:6 < v
  ·refine Zab (xq 3 [(11, .v (.bool (decide (v < 0))))] [] ?_)
   rw [(show decide (v < 0)=false from decide_eq_false hv0)]
   refine xq 4 [(12, .v (.bool false)),(15, .v (.bool (decide (v > 6))))] [] ?_
   rw [(show decide (v > 6)=true from decide_eq_true hv7)]
   refine xq 1 [(16, .v (.bool true))] [] ?_
   refine xe (Zaa (xa (Zad (Zab (xq 2 [eS1 2 none 0 0,(3, .v (.bool false))] [] ?_)))))
   refine xe (Zaa (Zau (Zak ?_)))
   refine Zaq (v:=.tuple #[.slice none 0 0, .bool false]) (by kernel_rfl) (fun w' R Q=>?_)
   exact ZbT.of (ZjI (by omega)) R
  ·have hv6:v≤6:=by omega
   refine Zab (xq 3 [(11, .v (.bool (decide (v < 0))))] [] ?_)
   rw [(show decide (v < 0)=false from decide_eq_false hv0)]
   refine xq 4 [(12, .v (.bool false)),(15, .v (.bool (decide (v > 6))))] [] ?_
   rw [(show decide (v > 6)=false from decide_eq_false hv7)]
   refine xq 1 [(16, .v (.bool false))] [] ?_
   refine xe (Zaa (xb (ZaK (Zaa (Zad (Zab (xq 3 [(19, .v (.int .i64 ((ts.length:Nat):Int)))] [] ?_)))))))
   refine Zmp (d:=20) (t:=234) (e:=397) (k:=10) (bytes:=112) (z:=(.agg #[.int .i64 0, .int .i64 0, .int .i64 0, .int .i64 0, .int .i64 0, .int .i64 0, .bool false, .slice none 0 0, .bool false, .slice none 0 0])) (kl:=.i64) (kc:=.i64) (l:=.const (.int .i64 0)) (c:=.tmp 19) (cap:=ts.length) (by simp only [maxLen]; omega) (by omega) (fun b cur hb hcur=>?_)
   refine xr 1 [(1, .p 1 0),eS1 2 none 0 0,(3, .v (.bool false)),eS1 4 (some ⟨b,0,none⟩) 0 ts.length] [(1,43,[.v (.int .i64 v), .v (.slice A ts.length c)])] ?_
   refine xe (Zaa (Zad (Zad (Zab (xq 4 [eS1 22 A ts.length c,(23, .v (.int .i64 ((ts.length:Nat):Int))),(24, .v (.int .i64 0))] [] ?_)))))
   refine xe (Zaa (Za8 ?_))
   refine SXc.weak [(1, .p 1 0),(2, .v (.slice none 0 0)),(3, .v (.bool false)),(4, .v (.slice (some ⟨b,0,none⟩) 0 ts.length)),(22, .v (.slice A ts.length c)),(23, .v (.int .i64 ((ts.length:Nat):Int))),(24, .v (.int .i64 ((0:Nat):Int)))] [(1,43,[.v (.int .i64 v), .v (.slice A ts.length c)])] (Ψ:=fun w=>((Glob w∧TRow w A ts)∧Blk 397 w b cur.toArray)) (ZaX.of (by kernel_rfl)) (by kernel_rfl) (fun w Q=>⟨⟨Q.1.1,Q.1.2⟩,Q.2⟩) ?_
   refine ZcR (fun nn ss ff=>∃ (k b cap:Nat) (cur:List Value),ss=ofL [(1, .p 1 0),(2, .v (.slice none 0 0)),(3, .v (.bool false)),(4, .v (.slice (some ⟨b,0,none⟩) k cap)),(22, .v (.slice A ts.length c)),(23, .v (.int .i64 ((ts.length:Nat):Int))),(24, .v (.int .i64 ((k:Nat):Int)))] [(1,43,[.v (.int .i64 v), .v (.slice A ts.length c)])]∧ff=(fun w=>((Glob w∧TRow w A ts)∧Blk 397 w b cur.toArray))∧(w.heap.size≤b)∧(cur.length=cap * 10)∧(k≤cap)∧(cap≤maxLen)∧(0 < ts.length→0 < cur.length)∧(k≤ts.length)∧(wfT v ts k=true)∧nn=(1 + (ts.length - k))) ((1 + (ts.length - 0))) ⟨0,b,ts.length,cur,rfl,rfl,hb,hcur,(Nat.zero_le _),(by simp only [maxLen]; omega),(fun h=>by omega),(Nat.zero_le _),rfl,rfl⟩ ?_
   rintro nn ss ff ⟨k,b,cap,cur,rfl,rfl,hb,hcur,hkc,hcm,hpos,hk,hwf,rfl⟩
   refine Zad (Zab (xq 1 [(25, .v (.bool (decide (((k:Nat):Int) < ((ts.length:Nat):Int)))))] [] ?_))
   refine xe (Zaa (Zad ?_))
   refine Zcz ((decide (((k:Nat):Int) < ((ts.length:Nat):Int)))) (by kernel_rfl) (fun hb10=>?_) (fun hb10=>?_)
   ·have hlt:k < ts.length:=by have:=of_decide_eq_true hb10; omega
    refine ZaK (Zaa (Zad (Za8 (Zad (Zab (xq 1 [(26, .v (.int .i64 ((k:Nat):Int)))] [] ?_))))))
    refine xqk 27 (atA A (k * 2)) (fun w R Q=>ZbS (t:=41) (e:=53) (sz:=2) (x:=.tmp 22) (ix:=.tmp 24) (len:=ts.length) (cap:=c) (i:=k) ((Q.1.2).ne hlt) hlt) ?_
    obtain ⟨t,ht⟩:∃ x,ts[k]! = x:=⟨_,rfl⟩
    refine xqk 28 (.agg #[.string t.coef, .slice t.A t.exps.length t.cap]) (fun w R Q=>by rw [← ht]; exact Zi8 (t:=53) (x:=.tmp 27) (ts:=ts) (j:=k) (Q.1.2) hlt) ?_
    refine xq 3 [(5, .v (.int .i64 ((k:Nat):Int))),(6, .p 6 0)] [(6,53,[.v (.string t.coef), .v (.slice t.A t.exps.length t.cap)])] ?_
    refine xe (Zaa (Zad (Zab (xq 3 [(31, .v (.int .i64 v)),(32, .v (.agg #[.string t.coef, .slice t.A t.exps.length t.cap]))] [] ?_))))
    cases hok:Zam v t
    ·refine xqc 318 [.int .i64 v, .agg #[.string t.coef, .slice t.A t.exps.length t.cap]] 33 (fun x=>shTm x false) _ (fun w R Q=>(Ze3 t v _ Q.1.1 (ht ▸ hc k hlt) (ht ▸ hx k hlt) hv6 (ht ▸ TRow.exps Q.1.2 hlt)).mono (fun _ _ h=>Zjf (by rw [hok] at h; exact h))) (fun xx=>?_)
     obtain ⟨x011,x111,x211,x311,x411,x511,s11,A11,l11,c11,t11,B11,m11,d11⟩:=xx
     refine xq 6 [(7, .p 7 0),(8, .v (.bool false))] [(7,397,[.v (.int .i64 x011), .v (.int .i64 x111), .v (.int .i64 x211), .v (.int .i64 x311), .v (.int .i64 x411), .v (.int .i64 x511), .v (.bool s11), .v (.slice A11 l11 c11), .v (.bool t11), .v (.slice B11 m11 d11)])] ?_
     refine xe (Zaa (Zad (Zad ?_)))
     refine Zcu 19 [0,1,3,7,15,31,63,127,63,319,1023,2047,4095,63,8255,32767,65535,131071,262143] (by kernel_rfl) (by kernel_rfl) ZaD ?_
     refine xqg 19 [(54, .v (.bool true))] ?_
     refine xz (xe (Zaa (xa (Zad (Zab (xq 2 [eS1 2 none 0 0,(3, .v (.bool false))] [] ?_))))))
     refine xe (Zaa (Zau (Zak (ZbK (Zak (Zak (ZbK (Zak ?_))))))))
     refine Zaq (v:=.tuple #[.slice none 0 0, .bool false]) (by kernel_rfl) (fun w' R Q=>?_)
     exact ZbT.of (Zlv (Zip (k:=k + 1) (ZlZ ht hok) _ hlt)) R
    ·refine xqc 318 [.int .i64 v, .agg #[.string t.coef, .slice t.A t.exps.length t.cap]] 33 (fun x=>shTm x true) _ (fun w R Q=>(Ze3 t v _ Q.1.1 (ht ▸ hc k hlt) (ht ▸ hx k hlt) hv6 (ht ▸ TRow.exps Q.1.2 hlt)).mono (fun _ _ h=>Zjf (by rw [hok] at h; exact h))) (fun xx=>?_)
     obtain ⟨x012,x112,x212,x312,x412,x512,s12,A12,l12,c12,t12,B12,m12,d12⟩:=xx
     refine xq 6 [(7, .p 7 0),(8, .v (.bool true))] [(7,397,[.v (.int .i64 x012), .v (.int .i64 x112), .v (.int .i64 x212), .v (.int .i64 x312), .v (.int .i64 x412), .v (.int .i64 x512), .v (.bool s12), .v (.slice A12 l12 c12), .v (.bool t12), .v (.slice B12 m12 d12)])] ?_
     refine xe (Zaa (Zad (Zad ?_)))
     by_cases hk0:k=0
     ·refine Zcu 19 [0,1,3,7,15,31,63,127,63,319,1023,2047,4095,63,8255,32767,65535,131071,262143] (by kernel_rfl) (by kernel_rfl) ZaD ?_
      refine xqg 5 [(38, .v (.bool false)),(40, .v (.bool (decide (((k:Nat):Int) > 0))))] ?_
      rw [(show decide (((k:Nat):Int) > 0)=false from decide_eq_false (by omega))]
      refine xqg 14 [(54, .v (.bool false))] ?_
      refine xz (xe (Zaa (xb (ZaK (Zaa (Zab (xq 2 [eS1 55 (some ⟨b,0,none⟩) k cap,(56, .v (.agg #[.int .i64 x012, .int .i64 x112, .int .i64 x212, .int .i64 x312, .int .i64 x412, .int .i64 x512, .bool s12, .slice A12 l12 c12, .bool t12, .slice B12 m12 d12]))] [] ?_)))))))
      refine Zcy (d:=57) (fun zb:Nat=>.slice (some ⟨zb,0,none⟩) 1 1) (fun zb zw=>Blk 397 zw zb #[.int .i64 x012, .int .i64 x112, .int .i64 x212, .int .i64 x312, .int .i64 x412, .int .i64 x512, .bool s12, .slice A12 l12 c12, .bool t12, .slice B12 m12 d12]) (by kernel_rfl) (by kernel_rfl) (by kernel_rfl) (by kernel_rfl) (by kernel_rfl) (by kernel_rfl) (fun w R Q=>ZbF (t:=234) (e:=397) (n:=1) (sz:=10) (z:=.agg #[.int .i64 0, .int .i64 0, .int .i64 0, .int .i64 0, .int .i64 0, .int .i64 0, .bool false, .slice none 0 0, .bool false, .slice none 0 0]) (parts:=#[(0,Operand.tmp 56)]) (by kernel_rfl) (by kernel_rfl) (by kernel_rfl) (by kernel_rfl) (by kernel_rfl) (by kernel_rfl)) (fun b13=>?_)
      refine xr 0 [(1, .p 1 0),eS1 2 none 0 0,(3, .v (.bool false)),eS1 4 (some ⟨b,0,none⟩) k cap,eS1 22 A ts.length c,(23, .v (.int .i64 ((ts.length:Nat):Int))),(24, .v (.int .i64 ((k:Nat):Int))),eS1 55 (some ⟨b,0,none⟩) k cap,eS1 57 (some ⟨b13,0,none⟩) 1 1] [(1,43,[.v (.int .i64 v), .v (.slice A ts.length c)])] ?_
      refine Zko (d:=58) (k:=10) (n:=k) (m:=1) (cap:=cap) (bytes:=112) (t:=234) (e:=397) (s0:=.tmp 55) (x:=.tmp 57) (cur:=cur) (news:=[.int .i64 x012, .int .i64 x112, .int .i64 x212, .int .i64 x312, .int .i64 x412, .int .i64 x512, .bool s12, .slice A12 l12 c12, .bool t12, .slice B12 m12 d12]) (z:=(.agg #[.int .i64 0, .int .i64 0, .int .i64 0, .int .i64 0, .int .i64 0, .int .i64 0, .bool false, .slice none 0 0, .bool false, .slice none 0 0])) b b13 1 (fun w=>Glob w∧TRow w A ts) (fun w Q=>Q.1.1.2) (fun w Q=>Q.2) rfl (by decide) rfl hcur hkc hcm (hpos (by omega)) (by omega) hb (by simp [Value.oneCell']) (by simp only [maxLen]; omega) (by omega) (fun w w' R Q hF=>⟨hg.ext R,hT.ext R⟩) (fun b' cap' cur' hb' hcur' hkc' hcm' htk' hpos'=>?_)
      refine xr 1 [(1, .p 1 0),eS1 2 none 0 0,(3, .v (.bool false)),eS1 4 (some ⟨b',0,none⟩) (k + 1) cap',eS1 22 A ts.length c,(23, .v (.int .i64 ((ts.length:Nat):Int))),(24, .v (.int .i64 ((k:Nat):Int)))] [(1,43,[.v (.int .i64 v), .v (.slice A ts.length c)])] ?_
      refine xe (Zc3 (Zaa (Zab (xq 1 [(59, .v (.int .i64 (IntKind.i64.wrap (((k:Nat):Int) + 1))))] [] ?_))))
      rw [(show IntKind.i64.wrap (((k:Nat):Int) + 1)=((k + 1:Nat):Int) from by rw [IntKind.wrap_i64]; omega)]
      refine xq 1 [(24, .v (.int .i64 ((k + 1:Nat):Int)))] [] ?_
      refine xe ?_
      refine SXq.weak [(1, .p 1 0),(2, .v (.slice none 0 0)),(3, .v (.bool false)),(4, .v (.slice (some ⟨b',0,none⟩) (k + 1) cap')),(22, .v (.slice A ts.length c)),(23, .v (.int .i64 ((ts.length:Nat):Int))),(24, .v (.int .i64 (((k + 1):Nat):Int)))] [(1,43,[.v (.int .i64 v), .v (.slice A ts.length c)])] (Ψ:=fun w=>((Glob w∧TRow w A ts)∧Blk 397 w b' cur'.toArray)) (ZaX.of (by kernel_rfl)) (by kernel_rfl) (fun w Q=>⟨⟨Q.1.1,Q.1.2⟩,Q.2⟩) ?_
      exact Zcb ((1 + (ts.length - (k + 1)))) (by omega) ⟨(k + 1),b',cap',cur',rfl,rfl,hb',hcur',hkc',hcm',(fun _=>hpos'),hlt,(Ziu hwf ht hok (Or.inl hk0)),rfl⟩
     ·obtain ⟨u,hu⟩:∃ x,ts[k - 1]! = x:=⟨_,rfl⟩
      refine SXc.know (p:=∃ tb tf,A=some ⟨tb,tf,none⟩) (fun w _ Q=>TRow.at_ Q.1.1.2 hlt) (fun hAe=>?_)
      obtain ⟨tb,tf,hA⟩:=hAe
      have hul:=Zli hwf (by omega) hu hok hv6
      by_cases ho:0 < ordF u.exps t.exps
      ·refine Zcu 19 [0,1,3,7,15,31,63,127,63,319,1023,2047,4095,63,8255,32767,65535,131071,262143] (by kernel_rfl) (by kernel_rfl) ZaD ?_
       refine xqg 5 [(38, .v (.bool false)),(40, .v (.bool (decide (((k:Nat):Int) > 0))))] ?_
       rw [(show decide (((k:Nat):Int) > 0)=true from decide_eq_true (by omega))]
       refine xqg 5 [(41, .v (.bool true)),eS1 43 A ts.length c,(45, .v (.int .i64 (IntKind.i64.wrap (((k:Nat):Int) - 1))))] ?_
       rw [(show IntKind.i64.wrap (((k:Nat):Int) - 1)=((k - 1:Nat):Int) from by rw [IntKind.wrap_i64]; omega)]
       refine xqj 46 (.pointer (some ⟨tb,tf + (k - 1) * 2,none⟩)) (fun w Q=>Zcc hA (t:=41) (e:=53) (sz:=2) (x:=.tmp 43) (ix:=.tmp 45) (len:=ts.length) (cap:=c) (i:=k - 1) (by omega)) ?_
       refine xqg 1 [(47, .v (.pointer (some ⟨tb,tf + (k - 1) * 2 + 1,none⟩)))] ?_
       refine xqj 48 (.slice u.A u.exps.length u.cap) (fun w Q=>by rw [← hu]; exact Zds hA (t:=22) (x:=.tmp 47) (ts:=ts) (j:=k - 1) (Q.1.1.2) (by omega)) ?_
       refine xqg 2 [eS1 50 t.A t.exps.length t.cap] ?_
       refine xqd 319 [.slice u.A u.exps.length u.cap, .slice t.A t.exps.length t.cap] 51 (fun _:Unit=>.int .i64 (ordF u.exps t.exps)) _ (fun w R Q=>(Zhh u.A t.A u.cap t.cap u.exps t.exps _ (hu ▸ TRow.exps Q.1.1.2 (by omega)) (ht ▸ TRow.exps Q.1.1.2 hlt) hul.2 hul.1.1 hul.1.2).mono (fun _ _ h=>ZaB h rfl)) (fun xx=>?_)
       refine xqg 1 [(52, .v (.bool (decide ((ordF u.exps t.exps)≤0))))] ?_
       rw [(show decide (ordF u.exps t.exps≤0)=false from decide_eq_false (by omega))]
       refine xqg 2 [(54, .v (.bool false))] ?_
       refine xz (xe (Zaa (xb (ZaK (Zaa (Zab (xq 2 [eS1 55 (some ⟨b,0,none⟩) k cap,(56, .v (.agg #[.int .i64 x012, .int .i64 x112, .int .i64 x212, .int .i64 x312, .int .i64 x412, .int .i64 x512, .bool s12, .slice A12 l12 c12, .bool t12, .slice B12 m12 d12]))] [] ?_)))))))
       refine Zcy (d:=57) (fun zb:Nat=>.slice (some ⟨zb,0,none⟩) 1 1) (fun zb zw=>Blk 397 zw zb #[.int .i64 x012, .int .i64 x112, .int .i64 x212, .int .i64 x312, .int .i64 x412, .int .i64 x512, .bool s12, .slice A12 l12 c12, .bool t12, .slice B12 m12 d12]) (by kernel_rfl) (by kernel_rfl) (by kernel_rfl) (by kernel_rfl) (by kernel_rfl) (by kernel_rfl) (fun w R Q=>ZbF (t:=234) (e:=397) (n:=1) (sz:=10) (z:=.agg #[.int .i64 0, .int .i64 0, .int .i64 0, .int .i64 0, .int .i64 0, .int .i64 0, .bool false, .slice none 0 0, .bool false, .slice none 0 0]) (parts:=#[(0,Operand.tmp 56)]) (by kernel_rfl) (by kernel_rfl) (by kernel_rfl) (by kernel_rfl) (by kernel_rfl) (by kernel_rfl)) (fun b14=>?_)
       refine xr 0 [(1, .p 1 0),eS1 2 none 0 0,(3, .v (.bool false)),eS1 4 (some ⟨b,0,none⟩) k cap,eS1 22 A ts.length c,(23, .v (.int .i64 ((ts.length:Nat):Int))),(24, .v (.int .i64 ((k:Nat):Int))),eS1 55 (some ⟨b,0,none⟩) k cap,eS1 57 (some ⟨b14,0,none⟩) 1 1] [(1,43,[.v (.int .i64 v), .v (.slice A ts.length c)])] ?_
       refine Zko (d:=58) (k:=10) (n:=k) (m:=1) (cap:=cap) (bytes:=112) (t:=234) (e:=397) (s0:=.tmp 55) (x:=.tmp 57) (cur:=cur) (news:=[.int .i64 x012, .int .i64 x112, .int .i64 x212, .int .i64 x312, .int .i64 x412, .int .i64 x512, .bool s12, .slice A12 l12 c12, .bool t12, .slice B12 m12 d12]) (z:=(.agg #[.int .i64 0, .int .i64 0, .int .i64 0, .int .i64 0, .int .i64 0, .int .i64 0, .bool false, .slice none 0 0, .bool false, .slice none 0 0])) b b14 1 (fun w=>Glob w∧TRow w A ts) (fun w Q=>Q.1.1.1.2) (fun w Q=>Q.2) rfl (by decide) rfl hcur hkc hcm (hpos (by omega)) (by omega) hb (by simp [Value.oneCell']) (by simp only [maxLen]; omega) (by omega) (fun w w' R Q hF=>⟨hg.ext R,hT.ext R⟩) (fun b' cap' cur' hb' hcur' hkc' hcm' htk' hpos'=>?_)
       refine xr 1 [(1, .p 1 0),eS1 2 none 0 0,(3, .v (.bool false)),eS1 4 (some ⟨b',0,none⟩) (k + 1) cap',eS1 22 A ts.length c,(23, .v (.int .i64 ((ts.length:Nat):Int))),(24, .v (.int .i64 ((k:Nat):Int)))] [(1,43,[.v (.int .i64 v), .v (.slice A ts.length c)])] ?_
       refine xe (Zc3 (Zaa (Zab (xq 1 [(59, .v (.int .i64 (IntKind.i64.wrap (((k:Nat):Int) + 1))))] [] ?_))))
       rw [(show IntKind.i64.wrap (((k:Nat):Int) + 1)=((k + 1:Nat):Int) from by rw [IntKind.wrap_i64]; omega)]
       refine xq 1 [(24, .v (.int .i64 ((k + 1:Nat):Int)))] [] ?_
       refine xe ?_
       refine SXq.weak [(1, .p 1 0),(2, .v (.slice none 0 0)),(3, .v (.bool false)),(4, .v (.slice (some ⟨b',0,none⟩) (k + 1) cap')),(22, .v (.slice A ts.length c)),(23, .v (.int .i64 ((ts.length:Nat):Int))),(24, .v (.int .i64 (((k + 1):Nat):Int)))] [(1,43,[.v (.int .i64 v), .v (.slice A ts.length c)])] (Ψ:=fun w=>((Glob w∧TRow w A ts)∧Blk 397 w b' cur'.toArray)) (ZaX.of (by kernel_rfl)) (by kernel_rfl) (fun w Q=>⟨⟨Q.1.1,Q.1.2⟩,Q.2⟩) ?_
       exact Zcb ((1 + (ts.length - (k + 1)))) (by omega) ⟨(k + 1),b',cap',cur',rfl,rfl,hb',hcur',hkc',hcm',(fun _=>hpos'),hlt,(Ziu hwf ht hok (Or.inr (by rw [hu]; exact ho))),rfl⟩
      ·refine Zcu 19 [0,1,3,7,15,31,63,127,63,319,1023,2047,4095,63,8255,32767,65535,131071,262143] (by kernel_rfl) (by kernel_rfl) ZaD ?_
       refine xqg 5 [(38, .v (.bool false)),(40, .v (.bool (decide (((k:Nat):Int) > 0))))] ?_
       rw [(show decide (((k:Nat):Int) > 0)=true from decide_eq_true (by omega))]
       refine xqg 5 [(41, .v (.bool true)),eS1 43 A ts.length c,(45, .v (.int .i64 (IntKind.i64.wrap (((k:Nat):Int) - 1))))] ?_
       rw [(show IntKind.i64.wrap (((k:Nat):Int) - 1)=((k - 1:Nat):Int) from by rw [IntKind.wrap_i64]; omega)]
       refine xqj 46 (.pointer (some ⟨tb,tf + (k - 1) * 2,none⟩)) (fun w Q=>Zcc hA (t:=41) (e:=53) (sz:=2) (x:=.tmp 43) (ix:=.tmp 45) (len:=ts.length) (cap:=c) (i:=k - 1) (by omega)) ?_
       refine xqg 1 [(47, .v (.pointer (some ⟨tb,tf + (k - 1) * 2 + 1,none⟩)))] ?_
       refine xqj 48 (.slice u.A u.exps.length u.cap) (fun w Q=>by rw [← hu]; exact Zds hA (t:=22) (x:=.tmp 47) (ts:=ts) (j:=k - 1) (Q.1.1.2) (by omega)) ?_
       refine xqg 2 [eS1 50 t.A t.exps.length t.cap] ?_
       refine xqd 319 [.slice u.A u.exps.length u.cap, .slice t.A t.exps.length t.cap] 51 (fun _:Unit=>.int .i64 (ordF u.exps t.exps)) _ (fun w R Q=>(Zhh u.A t.A u.cap t.cap u.exps t.exps _ (hu ▸ TRow.exps Q.1.1.2 (by omega)) (ht ▸ TRow.exps Q.1.1.2 hlt) hul.2 hul.1.1 hul.1.2).mono (fun _ _ h=>ZaB h rfl)) (fun xx=>?_)
       refine xqg 1 [(52, .v (.bool (decide ((ordF u.exps t.exps)≤0))))] ?_
       rw [(show decide (ordF u.exps t.exps≤0)=true from decide_eq_true (by omega))]
       refine xqg 2 [(54, .v (.bool true))] ?_
       refine xz (xe (Zaa (xa (Zad (Zab (xq 2 [eS1 2 none 0 0,(3, .v (.bool false))] [] ?_))))))
       refine xe (Zaa (Zau (Zak (ZbK (Zak (Zak (ZbK (Zak ?_))))))))
       refine Zaq (v:=.tuple #[.slice none 0 0, .bool false]) (by kernel_rfl) (fun w' R Q=>?_)
       exact ZbT.of (Zlv (Zip (k:=k + 1) (Zl0 ht hu hk0 ho) _ hlt)) R
   ·have hge:ts.length≤k:=by have:=of_decide_eq_false hb10; omega
    refine ZcQ (ZaE (ZaE (Zdq (Zaa (Zad (Zab (xq 3 [eS1 2 (some ⟨b,0,none⟩) k cap,(3, .v (.bool true))] [] ?_)))))))
    refine xe (Zaa (Zau ?_))
    refine Zaq (v:=.tuple #[.slice (some ⟨b,0,none⟩) k cap, .bool true]) (by kernel_rfl) (fun w' R Q=>?_)
    exact ZbT.of (Zmx hv0 hv7 (by rw [show ts.length=k by omega]; exact hwf)) R
end Go.Proofs.YtcpjeaaapocoeaaGreatDoor

namespace Go.Proofs.YtcpjeaaapocoeaaGreatDoor
open Go.RowKit
theorem ZdL {w w':World} {e:Ending} {x y:Value} (h:e=.returned x∧w'=w) (hxy:x=y):Zba (fun _:Unit=>y) (fun _ _=>True) w e w':=by
 obtain ⟨rfl,rfl⟩:=h
 subst hxy
 exact ⟨(),rfl,Fr.refl _ _,BoxN.pure trivial⟩
section
variable {v:Int} {ts:List TermR} {u:TermR}
theorem Zl1 (h:4096 < ts.length):Zar v ts=false:=by unfold Zar; rw [decide_eq_false (by omega:¬ ts.length≤4096)]; rfl
theorem Zeo (a b c d:Bool):(a && (b && (c && d)))=((a && (b && c)) && d):=by cases a<;>cases b<;>cases c<;>rfl
theorem Zjg (h:(decide (0≤v) && (decide (v≤6) && wfT v ts ts.length))=false):Zar v ts=false:=by
 unfold Zar; rw [Zeo (decide (0≤v)),h,Bool.false_and,Bool.and_false]
theorem Zlj (h:(decide (0≤v) && (decide (v≤6) && wfT v ts ts.length))=true) (h0:ts.length=0):Zar v ts=true:=by
 unfold Zar; rw [Zeo (decide (0≤v)),h,decide_eq_true (by omega:ts.length≤4096),decide_eq_true h0]; rfl
theorem Zl2 (hL:¬ 4096 < ts.length) (h:(decide (0≤v) && (decide (v≤6) && wfT v ts ts.length))=true) (hu:ts[0]! = u) (hd:0≤degF u.exps):Zar v ts=true:=by
 unfold Zar; rw [Zeo (decide (0≤v)),h,decide_eq_true (by omega:ts.length≤4096),hu,decide_eq_true hd,Bool.or_true]; rfl
theorem Zl3 (h0:0 < ts.length) (hu:ts[0]! = u) (hd:¬ 0≤degF u.exps):Zar v ts=false:=by
 unfold Zar; rw [hu,decide_eq_false hd,decide_eq_false (by omega:¬ ts.length=0),Bool.or_false,Bool.and_false,Bool.and_false,Bool.and_false,Bool.and_false]
end
theorem Zkz (A:Option Addr) (c:Nat) (ts:List TermR) (v:Int) (w:World) (hg:Glob w) (hT:TRow w A ts) (hc:∀ i,i < ts.length→(bytes ts[i]!.coef).length≤570) (hx:∀ i,i < ts.length→ts[i]!.exps.length≤9223372036854775807) :
 Calls Tryz.prog 137 #[.agg #[.int .i64 v, .slice A ts.length c]] w (ZbT w (Zar v ts)):=by
 refine Za9 (Φ:=fun w=>(Glob w∧TRow w A ts)) Tryz.func137 rfl (by kernel_rfl) (fun w' hf=>⟨hg.ext hf,hT.ext hf⟩) ?_
 refine Zad (Zab (xq 3 [(1, .p 1 0),eS1 2 none 0 0,(3, .v (.bool false))] [(1,43,[.v (.int .i64 v), .v (.slice A ts.length c)])] ?_))
 refine xe (Zaa (Zad (Zad ?_)))
 by_cases hL:4096 < ts.length
 ·refine Zab (xq 4 [(9, .v (.bool (decide (((ts.length:Nat):Int) > 4096))))] [] ?_)
  rw [(show decide (((ts.length:Nat):Int) > 4096)=true from decide_eq_true (by omega))]
  refine xe (Zaa (xa (Zad (Zab (xq 2 [eS1 2 none 0 0,(3, .v (.bool false))] [] ?_)))))
  refine xe (Zaa (Zau (Zak ?_)))
  refine Zaq (v:=.tuple #[.slice none 0 0, .bool false]) (by kernel_rfl) (fun w' R Q=>?_)
  exact ZbT.of (Zl1 hL) R
 ·refine Zab (xq 4 [(9, .v (.bool (decide (((ts.length:Nat):Int) > 4096))))] [] ?_)
  rw [(show decide (((ts.length:Nat):Int) > 4096)=false from decide_eq_false (by omega))]
  refine xe (Zaa (xb (ZaK (Zaa (Zad (Zab (xq 1 [(11, .v (.agg #[.int .i64 v, .slice A ts.length c]))] [] ?_)))))))
  cases hw:(decide (0≤v) && (decide (v≤6) && wfT v ts ts.length))
  ·refine xqc 245 [.agg #[.int .i64 v, .slice A ts.length c]] 12 (fun x:ShN=>.tuple #[.slice x.1 x.2.1 x.2.2, .bool false]) _ (fun w R Q=>(ZgG A c ts v _ Q.1 Q.2 (by omega) hc hx).mono (fun _ _ h=>Zg7 (by rw [hw] at h; exact h))) (fun xx=>?_)
   obtain ⟨A10,l10,c10⟩:=xx
   refine xq 5 [eS1 4 A10 l10 c10,(5, .v (.bool false))] [] ?_
   refine xe (Zaa (Zad (Zad (Zab (xq 17 [(31, .v (.bool true))] [] ?_)))))
   refine xe (Zaa (xa (Zad (Zab (xq 2 [eS1 2 none 0 0,(3, .v (.bool false))] [] ?_)))))
   refine xe (Zaa (Zau (Zak ?_)))
   refine Zaq (v:=.tuple #[.slice none 0 0, .bool false]) (by kernel_rfl) (fun w' R Q=>?_)
   exact ZbT.of (Zjg hw) R
  ·refine xqc 245 [.agg #[.int .i64 v, .slice A ts.length c]] 12 (fun x:ShN=>.tuple #[.slice x.1 x.2.1 x.2.2, .bool true]) _ (fun w R Q=>(ZgG A c ts v _ Q.1 Q.2 (by omega) hc hx).mono (fun _ _ h=>Zg7 (by rw [hw] at h; exact h))) (fun xx=>?_)
   obtain ⟨A11,l11,c11⟩:=xx
   refine xq 5 [eS1 4 A11 l11 c11,(5, .v (.bool true))] [] ?_
   refine xe (Zaa (Zad (Zad ?_)))
   by_cases h0:0 < ts.length
   ·obtain ⟨u,hu⟩:∃ x,ts[0]! = x:=⟨_,rfl⟩
    refine SXc.know (p:=∃ tb tf,A=some ⟨tb,tf,none⟩) (fun w _ Q=>TRow.at_ Q.1.2 h0) (fun hAe=>?_)
    obtain ⟨tb,tf,hA⟩:=hAe
    refine Zab (xq 7 [(17, .v (.bool false)),(21, .v (.bool (decide (((ts.length:Nat):Int) > 0))))] [] ?_)
    rw [(show decide (((ts.length:Nat):Int) > 0)=true from decide_eq_true (by omega))]
    refine xq 3 [(22, .v (.bool true)),eS1 24 A ts.length c] [] ?_
    refine xqk 25 (.pointer (some ⟨tb,tf + 0 * 2,none⟩)) (fun w R Q=>Zcc hA (t:=41) (e:=53) (sz:=2) (x:=.tmp 24) (ix:=.const (.int .i64 0)) (len:=ts.length) (cap:=c) (i:=0) h0) ?_
    refine xq 1 [(26, .v (.pointer (some ⟨tb,tf + 0 * 2 + 1,none⟩)))] [] ?_
    refine xqk 27 (.slice u.A u.exps.length u.cap) (fun w R Q=>by rw [← hu]; exact Zds hA (t:=22) (x:=.tmp 26) (ts:=ts) (j:=0) (Q.1.2) h0) ?_
    by_cases hd:0≤degF u.exps
    ·refine xqc 246 [.slice u.A u.exps.length u.cap] 28 (fun _:Unit=>.bool true) _ (fun w R Q=>(Zgj u.A u.cap u.exps _ (hu ▸ TRow.exps Q.1.2 h0) (hu ▸ hx 0 h0)).mono (fun _ _ h=>ZdL h (by rw [decide_eq_true hd]))) (fun xx=>?_)
     refine xq 3 [(31, .v (.bool false))] [] ?_
     refine xe (Zaa (xb (ZaK (Zaa (Zad (Zab (xq 3 [eS1 2 A11 l11 c11,(3, .v (.bool true))] [] ?_)))))))
     refine xe (Zaa (Zau ?_))
     refine Zaq (v:=.tuple #[.slice A11 l11 c11, .bool true]) (by kernel_rfl) (fun w' R Q=>?_)
     exact ZbT.of (Zl2 hL hw hu hd) R
    ·refine xqc 246 [.slice u.A u.exps.length u.cap] 28 (fun _:Unit=>.bool false) _ (fun w R Q=>(Zgj u.A u.cap u.exps _ (hu ▸ TRow.exps Q.1.2 h0) (hu ▸ hx 0 h0)).mono (fun _ _ h=>ZdL h (by rw [decide_eq_false hd]))) (fun xx=>?_)
     refine xq 3 [(31, .v (.bool true))] [] ?_
     refine xe (Zaa (xa (Zad (Zab (xq 2 [eS1 2 none 0 0,(3, .v (.bool false))] [] ?_)))))
     refine xe (Zaa (Zau (Zak ?_)))
     refine Zaq (v:=.tuple #[.slice none 0 0, .bool false]) (by kernel_rfl) (fun w' R Q=>?_)
     exact ZbT.of (Zl3 h0 hu hd) R
   ·refine Zab (xq 7 [(17, .v (.bool false)),(21, .v (.bool (decide (((ts.length:Nat):Int) > 0))))] [] ?_)
    rw [(show decide (((ts.length:Nat):Int) > 0)=false from decide_eq_false (by omega))]
    refine xq 10 [(31, .v (.bool false))] [] ?_
    refine xe (Zaa (xb (ZaK (Zaa (Zad (Zab (xq 3 [eS1 2 A11 l11 c11,(3, .v (.bool true))] [] ?_)))))))
    refine xe (Zaa (Zau ?_))
    refine Zaq (v:=.tuple #[.slice A11 l11 c11, .bool true]) (by kernel_rfl) (fun w' R Q=>?_)
    exact ZbT.of (Zlj hw (by omega)) R
theorem Zep (A:Option Addr) (c:Nat) (ts:List TermR) (v:Int) (w:World) (hg:Glob w) (hT:TRow w A ts) (hc:∀ i,i < ts.length→(bytes ts[i]!.coef).length≤570) (hx:∀ i,i < ts.length→ts[i]!.exps.length≤9223372036854775807) :
 Calls Tryz.prog 63 #[.agg #[.int .i64 v, .slice A ts.length c]] w (RetV w (.bool (Zar v ts))):=by
 refine Za9 (Φ:=fun w=>(Glob w∧TRow w A ts)) Tryz.func63 rfl (by kernel_rfl) (fun w' hf=>⟨hg.ext hf,hT.ext hf⟩) ?_
 refine Zad (Zab (xq 2 [(1, .p 1 0),(2, .v (.bool false))] [(1,43,[.v (.int .i64 v), .v (.slice A ts.length c)])] ?_))
 refine xe (Zaa (Zad (Zab (xq 1 [(6, .v (.agg #[.int .i64 v, .slice A ts.length c]))] [] ?_))))
 refine xqc 137 [.agg #[.int .i64 v, .slice A ts.length c]] 7 (fun x:ShN=>.tuple #[.slice x.1 x.2.1 x.2.2, .bool (Zar v ts)]) _ (fun w R Q=>(Zkz A c ts v _ Q.1 Q.2 hc hx).mono (fun _ _=>Zg7)) (fun xx=>?_)
 obtain ⟨A10,l10,c10⟩:=xx
 refine xq 5 [(4, .v (.bool (Zar v ts)))] [] ?_
 refine xe (Zaa (Zad (Zab (xq 2 [(2, .v (.bool (Zar v ts)))] [] ?_))))
 refine xe (Zaa (Zau ?_))
 refine Zaq (v:=.bool (Zar v ts)) (by kernel_rfl) (fun w' R Q=>?_)
 exact ⟨rfl,R⟩
end Go.Proofs.YtcpjeaaapocoeaaGreatDoor

namespace Go.Proofs.YtcpjeaaapocoeaaGreatDoor
open Go.RowKit
set_option maxHeartbeats 1000000 in
theorem ZjJ (lo b:Nat) (l:List UInt8) (w:World) (h:WrIs lo b l w) (h0:l≠[]) (hl:l.length≤1048576) :
 Calls Tryz.prog 46 #[.pointer (some ⟨b,0,none⟩)] w fun e w'=>e=.returned (.tuple #[.string ⟨l.toArray⟩, .int .i64 0])∧WrFr lo b w w':=by
 have H:=zh h
 have HL:((l.length:Nat):Int)≤1048576:=by omega
 clear h
 go_enter Tryz.func46,Tryz.ntmps46
 go_wp2_with fail
 refine (Zi3 lo b l _ H.out).mono ?_
 rintro e w1 ⟨rfl,rfl⟩
 go_wp2_with fail
 refine (Zj8 lo b l _ H.out h0).mono ?_
 rintro e w2 ⟨rfl,hF⟩
 have HF:=zh hF
 clear hF
 go_wp2
 go_ret2
 exact ⟨rfl,HF.out⟩
theorem Zlk (v:Int) (ts:List TermR):ZaF v ts≠[]:=by
 unfold ZaF ZaA
 simp
theorem Zam.range {v:Int} {t:TermR} (h:Zam v t=true) (hv:v≤6):t.exps.length≤6∧∀ j,j < t.exps.length→Zb7 (nth t.exps j):=by
 have h1:=Zam.exp h hv
 exact ⟨h1.1.1,fun j _=>by have:=h1.1.2 j; unfold Zb7; omega⟩
theorem Zar.parts {v:Int} {ts:List TermR} (h:Zar v ts=true):(0≤v∧v≤6)∧ts.length≤4096∧wfT v ts ts.length=true:=by
 unfold Zar at h
 simp only [Bool.and_eq_true,decide_eq_true_eq] at h
 exact ⟨⟨h.2.1,h.2.2.1⟩,h.1,h.2.2.2.1⟩
theorem WrIs.new {w:World} {lo b:Nat} (hb:lo≤b) (h:Blk 119 w b #[.pointer none, .slice none 0 0]):WrIs lo b [] w :=
 ⟨.pointer none,Or.inl rfl,hb, .slice none 0 0,h,World.ownsRow_nil w lo 5 1,fun e=>by cases e⟩
end Go.Proofs.YtcpjeaaapocoeaaGreatDoor

namespace Go.Proofs.YtcpjeaaapocoeaaGreatDoor
open Go.RowKit
def fpV (v:Int) (ts:List TermR):Value:=if Zar v ts then .tuple #[.string ⟨(ZaF v ts).toArray⟩, .int .i64 0] else .tuple #[.string ⟨#[]⟩, .int .i64 1]
def kts (b1 b2:Nat):List TermR:=[⟨⟨#[50]⟩,some ⟨b1,0,none⟩,2,[1,1]⟩,⟨⟨#[45,49]⟩,some ⟨b2,0,none⟩,2,[0,0]⟩]
theorem Ze4 {p:Nat→Prop} (h0:p 0) (h1:p 1) {i:Nat} (h:i < 2):p i:=by
 match i,h with
 | 0,_=>exact h0
 | 1,_=>exact h1
theorem Zl4 {w:World} {b1 b2 b3:Nat} (h1:Blk 3 w b1 #[.int .i64 1, .int .i64 1]) (h2:Blk 3 w b2 #[.int .i64 0, .int .i64 0]) (h3:Blk 53 w b3 #[.string ⟨#[50]⟩, .slice (some ⟨b1,0,none⟩) 2 2, .string ⟨#[45,49]⟩, .slice (some ⟨b2,0,none⟩) 2 2]):TRow w (some ⟨b3,0,none⟩) (kts b1 b2):=fun i hi=>by
 refine Ze4 (p:=fun i=>∃ b off,some (⟨b3,0,none⟩:Addr)=some ⟨b,off,none⟩∧b < w.heap.size∧w.cell? ⟨b,off + i * 2,none⟩=some (.string (kts b1 b2)[i]!.coef)∧w.cell? ⟨b,off + i * 2 + 1,none⟩=some (.slice (kts b1 b2)[i]!.A (kts b1 b2)[i]!.exps.length (kts b1 b2)[i]!.cap)∧IRow w (kts b1 b2)[i]!.A (kts b1 b2)[i]!.exps) ?_ ?_ hi
 ·exact ⟨b3,0,rfl,h3.lt,by rw [h3.cell]; rfl,by rw [h3.cell]; rfl,IRow.two h1⟩
 ·exact ⟨b3,0,rfl,h3.lt,by rw [h3.cell]; rfl,by rw [h3.cell]; rfl,IRow.two h2⟩
theorem Zll {b1 b2 i:Nat} (hi:i < (kts b1 b2).length):(bytes (kts b1 b2)[i]!.coef).length=if i=0 then 1 else 2:=Ze4 (p:=fun i=>(bytes (kts b1 b2)[i]!.coef).length=if i=0 then 1 else 2) rfl rfl hi
theorem Zl5 {b1 b2 i:Nat} (hi:i < (kts b1 b2).length):(kts b1 b2)[i]!.exps.length=2:=Ze4 (p:=fun i=>(kts b1 b2)[i]!.exps.length=2) rfl rfl hi
theorem Ze5 {n:Nat} (h:n < 10):Zae (n:Int)=⟨#[UInt8.ofNat (48 + n)]⟩:=by
 unfold Zae; rw [Lib.itoa_nonneg,Lib.decDigits_one h]
theorem Ziv (b1 b2:Nat):ZaF 2 (kts b1 b2)=[112,111,108,121,32,50,32,50,10,116,101,114,109,32,50,32,49,32,49,10,116,101,114,109,32,45,49,32,48,32,48,10]:=by
 have e0:Zae 0=⟨#[48]⟩:=Ze5 (n:=0) (by decide)
 have e1:Zae 1=⟨#[49]⟩:=Ze5 (n:=1) (by decide)
 have e2:Zae 2=⟨#[50]⟩:=Ze5 (n:=2) (by decide)
 have e3:Zae (((kts b1 b2).length:Nat):Int)=⟨#[50]⟩:=e2
 unfold ZaF ZaR
 rw [e3,e2]
 simp only [kts,List.flatMap_cons,List.flatMap_nil,List.map_cons,List.map_nil,e0,e1]
 rfl
theorem Zms (b1 b2:Nat):Zar 2 (kts b1 b2)=true:=by
 have r1:Zap (bytes ⟨#[50]⟩)=some 2:=ZfX.2 (by
  unfold Zby; rw [if_pos (by rfl)]; exact (Lib.itoa_nonneg 2).trans (Lib.decDigits_one (by decide)))
 have r2:Zap (bytes ⟨#[45,49]⟩)=some (-1):=ZfX.2 (by
  unfold Zby; rw [if_pos (by rfl)]; exact (Lib.itoa_neg 1 (by decide)).trans (congrArg (fun l=>45 :: l) (Lib.decDigits_one (by decide))))
 have c1:Zc8 (bytes ⟨#[50]⟩)=true:=by unfold Zc8; rw [r1]; rfl
 have c2:Zc8 (bytes ⟨#[45,49]⟩)=true:=by unfold Zc8; rw [r2]; rfl
 have t1:Zam 2 (kts b1 b2)[0]! = true:=by
  unfold Zam
  rw [show (kts b1 b2)[0]!.coef=⟨#[50]⟩ from rfl,c1]; rfl
 have t2:Zam 2 (kts b1 b2)[1]! = true:=by
  unfold Zam
  rw [show (kts b1 b2)[1]!.coef=⟨#[45,49]⟩ from rfl,c2]; rfl
 unfold Zar
 rw [show (kts b1 b2).length=2 from rfl]
 unfold wfT wfT
 rw [t1,t2]
 rfl
theorem Zl6 (b1 b2:Nat):fpV 2 (kts b1 b2)=.tuple #[.string ⟨#[112,111,108,121,32,50,32,50,10,116,101,114,109,32,50,32,49,32,49,10,116,101,114,109,32,45,49,32,48,32,48,10]⟩, .int .i64 0]:=by
 unfold fpV; rw [if_pos (Zms b1 b2),Ziv]
theorem ZdM (A:Option Addr) (c:Nat) (ts:List TermR) (v:Int) (w:World) (hg:Glob w) (hT:TRow w A ts) (hc:∀ i,i < ts.length→(bytes ts[i]!.coef).length≤570) (hx:∀ i,i < ts.length→ts[i]!.exps.length≤9223372036854775807) (hl:Zar v ts=true→(ZaF v ts).length≤1048576) :
 Calls Tryz.prog 20 #[.agg #[.int .i64 v, .slice A ts.length c]] w (RetV w (fpV v ts)):=by
 refine Za9 (Φ:=fun w=>(Glob w∧TRow w A ts)) Tryz.func20 rfl (by kernel_rfl) (fun w' hf=>⟨hg.ext hf,hT.ext hf⟩) ?_
 refine Zad (Zab (xq 3 [(1, .p 1 0),(2, .v (.string ⟨#[]⟩)),(3, .v (.int .i64 0))] [(1,43,[.v (.int .i64 v), .v (.slice A ts.length c)])] ?_))
 refine xe (Zaa (Zad (Zad (Zab (xq 1 [(5, .v (.agg #[.int .i64 v, .slice A ts.length c]))] [] ?_)))))
 cases hok:Zar v ts
 ·refine xqc 63 [.agg #[.int .i64 v, .slice A ts.length c]] 6 (fun _:Unit=>.bool false) _ (fun w R Q=>(Zep A c ts v _ Q.1 Q.2 hc hx).mono (fun _ _ h=>ZaB h (by rw [hok]))) (fun xx=>?_)
  refine xq 1 [(7, .v (.bool true))] [] ?_
  refine xe (Zaa (xa (Zad (Zab (xq 2 [(2, .v (.string ⟨#[]⟩)),(3, .v (.int .i64 1))] [] ?_)))))
  refine xe (Zaa (Zau (Zak ?_)))
  refine Zaq (v:=.tuple #[.string ⟨#[]⟩, .int .i64 1]) (by kernel_rfl) (fun w' R Q=>?_)
  exact ⟨by unfold fpV; rw [hok]; rfl,R⟩
 ·refine xqc 63 [.agg #[.int .i64 v, .slice A ts.length c]] 6 (fun _:Unit=>.bool true) _ (fun w R Q=>(Zep A c ts v _ Q.1 Q.2 hc hx).mono (fun _ _ h=>ZaB h (by rw [hok]))) (fun xx=>?_)
  refine xq 1 [(7, .v (.bool false))] [] ?_
  refine xe (Zaa (xb (ZaK (Zaa (Zad (Zab (xq 3 [(4, .p 9 0)] [(9,119,[.v (.pointer none), .v (.slice none 0 0)])] ?_)))))))
  refine xe (Zaa (Zad ?_))
  refine SXc.freezeN 9 119 [.pointer none, .slice none 0 0] (fun gw=>[(1, .p 1 0),(2, .v (.string ⟨#[]⟩)),(3, .v (.int .i64 0)),(4, .v (.pointer (some ⟨gw,0,none⟩)))]) [(1,43,[.v (.int .i64 v), .v (.slice A ts.length c)])] (by kernel_rfl) (fun _=>by kernel_rfl) (by kernel_rfl) (by kernel_rfl) (fun _=>by kernel_rfl) (fun gw hgw0=>?_)
  have hgw:w.heap.size≤gw:=hgw0.resolve_right (fun f=>f)
  have hp:=Zar.parts hok
  refine Zab (xq 2 [(10, .v (.pointer (some ⟨gw,0,none⟩))),(11, .v (.agg #[.int .i64 v, .slice A ts.length c]))] [] ?_)
  refine ZfS (d:=12) (lo:=w.heap.size) (g:=gw) (l:=[]) (v:=.tuple #[]) (fun w1=>WrIs w.heap.size gw (ZaF v ts) w1) 64 [.pointer (some ⟨gw,0,none⟩), .agg #[.int .i64 v, .slice A ts.length c]] (fun _ _ h k=>WrFr.old h hgw k) (by kernel_rfl) (fun w1 R Q=>Zks w w.heap.size gw [] A c ts v w1 rfl hgw hg hT R (WrIs.new hgw Q.2) (by unfold Zb7; omega) (fun i hi=>Zam.range (Zen hp.2.2 hi) hp.1.2) hp.2.1 (hl hok)) (fun w1 Q=>WrIs.new hgw Q.2) (fun _ _ _ hW hf h1 h2=>hW.fr hf h1 h2) ?_
  refine xr 0 [(2, .v (.string ⟨#[]⟩)),(3, .v (.int .i64 0)),(4, .v (.pointer (some ⟨gw,0,none⟩)))] [] ?_
  refine xe (Zaa (Zad (Zab (xq 1 [(13, .v (.pointer (some ⟨gw,0,none⟩)))] [] ?_))))
  refine ZfS (d:=14) (lo:=w.heap.size) (g:=gw) (l:=ZaF v ts) (v:=.tuple #[.string ⟨(ZaF v ts).toArray⟩, .int .i64 0]) (fun _=>True) 46 [.pointer (some ⟨gw,0,none⟩)] (fun _ _ h k=>WrFr.old h hgw k) (by kernel_rfl) (fun w1 R Q=>(ZjJ w.heap.size gw (ZaF v ts) w1 Q (Zlk v ts) (hl hok)).mono (fun _ _ h=>⟨h.1,trivial,h.2⟩)) (fun w1 Q=>Q) (fun _ _ _ _ _ _ _=>trivial) ?_
  refine xr 4 [(2, .v (.string ⟨(ZaF v ts).toArray⟩)),(3, .v (.int .i64 0))] [] ?_
  refine xe (Zaa (Zau ?_))
  refine Zaq (v:=.tuple #[.string ⟨(ZaF v ts).toArray⟩, .int .i64 0]) (by kernel_rfl) (fun w' R Q=>?_)
  exact ⟨by unfold fpV; rw [hok]; rfl,R⟩
theorem ZdU (w:World) (hg:Glob w) :
 Calls Tryz.prog 15 #[] w (RetV w (.bool true)):=by
 refine Za9 (Φ:=fun w=>Glob w) Tryz.func15 rfl (by kernel_rfl) (fun w' hf=>hg.ext hf) ?_
 refine Zad (Zab (xq 1 [(0, .v (.bool false))] [] ?_))
 refine xe (Zaa (Zad (Zab ?_)))
 refine Zcy (d:=4) (fun zb:Nat=>.slice (some ⟨zb,0,none⟩) 2 2) (fun zb zw=>Blk 3 zw zb #[.int .i64 1, .int .i64 1]) (by kernel_rfl) (by kernel_rfl) (by kernel_rfl) (by kernel_rfl) (by kernel_rfl) (by kernel_rfl) (fun w R Q=>ZbF (t:=22) (e:=3) (n:=2) (sz:=1) (z:=.int .i64 0) (parts:=#[(0,Operand.const (Value.int IntKind.i64 1)),(1,Operand.const (Value.int IntKind.i64 1))]) (by kernel_rfl) (by kernel_rfl) (by kernel_rfl) (by kernel_rfl) (by kernel_rfl) (by kernel_rfl)) (fun b10=>?_)
 refine xr 1 [(0, .v (.bool false)),(5, .v (.agg #[.string ⟨#[50]⟩, .slice (some ⟨b10,0,none⟩) 2 2]))] [] ?_
 refine Zcy (d:=6) (fun zb:Nat=>.slice (some ⟨zb,0,none⟩) 2 2) (fun zb zw=>Blk 3 zw zb #[.int .i64 0, .int .i64 0]) (by kernel_rfl) (by kernel_rfl) (by kernel_rfl) (by kernel_rfl) (by kernel_rfl) (by kernel_rfl) (fun w R Q=>ZbF (t:=22) (e:=3) (n:=2) (sz:=1) (z:=.int .i64 0) (parts:=#[(0,Operand.const (Value.int IntKind.i64 0)),(1,Operand.const (Value.int IntKind.i64 0))]) (by kernel_rfl) (by kernel_rfl) (by kernel_rfl) (by kernel_rfl) (by kernel_rfl) (by kernel_rfl)) (fun b11=>?_)
 refine xr 1 [(0, .v (.bool false)),(5, .v (.agg #[.string ⟨#[50]⟩, .slice (some ⟨b10,0,none⟩) 2 2])),(7, .v (.agg #[.string ⟨#[45,49]⟩, .slice (some ⟨b11,0,none⟩) 2 2]))] [] ?_
 refine Zcy (d:=8) (fun zb:Nat=>.slice (some ⟨zb,0,none⟩) 2 2) (fun zb zw=>Blk 53 zw zb #[.string ⟨#[50]⟩, .slice (some ⟨b10,0,none⟩) 2 2, .string ⟨#[45,49]⟩, .slice (some ⟨b11,0,none⟩) 2 2]) (by kernel_rfl) (by kernel_rfl) (by kernel_rfl) (by kernel_rfl) (by kernel_rfl) (by kernel_rfl) (fun w R Q=>ZbF (t:=41) (e:=53) (n:=2) (sz:=2) (z:=.agg #[.string ⟨#[]⟩, .slice none 0 0]) (parts:=#[(0,Operand.tmp 5),(1,Operand.tmp 7)]) (by kernel_rfl) (by kernel_rfl) (by kernel_rfl) (by kernel_rfl) (by kernel_rfl) (by kernel_rfl)) (fun b12=>?_)
 refine xr 1 [(0, .v (.bool false)),(9, .v (.agg #[.int .i64 2, .slice (some ⟨b12,0,none⟩) 2 2]))] [] ?_
 refine xqc 20 [.agg #[.int .i64 2, .slice (some ⟨b12,0,none⟩) 2 2]] 10 (fun _:Unit=>.tuple #[.string ⟨#[112,111,108,121,32,50,32,50,10,116,101,114,109,32,50,32,49,32,49,10,116,101,114,109,32,45,49,32,48,32,48,10]⟩, .int .i64 0]) _ (fun w R Q=>(ZdM (some ⟨b12,0,none⟩) 2 (kts b10 b11) 2 _ Q.1.1.1 (Zl4 Q.1.1.2 Q.1.2 Q.2) (fun i hi=>by rw [Zll hi]; split<;>decide) (fun i hi=>by rw [Zl5 hi]; decide) (fun _=>by rw [Ziv]; decide)).mono (fun _ _ h=>ZaB h (Zl6 _ _))) (fun xx=>?_)
 refine xq 5 [(1, .v (.string ⟨#[112,111,108,121,32,50,32,50,10,116,101,114,109,32,50,32,49,32,49,10,116,101,114,109,32,45,49,32,48,32,48,10]⟩)),(2, .v (.int .i64 0))] [] ?_
 refine xe (Zaa (Zad (Zab (xq 5 [(15, .v (.bool true)),(17, .v (.bool ((⟨#[112,111,108,121,32,50,32,50,10,116,101,114,109,32,50,32,49,32,49,10,116,101,114,109,32,45,49,32,48,32,48,10]⟩:ByteArray).toList == (⟨#[112,111,108,121,32,50,32,50,10,116,101,114,109,32,50,32,49,32,49,10,116,101,114,109,32,45,49,32,48,32,48,10]⟩:ByteArray).toList)))] [] ?_))))
 rw [Zeh]
 refine xq 2 [(0, .v (.bool true))] [] ?_
 refine xe (Zaa (Zau ?_))
 refine Zaq (v:=.bool true) (by kernel_rfl) (fun w' R Q=>?_)
 exact ⟨rfl,R⟩
end Go.Proofs.YtcpjeaaapocoeaaGreatDoor

namespace Go.Proofs.YtcpjeaaapocoeaaGreatDoor
open Go.RowKit
theorem ZjO (p:Value) (s:ByteArray) (q:Rat) (w:World) (hg:Glob w) (hs:(bytes s).length≤570) (h:Zap (bytes s)=some q) :
 Calls Tryz.prog 142 #[p, .string s] w (RetV w (.string s)):=by
 have hv:=ZkD s w hg hs
 rw [h] at hv
 clear h hs hg
 go_enter Tryz.func142,Tryz.ntmps142
 go_wp2_with fail
 refine hv.mono ?_
 rintro e w1 ⟨rfl,Q⟩
 have HE:=zh Q
 clear hv Q
 go_wp2_with fail
 refine (ZaV _ _).mono ?_
 rintro e w2 ⟨rfl,rfl⟩
 go_wp2
 go_ret
 exact ⟨rfl,HE.out⟩
theorem Zjh (b:Nat) (s k:ByteArray) (ss:List ByteArray) (p q n:Nat) (m:Int) (w:World) (hB:RdAt w b s p) (hL:LineAt s p k ss) (hs:s.size≤1048576) (hm:((n:Nat):Int)=m) (hn:ss.length=n) (hq:p + (ZaA k ss).length=q) :
 Calls Tryz.prog 141 #[.pointer (some ⟨b,0,none⟩), .string k, .int .i64 m] w fun e w'=>∃ A,e=.returned (.slice A n n)∧Fr (fun i=>i=b) w w'∧BoxF b w w' (fun w=>RdAt w b s q∧SRow w A ss):=by
 subst hn hq
 exact Zkq b s k ss p m w hB hL hs hm
theorem RdAt.cell0 {w:World} {b p:Nat} {s:ByteArray} (h:RdAt w b s p):w.cell? ⟨b,0,none⟩=some (.string s):=by rw [Blk.cell h]; rfl
-- the words of a valid polynomial's text
theorem ZgH {z:Int} (h:0≤z):∀ x ∈ bytes (Zae z),48≤x.toNat∧x.toNat≤57:=fun x hx=>by
 have hx':x ∈ Lib.itoa z:=hx
 rw [Zch h] at hx'
 exact ZeU _ x hx'
theorem Zda {l:List UInt8} {c:UInt8} (h:∀ x ∈ l,x.toNat≠c.toNat):c ∉ l:=fun hc=>h c hc rfl
theorem ZgI {s:ByteArray} {q:Rat} (h:Zap (bytes s)=some q):∀ x ∈ bytes s,x.toNat=45∨x.toNat=47∨(48≤x.toNat∧x.toNat≤57):=by
 have e:=ZfX.1 h
 have hit:∀ (z:Int),∀ x ∈ Lib.itoa z,x.toNat=45∨x.toNat=47∨(48≤x.toNat∧x.toNat≤57):=fun z x hx=>by
  unfold Lib.itoa at hx
  split at hx
  ·rcases List.mem_cons.1 hx with rfl | hx
   ·left; rfl
   ·right; right; exact ZeU _ x hx
  ·right; right; exact ZeU _ x hx
 intro x hx
 rw [← e] at hx
 unfold Zby at hx
 split at hx
 ·exact hit _ x hx
 ·rcases List.mem_append.1 hx with hx | hx
  ·rcases List.mem_append.1 hx with hx | hx
   ·exact hit _ x hx
   ·obtain rfl:=List.mem_singleton.1 hx
    right; left; rfl
  ·exact hit _ x hx
def Ze6 (s:ByteArray):Prop:=(32:UInt8) ∉ bytes s∧(10:UInt8) ∉ bytes s
theorem Ze6.itoa {z:Int} (h:0≤z):Ze6 (Zae z) :=
 ⟨Zda (fun x hx=>by have:=ZgH h x hx; have h2:(32:UInt8).toNat=32:=rfl; omega),Zda (fun x hx=>by have:=ZgH h x hx; have h2:(10:UInt8).toNat=10:=rfl; omega)⟩
theorem Ze6.coef {s:ByteArray} {q:Rat} (h:Zap (bytes s)=some q):Ze6 s :=
 ⟨Zda (fun x hx=>by have:=ZgI h x hx; have h2:(32:UInt8).toNat=32:=rfl; omega),Zda (fun x hx=>by have:=ZgI h x hx; have h2:(10:UInt8).toNat=10:=rfl; omega)⟩
theorem LineAt.of {s k:ByteArray} {ss:List ByteArray} {pre r:List UInt8} {p:Nat} (hs:s.data.toList=pre ++ (ZaA k ss ++ r)) (hp:pre.length=p) (h:∀ x ∈ k :: ss,Ze6 x):LineAt s p k ss:=by
 subst hp
 refine ⟨⟨r,?_⟩,fun x hx=>(h x hx).1,fun x hx=>(h x hx).2⟩
 rw [hs,List.drop_left']
 ·unfold ZaA; simp
 ·rfl
def posT (v:Int) (ts:List TermR) (j:Nat):Nat:=(ZaA ZaY [Zae v,Zae ((ts.length:Nat):Int)] ++ (ts.take j).flatMap ZaR).length
theorem ZkE (v:Int) (ts:List TermR):0 + (ZaA ZaY [Zae v,Zae ((ts.length:Nat):Int)]).length=posT v ts 0:=by unfold posT; simp
theorem ZkF {v:Int} {ts:List TermR} {j:Nat} {t:TermR} (hlt:j < ts.length) (ht:ts[j]! = t):posT v ts j + (ZaA Zc9 (t.coef :: t.exps.map Zae)).length=posT v ts (j + 1):=by
 unfold posT
 rw [ZdI hlt ht,← List.append_assoc,List.length_append (bs:=ZaR t)]
 rfl
theorem Zlm {v:Int} {ts:List TermR} {s:ByteArray} (hs:s.data.toList=ZaF v ts) {j:Nat} (hj:ts.length≤j):posT v ts j=s.size:=by
 unfold posT
 rw [List.take_of_length_le hj,← Zaf s,show bytes s=ZaF v ts from hs]
 rfl
theorem ZkG {v:Int} {ts:List TermR} {s:ByteArray} (hs:s.data.toList=ZaF v ts) (hv:0≤v):LineAt s 0 ZaY [Zae v,Zae ((ts.length:Nat):Int)]:=by
 refine LineAt.of (pre:=[]) (r:=ts.flatMap ZaR) (by rw [hs]; rfl) rfl (fun x hx=>?_)
 simp only [List.mem_cons,List.not_mem_nil,or_false] at hx
 rcases hx with rfl | rfl | rfl
 ·exact ⟨by decide,by decide⟩
 ·exact .itoa hv
 ·exact .itoa (by omega)
theorem ZkH {v:Int} {ts:List TermR} {s:ByteArray} {j:Nat} {t:TermR} {q:Rat} (hs:s.data.toList=ZaF v ts) (hlt:j < ts.length) (ht:ts[j]! = t) (hq:Zap (bytes t.coef)=some q) (he:∀ i,i < t.exps.length→0≤nth t.exps i):LineAt s (posT v ts j) Zc9 (t.coef :: t.exps.map Zae):=by
 refine LineAt.of (pre:=ZaA ZaY [Zae v,Zae ((ts.length:Nat):Int)] ++ (ts.take j).flatMap ZaR) (r:=(ts.drop (j + 1)).flatMap ZaR) ?_ rfl (fun x hx=>?_)
 ·rw [hs]
  unfold ZaF
  rw [List.append_assoc]
  congr 1
  conv=>lhs; rw [← List.take_append_drop j ts,List.flatMap_append,List.drop_eq_getElem_cons hlt]
  rw [List.flatMap_cons,← getElem!_pos ts j hlt,ht]
  rfl
 ·rcases List.mem_cons.1 hx with rfl | hx
  ·exact ⟨by decide,by decide⟩
  rcases List.mem_cons.1 hx with rfl | hx
  ·exact .coef hq
  ·obtain ⟨z,hz,rfl⟩:=List.mem_map.1 hx
   obtain ⟨i,hi,e⟩:=List.getElem_of_mem hz
   have:=he i hi
   unfold nth at this
   rw [List.getElem?_eq_getElem hi,e] at this
   exact .itoa this
-- the terms that were read
def keyT (t:TermR):ByteArray × List Int:=(t.coef,t.exps)
def Zck (us:List TermR):List Value:=us.flatMap (fun t=>[.string t.coef, .slice t.A t.exps.length t.cap])
theorem ZiW (us:List TermR) (t:TermR):Zck (us ++ [t])=Zck us ++ [.string t.coef, .slice t.A t.exps.length t.cap]:=by unfold Zck; simp
def IEs (m0:Nat) (w:World) (us:List TermR):Prop:=∀ t ∈ us,∃ e,m0≤e∧t.A=some ⟨e,0,none⟩∧Blk 3 w e (Zbq t.exps)
theorem IEs.nil (m0:Nat) (w:World):IEs m0 w []:=fun t h=>by cases h
theorem IEs.fr {m0:Nat} {w w':World} {us:List TermR} {T:Nat→Prop} (h:IEs m0 w us) (hF:Fr T w w') (hT:∀ i,T i→i < m0):IEs m0 w' us:=fun t ht=>by
 obtain ⟨e,h1,h2,h3⟩:=h t ht
 exact ⟨e,h1,h2,h3.fr hF (fun h=>by have:=hT _ h; omega)⟩
theorem IEs.ext {m0:Nat} {w w':World} {us:List TermR} (h:IEs m0 w us) (hF:Ext w w'):IEs m0 w' us:=h.fr hF (fun _ f=>f.elim)
theorem IEs.snoc {m0 e:Nat} {w:World} {us:List TermR} {t:TermR} (h:IEs m0 w us) (he:m0≤e) (hA:t.A=some ⟨e,0,none⟩) (hB:Blk 3 w e (Zbq t.exps)):IEs m0 w (us ++ [t]):=fun u hu=>by
 rcases List.mem_append.1 hu with hu | hu
 ·exact h u hu
 ·obtain rfl:=List.mem_singleton.1 hu
  exact ⟨e,he,hA,hB⟩
abbrev ORow (m0:Nat) (w:World) (A:Option Addr) (cap n:Nat) (us:List TermR):Prop:=w.ownsRow m0 53 2 (.slice A n cap) n (Zck us)
theorem ORow.blk {m0 cap n i:Nat} {w:World} {A:Option Addr} {us:List TermR} (h:ORow m0 w A cap n us) (hA:A=some ⟨i,0,none⟩):m0≤i∧∃ cur,Blk 53 w i cur:=by
 rcases h.2 with ⟨h3,_⟩ | ⟨b,c3,cur,h3,h4,h5,_⟩
 ·rw [hA] at h3; cases h3
 ·rw [hA] at h3
  injection h3 with h3
  injection h3 with h3
  injection h3 with h3
  subst h3
  exact ⟨h4,cur,h5⟩
theorem ORow.fr {m0 cap n:Nat} {w w':World} {A:Option Addr} {us:List TermR} {T:Nat→Prop} (h:ORow m0 w A cap n us) (hF:Fr T w w') (hT:∀ i,T i→i < m0):ORow m0 w' A cap n us:=by
 obtain ⟨h1,h2⟩:=h
 refine ⟨h1,?_⟩
 rcases h2 with h2 | ⟨b,c3,cur,h3,h4,h5,h6⟩
 ·exact Or.inl h2
 ·exact Or.inr ⟨b,c3,cur,h3,h4,Blk.fr (show Blk 53 w b cur from h5) hF (fun h=>by have:=hT _ h; omega),h6⟩
theorem Zji {m0 cap n e:Nat} {w w':World} {A:Option Addr} {us:List TermR} {T:TypeId} {cs:Array Value} (h:Blk T w e cs) (hT:T≠53) (hO:ORow m0 w A cap n us) (hF:Fr (fun i=>A=some ⟨i,0,none⟩) w w'):Blk T w' e cs :=
 h.fr hF (fun hA=>by
  obtain ⟨_,cur,h2⟩:=hO.blk hA
  have h1:w.heap[e]? = some (.cells cs T (0,0)):=h
  have h3:w.heap[e]? = some (.cells cur 53 (0,0)):=h2
  rw [h1] at h3
  injection h3 with h3
  injection h3 with _ e _
  exact hT e)
theorem IEs.row {m0 cap n:Nat} {w w':World} {A:Option Addr} {us vs:List TermR} (h:IEs m0 w vs) (hO:ORow m0 w A cap n us) (hF:Fr (fun i=>A=some ⟨i,0,none⟩) w w'):IEs m0 w' vs:=fun t ht=>by
 obtain ⟨e,h1,h2,h3⟩:=h t ht
 exact ⟨e,h1,h2,Zji h3 (by decide) hO hF⟩
theorem Zhu:∀ (us:List TermR) (i:Nat),i < us.length→(Zck us)[i * 2]? = some (.string us[i]!.coef)∧(Zck us)[i * 2 + 1]? = some (.slice us[i]!.A us[i]!.exps.length us[i]!.cap)
 | [],i,h=>by cases h
 | t :: us,0,_=>⟨rfl,rfl⟩
 | t :: us,i + 1,h=>by
   have:=Zhu us i (by simpa using h)
   have e:Zck (t :: us)=.string t.coef :: .slice t.A t.exps.length t.cap :: Zck us:=rfl
   rw [e,show (i + 1) * 2=i * 2 + 1 + 1 by omega]
   simpa using this
theorem TRow.of {m0 cap:Nat} {w:World} {A:Option Addr} {us:List TermR} (hO:ORow m0 w A cap us.length us) (hI:IEs m0 w us):TRow w A us:=fun i hi=>by
 rcases hO.2 with ⟨_,h3⟩ | ⟨b,c3,cur,h3,h4,h5,_,_,_,h6⟩
 ·omega
 ·injection h3 with h3
  subst h3
  have hB:Blk 53 w b cur:=h5
  obtain ⟨c1,c2⟩:=Zhu us i hi
  have hc:∀ j,j < us.length * 2→cur[j]? = (Zck us)[j]? := fun j hj=>by
   rw [← h6,List.getElem?_take_of_lt hj]; simp
  have hm:us[i]! ∈ us:=by rw [getElem!_pos us i hi]; exact List.getElem_mem hi
  obtain ⟨e,_,hA,Q⟩:=hI _ hm
  refine ⟨b,0,rfl,hB.lt,?_,?_,?_⟩
  ·rw [hB.cell,Nat.zero_add,hc _ (by omega),c1]
  ·rw [hB.cell,Nat.zero_add,hc _ (by omega),c2]
  ·rw [hA]; exact IRow.cells Q
-- validity hangs on coefficients and exponents alone
theorem Zdt {us ts:List TermR} (h:us.map keyT=ts.map keyT) (i:Nat):us[i]!.coef=ts[i]!.coef∧us[i]!.exps=ts[i]!.exps:=by
 have hl:us.length=ts.length:=by have:=congrArg List.length h; simpa using this
 by_cases hi:i < us.length
 ·have h1:(us.map keyT)[i]? = (ts.map keyT)[i]? := by rw [h]
  rw [List.getElem?_map,List.getElem?_map,List.getElem?_eq_getElem hi,List.getElem?_eq_getElem (by omega)] at h1
  rw [getElem!_pos us i hi,getElem!_pos ts i (by omega)]
  simp only [Option.map_some,Option.some.injEq,keyT,Prod.mk.injEq] at h1
  exact h1
 ·rw [getElem!_neg us i hi,getElem!_neg ts i (by omega)]
  exact ⟨rfl,rfl⟩
theorem ZiX {v:Int} {t u:TermR} (h:t.coef=u.coef∧t.exps=u.exps):Zam v t=Zam v u:=by
 unfold Zam; rw [h.1,h.2]
theorem Ziw {v:Int} {us ts:List TermR} (h:us.map keyT=ts.map keyT):∀ k,wfT v us k=wfT v ts k
 | 0=>rfl
 | k + 1=>by
   unfold wfT
   rw [Ziw h k,ZiX (Zdt h k),(Zdt h k).2,(Zdt h (k - 1)).2]
theorem ZiY {v:Int} {us ts:List TermR} (h:us.map keyT=ts.map keyT):Zar v us=Zar v ts:=by
 have hl:us.length=ts.length:=by have:=congrArg List.length h; simpa using this
 unfold Zar
 rw [hl,Ziw h,(Zdt h 0).2]
theorem ZkI {us ts:List TermR} {j:Nat} {t u:TermR} (h:us.map keyT=(ts.take j).map keyT) (hlt:j < ts.length) (ht:ts[j]! = t) (hu:keyT u=keyT t):(us ++ [u]).map keyT=(ts.take (j + 1)).map keyT:=by
 rw [List.take_succ_eq_append_getElem hlt,List.map_append,List.map_append,h,← getElem!_pos ts j hlt,ht,List.map_singleton,List.map_singleton,hu]
theorem Zln {us ts:List TermR} {j:Nat} (h:us.map keyT=(ts.take j).map keyT) (hj:j≤ts.length):us.length=j:=by
 have:=congrArg List.length h
 rw [List.length_map,List.length_map,List.length_take] at this
 omega
theorem Zam.coef {v:Int} {t:TermR} (h:Zam v t=true):∃ q,Zap (bytes t.coef)=some q:=by
 unfold Zam Zc8 at h
 split at h
 ·exact ⟨_,by assumption⟩
 ·cases h
theorem Zam.exps' {v:Int} {t:TermR} (h:Zam v t=true) (hv:v≤6):(t.exps.length≤6∧(t.exps.length:Int)=v)∧∀ i,i < t.exps.length→0≤nth t.exps i∧nth t.exps i≤1000000000:=by
 have h1:=Zam.exp h hv
 exact ⟨⟨h1.1.1,h1.2⟩,fun i _=>by have:=h1.1.2 i; omega⟩
theorem Zey {m0:Nat} {w w':World} {en:Ending} {zs:List Int} {n:Nat} (hm:m0≤w.heap.size) (hn:zs.length=n) (h:∃ b,en=.returned (.slice (some ⟨b,0,none⟩) zs.length zs.length)∧w.heap.size≤b∧Blk 3 w' b (Zbq zs)∧Ext w w') :
 Zba (fun b:{b:Nat // m0≤b}=>.slice (some ⟨b.1,0,none⟩) n n) (fun b w=>Blk 3 w b.1 (Zbq zs)) w en w':=by
 subst hn
 obtain ⟨b,rfl,hb,hB,Q⟩:=h
 exact ⟨⟨b,by omega⟩,rfl,Q,fun S hS w'' hF=>hB.fr hF (fun h=>by have:=(hS _ h).1; omega)⟩
-- the slice of a line's words behind the first
def Zfm (A:Option Addr) (n:Nat):Option Addr:=if n + 1=1 then A else A.map (·.add 1)
theorem SRow.ne {w:World} {A:Option Addr} {x:ByteArray} {ss:List ByteArray} (h:SRow w A (x :: ss)):A≠none:=by
 obtain ⟨b,off,_,_,e,_⟩:=h (by simp); rw [e]; simp
theorem SRow.tail {w:World} {A:Option Addr} {x:ByteArray} {ss:List ByteArray} {n:Nat} (h:SRow w A (x :: ss)) (hn:ss.length=n):SRow w (Zfm A n) ss:=fun h0=>by
 obtain ⟨b,off,cs,f,e,hcs,hc⟩:=h (by simp)
 have hn0:¬ n + 1=1:=by
  subst hn
  cases ss with
  | nil=>exact absurd rfl h0
  | cons _ _=>simp
 refine ⟨b,off + 1,cs,f,?_,hcs,fun i hi=>?_⟩
 ·unfold Zfm; rw [if_neg hn0,e]; rfl
 ·have:=hc (i + 1) (by simpa using hi)
  rw [Nat.add_assoc,Nat.add_comm 1 i,this]; simp
section
variable {P:Program} {o:Oper} {ρ:Operand→Value} {w:World} {t e:TypeId} {x:Operand}
theorem Zl9 {A:Option Addr} {y:ByteArray} {ss:List ByteArray} (hS:SRow w A (y :: ss)) (ho:o.op=Op.load t x:=by kernel_rfl) (hx:ρ x=atA A (0 * 1):=by kernel_rfl) (ha:(teOf P t).map (fun e=>e.agg)=some false:=by kernel_rfl) :
 (execOp ρ o).run P w=.ok (.value (.string y)) w:=by
 obtain ⟨g,off,cs,f,rfl,hcs,hc⟩:=hS (by simp)
 have h0:=hc 0 (by simp)
 refine ZgA (g:=g) (off:=off) (c:=.string y) ?_ ho (by rw [hx,atA,Option.map_some,ZbR,Nat.zero_mul]; rfl) ha
 rw [Lib.cell_of_heap hcs]
 simpa using h0
theorem Zma {A:Option Addr} {n:Nat} (ho:o.op=Op.slice t x (some (.const (.int .i64 1))) none none:=by kernel_rfl) (ht:P.underlying t=some (.slice e):=by kernel_rfl) (hs:(P.info? e).map (fun i=>i.size)=some 1:=by kernel_rfl)
 (hx:ρ x=.slice A (n + 1) (n + 1):=by kernel_rfl) (hl:ρ (.const (.int .i64 1))=.int .i64 1:=by kernel_rfl):(execOp ρ o).run P w=.ok (.value (.slice (Zfm A n) n n)) w :=
 Zla (l:=1) (by omega) ho ht hs hx hl
end
theorem ZkJ {v:Int} {n:Nat} (hv:0≤v∧v≤6) (hn:n≤4096):∀ i,i < [v,((n:Nat):Int)].length→0≤nth [v,((n:Nat):Int)] i∧nth [v,((n:Nat):Int)] i≤1000000000:=fun i hi=>by
 match i,hi with
 | 0,_=>exact ⟨hv.1,by show v≤1000000000; omega⟩
 | 1,_=>exact ⟨by show (0:Int)≤(n:Int); omega,by show (n:Int)≤1000000000; omega⟩
theorem ZkK (wl:World) (b:Nat) (s:ByteArray) (v:Int) (ts:List TermR) (w:World) (hgl:Glob wl) (h0:Ext wl w) (hbl:wl.heap.size≤b) (hB:RdAt w b s 0) (hs:s.data.toList=ZaF v ts) (hok:Zar v ts=true) (hc:∀ i,i < ts.length→(bytes ts[i]!.coef).length≤570) (hsz:s.size≤1048576) :
 Calls Tryz.prog 66 #[.pointer (some ⟨b,0,none⟩)] w (fun e w'=>∃ A c us,e=.returned (.agg #[.int .i64 v, .slice A us.length c])∧us.map keyT=ts.map keyT∧(ORow w.heap.size w' A c us.length us∧IEs w.heap.size w' us)∧RdAt w' b s s.size∧Fr (fun i=>i=b) w w'):=by
 obtain ⟨m0,hm0⟩:∃ m,m=w.heap.size:=⟨_,rfl⟩
 have hbm:b < m0:=hm0 ▸ Blk.lt hB
 have hp:=Zar.parts hok
 have hgE:∀ w',Fr (fun i=>i=b) w w'→Glob w':=fun w' hF=>hgl.ext (h0.next hF (fun i hi e=>by omega))
 have hx6:∀ i,i < ts.length→ts[i]!.exps.length≤6:=fun i hi=>(Zam.exps' (Zen hp.2.2 hi) hp.1.2).1.1
 refine Zhr (fun i=>i=b) (Φ:=fun w=>RdAt w b s (0)) Tryz.func66 rfl (by kernel_rfl) (fun w' hf=>Blk.ext hB hf) ?_
 refine Zad (Zab (xq 1 [(2, .p 2 0)] [(2,43,[.v (.int .i64 0), .v (.slice none 0 0)])] ?_))
 refine xe (Zaa (Zad (Zab (xq 2 [(8, .v (.pointer (some ⟨b,0,none⟩))),(9, .v (.pointer (some ⟨b,0,none⟩)))] [] ?_))))
 refine Zim (b:=b) (d:=10) (c:=.string s) (j:=0) 141 [.pointer (some ⟨b,0,none⟩), .string ZaY, .int .i64 2] (fun A:Option Addr=>.slice A (2) (2)) (fun w=>True) (fun A w=>RdAt w b s (posT v ts 0)∧SRow w A ([Zae v,Zae ((ts.length:Nat):Int)])) (fun w Q=>RdAt.cell0 Q) (Or.inr rfl) (fun w1 R Q=>Zjh b s ZaY ([Zae v,Zae ((ts.length:Nat):Int)]) (0) (posT v ts 0) (2) (2) w1 Q (ZkG hs hp.1.1) hsz (rfl) (rfl) (ZkE v ts)) (fun w w2 R Q hF=>trivial) (fun W10=>?_)
 refine xr 0 [(0, .v (.pointer (some ⟨b,0,none⟩))),(2, .p 2 0),(8, .v (.pointer (some ⟨b,0,none⟩))),eS1 10 W10 2 2] [(2,43,[.v (.int .i64 0), .v (.slice none 0 0)])] ?_
 refine xqc 140 [.pointer (some ⟨b,0,none⟩), .slice W10 2 2] 11 (fun zb:{e:Nat // m0≤e}=>.slice (some ⟨zb.1,0,none⟩) 2 2) _ (fun w R Q=>(Ze2 _ W10 2 [v,((ts.length:Nat):Int)] _ Q.2.2 (ZkJ hp.1 hp.2.1) (by simp)).mono (fun _ _ h=>Zey (hm0 ▸ R.size) rfl h)) (fun zb11=>?_)
 obtain ⟨e11,he11⟩:=zb11
 refine xq 1 [eS1 3 (some ⟨e11,0,none⟩) 2 2] [] ?_
 refine xe (Zaa (Zad ?_))
 refine Zfh 8 (by kernel_rfl) (by kernel_rfl) ZaD ?_
 refine xqg 1 [eS1 12 (some ⟨e11,0,none⟩) 2 2] ?_
 refine xqj 13 (atA (some ⟨e11,0,none⟩) (0 * 1)) (fun w Q=>ZbS (t:=22) (e:=3) (sz:=1) (x:=.tmp 12) (ix:=.const (.int .i64 0)) (len:=2) (cap:=2) (i:=0) (by simp) (by decide)) ?_
 refine xqj 14 (.int .i64 v) (fun w Q=>Zd7 (t:=3) (x:=.tmp 13) (zs:=[v,((ts.length:Nat):Int)]) (j:=0) (IRow.cells Q.2) (by simp)) ?_
 refine xqg 1 [eS1 15 (some ⟨e11,0,none⟩) 2 2] ?_
 refine xqj 16 (atA (some ⟨e11,0,none⟩) (1 * 1)) (fun w Q=>ZbS (t:=22) (e:=3) (sz:=1) (x:=.tmp 15) (ix:=.const (.int .i64 1)) (len:=2) (cap:=2) (i:=1) (by simp) (by decide)) ?_
 refine xqj 17 (.int .i64 ((ts.length:Nat):Int)) (fun w Q=>Zd7 (t:=3) (x:=.tmp 16) (zs:=[v,((ts.length:Nat):Int)]) (j:=1) (IRow.cells Q.2) (by simp)) ?_
 refine xqg 2 [(4, .v (.int .i64 v)),(5, .v (.int .i64 ((ts.length:Nat):Int)))] ?_
 refine xz (xe (Zaa (Zad (Zab (xq 3 [(18, .v (.pointer (some ⟨b,0,none⟩))),(20, .v (.bool (decide (v≤6))))] [] ?_)))))
 rw [(show decide (v≤6)=true from decide_eq_true hp.1.2)]
 refine xq 3 [(21, .v (.bool true)),(23, .v (.bool (decide (((ts.length:Nat):Int)≤4096))))] [] ?_
 rw [(show decide (((ts.length:Nat):Int)≤4096)=true from decide_eq_true (by omega))]
 refine xq 1 [(24, .v (.bool true))] [] ?_
 refine xqc 139 [.pointer (some ⟨b,0,none⟩), .bool true] 25 (fun _:Unit=>.tuple #[]) _ (fun w R Q=>(ZaV _ _).mono (fun _ _ h=>ZdL h rfl)) (fun xx=>?_)
 refine xe (Zaa (Zad (Zab (xq 4 [(6, .p 6 0)] [(6,43,[.v (.int .i64 v), .v (.slice none 0 0)])] ?_))))
 refine xe (Zaa (Zad (Zad (Zab (xq 2 [(28, .v (.int .i64 ((ts.length:Nat):Int))),(29, .v (.int .i64 0))] [] ?_)))))
 refine xe (Zaa (Za8 ?_))
 refine SXc.weak [(0, .v (.pointer (some ⟨b,0,none⟩))),(2, .p 2 0),(4, .v (.int .i64 v)),(6, .p 6 0),(28, .v (.int .i64 ((ts.length:Nat):Int))),(29, .v (.int .i64 ((0:Nat):Int)))] [(6,43,[.v (.int .i64 v), .v (.slice none 0 0)]),(2,43,[.v (.int .i64 0), .v (.slice none 0 0)])] (Ψ:=fun w=>((RdAt w b s (posT v ts 0)∧ORow m0 w none 0 0 [])∧IEs m0 w [])) (ZaX.of (by kernel_rfl)) (by kernel_rfl) (fun w Q=>⟨⟨Q.1.1.2.1,World.ownsRow_nil w m0 53 2⟩,IEs.nil m0 w⟩) ?_
 refine ZcR (fun nn ss ff=>∃ (j cap:Nat) (A:Option Addr) (us:List TermR),ss=ofL [(0, .v (.pointer (some ⟨b,0,none⟩))),(2, .p 2 0),(4, .v (.int .i64 v)),(6, .p 6 0),(28, .v (.int .i64 ((ts.length:Nat):Int))),(29, .v (.int .i64 ((j:Nat):Int)))] [(6,43,[.v (.int .i64 v), .v (.slice A j cap)]),(2,43,[.v (.int .i64 0), .v (.slice none 0 0)])]∧ff=(fun w=>((RdAt w b s (posT v ts j)∧ORow m0 w A cap j us)∧IEs m0 w us))∧(j≤ts.length)∧(us.map keyT=(ts.take j).map keyT)∧(j=0→A=none)∧nn=(1 + (ts.length - j))) ((1 + (ts.length - 0))) ⟨0,0,none,[],rfl,rfl,(Nat.zero_le _),rfl,(fun _=>rfl),rfl⟩ ?_
 rintro nn ss ff ⟨j,cap,A,us,rfl,rfl,hj,hus,hA,rfl⟩
 refine Zad (Zab (xq 1 [(30, .v (.bool (decide (((j:Nat):Int) < ((ts.length:Nat):Int)))))] [] ?_))
 refine xe (Zaa (Zad ?_))
 refine Zcz ((decide (((j:Nat):Int) < ((ts.length:Nat):Int)))) (by kernel_rfl) (fun hb12=>?_) (fun hb12=>?_)
 ·have hlt:j < ts.length:=by have:=of_decide_eq_true hb12; omega
  obtain ⟨t,ht⟩:∃ x,ts[j]! = x:=⟨_,rfl⟩
  have htok:Zam v t=true:=ht ▸ Zen hp.2.2 hlt
  obtain ⟨qt,hqt⟩:=Zam.coef htok
  have hte:=Zam.exps' htok hp.1.2
  have htl:=hte.1.2
  refine ZaK (Zaa (Zad (Za8 (Zad (Zab (xq 3 [(31, .v (.pointer (some ⟨b,0,none⟩))),(33, .v (.int .i64 (IntKind.i64.wrap (v + 1))))] [] ?_))))))
  rw [(show IntKind.i64.wrap (v + 1)=v + 1 from by rw [IntKind.wrap_i64]; omega)]
  refine Zim (b:=b) (d:=34) (c:=.string s) (j:=0) 141 [.pointer (some ⟨b,0,none⟩), .string Zc9, .int .i64 (v + 1)] (fun A:Option Addr=>.slice A (t.exps.length + 1) (t.exps.length + 1)) (fun w=>(ORow m0 w A cap j us∧IEs m0 w us)) (fun A w=>RdAt w b s (posT v ts (j + 1))∧SRow w A (t.coef :: t.exps.map Zae)) (fun w Q=>RdAt.cell0 Q.1.1) (Or.inr rfl) (fun w1 R Q=>Zjh b s Zc9 (t.coef :: t.exps.map Zae) (posT v ts j) (posT v ts (j + 1)) (t.exps.length + 1) ((v + 1)) w1 Q.1.1 (ZkH hs hlt ht hqt (fun i hi=>(hte.2 i hi).1)) hsz ((by omega)) ((by simp)) (ZkF hlt ht)) (fun w w2 R Q hF=>⟨ORow.fr (Q.1.2) hF (fun i h=>by have h:i=b:=h; omega),IEs.fr (Q.2) hF (fun i h=>by have h:i=b:=h; omega)⟩) (fun W13=>?_)
  refine xr 1 [(0, .v (.pointer (some ⟨b,0,none⟩))),(2, .p 2 0),(4, .v (.int .i64 v)),(6, .p 6 0),eS1 7 W13 (t.exps.length + 1) (t.exps.length + 1),(28, .v (.int .i64 ((ts.length:Nat):Int))),(29, .v (.int .i64 ((j:Nat):Int)))] [(6,43,[.v (.int .i64 v), .v (.slice A j cap)]),(2,43,[.v (.int .i64 0), .v (.slice none 0 0)])] ?_
  refine xe (Zaa ?_)
  refine Zcu 13 [0,1,0,0,8,24,60,0,0,256,1020,2044,4092] (by kernel_rfl) (by kernel_rfl) ZaD ?_
  refine xqg 4 [eS1 36 A j cap,(37, .v (.pointer (some ⟨b,0,none⟩))),eS1 38 W13 (t.exps.length + 1) (t.exps.length + 1)] ?_
  refine xqj 39 (atA W13 (0 * 1)) (fun w Q=>ZbS (t:=59) (e:=9) (sz:=1) (x:=.tmp 38) (ix:=.const (.int .i64 0)) (len:=t.exps.length + 1) (cap:=t.exps.length + 1) (i:=0) (SRow.ne Q.2.2) (by omega)) ?_
  refine xqj 40 (.string t.coef) (fun w Q=>Zl9 (t:=9) (x:=.tmp 39) Q.2.2) ?_
  refine xqd 142 [.pointer (some ⟨b,0,none⟩), .string t.coef] 41 (fun _:Unit=>.string t.coef) _ (fun w R Q=>(ZjO _ t.coef qt _ (hgE _ R) (ht ▸ hc j hlt) hqt).mono (fun _ _ h=>ZaB h rfl)) (fun xx=>?_)
  refine xqg 2 [(42, .v (.pointer (some ⟨b,0,none⟩))),eS1 43 W13 (t.exps.length + 1) (t.exps.length + 1)] ?_
  refine xqj 44 (.slice (Zfm W13 t.exps.length) t.exps.length t.exps.length) (fun w Q=>Zma (t:=59) (e:=9) (x:=.tmp 43) (n:=t.exps.length)) ?_
  refine xqd 140 [.pointer (some ⟨b,0,none⟩), .slice (Zfm W13 t.exps.length) t.exps.length t.exps.length] 45 (fun zb:{e:Nat // m0≤e}=>.slice (some ⟨zb.1,0,none⟩) t.exps.length t.exps.length) _ (fun w R Q=>(Ze2 _ (Zfm W13 t.exps.length) t.exps.length t.exps _ (Q.1.2.2.tail (List.length_map _)) hte.2 (by omega)).mono (fun _ _ h=>Zey (hm0 ▸ R.size) rfl h)) (fun zb14=>?_)
  obtain ⟨e14,he14⟩:=zb14
  refine xqg 1 [(46, .v (.agg #[.string t.coef, .slice (some ⟨e14,0,none⟩) t.exps.length t.exps.length]))] ?_
  refine ZlO 47 (fun zb:Nat=>.slice (some ⟨zb,0,none⟩) 1 1) (fun zb zw=>Blk 53 zw zb #[.string t.coef, .slice (some ⟨e14,0,none⟩) t.exps.length t.exps.length]) (by kernel_rfl) (by kernel_rfl) (by kernel_rfl) (by kernel_rfl) (by kernel_rfl) (by kernel_rfl) (by kernel_rfl) (fun w R Q=>ZbF (t:=41) (e:=53) (n:=1) (sz:=2) (z:=.agg #[.string ⟨#[]⟩, .slice none 0 0]) (parts:=#[(0,Operand.tmp 46)]) (by kernel_rfl) (by kernel_rfl) (by kernel_rfl) (by kernel_rfl) (by kernel_rfl) (by kernel_rfl)) (fun b15=>?_)
  refine xf 0 [(0, .v (.pointer (some ⟨b,0,none⟩))),(2, .p 2 0),(4, .v (.int .i64 v)),(6, .p 6 0),(28, .v (.int .i64 ((ts.length:Nat):Int))),(29, .v (.int .i64 ((j:Nat):Int))),eS1 36 A j cap,eS1 47 (some ⟨b15,0,none⟩) 1 1] [(6,43,[.v (.int .i64 v), .v (.slice A j cap)]),(2,43,[.v (.int .i64 0), .v (.slice none 0 0)])] ?_
  refine xz ?_
  refine ZlQ (base:=m0) (d:=48) (k:=2) (n:=j) (m:=1) (cap:=cap) (bytes:=40) (t:=41) (e:=53) (s0:=.tmp 36) (x:=.tmp 47) (xs:=Zck us) (news:=[.string t.coef, .slice (some ⟨e14,0,none⟩) t.exps.length t.exps.length]) (z:=(.agg #[.string ⟨#[]⟩, .slice none 0 0])) hm0.symm A b15 1 (fun w=>((RdAt w b s (posT v ts (j + 1))∧IEs m0 w us)∧Blk 3 w e14 (Zbq t.exps))) (fun w Q=>Q.1.1.1.1.1) (fun w Q=>Q.2) rfl (by decide) rfl (by decide) (by simp [Value.oneCell']) (by have:=hp.2.1; simp only [maxLen]; omega) (by have:=hp.2.1; omega) hA (fun w w2 R Q hF=>⟨⟨Blk.fr Q.1.1.1.2.1 hF (fun h=>by have:=(ORow.blk Q.1.1.1.1.1 h).1; omega),IEs.row Q.1.1.1.1.2 Q.1.1.1.1.1 hF⟩,Zji Q.1.2 (by decide) Q.1.1.1.1.1 hF⟩) (fun A' cap' hA'=>?_)
  refine xr 2 [(0, .v (.pointer (some ⟨b,0,none⟩))),(2, .p 2 0),(4, .v (.int .i64 v)),(6, .p 6 0),(28, .v (.int .i64 ((ts.length:Nat):Int))),(29, .v (.int .i64 ((j:Nat):Int)))] [(6,43,[.v (.int .i64 v), .v (.slice A' (j + 1) cap')]),(2,43,[.v (.int .i64 0), .v (.slice none 0 0)])] ?_
  refine xe (Zc3 (Zaa (Zab (xq 1 [(50, .v (.int .i64 (IntKind.i64.wrap (((j:Nat):Int) + 1))))] [] ?_))))
  rw [(show IntKind.i64.wrap (((j:Nat):Int) + 1)=((j + 1:Nat):Int) from by rw [IntKind.wrap_i64]; omega)]
  refine xq 1 [(29, .v (.int .i64 ((j + 1:Nat):Int)))] [] ?_
  refine xe ?_
  refine SXq.weak [(0, .v (.pointer (some ⟨b,0,none⟩))),(2, .p 2 0),(4, .v (.int .i64 v)),(6, .p 6 0),(28, .v (.int .i64 ((ts.length:Nat):Int))),(29, .v (.int .i64 (((j + 1):Nat):Int)))] [(6,43,[.v (.int .i64 v), .v (.slice A' (j + 1) cap')]),(2,43,[.v (.int .i64 0), .v (.slice none 0 0)])] (Ψ:=fun w=>((RdAt w b s (posT v ts (j + 1))∧ORow m0 w A' cap' (j + 1) (us ++ [⟨t.coef,some ⟨e14,0,none⟩,t.exps.length,t.exps⟩]))∧IEs m0 w (us ++ [⟨t.coef,some ⟨e14,0,none⟩,t.exps.length,t.exps⟩]))) (ZaX.of (by kernel_rfl)) (by kernel_rfl) (fun w Q=>⟨⟨Q.1.1.1,(by unfold ORow; rw [ZiW]; exact Q.2)⟩,IEs.snoc Q.1.1.2 he14 rfl Q.1.2⟩) ?_
  exact Zcb ((1 + (ts.length - (j + 1)))) (by omega) ⟨(j + 1),cap',A',(us ++ [⟨t.coef,some ⟨e14,0,none⟩,t.exps.length,t.exps⟩]),rfl,rfl,hlt,(ZkI hus hlt ht rfl),(fun h=>by omega),rfl⟩
 ·have hge:ts.length≤j:=by have:=of_decide_eq_false hb12; omega
  have hul:=Zln hus hj
  have hkeys:us.map keyT=ts.map keyT:=by rw [hus,List.take_of_length_le hge]
  have hlen:us.length=ts.length:=by omega
  obtain rfl:us.length=j:=hul
  refine ZcQ (ZaE (ZaE (Zdq (Zaa (Zad (Zab (xq 2 [(51, .v (.pointer (some ⟨b,0,none⟩))),(52, .v (.agg #[.int .i64 v, .slice A us.length cap]))] [] ?_)))))))
  refine xqc 63 [.agg #[.int .i64 v, .slice A us.length cap]] 53 (fun _:Unit=>.bool true) _ (fun w R Q=>(Zep A cap us v _ (hgE _ R) (TRow.of (us:=us) Q.1.2 Q.2) (fun i hi=>by rw [(Zdt hkeys i).1]; exact hc i (by omega)) (fun i hi=>by rw [(Zdt hkeys i).2]; exact Nat.le_trans (hx6 i (by omega)) (by decide))).mono (fun _ _ h=>ZaB h (by rw [ZiY hkeys,hok]))) (fun xx=>?_)
  refine xqc 139 [.pointer (some ⟨b,0,none⟩), .bool true] 54 (fun _:Unit=>.tuple #[]) _ (fun w R Q=>(ZaV _ _).mono (fun _ _ h=>ZdL h rfl)) (fun xx=>?_)
  refine xe (Zaa (Zad (Zab (xq 2 [] [(2,43,[.v (.int .i64 v), .v (.slice A us.length cap)])] ?_))))
  refine xe (Zaa (Zau ?_))
  refine Zaq (v:=.agg #[.int .i64 v, .slice A us.length cap]) (by kernel_rfl) (fun w' R Q=>?_)
  exact ⟨A,cap,us,rfl,hkeys,⟨hm0 ▸ Q.1.1.1.2,hm0 ▸ Q.1.1.2⟩,by have h:=Q.1.1.1.1; rw [Zlm hs hge] at h; exact h,R⟩
end Go.Proofs.YtcpjeaaapocoeaaGreatDoor
