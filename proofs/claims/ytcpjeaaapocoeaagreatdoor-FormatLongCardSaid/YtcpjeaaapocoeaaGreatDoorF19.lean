/-
 My texts Nr, Ng, Nf, Nt, Nd, Nrd, RdK, Po, Pw2, Pv, Wr, Wr2, FgL put together.
-/
import Derived.Test.YtcpjeaaapocoeaaGreatDoorF17
import Derived.Test.YtcpjeaaapocoeaaGreatDoorF18
import Derived.Test.YtcpjeaaapocoeaaGreatDoorF16
import Derived.Laws.IdiomStrings
set_option maxRecDepth 100000
namespace Go.Proofs.YtcpjeaaapocoeaaGreatDoor
open Go.RowKit
end Go.Proofs.YtcpjeaaapocoeaaGreatDoor

namespace Go.Proofs.YtcpjeaaapocoeaaGreatDoor
open Go.RowKit
end Go.Proofs.YtcpjeaaapocoeaaGreatDoor

namespace Go.Proofs.YtcpjeaaapocoeaaGreatDoor
open Go.RowKit
end Go.Proofs.YtcpjeaaapocoeaaGreatDoor

namespace Go.Proofs.YtcpjeaaapocoeaaGreatDoor
open Go.RowKit
end Go.Proofs.YtcpjeaaapocoeaaGreatDoor

namespace Go.Proofs.YtcpjeaaapocoeaaGreatDoor
open Go.RowKit
end Go.Proofs.YtcpjeaaapocoeaaGreatDoor

namespace Go.Proofs.YtcpjeaaapocoeaaGreatDoor
open Go.RowKit
end Go.Proofs.YtcpjeaaapocoeaaGreatDoor

namespace Go.Proofs.YtcpjeaaapocoeaaGreatDoor
open Go.RowKit
theorem ZkO {α:Type} (o:Option α):o=none∨∃ x,o=some x:=by cases o; exact Or.inl rfl; exact Or.inr ⟨_,rfl⟩
section
variable {w w':World} {e:Ending} {l:List UInt8}
theorem Zgu (h:ZeI w l e w') (hr:Zaz l=none):ZbQ (fun x:ShQ=>.tuple #[ZeJ x, .bool false]) (fun x w=>ZaN w (ZeJ x) 0) w e w':=by
 obtain ⟨v,ok,rfl,Q,⟨rfl,q,h1,h2⟩ | ⟨rfl,h1,h2⟩⟩:=h
 ·rw [hr] at h1; cases h1
 ·obtain ⟨s,A,l,c,t,B,m,d,rfl⟩:=h2.shp
  exact ⟨(s,A,l,c,t,B,m,d),rfl,Q,boxn Q (fun S w'' hS hF=>h2.nrb hS hF)⟩
theorem Zgv {q:Rat} (h:ZeI w l e w') (hr:Zaz l=some q):ZbQ (fun x:ShQ=>.tuple #[ZeJ x, .bool true]) (fun x w=>ZaN w (ZeJ x) q) w e w':=by
 obtain ⟨v,ok,rfl,Q,⟨rfl,q,h1,h2⟩ | ⟨rfl,h1,h2⟩⟩:=h
 ·rw [hr] at h1; injection h1 with h1; subst h1
  obtain ⟨s,A,l,c,t,B,m,d,rfl⟩:=h2.shp
  exact ⟨(s,A,l,c,t,B,m,d),rfl,Q,boxn Q (fun S w'' hS hF=>h2.nrb hS hF)⟩
 ·rw [hr] at h1; cases h1
end
end Go.Proofs.YtcpjeaaapocoeaaGreatDoor

namespace Go.Proofs.YtcpjeaaapocoeaaGreatDoor
open Go.RowKit
def Zcd (w:World) (ok:Bool) (e:Ending) (w':World):Prop:=∃ (x0 x1 x2 x3 x4 x5:Int) (s:Bool) (A:Option Addr) (l c:Nat) (t:Bool) (B:Option Addr) (m d:Nat),
 e=.returned (.tuple #[.agg #[.int .i64 x0, .int .i64 x1, .int .i64 x2, .int .i64 x3, .int .i64 x4, .int .i64 x5, .bool s, .slice A l c, .bool t, .slice B m d], .bool ok])∧Ext w w'
theorem Zcd.of {w w':World} {ok r:Bool} {x0 x1 x2 x3 x4 x5:Int} {s:Bool} {A:Option Addr} {l c:Nat} {t:Bool} {B:Option Addr} {m d:Nat} (h:ok=r) (Q:Ext w w') :
 Zcd w ok (.returned (.tuple #[.agg #[.int .i64 x0, .int .i64 x1, .int .i64 x2, .int .i64 x3, .int .i64 x4, .int .i64 x5, .bool s, .slice A l c, .bool t, .slice B m d], .bool r])) w':=by
 subst h; exact ⟨_,_,_,_,_,_,_,_,_,_,_,_,_,_,rfl,Q⟩
section
variable {v:Int} {t:TermR} {q:Rat}
theorem Zin (hr:Zaz (bytes t.coef)=none):Zav v t=false:=by simp [Zav,Zdn,hr]
theorem Zio (hr:Zaz (bytes t.coef)=some q) (hz:q.num=0):Zav v t=false:=by
 have:q=0:=by rw [← Rat.num_divInt_den q,hz,Rat.zero_divInt]
 simp [Zav,Zdn,hr,this]
theorem ZkP (h:¬ (t.exps.length:Int)=v):Zav v t=false:=by simp [Zav,h]
theorem Zip (h:t.exps.all expB=false):Zav v t=false:=by unfold Zav; rw [h,Bool.and_false,Bool.and_false]
theorem ZkQ (hr:Zaz (bytes t.coef)=some q) (hz:¬ q.num=0) (h:(t.exps.length:Int)=v) (ha:t.exps.all expB=true):Zav v t=true:=by
 have:q≠0:=by rintro rfl; exact hz rfl
 simp only [Zav,Zdn,hr]
 rw [ha,decide_eq_true h,decide_eq_true this]; rfl
theorem Ziq {z:Int} (h:z < 0∨1048576 < z):expB z=false:=by
 unfold expB
 rcases h with h | h
 ·rw [decide_eq_false (by omega:¬ 0≤z)]; rfl
 ·rw [decide_eq_false (by omega:¬ z≤1048576),Bool.and_false]
end
theorem Zeu (t:TermR) (v:Int) (w:World) (hg:Glob w) (hs:(bytes t.coef).length≤570) (hl:t.exps.length≤9223372036854775807) (hv:v≤6) (hI:IRow w t.A t.exps) :
 Calls Tryz.prog 318 #[.int .i64 v, .agg #[.string t.coef, .slice t.A t.exps.length t.cap]] w (Zcd w (Zav v t)):=by
 refine ZaR (Φ:=fun w=>(Glob w∧IRow w t.A t.exps)) Tryz.func318 rfl (by kernel_rfl) (fun w' hf=>⟨hg.ext hf,hI.ext hf⟩) ?_
 refine Zac (Zaa (xq 3 [(3, .p 3 0),(4, .p 4 0),(5, .v (.bool false))] [(4,397,[.v (.int .i64 0), .v (.int .i64 0), .v (.int .i64 0), .v (.int .i64 0), .v (.int .i64 0), .v (.int .i64 0), .v (.bool false), .v (.slice none 0 0), .v (.bool false), .v (.slice none 0 0)]),(3,53,[.v (.string t.coef), .v (.slice t.A t.exps.length t.cap)])] ?_))
 refine xe (Zab (Zac (Zaa (xq 2 [(13, .v (.string t.coef))] [] ?_))))
 rcases ZkO (Zaz (bytes t.coef)) with hr | ⟨q,hr⟩
 ·refine xqc 236 [.string t.coef] 14 (fun x:ShQ=>.tuple #[ZeJ x, .bool false]) _ (fun w R Q=>(ZhB t.coef _ Q.1 (Zep.of_len hs)).mono (fun _ _ h=>Zgu h hr)) (fun xx=>?_)
  obtain ⟨s10,A10,l10,c10,t10,B10,m10,d10⟩:=xx
  refine xq 6 [(6, .p 6 0),(7, .v (.bool false))] [bR4 6 142 s10 A10 l10 c10 t10 B10 m10 d10] ?_
  refine xe (Zab (Zac (Zac ?_)))
  by_cases hlen:(t.exps.length:Int)=v
  ·refine Zaa (xq 13 [(29, .v (.bool true))] [] ?_)
   refine xe (Zab (xa (Zac (Zaa (xq 3 [(5, .v (.bool false))] [] ?_)))))
   refine xe (Zab (Zau (Zal ?_)))
   refine Zao (v:=.tuple #[.agg #[.int .i64 0, .int .i64 0, .int .i64 0, .int .i64 0, .int .i64 0, .int .i64 0, .bool false, .slice none 0 0, .bool false, .slice none 0 0], .bool false]) (by kernel_rfl) (fun w' R Q=>?_)
   exact Zcd.of (Zin hr) R
  ·refine Zaa (xq 13 [(29, .v (.bool true))] [] ?_)
   refine xe (Zab (xa (Zac (Zaa (xq 3 [(5, .v (.bool false))] [] ?_)))))
   refine xe (Zab (Zau (Zal ?_)))
   refine Zao (v:=.tuple #[.agg #[.int .i64 0, .int .i64 0, .int .i64 0, .int .i64 0, .int .i64 0, .int .i64 0, .bool false, .slice none 0 0, .bool false, .slice none 0 0], .bool false]) (by kernel_rfl) (fun w' R Q=>?_)
   exact Zcd.of (Zin hr) R
 ·refine xqc 236 [.string t.coef] 14 (fun x:ShQ=>.tuple #[ZeJ x, .bool true]) _ (fun w R Q=>(ZhB t.coef _ Q.1 (Zep.of_len hs)).mono (fun _ _ h=>Zgv h hr)) (fun xx=>?_)
  obtain ⟨s11,A11,l11,c11,t11,B11,m11,d11⟩:=xx
  refine xq 6 [(6, .p 6 0),(7, .v (.bool true))] [bR4 6 142 s11 A11 l11 c11 t11 B11 m11 d11] ?_
  refine xe (Zab (Zac (Zac ?_)))
  by_cases hlen:(t.exps.length:Int)=v
  ·refine Zaa (xq 4 [(19, .v (.bool false)),eR4 20 s11 A11 l11 c11 t11 B11 m11 d11] [] ?_)
   by_cases hz:q.num=0
   ·refine xqc 131 [vR4 s11 A11 l11 c11 t11 B11 m11 d11] 21 (fun _:Unit=>.bool true) _ (fun w R Q=>(ZcM _ q _ Q.2).mono (fun _ _ h=>ZaD h (by rw [decide_eq_true hz]))) (fun xx=>?_)
    refine xq 8 [(29, .v (.bool true))] [] ?_
    refine xe (Zab (xa (Zac (Zaa (xq 3 [(5, .v (.bool false))] [] ?_)))))
    refine xe (Zab (Zau (Zal ?_)))
    refine Zao (v:=.tuple #[.agg #[.int .i64 0, .int .i64 0, .int .i64 0, .int .i64 0, .int .i64 0, .int .i64 0, .bool false, .slice none 0 0, .bool false, .slice none 0 0], .bool false]) (by kernel_rfl) (fun w' R Q=>?_)
    exact Zcd.of (Zio hr hz) R
   ·refine xqc 131 [vR4 s11 A11 l11 c11 t11 B11 m11 d11] 21 (fun _:Unit=>.bool false) _ (fun w R Q=>(ZcM _ q _ Q.2).mono (fun _ _ h=>ZaD h (by rw [decide_eq_false hz]))) (fun xx=>?_)
    refine xq 7 [(23, .v (.bool false)),(28, .v (.bool ((((t.exps.length:Nat):Int):Int) != v)))] [] ?_
    rw [(show (((t.exps.length:Nat):Int) != v)=false from by simp [hlen])]
    refine xq 1 [(29, .v (.bool false))] [] ?_
    refine xe (Zab (xb (Za8 (Zab (Zac (Zac (Zaa (xq 4 [eS1 32 t.A t.exps.length t.cap,(33, .v (.int .i64 ((t.exps.length:Nat):Int))),(34, .v (.int .i64 0))] [] ?_))))))))
    refine xe (Zab (ZbY ?_))
    refine SXc.weak [(3, .p 3 0),(4, .p 4 0),(5, .v (.bool false)),(6, .p 6 0),(32, .v (.slice t.A t.exps.length t.cap)),(33, .v (.int .i64 ((t.exps.length:Nat):Int))),(34, .v (.int .i64 ((0:Nat):Int)))] [(6,142,[.v (.bool s11), .v (.slice A11 l11 c11), .v (.bool t11), .v (.slice B11 m11 d11)]),(4,397,[.v (.int .i64 0), .v (.int .i64 0), .v (.int .i64 0), .v (.int .i64 0), .v (.int .i64 0), .v (.int .i64 0), .v (.bool false), .v (.slice none 0 0), .v (.bool false), .v (.slice none 0 0)]),(3,53,[.v (.string t.coef), .v (.slice t.A t.exps.length t.cap)])] (Ψ:=fun w=>(IRow w t.A t.exps∧ZaN w (.agg #[.bool s11, .slice A11 l11 c11, .bool t11, .slice B11 m11 d11]) (q))) (Za7.of (by kernel_rfl)) (by kernel_rfl) (fun w Q=>⟨Q.1.1.2,Q.1.2⟩) ?_
    refine ZeK (fun nn ss ff=>∃ (k:Nat),ss=ofL [(3, .p 3 0),(4, .p 4 0),(5, .v (.bool false)),(6, .p 6 0),(32, .v (.slice t.A t.exps.length t.cap)),(33, .v (.int .i64 ((t.exps.length:Nat):Int))),(34, .v (.int .i64 ((k:Nat):Int)))] [(6,142,[.v (.bool s11), .v (.slice A11 l11 c11), .v (.bool t11), .v (.slice B11 m11 d11)]),(4,397,[.v (.int .i64 0), .v (.int .i64 0), .v (.int .i64 0), .v (.int .i64 0), .v (.int .i64 0), .v (.int .i64 0), .v (.bool false), .v (.slice none 0 0), .v (.bool false), .v (.slice none 0 0)]),(3,53,[.v (.string t.coef), .v (.slice t.A t.exps.length t.cap)])]∧ff=(fun w=>(IRow w t.A t.exps∧ZaN w (.agg #[.bool s11, .slice A11 l11 c11, .bool t11, .slice B11 m11 d11]) (q)))∧(k≤t.exps.length)∧(∀ i,i < k→expB (nth t.exps i)=true)∧nn=(1 + (t.exps.length - k))) ((1 + (t.exps.length - 0))) ⟨0,rfl,rfl,(Nat.zero_le _),(fun i hi=>absurd hi (Nat.not_lt_zero i)),rfl⟩ ?_
    rintro nn ss ff ⟨k,rfl,rfl,hk,hall,rfl⟩
    refine Zac (Zaa (xq 1 [(35, .v (.bool (decide (((k:Nat):Int) < ((t.exps.length:Nat):Int)))))] [] ?_))
    refine xe (Zab (Zac ?_))
    refine ZcY ((decide (((k:Nat):Int) < ((t.exps.length:Nat):Int)))) (by kernel_rfl) (fun hb12=>?_) (fun hb12=>?_)
    ·have hlt:k < t.exps.length:=by have:=of_decide_eq_true hb12; omega
     refine Za8 (Zab (Zac (ZbY (Zac (Zaa ?_)))))
     refine xqk 36 (atA t.A (k * 1)) (fun w R Q=>ZdX (t:=22) (e:=3) (sz:=1) (x:=.tmp 32) (ix:=.tmp 34) (len:=t.exps.length) (cap:=t.cap) (i:=k) ((Q.1).ne hlt) hlt) ?_
     refine xqk 37 (.int .i64 (nth t.exps k)) (fun w R Q=>ZkK (t:=3) (x:=.tmp 36) (zs:=t.exps) (j:=k) (Q.1) hlt) ?_
     refine xq 1 [(9, .v (.int .i64 (nth t.exps k)))] [] ?_
     refine xe (Zab (Zac ?_))
     by_cases h0:nth t.exps k < 0
     ·refine Zaa (xq 2 [(39, .v (.bool (decide ((nth t.exps k) < 0))))] [] ?_)
      rw [(show decide (nth t.exps k < 0)=true from decide_eq_true h0)]
      refine xq 4 [(43, .v (.bool true))] [] ?_
      refine xe (Zab (xa (Zac (Zaa (xq 3 [(5, .v (.bool false))] [] ?_)))))
      refine xe (Zab (Zau (ZbB (Zal (Zal (ZbB (Zal ?_)))))))
      refine Zao (v:=.tuple #[.agg #[.int .i64 0, .int .i64 0, .int .i64 0, .int .i64 0, .int .i64 0, .int .i64 0, .bool false, .slice none 0 0, .bool false, .slice none 0 0], .bool false]) (by kernel_rfl) (fun w' R Q=>?_)
      exact Zcd.of (Zip (ZhH hlt (Ziq (Or.inl h0)))) R
     ·by_cases h1:1048576 < nth t.exps k
      ·refine Zaa (xq 2 [(39, .v (.bool (decide ((nth t.exps k) < 0))))] [] ?_)
       rw [(show decide (nth t.exps k < 0)=false from decide_eq_false h0)]
       refine xq 3 [(40, .v (.bool false)),(42, .v (.bool (decide ((nth t.exps k) > 1048576))))] [] ?_
       rw [(show decide (nth t.exps k > 1048576)=true from decide_eq_true h1)]
       refine xq 1 [(43, .v (.bool true))] [] ?_
       refine xe (Zab (xa (Zac (Zaa (xq 3 [(5, .v (.bool false))] [] ?_)))))
       refine xe (Zab (Zau (ZbB (Zal (Zal (ZbB (Zal ?_)))))))
       refine Zao (v:=.tuple #[.agg #[.int .i64 0, .int .i64 0, .int .i64 0, .int .i64 0, .int .i64 0, .int .i64 0, .bool false, .slice none 0 0, .bool false, .slice none 0 0], .bool false]) (by kernel_rfl) (fun w' R Q=>?_)
       exact Zcd.of (Zip (ZhH hlt (Ziq (Or.inr h1)))) R
      ·refine Zaa (xq 2 [(39, .v (.bool (decide ((nth t.exps k) < 0))))] [] ?_)
       rw [(show decide (nth t.exps k < 0)=false from decide_eq_false h0)]
       refine xq 3 [(40, .v (.bool false)),(42, .v (.bool (decide ((nth t.exps k) > 1048576))))] [] ?_
       rw [(show decide (nth t.exps k > 1048576)=false from decide_eq_false h1)]
       refine xq 1 [(43, .v (.bool false))] [] ?_
       refine xe (Zab (xb (Za8 (ZdF (Zab (Zaa (xq 1 [(45, .v (.int .i64 (IntKind.i64.wrap (((k:Nat):Int) + 1))))] [] ?_)))))))
       rw [show IntKind.i64.wrap ((((k:Nat):Int) + 1))=((k + 1:Nat):Int) from by rw [IntKind.wrap_i64]; omega]
       refine xq 1 [(34, .v (.int .i64 ((k + 1:Nat):Int)))] [] ?_
       refine xe ?_
       refine SXq.weak [(3, .p 3 0),(4, .p 4 0),(5, .v (.bool false)),(6, .p 6 0),(32, .v (.slice t.A t.exps.length t.cap)),(33, .v (.int .i64 ((t.exps.length:Nat):Int))),(34, .v (.int .i64 (((k + 1):Nat):Int)))] [(6,142,[.v (.bool s11), .v (.slice A11 l11 c11), .v (.bool t11), .v (.slice B11 m11 d11)]),(4,397,[.v (.int .i64 0), .v (.int .i64 0), .v (.int .i64 0), .v (.int .i64 0), .v (.int .i64 0), .v (.int .i64 0), .v (.bool false), .v (.slice none 0 0), .v (.bool false), .v (.slice none 0 0)]),(3,53,[.v (.string t.coef), .v (.slice t.A t.exps.length t.cap)])] (Ψ:=fun w=>(IRow w t.A t.exps∧ZaN w (.agg #[.bool s11, .slice A11 l11 c11, .bool t11, .slice B11 m11 d11]) (q))) (Za7.of (by kernel_rfl)) (by kernel_rfl) (fun w Q=>⟨Q.1,Q.2⟩) ?_
       exact ZcE ((1 + (t.exps.length - (k + 1)))) (by omega) ⟨(k + 1),rfl,rfl,hlt,(fun i hi=>by rcases (by omega:i < k∨i=k) with h | rfl; exact hall i h; exact ZkM h0 h1),rfl⟩
    ·have hge:t.exps.length≤k:=by have:=of_decide_eq_false hb12; omega
     refine ZeE (Za3 (Za3 (ZfL (Zab (Zac (Zaa (xq 1 [(10, .p 10 0)] [(10,397,[.v (.int .i64 0), .v (.int .i64 0), .v (.int .i64 0), .v (.int .i64 0), .v (.int .i64 0), .v (.int .i64 0), .v (.bool false), .v (.slice none 0 0), .v (.bool false), .v (.slice none 0 0)])] ?_)))))))
     refine xe (Zab (Zac (Zaa (xq 3 [] [(10,397,[.v (.int .i64 0), .v (.int .i64 0), .v (.int .i64 0), .v (.int .i64 0), .v (.int .i64 0), .v (.int .i64 0), .v (.bool s11), .v (.slice A11 l11 c11), .v (.bool t11), .v (.slice B11 m11 d11)])] ?_))))
     refine xe (Zab (Zac ?_))
     refine SXc.freezeN 10 397 [.int .i64 0, .int .i64 0, .int .i64 0, .int .i64 0, .int .i64 0, .int .i64 0, .bool s11, .slice A11 l11 c11, .bool t11, .slice B11 m11 d11] (fun gr=>[(3, .p 3 0),(4, .p 4 0),(5, .v (.bool false)),(10, .v (.pointer (some ⟨gr,0,none⟩)))]) [(4,397,[.v (.int .i64 0), .v (.int .i64 0), .v (.int .i64 0), .v (.int .i64 0), .v (.int .i64 0), .v (.int .i64 0), .v (.bool false), .v (.slice none 0 0), .v (.bool false), .v (.slice none 0 0)]),(3,53,[.v (.string t.coef), .v (.slice t.A t.exps.length t.cap)])] (by kernel_rfl) (fun _=>by kernel_rfl) (by kernel_rfl) (by kernel_rfl) (fun _=>by kernel_rfl) (fun gr hgr=>?_)
     refine Zkz 4 (by kernel_rfl) (by kernel_rfl) Zbh ?_
     refine xqg 4 [eS1 49 (some ⟨gr,0,none⟩) 6 6,eS1 51 t.A t.exps.length t.cap] ?_
     refine xz ?_
     obtain ⟨x0,x1,x2,x3,x4,x5,hx⟩:=Zj5 (m:=t.exps.length) (zs:=t.exps) rfl (by omega) [.bool s11, .slice A11 l11 c11, .bool t11, .slice B11 m11 d11]
     refine Zj4 (dT:=22) (sT:=22) (e:=3) (bt:=397) (dx:=.tmp 49) (sx:=.tmp 51) (d:=52) (n:=6) (m:=t.exps.length) (dc:=6) (sc:=t.cap) (cs:=[.int .i64 0, .int .i64 0, .int .i64 0, .int .i64 0, .int .i64 0, .int .i64 0, .bool s11, .slice A11 l11 c11, .bool t11, .slice B11 m11 d11]) (zs:=t.exps) gr (fun w=>Blk 397 w gr [.int .i64 x0, .int .i64 x1, .int .i64 x2, .int .i64 x3, .int .i64 x4, .int .i64 x5, .bool s11, .slice A11 l11 c11, .bool t11, .slice B11 m11 d11].toArray) rfl (by omega) (show 6≤10 from by decide) (show 0 < 10 from by decide) (fun w Q=>Q.2) (fun w Q=>Q.1.1) hgr (fun w w' Q hF hB=>Eq.mp (congrArg (fun l:List Value=>Blk 397 w' gr l.toArray) hx) hB) ?_
     refine xe (Zab (Zac (Zaa ?_)))
     refine xqk 53 (.agg #[.int .i64 x0, .int .i64 x1, .int .i64 x2, .int .i64 x3, .int .i64 x4, .int .i64 x5, .bool s11, .slice A11 l11 c11, .bool t11, .slice B11 m11 d11]) (fun w R Q=>ZkL (t:=397) (x:=.tmp 10) (cs:=[.int .i64 x0, .int .i64 x1, .int .i64 x2, .int .i64 x3, .int .i64 x4, .int .i64 x5, .bool s11, .slice A11 l11 c11, .bool t11, .slice B11 m11 d11]) Q) ?_
     refine xq 2 [(5, .v (.bool true))] [(4,397,[.v (.int .i64 x0), .v (.int .i64 x1), .v (.int .i64 x2), .v (.int .i64 x3), .v (.int .i64 x4), .v (.int .i64 x5), .v (.bool s11), .v (.slice A11 l11 c11), .v (.bool t11), .v (.slice B11 m11 d11)])] ?_
     refine xe (Zab (Zau ?_))
     refine Zao (v:=.tuple #[.agg #[.int .i64 x0, .int .i64 x1, .int .i64 x2, .int .i64 x3, .int .i64 x4, .int .i64 x5, .bool s11, .slice A11 l11 c11, .bool t11, .slice B11 m11 d11], .bool true]) (by kernel_rfl) (fun w' R Q=>?_)
     exact Zcd.of (ZkQ hr hz hlen (ZkJ (fun i hi=>hall i (by omega)))) R
  ·refine Zaa (xq 4 [(19, .v (.bool false)),eR4 20 s11 A11 l11 c11 t11 B11 m11 d11] [] ?_)
   by_cases hz:q.num=0
   ·refine xqc 131 [vR4 s11 A11 l11 c11 t11 B11 m11 d11] 21 (fun _:Unit=>.bool true) _ (fun w R Q=>(ZcM _ q _ Q.2).mono (fun _ _ h=>ZaD h (by rw [decide_eq_true hz]))) (fun xx=>?_)
    refine xq 8 [(29, .v (.bool true))] [] ?_
    refine xe (Zab (xa (Zac (Zaa (xq 3 [(5, .v (.bool false))] [] ?_)))))
    refine xe (Zab (Zau (Zal ?_)))
    refine Zao (v:=.tuple #[.agg #[.int .i64 0, .int .i64 0, .int .i64 0, .int .i64 0, .int .i64 0, .int .i64 0, .bool false, .slice none 0 0, .bool false, .slice none 0 0], .bool false]) (by kernel_rfl) (fun w' R Q=>?_)
    exact Zcd.of (Zio hr hz) R
   ·refine xqc 131 [vR4 s11 A11 l11 c11 t11 B11 m11 d11] 21 (fun _:Unit=>.bool false) _ (fun w R Q=>(ZcM _ q _ Q.2).mono (fun _ _ h=>ZaD h (by rw [decide_eq_false hz]))) (fun xx=>?_)
    refine xq 7 [(23, .v (.bool false)),(28, .v (.bool ((((t.exps.length:Nat):Int):Int) != v)))] [] ?_
    rw [(show (((t.exps.length:Nat):Int) != v)=true from by simp [hlen])]
    refine xq 1 [(29, .v (.bool true))] [] ?_
    refine xe (Zab (xa (Zac (Zaa (xq 3 [(5, .v (.bool false))] [] ?_)))))
    refine xe (Zab (Zau (Zal ?_)))
    refine Zao (v:=.tuple #[.agg #[.int .i64 0, .int .i64 0, .int .i64 0, .int .i64 0, .int .i64 0, .int .i64 0, .bool false, .slice none 0 0, .bool false, .slice none 0 0], .bool false]) (by kernel_rfl) (fun w' R Q=>?_)
    exact Zcd.of (ZkP hlen) R
end Go.Proofs.YtcpjeaaapocoeaaGreatDoor

namespace Go.Proofs.YtcpjeaaapocoeaaGreatDoor
open Go.RowKit
theorem TRow.at_ {w:World} {A:Option Addr} {ts:List TermR} (h:TRow w A ts) {i:Nat} (hi:i < ts.length):∃ b off,A=some ⟨b,off,none⟩:=by
 obtain ⟨b,off,e,_⟩:=h i hi; exact ⟨b,off,e⟩
section
variable {P:Program} {o:Oper} {ρ:Operand→Value} {w:World} {t e:TypeId} {x ix:Operand} {A:Option Addr} {b off:Nat}
theorem Zev (hA:A=some ⟨b,off,none⟩) {len cap i sz:Nat} (h:i < len) (ho:o.op=Op.indexAddr t x ix:=by kernel_rfl) (ht:P.underlying t=some (.slice e):=by kernel_rfl) (hs:(P.info? e).map (fun i=>i.size)=some sz:=by kernel_rfl)
 (hx:ρ x=.slice A len cap:=by kernel_rfl) (hi:ρ ix=.int .i64 ((i:Nat):Int):=by kernel_rfl):(execOp ρ o).run P w=.ok (.value (.pointer (some ⟨b,off + i * sz,none⟩))) w:=by
 have:=ZdX (w:=w) (A:=A) (by rw [hA]; simp) h ho ht hs hx hi
 rw [this,hA,atA,Option.map_some,ZbG]
theorem Zfm (hA:A=some ⟨b,off,none⟩) {ts:List TermR} {j:Nat} (hS:TRow w A ts) (hj:j < ts.length) (ho:o.op=Op.load t x:=by kernel_rfl) (hx:ρ x=.pointer (some ⟨b,off + j * 2 + 1,none⟩):=by kernel_rfl) (ha:(teOf P t).map (fun e=>e.agg)=some false:=by kernel_rfl) :
 (execOp ρ o).run P w=.ok (.value (.slice ts[j]!.A ts[j]!.exps.length ts[j]!.cap)) w:=by
 refine ZkN hS hj ho ?_ ha
 rw [hx,hA,atA,Option.map_some,ZbG,Nat.add_assoc]
end
theorem TRow.exps {w:World} {A:Option Addr} {ts:List TermR} (h:TRow w A ts) {i:Nat} (hi:i < ts.length):IRow w ts[i]!.A ts[i]!.exps:=by
 obtain ⟨_,_,_,_,_,_,h⟩:=h i hi; exact h
abbrev ShTm:=Int × Int × Int × Int × Int × Int × Bool × Option Addr × Nat × Nat × Bool × Option Addr × Nat × Nat
def shTm (x:ShTm) (ok:Bool):Value:=match x with
 | (x0,x1,x2,x3,x4,x5,s,A,l,c,t,B,m,d)=>.tuple #[.agg #[.int .i64 x0, .int .i64 x1, .int .i64 x2, .int .i64 x3, .int .i64 x4, .int .i64 x5, .bool s, .slice A l c, .bool t, .slice B m d], .bool ok]
theorem Zir {w w':World} {e:Ending} {ok:Bool} (h:Zcd w ok e w'):ZbQ (fun x=>shTm x ok) (fun _ _=>True) w e w':=by
 obtain ⟨x0,x1,x2,x3,x4,x5,s,A,l,c,t,B,m,d,rfl,Q⟩:=h
 exact ⟨(x0,x1,x2,x3,x4,x5,s,A,l,c,t,B,m,d),rfl,Q,BoxN.pure trivial⟩
def ZbI (w:World) (ok:Bool) (e:Ending) (w':World):Prop:=∃ (A:Option Addr) (l c:Nat),e=.returned (.tuple #[.slice A l c, .bool ok])∧Ext w w'
theorem ZbI.of {w w':World} {ok r:Bool} {A:Option Addr} {l c:Nat} (h:ok=r) (Q:Ext w w'):ZbI w ok (.returned (.tuple #[.slice A l c, .bool r])) w':=by
 subst h; exact ⟨_,_,_,rfl,Q⟩
theorem Zgw {w w':World} {e:Ending} {ok:Bool} (h:ZbI w ok e w'):ZbQ (fun x:ShN=>.tuple #[.slice x.1 x.2.1 x.2.2, .bool ok]) (fun _ _=>True) w e w':=by
 obtain ⟨A,l,c,rfl,Q⟩:=h
 exact ⟨(A,l,c),rfl,Q,BoxN.pure trivial⟩
section
variable {v:Int} {ts:List TermR} {k n:Nat} {t u:TermR}
theorem ZhN (h:wfT v ts k=true) {i:Nat} (hi:i < k):Zav v ts[i]! = true:=by
 induction k with
 | zero=>omega
 | succ k ih =>
   unfold wfT at h
   rw [Bool.and_eq_true,Bool.and_eq_true] at h
   rcases (by omega:i < k∨i=k) with h' | rfl
   ·exact ih h.1 h'
   ·exact h.2.1
theorem Zj8 (hwf:wfT v ts k=true) (hk:0 < k) (hu:ts[k - 1]! = u) (hok:Zav v t=true) (hv6:v≤6):(ZfX u.exps∧ZfX t.exps)∧u.exps.length=t.exps.length:=by
 have h1:=Zav.exp (ZhN hwf (show k - 1 < k by omega)) hv6
 rw [hu] at h1
 have h2:=Zav.exp hok hv6
 exact ⟨⟨h1.1,h2.1⟩,by have:=h1.2; have:=h2.2; omega⟩
theorem ZhO (hwf:wfT v ts k=true) (ht:ts[k]! = t) (hok:Zav v t=true) (h:k=0∨0 < ordF ts[k - 1]!.exps t.exps):wfT v ts (k + 1)=true:=by
 unfold wfT
 rw [hwf,ht,hok]
 rcases h with h | h
 ·rw [decide_eq_true h]; rfl
 ·rw [decide_eq_true h,Bool.or_true]; rfl
theorem ZkR (ht:ts[k]! = t) (hok:Zav v t=false):wfT v ts (k + 1)=false:=by
 unfold wfT; rw [ht,hok,Bool.false_and,Bool.and_false]
theorem ZkS (ht:ts[k]! = t) (hu:ts[k - 1]! = u) (hk:¬ k=0) (ho:¬ 0 < ordF u.exps t.exps):wfT v ts (k + 1)=false:=by
 unfold wfT; rw [ht,hu,decide_eq_false hk,decide_eq_false ho,Bool.or_false,Bool.and_false,Bool.and_false]
theorem Zkl (h:v < 0∨6 < v):(decide (0≤v) && (decide (v≤6) && wfT v ts n))=false:=by
 rcases h with h | h
 ·rw [decide_eq_false (by omega:¬ 0≤v)]; rfl
 ·rw [decide_eq_false (by omega:¬ v≤6),Bool.false_and,Bool.and_false]
theorem Zkm (h:wfT v ts n=false):(decide (0≤v) && (decide (v≤6) && wfT v ts n))=false:=by rw [h,Bool.and_false,Bool.and_false]
theorem Zlq (h0:¬ v < 0) (h7:¬ 6 < v) (h:wfT v ts n=true):(decide (0≤v) && (decide (v≤6) && wfT v ts n))=true:=by
 rw [h,decide_eq_true (by omega:0≤v),decide_eq_true (by omega:v≤6)]; rfl
end
theorem Zf5 (A:Option Addr) (c:Nat) (ts:List TermR) (v:Int) (w:World) (hg:Glob w) (hT:TRow w A ts) (hlen:ts.length≤4096) (hc:∀ i,i < ts.length→(bytes ts[i]!.coef).length≤570) (hx:∀ i,i < ts.length→ts[i]!.exps.length≤9223372036854775807) :
 Calls Tryz.prog 245 #[.agg #[.int .i64 v, .slice A ts.length c]] w (ZbI w (decide (0≤v) && (decide (v≤6) && wfT v ts ts.length))):=by
 refine ZaR (Φ:=fun w=>(Glob w∧TRow w A ts)) Tryz.func245 rfl (by kernel_rfl) (fun w' hf=>⟨hg.ext hf,hT.ext hf⟩) ?_
 refine Zac (Zaa (xq 3 [(1, .p 1 0),eS1 2 none 0 0,(3, .v (.bool false))] [(1,43,[.v (.int .i64 v), .v (.slice A ts.length c)])] ?_))
 refine xe (Zab (Zac (Zac ?_)))
 by_cases hv0:v < 0
 ·refine Zaa (xq 3 [(11, .v (.bool (decide (v < 0))))] [] ?_)
  rw [(show decide (v < 0)=true from decide_eq_true hv0)]
  refine xq 5 [(16, .v (.bool true))] [] ?_
  refine xe (Zab (xa (Zac (Zaa (xq 2 [eS1 2 none 0 0,(3, .v (.bool false))] [] ?_)))))
  refine xe (Zab (Zau (Zal ?_)))
  refine Zao (v:=.tuple #[.slice none 0 0, .bool false]) (by kernel_rfl) (fun w' R Q=>?_)
  exact ZbI.of (Zkl (by omega)) R
 ·by_cases hv7:6 < v
  ·refine Zaa (xq 3 [(11, .v (.bool (decide (v < 0))))] [] ?_)
   rw [(show decide (v < 0)=false from decide_eq_false hv0)]
   refine xq 4 [(12, .v (.bool false)),(15, .v (.bool (decide (v > 6))))] [] ?_
   rw [(show decide (v > 6)=true from decide_eq_true hv7)]
   refine xq 1 [(16, .v (.bool true))] [] ?_
   refine xe (Zab (xa (Zac (Zaa (xq 2 [eS1 2 none 0 0,(3, .v (.bool false))] [] ?_)))))
   refine xe (Zab (Zau (Zal ?_)))
   refine Zao (v:=.tuple #[.slice none 0 0, .bool false]) (by kernel_rfl) (fun w' R Q=>?_)
   exact ZbI.of (Zkl (by omega)) R
  ·have hv6:v≤6:=by omega
   refine Zaa (xq 3 [(11, .v (.bool (decide (v < 0))))] [] ?_)
   rw [(show decide (v < 0)=false from decide_eq_false hv0)]
   refine xq 4 [(12, .v (.bool false)),(15, .v (.bool (decide (v > 6))))] [] ?_
   rw [(show decide (v > 6)=false from decide_eq_false hv7)]
   refine xq 1 [(16, .v (.bool false))] [] ?_
   refine xe (Zab (xb (Za8 (Zab (Zac (Zaa (xq 3 [(19, .v (.int .i64 ((ts.length:Nat):Int)))] [] ?_)))))))
   refine Zlh (d:=20) (t:=234) (e:=397) (k:=10) (bytes:=112) (z:=(.agg #[.int .i64 0, .int .i64 0, .int .i64 0, .int .i64 0, .int .i64 0, .int .i64 0, .bool false, .slice none 0 0, .bool false, .slice none 0 0])) (kl:=.i64) (kc:=.i64) (l:=.const (.int .i64 0)) (c:=.tmp 19) (cap:=ts.length) (by simp only [maxLen]; omega) (by omega) (fun b cur hb hcur=>?_)
   refine xr 1 [(1, .p 1 0),eS1 2 none 0 0,(3, .v (.bool false)),eS1 4 (some ⟨b,0,none⟩) 0 ts.length] [(1,43,[.v (.int .i64 v), .v (.slice A ts.length c)])] ?_
   refine xe (Zab (Zac (Zac (Zaa (xq 4 [eS1 22 A ts.length c,(23, .v (.int .i64 ((ts.length:Nat):Int))),(24, .v (.int .i64 0))] [] ?_)))))
   refine xe (Zab (ZbY ?_))
   refine SXc.weak [(1, .p 1 0),(2, .v (.slice none 0 0)),(3, .v (.bool false)),(4, .v (.slice (some ⟨b,0,none⟩) 0 ts.length)),(22, .v (.slice A ts.length c)),(23, .v (.int .i64 ((ts.length:Nat):Int))),(24, .v (.int .i64 ((0:Nat):Int)))] [(1,43,[.v (.int .i64 v), .v (.slice A ts.length c)])] (Ψ:=fun w=>((Glob w∧TRow w A ts)∧Blk 397 w b cur.toArray)) (Za7.of (by kernel_rfl)) (by kernel_rfl) (fun w Q=>⟨⟨Q.1.1,Q.1.2⟩,Q.2⟩) ?_
   refine ZeK (fun nn ss ff=>∃ (k b cap:Nat) (cur:List Value),ss=ofL [(1, .p 1 0),(2, .v (.slice none 0 0)),(3, .v (.bool false)),(4, .v (.slice (some ⟨b,0,none⟩) k cap)),(22, .v (.slice A ts.length c)),(23, .v (.int .i64 ((ts.length:Nat):Int))),(24, .v (.int .i64 ((k:Nat):Int)))] [(1,43,[.v (.int .i64 v), .v (.slice A ts.length c)])]∧ff=(fun w=>((Glob w∧TRow w A ts)∧Blk 397 w b cur.toArray))∧(w.heap.size≤b)∧(cur.length=cap * 10)∧(k≤cap)∧(cap≤maxLen)∧(0 < ts.length→0 < cur.length)∧(k≤ts.length)∧(wfT v ts k=true)∧nn=(1 + (ts.length - k))) ((1 + (ts.length - 0))) ⟨0,b,ts.length,cur,rfl,rfl,hb,hcur,(Nat.zero_le _),(by simp only [maxLen]; omega),(fun h=>by omega),(Nat.zero_le _),rfl,rfl⟩ ?_
   rintro nn ss ff ⟨k,b,cap,cur,rfl,rfl,hb,hcur,hkc,hcm,hpos,hk,hwf,rfl⟩
   refine Zac (Zaa (xq 1 [(25, .v (.bool (decide (((k:Nat):Int) < ((ts.length:Nat):Int)))))] [] ?_))
   refine xe (Zab (Zac ?_))
   refine ZcY ((decide (((k:Nat):Int) < ((ts.length:Nat):Int)))) (by kernel_rfl) (fun hb10=>?_) (fun hb10=>?_)
   ·have hlt:k < ts.length:=by have:=of_decide_eq_true hb10; omega
    refine Za8 (Zab (Zac (ZbY (Zac (Zaa (xq 1 [(26, .v (.int .i64 ((k:Nat):Int)))] [] ?_))))))
    refine xqk 27 (atA A (k * 2)) (fun w R Q=>ZdX (t:=41) (e:=53) (sz:=2) (x:=.tmp 22) (ix:=.tmp 24) (len:=ts.length) (cap:=c) (i:=k) ((Q.1.2).ne hlt) hlt) ?_
    obtain ⟨t,ht⟩:∃ x,ts[k]! = x:=⟨_,rfl⟩
    refine xqk 28 (.agg #[.string t.coef, .slice t.A t.exps.length t.cap]) (fun w R Q=>by rw [← ht]; exact Zik (t:=53) (x:=.tmp 27) (ts:=ts) (j:=k) (Q.1.2) hlt) ?_
    refine xq 3 [(5, .v (.int .i64 ((k:Nat):Int))),(6, .p 6 0)] [(6,53,[.v (.string t.coef), .v (.slice t.A t.exps.length t.cap)])] ?_
    refine xe (Zab (Zac (Zaa (xq 3 [(31, .v (.int .i64 v)),(32, .v (.agg #[.string t.coef, .slice t.A t.exps.length t.cap]))] [] ?_))))
    cases hok:Zav v t
    ·refine xqc 318 [.int .i64 v, .agg #[.string t.coef, .slice t.A t.exps.length t.cap]] 33 (fun x=>shTm x false) _ (fun w R Q=>(Zeu t v _ Q.1.1 (ht ▸ hc k hlt) (ht ▸ hx k hlt) hv6 (ht ▸ TRow.exps Q.1.2 hlt)).mono (fun _ _ h=>Zir (by rw [hok] at h; exact h))) (fun xx=>?_)
     obtain ⟨x011,x111,x211,x311,x411,x511,s11,A11,l11,c11,t11,B11,m11,d11⟩:=xx
     refine xq 6 [(7, .p 7 0),(8, .v (.bool false))] [(7,397,[.v (.int .i64 x011), .v (.int .i64 x111), .v (.int .i64 x211), .v (.int .i64 x311), .v (.int .i64 x411), .v (.int .i64 x511), .v (.bool s11), .v (.slice A11 l11 c11), .v (.bool t11), .v (.slice B11 m11 d11)])] ?_
     refine xe (Zab (Zac (Zac ?_)))
     refine ZdP 19 [0,1,3,7,15,31,63,127,63,319,1023,2047,4095,63,8255,32767,65535,131071,262143] (by kernel_rfl) (by kernel_rfl) Zbh ?_
     refine xqg 19 [(54, .v (.bool true))] ?_
     refine xz (xe (Zab (xa (Zac (Zaa (xq 2 [eS1 2 none 0 0,(3, .v (.bool false))] [] ?_))))))
     refine xe (Zab (Zau (Zal (ZbB (Zal (Zal (ZbB (Zal ?_))))))))
     refine Zao (v:=.tuple #[.slice none 0 0, .bool false]) (by kernel_rfl) (fun w' R Q=>?_)
     exact ZbI.of (Zkm (ZhI (k:=k + 1) (ZkR ht hok) _ hlt)) R
    ·refine xqc 318 [.int .i64 v, .agg #[.string t.coef, .slice t.A t.exps.length t.cap]] 33 (fun x=>shTm x true) _ (fun w R Q=>(Zeu t v _ Q.1.1 (ht ▸ hc k hlt) (ht ▸ hx k hlt) hv6 (ht ▸ TRow.exps Q.1.2 hlt)).mono (fun _ _ h=>Zir (by rw [hok] at h; exact h))) (fun xx=>?_)
     obtain ⟨x012,x112,x212,x312,x412,x512,s12,A12,l12,c12,t12,B12,m12,d12⟩:=xx
     refine xq 6 [(7, .p 7 0),(8, .v (.bool true))] [(7,397,[.v (.int .i64 x012), .v (.int .i64 x112), .v (.int .i64 x212), .v (.int .i64 x312), .v (.int .i64 x412), .v (.int .i64 x512), .v (.bool s12), .v (.slice A12 l12 c12), .v (.bool t12), .v (.slice B12 m12 d12)])] ?_
     refine xe (Zab (Zac (Zac ?_)))
     by_cases hk0:k=0
     ·refine ZdP 19 [0,1,3,7,15,31,63,127,63,319,1023,2047,4095,63,8255,32767,65535,131071,262143] (by kernel_rfl) (by kernel_rfl) Zbh ?_
      refine xqg 5 [(38, .v (.bool false)),(40, .v (.bool (decide (((k:Nat):Int) > 0))))] ?_
      rw [(show decide (((k:Nat):Int) > 0)=false from decide_eq_false (by omega))]
      refine xqg 14 [(54, .v (.bool false))] ?_
      refine xz (xe (Zab (xb (Za8 (Zab (Zaa (xq 2 [eS1 55 (some ⟨b,0,none⟩) k cap,(56, .v (.agg #[.int .i64 x012, .int .i64 x112, .int .i64 x212, .int .i64 x312, .int .i64 x412, .int .i64 x512, .bool s12, .slice A12 l12 c12, .bool t12, .slice B12 m12 d12]))] [] ?_)))))))
      refine Zcj (d:=57) (fun zb:Nat=>.slice (some ⟨zb,0,none⟩) 1 1) (fun zb zw=>Blk 397 zw zb #[.int .i64 x012, .int .i64 x112, .int .i64 x212, .int .i64 x312, .int .i64 x412, .int .i64 x512, .bool s12, .slice A12 l12 c12, .bool t12, .slice B12 m12 d12]) (by kernel_rfl) (by kernel_rfl) (by kernel_rfl) (by kernel_rfl) (by kernel_rfl) (by kernel_rfl) (fun w R Q=>ZbP (t:=234) (e:=397) (n:=1) (sz:=10) (z:=.agg #[.int .i64 0, .int .i64 0, .int .i64 0, .int .i64 0, .int .i64 0, .int .i64 0, .bool false, .slice none 0 0, .bool false, .slice none 0 0]) (parts:=#[(0,Operand.tmp 56)]) (by kernel_rfl) (by kernel_rfl) (by kernel_rfl) (by kernel_rfl) (by kernel_rfl) (by kernel_rfl)) (fun b13=>?_)
      refine xr 0 [(1, .p 1 0),eS1 2 none 0 0,(3, .v (.bool false)),eS1 4 (some ⟨b,0,none⟩) k cap,eS1 22 A ts.length c,(23, .v (.int .i64 ((ts.length:Nat):Int))),(24, .v (.int .i64 ((k:Nat):Int))),eS1 55 (some ⟨b,0,none⟩) k cap,eS1 57 (some ⟨b13,0,none⟩) 1 1] [(1,43,[.v (.int .i64 v), .v (.slice A ts.length c)])] ?_
      refine Zjo (d:=58) (k:=10) (n:=k) (m:=1) (cap:=cap) (bytes:=112) (t:=234) (e:=397) (s0:=.tmp 55) (x:=.tmp 57) (cur:=cur) (news:=[.int .i64 x012, .int .i64 x112, .int .i64 x212, .int .i64 x312, .int .i64 x412, .int .i64 x512, .bool s12, .slice A12 l12 c12, .bool t12, .slice B12 m12 d12]) (z:=(.agg #[.int .i64 0, .int .i64 0, .int .i64 0, .int .i64 0, .int .i64 0, .int .i64 0, .bool false, .slice none 0 0, .bool false, .slice none 0 0])) b b13 1 (fun w=>Glob w∧TRow w A ts) (fun w Q=>Q.1.1.2) (fun w Q=>Q.2) rfl (by decide) rfl hcur hkc hcm (hpos (by omega)) (by omega) hb (by simp [Value.oneCell']) (by simp only [maxLen]; omega) (by omega) (fun w w' R Q hF=>⟨hg.ext R,hT.ext R⟩) (fun b' cap' cur' hb' hcur' hkc' hcm' htk' hpos'=>?_)
      refine xr 1 [(1, .p 1 0),eS1 2 none 0 0,(3, .v (.bool false)),eS1 4 (some ⟨b',0,none⟩) (k + 1) cap',eS1 22 A ts.length c,(23, .v (.int .i64 ((ts.length:Nat):Int))),(24, .v (.int .i64 ((k:Nat):Int)))] [(1,43,[.v (.int .i64 v), .v (.slice A ts.length c)])] ?_
      refine xe (ZdF (Zab (Zaa (xq 1 [(59, .v (.int .i64 (IntKind.i64.wrap (((k:Nat):Int) + 1))))] [] ?_))))
      rw [(show IntKind.i64.wrap (((k:Nat):Int) + 1)=((k + 1:Nat):Int) from by rw [IntKind.wrap_i64]; omega)]
      refine xq 1 [(24, .v (.int .i64 ((k + 1:Nat):Int)))] [] ?_
      refine xe ?_
      refine SXq.weak [(1, .p 1 0),(2, .v (.slice none 0 0)),(3, .v (.bool false)),(4, .v (.slice (some ⟨b',0,none⟩) (k + 1) cap')),(22, .v (.slice A ts.length c)),(23, .v (.int .i64 ((ts.length:Nat):Int))),(24, .v (.int .i64 (((k + 1):Nat):Int)))] [(1,43,[.v (.int .i64 v), .v (.slice A ts.length c)])] (Ψ:=fun w=>((Glob w∧TRow w A ts)∧Blk 397 w b' cur'.toArray)) (Za7.of (by kernel_rfl)) (by kernel_rfl) (fun w Q=>⟨⟨Q.1.1,Q.1.2⟩,Q.2⟩) ?_
      exact ZcE ((1 + (ts.length - (k + 1)))) (by omega) ⟨(k + 1),b',cap',cur',rfl,rfl,hb',hcur',hkc',hcm',(fun _=>hpos'),hlt,(ZhO hwf ht hok (Or.inl hk0)),rfl⟩
     ·obtain ⟨u,hu⟩:∃ x,ts[k - 1]! = x:=⟨_,rfl⟩
      refine SXc.know (p:=∃ tb tf,A=some ⟨tb,tf,none⟩) (fun w _ Q=>TRow.at_ Q.1.1.2 hlt) (fun hAe=>?_)
      obtain ⟨tb,tf,hA⟩:=hAe
      have hul:=Zj8 hwf (by omega) hu hok hv6
      by_cases ho:0 < ordF u.exps t.exps
      ·refine ZdP 19 [0,1,3,7,15,31,63,127,63,319,1023,2047,4095,63,8255,32767,65535,131071,262143] (by kernel_rfl) (by kernel_rfl) Zbh ?_
       refine xqg 5 [(38, .v (.bool false)),(40, .v (.bool (decide (((k:Nat):Int) > 0))))] ?_
       rw [(show decide (((k:Nat):Int) > 0)=true from decide_eq_true (by omega))]
       refine xqg 5 [(41, .v (.bool true)),eS1 43 A ts.length c,(45, .v (.int .i64 (IntKind.i64.wrap (((k:Nat):Int) - 1))))] ?_
       rw [(show IntKind.i64.wrap (((k:Nat):Int) - 1)=((k - 1:Nat):Int) from by rw [IntKind.wrap_i64]; omega)]
       refine xqj 46 (.pointer (some ⟨tb,tf + (k - 1) * 2,none⟩)) (fun w Q=>Zev hA (t:=41) (e:=53) (sz:=2) (x:=.tmp 43) (ix:=.tmp 45) (len:=ts.length) (cap:=c) (i:=k - 1) (by omega)) ?_
       refine xqg 1 [(47, .v (.pointer (some ⟨tb,tf + (k - 1) * 2 + 1,none⟩)))] ?_
       refine xqj 48 (.slice u.A u.exps.length u.cap) (fun w Q=>by rw [← hu]; exact Zfm hA (t:=22) (x:=.tmp 47) (ts:=ts) (j:=k - 1) (Q.1.1.2) (by omega)) ?_
       refine xqg 2 [eS1 50 t.A t.exps.length t.cap] ?_
       refine xqd 319 [.slice u.A u.exps.length u.cap, .slice t.A t.exps.length t.cap] 51 (fun _:Unit=>.int .i64 (ordF u.exps t.exps)) _ (fun w R Q=>(ZgQ u.A t.A u.cap t.cap u.exps t.exps _ (hu ▸ TRow.exps Q.1.1.2 (by omega)) (ht ▸ TRow.exps Q.1.1.2 hlt) hul.2 hul.1.1 hul.1.2).mono (fun _ _ h=>ZaD h rfl)) (fun xx=>?_)
       refine xqg 1 [(52, .v (.bool (decide ((ordF u.exps t.exps)≤0))))] ?_
       rw [(show decide (ordF u.exps t.exps≤0)=false from decide_eq_false (by omega))]
       refine xqg 2 [(54, .v (.bool false))] ?_
       refine xz (xe (Zab (xb (Za8 (Zab (Zaa (xq 2 [eS1 55 (some ⟨b,0,none⟩) k cap,(56, .v (.agg #[.int .i64 x012, .int .i64 x112, .int .i64 x212, .int .i64 x312, .int .i64 x412, .int .i64 x512, .bool s12, .slice A12 l12 c12, .bool t12, .slice B12 m12 d12]))] [] ?_)))))))
       refine Zcj (d:=57) (fun zb:Nat=>.slice (some ⟨zb,0,none⟩) 1 1) (fun zb zw=>Blk 397 zw zb #[.int .i64 x012, .int .i64 x112, .int .i64 x212, .int .i64 x312, .int .i64 x412, .int .i64 x512, .bool s12, .slice A12 l12 c12, .bool t12, .slice B12 m12 d12]) (by kernel_rfl) (by kernel_rfl) (by kernel_rfl) (by kernel_rfl) (by kernel_rfl) (by kernel_rfl) (fun w R Q=>ZbP (t:=234) (e:=397) (n:=1) (sz:=10) (z:=.agg #[.int .i64 0, .int .i64 0, .int .i64 0, .int .i64 0, .int .i64 0, .int .i64 0, .bool false, .slice none 0 0, .bool false, .slice none 0 0]) (parts:=#[(0,Operand.tmp 56)]) (by kernel_rfl) (by kernel_rfl) (by kernel_rfl) (by kernel_rfl) (by kernel_rfl) (by kernel_rfl)) (fun b14=>?_)
       refine xr 0 [(1, .p 1 0),eS1 2 none 0 0,(3, .v (.bool false)),eS1 4 (some ⟨b,0,none⟩) k cap,eS1 22 A ts.length c,(23, .v (.int .i64 ((ts.length:Nat):Int))),(24, .v (.int .i64 ((k:Nat):Int))),eS1 55 (some ⟨b,0,none⟩) k cap,eS1 57 (some ⟨b14,0,none⟩) 1 1] [(1,43,[.v (.int .i64 v), .v (.slice A ts.length c)])] ?_
       refine Zjo (d:=58) (k:=10) (n:=k) (m:=1) (cap:=cap) (bytes:=112) (t:=234) (e:=397) (s0:=.tmp 55) (x:=.tmp 57) (cur:=cur) (news:=[.int .i64 x012, .int .i64 x112, .int .i64 x212, .int .i64 x312, .int .i64 x412, .int .i64 x512, .bool s12, .slice A12 l12 c12, .bool t12, .slice B12 m12 d12]) (z:=(.agg #[.int .i64 0, .int .i64 0, .int .i64 0, .int .i64 0, .int .i64 0, .int .i64 0, .bool false, .slice none 0 0, .bool false, .slice none 0 0])) b b14 1 (fun w=>Glob w∧TRow w A ts) (fun w Q=>Q.1.1.1.2) (fun w Q=>Q.2) rfl (by decide) rfl hcur hkc hcm (hpos (by omega)) (by omega) hb (by simp [Value.oneCell']) (by simp only [maxLen]; omega) (by omega) (fun w w' R Q hF=>⟨hg.ext R,hT.ext R⟩) (fun b' cap' cur' hb' hcur' hkc' hcm' htk' hpos'=>?_)
       refine xr 1 [(1, .p 1 0),eS1 2 none 0 0,(3, .v (.bool false)),eS1 4 (some ⟨b',0,none⟩) (k + 1) cap',eS1 22 A ts.length c,(23, .v (.int .i64 ((ts.length:Nat):Int))),(24, .v (.int .i64 ((k:Nat):Int)))] [(1,43,[.v (.int .i64 v), .v (.slice A ts.length c)])] ?_
       refine xe (ZdF (Zab (Zaa (xq 1 [(59, .v (.int .i64 (IntKind.i64.wrap (((k:Nat):Int) + 1))))] [] ?_))))
       rw [(show IntKind.i64.wrap (((k:Nat):Int) + 1)=((k + 1:Nat):Int) from by rw [IntKind.wrap_i64]; omega)]
       refine xq 1 [(24, .v (.int .i64 ((k + 1:Nat):Int)))] [] ?_
       refine xe ?_
       refine SXq.weak [(1, .p 1 0),(2, .v (.slice none 0 0)),(3, .v (.bool false)),(4, .v (.slice (some ⟨b',0,none⟩) (k + 1) cap')),(22, .v (.slice A ts.length c)),(23, .v (.int .i64 ((ts.length:Nat):Int))),(24, .v (.int .i64 (((k + 1):Nat):Int)))] [(1,43,[.v (.int .i64 v), .v (.slice A ts.length c)])] (Ψ:=fun w=>((Glob w∧TRow w A ts)∧Blk 397 w b' cur'.toArray)) (Za7.of (by kernel_rfl)) (by kernel_rfl) (fun w Q=>⟨⟨Q.1.1,Q.1.2⟩,Q.2⟩) ?_
       exact ZcE ((1 + (ts.length - (k + 1)))) (by omega) ⟨(k + 1),b',cap',cur',rfl,rfl,hb',hcur',hkc',hcm',(fun _=>hpos'),hlt,(ZhO hwf ht hok (Or.inr (by rw [hu]; exact ho))),rfl⟩
      ·refine ZdP 19 [0,1,3,7,15,31,63,127,63,319,1023,2047,4095,63,8255,32767,65535,131071,262143] (by kernel_rfl) (by kernel_rfl) Zbh ?_
       refine xqg 5 [(38, .v (.bool false)),(40, .v (.bool (decide (((k:Nat):Int) > 0))))] ?_
       rw [(show decide (((k:Nat):Int) > 0)=true from decide_eq_true (by omega))]
       refine xqg 5 [(41, .v (.bool true)),eS1 43 A ts.length c,(45, .v (.int .i64 (IntKind.i64.wrap (((k:Nat):Int) - 1))))] ?_
       rw [(show IntKind.i64.wrap (((k:Nat):Int) - 1)=((k - 1:Nat):Int) from by rw [IntKind.wrap_i64]; omega)]
       refine xqj 46 (.pointer (some ⟨tb,tf + (k - 1) * 2,none⟩)) (fun w Q=>Zev hA (t:=41) (e:=53) (sz:=2) (x:=.tmp 43) (ix:=.tmp 45) (len:=ts.length) (cap:=c) (i:=k - 1) (by omega)) ?_
       refine xqg 1 [(47, .v (.pointer (some ⟨tb,tf + (k - 1) * 2 + 1,none⟩)))] ?_
       refine xqj 48 (.slice u.A u.exps.length u.cap) (fun w Q=>by rw [← hu]; exact Zfm hA (t:=22) (x:=.tmp 47) (ts:=ts) (j:=k - 1) (Q.1.1.2) (by omega)) ?_
       refine xqg 2 [eS1 50 t.A t.exps.length t.cap] ?_
       refine xqd 319 [.slice u.A u.exps.length u.cap, .slice t.A t.exps.length t.cap] 51 (fun _:Unit=>.int .i64 (ordF u.exps t.exps)) _ (fun w R Q=>(ZgQ u.A t.A u.cap t.cap u.exps t.exps _ (hu ▸ TRow.exps Q.1.1.2 (by omega)) (ht ▸ TRow.exps Q.1.1.2 hlt) hul.2 hul.1.1 hul.1.2).mono (fun _ _ h=>ZaD h rfl)) (fun xx=>?_)
       refine xqg 1 [(52, .v (.bool (decide ((ordF u.exps t.exps)≤0))))] ?_
       rw [(show decide (ordF u.exps t.exps≤0)=true from decide_eq_true (by omega))]
       refine xqg 2 [(54, .v (.bool true))] ?_
       refine xz (xe (Zab (xa (Zac (Zaa (xq 2 [eS1 2 none 0 0,(3, .v (.bool false))] [] ?_))))))
       refine xe (Zab (Zau (Zal (ZbB (Zal (Zal (ZbB (Zal ?_))))))))
       refine Zao (v:=.tuple #[.slice none 0 0, .bool false]) (by kernel_rfl) (fun w' R Q=>?_)
       exact ZbI.of (Zkm (ZhI (k:=k + 1) (ZkS ht hu hk0 ho) _ hlt)) R
   ·have hge:ts.length≤k:=by have:=of_decide_eq_false hb10; omega
    refine ZeE (Za3 (Za3 (ZfL (Zab (Zac (Zaa (xq 3 [eS1 2 (some ⟨b,0,none⟩) k cap,(3, .v (.bool true))] [] ?_)))))))
    refine xe (Zab (Zau ?_))
    refine Zao (v:=.tuple #[.slice (some ⟨b,0,none⟩) k cap, .bool true]) (by kernel_rfl) (fun w' R Q=>?_)
    exact ZbI.of (Zlq hv0 hv7 (by rw [show ts.length=k by omega]; exact hwf)) R
end Go.Proofs.YtcpjeaaapocoeaaGreatDoor

namespace Go.Proofs.YtcpjeaaapocoeaaGreatDoor
open Go.RowKit
theorem ZgT {w w':World} {e:Ending} {x y:Value} (h:e=.returned x∧w'=w) (hxy:x=y):ZbQ (fun _:Unit=>y) (fun _ _=>True) w e w':=by
 obtain ⟨rfl,rfl⟩:=h
 subst hxy
 exact ⟨(),rfl,Fr.refl _ _,BoxN.pure trivial⟩
section
variable {v:Int} {ts:List TermR} {u:TermR}
theorem ZkT (h:4096 < ts.length):ZaG v ts=false:=by unfold ZaG; rw [decide_eq_false (by omega:¬ ts.length≤4096)]; rfl
theorem ZdZ (a b c d:Bool):(a && (b && (c && d)))=((a && (b && c)) && d):=by cases a<;>cases b<;>cases c<;>rfl
theorem ZkU (h:(decide (0≤v) && (decide (v≤6) && wfT v ts ts.length))=false):ZaG v ts=false:=by
 unfold ZaG; rw [ZdZ (decide (0≤v)),h,Bool.false_and,Bool.and_false]
theorem Zj9 (h:(decide (0≤v) && (decide (v≤6) && wfT v ts ts.length))=true) (h0:ts.length=0):ZaG v ts=true:=by
 unfold ZaG; rw [ZdZ (decide (0≤v)),h,decide_eq_true (by omega:ts.length≤4096),decide_eq_true h0]; rfl
theorem ZkV (hL:¬ 4096 < ts.length) (h:(decide (0≤v) && (decide (v≤6) && wfT v ts ts.length))=true) (hu:ts[0]! = u) (hd:0≤degF u.exps):ZaG v ts=true:=by
 unfold ZaG; rw [ZdZ (decide (0≤v)),h,decide_eq_true (by omega:ts.length≤4096),hu,decide_eq_true hd,Bool.or_true]; rfl
theorem ZkW (h0:0 < ts.length) (hu:ts[0]! = u) (hd:¬ 0≤degF u.exps):ZaG v ts=false:=by
 unfold ZaG; rw [hu,decide_eq_false hd,decide_eq_false (by omega:¬ ts.length=0),Bool.or_false,Bool.and_false,Bool.and_false,Bool.and_false,Bool.and_false]
end
theorem ZjA (A:Option Addr) (c:Nat) (ts:List TermR) (v:Int) (w:World) (hg:Glob w) (hT:TRow w A ts) (hc:∀ i,i < ts.length→(bytes ts[i]!.coef).length≤570) (hx:∀ i,i < ts.length→ts[i]!.exps.length≤9223372036854775807) :
 Calls Tryz.prog 137 #[.agg #[.int .i64 v, .slice A ts.length c]] w (ZbI w (ZaG v ts)):=by
 refine ZaR (Φ:=fun w=>(Glob w∧TRow w A ts)) Tryz.func137 rfl (by kernel_rfl) (fun w' hf=>⟨hg.ext hf,hT.ext hf⟩) ?_
 refine Zac (Zaa (xq 3 [(1, .p 1 0),eS1 2 none 0 0,(3, .v (.bool false))] [(1,43,[.v (.int .i64 v), .v (.slice A ts.length c)])] ?_))
 refine xe (Zab (Zac (Zac ?_)))
 by_cases hL:4096 < ts.length
 ·refine Zaa (xq 4 [(9, .v (.bool (decide (((ts.length:Nat):Int) > 4096))))] [] ?_)
  rw [(show decide (((ts.length:Nat):Int) > 4096)=true from decide_eq_true (by omega))]
  refine xe (Zab (xa (Zac (Zaa (xq 2 [eS1 2 none 0 0,(3, .v (.bool false))] [] ?_)))))
  refine xe (Zab (Zau (Zal ?_)))
  refine Zao (v:=.tuple #[.slice none 0 0, .bool false]) (by kernel_rfl) (fun w' R Q=>?_)
  exact ZbI.of (ZkT hL) R
 ·refine Zaa (xq 4 [(9, .v (.bool (decide (((ts.length:Nat):Int) > 4096))))] [] ?_)
  rw [(show decide (((ts.length:Nat):Int) > 4096)=false from decide_eq_false (by omega))]
  refine xe (Zab (xb (Za8 (Zab (Zac (Zaa (xq 1 [(11, .v (.agg #[.int .i64 v, .slice A ts.length c]))] [] ?_)))))))
  cases hw:(decide (0≤v) && (decide (v≤6) && wfT v ts ts.length))
  ·refine xqc 245 [.agg #[.int .i64 v, .slice A ts.length c]] 12 (fun x:ShN=>.tuple #[.slice x.1 x.2.1 x.2.2, .bool false]) _ (fun w R Q=>(Zf5 A c ts v _ Q.1 Q.2 (by omega) hc hx).mono (fun _ _ h=>Zgw (by rw [hw] at h; exact h))) (fun xx=>?_)
   obtain ⟨A10,l10,c10⟩:=xx
   refine xq 5 [eS1 4 A10 l10 c10,(5, .v (.bool false))] [] ?_
   refine xe (Zab (Zac (Zac (Zaa (xq 17 [(31, .v (.bool true))] [] ?_)))))
   refine xe (Zab (xa (Zac (Zaa (xq 2 [eS1 2 none 0 0,(3, .v (.bool false))] [] ?_)))))
   refine xe (Zab (Zau (Zal ?_)))
   refine Zao (v:=.tuple #[.slice none 0 0, .bool false]) (by kernel_rfl) (fun w' R Q=>?_)
   exact ZbI.of (ZkU hw) R
  ·refine xqc 245 [.agg #[.int .i64 v, .slice A ts.length c]] 12 (fun x:ShN=>.tuple #[.slice x.1 x.2.1 x.2.2, .bool true]) _ (fun w R Q=>(Zf5 A c ts v _ Q.1 Q.2 (by omega) hc hx).mono (fun _ _ h=>Zgw (by rw [hw] at h; exact h))) (fun xx=>?_)
   obtain ⟨A11,l11,c11⟩:=xx
   refine xq 5 [eS1 4 A11 l11 c11,(5, .v (.bool true))] [] ?_
   refine xe (Zab (Zac (Zac ?_)))
   by_cases h0:0 < ts.length
   ·obtain ⟨u,hu⟩:∃ x,ts[0]! = x:=⟨_,rfl⟩
    refine SXc.know (p:=∃ tb tf,A=some ⟨tb,tf,none⟩) (fun w _ Q=>TRow.at_ Q.1.2 h0) (fun hAe=>?_)
    obtain ⟨tb,tf,hA⟩:=hAe
    refine Zaa (xq 7 [(17, .v (.bool false)),(21, .v (.bool (decide (((ts.length:Nat):Int) > 0))))] [] ?_)
    rw [(show decide (((ts.length:Nat):Int) > 0)=true from decide_eq_true (by omega))]
    refine xq 3 [(22, .v (.bool true)),eS1 24 A ts.length c] [] ?_
    refine xqk 25 (.pointer (some ⟨tb,tf + 0 * 2,none⟩)) (fun w R Q=>Zev hA (t:=41) (e:=53) (sz:=2) (x:=.tmp 24) (ix:=.const (.int .i64 0)) (len:=ts.length) (cap:=c) (i:=0) h0) ?_
    refine xq 1 [(26, .v (.pointer (some ⟨tb,tf + 0 * 2 + 1,none⟩)))] [] ?_
    refine xqk 27 (.slice u.A u.exps.length u.cap) (fun w R Q=>by rw [← hu]; exact Zfm hA (t:=22) (x:=.tmp 26) (ts:=ts) (j:=0) (Q.1.2) h0) ?_
    by_cases hd:0≤degF u.exps
    ·refine xqc 246 [.slice u.A u.exps.length u.cap] 28 (fun _:Unit=>.bool true) _ (fun w R Q=>(ZfY u.A u.cap u.exps _ (hu ▸ TRow.exps Q.1.2 h0) (hu ▸ hx 0 h0)).mono (fun _ _ h=>ZgT h (by rw [decide_eq_true hd]))) (fun xx=>?_)
     refine xq 3 [(31, .v (.bool false))] [] ?_
     refine xe (Zab (xb (Za8 (Zab (Zac (Zaa (xq 3 [eS1 2 A11 l11 c11,(3, .v (.bool true))] [] ?_)))))))
     refine xe (Zab (Zau ?_))
     refine Zao (v:=.tuple #[.slice A11 l11 c11, .bool true]) (by kernel_rfl) (fun w' R Q=>?_)
     exact ZbI.of (ZkV hL hw hu hd) R
    ·refine xqc 246 [.slice u.A u.exps.length u.cap] 28 (fun _:Unit=>.bool false) _ (fun w R Q=>(ZfY u.A u.cap u.exps _ (hu ▸ TRow.exps Q.1.2 h0) (hu ▸ hx 0 h0)).mono (fun _ _ h=>ZgT h (by rw [decide_eq_false hd]))) (fun xx=>?_)
     refine xq 3 [(31, .v (.bool true))] [] ?_
     refine xe (Zab (xa (Zac (Zaa (xq 2 [eS1 2 none 0 0,(3, .v (.bool false))] [] ?_)))))
     refine xe (Zab (Zau (Zal ?_)))
     refine Zao (v:=.tuple #[.slice none 0 0, .bool false]) (by kernel_rfl) (fun w' R Q=>?_)
     exact ZbI.of (ZkW h0 hu hd) R
   ·refine Zaa (xq 7 [(17, .v (.bool false)),(21, .v (.bool (decide (((ts.length:Nat):Int) > 0))))] [] ?_)
    rw [(show decide (((ts.length:Nat):Int) > 0)=false from decide_eq_false (by omega))]
    refine xq 10 [(31, .v (.bool false))] [] ?_
    refine xe (Zab (xb (Za8 (Zab (Zac (Zaa (xq 3 [eS1 2 A11 l11 c11,(3, .v (.bool true))] [] ?_)))))))
    refine xe (Zab (Zau ?_))
    refine Zao (v:=.tuple #[.slice A11 l11 c11, .bool true]) (by kernel_rfl) (fun w' R Q=>?_)
    exact ZbI.of (Zj9 hw (by omega)) R
theorem Zf6 (A:Option Addr) (c:Nat) (ts:List TermR) (v:Int) (w:World) (hg:Glob w) (hT:TRow w A ts) (hc:∀ i,i < ts.length→(bytes ts[i]!.coef).length≤570) (hx:∀ i,i < ts.length→ts[i]!.exps.length≤9223372036854775807) :
 Calls Tryz.prog 63 #[.agg #[.int .i64 v, .slice A ts.length c]] w (RetV w (.bool (ZaG v ts))):=by
 refine ZaR (Φ:=fun w=>(Glob w∧TRow w A ts)) Tryz.func63 rfl (by kernel_rfl) (fun w' hf=>⟨hg.ext hf,hT.ext hf⟩) ?_
 refine Zac (Zaa (xq 2 [(1, .p 1 0),(2, .v (.bool false))] [(1,43,[.v (.int .i64 v), .v (.slice A ts.length c)])] ?_))
 refine xe (Zab (Zac (Zaa (xq 1 [(6, .v (.agg #[.int .i64 v, .slice A ts.length c]))] [] ?_))))
 refine xqc 137 [.agg #[.int .i64 v, .slice A ts.length c]] 7 (fun x:ShN=>.tuple #[.slice x.1 x.2.1 x.2.2, .bool (ZaG v ts)]) _ (fun w R Q=>(ZjA A c ts v _ Q.1 Q.2 hc hx).mono (fun _ _=>Zgw)) (fun xx=>?_)
 obtain ⟨A10,l10,c10⟩:=xx
 refine xq 5 [(4, .v (.bool (ZaG v ts)))] [] ?_
 refine xe (Zab (Zac (Zaa (xq 2 [(2, .v (.bool (ZaG v ts)))] [] ?_))))
 refine xe (Zab (Zau ?_))
 refine Zao (v:=.bool (ZaG v ts)) (by kernel_rfl) (fun w' R Q=>?_)
 exact ⟨rfl,R⟩
end Go.Proofs.YtcpjeaaapocoeaaGreatDoor

namespace Go.Proofs.YtcpjeaaapocoeaaGreatDoor
open Go.RowKit
set_option maxHeartbeats 1000000 in
theorem ZiP (lo b:Nat) (l:List UInt8) (w:World) (h:WrIs lo b l w) (h0:l≠[]) (hl:l.length≤1048576) :
 Calls Tryz.prog 46 #[.pointer (some ⟨b,0,none⟩)] w fun e w'=>e=.returned (.tuple #[.string ⟨l.toArray⟩, .int .i64 0])∧WrFr lo b w w':=by
 have H:=zh h
 have HL:((l.length:Nat):Int)≤1048576:=by omega
 clear h
 go_enter Tryz.func46,Tryz.ntmps46
 go_wp2_with fail
 refine (Zii lo b l _ H.out).mono ?_
 rintro e w1 ⟨rfl,rfl⟩
 go_wp2_with fail
 refine (Zjp lo b l _ H.out h0).mono ?_
 rintro e w2 ⟨rfl,hF⟩
 have HF:=zh hF
 clear hF
 go_wp2
 go_ret2
 exact ⟨rfl,HF.out⟩
theorem Zka (v:Int) (ts:List TermR):Zbv v ts≠[]:=by
 unfold Zbv ZaT
 simp
theorem Zav.range {v:Int} {t:TermR} (h:Zav v t=true) (hv:v≤6):t.exps.length≤6∧∀ j,j < t.exps.length→ZbZ (nth t.exps j):=by
 have h1:=Zav.exp h hv
 exact ⟨h1.1.1,fun j _=>by have:=h1.1.2 j; unfold ZbZ; omega⟩
theorem ZaG.parts {v:Int} {ts:List TermR} (h:ZaG v ts=true):(0≤v∧v≤6)∧ts.length≤4096∧wfT v ts ts.length=true:=by
 unfold ZaG at h
 simp only [Bool.and_eq_true,decide_eq_true_eq] at h
 exact ⟨⟨h.2.1,h.2.2.1⟩,h.1,h.2.2.2.1⟩
theorem WrIs.new {w:World} {lo b:Nat} (hb:lo≤b) (h:Blk 119 w b #[.pointer none, .slice none 0 0]):WrIs lo b [] w :=
 ⟨.pointer none,Or.inl rfl,hb, .slice none 0 0,h,World.ownsRow_nil w lo 5 1,fun e=>by cases e⟩
end Go.Proofs.YtcpjeaaapocoeaaGreatDoor

namespace Go.Proofs.YtcpjeaaapocoeaaGreatDoor
open Go.RowKit
def fpV (v:Int) (ts:List TermR):Value:=if ZaG v ts then .tuple #[.string ⟨(Zbv v ts).toArray⟩, .int .i64 0] else .tuple #[.string ⟨#[]⟩, .int .i64 1]
def kts (b1 b2:Nat):List TermR:=[⟨⟨#[50]⟩,some ⟨b1,0,none⟩,2,[1,1]⟩,⟨⟨#[45,49]⟩,some ⟨b2,0,none⟩,2,[0,0]⟩]
theorem Zew {p:Nat→Prop} (h0:p 0) (h1:p 1) {i:Nat} (h:i < 2):p i:=by
 match i,h with
 | 0,_=>exact h0
 | 1,_=>exact h1
theorem ZkX {w:World} {b1 b2 b3:Nat} (h1:Blk 3 w b1 #[.int .i64 1, .int .i64 1]) (h2:Blk 3 w b2 #[.int .i64 0, .int .i64 0]) (h3:Blk 53 w b3 #[.string ⟨#[50]⟩, .slice (some ⟨b1,0,none⟩) 2 2, .string ⟨#[45,49]⟩, .slice (some ⟨b2,0,none⟩) 2 2]):TRow w (some ⟨b3,0,none⟩) (kts b1 b2):=fun i hi=>by
 refine Zew (p:=fun i=>∃ b off,some (⟨b3,0,none⟩:Addr)=some ⟨b,off,none⟩∧b < w.heap.size∧w.cell? ⟨b,off + i * 2,none⟩=some (.string (kts b1 b2)[i]!.coef)∧w.cell? ⟨b,off + i * 2 + 1,none⟩=some (.slice (kts b1 b2)[i]!.A (kts b1 b2)[i]!.exps.length (kts b1 b2)[i]!.cap)∧IRow w (kts b1 b2)[i]!.A (kts b1 b2)[i]!.exps) ?_ ?_ hi
 ·exact ⟨b3,0,rfl,h3.lt,by rw [h3.cell]; rfl,by rw [h3.cell]; rfl,IRow.two h1⟩
 ·exact ⟨b3,0,rfl,h3.lt,by rw [h3.cell]; rfl,by rw [h3.cell]; rfl,IRow.two h2⟩
theorem Zkb {b1 b2 i:Nat} (hi:i < (kts b1 b2).length):(bytes (kts b1 b2)[i]!.coef).length=if i=0 then 1 else 2:=Zew (p:=fun i=>(bytes (kts b1 b2)[i]!.coef).length=if i=0 then 1 else 2) rfl rfl hi
theorem ZkY {b1 b2 i:Nat} (hi:i < (kts b1 b2).length):(kts b1 b2)[i]!.exps.length=2:=Zew (p:=fun i=>(kts b1 b2)[i]!.exps.length=2) rfl rfl hi
theorem Zex {n:Nat} (h:n < 10):Zaj (n:Int)=⟨#[UInt8.ofNat (48 + n)]⟩:=by
 unfold Zaj; rw [Lib.itoa_nonneg,Lib.decDigits_one h]
theorem ZhP (b1 b2:Nat):Zbv 2 (kts b1 b2)=[112,111,108,121,32,50,32,50,10,116,101,114,109,32,50,32,49,32,49,10,116,101,114,109,32,45,49,32,48,32,48,10]:=by
 have e0:Zaj 0=⟨#[48]⟩:=Zex (n:=0) (by decide)
 have e1:Zaj 1=⟨#[49]⟩:=Zex (n:=1) (by decide)
 have e2:Zaj 2=⟨#[50]⟩:=Zex (n:=2) (by decide)
 have e3:Zaj (((kts b1 b2).length:Nat):Int)=⟨#[50]⟩:=e2
 unfold Zbv ZaU
 rw [e3,e2]
 simp only [kts,List.flatMap_cons,List.flatMap_nil,List.map_cons,List.map_nil,e0,e1]
 rfl
theorem Zlk (b1 b2:Nat):ZaG 2 (kts b1 b2)=true:=by
 have r1:Zaz (bytes ⟨#[50]⟩)=some 2:=ZhM.2 (by
  unfold ZbA; rw [if_pos (by rfl)]; exact (Lib.itoa_nonneg 2).trans (Lib.decDigits_one (by decide)))
 have r2:Zaz (bytes ⟨#[45,49]⟩)=some (-1):=ZhM.2 (by
  unfold ZbA; rw [if_pos (by rfl)]; exact (Lib.itoa_neg 1 (by decide)).trans (congrArg (fun l=>45 :: l) (Lib.decDigits_one (by decide))))
 have c1:Zdn (bytes ⟨#[50]⟩)=true:=by unfold Zdn; rw [r1]; rfl
 have c2:Zdn (bytes ⟨#[45,49]⟩)=true:=by unfold Zdn; rw [r2]; rfl
 have t1:Zav 2 (kts b1 b2)[0]! = true:=by
  unfold Zav
  rw [show (kts b1 b2)[0]!.coef=⟨#[50]⟩ from rfl,c1]; rfl
 have t2:Zav 2 (kts b1 b2)[1]! = true:=by
  unfold Zav
  rw [show (kts b1 b2)[1]!.coef=⟨#[45,49]⟩ from rfl,c2]; rfl
 unfold ZaG
 rw [show (kts b1 b2).length=2 from rfl]
 unfold wfT wfT
 rw [t1,t2]
 rfl
theorem ZkZ (b1 b2:Nat):fpV 2 (kts b1 b2)=.tuple #[.string ⟨#[112,111,108,121,32,50,32,50,10,116,101,114,109,32,50,32,49,32,49,10,116,101,114,109,32,45,49,32,48,32,48,10]⟩, .int .i64 0]:=by
 unfold fpV; rw [if_pos (Zlk b1 b2),ZhP]
theorem ZjB (A:Option Addr) (c:Nat) (ts:List TermR) (v:Int) (w:World) (hg:Glob w) (hT:TRow w A ts) (hc:∀ i,i < ts.length→(bytes ts[i]!.coef).length≤570) (hx:∀ i,i < ts.length→ts[i]!.exps.length≤9223372036854775807) (hl:ZaG v ts=true→(Zbv v ts).length≤1048576) :
 Calls Tryz.prog 20 #[.agg #[.int .i64 v, .slice A ts.length c]] w (RetV w (fpV v ts)):=by
 refine ZaR (Φ:=fun w=>(Glob w∧TRow w A ts)) Tryz.func20 rfl (by kernel_rfl) (fun w' hf=>⟨hg.ext hf,hT.ext hf⟩) ?_
 refine Zac (Zaa (xq 3 [(1, .p 1 0),(2, .v (.string ⟨#[]⟩)),(3, .v (.int .i64 0))] [(1,43,[.v (.int .i64 v), .v (.slice A ts.length c)])] ?_))
 refine xe (Zab (Zac (Zac (Zaa (xq 1 [(5, .v (.agg #[.int .i64 v, .slice A ts.length c]))] [] ?_)))))
 cases hok:ZaG v ts
 ·refine xqc 63 [.agg #[.int .i64 v, .slice A ts.length c]] 6 (fun _:Unit=>.bool false) _ (fun w R Q=>(Zf6 A c ts v _ Q.1 Q.2 hc hx).mono (fun _ _ h=>ZaD h (by rw [hok]))) (fun xx=>?_)
  refine xq 1 [(7, .v (.bool true))] [] ?_
  refine xe (Zab (xa (Zac (Zaa (xq 2 [(2, .v (.string ⟨#[]⟩)),(3, .v (.int .i64 1))] [] ?_)))))
  refine xe (Zab (Zau (Zal ?_)))
  refine Zao (v:=.tuple #[.string ⟨#[]⟩, .int .i64 1]) (by kernel_rfl) (fun w' R Q=>?_)
  exact ⟨by unfold fpV; rw [hok]; rfl,R⟩
 ·refine xqc 63 [.agg #[.int .i64 v, .slice A ts.length c]] 6 (fun _:Unit=>.bool true) _ (fun w R Q=>(Zf6 A c ts v _ Q.1 Q.2 hc hx).mono (fun _ _ h=>ZaD h (by rw [hok]))) (fun xx=>?_)
  refine xq 1 [(7, .v (.bool false))] [] ?_
  refine xe (Zab (xb (Za8 (Zab (Zac (Zaa (xq 3 [(4, .p 9 0)] [(9,119,[.v (.pointer none), .v (.slice none 0 0)])] ?_)))))))
  refine xe (Zab (Zac ?_))
  refine SXc.freezeN 9 119 [.pointer none, .slice none 0 0] (fun gw=>[(1, .p 1 0),(2, .v (.string ⟨#[]⟩)),(3, .v (.int .i64 0)),(4, .v (.pointer (some ⟨gw,0,none⟩)))]) [(1,43,[.v (.int .i64 v), .v (.slice A ts.length c)])] (by kernel_rfl) (fun _=>by kernel_rfl) (by kernel_rfl) (by kernel_rfl) (fun _=>by kernel_rfl) (fun gw hgw0=>?_)
  have hgw:w.heap.size≤gw:=hgw0.resolve_right (fun f=>f)
  have hp:=ZaG.parts hok
  refine Zaa (xq 2 [(10, .v (.pointer (some ⟨gw,0,none⟩))),(11, .v (.agg #[.int .i64 v, .slice A ts.length c]))] [] ?_)
  refine Zfh (d:=12) (lo:=w.heap.size) (g:=gw) (l:=[]) (v:=.tuple #[]) (fun w1=>WrIs w.heap.size gw (Zbv v ts) w1) 64 [.pointer (some ⟨gw,0,none⟩), .agg #[.int .i64 v, .slice A ts.length c]] (fun _ _ h k=>WrFr.old h hgw k) (by kernel_rfl) (fun w1 R Q=>Zjt w w.heap.size gw [] A c ts v w1 rfl hgw hg hT R (WrIs.new hgw Q.2) (by unfold ZbZ; omega) (fun i hi=>Zav.range (ZhN hp.2.2 hi) hp.1.2) hp.2.1 (hl hok)) (fun w1 Q=>WrIs.new hgw Q.2) (fun _ _ _ hW hf h1 h2=>hW.fr hf h1 h2) ?_
  refine xr 0 [(2, .v (.string ⟨#[]⟩)),(3, .v (.int .i64 0)),(4, .v (.pointer (some ⟨gw,0,none⟩)))] [] ?_
  refine xe (Zab (Zac (Zaa (xq 1 [(13, .v (.pointer (some ⟨gw,0,none⟩)))] [] ?_))))
  refine Zfh (d:=14) (lo:=w.heap.size) (g:=gw) (l:=Zbv v ts) (v:=.tuple #[.string ⟨(Zbv v ts).toArray⟩, .int .i64 0]) (fun _=>True) 46 [.pointer (some ⟨gw,0,none⟩)] (fun _ _ h k=>WrFr.old h hgw k) (by kernel_rfl) (fun w1 R Q=>(ZiP w.heap.size gw (Zbv v ts) w1 Q (Zka v ts) (hl hok)).mono (fun _ _ h=>⟨h.1,trivial,h.2⟩)) (fun w1 Q=>Q) (fun _ _ _ _ _ _ _=>trivial) ?_
  refine xr 4 [(2, .v (.string ⟨(Zbv v ts).toArray⟩)),(3, .v (.int .i64 0))] [] ?_
  refine xe (Zab (Zau ?_))
  refine Zao (v:=.tuple #[.string ⟨(Zbv v ts).toArray⟩, .int .i64 0]) (by kernel_rfl) (fun w' R Q=>?_)
  exact ⟨by unfold fpV; rw [hok]; rfl,R⟩
theorem Ze2 (w:World) (hg:Glob w) :
 Calls Tryz.prog 15 #[] w (RetV w (.bool true)):=by
 refine ZaR (Φ:=fun w=>Glob w) Tryz.func15 rfl (by kernel_rfl) (fun w' hf=>hg.ext hf) ?_
 refine Zac (Zaa (xq 1 [(0, .v (.bool false))] [] ?_))
 refine xe (Zab (Zac (Zaa ?_)))
 refine Zcj (d:=4) (fun zb:Nat=>.slice (some ⟨zb,0,none⟩) 2 2) (fun zb zw=>Blk 3 zw zb #[.int .i64 1, .int .i64 1]) (by kernel_rfl) (by kernel_rfl) (by kernel_rfl) (by kernel_rfl) (by kernel_rfl) (by kernel_rfl) (fun w R Q=>ZbP (t:=22) (e:=3) (n:=2) (sz:=1) (z:=.int .i64 0) (parts:=#[(0,Operand.const (Value.int IntKind.i64 1)),(1,Operand.const (Value.int IntKind.i64 1))]) (by kernel_rfl) (by kernel_rfl) (by kernel_rfl) (by kernel_rfl) (by kernel_rfl) (by kernel_rfl)) (fun b10=>?_)
 refine xr 1 [(0, .v (.bool false)),(5, .v (.agg #[.string ⟨#[50]⟩, .slice (some ⟨b10,0,none⟩) 2 2]))] [] ?_
 refine Zcj (d:=6) (fun zb:Nat=>.slice (some ⟨zb,0,none⟩) 2 2) (fun zb zw=>Blk 3 zw zb #[.int .i64 0, .int .i64 0]) (by kernel_rfl) (by kernel_rfl) (by kernel_rfl) (by kernel_rfl) (by kernel_rfl) (by kernel_rfl) (fun w R Q=>ZbP (t:=22) (e:=3) (n:=2) (sz:=1) (z:=.int .i64 0) (parts:=#[(0,Operand.const (Value.int IntKind.i64 0)),(1,Operand.const (Value.int IntKind.i64 0))]) (by kernel_rfl) (by kernel_rfl) (by kernel_rfl) (by kernel_rfl) (by kernel_rfl) (by kernel_rfl)) (fun b11=>?_)
 refine xr 1 [(0, .v (.bool false)),(5, .v (.agg #[.string ⟨#[50]⟩, .slice (some ⟨b10,0,none⟩) 2 2])),(7, .v (.agg #[.string ⟨#[45,49]⟩, .slice (some ⟨b11,0,none⟩) 2 2]))] [] ?_
 refine Zcj (d:=8) (fun zb:Nat=>.slice (some ⟨zb,0,none⟩) 2 2) (fun zb zw=>Blk 53 zw zb #[.string ⟨#[50]⟩, .slice (some ⟨b10,0,none⟩) 2 2, .string ⟨#[45,49]⟩, .slice (some ⟨b11,0,none⟩) 2 2]) (by kernel_rfl) (by kernel_rfl) (by kernel_rfl) (by kernel_rfl) (by kernel_rfl) (by kernel_rfl) (fun w R Q=>ZbP (t:=41) (e:=53) (n:=2) (sz:=2) (z:=.agg #[.string ⟨#[]⟩, .slice none 0 0]) (parts:=#[(0,Operand.tmp 5),(1,Operand.tmp 7)]) (by kernel_rfl) (by kernel_rfl) (by kernel_rfl) (by kernel_rfl) (by kernel_rfl) (by kernel_rfl)) (fun b12=>?_)
 refine xr 1 [(0, .v (.bool false)),(9, .v (.agg #[.int .i64 2, .slice (some ⟨b12,0,none⟩) 2 2]))] [] ?_
 refine xqc 20 [.agg #[.int .i64 2, .slice (some ⟨b12,0,none⟩) 2 2]] 10 (fun _:Unit=>.tuple #[.string ⟨#[112,111,108,121,32,50,32,50,10,116,101,114,109,32,50,32,49,32,49,10,116,101,114,109,32,45,49,32,48,32,48,10]⟩, .int .i64 0]) _ (fun w R Q=>(ZjB (some ⟨b12,0,none⟩) 2 (kts b10 b11) 2 _ Q.1.1.1 (ZkX Q.1.1.2 Q.1.2 Q.2) (fun i hi=>by rw [Zkb hi]; split<;>decide) (fun i hi=>by rw [ZkY hi]; decide) (fun _=>by rw [ZhP]; decide)).mono (fun _ _ h=>ZaD h (ZkZ _ _))) (fun xx=>?_)
 refine xq 5 [(1, .v (.string ⟨#[112,111,108,121,32,50,32,50,10,116,101,114,109,32,50,32,49,32,49,10,116,101,114,109,32,45,49,32,48,32,48,10]⟩)),(2, .v (.int .i64 0))] [] ?_
 refine xe (Zab (Zac (Zaa (xq 5 [(15, .v (.bool true)),(17, .v (.bool ((⟨#[112,111,108,121,32,50,32,50,10,116,101,114,109,32,50,32,49,32,49,10,116,101,114,109,32,45,49,32,48,32,48,10]⟩:ByteArray).toList == (⟨#[112,111,108,121,32,50,32,50,10,116,101,114,109,32,50,32,49,32,49,10,116,101,114,109,32,45,49,32,48,32,48,10]⟩:ByteArray).toList)))] [] ?_))))
 rw [ZjZ]
 refine xq 2 [(0, .v (.bool true))] [] ?_
 refine xe (Zab (Zau ?_))
 refine Zao (v:=.bool true) (by kernel_rfl) (fun w' R Q=>?_)
 exact ⟨rfl,R⟩
end Go.Proofs.YtcpjeaaapocoeaaGreatDoor

namespace Go.Proofs.YtcpjeaaapocoeaaGreatDoor
open Go.RowKit
def zs0 (m:Nat):ByteArray:=⟨(List.replicate m (48:UInt8)).toArray⟩
theorem Zd0 (m:Nat):(zs0 m).size=m:=by
 show (List.replicate m (48:UInt8)).toArray.size=m
 simp
theorem ZjC (m:Nat):Lib.indexByte (List.replicate m (48:UInt8)) 10 = -1:=by
 induction m with
 | zero=>rfl
 | succ m ih=>rw [List.replicate_succ,Lib.indexByte,ih]; rfl
theorem ZjD (m:Nat):Lib.indexByte (zs0 m).data.toList 10 = -1:=ZjC m
theorem Zke {j m v:Nat} (h:j < m):(List.replicate j v ++ List.replicate (m - j) 0).set j v=List.replicate (j + 1) v ++ List.replicate (m - (j + 1)) 0:=by
 rw [show m - j=(m - (j + 1)) + 1 by omega,List.replicate_succ,List.set_append_right _ _ (by simp),List.length_replicate,Nat.sub_self,List.set_cons_zero,List.replicate_succ',List.append_assoc]
 rfl
theorem Zdp {o:Oper} {ρ:Operand→Value} {w:World} {r m:Nat} {x:Operand} (hO:Own .u8 5 w r (List.replicate m 48 ++ List.replicate (m - m) 0)) (ho:o.op=Op.convert 37 9 x:=by kernel_rfl) (hx:ρ x=.slice (some ⟨r,0,none⟩) m m:=by kernel_rfl) :
 (execOp ρ o).run Tryz.prog w=.ok (.value (.string (zs0 m))) w:=by
 rw [Nat.sub_self,List.replicate_zero,List.append_nil] at hO
 have h:=run_convert_bytes_back (P:=Tryz.prog) w 37 9 5 ⟨r,0,none⟩ m (List.replicate m (48:UInt8)) Tryz.underlying37 Tryz.underlying5 Tryz.underlying9 (fun j hj=>by
  have hj':j < m:=by simpa using hj
  have:=hO.cell (i:=j) (by simpa using hj')
  rw [Lib.add_plain,Nat.zero_add,this,List.getElem?_replicate,if_pos hj',List.getElem_replicate]
  rfl)
 rw [List.length_replicate] at h
 have h2:(convert 37 9 (.slice (some ⟨r,0,none⟩) m m)).run Tryz.prog w=.ok (.string (zs0 m)) w:=h
 simp [execOp,ho,hx,h2,Result.andThen]
theorem ZhT (x m:Nat) (hm:m=1048476 + x) (hx:x < 256) (w:World) (hg:Glob w) :
 Calls Tryz.prog 7 #[.int .u8 ((x:Nat):Int)] w (RetV w (.bool true)):=by
 refine ZaR (Φ:=fun w=>Glob w) Tryz.func7 rfl (by kernel_rfl) (fun w' hf=>hg.ext hf) ?_
 refine Zac (Zaa (xq 1 [(2, .v (.bool false))] [] ?_))
 refine xe (Zab (Zac (Zaa (xq 2 [(11, .v (.int .i64 (IntKind.i64.wrap (((x:Nat):Int)))))] [] ?_))))
 rw [show IntKind.i64.wrap (((x:Nat):Int))=((x:Nat):Int) from by rw [IntKind.wrap_i64]; omega]
 refine xq 1 [(12, .v (.int .i64 (IntKind.i64.wrap (1048476 + ((x:Nat):Int)))))] [] ?_
 rw [(show IntKind.i64.wrap (1048476 + ((x:Nat):Int))=((m:Nat):Int) from by rw [IntKind.wrap_i64]; omega)]
 refine Zlp (d:=13) (t:=37) (e:=5) (k:=.u8) (kl:=.i64) (kc:=.i64) (l:=(Operand.tmp 12)) (c:=(Operand.tmp 12)) (m) 1 (by omega) (by decide) (fun r10 hr10 _=>?_)
 refine xr 1 [(2, .v (.bool false)),eS1 3 (some ⟨r10,0,none⟩) m m] [] ?_
 refine xe (Zab (Zac (Zac (Zaa (xq 3 [(15, .v (.int .i64 ((m:Nat):Int))),(16, .v (.int .i64 0))] [] ?_)))))
 refine xe (Zab (ZbY ?_))
 refine SXc.weak [(2, .v (.bool false)),(3, .v (.slice (some ⟨r10,0,none⟩) m m)),(15, .v (.int .i64 ((m:Nat):Int))),(16, .v (.int .i64 ((0:Nat):Int)))] [] (Ψ:=fun w=>(Box (fun j=>r10≤j) w (fun w=>Glob w)∧Own .u8 5 w r10 (List.replicate 0 48 ++ List.replicate (m - 0) 0))) (Za7.of (by kernel_rfl)) (by kernel_rfl) (fun w Q=>⟨Q.1,Q.2⟩) ?_
 refine ZeK (fun nn ss ff=>∃ (k:Nat),ss=ofL [(2, .v (.bool false)),(3, .v (.slice (some ⟨r10,0,none⟩) m m)),(15, .v (.int .i64 ((m:Nat):Int))),(16, .v (.int .i64 ((k:Nat):Int)))] []∧ff=(fun w=>(Box (fun j=>r10≤j) w (fun w=>Glob w)∧Own .u8 5 w r10 (List.replicate k 48 ++ List.replicate (m - k) 0)))∧(k≤m)∧nn=(1 + (m - k))) ((1 + (m - 0))) ⟨0,rfl,rfl,(Nat.zero_le _),rfl⟩ ?_
 rintro nn ss ff ⟨k,rfl,rfl,hk,rfl⟩
 refine Zac (Zaa (xq 1 [(17, .v (.bool (decide (((k:Nat):Int) < ((m:Nat):Int)))))] [] ?_))
 refine xe (Zab (Zac ?_))
 refine ZcY ((decide (((k:Nat):Int) < ((m:Nat):Int)))) (by kernel_rfl) (fun hb11=>?_) (fun hb11=>?_)
 ·have hlt:k < m:=by have:=of_decide_eq_true hb11; omega
  refine Za8 (Zab (Zac (ZbY (Zac (Zaa (xq 2 [(4, .v (.int .i64 ((k:Nat):Int)))] [] ?_))))))
  refine xe (Zab (Zaa (xq 2 [eS1 19 (some ⟨r10,0,none⟩) m m,(20, .v (.int .i64 ((k:Nat):Int)))] [] ?_)))
  refine xqk 21 (.pointer (some ⟨r10,k,none⟩)) (fun w R Q=>Zj2 (t:=37) (e:=5) (x:=(Operand.tmp 19)) (ix:=(Operand.tmp 20)) (len:=m) (cap:=m) (i:=k) (by omega)) ?_
  refine Zlg (t:=5) (x:=(Operand.tmp 21)) (y:=(Operand.const (Value.int IntKind.u8 48))) r10 (k) (48) (fun w=>(Box (fun j=>r10≤j) w (fun w=>Glob w)∧Own .u8 5 w r10 ((List.replicate k 48 ++ List.replicate (m - k) 0).set (k) (48)))) (fun w Q=>Q.2) (by rw [List.length_append,List.length_replicate,List.length_replicate]; omega) (Or.inl hr10) (fun w w' Q hF hO=>⟨((Q.1).fr (hF.mono (fun _ _ e=>by rw [e]; exact Nat.le_refl _))),hO⟩) ?_
  refine xe (ZdF (Zab (Zaa (xq 1 [(22, .v (.int .i64 (IntKind.i64.wrap (((k:Nat):Int) + 1))))] [] ?_))))
  rw [show IntKind.i64.wrap ((((k:Nat):Int) + 1))=((k + 1:Nat):Int) from by rw [IntKind.wrap_i64]; omega]
  refine xq 1 [(16, .v (.int .i64 ((k + 1:Nat):Int)))] [] ?_
  refine xe ?_
  refine SXq.weak [(2, .v (.bool false)),(3, .v (.slice (some ⟨r10,0,none⟩) m m)),(15, .v (.int .i64 ((m:Nat):Int))),(16, .v (.int .i64 (((k + 1):Nat):Int)))] [] (Ψ:=fun w=>(Box (fun j=>r10≤j) w (fun w=>Glob w)∧Own .u8 5 w r10 (List.replicate (k + 1) 48 ++ List.replicate (m - (k + 1)) 0))) (Za7.of (by kernel_rfl)) (by kernel_rfl) (fun w Q=>⟨Q.1,(by rw [← Zke hlt]; exact Q.2)⟩) ?_
  exact ZcE ((1 + (m - (k + 1)))) (by omega) ⟨(k + 1),rfl,rfl,hlt,rfl⟩
 ·have hge:m≤k:=by have:=of_decide_eq_false hb11; omega
  obtain rfl:m=k:=by omega
  refine ZeE (Za3 (Za3 (ZfL (Zab (Zac ?_)))))
  by_cases ov:1048576 < m
  ·refine Zaa (xq 1 [eS1 24 (some ⟨r10,0,none⟩) m m] [] ?_)
   refine xqk 25 (.string (zs0 m)) (fun w R Q=>Zdp (x:=.tmp 24) Q.2) ?_
   refine xqc 21 [.string (zs0 m)] 26 (fun _:Unit=>.tuple #[.agg #[.int .i64 0, .slice none 0 0], .int .i64 2]) _ (fun w R Q=>(Zgy (zs0 m) _ (by rw [Zd0]; exact ov)).mono (fun _ _ h=>ZaD h rfl)) (fun xx=>?_)
   refine xq 6 [(6, .v (.int .i64 2))] [] ?_
   refine xe (Zab (Zac (Zaa (xq 1 [eS1 30 (some ⟨r10,0,none⟩) m m] [] ?_))))
   refine xqk 31 (.string (zs0 m)) (fun w R Q=>Zdp (x:=.tmp 30) Q.1.2) ?_
   refine xqc 25 [.string (zs0 m)] 32 (fun _:Unit=>.tuple #[.agg #[.int .i64 0, .string ⟨#[]⟩, .string ⟨#[]⟩, .int .i64 0, .int .i64 0, .slice none 0 0, .slice none 0 0, .int .i64 0, .slice none 0 0, .slice none 0 0, .slice none 0 0, .string ⟨#[]⟩, .string ⟨#[]⟩, .slice none 0 0, .slice none 0 0, .slice none 0 0, .string ⟨#[]⟩, .string ⟨#[]⟩, .int .i64 0, .int .i64 0, .slice none 0 0, .slice none 0 0, .int .i64 0, .slice none 0 0, .int .i64 0, .slice none 0 0, .slice none 0 0, .slice none 0 0, .string ⟨#[]⟩, .slice none 0 0], .int .i64 2]) _ (fun w R Q=>(Zf9 (zs0 m) _ (by rw [Zd0]; exact ov)).mono (fun _ _ h=>ZaD h rfl)) (fun xx=>?_)
   refine xq 6 [(8, .v (.int .i64 2))] [] ?_
   refine xe (Zab (Zac (Zaa (xq 1 [(9, .v (.int .i64 6))] [] ?_))))
   refine xe (Zab (Zac (Zac (Zaa (xq 3 [(37, .v (.bool (decide (((m:Nat):Int) > 1048576))))] [] ?_)))))
   rw [(show decide (((m:Nat):Int) > 1048576)=true from decide_eq_true (by omega))]
   refine xe (Zab (xa (Zaa (xq 1 [(9, .v (.int .i64 2))] [] ?_))))
   refine xe (Zab (Zac (Zaa ?_)))
   refine xqc 15 [] 38 (fun _:Unit=>.bool true) _ (fun w R Q=>(Ze2 _ (Q.1.1.1).self).mono (fun _ _ h=>ZaD h rfl)) (fun xx=>?_)
   refine xq 11 [(2, .v (.bool true))] [] ?_
   refine xe (Zab (Zau ?_))
   refine Zao (v:=.bool true) (by kernel_rfl) (fun w' R Q=>?_)
   exact ⟨rfl,R⟩
  ·refine Zaa (xq 1 [eS1 24 (some ⟨r10,0,none⟩) m m] [] ?_)
   refine xqk 25 (.string (zs0 m)) (fun w R Q=>Zdp (x:=.tmp 24) Q.2) ?_
   refine xqc 21 [.string (zs0 m)] 26 (fun _:Unit=>.tuple #[.agg #[.int .i64 0, .slice none 0 0], .int .i64 6]) _ (fun w R Q=>(ZhS (zs0 m) _ (by rw [Zd0]; omega) (ZjD m)).mono (fun _ _ h=>ZaD h rfl)) (fun xx=>?_)
   refine xq 6 [(6, .v (.int .i64 6))] [] ?_
   refine xe (Zab (Zac (Zaa (xq 1 [eS1 30 (some ⟨r10,0,none⟩) m m] [] ?_))))
   refine xqk 31 (.string (zs0 m)) (fun w R Q=>Zdp (x:=.tmp 30) Q.1.2) ?_
   refine xqc 25 [.string (zs0 m)] 32 (fun _:Unit=>.tuple #[.agg #[.int .i64 0, .string ⟨#[]⟩, .string ⟨#[]⟩, .int .i64 0, .int .i64 0, .slice none 0 0, .slice none 0 0, .int .i64 0, .slice none 0 0, .slice none 0 0, .slice none 0 0, .string ⟨#[]⟩, .string ⟨#[]⟩, .slice none 0 0, .slice none 0 0, .slice none 0 0, .string ⟨#[]⟩, .string ⟨#[]⟩, .int .i64 0, .int .i64 0, .slice none 0 0, .slice none 0 0, .int .i64 0, .slice none 0 0, .int .i64 0, .slice none 0 0, .slice none 0 0, .slice none 0 0, .string ⟨#[]⟩, .slice none 0 0], .int .i64 6]) _ (fun w R Q=>(Zg3 (zs0 m) _ (by rw [Zd0]; omega) (ZjD m)).mono (fun _ _ h=>ZaD h rfl)) (fun xx=>?_)
   refine xq 6 [(8, .v (.int .i64 6))] [] ?_
   refine xe (Zab (Zac (Zaa (xq 1 [(9, .v (.int .i64 6))] [] ?_))))
   refine xe (Zab (Zac (Zac (Zaa (xq 3 [(37, .v (.bool (decide (((m:Nat):Int) > 1048576))))] [] ?_)))))
   rw [(show decide (((m:Nat):Int) > 1048576)=false from decide_eq_false (by omega))]
   refine xe (Zab (xb (Za8 (Zab (Zac (Zaa ?_))))))
   refine xqc 15 [] 38 (fun _:Unit=>.bool true) _ (fun w R Q=>(Ze2 _ (Q.1.1.1).self).mono (fun _ _ h=>ZaD h rfl)) (fun xx=>?_)
   refine xq 11 [(2, .v (.bool true))] [] ?_
   refine xe (Zab (Zau ?_))
   refine Zao (v:=.bool true) (by kernel_rfl) (fun w' R Q=>?_)
   exact ⟨rfl,R⟩
theorem Zg4 (x:Int) (hx:(Lit.int .u8 x).wf=true) (w:World) (hg:Glob w):Calls Tryz.prog 7 #[.int .u8 x] w (RetV w (.bool true)):=by
 have h:0≤x∧x≤255:=by
  simp only [Lit.wf,Bool.and_eq_true,decide_eq_true_eq] at hx
  exact hx
 obtain ⟨y,rfl⟩:∃ y:Nat,x=(y:Int):=⟨x.toNat,by omega⟩
 exact ZhT y _ rfl (by omega) w hg
end Go.Proofs.YtcpjeaaapocoeaaGreatDoor
