/-
 My texts Nr, Nsh, Ng, Nf, Nt, Nd, Nrd, RdK, Rc, Awk put together.
-/
import Derived.Test.YthlipnahcbcjkaaGreatDoorQ16
import Derived.Test.YthlipnahcbcjkaaGreatDoorQ18
import Derived.Test.YthlipnahcbcjkaaGreatDoorQ15
import Derived.Test.YthlipnahcbcjkaaGreatDoorQ11
import Derived.Test.YthlipnahcbcjkaaGreatDoorQ02
set_option maxRecDepth 100000
namespace Go.Proofs.YthlipnahcbcjkaaGreatDoor
open Go.RowKit
end Go.Proofs.YthlipnahcbcjkaaGreatDoor

namespace Go.Proofs.YthlipnahcbcjkaaGreatDoor
open Go.RowKit
end Go.Proofs.YthlipnahcbcjkaaGreatDoor

namespace Go.Proofs.YthlipnahcbcjkaaGreatDoor
open Go.RowKit
end Go.Proofs.YthlipnahcbcjkaaGreatDoor

namespace Go.Proofs.YthlipnahcbcjkaaGreatDoor
open Go.RowKit
end Go.Proofs.YthlipnahcbcjkaaGreatDoor

namespace Go.Proofs.YthlipnahcbcjkaaGreatDoor
open Go.RowKit
end Go.Proofs.YthlipnahcbcjkaaGreatDoor

namespace Go.Proofs.YthlipnahcbcjkaaGreatDoor
open Go.RowKit
theorem ZmW {n k:Nat} (h:n < 10 ^ k):ml n≤k:=Zmo.2 (Nat.lt_of_lt_of_le h (Nat.pow_le_pow_left (by rw [Zmn]; omega) _))
end Go.Proofs.YthlipnahcbcjkaaGreatDoor

namespace Go.Proofs.YthlipnahcbcjkaaGreatDoor
open Go.RowKit
end Go.Proofs.YthlipnahcbcjkaaGreatDoor

namespace Go.Proofs.YthlipnahcbcjkaaGreatDoor
open Go.RowKit
theorem Zja {α:Type} (o:Option α):o=none∨∃ x,o=some x:=by cases o; exact Or.inl rfl; exact Or.inr ⟨_,rfl⟩
section
variable {w w':World} {e:Ending} {l:List UInt8}
theorem Zd4 (h:Zha w l e w') (hr:Zaz l=none):ZcP (fun x:ShQ=>.tuple #[ZbY x, .bool false]) (fun x w=>ZaN w (ZbY x) 0) w e w':=by
 obtain ⟨v,ok,rfl,Q,⟨rfl,q,h1,h2⟩ | ⟨rfl,h1,h2⟩⟩:=h
 ·rw [hr] at h1; cases h1
 ·obtain ⟨s,A,l,c,t,B,m,d,rfl⟩:=h2.shp
  exact ⟨(s,A,l,c,t,B,m,d),rfl,Q,boxn Q (fun S w'' hS hF=>h2.nrb hS hF)⟩
theorem Zd5 {q:Rat} (h:Zha w l e w') (hr:Zaz l=some q):ZcP (fun x:ShQ=>.tuple #[ZbY x, .bool true]) (fun x w=>ZaN w (ZbY x) q) w e w':=by
 obtain ⟨v,ok,rfl,Q,⟨rfl,q,h1,h2⟩ | ⟨rfl,h1,h2⟩⟩:=h
 ·rw [hr] at h1; injection h1 with h1; subst h1
  obtain ⟨s,A,l,c,t,B,m,d,rfl⟩:=h2.shp
  exact ⟨(s,A,l,c,t,B,m,d),rfl,Q,boxn Q (fun S w'' hS hF=>h2.nrb hS hF)⟩
 ·rw [hr] at h1; cases h1
end
end Go.Proofs.YthlipnahcbcjkaaGreatDoor

namespace Go.Proofs.YthlipnahcbcjkaaGreatDoor
open Go.RowKit
section
variable {w w':World} {e:Ending} {l:List UInt8}
theorem ZnL {v m:Int} (h:ZkG w v m e w'):ZcP (fun x:ShQ × Rat × Bool=>.tuple #[ZbY x.1, .bool x.2.2]) (fun x w=>ZaN w (ZbY x.1) x.2.1∧ZbC v m x.2.1 x.2.2) w e w':=by
 obtain ⟨u,q,ok,rfl,h2,h3,Q⟩:=h
 obtain ⟨s,A,l,c,t,B,m,d,rfl⟩:=h2.shp
 exact ⟨((s,A,l,c,t,B,m,d),q,ok),rfl,Q,boxn Q (fun S w'' hS hF=>⟨h2.nrb hS hF,h3⟩)⟩
end
def Zn4 (w:World) (la lb:List UInt8) (e:Ending) (w':World):Prop:=∃ s ok,e=.returned (.tuple #[.string ⟨s.toArray⟩, .bool ok])∧RcIs la lb s ok∧Ext w w'
theorem Zlm {l:List UInt8} {q:Rat} (h:Zaz l=some q) (hl:l.length≤200):wl q.num.natAbs < 39∧wl q.den < 39∧ml q.num.natAbs≤200∧ml q.den≤200:=by
 obtain ⟨h1,h2⟩:=ZmN h hl (by omega)
 have key:∀ n:Nat,n < 10 ^ 200→wl n < 39:=fun n hn=>by
  have:wl n≤38:=by
   rw [Zbq,Zai]
   exact Nat.lt_of_lt_of_le hn (by decide)
  omega
 exact ⟨key _ h1,key _ h2,ZmW h1,ZmW h2⟩
theorem fit2 {z:Int} (h:wl z.natAbs < 39):Fits z:=by unfold Fits; omega
theorem ZoW {v m:Int} {q:Rat} (h:ZbC v m q true) (hm:2≤m) (hw:wl m.natAbs < 39):ZbP q.num.natAbs∧ZbP q.den:=by
 obtain ⟨h1,h2⟩:=h.size hm
 exact ⟨Nat.lt_of_le_of_lt (ZaT h1) (by omega),Nat.lt_of_le_of_lt (ZaT h2) (by omega)⟩
theorem Zh0 (s1 s2:ByteArray) (w:World) (hg:Glob w) (h1:s1.size≤200) (h2:s2.size≤200) :
 Calls Tryz.prog 58 #[.string s1, .string s2] w (Zn4 w (bytes s1) (bytes s2)):=by
 refine Zc0 (Φ:=fun w=>Glob w) Tryz.func58 rfl (by kernel_rfl) (fun w' hf=>hg.ext hf) ?_
 refine Zac ?_
 refine Zab ?_
 refine ZaI 2 [(0, .v (.string s1)),(1, .v (.string s2)),(4, .v (.string ⟨#[]⟩)),(5, .v (.bool false))] [] (by kernel_rfl) (by kernel_rfl) ?_
 refine ZaR (by kernel_rfl) ?_
 refine Zaa ?_
 refine Zac ?_
 refine Zab ?_
 refine ZaI 1 [(1, .v (.string s2)),(4, .v (.string ⟨#[]⟩)),(5, .v (.bool false)),(14, .v (.string s1))] [] (by kernel_rfl) (by kernel_rfl) ?_
 rcases Zja (Zaz (bytes s1)) with hr1 | ⟨q1,hr1⟩
 ·refine Zb2 132 [.string s1] 15 (fun x:ShQ=>.tuple #[ZbY x, .bool false]) _ (by kernel_rfl) (by kernel_rfl) (fun w R Q=>(Zd0 s1 _ Q (ZdN.of_len (by rw [Zal]; omega))).mono (fun _ _ h=>Zd4 h hr1)) (fun xx=>?_)
  obtain ⟨s10,A10,l10,c10,t10,B10,m10,d10⟩:=xx
  refine ZaI 6 [(1, .v (.string s2)),(4, .v (.string ⟨#[]⟩)),(5, .v (.bool false)),(6, .p 6 0),(7, .v (.bool false))] [(6,107,[.v (.bool s10), .v (.slice A10 l10 c10), .v (.bool t10), .v (.slice B10 m10 d10)])] (by kernel_rfl) (by kernel_rfl) ?_
  refine ZaR (by kernel_rfl) ?_
  refine Zaa ?_
  refine Zac ?_
  refine Zab ?_
  refine ZaI 1 [(4, .v (.string ⟨#[]⟩)),(5, .v (.bool false)),(6, .p 6 0),(7, .v (.bool false)),(19, .v (.string s2))] [(6,107,[.v (.bool s10), .v (.slice A10 l10 c10), .v (.bool t10), .v (.slice B10 m10 d10)])] (by kernel_rfl) (by kernel_rfl) ?_
  rcases Zja (Zaz (bytes s2)) with hr2 | ⟨q2,hr2⟩
  ·refine Zb2 132 [.string s2] 20 (fun x:ShQ=>.tuple #[ZbY x, .bool false]) _ (by kernel_rfl) (by kernel_rfl) (fun w R Q=>(Zd0 s2 _ Q.1 (ZdN.of_len (by rw [Zal]; omega))).mono (fun _ _ h=>Zd4 h hr2)) (fun xx=>?_)
   obtain ⟨s11,A11,l11,c11,t11,B11,m11,d11⟩:=xx
   refine ZaI 6 [(4, .v (.string ⟨#[]⟩)),(5, .v (.bool false)),(6, .p 6 0),(7, .v (.bool false)),(8, .p 8 0),(9, .v (.bool false))] [(8,107,[.v (.bool s11), .v (.slice A11 l11 c11), .v (.bool t11), .v (.slice B11 m11 d11)]),(6,107,[.v (.bool s10), .v (.slice A10 l10 c10), .v (.bool t10), .v (.slice B10 m10 d10)])] (by kernel_rfl) (by kernel_rfl) ?_
   refine ZaR (by kernel_rfl) ?_
   refine Zaa ?_
   refine Zac ?_
   refine Zac ?_
   refine Zab ?_
   refine ZaI 16 [(4, .v (.string ⟨#[]⟩)),(5, .v (.bool false)),(6, .p 6 0),(8, .p 8 0),(38, .v (.bool true))] [(8,107,[.v (.bool s11), .v (.slice A11 l11 c11), .v (.bool t11), .v (.slice B11 m11 d11)]),(6,107,[.v (.bool s10), .v (.slice A10 l10 c10), .v (.bool t10), .v (.slice B10 m10 d10)])] (by kernel_rfl) (by kernel_rfl) ?_
   refine ZaR (by kernel_rfl) ?_
   refine Zaa ?_
   refine ZcZ (by kernel_rfl) ?_
   refine Zac ?_
   refine Zab ?_
   refine ZaI 2 [(4, .v (.string ⟨#[]⟩)),(5, .v (.bool false)),(6, .p 6 0),(8, .p 8 0)] [(8,107,[.v (.bool s11), .v (.slice A11 l11 c11), .v (.bool t11), .v (.slice B11 m11 d11)]),(6,107,[.v (.bool s10), .v (.slice A10 l10 c10), .v (.bool t10), .v (.slice B10 m10 d10)])] (by kernel_rfl) (by kernel_rfl) ?_
   refine ZaR (by kernel_rfl) ?_
   refine Zaa ?_
   refine Zaw ?_
   refine Zam ?_
   refine Zaq (v:=.tuple #[.string ⟨#[]⟩, .bool false]) (by kernel_rfl) (fun w' R Q=>?_)
   exact ⟨_,_,rfl,RcIs.none1 hr1,R⟩
  ·refine Zb2 132 [.string s2] 20 (fun x:ShQ=>.tuple #[ZbY x, .bool true]) _ (by kernel_rfl) (by kernel_rfl) (fun w R Q=>(Zd0 s2 _ Q.1 (ZdN.of_len (by rw [Zal]; omega))).mono (fun _ _ h=>Zd5 h hr2)) (fun xx=>?_)
   obtain ⟨s12,A12,l12,c12,t12,B12,m12,d12⟩:=xx
   refine ZaI 6 [(4, .v (.string ⟨#[]⟩)),(5, .v (.bool false)),(6, .p 6 0),(7, .v (.bool false)),(8, .p 8 0),(9, .v (.bool true))] [(8,107,[.v (.bool s12), .v (.slice A12 l12 c12), .v (.bool t12), .v (.slice B12 m12 d12)]),(6,107,[.v (.bool s10), .v (.slice A10 l10 c10), .v (.bool t10), .v (.slice B10 m10 d10)])] (by kernel_rfl) (by kernel_rfl) ?_
   refine ZaR (by kernel_rfl) ?_
   refine Zaa ?_
   refine Zac ?_
   refine Zac ?_
   refine Zab ?_
   refine ZaI 16 [(4, .v (.string ⟨#[]⟩)),(5, .v (.bool false)),(6, .p 6 0),(8, .p 8 0),(38, .v (.bool true))] [(8,107,[.v (.bool s12), .v (.slice A12 l12 c12), .v (.bool t12), .v (.slice B12 m12 d12)]),(6,107,[.v (.bool s10), .v (.slice A10 l10 c10), .v (.bool t10), .v (.slice B10 m10 d10)])] (by kernel_rfl) (by kernel_rfl) ?_
   refine ZaR (by kernel_rfl) ?_
   refine Zaa ?_
   refine ZcZ (by kernel_rfl) ?_
   refine Zac ?_
   refine Zab ?_
   refine ZaI 2 [(4, .v (.string ⟨#[]⟩)),(5, .v (.bool false)),(6, .p 6 0),(8, .p 8 0)] [(8,107,[.v (.bool s12), .v (.slice A12 l12 c12), .v (.bool t12), .v (.slice B12 m12 d12)]),(6,107,[.v (.bool s10), .v (.slice A10 l10 c10), .v (.bool t10), .v (.slice B10 m10 d10)])] (by kernel_rfl) (by kernel_rfl) ?_
   refine ZaR (by kernel_rfl) ?_
   refine Zaa ?_
   refine Zaw ?_
   refine Zam ?_
   refine Zaq (v:=.tuple #[.string ⟨#[]⟩, .bool false]) (by kernel_rfl) (fun w' R Q=>?_)
   exact ⟨_,_,rfl,RcIs.none1 hr1,R⟩
 ·refine Zb2 132 [.string s1] 15 (fun x:ShQ=>.tuple #[ZbY x, .bool true]) _ (by kernel_rfl) (by kernel_rfl) (fun w R Q=>(Zd0 s1 _ Q (ZdN.of_len (by rw [Zal]; omega))).mono (fun _ _ h=>Zd5 h hr1)) (fun xx=>?_)
  obtain ⟨s13,A13,l13,c13,t13,B13,m13,d13⟩:=xx
  refine ZaI 6 [(1, .v (.string s2)),(4, .v (.string ⟨#[]⟩)),(5, .v (.bool false)),(6, .p 6 0),(7, .v (.bool true))] [(6,107,[.v (.bool s13), .v (.slice A13 l13 c13), .v (.bool t13), .v (.slice B13 m13 d13)])] (by kernel_rfl) (by kernel_rfl) ?_
  refine ZaR (by kernel_rfl) ?_
  refine Zaa ?_
  refine Zac ?_
  refine Zab ?_
  refine ZaI 1 [(4, .v (.string ⟨#[]⟩)),(5, .v (.bool false)),(6, .p 6 0),(7, .v (.bool true)),(19, .v (.string s2))] [(6,107,[.v (.bool s13), .v (.slice A13 l13 c13), .v (.bool t13), .v (.slice B13 m13 d13)])] (by kernel_rfl) (by kernel_rfl) ?_
  rcases Zja (Zaz (bytes s2)) with hr2 | ⟨q2,hr2⟩
  ·refine Zb2 132 [.string s2] 20 (fun x:ShQ=>.tuple #[ZbY x, .bool false]) _ (by kernel_rfl) (by kernel_rfl) (fun w R Q=>(Zd0 s2 _ Q.1 (ZdN.of_len (by rw [Zal]; omega))).mono (fun _ _ h=>Zd4 h hr2)) (fun xx=>?_)
   obtain ⟨s14,A14,l14,c14,t14,B14,m14,d14⟩:=xx
   refine ZaI 6 [(4, .v (.string ⟨#[]⟩)),(5, .v (.bool false)),(6, .p 6 0),(7, .v (.bool true)),(8, .p 8 0),(9, .v (.bool false))] [(8,107,[.v (.bool s14), .v (.slice A14 l14 c14), .v (.bool t14), .v (.slice B14 m14 d14)]),(6,107,[.v (.bool s13), .v (.slice A13 l13 c13), .v (.bool t13), .v (.slice B13 m13 d13)])] (by kernel_rfl) (by kernel_rfl) ?_
   refine ZaR (by kernel_rfl) ?_
   refine Zaa ?_
   refine Zac ?_
   refine Zac ?_
   refine Zab ?_
   refine ZaI 16 [(4, .v (.string ⟨#[]⟩)),(5, .v (.bool false)),(6, .p 6 0),(8, .p 8 0),(38, .v (.bool true))] [(8,107,[.v (.bool s14), .v (.slice A14 l14 c14), .v (.bool t14), .v (.slice B14 m14 d14)]),(6,107,[.v (.bool s13), .v (.slice A13 l13 c13), .v (.bool t13), .v (.slice B13 m13 d13)])] (by kernel_rfl) (by kernel_rfl) ?_
   refine ZaR (by kernel_rfl) ?_
   refine Zaa ?_
   refine ZcZ (by kernel_rfl) ?_
   refine Zac ?_
   refine Zab ?_
   refine ZaI 2 [(4, .v (.string ⟨#[]⟩)),(5, .v (.bool false)),(6, .p 6 0),(8, .p 8 0)] [(8,107,[.v (.bool s14), .v (.slice A14 l14 c14), .v (.bool t14), .v (.slice B14 m14 d14)]),(6,107,[.v (.bool s13), .v (.slice A13 l13 c13), .v (.bool t13), .v (.slice B13 m13 d13)])] (by kernel_rfl) (by kernel_rfl) ?_
   refine ZaR (by kernel_rfl) ?_
   refine Zaa ?_
   refine Zaw ?_
   refine Zam ?_
   refine Zaq (v:=.tuple #[.string ⟨#[]⟩, .bool false]) (by kernel_rfl) (fun w' R Q=>?_)
   exact ⟨_,_,rfl,RcIs.none2 hr2,R⟩
  ·refine Zb2 132 [.string s2] 20 (fun x:ShQ=>.tuple #[ZbY x, .bool true]) _ (by kernel_rfl) (by kernel_rfl) (fun w R Q=>(Zd0 s2 _ Q.1 (ZdN.of_len (by rw [Zal]; omega))).mono (fun _ _ h=>Zd5 h hr2)) (fun xx=>?_)
   obtain ⟨s15,A15,l15,c15,t15,B15,m15,d15⟩:=xx
   refine ZaI 6 [(4, .v (.string ⟨#[]⟩)),(5, .v (.bool false)),(6, .p 6 0),(7, .v (.bool true)),(8, .p 8 0),(9, .v (.bool true))] [(8,107,[.v (.bool s15), .v (.slice A15 l15 c15), .v (.bool t15), .v (.slice B15 m15 d15)]),(6,107,[.v (.bool s13), .v (.slice A13 l13 c13), .v (.bool t13), .v (.slice B13 m13 d13)])] (by kernel_rfl) (by kernel_rfl) ?_
   refine ZaR (by kernel_rfl) ?_
   refine Zaa ?_
   refine Zac ?_
   refine Zac ?_
   refine Zab ?_
   refine ZaI 8 [(4, .v (.string ⟨#[]⟩)),(5, .v (.bool false)),(6, .p 6 0),(8, .p 8 0),(29, .v (.bool false)),(30, .v (.agg #[.bool s13, .slice A13 l13 c13, .bool t13, .slice B13 m13 d13]))] [(8,107,[.v (.bool s15), .v (.slice A15 l15 c15), .v (.bool t15), .v (.slice B15 m15 d15)]),(6,107,[.v (.bool s13), .v (.slice A13 l13 c13), .v (.bool t13), .v (.slice B13 m13 d13)])] (by kernel_rfl) (by kernel_rfl) ?_
   by_cases hd1:(q1).den=1
   ·refine Zb2 133 [.agg #[.bool s13, .slice A13 l13 c13, .bool t13, .slice B13 m13 d13]] 31 (fun _:Unit=>.bool true) _ (by kernel_rfl) (by kernel_rfl) (fun w R Q=>(Zed _ (q1) _ Q.1.2).mono (fun _ _ h=>Zau h (by rw [decide_eq_true hd1]))) (fun xx=>?_)
    refine ZaI 4 [(4, .v (.string ⟨#[]⟩)),(5, .v (.bool false)),(6, .p 6 0),(8, .p 8 0),(34, .v (.bool false)),(35, .v (.agg #[.bool s15, .slice A15 l15 c15, .bool t15, .slice B15 m15 d15]))] [(8,107,[.v (.bool s15), .v (.slice A15 l15 c15), .v (.bool t15), .v (.slice B15 m15 d15)]),(6,107,[.v (.bool s13), .v (.slice A13 l13 c13), .v (.bool t13), .v (.slice B13 m13 d13)])] (by kernel_rfl) (by kernel_rfl) ?_
    by_cases hd2:(q2).den=1
    ·refine Zb2 133 [.agg #[.bool s15, .slice A15 l15 c15, .bool t15, .slice B15 m15 d15]] 36 (fun _:Unit=>.bool true) _ (by kernel_rfl) (by kernel_rfl) (fun w R Q=>(Zed _ (q2) _ Q.1.2).mono (fun _ _ h=>Zau h (by rw [decide_eq_true hd2]))) (fun xx=>?_)
     refine ZaI 2 [(4, .v (.string ⟨#[]⟩)),(5, .v (.bool false)),(6, .p 6 0),(8, .p 8 0),(38, .v (.bool false))] [(8,107,[.v (.bool s15), .v (.slice A15 l15 c15), .v (.bool t15), .v (.slice B15 m15 d15)]),(6,107,[.v (.bool s13), .v (.slice A13 l13 c13), .v (.bool t13), .v (.slice B13 m13 d13)])] (by kernel_rfl) (by kernel_rfl) ?_
     refine ZaR (by kernel_rfl) ?_
     refine Zaa ?_
     refine ZgA (by kernel_rfl) ?_
     refine Zap ?_
     refine Zaa ?_
     refine Zac ?_
     have HV:=Zlm hr1 (by rw [Zal]; omega)
     have HW:=Zlm hr2 (by rw [Zal]; omega)
     refine Zab ?_
     refine ZaI 1 [(4, .v (.string ⟨#[]⟩)),(5, .v (.bool false)),(6, .p 6 0),(39, .v (.agg #[.bool s15, .slice A15 l15 c15, .bool t15, .slice B15 m15 d15]))] [(6,107,[.v (.bool s13), .v (.slice A13 l13 c13), .v (.bool t13), .v (.slice B13 m13 d13)])] (by kernel_rfl) (by kernel_rfl) ?_
     refine Zb2 134 [.agg #[.bool s15, .slice A15 l15 c15, .bool t15, .slice B15 m15 d15]] 40 Zc8 _ (by kernel_rfl) (by kernel_rfl) (fun w R Q=>(Zlc _ (q2) _ Q.1.1.2).mono (fun _ _=>Zb8)) (fun xx=>?_)
     obtain ⟨s16,A16,l16,c16⟩:=xx
     refine ZaI 2 [(4, .v (.string ⟨#[]⟩)),(5, .v (.bool false)),(6, .p 6 0),(10, .p 10 0)] [(10,105,[.v (.bool s16), .v (.slice A16 l16 c16)]),(6,107,[.v (.bool s13), .v (.slice A13 l13 c13), .v (.bool t13), .v (.slice B13 m13 d13)])] (by kernel_rfl) (by kernel_rfl) ?_
     refine ZaR (by kernel_rfl) ?_
     refine Zaa ?_
     refine Zac ?_
     refine Zac ?_
     refine ZfC 4 (by kernel_rfl) (by kernel_rfl) Za6 ?_
     refine Zel 1 [(4, .v (.string ⟨#[]⟩)),(5, .v (.bool false)),(6, .p 6 0),(10, .p 10 0),(41, .v (.agg #[.bool s16, .slice A16 l16 c16]))] [(10,105,[.v (.bool s16), .v (.slice A16 l16 c16)]),(6,107,[.v (.bool s13), .v (.slice A13 l13 c13), .v (.bool t13), .v (.slice B13 m13 d13)])] (by kernel_rfl) (by kernel_rfl) ?_
     refine ZfD 128 [.int .i64 2] 42 Zc8 _ (by kernel_rfl) (by kernel_rfl) (by kernel_rfl) (fun w R Q=>(ZdY 2 _ (by rw [Zai]; omega) (by decide) (by decide)).mono (fun _ _=>Zb8)) (fun xx=>?_)
     obtain ⟨s17,A17,l17,c17⟩:=xx
     refine Zel 0 [(4, .v (.string ⟨#[]⟩)),(5, .v (.bool false)),(6, .p 6 0),(10, .p 10 0),(41, .v (.agg #[.bool s16, .slice A16 l16 c16])),(42, .v (.agg #[.bool s17, .slice A17 l17 c17]))] [(10,105,[.v (.bool s16), .v (.slice A16 l16 c16)]),(6,107,[.v (.bool s13), .v (.slice A13 l13 c13), .v (.bool t13), .v (.slice B13 m13 d13)])] (by kernel_rfl) (by kernel_rfl) ?_
     refine ZfD 135 [.agg #[.bool s16, .slice A16 l16 c16], .agg #[.bool s17, .slice A17 l17 c17]] 43 (fun _:Unit=>.int .i64 (cmpI ((q2).num) (2))) _ (by kernel_rfl) (by kernel_rfl) (by kernel_rfl) (fun w R Q=>(Zhq _ _ ((q2).num) (2) _ Q.1.2 Q.2 (fit2 HW.1) (fit2 (z:=2) (by decide))).mono (fun _ _ h=>Zau h rfl)) (fun xx=>?_)
     refine Zel 1 [(4, .v (.string ⟨#[]⟩)),(5, .v (.bool false)),(6, .p 6 0),(10, .p 10 0),(44, .v (.bool (decide ((cmpI ((q2).num) (2)) < 0))))] [(10,105,[.v (.bool s16), .v (.slice A16 l16 c16)]),(6,107,[.v (.bool s13), .v (.slice A13 l13 c13), .v (.bool t13), .v (.slice B13 m13 d13)])] (by kernel_rfl) (by kernel_rfl) ?_
     refine Ziq (by kernel_rfl) ?_
     refine ZaR (by kernel_rfl) ?_
     refine Zaa ?_
     refine Zax ((decide ((cmpI ((q2).num) (2)) < 0))) (by kernel_rfl) (fun hb18=>?_) (fun hb18=>?_)
     ·have hm:q2.num < 2:=(ZgE _ _).1 (of_decide_eq_true hb18)
      refine Zac ?_
      refine Zab ?_
      refine ZaI 2 [(4, .v (.string ⟨#[]⟩)),(5, .v (.bool false)),(6, .p 6 0),(10, .p 10 0)] [(10,105,[.v (.bool s16), .v (.slice A16 l16 c16)]),(6,107,[.v (.bool s13), .v (.slice A13 l13 c13), .v (.bool t13), .v (.slice B13 m13 d13)])] (by kernel_rfl) (by kernel_rfl) ?_
      refine ZaR (by kernel_rfl) ?_
      refine Zaa ?_
      refine Zaw ?_
      refine Zam ?_
      refine Zaq (v:=.tuple #[.string ⟨#[]⟩, .bool false]) (by kernel_rfl) (fun w' R Q=>?_)
      exact ⟨_,_,rfl,RcIs.low hr2 hm,R⟩
     ·have hm:¬ q2.num < 2:=fun h=>of_decide_eq_false hb18 ((ZgE _ _).2 h)
      refine Zap ?_
      refine Zaa ?_
      refine Zac ?_
      refine ZfC 10 (by kernel_rfl) (by kernel_rfl) Za6 ?_
      refine Zel 1 [(4, .v (.string ⟨#[]⟩)),(5, .v (.bool false)),(10, .p 10 0),(46, .v (.agg #[.bool s13, .slice A13 l13 c13, .bool t13, .slice B13 m13 d13]))] [(10,105,[.v (.bool s16), .v (.slice A16 l16 c16)]),(6,107,[.v (.bool s13), .v (.slice A13 l13 c13), .v (.bool t13), .v (.slice B13 m13 d13)])] (by kernel_rfl) (by kernel_rfl) ?_
      refine ZfD 134 [.agg #[.bool s13, .slice A13 l13 c13, .bool t13, .slice B13 m13 d13]] 47 Zc8 _ (by kernel_rfl) (by kernel_rfl) (by kernel_rfl) (fun w R Q=>(Zlc _ (q1) _ Q.1.1.1.1.1.1.2).mono (fun _ _=>Zb8)) (fun xx=>?_)
      obtain ⟨s19,A19,l19,c19⟩:=xx
      refine Zel 1 [(4, .v (.string ⟨#[]⟩)),(5, .v (.bool false)),(47, .v (.agg #[.bool s19, .slice A19 l19 c19])),(48, .v (.agg #[.bool s16, .slice A16 l16 c16]))] [(10,105,[.v (.bool s16), .v (.slice A16 l16 c16)]),(6,107,[.v (.bool s13), .v (.slice A13 l13 c13), .v (.bool t13), .v (.slice B13 m13 d13)])] (by kernel_rfl) (by kernel_rfl) ?_
      refine ZfD 136 [.agg #[.bool s19, .slice A19 l19 c19], .agg #[.bool s16, .slice A16 l16 c16]] 49 (fun x:ShQ × Rat × Bool=>.tuple #[ZbY x.1, .bool x.2.2]) _ (by kernel_rfl) (by kernel_rfl) (by kernel_rfl) (fun w R Q=>(Zgb _ _ ((q1).num) ((q2).num) _ Q.1.1.1.1.1.1.1.1 Q.2 Q.1.1.1.2 (fit2 HV.1) HW.1 (by omega) (ZiI.words HW.1)).mono (fun _ _=>ZnL)) (fun xx=>?_)
      obtain ⟨⟨s20,A20,l20,c20,t20,B20,m20,d20⟩,y21,ok21⟩:=xx
      rcases ok21 with _ | _
      ·refine Zel 6 [(4, .v (.string ⟨#[]⟩)),(5, .v (.bool false)),(11, .p 11 0),(12, .v (.bool false))] [(11,107,[.v (.bool s20), .v (.slice A20 l20 c20), .v (.bool t20), .v (.slice B20 m20 d20)]),(11,107,[.v (.bool false), .v (.slice none 0 0), .v (.bool false), .v (.slice none 0 0)]),(10,105,[.v (.bool s16), .v (.slice A16 l16 c16)]),(6,107,[.v (.bool s13), .v (.slice A13 l13 c13), .v (.bool t13), .v (.slice B13 m13 d13)])] (by kernel_rfl) (by kernel_rfl) ?_
       refine Ziq (by kernel_rfl) ?_
       refine ZaR (by kernel_rfl) ?_
       refine Zaa ?_
       refine Zac ?_
       refine Zac ?_
       refine Zab ?_
       refine ZaI 2 [(4, .v (.string ⟨#[]⟩)),(5, .v (.bool false)),(11, .p 11 0),(53, .v (.bool true))] [(11,107,[.v (.bool s20), .v (.slice A20 l20 c20), .v (.bool t20), .v (.slice B20 m20 d20)])] (by kernel_rfl) (by kernel_rfl) ?_
       refine ZaR (by kernel_rfl) ?_
       refine Zaa ?_
       refine ZcZ (by kernel_rfl) ?_
       refine Zac ?_
       refine SXc.know (p:=ZbC q1.num q2.num y21 false) (fun w _ Q=>Q.2.2) (fun HK=>?_)
       refine Zab ?_
       refine ZaI 2 [(4, .v (.string ⟨#[]⟩)),(5, .v (.bool false)),(11, .p 11 0)] [(11,107,[.v (.bool s20), .v (.slice A20 l20 c20), .v (.bool t20), .v (.slice B20 m20 d20)])] (by kernel_rfl) (by kernel_rfl) ?_
       refine ZaR (by kernel_rfl) ?_
       refine Zaa ?_
       refine Zaw ?_
       refine Zam ?_
       refine Zaq (v:=.tuple #[.string ⟨#[]⟩, .bool false]) (by kernel_rfl) (fun w' R Q=>?_)
       exact ⟨_,_,rfl,RcIs.not hr1 hr2 HK.ok,R⟩
      ·refine Zel 6 [(4, .v (.string ⟨#[]⟩)),(5, .v (.bool false)),(11, .p 11 0),(12, .v (.bool true))] [(11,107,[.v (.bool s20), .v (.slice A20 l20 c20), .v (.bool t20), .v (.slice B20 m20 d20)]),(11,107,[.v (.bool false), .v (.slice none 0 0), .v (.bool false), .v (.slice none 0 0)]),(10,105,[.v (.bool s16), .v (.slice A16 l16 c16)]),(6,107,[.v (.bool s13), .v (.slice A13 l13 c13), .v (.bool t13), .v (.slice B13 m13 d13)])] (by kernel_rfl) (by kernel_rfl) ?_
       refine Ziq (by kernel_rfl) ?_
       refine ZaR (by kernel_rfl) ?_
       refine Zaa ?_
       refine Zac ?_
       refine Zac ?_
       refine Zab ?_
       refine ZaI 2 [(4, .v (.string ⟨#[]⟩)),(5, .v (.bool false)),(11, .p 11 0),(53, .v (.bool false))] [(11,107,[.v (.bool s20), .v (.slice A20 l20 c20), .v (.bool t20), .v (.slice B20 m20 d20)])] (by kernel_rfl) (by kernel_rfl) ?_
       refine ZaR (by kernel_rfl) ?_
       refine Zaa ?_
       refine ZgA (by kernel_rfl) ?_
       refine Zap ?_
       refine Zaa ?_
       refine Zac ?_
       refine SXc.know (p:=ZbC q1.num q2.num y21 true) (fun w _ Q=>Q.2.2) (fun HK=>?_)
       have HP:ZbP (y21).num.natAbs∧ZbP (y21).den:=ZoW HK (by omega) HW.1
       refine Zab ?_
       refine ZaI 1 [(4, .v (.string ⟨#[]⟩)),(5, .v (.bool false)),(54, .v (.agg #[.bool s20, .slice A20 l20 c20, .bool t20, .slice B20 m20 d20]))] [] (by kernel_rfl) (by kernel_rfl) ?_
       refine Zb2 76 [.agg #[.bool s20, .slice A20 l20 c20, .bool t20, .slice B20 m20 d20]] 55 (fun _:Unit=>.string ⟨(ZbF (y21)).toArray⟩) _ (by kernel_rfl) (by kernel_rfl) (fun w R Q=>(Zk3 _ (y21) _ Q.1.1.1.1.1.1.1.1.1 Q.2.1 HP.1 HP.2).mono (fun _ _ h=>Zau h rfl)) (fun xx=>?_)
       refine ZaI 2 [(4, .v (.string ⟨(ZbF (y21)).toArray⟩)),(5, .v (.bool true))] [] (by kernel_rfl) (by kernel_rfl) ?_
       refine ZaR (by kernel_rfl) ?_
       refine Zaa ?_
       refine Zaw ?_
       refine Zaq (v:=.tuple #[.string ⟨(ZbF (y21)).toArray⟩, .bool true]) (by kernel_rfl) (fun w' R Q=>?_)
       exact ⟨_,_,rfl,RcIs.got hr1 hr2 hd1 hd2 hm HK,R⟩
    ·refine Zb2 133 [.agg #[.bool s15, .slice A15 l15 c15, .bool t15, .slice B15 m15 d15]] 36 (fun _:Unit=>.bool false) _ (by kernel_rfl) (by kernel_rfl) (fun w R Q=>(Zed _ (q2) _ Q.1.2).mono (fun _ _ h=>Zau h (by rw [decide_eq_false hd2]))) (fun xx=>?_)
     refine ZaI 2 [(4, .v (.string ⟨#[]⟩)),(5, .v (.bool false)),(6, .p 6 0),(8, .p 8 0),(38, .v (.bool true))] [(8,107,[.v (.bool s15), .v (.slice A15 l15 c15), .v (.bool t15), .v (.slice B15 m15 d15)]),(6,107,[.v (.bool s13), .v (.slice A13 l13 c13), .v (.bool t13), .v (.slice B13 m13 d13)])] (by kernel_rfl) (by kernel_rfl) ?_
     refine ZaR (by kernel_rfl) ?_
     refine Zaa ?_
     refine ZcZ (by kernel_rfl) ?_
     refine Zac ?_
     refine Zab ?_
     refine ZaI 2 [(4, .v (.string ⟨#[]⟩)),(5, .v (.bool false)),(6, .p 6 0),(8, .p 8 0)] [(8,107,[.v (.bool s15), .v (.slice A15 l15 c15), .v (.bool t15), .v (.slice B15 m15 d15)]),(6,107,[.v (.bool s13), .v (.slice A13 l13 c13), .v (.bool t13), .v (.slice B13 m13 d13)])] (by kernel_rfl) (by kernel_rfl) ?_
     refine ZaR (by kernel_rfl) ?_
     refine Zaa ?_
     refine Zaw ?_
     refine Zam ?_
     refine Zaq (v:=.tuple #[.string ⟨#[]⟩, .bool false]) (by kernel_rfl) (fun w' R Q=>?_)
     exact ⟨_,_,rfl,RcIs.frac2 hr2 hd2,R⟩
   ·refine Zb2 133 [.agg #[.bool s13, .slice A13 l13 c13, .bool t13, .slice B13 m13 d13]] 31 (fun _:Unit=>.bool false) _ (by kernel_rfl) (by kernel_rfl) (fun w R Q=>(Zed _ (q1) _ Q.1.2).mono (fun _ _ h=>Zau h (by rw [decide_eq_false hd1]))) (fun xx=>?_)
    refine ZaI 7 [(4, .v (.string ⟨#[]⟩)),(5, .v (.bool false)),(6, .p 6 0),(8, .p 8 0),(38, .v (.bool true))] [(8,107,[.v (.bool s15), .v (.slice A15 l15 c15), .v (.bool t15), .v (.slice B15 m15 d15)]),(6,107,[.v (.bool s13), .v (.slice A13 l13 c13), .v (.bool t13), .v (.slice B13 m13 d13)])] (by kernel_rfl) (by kernel_rfl) ?_
    refine ZaR (by kernel_rfl) ?_
    refine Zaa ?_
    refine ZcZ (by kernel_rfl) ?_
    refine Zac ?_
    refine Zab ?_
    refine ZaI 2 [(4, .v (.string ⟨#[]⟩)),(5, .v (.bool false)),(6, .p 6 0),(8, .p 8 0)] [(8,107,[.v (.bool s15), .v (.slice A15 l15 c15), .v (.bool t15), .v (.slice B15 m15 d15)]),(6,107,[.v (.bool s13), .v (.slice A13 l13 c13), .v (.bool t13), .v (.slice B13 m13 d13)])] (by kernel_rfl) (by kernel_rfl) ?_
    refine ZaR (by kernel_rfl) ?_
    refine Zaa ?_
    refine Zaw ?_
    refine Zam ?_
    refine Zaq (v:=.tuple #[.string ⟨#[]⟩, .bool false]) (by kernel_rfl) (fun w' R Q=>?_)
    exact ⟨_,_,rfl,RcIs.frac1 hr1 hd1,R⟩
end Go.Proofs.YthlipnahcbcjkaaGreatDoor

namespace Go.Proofs.YthlipnahcbcjkaaGreatDoor
open Go.RowKit
theorem ZmY {rs ps:List Int} {s t:List UInt8} {c:Int} {w w':World} {e:Ending} (k:∀ s' t' c',ZgM rs ps s' t' c'→s'=s∧t'=t∧c'=c) (h:Zli w rs ps e w'):RetV w (.tuple #[.string ⟨s.toArray⟩, .string ⟨t.toArray⟩, .int .i64 c]) e w':=by
 obtain ⟨s',t',c',rfl,hC,Q⟩:=h
 obtain ⟨rfl,rfl,rfl⟩:=k _ _ _ hC
 exact ⟨rfl,Q⟩
theorem ZoB {la lb s:List UInt8} {ok:Bool} {w w':World} {e:Ending} (k:RcIs la lb s ok) (h:Zn4 w la lb e w'):RetV w (.tuple #[.string ⟨s.toArray⟩, .bool ok]) e w':=by
 obtain ⟨s',ok',rfl,hC,Q⟩:=h
 obtain ⟨rfl,rfl⟩:=hC.unique k
 exact ⟨rfl,Q⟩
theorem ZnM:RcIs [56] [49,53] [49,47,50] true :=
 half_text ▸ RcIs.got read8 read15 rfl rfl (by decide) ⟨1,2,run_awake,Or.inl ⟨rfl,by decide,by decide,by decide,rfl⟩⟩
theorem Zda (w:World) (hg:Glob w) :
 Calls Tryz.prog 10 #[] w (RetV w (.bool true)):=by
 refine Zc0 (Φ:=fun w=>True) Tryz.func10 rfl (by kernel_rfl) (fun w' hf=>trivial) ?_
 refine Zac (Zab (xr 1 [(0, .v (.bool false))] [] ?_))
 refine xe (Zaa (Zac (Zab ?_)))
 refine Zg6 (d:=7) (fun zb:Nat=>.slice (some ⟨zb,0,none⟩) 2 2) (fun zb zw=>Blk 3 zw zb #[.int .i64 2, .int .i64 3]) (by kernel_rfl) (by kernel_rfl) (by kernel_rfl) (by kernel_rfl) (by kernel_rfl) (by kernel_rfl) (fun w R Q=>Zdh (t:=23) (e:=3) (n:=2) (sz:=1) (z:=.int .i64 0) (parts:=#[(0,Operand.const (Value.int IntKind.i64 2)),(1,Operand.const (Value.int IntKind.i64 3))]) (by kernel_rfl) (by kernel_rfl) (by kernel_rfl) (by kernel_rfl) (by kernel_rfl) (by kernel_rfl)) (fun b10=>?_)
 refine xr 0 [(0, .v (.bool false)),eS1 7 (some ⟨b10,0,none⟩) 2 2] [] ?_
 refine Zg6 (d:=8) (fun zb:Nat=>.slice (some ⟨zb,0,none⟩) 2 2) (fun zb zw=>Blk 3 zw zb #[.int .i64 3, .int .i64 5]) (by kernel_rfl) (by kernel_rfl) (by kernel_rfl) (by kernel_rfl) (by kernel_rfl) (by kernel_rfl) (fun w R Q=>Zdh (t:=23) (e:=3) (n:=2) (sz:=1) (z:=.int .i64 0) (parts:=#[(0,Operand.const (Value.int IntKind.i64 3)),(1,Operand.const (Value.int IntKind.i64 5))]) (by kernel_rfl) (by kernel_rfl) (by kernel_rfl) (by kernel_rfl) (by kernel_rfl) (by kernel_rfl)) (fun b11=>?_)
 refine xr 0 [(0, .v (.bool false)),eS1 7 (some ⟨b10,0,none⟩) 2 2,eS1 8 (some ⟨b11,0,none⟩) 2 2] [] ?_
 refine xc 57 [.slice (some ⟨b10,0,none⟩) 2 2, .slice (some ⟨b11,0,none⟩) 2 2] 9 (fun _:Unit=>.tuple #[.string ⟨#[56]⟩, .string ⟨#[49,53]⟩, .int .i64 0]) _ (fun w R Q=>(Zk0 _ _ [2,3] [3,5] 2 2 2 2 _ (hg.ext R) rfl rfl (iShows_two Q.1.2) (iShows_two Q.2) (by intro z hz; simp at hz; omega) (by intro z hz; simp at hz; omega) (by omega) (by omega) (by omega)).mono (fun _ _ h=>Zau (ZmY (fun _ _ _=>comb_awake) h) rfl)) (fun xx=>?_)
 refine xr 7 [(0, .v (.bool false)),(1, .v (.string ⟨#[56]⟩)),(2, .v (.string ⟨#[49,53]⟩)),(3, .v (.int .i64 0))] [] ?_
 refine xe (Zaa (Zac (Zab ?_)))
 refine xc 58 [.string ⟨#[56]⟩, .string ⟨#[49,53]⟩] 14 (fun _:Unit=>.tuple #[.string ⟨#[49,47,50]⟩, .bool true]) _ (fun w R Q=>(Zh0 ⟨#[56]⟩ ⟨#[49,53]⟩ _ (hg.ext R) (by decide) (by decide)).mono (fun _ _ h=>Zau (ZoB ZnM h) rfl)) (fun xx=>?_)
 refine xr 5 [(0, .v (.bool false)),(1, .v (.string ⟨#[56]⟩)),(2, .v (.string ⟨#[49,53]⟩)),(3, .v (.int .i64 0)),(4, .v (.string ⟨#[49,47,50]⟩)),(5, .v (.bool true))] [] ?_
 refine xe (Zaa (Zac (Zab (xr 2 [(0, .v (.bool false)),(2, .v (.string ⟨#[49,53]⟩)),(3, .v (.int .i64 0)),(4, .v (.string ⟨#[49,47,50]⟩)),(5, .v (.bool true)),(18, .v (.bool ((⟨#[56]⟩:ByteArray).toList == (⟨#[56]⟩:ByteArray).toList)))] [] ?_))))
 rw [ZhS]
 refine xr 3 [(0, .v (.bool false)),(3, .v (.int .i64 0)),(4, .v (.string ⟨#[49,47,50]⟩)),(5, .v (.bool true)),(19, .v (.bool true)),(21, .v (.bool ((⟨#[49,53]⟩:ByteArray).toList == (⟨#[49,53]⟩:ByteArray).toList)))] [] ?_
 rw [ZhS]
 refine xr 8 [(0, .v (.bool false)),(5, .v (.bool true)),(27, .v (.bool true)),(29, .v (.bool ((⟨#[49,47,50]⟩:ByteArray).toList == (⟨#[49,47,50]⟩:ByteArray).toList)))] [] ?_
 rw [ZhS]
 refine xr 5 [(0, .v (.bool true))] [] ?_
 refine xe (Zaa (Zaw ?_))
 refine Zaq (v:=.bool true) (by kernel_rfl) (fun w' R Q=>?_)
 exact ⟨rfl,R⟩
end Go.Proofs.YthlipnahcbcjkaaGreatDoor
