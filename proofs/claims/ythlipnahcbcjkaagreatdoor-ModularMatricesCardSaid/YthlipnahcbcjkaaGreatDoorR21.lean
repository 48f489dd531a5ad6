/-
 My texts Nr, Nsh, Ng, Nf, Nt, Nd, Nrd, RdK, Rc, Awk put together.
-/
import Derived.Test.YthlipnahcbcjkaaGreatDoorR16
import Derived.Test.YthlipnahcbcjkaaGreatDoorR20
import Derived.Test.YthlipnahcbcjkaaGreatDoorR15
import Derived.Test.YthlipnahcbcjkaaGreatDoorR11
import Derived.Test.YthlipnahcbcjkaaGreatDoorR18
import Derived.Test.YthlipnahcbcjkaaGreatDoorR02
set_option maxRecDepth 100000
namespace Go.Proofs.YthlipnahcbcjkaaGreatDoor
open Go.RowKit
end Go.Proofs.YthlipnahcbcjkaaGreatDoor

namespace Go.Proofs.YthlipnahcbcjkaaGreatDoor
open Go.RowKit
end Go.Proofs.YthlipnahcbcjkaaGreatDoor

namespace Go.Proofs.YthlipnahcbcjkaaGreatDoor
open Go.RowKit
end Go.Proofs.YthlipnahcbcjkaaGreatDoor

namespace Go.Proofs.YthlipnahcbcjkaaGreatDoor
open Go.RowKit
end Go.Proofs.YthlipnahcbcjkaaGreatDoor

namespace Go.Proofs.YthlipnahcbcjkaaGreatDoor
open Go.RowKit
end Go.Proofs.YthlipnahcbcjkaaGreatDoor

namespace Go.Proofs.YthlipnahcbcjkaaGreatDoor
open Go.RowKit
theorem ZnS {n k:Nat} (h:n < 10 ^ k):ml n≤k:=Znk.2 (Nat.lt_of_lt_of_le h (Nat.pow_le_pow_left (by rw [Znj]; omega) _))
end Go.Proofs.YthlipnahcbcjkaaGreatDoor

namespace Go.Proofs.YthlipnahcbcjkaaGreatDoor
open Go.RowKit
end Go.Proofs.YthlipnahcbcjkaaGreatDoor

namespace Go.Proofs.YthlipnahcbcjkaaGreatDoor
open Go.RowKit
theorem ZjI {α:Type} (o:Option α):o=none∨∃ x,o=some x:=by cases o; exact Or.inl rfl; exact Or.inr ⟨_,rfl⟩
section
variable {w w':World} {e:Ending} {l:List UInt8}
theorem Zes (h:Zhw w l e w') (hr:ZaG l=none):Zcy (fun x:ShQ=>.tuple #[Zca x, .bool false]) (fun x w=>ZaX w (Zca x) 0) w e w':=by
 obtain ⟨v,ok,rfl,Q,⟨rfl,q,h1,h2⟩ | ⟨rfl,h1,h2⟩⟩:=h
 ·rw [hr] at h1; cases h1
 ·obtain ⟨s,A,l,c,t,B,m,d,rfl⟩:=h2.shp
  exact ⟨(s,A,l,c,t,B,m,d),rfl,Q,boxn Q (fun S w'' hS hF=>h2.nrb hS hF)⟩
theorem Zet {q:Rat} (h:Zhw w l e w') (hr:ZaG l=some q):Zcy (fun x:ShQ=>.tuple #[Zca x, .bool true]) (fun x w=>ZaX w (Zca x) q) w e w':=by
 obtain ⟨v,ok,rfl,Q,⟨rfl,q,h1,h2⟩ | ⟨rfl,h1,h2⟩⟩:=h
 ·rw [hr] at h1; injection h1 with h1; subst h1
  obtain ⟨s,A,l,c,t,B,m,d,rfl⟩:=h2.shp
  exact ⟨(s,A,l,c,t,B,m,d),rfl,Q,boxn Q (fun S w'' hS hF=>h2.nrb hS hF)⟩
 ·rw [hr] at h1; cases h1
end
end Go.Proofs.YthlipnahcbcjkaaGreatDoor

namespace Go.Proofs.YthlipnahcbcjkaaGreatDoor
open Go.RowKit
section
variable {w w':World} {e:Ending} {l:List UInt8}
theorem ZoF {v m:Int} (h:Zlv w v m e w'):Zcy (fun x:ShQ × Rat × Bool=>.tuple #[Zca x.1, .bool x.2.2]) (fun x w=>ZaX w (Zca x.1) x.2.1∧ZbK v m x.2.1 x.2.2) w e w':=by
 obtain ⟨u,q,ok,rfl,h2,h3,Q⟩:=h
 obtain ⟨s,A,l,c,t,B,m,d,rfl⟩:=h2.shp
 exact ⟨((s,A,l,c,t,B,m,d),q,ok),rfl,Q,boxn Q (fun S w'' hS hF=>⟨h2.nrb hS hF,h3⟩)⟩
end
def ZoW (w:World) (la lb:List UInt8) (e:Ending) (w':World):Prop:=∃ s ok,e=.returned (.tuple #[.string ⟨s.toArray⟩, .bool ok])∧RcIs la lb s ok∧Ext w w'
theorem Zmg {l:List UInt8} {q:Rat} (h:ZaG l=some q) (hl:l.length≤200):wl q.num.natAbs < 39∧wl q.den < 39∧ml q.num.natAbs≤200∧ml q.den≤200:=by
 obtain ⟨h1,h2⟩:=ZnK h hl (by omega)
 have key:∀ n:Nat,n < 10 ^ 200→wl n < 39:=fun n hn=>by
  have:wl n≤38:=by
   rw [ZbB,Zal]
   exact Nat.lt_of_lt_of_le hn (by decide)
  omega
 exact ⟨key _ h1,key _ h2,ZnS h1,ZnS h2⟩
theorem fit2 {z:Int} (h:wl z.natAbs < 39):Fits z:=by unfold Fits; omega
theorem ZpV {v m:Int} {q:Rat} (h:ZbK v m q true) (hm:2≤m) (hw:wl m.natAbs < 39):Zb0 q.num.natAbs∧Zb0 q.den:=by
 obtain ⟨h1,h2⟩:=h.size hm
 exact ⟨Nat.lt_of_le_of_lt (Za3 h1) (by omega),Nat.lt_of_le_of_lt (Za3 h2) (by omega)⟩
theorem Zir (s1 s2:ByteArray) (w:World) (hg:Glob w) (h1:s1.size≤200) (h2:s2.size≤200) :
 Calls Tryz.prog 58 #[.string s1, .string s2] w (ZoW w (bytes s1) (bytes s2)):=by
 refine Zbi (Φ:=fun w=>Glob w) Tryz.func58 rfl (by kernel_rfl) (fun w' hf=>hg.ext hf) ?_
 refine Zac ?_
 refine Zab ?_
 refine ZaR 2 [(0, .v (.string s1)),(1, .v (.string s2)),(4, .v (.string ⟨#[]⟩)),(5, .v (.bool false))] [] (by kernel_rfl) (by kernel_rfl) ?_
 refine Za1 (by kernel_rfl) ?_
 refine Zaa ?_
 refine Zac ?_
 refine Zab ?_
 refine ZaR 1 [(1, .v (.string s2)),(4, .v (.string ⟨#[]⟩)),(5, .v (.bool false)),(14, .v (.string s1))] [] (by kernel_rfl) (by kernel_rfl) ?_
 rcases ZjI (ZaG (bytes s1)) with hr1 | ⟨q1,hr1⟩
 ·refine Zcf 132 [.string s1] 15 (fun x:ShQ=>.tuple #[Zca x, .bool false]) _ (by kernel_rfl) (by kernel_rfl) (fun w R Q=>(Zek s1 _ Q (Zd5.of_len (by rw [Zat]; omega))).mono (fun _ _ h=>Zes h hr1)) (fun xx=>?_)
  obtain ⟨s10,A10,l10,c10,t10,B10,m10,d10⟩:=xx
  refine ZaR 6 [(1, .v (.string s2)),(4, .v (.string ⟨#[]⟩)),(5, .v (.bool false)),(6, .p 6 0),(7, .v (.bool false))] [(6,107,[.v (.bool s10), .v (.slice A10 l10 c10), .v (.bool t10), .v (.slice B10 m10 d10)])] (by kernel_rfl) (by kernel_rfl) ?_
  refine Za1 (by kernel_rfl) ?_
  refine Zaa ?_
  refine Zac ?_
  refine Zab ?_
  refine ZaR 1 [(4, .v (.string ⟨#[]⟩)),(5, .v (.bool false)),(6, .p 6 0),(7, .v (.bool false)),(19, .v (.string s2))] [(6,107,[.v (.bool s10), .v (.slice A10 l10 c10), .v (.bool t10), .v (.slice B10 m10 d10)])] (by kernel_rfl) (by kernel_rfl) ?_
  rcases ZjI (ZaG (bytes s2)) with hr2 | ⟨q2,hr2⟩
  ·refine Zcf 132 [.string s2] 20 (fun x:ShQ=>.tuple #[Zca x, .bool false]) _ (by kernel_rfl) (by kernel_rfl) (fun w R Q=>(Zek s2 _ Q.1 (Zd5.of_len (by rw [Zat]; omega))).mono (fun _ _ h=>Zes h hr2)) (fun xx=>?_)
   obtain ⟨s11,A11,l11,c11,t11,B11,m11,d11⟩:=xx
   refine ZaR 6 [(4, .v (.string ⟨#[]⟩)),(5, .v (.bool false)),(6, .p 6 0),(7, .v (.bool false)),(8, .p 8 0),(9, .v (.bool false))] [(8,107,[.v (.bool s11), .v (.slice A11 l11 c11), .v (.bool t11), .v (.slice B11 m11 d11)]),(6,107,[.v (.bool s10), .v (.slice A10 l10 c10), .v (.bool t10), .v (.slice B10 m10 d10)])] (by kernel_rfl) (by kernel_rfl) ?_
   refine Za1 (by kernel_rfl) ?_
   refine Zaa ?_
   refine Zac ?_
   refine Zac ?_
   refine Zab ?_
   refine ZaR 16 [(4, .v (.string ⟨#[]⟩)),(5, .v (.bool false)),(6, .p 6 0),(8, .p 8 0),(38, .v (.bool true))] [(8,107,[.v (.bool s11), .v (.slice A11 l11 c11), .v (.bool t11), .v (.slice B11 m11 d11)]),(6,107,[.v (.bool s10), .v (.slice A10 l10 c10), .v (.bool t10), .v (.slice B10 m10 d10)])] (by kernel_rfl) (by kernel_rfl) ?_
   refine Za1 (by kernel_rfl) ?_
   refine Zaa ?_
   refine Zdi (by kernel_rfl) ?_
   refine Zac ?_
   refine Zab ?_
   refine ZaR 2 [(4, .v (.string ⟨#[]⟩)),(5, .v (.bool false)),(6, .p 6 0),(8, .p 8 0)] [(8,107,[.v (.bool s11), .v (.slice A11 l11 c11), .v (.bool t11), .v (.slice B11 m11 d11)]),(6,107,[.v (.bool s10), .v (.slice A10 l10 c10), .v (.bool t10), .v (.slice B10 m10 d10)])] (by kernel_rfl) (by kernel_rfl) ?_
   refine Za1 (by kernel_rfl) ?_
   refine Zaa ?_
   refine Zao ?_
   refine Zag ?_
   refine Zak (v:=.tuple #[.string ⟨#[]⟩, .bool false]) (by kernel_rfl) (fun w' R Q=>?_)
   exact ⟨_,_,rfl,RcIs.none1 hr1,R⟩
  ·refine Zcf 132 [.string s2] 20 (fun x:ShQ=>.tuple #[Zca x, .bool true]) _ (by kernel_rfl) (by kernel_rfl) (fun w R Q=>(Zek s2 _ Q.1 (Zd5.of_len (by rw [Zat]; omega))).mono (fun _ _ h=>Zet h hr2)) (fun xx=>?_)
   obtain ⟨s12,A12,l12,c12,t12,B12,m12,d12⟩:=xx
   refine ZaR 6 [(4, .v (.string ⟨#[]⟩)),(5, .v (.bool false)),(6, .p 6 0),(7, .v (.bool false)),(8, .p 8 0),(9, .v (.bool true))] [(8,107,[.v (.bool s12), .v (.slice A12 l12 c12), .v (.bool t12), .v (.slice B12 m12 d12)]),(6,107,[.v (.bool s10), .v (.slice A10 l10 c10), .v (.bool t10), .v (.slice B10 m10 d10)])] (by kernel_rfl) (by kernel_rfl) ?_
   refine Za1 (by kernel_rfl) ?_
   refine Zaa ?_
   refine Zac ?_
   refine Zac ?_
   refine Zab ?_
   refine ZaR 16 [(4, .v (.string ⟨#[]⟩)),(5, .v (.bool false)),(6, .p 6 0),(8, .p 8 0),(38, .v (.bool true))] [(8,107,[.v (.bool s12), .v (.slice A12 l12 c12), .v (.bool t12), .v (.slice B12 m12 d12)]),(6,107,[.v (.bool s10), .v (.slice A10 l10 c10), .v (.bool t10), .v (.slice B10 m10 d10)])] (by kernel_rfl) (by kernel_rfl) ?_
   refine Za1 (by kernel_rfl) ?_
   refine Zaa ?_
   refine Zdi (by kernel_rfl) ?_
   refine Zac ?_
   refine Zab ?_
   refine ZaR 2 [(4, .v (.string ⟨#[]⟩)),(5, .v (.bool false)),(6, .p 6 0),(8, .p 8 0)] [(8,107,[.v (.bool s12), .v (.slice A12 l12 c12), .v (.bool t12), .v (.slice B12 m12 d12)]),(6,107,[.v (.bool s10), .v (.slice A10 l10 c10), .v (.bool t10), .v (.slice B10 m10 d10)])] (by kernel_rfl) (by kernel_rfl) ?_
   refine Za1 (by kernel_rfl) ?_
   refine Zaa ?_
   refine Zao ?_
   refine Zag ?_
   refine Zak (v:=.tuple #[.string ⟨#[]⟩, .bool false]) (by kernel_rfl) (fun w' R Q=>?_)
   exact ⟨_,_,rfl,RcIs.none1 hr1,R⟩
 ·refine Zcf 132 [.string s1] 15 (fun x:ShQ=>.tuple #[Zca x, .bool true]) _ (by kernel_rfl) (by kernel_rfl) (fun w R Q=>(Zek s1 _ Q (Zd5.of_len (by rw [Zat]; omega))).mono (fun _ _ h=>Zet h hr1)) (fun xx=>?_)
  obtain ⟨s13,A13,l13,c13,t13,B13,m13,d13⟩:=xx
  refine ZaR 6 [(1, .v (.string s2)),(4, .v (.string ⟨#[]⟩)),(5, .v (.bool false)),(6, .p 6 0),(7, .v (.bool true))] [(6,107,[.v (.bool s13), .v (.slice A13 l13 c13), .v (.bool t13), .v (.slice B13 m13 d13)])] (by kernel_rfl) (by kernel_rfl) ?_
  refine Za1 (by kernel_rfl) ?_
  refine Zaa ?_
  refine Zac ?_
  refine Zab ?_
  refine ZaR 1 [(4, .v (.string ⟨#[]⟩)),(5, .v (.bool false)),(6, .p 6 0),(7, .v (.bool true)),(19, .v (.string s2))] [(6,107,[.v (.bool s13), .v (.slice A13 l13 c13), .v (.bool t13), .v (.slice B13 m13 d13)])] (by kernel_rfl) (by kernel_rfl) ?_
  rcases ZjI (ZaG (bytes s2)) with hr2 | ⟨q2,hr2⟩
  ·refine Zcf 132 [.string s2] 20 (fun x:ShQ=>.tuple #[Zca x, .bool false]) _ (by kernel_rfl) (by kernel_rfl) (fun w R Q=>(Zek s2 _ Q.1 (Zd5.of_len (by rw [Zat]; omega))).mono (fun _ _ h=>Zes h hr2)) (fun xx=>?_)
   obtain ⟨s14,A14,l14,c14,t14,B14,m14,d14⟩:=xx
   refine ZaR 6 [(4, .v (.string ⟨#[]⟩)),(5, .v (.bool false)),(6, .p 6 0),(7, .v (.bool true)),(8, .p 8 0),(9, .v (.bool false))] [(8,107,[.v (.bool s14), .v (.slice A14 l14 c14), .v (.bool t14), .v (.slice B14 m14 d14)]),(6,107,[.v (.bool s13), .v (.slice A13 l13 c13), .v (.bool t13), .v (.slice B13 m13 d13)])] (by kernel_rfl) (by kernel_rfl) ?_
   refine Za1 (by kernel_rfl) ?_
   refine Zaa ?_
   refine Zac ?_
   refine Zac ?_
   refine Zab ?_
   refine ZaR 16 [(4, .v (.string ⟨#[]⟩)),(5, .v (.bool false)),(6, .p 6 0),(8, .p 8 0),(38, .v (.bool true))] [(8,107,[.v (.bool s14), .v (.slice A14 l14 c14), .v (.bool t14), .v (.slice B14 m14 d14)]),(6,107,[.v (.bool s13), .v (.slice A13 l13 c13), .v (.bool t13), .v (.slice B13 m13 d13)])] (by kernel_rfl) (by kernel_rfl) ?_
   refine Za1 (by kernel_rfl) ?_
   refine Zaa ?_
   refine Zdi (by kernel_rfl) ?_
   refine Zac ?_
   refine Zab ?_
   refine ZaR 2 [(4, .v (.string ⟨#[]⟩)),(5, .v (.bool false)),(6, .p 6 0),(8, .p 8 0)] [(8,107,[.v (.bool s14), .v (.slice A14 l14 c14), .v (.bool t14), .v (.slice B14 m14 d14)]),(6,107,[.v (.bool s13), .v (.slice A13 l13 c13), .v (.bool t13), .v (.slice B13 m13 d13)])] (by kernel_rfl) (by kernel_rfl) ?_
   refine Za1 (by kernel_rfl) ?_
   refine Zaa ?_
   refine Zao ?_
   refine Zag ?_
   refine Zak (v:=.tuple #[.string ⟨#[]⟩, .bool false]) (by kernel_rfl) (fun w' R Q=>?_)
   exact ⟨_,_,rfl,RcIs.none2 hr2,R⟩
  ·refine Zcf 132 [.string s2] 20 (fun x:ShQ=>.tuple #[Zca x, .bool true]) _ (by kernel_rfl) (by kernel_rfl) (fun w R Q=>(Zek s2 _ Q.1 (Zd5.of_len (by rw [Zat]; omega))).mono (fun _ _ h=>Zet h hr2)) (fun xx=>?_)
   obtain ⟨s15,A15,l15,c15,t15,B15,m15,d15⟩:=xx
   refine ZaR 6 [(4, .v (.string ⟨#[]⟩)),(5, .v (.bool false)),(6, .p 6 0),(7, .v (.bool true)),(8, .p 8 0),(9, .v (.bool true))] [(8,107,[.v (.bool s15), .v (.slice A15 l15 c15), .v (.bool t15), .v (.slice B15 m15 d15)]),(6,107,[.v (.bool s13), .v (.slice A13 l13 c13), .v (.bool t13), .v (.slice B13 m13 d13)])] (by kernel_rfl) (by kernel_rfl) ?_
   refine Za1 (by kernel_rfl) ?_
   refine Zaa ?_
   refine Zac ?_
   refine Zac ?_
   refine Zab ?_
   refine ZaR 8 [(4, .v (.string ⟨#[]⟩)),(5, .v (.bool false)),(6, .p 6 0),(8, .p 8 0),(29, .v (.bool false)),(30, .v (.agg #[.bool s13, .slice A13 l13 c13, .bool t13, .slice B13 m13 d13]))] [(8,107,[.v (.bool s15), .v (.slice A15 l15 c15), .v (.bool t15), .v (.slice B15 m15 d15)]),(6,107,[.v (.bool s13), .v (.slice A13 l13 c13), .v (.bool t13), .v (.slice B13 m13 d13)])] (by kernel_rfl) (by kernel_rfl) ?_
   by_cases hd1:(q1).den=1
   ·refine Zcf 133 [.agg #[.bool s13, .slice A13 l13 c13, .bool t13, .slice B13 m13 d13]] 31 (fun _:Unit=>.bool true) _ (by kernel_rfl) (by kernel_rfl) (fun w R Q=>(ZeA _ (q1) _ Q.1.2).mono (fun _ _ h=>Zau h (by rw [decide_eq_true hd1]))) (fun xx=>?_)
    refine ZaR 4 [(4, .v (.string ⟨#[]⟩)),(5, .v (.bool false)),(6, .p 6 0),(8, .p 8 0),(34, .v (.bool false)),(35, .v (.agg #[.bool s15, .slice A15 l15 c15, .bool t15, .slice B15 m15 d15]))] [(8,107,[.v (.bool s15), .v (.slice A15 l15 c15), .v (.bool t15), .v (.slice B15 m15 d15)]),(6,107,[.v (.bool s13), .v (.slice A13 l13 c13), .v (.bool t13), .v (.slice B13 m13 d13)])] (by kernel_rfl) (by kernel_rfl) ?_
    by_cases hd2:(q2).den=1
    ·refine Zcf 133 [.agg #[.bool s15, .slice A15 l15 c15, .bool t15, .slice B15 m15 d15]] 36 (fun _:Unit=>.bool true) _ (by kernel_rfl) (by kernel_rfl) (fun w R Q=>(ZeA _ (q2) _ Q.1.2).mono (fun _ _ h=>Zau h (by rw [decide_eq_true hd2]))) (fun xx=>?_)
     refine ZaR 2 [(4, .v (.string ⟨#[]⟩)),(5, .v (.bool false)),(6, .p 6 0),(8, .p 8 0),(38, .v (.bool false))] [(8,107,[.v (.bool s15), .v (.slice A15 l15 c15), .v (.bool t15), .v (.slice B15 m15 d15)]),(6,107,[.v (.bool s13), .v (.slice A13 l13 c13), .v (.bool t13), .v (.slice B13 m13 d13)])] (by kernel_rfl) (by kernel_rfl) ?_
     refine Za1 (by kernel_rfl) ?_
     refine Zaa ?_
     refine ZgX (by kernel_rfl) ?_
     refine Zam ?_
     refine Zaa ?_
     refine Zac ?_
     have HV:=Zmg hr1 (by rw [Zat]; omega)
     have HW:=Zmg hr2 (by rw [Zat]; omega)
     refine Zab ?_
     refine ZaR 1 [(4, .v (.string ⟨#[]⟩)),(5, .v (.bool false)),(6, .p 6 0),(39, .v (.agg #[.bool s15, .slice A15 l15 c15, .bool t15, .slice B15 m15 d15]))] [(6,107,[.v (.bool s13), .v (.slice A13 l13 c13), .v (.bool t13), .v (.slice B13 m13 d13)])] (by kernel_rfl) (by kernel_rfl) ?_
     refine Zcf 134 [.agg #[.bool s15, .slice A15 l15 c15, .bool t15, .slice B15 m15 d15]] 40 Zdq _ (by kernel_rfl) (by kernel_rfl) (fun w R Q=>(Zl4 _ (q2) _ Q.1.1.2).mono (fun _ _=>Zcl)) (fun xx=>?_)
     obtain ⟨s16,A16,l16,c16⟩:=xx
     refine ZaR 2 [(4, .v (.string ⟨#[]⟩)),(5, .v (.bool false)),(6, .p 6 0),(10, .p 10 0)] [(10,105,[.v (.bool s16), .v (.slice A16 l16 c16)]),(6,107,[.v (.bool s13), .v (.slice A13 l13 c13), .v (.bool t13), .v (.slice B13 m13 d13)])] (by kernel_rfl) (by kernel_rfl) ?_
     refine Za1 (by kernel_rfl) ?_
     refine Zaa ?_
     refine Zac ?_
     refine Zac ?_
     refine Zej 4 (by kernel_rfl) (by kernel_rfl) ZaE ?_
     refine ZeG 1 [(4, .v (.string ⟨#[]⟩)),(5, .v (.bool false)),(6, .p 6 0),(10, .p 10 0),(41, .v (.agg #[.bool s16, .slice A16 l16 c16]))] [(10,105,[.v (.bool s16), .v (.slice A16 l16 c16)]),(6,107,[.v (.bool s13), .v (.slice A13 l13 c13), .v (.bool t13), .v (.slice B13 m13 d13)])] (by kernel_rfl) (by kernel_rfl) ?_
     refine ZfX 128 [.int .i64 2] 42 Zdq _ (by kernel_rfl) (by kernel_rfl) (by kernel_rfl) (fun w R Q=>(Zeh 2 _ (by rw [Zal]; omega) (by decide) (by decide)).mono (fun _ _=>Zcl)) (fun xx=>?_)
     obtain ⟨s17,A17,l17,c17⟩:=xx
     refine ZeG 0 [(4, .v (.string ⟨#[]⟩)),(5, .v (.bool false)),(6, .p 6 0),(10, .p 10 0),(41, .v (.agg #[.bool s16, .slice A16 l16 c16])),(42, .v (.agg #[.bool s17, .slice A17 l17 c17]))] [(10,105,[.v (.bool s16), .v (.slice A16 l16 c16)]),(6,107,[.v (.bool s13), .v (.slice A13 l13 c13), .v (.bool t13), .v (.slice B13 m13 d13)])] (by kernel_rfl) (by kernel_rfl) ?_
     refine ZfX 135 [.agg #[.bool s16, .slice A16 l16 c16], .agg #[.bool s17, .slice A17 l17 c17]] 43 (fun _:Unit=>.int .i64 (cmpI ((q2).num) (2))) _ (by kernel_rfl) (by kernel_rfl) (by kernel_rfl) (fun w R Q=>(ZhP _ _ ((q2).num) (2) _ Q.1.2 Q.2 (fit2 HW.1) (fit2 (z:=2) (by decide))).mono (fun _ _ h=>Zau h rfl)) (fun xx=>?_)
     refine ZeG 1 [(4, .v (.string ⟨#[]⟩)),(5, .v (.bool false)),(6, .p 6 0),(10, .p 10 0),(44, .v (.bool (decide ((cmpI ((q2).num) (2)) < 0))))] [(10,105,[.v (.bool s16), .v (.slice A16 l16 c16)]),(6,107,[.v (.bool s13), .v (.slice A13 l13 c13), .v (.bool t13), .v (.slice B13 m13 d13)])] (by kernel_rfl) (by kernel_rfl) ?_
     refine ZiR (by kernel_rfl) ?_
     refine Za1 (by kernel_rfl) ?_
     refine Zaa ?_
     refine Zar ((decide ((cmpI ((q2).num) (2)) < 0))) (by kernel_rfl) (fun hb18=>?_) (fun hb18=>?_)
     ·have hm:q2.num < 2:=(Zg1 _ _).1 (of_decide_eq_true hb18)
      refine Zac ?_
      refine Zab ?_
      refine ZaR 2 [(4, .v (.string ⟨#[]⟩)),(5, .v (.bool false)),(6, .p 6 0),(10, .p 10 0)] [(10,105,[.v (.bool s16), .v (.slice A16 l16 c16)]),(6,107,[.v (.bool s13), .v (.slice A13 l13 c13), .v (.bool t13), .v (.slice B13 m13 d13)])] (by kernel_rfl) (by kernel_rfl) ?_
      refine Za1 (by kernel_rfl) ?_
      refine Zaa ?_
      refine Zao ?_
      refine Zag ?_
      refine Zak (v:=.tuple #[.string ⟨#[]⟩, .bool false]) (by kernel_rfl) (fun w' R Q=>?_)
      exact ⟨_,_,rfl,RcIs.low hr2 hm,R⟩
     ·have hm:¬ q2.num < 2:=fun h=>of_decide_eq_false hb18 ((Zg1 _ _).2 h)
      refine Zam ?_
      refine Zaa ?_
      refine Zac ?_
      refine Zej 10 (by kernel_rfl) (by kernel_rfl) ZaE ?_
      refine ZeG 1 [(4, .v (.string ⟨#[]⟩)),(5, .v (.bool false)),(10, .p 10 0),(46, .v (.agg #[.bool s13, .slice A13 l13 c13, .bool t13, .slice B13 m13 d13]))] [(10,105,[.v (.bool s16), .v (.slice A16 l16 c16)]),(6,107,[.v (.bool s13), .v (.slice A13 l13 c13), .v (.bool t13), .v (.slice B13 m13 d13)])] (by kernel_rfl) (by kernel_rfl) ?_
      refine ZfX 134 [.agg #[.bool s13, .slice A13 l13 c13, .bool t13, .slice B13 m13 d13]] 47 Zdq _ (by kernel_rfl) (by kernel_rfl) (by kernel_rfl) (fun w R Q=>(Zl4 _ (q1) _ Q.1.1.1.1.1.1.2).mono (fun _ _=>Zcl)) (fun xx=>?_)
      obtain ⟨s19,A19,l19,c19⟩:=xx
      refine ZeG 1 [(4, .v (.string ⟨#[]⟩)),(5, .v (.bool false)),(47, .v (.agg #[.bool s19, .slice A19 l19 c19])),(48, .v (.agg #[.bool s16, .slice A16 l16 c16]))] [(10,105,[.v (.bool s16), .v (.slice A16 l16 c16)]),(6,107,[.v (.bool s13), .v (.slice A13 l13 c13), .v (.bool t13), .v (.slice B13 m13 d13)])] (by kernel_rfl) (by kernel_rfl) ?_
      refine ZfX 136 [.agg #[.bool s19, .slice A19 l19 c19], .agg #[.bool s16, .slice A16 l16 c16]] 49 (fun x:ShQ × Rat × Bool=>.tuple #[Zca x.1, .bool x.2.2]) _ (by kernel_rfl) (by kernel_rfl) (by kernel_rfl) (fun w R Q=>(Zgz _ _ ((q1).num) ((q2).num) _ Q.1.1.1.1.1.1.1.1 Q.2 Q.1.1.1.2 (fit2 HV.1) HW.1 (by omega) (Zjg.words HW.1)).mono (fun _ _=>ZoF)) (fun xx=>?_)
      obtain ⟨⟨s20,A20,l20,c20,t20,B20,m20,d20⟩,y21,ok21⟩:=xx
      rcases ok21 with _ | _
      ·refine ZeG 6 [(4, .v (.string ⟨#[]⟩)),(5, .v (.bool false)),(11, .p 11 0),(12, .v (.bool false))] [(11,107,[.v (.bool s20), .v (.slice A20 l20 c20), .v (.bool t20), .v (.slice B20 m20 d20)]),(11,107,[.v (.bool false), .v (.slice none 0 0), .v (.bool false), .v (.slice none 0 0)]),(10,105,[.v (.bool s16), .v (.slice A16 l16 c16)]),(6,107,[.v (.bool s13), .v (.slice A13 l13 c13), .v (.bool t13), .v (.slice B13 m13 d13)])] (by kernel_rfl) (by kernel_rfl) ?_
       refine ZiR (by kernel_rfl) ?_
       refine Za1 (by kernel_rfl) ?_
       refine Zaa ?_
       refine Zac ?_
       refine Zac ?_
       refine Zab ?_
       refine ZaR 2 [(4, .v (.string ⟨#[]⟩)),(5, .v (.bool false)),(11, .p 11 0),(53, .v (.bool true))] [(11,107,[.v (.bool s20), .v (.slice A20 l20 c20), .v (.bool t20), .v (.slice B20 m20 d20)])] (by kernel_rfl) (by kernel_rfl) ?_
       refine Za1 (by kernel_rfl) ?_
       refine Zaa ?_
       refine Zdi (by kernel_rfl) ?_
       refine Zac ?_
       refine SXc.know (p:=ZbK q1.num q2.num y21 false) (fun w _ Q=>Q.2.2) (fun HK=>?_)
       refine Zab ?_
       refine ZaR 2 [(4, .v (.string ⟨#[]⟩)),(5, .v (.bool false)),(11, .p 11 0)] [(11,107,[.v (.bool s20), .v (.slice A20 l20 c20), .v (.bool t20), .v (.slice B20 m20 d20)])] (by kernel_rfl) (by kernel_rfl) ?_
       refine Za1 (by kernel_rfl) ?_
       refine Zaa ?_
       refine Zao ?_
       refine Zag ?_
       refine Zak (v:=.tuple #[.string ⟨#[]⟩, .bool false]) (by kernel_rfl) (fun w' R Q=>?_)
       exact ⟨_,_,rfl,RcIs.not hr1 hr2 HK.ok,R⟩
      ·refine ZeG 6 [(4, .v (.string ⟨#[]⟩)),(5, .v (.bool false)),(11, .p 11 0),(12, .v (.bool true))] [(11,107,[.v (.bool s20), .v (.slice A20 l20 c20), .v (.bool t20), .v (.slice B20 m20 d20)]),(11,107,[.v (.bool false), .v (.slice none 0 0), .v (.bool false), .v (.slice none 0 0)]),(10,105,[.v (.bool s16), .v (.slice A16 l16 c16)]),(6,107,[.v (.bool s13), .v (.slice A13 l13 c13), .v (.bool t13), .v (.slice B13 m13 d13)])] (by kernel_rfl) (by kernel_rfl) ?_
       refine ZiR (by kernel_rfl) ?_
       refine Za1 (by kernel_rfl) ?_
       refine Zaa ?_
       refine Zac ?_
       refine Zac ?_
       refine Zab ?_
       refine ZaR 2 [(4, .v (.string ⟨#[]⟩)),(5, .v (.bool false)),(11, .p 11 0),(53, .v (.bool false))] [(11,107,[.v (.bool s20), .v (.slice A20 l20 c20), .v (.bool t20), .v (.slice B20 m20 d20)])] (by kernel_rfl) (by kernel_rfl) ?_
       refine Za1 (by kernel_rfl) ?_
       refine Zaa ?_
       refine ZgX (by kernel_rfl) ?_
       refine Zam ?_
       refine Zaa ?_
       refine Zac ?_
       refine SXc.know (p:=ZbK q1.num q2.num y21 true) (fun w _ Q=>Q.2.2) (fun HK=>?_)
       have HP:Zb0 (y21).num.natAbs∧Zb0 (y21).den:=ZpV HK (by omega) HW.1
       refine Zab ?_
       refine ZaR 1 [(4, .v (.string ⟨#[]⟩)),(5, .v (.bool false)),(54, .v (.agg #[.bool s20, .slice A20 l20 c20, .bool t20, .slice B20 m20 d20]))] [] (by kernel_rfl) (by kernel_rfl) ?_
       refine Zcf 76 [.agg #[.bool s20, .slice A20 l20 c20, .bool t20, .slice B20 m20 d20]] 55 (fun _:Unit=>.string ⟨(Zcg (y21)).toArray⟩) _ (by kernel_rfl) (by kernel_rfl) (fun w R Q=>(ZlV _ (y21) _ Q.1.1.1.1.1.1.1.1.1 Q.2.1 HP.1 HP.2).mono (fun _ _ h=>Zau h rfl)) (fun xx=>?_)
       refine ZaR 2 [(4, .v (.string ⟨(Zcg (y21)).toArray⟩)),(5, .v (.bool true))] [] (by kernel_rfl) (by kernel_rfl) ?_
       refine Za1 (by kernel_rfl) ?_
       refine Zaa ?_
       refine Zao ?_
       refine Zak (v:=.tuple #[.string ⟨(Zcg (y21)).toArray⟩, .bool true]) (by kernel_rfl) (fun w' R Q=>?_)
       exact ⟨_,_,rfl,RcIs.got hr1 hr2 hd1 hd2 hm HK,R⟩
    ·refine Zcf 133 [.agg #[.bool s15, .slice A15 l15 c15, .bool t15, .slice B15 m15 d15]] 36 (fun _:Unit=>.bool false) _ (by kernel_rfl) (by kernel_rfl) (fun w R Q=>(ZeA _ (q2) _ Q.1.2).mono (fun _ _ h=>Zau h (by rw [decide_eq_false hd2]))) (fun xx=>?_)
     refine ZaR 2 [(4, .v (.string ⟨#[]⟩)),(5, .v (.bool false)),(6, .p 6 0),(8, .p 8 0),(38, .v (.bool true))] [(8,107,[.v (.bool s15), .v (.slice A15 l15 c15), .v (.bool t15), .v (.slice B15 m15 d15)]),(6,107,[.v (.bool s13), .v (.slice A13 l13 c13), .v (.bool t13), .v (.slice B13 m13 d13)])] (by kernel_rfl) (by kernel_rfl) ?_
     refine Za1 (by kernel_rfl) ?_
     refine Zaa ?_
     refine Zdi (by kernel_rfl) ?_
     refine Zac ?_
     refine Zab ?_
     refine ZaR 2 [(4, .v (.string ⟨#[]⟩)),(5, .v (.bool false)),(6, .p 6 0),(8, .p 8 0)] [(8,107,[.v (.bool s15), .v (.slice A15 l15 c15), .v (.bool t15), .v (.slice B15 m15 d15)]),(6,107,[.v (.bool s13), .v (.slice A13 l13 c13), .v (.bool t13), .v (.slice B13 m13 d13)])] (by kernel_rfl) (by kernel_rfl) ?_
     refine Za1 (by kernel_rfl) ?_
     refine Zaa ?_
     refine Zao ?_
     refine Zag ?_
     refine Zak (v:=.tuple #[.string ⟨#[]⟩, .bool false]) (by kernel_rfl) (fun w' R Q=>?_)
     exact ⟨_,_,rfl,RcIs.frac2 hr2 hd2,R⟩
   ·refine Zcf 133 [.agg #[.bool s13, .slice A13 l13 c13, .bool t13, .slice B13 m13 d13]] 31 (fun _:Unit=>.bool false) _ (by kernel_rfl) (by kernel_rfl) (fun w R Q=>(ZeA _ (q1) _ Q.1.2).mono (fun _ _ h=>Zau h (by rw [decide_eq_false hd1]))) (fun xx=>?_)
    refine ZaR 7 [(4, .v (.string ⟨#[]⟩)),(5, .v (.bool false)),(6, .p 6 0),(8, .p 8 0),(38, .v (.bool true))] [(8,107,[.v (.bool s15), .v (.slice A15 l15 c15), .v (.bool t15), .v (.slice B15 m15 d15)]),(6,107,[.v (.bool s13), .v (.slice A13 l13 c13), .v (.bool t13), .v (.slice B13 m13 d13)])] (by kernel_rfl) (by kernel_rfl) ?_
    refine Za1 (by kernel_rfl) ?_
    refine Zaa ?_
    refine Zdi (by kernel_rfl) ?_
    refine Zac ?_
    refine Zab ?_
    refine ZaR 2 [(4, .v (.string ⟨#[]⟩)),(5, .v (.bool false)),(6, .p 6 0),(8, .p 8 0)] [(8,107,[.v (.bool s15), .v (.slice A15 l15 c15), .v (.bool t15), .v (.slice B15 m15 d15)]),(6,107,[.v (.bool s13), .v (.slice A13 l13 c13), .v (.bool t13), .v (.slice B13 m13 d13)])] (by kernel_rfl) (by kernel_rfl) ?_
    refine Za1 (by kernel_rfl) ?_
    refine Zaa ?_
    refine Zao ?_
    refine Zag ?_
    refine Zak (v:=.tuple #[.string ⟨#[]⟩, .bool false]) (by kernel_rfl) (fun w' R Q=>?_)
    exact ⟨_,_,rfl,RcIs.frac1 hr1 hd1,R⟩
end Go.Proofs.YthlipnahcbcjkaaGreatDoor

namespace Go.Proofs.YthlipnahcbcjkaaGreatDoor
open Go.RowKit
theorem Zis {n:Nat} (h:n < 10):Lib.itoa (n:Int)=[UInt8.ofNat (48 + n)]:=by
 unfold Lib.itoa
 rw [if_neg (by omega),Int.toNat_natCast,Lib.decDigits,dif_pos h]
theorem Zpy:Lib.itoa 15=[49,53]:=by
 unfold Lib.itoa
 rw [if_neg (by omega),show (15:Int).toNat=15 from rfl,Lib.decDigits,dif_neg (by omega),Lib.decDigits,dif_pos (by omega)]
 rfl
theorem pr3:Pr 3:=Pr.of_noDiv (d:=2) (by omega) (by omega) (Zcm.two 3) (by omega) (by omega)
theorem pr5:Pr 5:=Pr.of_noDiv (d:=3) (by omega) (by omega) (Zcm.three (by omega)) (by omega) (by omega)
theorem ZnU:crt (List.zip [2,3] [3,5])=(8,15):=by decide
theorem ZmP {s t:List UInt8} {c:Int} (h:Zi4 [2,3] [3,5] s t c):s=[56]∧t=[49,53]∧c=0:=by
 have hp:∀ p ∈ ([3,5]:List Int),Pr p:=by
  intro p hp
  simp at hp
  rcases hp with rfl | rfl
  ·exact pr3
  ·exact pr5
 have hn:([3,5]:List Int).Nodup:=by decide
 rcases h with h | h | h | h | h
 ·exact absurd rfl h.1
 ·have:=h.2.1; simp at this
 ·obtain ⟨p,hp1,hp2⟩:=h.2.2.1
  exact absurd (hp p hp1) hp2
 ·exact absurd hn h.2.2.2.1
 ·obtain ⟨_,_,_,_,h1,h2,h3⟩:=h
  rw [ZnU] at h1 h2
  exact ⟨h1.trans (Zis (n:=8) (by omega)),h2.trans Zpy,h3⟩
theorem ZpW:Zbw [56]=(false,[56],[],true):=by decide
theorem Zpz:Zbw [49,53]=(false,[49,53],[],true):=by decide
theorem Zqe:ZaG [56]=some ((8:Int):Rat):=by
 unfold ZaG
 rw [ZpW]
 rfl
theorem ZpX:ZaG [49,53]=some ((15:Int):Rat):=by
 unfold ZaG
 rw [Zpz]
 rfl
theorem ZnV:RecRun 15 15 (8 % 15) 0 1 1 2:=by
 refine RecRun.step (by decide) ?_
 refine RecRun.step (by decide) ?_
 exact RecRun.done (by decide)
theorem Zjh:(Rat.divInt 1 2).num=1∧(Rat.divInt 1 2).den=2:=by decide
theorem ZnW:Zcg (Rat.divInt 1 2)=[49,47,50]:=by
 unfold Zcg
 rw [Zjh.1,Zjh.2,if_neg (by omega)]
 rw [show (1:Int)=((1:Nat):Int) from rfl,Zis (by omega),Zis (n:=2) (by omega)]
 rfl
theorem Zji {w:World} {g:Nat} {x y:Int} {t:TypeId} (h:Blk t w g #[.int .i64 x, .int .i64 y]):Zaq w (some ⟨g,0,none⟩) [x,y]:=fun _=>by
 refine ⟨g,0,rfl,h.lt,fun i hi=>?_⟩
 rw [Nat.zero_add,h.cell]
 rcases i with _ | _ | i
 ·rfl
 ·rfl
 ·simp at hi; omega
theorem ZnX {rs ps:List Int} {s t:List UInt8} {c:Int} {w w':World} {e:Ending} (k:∀ s' t' c',Zi4 rs ps s' t' c'→s'=s∧t'=t∧c'=c) (h:Zl9 w rs ps e w'):RetV w (.tuple #[.string ⟨s.toArray⟩, .string ⟨t.toArray⟩, .int .i64 c]) e w':=by
 obtain ⟨s',t',c',rfl,hC,Q⟩:=h
 obtain ⟨rfl,rfl,rfl⟩:=k _ _ _ hC
 exact ⟨rfl,Q⟩
theorem ZpA {la lb s:List UInt8} {ok:Bool} {w w':World} {e:Ending} (k:RcIs la lb s ok) (h:ZoW w la lb e w'):RetV w (.tuple #[.string ⟨s.toArray⟩, .bool ok]) e w':=by
 obtain ⟨s',ok',rfl,hC,Q⟩:=h
 obtain ⟨rfl,rfl⟩:=hC.unique k
 exact ⟨rfl,Q⟩
theorem ZoG:RcIs [56] [49,53] [49,47,50] true :=
 ZnW ▸ RcIs.got Zqe ZpX rfl rfl (by decide) ⟨1,2,ZnV,Or.inl ⟨rfl,by decide,by decide,by decide,rfl⟩⟩
theorem ZcS (w:World) (hg:Glob w) :
 Calls Tryz.prog 10 #[] w (RetV w (.bool true)):=by
 refine Zbi (Φ:=fun w=>True) Tryz.func10 rfl (by kernel_rfl) (fun w' hf=>trivial) ?_
 refine Zac (Zab (xr 1 [(0, .v (.bool false))] [] ?_))
 refine xe (Zaa (Zac (Zab ?_)))
 refine ZfW (d:=7) (fun zb:Nat=>.slice (some ⟨zb,0,none⟩) 2 2) (fun zb zw=>Blk 3 zw zb #[.int .i64 2, .int .i64 3]) (by kernel_rfl) (by kernel_rfl) (by kernel_rfl) (by kernel_rfl) (by kernel_rfl) (by kernel_rfl) (fun w R Q=>Zce (t:=23) (e:=3) (n:=2) (sz:=1) (z:=.int .i64 0) (parts:=#[(0,Operand.const (Value.int IntKind.i64 2)),(1,Operand.const (Value.int IntKind.i64 3))]) (by kernel_rfl) (by kernel_rfl) (by kernel_rfl) (by kernel_rfl) (by kernel_rfl) (by kernel_rfl)) (fun b10=>?_)
 refine xr 0 [(0, .v (.bool false)),eS1 7 (some ⟨b10,0,none⟩) 2 2] [] ?_
 refine ZfW (d:=8) (fun zb:Nat=>.slice (some ⟨zb,0,none⟩) 2 2) (fun zb zw=>Blk 3 zw zb #[.int .i64 3, .int .i64 5]) (by kernel_rfl) (by kernel_rfl) (by kernel_rfl) (by kernel_rfl) (by kernel_rfl) (by kernel_rfl) (fun w R Q=>Zce (t:=23) (e:=3) (n:=2) (sz:=1) (z:=.int .i64 0) (parts:=#[(0,Operand.const (Value.int IntKind.i64 3)),(1,Operand.const (Value.int IntKind.i64 5))]) (by kernel_rfl) (by kernel_rfl) (by kernel_rfl) (by kernel_rfl) (by kernel_rfl) (by kernel_rfl)) (fun b11=>?_)
 refine xr 0 [(0, .v (.bool false)),eS1 7 (some ⟨b10,0,none⟩) 2 2,eS1 8 (some ⟨b11,0,none⟩) 2 2] [] ?_
 refine xc 57 [.slice (some ⟨b10,0,none⟩) 2 2, .slice (some ⟨b11,0,none⟩) 2 2] 9 (fun _:Unit=>.tuple #[.string ⟨#[56]⟩, .string ⟨#[49,53]⟩, .int .i64 0]) _ (fun w R Q=>(ZlR _ _ [2,3] [3,5] 2 2 2 2 _ (hg.ext R) rfl rfl (Zji Q.1.2) (Zji Q.2) (by intro z hz; simp at hz; omega) (by intro z hz; simp at hz; omega) (by omega) (by omega) (by omega)).mono (fun _ _ h=>Zau (ZnX (fun _ _ _=>ZmP) h) rfl)) (fun xx=>?_)
 refine xr 7 [(0, .v (.bool false)),(1, .v (.string ⟨#[56]⟩)),(2, .v (.string ⟨#[49,53]⟩)),(3, .v (.int .i64 0))] [] ?_
 refine xe (Zaa (Zac (Zab ?_)))
 refine xc 58 [.string ⟨#[56]⟩, .string ⟨#[49,53]⟩] 14 (fun _:Unit=>.tuple #[.string ⟨#[49,47,50]⟩, .bool true]) _ (fun w R Q=>(Zir ⟨#[56]⟩ ⟨#[49,53]⟩ _ (hg.ext R) (by decide) (by decide)).mono (fun _ _ h=>Zau (ZpA ZoG h) rfl)) (fun xx=>?_)
 refine xr 5 [(0, .v (.bool false)),(1, .v (.string ⟨#[56]⟩)),(2, .v (.string ⟨#[49,53]⟩)),(3, .v (.int .i64 0)),(4, .v (.string ⟨#[49,47,50]⟩)),(5, .v (.bool true))] [] ?_
 refine xe (Zaa (Zac (Zab (xr 2 [(0, .v (.bool false)),(2, .v (.string ⟨#[49,53]⟩)),(3, .v (.int .i64 0)),(4, .v (.string ⟨#[49,47,50]⟩)),(5, .v (.bool true)),(18, .v (.bool ((⟨#[56]⟩:ByteArray).toList == (⟨#[56]⟩:ByteArray).toList)))] [] ?_))))
 rw [Zih]
 refine xr 3 [(0, .v (.bool false)),(3, .v (.int .i64 0)),(4, .v (.string ⟨#[49,47,50]⟩)),(5, .v (.bool true)),(19, .v (.bool true)),(21, .v (.bool ((⟨#[49,53]⟩:ByteArray).toList == (⟨#[49,53]⟩:ByteArray).toList)))] [] ?_
 rw [Zih]
 refine xr 8 [(0, .v (.bool false)),(5, .v (.bool true)),(27, .v (.bool true)),(29, .v (.bool ((⟨#[49,47,50]⟩:ByteArray).toList == (⟨#[49,47,50]⟩:ByteArray).toList)))] [] ?_
 rw [Zih]
 refine xr 5 [(0, .v (.bool true))] [] ?_
 refine xe (Zaa (Zao ?_))
 refine Zak (v:=.bool true) (by kernel_rfl) (fun w' R Q=>?_)
 exact ⟨rfl,R⟩
end Go.Proofs.YthlipnahcbcjkaaGreatDoor
