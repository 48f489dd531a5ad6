/-
 My texts Gen, Fm0, Bu, Wl, Mo, In put together.
-/
import Derived.Test.YtcpjeaaapocoeaaGreatDoorG11
import Derived.Test.YtcpjeaaapocoeaaGreatDoorG12
import Derived.Test.YtcpjeaaapocoeaaGreatDoorG14
import Derived.Test.YtcpjeaaapocoeaaGreatDoorG03
import Derived.Test.YtcpjeaaapocoeaaGreatDoorG01
import Derived.Test.YtcpjeaaapocoeaaGreatDoorG08
import Derived.Recover
import Derived.Defers
import Derived.Deep.RegionHeld3
import Derived.Deep.DeepCutAuto
import Derived.Lib.Builder
import Derived.Shelf.Strings.Builder1
import Derived.Lib.Split
set_option maxRecDepth 100000
namespace Go.Proofs.YtcpjeaaapocoeaaGreatDoor
open Go.RowKit
theorem ZaD:Tryz.prog.follows .mixedOrders=true:=by kernel_rfl
theorem Zaz.shp {w:World} {v:Value} {z:Int} (h:Zaz w v z):∃ (s:Bool) (A:Option Addr) (l c:Nat),v=.agg #[.bool s, .slice A l c]:=h.shape
theorem ZaU.shp {w:World} {v:Value} {q:Rat} (h:ZaU w v q):∃ (s:Bool) (A:Option Addr) (l c:Nat) (t:Bool) (B:Option Addr) (l' c':Nat),v=.agg #[.bool s, .slice A l c, .bool t, .slice B l' c']:=by
 obtain ⟨s,t,A,B,l,c,l',c',h,_⟩:=h
 exact ⟨s,A,l,c,t,B,l',c',h⟩
theorem Zk3 {a b c d a' b' c' d':Value} (h:Value.agg #[a,b,c,d]=.agg #[a',b',c',d']):a=a'∧b=b'∧c=c'∧d=d':=by
 injection h with h
 simpa using h
theorem ZaU.num {w:World} {a b c d:Value} {q:Rat} (h:ZaU w (.agg #[a,b,c,d]) q):Zaz w (.agg #[a,b]) q.num:=by
 obtain ⟨s,t,A,B,l,c,l',c',h,h1,h2⟩:=h
 obtain ⟨rfl,rfl,rfl,rfl⟩:=Zk3 h
 exact h1
theorem Zg0 {t0:TypeId} {w wb:World} {c0:Array Value} (h:w.alloc (.cells c0 t0)=wb):Blk t0 wb w.heap.size c0∧Ext w wb:=by
 subst h; exact ⟨Blk.new _ _ _,(Fr.refl _ _).alloc _⟩
theorem ZlH {t0 t1:TypeId} {w wb:World} {c0 c1:Array Value} (h:(w.alloc (.cells c0 t0)).alloc (.cells c1 t1)=wb):Blk t0 wb w.heap.size c0∧Blk t1 wb (w.heap.size + 1) c1∧Ext w wb:=by
 obtain ⟨b0,e0⟩:=Zg0 (w:=w) (c0:=c0) (t0:=t0) rfl
 have e:(w.alloc (.cells c0 t0)).heap.size=w.heap.size + 1:=by simp
 obtain ⟨b1,e1⟩:=Zg0 h
 rw [e] at b1
 exact ⟨b0.ext e1,b1,e0.trans e1⟩
theorem ZlI {t0 t1 t2:TypeId} {w wb:World} {c0 c1 c2:Array Value} (h:((w.alloc (.cells c0 t0)).alloc (.cells c1 t1)).alloc (.cells c2 t2)=wb):Blk t0 wb w.heap.size c0∧Blk t1 wb (w.heap.size + 1) c1∧Blk t2 wb (w.heap.size + 1 + 1) c2∧Ext w wb:=by
 obtain ⟨b0,b1,e0⟩:=ZlH (w:=w) (c0:=c0) (t0:=t0) (c1:=c1) (t1:=t1) rfl
 have e:((w.alloc (.cells c0 t0)).alloc (.cells c1 t1)).heap.size=w.heap.size + 1 + 1:=by simp
 obtain ⟨b2,e2⟩:=Zg0 h
 rw [e] at b2
 exact ⟨b0.ext e2,b1.ext e2,b2,e0.trans e2⟩
section
variable {ops:Array Oper} {S:World→Prop} {o:Oper} {a:Act} {p:Operand} {g off:Nat} {x y z u v:Value}
end
end Go.Proofs.YtcpjeaaapocoeaaGreatDoor

namespace Go.Proofs.YtcpjeaaapocoeaaGreatDoor
open Go.RowKit
theorem ZaV (p:Value) (w:World):Calls Tryz.prog 139 #[p, .bool true] w fun e w'=>e=.returned (.tuple #[])∧w'=w:=by
 go_enter Tryz.func139,Tryz.ntmps139
 go_wp2
 go_end0
 exact ⟨rfl,rfl⟩
end Go.Proofs.YtcpjeaaapocoeaaGreatDoor

namespace Go.Proofs.YtcpjeaaapocoeaaGreatDoor
open Go.RowKit Go.Lib
abbrev WrAt (lo b:Nat) (p:Value) (bs:List Value) (w:World):Prop:=Lib.BuilderAt 119 5 lo b p bs w
def WrIs (lo b:Nat) (l:List UInt8) (w:World):Prop:=∃ p,(p=.pointer none∨p=.pointer (some ⟨b,0,none⟩))∧WrAt lo b p (Lib.byteCells l) w
def IsU8 (w:World) (i:Nat):Prop:=∃ cs f,w.heap[i]? = some (.cells cs 5 f)
def WrFr (lo b:Nat) (w w':World):Prop:=Fr (fun i=>i=b∨(lo≤i∧IsU8 w i)) w w'
theorem WrFr.refl (lo b:Nat) (w:World):WrFr lo b w w:=Fr.refl _ _
theorem WrFr.back {lo b:Nat} {w w':World} (h:WrFr lo b w w') {i:Nat} (hi:i < w.heap.size) (hlo:lo≤i) (h8:IsU8 w' i):i=b∨(lo≤i∧IsU8 w i):=by
 by_cases hs:i=b∨(lo≤i∧IsU8 w i)
 ·exact hs
 ·obtain ⟨cs,f,hc⟩:=h8
  exact Or.inr ⟨hlo,cs,f,(h.block i hi hs).symm.trans hc⟩
theorem WrFr.trans {lo b:Nat} {w w' w'':World} (h:WrFr lo b w w') (k:WrFr lo b w' w''):WrFr lo b w w'' :=
 Fr.next h k (fun _ hi hT=>hT.elim Or.inl (fun h8=>h.back hi h8.1 h8.2))
theorem WrFr.old {b:Nat} {w0 w w':World} (Q:Ext w0 w) (hb:w0.heap.size≤b) (h:WrFr w0.heap.size b w w'):Ext w0 w' :=
 Fr.next Q h (fun i hi hT=>by rcases hT with e | ⟨e,_⟩<;>omega)
theorem Zg1 (b:Nat) (w:World) (h0:w.cell? ⟨b,0,none⟩=some (.pointer (some ⟨b,0,none⟩))) :
 Calls Tryz.prog 295 #[.pointer (some ⟨b,0,none⟩)] w fun e w'=>e=.returned (.tuple #[])∧w'=w:=by
 obtain ⟨j,hj,hjs⟩:=Option.map_eq_some_iff.1 (show (Tryz.prog.info? 117).map (·.size)=some 2 by kernel_rfl)
 go_enter Tryz.func295,Tryz.ntmps295
 go_wp2
 rw [Lib.run_neq_ptr_same w _ Tryz.underlying115 hj]
 go_wp2
 go_end0
 exact ⟨rfl,rfl⟩
theorem Zgh (b:Nat) (w:World) (h0:w.cell? ⟨b,0,none⟩=some (.pointer none)) (hsh:w.shape? b=some (119,2)) (hfz:w.frozen? ⟨b,0,none⟩=false) :
 Calls Tryz.prog 295 #[.pointer (some ⟨b,0,none⟩)] w fun e w'=>e=.returned (.tuple #[])∧w'=w.setCell ⟨b,0,none⟩ (.pointer (some ⟨b,0,none⟩)):=by
 obtain ⟨j,hj,hjs⟩:=Option.map_eq_some_iff.1 (show (Tryz.prog.info? 117).map (·.size)=some 2 by kernel_rfl)
 go_enter Tryz.func295,Tryz.ntmps295
 go_wp2
 rw [Lib.run_to_unsafe w ⟨b,0,none⟩ Tryz.underlying115 Tryz.underlying418 hj (by rw [hjs]; decide) hsh (Nat.zero_lt_succ 1)]
 simp only [Result.andThen]
 rw [Oper.upon_value]
 go_wp2
 rw [run_callFunc_extern Tryz.func348 (by kernel_rfl) (by kernel_rfl) (by kernel_rfl) (e:=Extern.AbiNoEscape.same) (by kernel_rfl)]
 rw [Lib.run_noEscape]
 simp only [Result.andThen]
 rw [Oper.upon_value]
 go_wp2
 rw [Lib.run_from_unsafe w ⟨b,0,none⟩ Tryz.underlying418 Tryz.underlying115 hj hsh (by kernel_rfl)]
 simp only [Result.andThen]
 rw [Oper.upon_value]
 go_wp2
 go_end0
 exact ⟨rfl,rfl⟩
theorem WrFr.setB {lo b:Nat} {w w':World} (h:WrFr lo b w w') (o:Nat) (u:Value):WrFr lo b w (w'.setCell ⟨b,o,none⟩ u):=Fr.setCell h (Or.inl (Or.inl rfl)) u
theorem Zev (lo b:Nat) (l:List UInt8) (w:World) (h:WrIs lo b l w) :
 Calls Tryz.prog 295 #[.pointer (some ⟨b,0,none⟩)] w fun e w'=>e=.returned (.tuple #[])∧WrAt lo b (.pointer (some ⟨b,0,none⟩)) (Lib.byteCells l) w'∧WrFr lo b w w':=by
 obtain ⟨p,rfl | rfl,h⟩:=h
 ·refine (Zgh b w h.cell0 h.shape h.frozen0).mono ?_
  rintro e w' ⟨rfl,rfl⟩
  exact ⟨rfl,h.used _,(WrFr.refl lo b w).setB 0 _⟩
 ·refine (Zg1 b w h.cell0).mono ?_
  rintro e w' ⟨rfl,rfl⟩
  exact ⟨rfl,h,WrFr.refl lo b w'⟩
theorem Zdo (a b:List UInt8):Lib.byteCells (a ++ b)=Lib.byteCells a ++ Lib.byteCells b:=by simp [Lib.byteCells]
theorem WrFr.alloc {lo b:Nat} {w w':World} (h:WrFr lo b w w') (o:Obj):WrFr lo b w (w'.alloc o):=Fr.alloc h o
theorem neB5:(119:TypeId)≠5:=by decide
theorem WrFr.grown {lo b:Nat} {w w1 w2:World} {v:Value} {bs:List Value} (h:WrFr lo b w w1) (hA:∃ n,w1.ownsRow lo 5 1 v n bs) (hg:w1.grownBy w2 v.ownBlock):WrFr lo b w w2:=by
 obtain ⟨n,_,hA⟩:=hA
 refine Fr.next h (Fr.ofGrown hg) (fun i hi ei=>?_)
 rcases hA with ⟨rfl,_⟩ | ⟨g,cap,cur,rfl,hlg,hh,_⟩
 ·cases ei
 ·simp only [Value.ownBlock,Option.some.injEq] at ei
  subst ei
  exact h.back hi hlg ⟨cur,_,hh⟩
set_option maxHeartbeats 2000000 in
theorem ZdD (lo b:Nat) (l:List UInt8) (s:ByteArray) (w:World) (h:WrIs lo b l w) (hlen:l.length + s.size≤140737488355328) :
 Calls Tryz.prog 222 #[.pointer (some ⟨b,0,none⟩), .string s] w fun e w'=>e=.returned (.tuple #[.int .i64 s.size, .nilIface])∧WrIs lo b (l ++ bytes s) w'∧WrFr lo b w w':=by
 obtain ⟨i0,hi,hz0,hz1,hz2⟩:=info_parts (show (Tryz.prog.info? 5).map (fun i=>(i.zero,i.size,i.bytes))=some (some (.int .u8 0),1,1) by kernel_rfl)
 have e240:∀ args w,(callFunc 295 args).run Tryz.prog w=.ok (.enter 295 args) w:=enters_of Tryz.func295 (by kernel_rfl) rfl
 go_enter Tryz.func222,Tryz.ntmps222
 go_wp2_with (go_at_call 295; refine (Zev lo b l _ h).mono ?_)
 rintro e w1 ⟨rfl,h1,hb1⟩
 obtain ⟨hB,v,hbk,hown,hne⟩:=h1
 have c0:w1.cell? ⟨b,0,none⟩=some (.pointer (some ⟨b,0,none⟩)):=by rw [Lib.cell_of_heap hbk]; rfl
 have c1:w1.cell? ⟨b,1,none⟩=some v:=by rw [Lib.cell_of_heap hbk]; rfl
 have hll:(Lib.byteCells l).length=l.length:=Lib.byteCells_length l
 go_wp2_with (at_builtin; refine Lib.wpList_append_own_string _ rfl _ _ 37 9 rfl lo 5 i0 Tryz.underlying37 Tryz.underlying9 hi hz0 hz1 hz2 _ _ _ rfl hown s rfl ?c3 ?c4 ?c5 ?_)
 case c3=>unfold maxLen; omega
 case c4=>omega
 case c5 =>
  have h':b < w1.heap.size:=by
   rcases Nat.lt_or_ge b w1.heap.size with h' | h'
   ·exact h'
   ·simp [Array.getElem?_eq_none h'] at hbk
  first | omega | (simp; omega)
 intro v' w2 hown' hgrow _
 have hlt:b < w1.heap.size:=by
  rcases Nat.lt_or_ge b w1.heap.size with h' | h'
  ·exact h'
  ·simp [Array.getElem?_eq_none h'] at hbk
 have hb2:w2.heap[b]? = some (.cells #[.pointer (some ⟨b,0,none⟩),v] 119 (0,0)):=by
  rw [hgrow.block b hlt (fun e=>hne e.symm)]
  exact hbk
 have d0:w2.cell? ⟨b,0,none⟩=some (.pointer (some ⟨b,0,none⟩)):=by rw [Lib.cell_of_heap hb2]; rfl
 have d1:w2.cell? ⟨b,1,none⟩=some v:=by rw [Lib.cell_of_heap hb2]; rfl
 have f1:w2.frozen? ⟨b,1,none⟩=false:=Lib.frozen_of_heap hb2 1
 obtain ⟨ao,n',cap,rfl⟩:∃ ao n' cap,v'=.slice ao n' cap:=by
  rcases hown'.2 with ⟨hv,_⟩ | ⟨g,cap,cur,hv,_⟩
  ·exact ⟨_,_,_,hv⟩
  ·exact ⟨_,_,_,hv⟩
 have HF:=zh (hb1.grown ⟨_,hown⟩ hgrow)
 go_wp2
 go_ret2
 refine ⟨rfl,⟨_,Or.inr rfl,?_⟩,HF.out.setB 1 _⟩
 have:=Lib.BuilderAt.put (T:=119) (e:=5) hB hb2 (bs':=Lib.byteCells l ++ Lib.strCells s) (by rw [List.length_append,Lib.strCells_length,Lib.byteCells_length]; exact hown') neB5
 rw [Zdo]
 exact this
set_option maxHeartbeats 2000000 in
theorem Zew (lo b:Nat) (l:List UInt8) (c:UInt8) (w:World) (h:WrIs lo b l w) (hlen:l.length + 1≤140737488355328) :
 Calls Tryz.prog 223 #[.pointer (some ⟨b,0,none⟩), .int .u8 (c.toNat:Int)] w fun e w'=>e=.returned .nilIface∧WrIs lo b (l ++ [c]) w'∧WrFr lo b w w':=by
 obtain ⟨i0,hi,hz0,hz1,hz2⟩:=info_parts (show (Tryz.prog.info? 5).map (fun i=>(i.zero,i.size,i.bytes))=some (some (.int .u8 0),1,1) by kernel_rfl)
 have e240:∀ args w,(callFunc 295 args).run Tryz.prog w=.ok (.enter 295 args) w:=enters_of Tryz.func295 (by kernel_rfl) rfl
 obtain ⟨cz,hcz⟩:∃ cz:Int,(c.toNat:Int)=cz:=⟨_,rfl⟩
 have Hcz:=zh hcz
 rw [hcz]
 clear hcz
 go_enter Tryz.func223,Tryz.ntmps223
 go_wp2_with (go_at_call 295; refine (Zev lo b l _ h).mono ?_)
 rintro e w1 ⟨rfl,h1,hb1⟩
 obtain ⟨hB,v,hbk,hown,hne⟩:=h1
 have c0:w1.cell? ⟨b,0,none⟩=some (.pointer (some ⟨b,0,none⟩)):=by rw [Lib.cell_of_heap hbk]; rfl
 have c1:w1.cell? ⟨b,1,none⟩=some v:=by rw [Lib.cell_of_heap hbk]; rfl
 have hll:(Lib.byteCells l).length=l.length:=Lib.byteCells_length l
 go_wp2_with (at_builtin; refine wpList_append_own _ rfl _ _ 37 rfl lo 5 i0 (.int .u8 0) 1 1 Tryz.underlying37 hi hz0 hz1 hz2 rfl (by decide) _ _ _ rfl (hown.alloc _) ⟨w1.heap.size,0,none⟩ 1 1 [.int .u8 cz] rfl rfl ?c1 ?c2 ?c3 ?c4 ?c5 ?_)
 case c1 =>
  intro j u hj
  match j,hj with
  | 0,hj=>simp at hj; subst hj; simp [Addr.add]
 case c2=>intro u hu; simp at hu; subst hu; rfl
 case c3=>unfold maxLen; omega
 case c4=>omega
 case c5 =>
  have h':b < w1.heap.size:=by
   rcases Nat.lt_or_ge b w1.heap.size with h' | h'
   ·exact h'
   ·simp [Array.getElem?_eq_none h'] at hbk
  first | omega | (simp; omega)
 intro v' w2 hown' hgrow _
 have hlt:b < w1.heap.size:=by
  rcases Nat.lt_or_ge b w1.heap.size with h' | h'
  ·exact h'
  ·simp [Array.getElem?_eq_none h'] at hbk
 have hb2:w2.heap[b]? = some (.cells #[.pointer (some ⟨b,0,none⟩),v] 119 (0,0)):=by
  rw [hgrow.block b (by simp; omega) (fun e=>hne e.symm),Lib.alloc_old w1 _ b hlt]
  exact hbk
 have d0:w2.cell? ⟨b,0,none⟩=some (.pointer (some ⟨b,0,none⟩)):=by rw [Lib.cell_of_heap hb2]; rfl
 have d1:w2.cell? ⟨b,1,none⟩=some v:=by rw [Lib.cell_of_heap hb2]; rfl
 have f1:w2.frozen? ⟨b,1,none⟩=false:=Lib.frozen_of_heap hb2 1
 obtain ⟨g,cap,rfl⟩:∃ g cap,v'=.slice (some ⟨g,0,none⟩) (l.length + 1) cap:=by
  rcases hown'.2 with ⟨_,h0⟩ | ⟨g,cap,cur,hv,_⟩
  ·omega
  ·exact ⟨g,cap,hv⟩
 have HF:=zh ((hb1.alloc _).grown ⟨_,hown.alloc _⟩ hgrow)
 go_wp2
 go_ret
 refine ⟨rfl,⟨_,Or.inr rfl,?_⟩,HF.out.setB 1 _⟩
 have:=Lib.BuilderAt.put (T:=119) (e:=5) hB hb2 (bs':=Lib.byteCells l ++ [.int .u8 cz]) (by rw [List.length_append,Lib.byteCells_length]; exact hown') neB5
 rw [Zdo]
 show WrAt lo b _ (Lib.byteCells l ++ [.int .u8 (c.toNat:Int)]) _
 rw [Hcz.out]
 exact this
set_option maxHeartbeats 1000000 in
theorem Zi3 (lo b:Nat) (l:List UInt8) (w:World) (h:WrIs lo b l w) :
 Calls Tryz.prog 112 #[.pointer (some ⟨b,0,none⟩)] w fun e w'=>e=.returned (.int .i64 (l.length:Int))∧w'=w:=by
 obtain ⟨p,_,hB,v,hbk,hown,hne⟩:=h
 obtain ⟨ao,cap,rfl⟩:∃ ao cap,v=.slice ao l.length cap:=by
  rw [Lib.byteCells_length] at hown
  rcases hown.2 with ⟨hv,h0⟩ | ⟨g,cap,cur,hv,_⟩
  ·exact ⟨none,0,by rw [hv,h0]⟩
  ·exact ⟨_,_,hv⟩
 have c1:w.cell? ⟨b,1,none⟩=some (.slice ao l.length cap):=by rw [Lib.cell_of_heap hbk]; rfl
 clear hown hne hbk
 go_enter Tryz.func112,Tryz.ntmps112
 go_wp2
 go_ret
 exact ⟨rfl,rfl⟩
set_option maxHeartbeats 1000000 in
theorem Zj8 (lo b:Nat) (l:List UInt8) (w:World) (h:WrIs lo b l w) (h0:l≠[]) :
 Calls Tryz.prog 113 #[.pointer (some ⟨b,0,none⟩)] w fun e w'=>e=.returned (.string ⟨l.toArray⟩)∧WrFr lo b w w':=by
 obtain ⟨p,_,hB,v,hbk,hown,hne⟩:=h
 have hl0:l.length≠0:=by simpa using h0
 rw [Lib.byteCells_length] at hown
 obtain ⟨g,cap,cur,rfl,hbg,hg,hnc,hcm,hcs,htake⟩:∃ g cap cur,v=.slice (some ⟨g,0,none⟩) l.length cap∧lo≤g∧w.heap[g]? = some (.cells cur 5 (0,0))∧l.length≤cap∧cap≤maxLen∧cur.size=cap * 1∧cur.toList.take (l.length * 1)=Lib.byteCells l:=by
  rcases hown.2 with ⟨_,hz⟩ | ⟨g,cap,cur,hv,r⟩
  ·exact absurd hz hl0
  ·exact ⟨g,cap,cur,hv,r⟩
 have c1:w.drew.cell? ⟨b,1,none⟩=some (.slice (some ⟨g,0,none⟩) l.length cap):=by
  have:w.drew.heap[b]? = some (.cells #[p, .slice (some ⟨g,0,none⟩) l.length cap] 119 (0,0)):=hbk
  rw [Lib.cell_of_heap this]; rfl
 have hSD:(Builtin.unsafeSliceData_ #[37] 309 #[.slice (some ⟨g,0,none⟩) l.length cap]).run Tryz.prog w.drew=.ok (.pointer (some ⟨g,0,none⟩)) w.drew :=
  Lib.run_unsafeSliceData_row _ _ _ _ _ _ (by omega)
 have hUS:(Builtin.unsafeString_ #[309,3] 9 #[.pointer (some ⟨g,0,none⟩), .int .i64 l.length]).run Tryz.prog w.drew=.ok (.string ⟨l.toArray⟩) (w.drew.freeze ⟨g,0,none⟩ l.length):=by
  refine Lib.run_unsafeString_row w.drew 309 3 9 5 Tryz.underlying309 (by kernel_rfl) g cur.size (by have hg':w.drew.heap[g]? = some (.cells cur 5 (0,0)):=hg; simp [World.shape?,hg']) l h0 (by omega) (by unfold maxLen at hcm; omega) ?_
  intro j x hx
  have:=hown.cells (g:=g) rfl j (.int .u8 x.toNat) (by simp [Lib.byteCells,hx])
  exact this
 have HF:Hid (WrFr lo b w (w.drew.freeze ⟨g,0,none⟩ l.length)):=by
  unfold Hid World.freeze
  rw [if_neg hl0]
  refine ⟨rfl,rfl,rfl,by simp,fun i hi hs=>?_⟩
  have hne2:g≠i:=by
   rintro rfl
   exact hs (Or.inr ⟨hbg,cur,_,hg⟩)
  simp only [Array.getElem?_modify]
  rw [if_neg hne2]
  rfl
 clear hown hne hbk hg htake
 go_enter Tryz.func113,Tryz.ntmps113
 go_wp2
 go_region
 all_goals (go_wp2; go_ret; exact ⟨rfl,HF.out⟩)
end Go.Proofs.YtcpjeaaapocoeaaGreatDoor

namespace Go.Proofs.YtcpjeaaapocoeaaGreatDoor
open Go.RowKit
def SRow (w:World) (A:Option Addr) (ss:List ByteArray):Prop:=ss≠[]→∃ b off cs f,A=some ⟨b,off,none⟩∧w.heap[b]? = some (.cells cs 9 f)∧∀ i,i < ss.length→cs[off + i]? = some (.string (ss[i]?.getD ⟨#[]⟩))
theorem WrIs.blk {lo g:Nat} {l:List UInt8} {w:World} (h:WrIs lo g l w):∃ cs,w.heap[g]? = some (.cells cs 119 (0,0)):=by
 obtain ⟨p,_,_,v,hbk,_⟩:=h
 exact ⟨_,hbk⟩
theorem SRow.wr {w w':World} {A:Option Addr} {ss:List ByteArray} {lo g:Nat} {l:List UInt8} (h:SRow w A ss) (hg:WrIs lo g l w) (hF:WrFr lo g w w'):SRow w' A ss:=fun h0=>by
 obtain ⟨b,off,cs,f,e,hb,hc⟩:=h h0
 obtain ⟨cg,hcg⟩:=hg.blk
 have hlt:b < w.heap.size:=by
  rcases Nat.lt_or_ge b w.heap.size with h | h
  ·exact h
  ·rw [Array.getElem?_eq_none h] at hb; cases hb
 refine ⟨b,off,cs,f,e,(hF.block b hlt (fun hs=>?_)).trans hb,hc⟩
 rcases hs with e | ⟨_,c2,f2,h8⟩
 ·subst e
  rw [hb] at hcg
  injection hcg with hcg
  injection hcg with _ e _
  exact absurd e (by decide)
 ·rw [hb] at h8
  injection h8 with h8
  injection h8 with _ e _
  exact absurd e (by decide)
theorem SRow.at_ {w:World} {A:Option Addr} {ss:List ByteArray} (h:SRow w A ss) {i:Nat} (hi:i < ss.length):∃ b off,A=some ⟨b,off,none⟩∧w.cell? ⟨b,off + i,none⟩=some (.string (ss[i]?.getD ⟨#[]⟩)):=by
 obtain ⟨b,off,cs,f,e,hb,hc⟩:=h (fun e=>by rw [e] at hi; simp at hi)
 exact ⟨b,off,e,by rw [cell_of_row w b (off + i) cs _ f hb]; exact hc i hi⟩
def ZaI (ss:List ByteArray):List UInt8:=ss.flatMap (fun s=>32 :: bytes s)
def ZaA (k:ByteArray) (ss:List ByteArray):List UInt8:=bytes k ++ ZaI ss ++ [10]
theorem ZdR {ss:List ByteArray} {j:Nat} (h:j < ss.length):ZaI (ss.take (j + 1))=ZaI (ss.take j) ++ [32] ++ bytes (ss[j]?.getD ⟨#[]⟩):=by
 unfold ZaI
 rw [List.take_succ_eq_append_getElem h,List.flatMap_append,List.getElem?_eq_getElem h]
 simp
theorem ZeR {ss:List ByteArray} (j:Nat):(ZaI (ss.take j)).length≤(ZaI ss).length:=by
 conv=>rhs; rw [← List.take_append_drop j ss]
 unfold ZaI
 rw [List.flatMap_append,List.length_append]
 omega
set_option maxHeartbeats 4000000 in
theorem Zh8 (lo g:Nat) (l:List UInt8) (k:ByteArray) (A:Option Addr) (cap:Nat) (ss:List ByteArray) (w:World) (h:WrIs lo g l w) (hS:SRow w A ss) (hl:l.length≤1048576) (hk:(ZaA k ss).length≤70368744177664) (hss:ss.length≤9223372036854775807) :
 Calls Tryz.prog 109 #[.pointer (some ⟨g,0,none⟩), .string k, .slice A ss.length cap] w fun e w'=>e=.returned (.tuple #[])∧WrIs lo g (l ++ ZaA k ss) w'∧WrFr lo g w w':=by
 obtain ⟨n,hn⟩:∃ n,ss.length=n:=⟨_,rfl⟩
 rw [hn]
 have hlk:(ZaA k ss).length=(bytes k).length + (ZaI ss).length + 1:=by unfold ZaA; rw [List.length_append,List.length_append]; rfl
 have hks:(bytes k).length=k.size:=Zaf k
 have HS:=zh hS
 have HW:=zh h
 have HN:=zh hn
 have HK:=zh hk
 have HLK:=zh hlk
 have HKS:=zh hks
 have hlI:(l.length:Int)≤1048576:=by omega
 clear hS h hk hlk hks
 go_enter Tryz.func109,Tryz.ntmps109
 go_wp2_with (go_at_call 112; refine (Zi3 lo g l _ HW.out).mono ?_; rintro e w' ⟨rfl,rfl⟩)
 refine (ZdD lo g l k _ HW.out (by have:=HLK.out; have:=HK.out; have:=HKS.out; omega)).mono ?_
 rintro e w1 ⟨rfl,hW1,hF1⟩
 have HW1:=zh hW1
 have HF1:=zh hF1
 have HS1:=zh (HS.out.wr HW.out hF1)
 clear hW1 hF1
 go_wp2_with fail
 go_loopw [20] (fun v wr=>∃ j:Nat,j≤n∧v=.int .i64 (j:Int)∧Hid (WrIs lo g (l ++ bytes k ++ ZaI (ss.take j)) wr)∧Hid (WrFr lo g w' wr)∧Hid (SRow wr A ss)) (fun v _=>n - (intOf v).toNat)
 case atStart=>exact ⟨0,by omega,rfl,by unfold Hid; rw [List.take_zero,show ZaI []=[] from rfl,List.append_nil]; exact HW1.out,HF1,HS1⟩
 case round =>
  obtain ⟨j,hj,rfl,hWj,hFj,hSj⟩:=hrel
  have hlen:(l ++ bytes k ++ ZaI (ss.take j)).length≤140737488355000:=by
   have:=HLK.out; have:=HK.out; have:=ZeR (ss:=ss) j
   rw [List.length_append,List.length_append]; omega
  by_cases hlt:j < n
  ·obtain ⟨b,off,rfl,hc⟩:=hSj.out.at_ (i:=j) (by rw [HN.out]; exact hlt)
   obtain ⟨s,hs⟩:∃ s,ss[j]?.getD ⟨#[]⟩=s:=⟨_,rfl⟩
   rw [hs] at hc
   have hstep:Hid (l ++ bytes k ++ ZaI (ss.take (j + 1))=l ++ bytes k ++ ZaI (ss.take j) ++ [32] ++ bytes s):=by
    unfold Hid; rw [ZdR (by rw [HN.out]; exact hlt),hs]; simp only [List.append_assoc]
   have hsl:(bytes s).length≤70368744177664:=by
    have h1:=ZeR (ss:=ss) (j + 1)
    rw [ZdR (by rw [HN.out]; exact hlt),hs,List.length_append] at h1
    have:=HLK.out; have:=HK.out
    omega
   have hj0:(0:Int)≤(j:Int):=by omega
   have hjn:(j:Int) < (n:Int):=by omega
   have hssz:s.size≤70368744177664:=by rw [Zaf] at hsl; exact hsl
   have hlen2:l.length + (bytes k).length + (ZaI (ss.take j)).length + (bytes s).length≤140737488355000:=by
    have h1:=ZeR (ss:=ss) (j + 1)
    rw [ZdR (by rw [HN.out]; exact hlt),hs,List.length_append,List.length_append] at h1
    have:=HLK.out; have:=HK.out
    omega
   have HL2:=zh hlen2
   clear hs hsl hlen2
   go_wp2_with (go_at_call 223; refine (Zew lo g _ 32 _ hWj.out (by omega)).mono ?_)
   rintro e w2 ⟨rfl,hW2,hF2⟩
   have HW2:=zh hW2
   have HF2:=zh hF2
   have HS2:=zh (hSj.out.wr hWj.out hF2)
   clear hW2 hF2
   go_wp2_with (go_at_call 222; refine (ZdD lo g _ s _ HW2.out (by
    have:=HL2.out; rw [Zaf s] at this
    simp only [List.length_append,List.length_cons,List.length_nil]; omega)).mono ?_)
   rintro e w3 ⟨rfl,hW3,hF3⟩
   have HW3:Hid (WrIs lo g (l ++ bytes k ++ ZaI (ss.take (j + 1))) w3):=by unfold Hid; rw [hstep.out]; exact hW3
   have HF3:Hid (WrFr lo g w' w3):=(hFj.out.trans HF2.out).trans hF3
   have HS3:=zh (HS2.out.wr HW2.out hF3)
   clear hW3 hF3
   go_wp2
   go_roundw
   case rel=>exact ⟨j + 1,by omega,by go_num,HW3.out,HF3.out,HS3.out⟩
   case measure=>simp [intOf]; omega
  ·obtain rfl:j=n:=by omega
   have HWn:Hid (WrIs lo g (l ++ bytes k ++ ZaI ss) wr):=by
    have h:=hWj.out
    rw [List.take_of_length_le (by rw [HN.out]; exact Nat.le_refl _)] at h
    exact h
   have hln:(l ++ bytes k ++ ZaI ss).length + 1≤140737488355328:=by
    have:=HLK.out; have:=HK.out
    rw [List.length_append,List.length_append]; omega
   clear hWj hlen
   go_wp2_with (go_at_call 223; refine (Zew lo g _ 10 _ HWn.out hln).mono ?_)
   rintro e w2 ⟨rfl,hW2,hF2⟩
   have HW2:Hid (WrIs lo g (l ++ ZaA k ss) w2):=by
    unfold Hid ZaA
    rw [show l ++ (bytes k ++ ZaI ss ++ [10])=l ++ bytes k ++ ZaI ss ++ [10] by simp only [List.append_assoc]]
    exact hW2
   have HF2:Hid (WrFr lo g w' w2):=hFj.out.trans hF2
   clear hW2 hF2
   go_wp2
   go_end0
   exact ⟨rfl,HW2.out,HF2.out⟩
end Go.Proofs.YtcpjeaaapocoeaaGreatDoor

namespace Go.Proofs.YtcpjeaaapocoeaaGreatDoor
open Go.RowKit
abbrev nth (zs:List Int) (i:Nat):Int:=zs[i]?.getD 0
def IRow (w:World) (A:Option Addr) (zs:List Int):Prop:=∀ i,i < zs.length→∃ b off,A=some ⟨b,off,none⟩∧b < w.heap.size∧w.cell? ⟨b,off + i,none⟩=some (.int .i64 (nth zs i))
theorem IRow.ext {w w':World} {A:Option Addr} {zs:List Int} (h:IRow w A zs) (hf:Ext w w'):IRow w' A zs:=fun i hi=>by
 obtain ⟨b,off,e,hb,hc⟩:=h i hi
 exact ⟨b,off,e,Nat.lt_of_lt_of_le hb hf.size,(hf.cell (p:=⟨b,off + i,none⟩) hb (fun f=>f)).trans hc⟩
def sumT (zs:List Int):Nat→Int
 | 0=>0
 | k + 1=>sumT zs k + nth zs k
def Zgi (zs:List Int):Prop:=zs.length≤6∧∀ i,0≤nth zs i∧nth zs i≤1048576
theorem Zi4 {zs:List Int} (h:∀ i,0≤nth zs i∧nth zs i≤1048576) (k:Nat):0≤sumT zs k∧sumT zs k≤1048576 * k:=by
 induction k with
 | zero=>simp [sumT]
 | succ k ih=>have:=h k; unfold sumT; omega
def cmpF (a b:Int):Int:=if a < b then -1 else if b < a then 1 else 0
def ordL (zs ys:List Int):Nat→Int
 | 0=>0
 | k + 1=>if nth zs k=nth ys k then ordL zs ys k else cmpF (nth ys k) (nth zs k)
def ordF (zs ys:List Int):Int:=if sumT zs zs.length=sumT ys ys.length then ordL zs ys zs.length else cmpF (sumT zs zs.length) (sumT ys ys.length)
def degT (zs:List Int):Nat→Int
 | 0=>0
 | k + 1=>if degT zs k < 0 then -1 else if nth zs k < 0∨24 - degT zs k < nth zs k then -1 else degT zs k + nth zs k
def degF (zs:List Int):Int:=if 6 < zs.length then -1 else degT zs zs.length
theorem Zj9 (a:Int) (w:World):Calls Tryz.prog 385 #[.int .i64 a] w fun e w'=>e=.returned (.bool false)∧w'=w:=by
 go_enter Tryz.func385,Tryz.ntmps385
 go_wp2
 go_ret
 exact ⟨by simp,rfl⟩
theorem ZdS (a b:Int) (w:World):Calls Tryz.prog 357 #[.int .i64 a, .int .i64 b] w fun e w'=>e=.returned (.int .i64 (cmpF a b))∧w'=w:=by
 obtain ⟨r,hr⟩:∃ r,cmpF a b=r:=⟨_,rfl⟩
 rw [hr]
 have HR:=zh hr
 clear hr
 go_enter Tryz.func357,Tryz.ntmps357
 go_wp2_with (go_at_call 385; refine (Zj9 _ _).mono ?_; rintro e w' ⟨rfl,rfl⟩)
 all_goals
  go_ret
  have h:=HR.out
  unfold cmpF at h
  (repeat' split at h)<;>first | (subst h; exact ⟨rfl,rfl⟩) | omega
set_option maxHeartbeats 1000000 in
theorem Zjw (A:Option Addr) (c:Nat) (zs:List Int) (w:World) (hA:IRow w A zs) (hl:zs.length≤9223372036854775807):Calls Tryz.prog 320 #[.slice A zs.length c] w fun e w'=>e=.returned (.int .i64 (degF zs))∧w'=w:=by
 obtain ⟨n,hn⟩:∃ n,zs.length=n:=⟨_,rfl⟩
 unfold degF
 have HA:=zh hA
 have HN:=zh hn
 rw [hn]
 clear hA
 go_enter Tryz.func320,Tryz.ntmps320
 by_cases h6:6 < n
 ·rw [if_pos h6]
  have h6':(6:Int) < (n:Int):=by omega
  go_wp2
  go_ret
  exact ⟨rfl,rfl⟩
 ·rw [if_neg h6]
  have h6':(n:Int)≤6:=by omega
  go_wp2
  go_loop [3,11] (fun v3 v11=>∃ (k:Nat),k≤n∧v11=.int .i64 (k:Int)∧v3=.int .i64 (degT zs k)∧0≤degT zs k∧degT zs k≤24) (fun _ v=>n - (intOf v).toNat)
  case atStart=>exact ⟨0,by omega,rfl,rfl,by simp [degT],by simp [degT]⟩
  case round =>
   obtain ⟨k,hk,rfl,rfl,d0,d24⟩:=hrel
   obtain ⟨d,hd⟩:∃ d,degT zs k=d:=⟨_,rfl⟩
   rw [hd] at d0 d24 ⊢
   by_cases hlt:k < n
   ·obtain ⟨b,off,rfl,_,hc⟩:=HA.out k (by rw [HN.out]; exact hlt)
    obtain ⟨z,hz⟩:∃ z,nth zs k=z:=⟨_,rfl⟩
    rw [hz] at hc
    have hstep:Hid (degT zs (k + 1)=if d < 0 then -1 else if z < 0∨24 - d < z then -1 else d + z):=by
     unfold Hid; rw [← hd,← hz]; rfl
    have hdn:¬ d < 0:=by omega
    have hk1:(0:Int)≤(k:Int):=by omega
    have hk2:(k:Int) < (n:Int):=by omega
    have w1:IntKind.i64.wrap (24 - d)=24 - d:=IntWalk.i64_in _ (by omega)
    by_cases hz0:z < 0∨24 - d < z
    ·have HL:Hid (degT zs n = -1):=by
      have h1:=hstep.out
      rw [if_neg hdn,if_pos hz0] at h1
      have key:∀ m,degT zs (k + 1 + m) = -1:=fun m=>by
       induction m with
       | zero=>exact h1
       | succ m ih=>show (if degT zs (k + 1 + m) < 0 then _ else _)=_; rw [ih]; rfl
      have:=key (n - (k + 1))
      rwa [show k + 1 + (n - (k + 1))=n by omega] at this
     by_cases hz1:z < 0
     ·go_wp2
      go_ret
      exact ⟨by rw [HL.out]; rfl,rfl⟩
     ·have hz2:24 - d < z:=by omega
      go_wp2
      go_ret
      exact ⟨by rw [HL.out]; rfl,rfl⟩
    ·have w2:IntKind.i64.wrap (d + z)=d + z:=IntWalk.i64_in _ (by omega)
     have hz1:¬ z < 0:=by omega
     have hz2:¬ 24 - d < z:=by omega
     have HS:Hid (degT zs (k + 1)=d + z):=by
      have h1:=hstep.out
      rwa [if_neg hdn,if_neg hz0] at h1
     clear hd hz hstep hz0
     go_wp2
     go_round
     case rel=>exact ⟨k + 1,by omega,by go_num,by rw [HS.out],by rw [HS.out]; omega,by rw [HS.out]; omega⟩
     case measure=>simp [intOf]; omega
   ·obtain rfl:k=n:=by omega
    go_wp2
    go_ret
    exact ⟨rfl,rfl⟩
theorem Zgj (A:Option Addr) (c:Nat) (zs:List Int) (w:World) (hA:IRow w A zs) (hl:zs.length≤9223372036854775807):Calls Tryz.prog 246 #[.slice A zs.length c] w fun e w'=>e=.returned (.bool (decide (0≤degF zs)))∧w'=w:=by
 have H:=zh (Zjw A c zs w hA hl)
 clear hA
 go_enter Tryz.func246,Tryz.ntmps246
 go_wp2_with fail
 refine H.out.mono ?_
 rintro e w1 ⟨rfl,rfl⟩
 go_wp2
 go_ret
 exact ⟨rfl,rfl⟩
set_option maxHeartbeats 2000000 in
theorem Zhh (A B:Option Addr) (c c2:Nat) (zs ys:List Int) (w:World) (hA:IRow w A zs) (hB:IRow w B ys) (hl:zs.length=ys.length) (hz:Zgi zs) (hy:Zgi ys) :
 Calls Tryz.prog 319 #[.slice A zs.length c, .slice B ys.length c2] w fun e w'=>e=.returned (.int .i64 (ordF zs ys))∧Ext w w':=by
 obtain ⟨n,hn⟩:∃ n,zs.length=n:=⟨_,rfl⟩
 have h6:=hz.1
 have HA:=zh hA
 have HB:=zh hB
 have HN:=zh hn
 have HL:=zh hl
 have HZ:=zh hz
 have HY:=zh hy
 obtain ⟨r,hr⟩:∃ r,ordF zs ys=r:=⟨_,rfl⟩
 have HR0:Hid (r=if sumT zs n=sumT ys n then ordL zs ys n else cmpF (sumT zs n) (sumT ys n)):=by
  unfold Hid; rw [← hr]; unfold ordF; rw [← hl,hn]
 rw [hr,← hl,hn]
 rw [hn] at h6
 clear hr
 clear hA hB hn hl hz hy
 go_enter Tryz.func319,Tryz.ntmps319
 go_wp2
 go_loop [5,6,12] (fun v5 v6 v12=>∃ (k:Nat),k≤n∧v12=.int .i64 (k:Int)∧v5=.int .i64 (sumT zs k)∧v6=.int .i64 (sumT ys k)) (fun _ _ v=>n - (intOf v).toNat)
 case atStart=>exact ⟨0,by omega,rfl,rfl,rfl⟩
 case round =>
  obtain ⟨k,hk,rfl,h5,h6v⟩:=hrel
  obtain ⟨s,hs⟩:∃ s,sumT zs k=s:=⟨_,rfl⟩
  obtain ⟨t,ht⟩:∃ t,sumT ys k=t:=⟨_,rfl⟩
  have s1:=Zi4 HZ.out.2 k
  have t1:=Zi4 HY.out.2 k
  rw [hs] at s1 h5
  rw [ht] at t1 h6v
  subst h5 h6v
  by_cases hlt:k < n
  ·obtain ⟨b,off,rfl,_,hc⟩:=HA.out k (by rw [HN.out]; exact hlt)
   obtain ⟨b2,off2,rfl,_,hc2⟩:=HB.out k (by rw [← HL.out,HN.out]; exact hlt)
   have z1:=HZ.out.2 k
   have y1:=HY.out.2 k
   have HS:Hid (sumT zs (k + 1)=s + nth zs k):=by unfold Hid; rw [← hs]; rfl
   have HT:Hid (sumT ys (k + 1)=t + nth ys k):=by unfold Hid; rw [← ht]; rfl
   obtain ⟨z,hz⟩:∃ z,nth zs k=z:=⟨_,rfl⟩
   obtain ⟨y,hy⟩:∃ y,nth ys k=y:=⟨_,rfl⟩
   rw [hz] at hc z1 HS
   rw [hy] at hc2 y1 HT
   have hk1:(0:Int)≤(k:Int):=by omega
   have hk2:(k:Int) < (n:Int):=by omega
   have w1:IntKind.i64.wrap (s + z)=s + z:=IntWalk.i64_in _ (by omega)
   have w2:IntKind.i64.wrap (t + y)=t + y:=IntWalk.i64_in _ (by omega)
   clear hs ht hz hy
   go_wp2
   go_round
   case rel=>exact ⟨k + 1,by omega,by go_num,by rw [HS.out],by rw [HT.out]⟩
   case measure=>simp [intOf]; omega
  ·obtain rfl:k=n:=by omega
   have HST:Hid (sumT zs k=s∧sumT ys k=t):=⟨hs,ht⟩
   clear hs ht
   by_cases hst:s=t
   ·have hst2:(s != t)=false:=by simp; exact hst
    have hk6:(k:Int)≤6:=by omega
    go_wp2
    go_loopw [9] (fun v9 wr=>∃ (m:Nat),m≤k∧v9=.int .i64 ((m:Int) - 1)∧Hid (ordL zs ys k=ordL zs ys m)∧Hid (Ext w wr)) (fun v _=>(intOf v + 1).toNat)
    case atStart=>exact ⟨k,Nat.le_refl _,rfl,rfl,Fr.refl _ _⟩
    case round =>
     obtain ⟨m,hm,rfl,hO,Q⟩:=hrel
     rcases m with _ | j
     ·rw [show ((0:Nat):Int) - 1 = -1 from rfl]
      have HR:Hid (r=0):=by
       unfold Hid
       rw [HR0.out,if_pos (by rw [HST.out.1,HST.out.2]; exact hst),hO.out]; rfl
      clear hm hO
      go_wp2
      go_ret
      exact ⟨by rw [HR.out]; rfl,Q.out⟩
     ·rw [show ((j + 1:Nat):Int) - 1=(j:Int) by omega]
      obtain ⟨b,off,rfl,hb,hc⟩:=HA.out.ext Q.out j (by rw [HN.out]; omega)
      obtain ⟨b2,off2,rfl,hb2,hc2⟩:=HB.out.ext Q.out j (by rw [← HL.out,HN.out]; omega)
      have HSt:Hid (ordL zs ys (j + 1)=if nth zs j=nth ys j then ordL zs ys j else cmpF (nth ys j) (nth zs j)):=rfl
      obtain ⟨z,hz⟩:∃ z,nth zs j=z:=⟨_,rfl⟩
      obtain ⟨y,hy⟩:∃ y,nth ys j=y:=⟨_,rfl⟩
      rw [hz] at hc HSt
      rw [hy] at hc2 HSt
      have hj1:(0:Int)≤(j:Int):=by omega
      have hj2:(j:Int) < (k:Int):=by omega
      clear hz hy
      by_cases hzy:z=y
      ·have hzy2:(z != y)=false:=by simp; exact hzy
       have HO2:Hid (ordL zs ys k=ordL zs ys j):=by
        unfold Hid; rw [hO.out,HSt.out,if_pos hzy]
       clear hO HSt
       go_wp2
       go_region_held3 (fun w'=>w'.cell? ⟨b,off + j,none⟩=some (.int .i64 z)∧w'.cell? ⟨b2,off2 + j,none⟩=some (.int .i64 y))
        (first | exact ⟨hc,hc2⟩)
        (first | (exact fun h=>h))
       have HE2:Hid (Ext w wr.drew):=Q.out.drew
       generalize wr.drew=wd at *
       clear hc hc2 hb hb2 Q hzy hzy2
       go_wp2
       go_roundw
       case rel=>exact ⟨j,by omega,by go_num,HO2.out,HE2.out⟩
       case measure=>simp [intOf]
      ·have hzy2:(z != y)=true:=by simp; exact hzy
       have HR:Hid (r=cmpF y z):=by
        unfold Hid
        rw [HR0.out,if_pos (by rw [HST.out.1,HST.out.2]; exact hst),hO.out,HSt.out,if_neg hzy]
       clear hO HSt
       go_wp2
       go_region_held3 (fun w'=>w'.cell? ⟨b,off + j,none⟩=some (.int .i64 z)∧w'.cell? ⟨b2,off2 + j,none⟩=some (.int .i64 y))
        (first | exact ⟨hc,hc2⟩)
        (first | (go_at_call 357; refine (ZdS _ _ _).mono ?_; rintro e w' ⟨rfl,rfl⟩))
       have hcd:wr.drew.cell? ⟨b,off + j,none⟩=some (.int .i64 z):=hc
       have hcd2:wr.drew.cell? ⟨b2,off2 + j,none⟩=some (.int .i64 y):=hc2
       have HE2:Hid (Ext w wr.drew):=Q.out.drew
       generalize wr.drew=wd at *
       clear hc hc2 hb hb2 Q
       have hc:=hcd
       have hc2:=hcd2
       clear hcd hcd2
       go_wp2
       go_region_held3 (fun w'=>w'.cell? ⟨b,off + j,none⟩=some (.int .i64 z)∧w'.cell? ⟨b2,off2 + j,none⟩=some (.int .i64 y))
        (first | exact ⟨hc,hc2⟩)
        (first | (go_at_call 357; refine (ZdS _ _ _).mono ?_; rintro e w' ⟨rfl,rfl⟩))
       have HE3:Hid (Ext w wd.drew):=HE2.out.drew
       generalize wd.drew=we at *
       clear hc hc2
       go_wp2
       go_ret
       exact ⟨by rw [HR.out]; rfl,HE3.out⟩
   ·have hst2:(s != t)=true:=by simp; exact hst
    have HR:Hid (r=cmpF s t):=by
     unfold Hid
     rw [HR0.out,if_neg (by rw [HST.out.1,HST.out.2]; exact hst),HST.out.1,HST.out.2]
    go_wp2_with (go_at_call 357; refine (ZdS _ _ _).mono ?_; rintro e w' ⟨rfl,rfl⟩)
    go_ret
    exact ⟨by rw [HR.out]; rfl,Fr.refl _ _⟩
end Go.Proofs.YtcpjeaaapocoeaaGreatDoor

namespace Go.Proofs.YtcpjeaaapocoeaaGreatDoor
open Go.RowKit
def Zb7 (z:Int):Prop := -9223372036854775808≤z∧z≤9223372036854775807
def Zae (z:Int):ByteArray:=⟨(Lib.itoa z).toArray⟩
set_option maxHeartbeats 4000000 in
theorem ZfO (A:Option Addr) (c:Nat) (zs:List Int) (w:World) (hg:Glob w) (hI:IRow w A zs) (hz:∀ i,i < zs.length→Zb7 (nth zs i)) (hl:zs.length≤1000000) :
 Calls Tryz.prog 110 #[.slice A zs.length c] w fun e w'=>∃ b,e=.returned (.slice (some ⟨b,0,none⟩) zs.length zs.length)∧w.heap.size≤b∧Blk 9 w' b (Lib.cellsOf (zs.map Zae) zs.length)∧Ext w w':=by
 obtain ⟨n,hn⟩:∃ n,zs.length=n:=⟨_,rfl⟩
 rw [hn]
 have HG:=zh hg
 have HI:=zh hI
 have HZ:=zh hz
 have HN:=zh hn
 have hmk:=run_make_row' (P:=Tryz.prog) 59 9 (.string ByteArray.empty) 16 Tryz.underlying59 (by kernel_rfl) rfl .i64 .i64 n (by omega) (by omega)
 clear hg hI hz
 go_enter Tryz.func110,Tryz.ntmps110
 go_wp2
 generalize hwb:World.alloc w _=wb
 obtain ⟨b,hb⟩:∃ b,w.heap.size=b:=⟨_,rfl⟩
 rw [hb]
 have HB:Hid (Blk 9 wb b (Lib.cellsOf [] n)):=by
  unfold Hid; rw [← hwb,← hb,Lib.cellsOf_nil]; exact Blk.new _ _ _
 have HE:Hid (Ext w wb):=hwb ▸ (Fr.refl _ _).alloc _
 have Hb:=zh hb
 clear hmk hwb
 go_loopw [11] (fun v wr=>∃ j:Nat,j≤n∧v=.int .i64 (j:Int)∧Hid (Blk 9 wr b (Lib.cellsOf ((zs.take j).map Zae) n))∧Hid (Ext w wr)) (fun v _=>n - (intOf v).toNat)
 case atStart=>exact ⟨0,by omega,rfl,HB,HE⟩
 case round =>
  obtain ⟨j,hj,rfl,hB,Q⟩:=hrel
  by_cases hlt:j < n
  ·obtain ⟨bA,off,rfl,_,hc⟩:=HI.out.ext Q.out j (by rw [HN.out]; exact hlt)
   have hzr:=HZ.out j (by rw [HN.out]; exact hlt)
   have hj0:(0:Int)≤(j:Int):=by omega
   have hjn:(j:Int) < (n:Int):=by omega
   have hstep:Hid ((zs.take (j + 1)).map Zae=(zs.take j).map Zae ++ [Zae (nth zs j)]):=by
    unfold Hid nth
    rw [List.take_succ_eq_append_getElem (by rw [HN.out]; exact hlt),List.map_append,List.getElem?_eq_getElem (by rw [HN.out]; exact hlt)]
    rfl
   have hjl:Hid (((zs.take j).map Zae).length=j):=by
    unfold Hid; rw [List.length_map,List.length_take,HN.out]; omega
   obtain ⟨z,hz⟩:∃ z,nth zs j=z:=⟨_,rfl⟩
   rw [hz] at hc hzr hstep
   clear hz
   go_wp2_with fail
   refine (Tryz.strconv_Itoa z hzr.1 hzr.2 _ (HG.out.ext Q.out).1).mono ?_
   rintro e w2 ⟨rfl,kk,os,eo⟩
   have hE1:Ext wr w2:=by rw [eo]; exact Fr.ofBelow (Lib.below_grow _ wr (Nat.le_refl _) kk os)
   have hB2:=hB.out.ext hE1
   have hcell:w2.cell? ⟨b,j,none⟩=some (.string ByteArray.empty):=by
    rw [hB2.cell]
    have:=Lib.cellsOf_next (done:=(zs.take j).map Zae) (N:=n) (by rw [hjl.out]; exact hlt)
    rwa [hjl.out] at this
   have hfrz:=hB2.frozen j
   have HBs:Hid (Blk 9 (w2.setCell ⟨b,j,none⟩ (.string (Zae z))) b (Lib.cellsOf ((zs.take (j + 1)).map Zae) n)):=by
    have h:=hB2.set_ j (.string (Zae z))
    have h2:=Lib.cellsOf_set (done:=(zs.take j).map Zae) (N:=n) (by rw [hjl.out]; exact hlt) (Zae z)
    rw [hjl.out] at h2
    rw [h2,← hstep.out] at h
    exact h
   have HEs:Hid (Ext w (w2.setCell ⟨b,j,none⟩ (.string (Zae z)))):=(Q.out.trans hE1).setCell (p:=⟨b,j,none⟩) (Or.inr (by rw [Hb.out]; exact Nat.le_refl _)) _
   change Hid (Blk 9 (w2.setCell ⟨b,j,none⟩ (.string ⟨(Lib.itoa z).toArray⟩)) b _) at HBs
   change Hid (Ext w (w2.setCell ⟨b,j,none⟩ (.string ⟨(Lib.itoa z).toArray⟩))) at HEs
   clear hE1 hB2 eo hB Q hc
   go_wp2
   go_roundw
   case rel=>exact ⟨j + 1,by omega,by go_num,HBs.out,HEs.out⟩
   case measure=>simp [intOf]; omega
  ·obtain rfl:j=n:=by omega
   have HBn:Hid (Blk 9 wr b (Lib.cellsOf (zs.map Zae) j)):=by
    have h:=hB.out
    rw [List.take_of_length_le (by rw [HN.out]; exact Nat.le_refl _)] at h
    exact h
   have hbl:w.heap.size≤b:=by rw [Hb.out]; exact Nat.le_refl _
   go_wp2
   go_ret
   exact ⟨b,rfl,hbl,HBn.out,Q.out⟩
end Go.Proofs.YtcpjeaaapocoeaaGreatDoor
