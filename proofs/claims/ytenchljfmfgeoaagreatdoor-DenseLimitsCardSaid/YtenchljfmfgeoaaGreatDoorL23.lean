/-
 My texts Dn2, Dn3, Dn4, Dn5, Dn7, Dn8 put together.
-/
import Derived.Test.YtenchljfmfgeoaaGreatDoorL19
import Derived.Test.YtenchljfmfgeoaaGreatDoorL22
import Derived.Test.YtenchljfmfgeoaaGreatDoorL18
set_option maxRecDepth 100000
namespace Go.Proofs.YtenchljfmfgeoaaGreatDoor
open Go.RowKit
theorem ZrO {r c:Int} (h1:1≤r) (h2:r≤64) (h3:1≤c) (h4:c≤64):IntKind.i64.wrap (r * c)=r * c:=by
 have k1:r * c≤64 * 64:=Int.mul_le_mul h2 h4 (by omega) (by decide)
 have k2:0≤r * c:=Int.mul_nonneg (by omega) (by omega)
 rw [IntKind.wrap_i64]; omega
theorem ZhM {i c:Nat} (h1:i≤64) (h2:c≤64):IntKind.i64.wrap ((i:Int) * (c:Int))=((i * c:Nat):Int):=by
 have k1:i * c≤64 * 64:=Nat.mul_le_mul h1 h2
 rw [IntKind.wrap_i64,← Int.natCast_mul]; omega
instance {m:Nat}:Nonempty {b:Nat // m≤b}:=⟨⟨m,Nat.le_refl _⟩⟩
theorem ZlE {a b:Int} (h:a=b):(a != b)=false:=by simp [h]
theorem Zbc {α:Type} [Inhabited α] {l:List α} {j:Nat} (h:j < l.length):l[j]! ∈ l:=by rw [getElem!_pos l j h]; exact List.getElem_mem h
def fl0:ByteArray × Int:=(⟨#[]⟩,0)
def stC (s:ByteArray):List Value:=[.string s]
theorem ZeW (s:ByteArray):(stC s).length=1:=rfl
theorem Zht (s:ByteArray):∀ (k:IntKind) (z:Int),Value.int k z ∈ stC s→k=.i64:=fun k z h=>by simp [stC] at h
def ZbM {α β:Type} (f:α→β) (z:β) (xs:List α) (k:Nat):List β:=fill xs.length z ((xs.take k).map f)
theorem ZeL {α β:Type} (f:α→β) (z:β) (xs:List α):ZbM f z xs 0=List.replicate xs.length z:=by unfold ZbM; rw [List.take_zero,List.map_nil,Zgw]
theorem Zfv {α β:Type} {f:α→β} {z:β} {xs:List α} {k:Nat}:(ZbM f z xs k).length=xs.length:=by unfold ZbM; exact Zgu (by rw [List.length_map,List.length_take]; omega)
theorem Zfw {α β:Type} (f:α→β) (z:β) (xs:List α):ZbM f z xs xs.length=xs.map f:=by
 unfold ZbM; rw [List.take_length]; have:=Zgv (z:=z) (l:=xs.map f); rwa [List.length_map] at this
theorem Zfx {α β:Type} [Inhabited α] {f:α→β} {z v:β} {xs:List α} {k:Nat} (hk:k < xs.length) (hv:f xs[k]! = v):(ZbM f z xs k).set k v=ZbM f z xs (k + 1):=by
 unfold ZbM
 have hl:((xs.take k).map f).length=k:=by rw [List.length_map,List.length_take]; omega
 have:=Zln (n:=xs.length) (z:=z) (x:=v) (l:=(xs.take k).map f) (by rw [hl]; exact hk)
 rw [hl] at this
 rw [this,← hv,getElem!_pos xs k hk,List.take_succ_eq_append_getElem hk,List.map_append,List.map_singleton]
noncomputable def rdF (b:Int) (s:ByteArray):ByteArray × Int:=(⟨(frT (ZbN (bytes s) b)).toArray⟩,frE (ZbN (bytes s) b))
def ZqU (r c:Nat) (fs:List (ByteArray × Int)) (w:World) (e:Ending) (w':World):Prop:=∃ b,e=.returned (.tuple #[.agg #[.int .i64 ((r:Nat):Int), .int .i64 ((c:Nat):Int), .slice (some ⟨b,0,none⟩) fs.length fs.length], .int .i64 0])∧OwnD w' w.heap.size 76 2 (some ⟨b,0,none⟩) fs.length fs.length (fs.flatMap flC)∧Ext w w'
theorem Zsy {r c:Int} {n:Nat} (h:1≤r∧r≤64∧1≤c∧c≤64∧(((n:Nat):Int):Int)=r * c):n≤4096:=by
 have k1:r * c≤64 * 64:=Int.mul_le_mul h.2.1 h.2.2.2.1 (by omega) (by decide)
 have:=h.2.2.2.2
 omega
def mtB (r c:Int) (ts:List ByteArray):Bool:=decide (1≤r∧r≤64∧1≤c∧c≤64∧((ts.length:Nat):Int)=r * c) && ts.all (fun s=>(Za0 (bytes s)).isSome)
theorem Zqm {p:Nat→Prop} {k:Nat} (h:∀ j,j < k→p j) (hk:p k):∀ j,j < k + 1→p j:=fun j hj=>by
 rcases Nat.lt_or_ge j k with h1 | h1
 ·exact h j h1
 ·rw [show j=k by omega]; exact hk
theorem ZmP {α:Type} [Inhabited α] {p:α→Bool} {l:List α}:l.all p=true ↔ ∀ j,j < l.length→p l[j]! = true:=by
 rw [List.all_eq_true]
 exact ⟨fun h j hj=>h _ (by rw [getElem!_pos l j hj]; exact List.getElem_mem hj),fun h x hx=>by
  obtain ⟨j,hj,e⟩:=List.getElem_of_mem hx
  have:=h j hj
  rw [getElem!_pos l j hj,e] at this
  exact this⟩
theorem ZrP {r c:Int} {ts:List ByteArray} (hs:1≤r∧r≤64∧1≤c∧c≤64∧((ts.length:Nat):Int)=r * c) (hv:∀ j,j < ts.length→(Za0 (bytes ts[j]!)).isSome=true):mtB r c ts=true:=by
 unfold mtB; rw [decide_eq_true hs,Bool.true_and]; exact ZmP.2 hv
theorem Zsz {r c:Int} {ts:List ByteArray} {k:Nat} (hk:k < ts.length) (hv:(Za0 (bytes ts[k]!)).isSome=false):mtB r c ts=false:=by
 unfold mtB
 rw [Bool.and_eq_false_iff]
 refine Or.inr ?_
 rw [Bool.eq_false_iff]
 intro h
 rw [ZmP.1 h k hk] at hv
 cases hv
theorem Zqn {r c:Int} {ts:List ByteArray} (hs:¬ (1≤r∧r≤64∧1≤c∧c≤64∧((ts.length:Nat):Int)=r * c)):mtB r c ts=false:=by
 unfold mtB; rw [decide_eq_false hs,Bool.false_and]
theorem Zhu (r c:Int) (A:Option Addr) (n k:Nat) (w:World) :
 Calls Tryz.prog 60 #[.agg #[.int .i64 r, .int .i64 c, .slice A n k]] w (RetV w (.bool (decide (1≤r∧r≤64∧1≤c∧c≤64∧((n:Nat):Int)=r * c)))):=by
 refine Zas (Φ:=fun w=>True) Tryz.func60 rfl (by kernel_rfl) (fun w' hf=>trivial) ?_
 refine Zac (Zab (xq 2 [(1, .p 1 0),(2, .v (.bool false))] [(1,24,[.v (.int .i64 r), .v (.int .i64 c), .v (.slice A n k)])] ?_))
 refine xe (Zaa (Zac (Zab (xq 4 [(6, .v (.bool (decide (1≤r))))] [] ?_))))
 rcases bl2 ((decide (1≤r))) with hb10 | hb10
 ·rw [hb10]
  have hb10':=of_decide_eq_true hb10
  refine xq 5 [(11, .v (.bool (decide (r≤64))))] [] ?_
  rcases bl2 ((decide (r≤64))) with hb11 | hb11
  ·rw [hb11]
   have hb11':=of_decide_eq_true hb11
   refine xq 5 [(16, .v (.bool (decide (1≤c))))] [] ?_
   rcases bl2 ((decide (1≤c))) with hb12 | hb12
   ·rw [hb12]
    have hb12':=of_decide_eq_true hb12
    refine xq 5 [(21, .v (.bool (decide (c≤64))))] [] ?_
    rcases bl2 ((decide (c≤64))) with hb13 | hb13
    ·rw [hb13]
     have hb13':=of_decide_eq_true hb13
     refine xq 8 [(24, .v (.int .i64 ((n:Nat):Int))),(29, .v (.int .i64 (IntKind.i64.wrap (r * c))))] [] ?_
     rw [(show IntKind.i64.wrap (r * c)=r * c from ZrO (by omega) (by omega) (by omega) (by omega))]
     refine xq 3 [(2, .v (.bool ((((n:Nat):Int):Int) == (r * c))))] [] ?_
     refine xe (Zaa (Zag ?_))
     refine Zaf (v:=.bool ((((n:Nat):Int):Int) == (r * c))) (by kernel_rfl) (fun w' R Q=>?_)
     exact ⟨congrArg (fun b=>Ending.returned (.bool b)) (Bool.eq_iff_iff.2 (by rw [beq_iff_eq,decide_eq_true_iff]; exact ⟨fun h=>⟨by omega,by omega,by omega,by omega,h⟩,fun h=>h.2.2.2.2⟩)),R⟩
    ·rw [hb13]
     have hb13':=of_decide_eq_false hb13
     refine xq 11 [(2, .v (.bool false))] [] ?_
     refine xe (Zaa (Zag ?_))
     refine Zaf (v:=.bool false) (by kernel_rfl) (fun w' R Q=>?_)
     exact ⟨by rw [decide_eq_false (fun h=>by omega)],R⟩
   ·rw [hb12]
    have hb12':=of_decide_eq_false hb12
    refine xq 16 [(2, .v (.bool false))] [] ?_
    refine xe (Zaa (Zag ?_))
    refine Zaf (v:=.bool false) (by kernel_rfl) (fun w' R Q=>?_)
    exact ⟨by rw [decide_eq_false (fun h=>by omega)],R⟩
  ·rw [hb11]
   have hb11':=of_decide_eq_false hb11
   refine xq 21 [(2, .v (.bool false))] [] ?_
   refine xe (Zaa (Zag ?_))
   refine Zaf (v:=.bool false) (by kernel_rfl) (fun w' R Q=>?_)
   exact ⟨by rw [decide_eq_false (fun h=>by omega)],R⟩
 ·rw [hb10]
  have hb10':=of_decide_eq_false hb10
  refine xq 26 [(2, .v (.bool false))] [] ?_
  refine xe (Zaa (Zag ?_))
  refine Zaf (v:=.bool false) (by kernel_rfl) (fun w' R Q=>?_)
  exact ⟨by rw [decide_eq_false (fun h=>by omega)],R⟩
theorem Zhv (r c:Int) (A:Option Addr) (cap:Nat) (ts:List ByteArray) (w:World) (hg:Glob w) (hS:SRd w A ts) (hs:∀ s ∈ ts,(bytes s).length≤570) :
 Calls Tryz.prog 37 #[.agg #[.int .i64 r, .int .i64 c, .slice A ts.length cap]] w (RetV w (.bool (mtB r c ts))):=by
 refine Zas (Φ:=fun w=>(Glob w∧SRd w A ts)) Tryz.func37 rfl (by kernel_rfl) (fun w' hf=>⟨hg.ext hf,hS.ext hf⟩) ?_
 refine Zac (Zab (xq 2 [(1, .p 1 0),(2, .v (.bool false))] [(1,24,[.v (.int .i64 r), .v (.int .i64 c), .v (.slice A ts.length cap)])] ?_))
 refine xe (Zaa (Zac (Zac (Zab (xq 1 [(5, .v (.agg #[.int .i64 r, .int .i64 c, .slice A ts.length cap]))] [] ?_)))))
 by_cases hs10:1≤r∧r≤64∧1≤c∧c≤64∧(((ts.length:Nat):Int):Int)=r * c
 ·have hln:ts.length≤4096:=Zsy hs10
  refine xqc 60 [.agg #[.int .i64 r, .int .i64 c, .slice A ts.length cap]] 6 (fun _:Unit=>.bool true) _ (fun w R Q=>(Zhu r c A ts.length cap _).mono (fun _ _ h=>Zam h (by rw [decide_eq_true hs10]))) (fun xx=>?_)
  refine xq 1 [(7, .v (.bool false))] [] ?_
  refine xe (Zaa (xb (Zal (Zaa (Zac (Zac (Zab (xq 4 [eS1 9 A ts.length cap,(10, .v (.int .i64 ((ts.length:Nat):Int))),(11, .v (.int .i64 0))] [] ?_))))))))
  refine xe (Zaa (Zar ?_))
  refine SXc.weak [(2, .v (.bool false)),(9, .v (.slice A ts.length cap)),(10, .v (.int .i64 ((ts.length:Nat):Int))),(11, .v (.int .i64 ((0:Nat):Int)))] [] (Ψ:=fun w=>(Glob w∧SRd w A ts)) (Zax.of (by kernel_rfl)) (by kernel_rfl) (fun w Q=>⟨Q.1.1,Q.1.2⟩) ?_
  refine ZaR (fun nn ss ff=>∃ (k:Nat),ss=ofL [(2, .v (.bool false)),(9, .v (.slice A ts.length cap)),(10, .v (.int .i64 ((ts.length:Nat):Int))),(11, .v (.int .i64 ((k:Nat):Int)))] []∧ff=(fun w=>(Glob w∧SRd w A ts))∧(k≤ts.length)∧(∀ j,j < k→(Za0 (bytes ts[j]!)).isSome=true)∧nn=(1 + (ts.length - k))) ((1 + (ts.length - 0))) ⟨0,rfl,rfl,(Nat.zero_le _),(fun j hj=>by omega),rfl⟩ ?_
  rintro nn ss ff ⟨k,rfl,rfl,hk,hv,rfl⟩
  refine Zac (Zab (xq 1 [(12, .v (.bool (decide (((k:Nat):Int) < ((ts.length:Nat):Int)))))] [] ?_))
  refine xe (Zaa (Zac ?_))
  refine Zap ((decide (((k:Nat):Int) < ((ts.length:Nat):Int)))) (by kernel_rfl) (fun hb11=>?_) (fun hb11=>?_)
  ·have hlt:k < ts.length:=by have:=of_decide_eq_true hb11; omega
   refine Zal (Zaa (Zac (Zar (Zac (Zab ?_)))))
   refine xqk 13 (atA A (k * 1)) (fun w R Q=>Zb1 (t:=22) (e:=9) (sz:=1) (x:=(Operand.tmp 9)) (ix:=(Operand.tmp 11)) (len:=ts.length) (cap:=cap) (i:=k) (Q.2.ne hlt) hlt) ?_
   obtain ⟨x12,hx12⟩:∃ x,ts[k]! = x:=⟨_,rfl⟩
   refine xqk 14 (.string x12) (fun w R Q=>by rw [← hx12]; exact Zlo (t:=9) (x:=(Operand.tmp 13)) (j:=k) Q.2 hlt) ?_
   refine xq 1 [(4, .v (.string x12))] [] ?_
   refine xe (Zaa (Zac (Zab (xq 1 [(15, .v (.string x12))] [] ?_))))
   rcases bl2 (Za0 (bytes x12)).isSome with hv13 | hv13
   ·refine xqc 61 [.string x12] 16 (fun _:Unit=>.bool true) _ (fun w R Q=>(ZdT x12 _ Q.1 (by rw [← hx12]; exact hs _ (by rw [getElem!_pos ts k hlt]; exact List.getElem_mem hlt))).mono (fun _ _ h=>Zam h (by rw [hv13]))) (fun xx=>?_)
    refine xq 1 [(17, .v (.bool false))] [] ?_
    refine xe (Zaa (xb (Zal (ZaO (Zaa (Zab (xq 1 [(18, .v (.int .i64 (IntKind.i64.wrap (((k:Nat):Int) + 1))))] [] ?_)))))))
    rw [show IntKind.i64.wrap ((((k:Nat):Int) + 1))=((k + 1:Nat):Int) from by rw [IntKind.wrap_i64]; omega]
    refine xq 1 [(11, .v (.int .i64 ((k + 1:Nat):Int)))] [] ?_
    refine xe ?_
    refine SXq.weak [(2, .v (.bool false)),(9, .v (.slice A ts.length cap)),(10, .v (.int .i64 ((ts.length:Nat):Int))),(11, .v (.int .i64 (((k + 1):Nat):Int)))] [] (Ψ:=fun w=>(Glob w∧SRd w A ts)) (Zax.of (by kernel_rfl)) (by kernel_rfl) (fun w Q=>⟨Q.1.1,Q.1.2⟩) ?_
    exact ZaF ((1 + (ts.length - (k + 1)))) (by omega) ⟨(k + 1),rfl,rfl,hlt,(Zqm hv (by rw [hx12]; exact hv13)),rfl⟩
   ·refine xqc 61 [.string x12] 16 (fun _:Unit=>.bool false) _ (fun w R Q=>(ZdT x12 _ Q.1 (by rw [← hx12]; exact hs _ (by rw [getElem!_pos ts k hlt]; exact List.getElem_mem hlt))).mono (fun _ _ h=>Zam h (by rw [hv13]))) (fun xx=>?_)
    refine xq 1 [(17, .v (.bool true))] [] ?_
    refine xe (Zaa (xa (Zac (Zab (xq 1 [(2, .v (.bool false))] [] ?_)))))
    refine xe (Zaa (Zag (ZaQ (Zai (Zai (ZaQ (Zai ?_)))))))
    refine Zaf (v:=.bool false) (by kernel_rfl) (fun w' R Q=>?_)
    exact ⟨by rw [Zsz hlt (by rw [hx12]; exact hv13)],R⟩
  ·have hge:k=ts.length:=by have:=of_decide_eq_false hb11; omega
   refine ZaM (Zaj (Zaj (ZaV (Zaa (Zac (Zab (xq 1 [(2, .v (.bool true))] [] ?_)))))))
   refine xe (Zaa (Zag ?_))
   refine Zaf (v:=.bool true) (by kernel_rfl) (fun w' R Q=>?_)
   exact ⟨by rw [ZrP (by assumption) (hge ▸ hv)],R⟩
 ·refine xqc 60 [.agg #[.int .i64 r, .int .i64 c, .slice A ts.length cap]] 6 (fun _:Unit=>.bool false) _ (fun w R Q=>(Zhu r c A ts.length cap _).mono (fun _ _ h=>Zam h (by rw [decide_eq_false hs10]))) (fun xx=>?_)
  refine xq 1 [(7, .v (.bool true))] [] ?_
  refine xe (Zaa (xa (Zac (Zab (xq 1 [(2, .v (.bool false))] [] ?_)))))
  refine xe (Zaa (Zag (Zai ?_)))
  refine Zaf (v:=.bool false) (by kernel_rfl) (fun w' R Q=>?_)
  exact ⟨by rw [Zqn (by assumption)],R⟩
theorem ZgI (m:Nat) (r c:Nat) (A:Option Addr) (cap:Nat) (fs:List (ByteArray × Int)) (w:World) (hO:OwnD w m 76 2 A cap fs.length (fs.flatMap flC)) (hr:1≤r∧r≤32) (hc:1≤c∧c≤32) (hn:fs.length=r * c) (hv:∀ x ∈ fs,fvB (bytes x.1) x.2=true) (hs:∀ x ∈ fs,(bytes x.1).length≤1000) :
 Calls Tryz.prog 18 #[.agg #[.int .i64 ((r:Nat):Int), .int .i64 ((c:Nat):Int), .slice A fs.length cap]] w (RetV w (.bool true)):=by
 have hrc:r * c≤32 * 32:=Nat.mul_le_mul hr.2 hc.2
 refine Zas (Φ:=fun w=>True) Tryz.func18 rfl (by kernel_rfl) (fun w' hf=>trivial) ?_
 refine Zac (Zab (xq 2 [(1, .p 1 0),(2, .v (.bool false))] [(1,29,[.v (.int .i64 ((r:Nat):Int)), .v (.int .i64 ((c:Nat):Int)), .v (.slice A fs.length cap)])] ?_))
 refine xe (Zaa (Zac (Zac (Zab (xq 3 [(7, .v (.bool (decide (((r:Nat):Int) < 1))))] [] ?_)))))
 rw [(show decide (((r:Nat):Int) < 1)=false from decide_eq_false (by omega))]
 refine xq 4 [(8, .v (.bool false)),(11, .v (.bool (decide (((r:Nat):Int) > 32))))] [] ?_
 rw [(show decide (((r:Nat):Int) > 32)=false from decide_eq_false (by omega))]
 refine xq 5 [(13, .v (.bool false)),(16, .v (.bool (decide (((c:Nat):Int) < 1))))] [] ?_
 rw [(show decide (((c:Nat):Int) < 1)=false from decide_eq_false (by omega))]
 refine xq 5 [(18, .v (.bool false)),(21, .v (.bool (decide (((c:Nat):Int) > 32))))] [] ?_
 rw [(show decide (((c:Nat):Int) > 32)=false from decide_eq_false (by omega))]
 refine xq 10 [(23, .v (.bool false)),(26, .v (.int .i64 ((fs.length:Nat):Int))),(31, .v (.int .i64 (IntKind.i64.wrap (((r:Nat):Int) * ((c:Nat):Int)))))] [] ?_
 rw [(show IntKind.i64.wrap (((r:Nat):Int) * ((c:Nat):Int))=((r * c:Nat):Int) from ZhM (by omega) (by omega))]
 refine xq 1 [(32, .v (.bool ((((fs.length:Nat):Int):Int) != ((r * c:Nat):Int))))] [] ?_
 rw [(show ((((fs.length:Nat):Int):Int) != ((r * c:Nat):Int))=false from ZlE (by rw [hn]))]
 refine xq 1 [(33, .v (.bool false))] [] ?_
 refine xe (Zaa (xb (Zal (Zaa (Zac (Zac (Zab (xq 4 [eS1 35 A fs.length cap,(36, .v (.int .i64 ((fs.length:Nat):Int))),(37, .v (.int .i64 0))] [] ?_))))))))
 refine xe (Zaa (Zar ?_))
 refine SXc.weak [(2, .v (.bool false)),(35, .v (.slice A fs.length cap)),(36, .v (.int .i64 ((fs.length:Nat):Int))),(37, .v (.int .i64 ((0:Nat):Int)))] [] (Ψ:=fun w=>True) (Zax.of (by kernel_rfl)) (by kernel_rfl) (fun w Q=>trivial) ?_
 refine ZaR (fun nn ss ff=>∃ (k:Nat),ss=ofL [(2, .v (.bool false)),(35, .v (.slice A fs.length cap)),(36, .v (.int .i64 ((fs.length:Nat):Int))),(37, .v (.int .i64 ((k:Nat):Int)))] []∧ff=(fun w=>True)∧(k≤fs.length)∧nn=(1 + (fs.length - k))) ((1 + (fs.length - 0))) ⟨0,rfl,rfl,(Nat.zero_le _),rfl⟩ ?_
 rintro nn ss ff ⟨k,rfl,rfl,hk,rfl⟩
 refine Zac (Zab (xq 1 [(38, .v (.bool (decide (((k:Nat):Int) < ((fs.length:Nat):Int)))))] [] ?_))
 refine xe (Zaa (Zac ?_))
 refine Zap ((decide (((k:Nat):Int) < ((fs.length:Nat):Int)))) (by kernel_rfl) (fun hb10=>?_) (fun hb10=>?_)
 ·have hlt:k < fs.length:=by have:=of_decide_eq_true hb10; omega
  refine Zal (Zaa (Zac (Zar (Zac (Zab ?_)))))
  refine xqk 39 (atA A (k * 2)) (fun w R Q=>Zb1 (t:=27) (e:=76) (sz:=2) (x:=(Operand.tmp 35)) (ix:=(Operand.tmp 37)) (len:=fs.length) (cap:=cap) (i:=k) ((OwnD.ext hO R).ne hlt) hlt) ?_
  obtain ⟨x11,hx11⟩:∃ x,fs[k]! = x:=⟨_,rfl⟩
  refine xqk 40 (.agg #[.string x11.1, .int .i64 x11.2]) (fun w R Q=>by rw [← hx11]; exact ZdO (t:=76) (x:=(Operand.tmp 39)) (j:=k) (OwnD.ext hO R) Zef hlt) ?_
  refine xq 2 [(4, .p 4 0)] [(4,76,[.v (.string x11.1), .v (.int .i64 x11.2)])] ?_
  refine xe (Zaa (Zac (Zab (xq 1 [(41, .v (.agg #[.string x11.1, .int .i64 x11.2]))] [] ?_))))
  refine xqc 44 [.agg #[.string x11.1, .int .i64 x11.2]] 42 (fun _:Unit=>.bool true) _ (fun w R Q=>(ZgB x11.1 x11.2 _ (by rw [← hx11]; exact Nat.le_trans (hs _ (Zbc hlt)) (by decide))).mono (fun _ _ h=>Zam h (by rw [show fvB (bytes x11.1) x11.2=true from by rw [← hx11]; exact hv _ (Zbc hlt)]))) (fun xx=>?_)
  refine xq 1 [(43, .v (.bool false))] [] ?_
  refine xe (Zaa (xb (Zal (ZaO (Zaa (Zab (xq 1 [(44, .v (.int .i64 (IntKind.i64.wrap (((k:Nat):Int) + 1))))] [] ?_)))))))
  rw [show IntKind.i64.wrap ((((k:Nat):Int) + 1))=((k + 1:Nat):Int) from by rw [IntKind.wrap_i64]; omega]
  refine xq 1 [(37, .v (.int .i64 ((k + 1:Nat):Int)))] [] ?_
  refine xe ?_
  refine SXq.weak [(2, .v (.bool false)),(35, .v (.slice A fs.length cap)),(36, .v (.int .i64 ((fs.length:Nat):Int))),(37, .v (.int .i64 (((k + 1):Nat):Int)))] [] (Ψ:=fun w=>True) (Zax.of (by kernel_rfl)) (by kernel_rfl) (fun w Q=>trivial) ?_
  exact ZaF ((1 + (fs.length - (k + 1)))) (by omega) ⟨(k + 1),rfl,rfl,hlt,rfl⟩
 ·have hge:k=fs.length:=by have:=of_decide_eq_false hb10; omega
  refine ZaM (Zaj (Zaj (ZaV (Zaa (Zac (Zab (xq 1 [(2, .v (.bool true))] [] ?_)))))))
  refine xe (Zaa (Zag ?_))
  refine Zaf (v:=.bool true) (by kernel_rfl) (fun w' R Q=>?_)
  exact ⟨rfl,R⟩
theorem Zkd (r c:Nat) (A:Option Addr) (cap:Nat) (ts:List ByteArray) (b:Int) (w:World) (hg:Glob w) (hS:SRd w A ts) (hs:∀ s ∈ ts,(bytes s).length≤570) (hv:mtB r c ts=true) (hb1:8≤b) (hb2:b≤1024) (hr:r≤32) (hc:c≤32) (hn:ts.length≤1024) (he:∀ s ∈ ts,(ZbN (bytes s) b).err=0) :
 Calls Tryz.prog 10 #[.agg #[.int .i64 ((r:Nat):Int), .int .i64 ((c:Nat):Int), .slice A ts.length cap], .int .i64 b] w (ZqU r c (ts.map (rdF b)) w):=by
 obtain ⟨m0,hm0⟩:∃ m,m=w.heap.size:=⟨_,rfl⟩
 refine Zas (Φ:=fun w=>True) Tryz.func10 rfl (by kernel_rfl) (fun w' hf=>trivial) ?_
 refine Zac (Zab (xq 3 [(2, .p 2 0),(4, .p 4 0),(5, .v (.int .i64 0))] [(4,29,[.v (.int .i64 0), .v (.int .i64 0), .v (.slice none 0 0)]),(2,24,[.v (.int .i64 ((r:Nat):Int)), .v (.int .i64 ((c:Nat):Int)), .v (.slice A ts.length cap)])] ?_))
 refine xe (Zaa (Zac (Zac (Zab (xq 1 [(11, .v (.agg #[.int .i64 ((r:Nat):Int), .int .i64 ((c:Nat):Int), .slice A ts.length cap]))] [] ?_)))))
 refine xqc 37 [.agg #[.int .i64 ((r:Nat):Int), .int .i64 ((c:Nat):Int), .slice A ts.length cap]] 12 (fun _:Unit=>.bool true) _ (fun w R Q=>(Zhv ((r:Nat):Int) ((c:Nat):Int) A cap ts _ (hg.ext R) (hS.ext R) hs).mono (fun _ _ h=>Zam h (by rw [hv]))) (fun xx=>?_)
 refine xq 1 [(13, .v (.bool false))] [] ?_
 refine xe (Zaa (xb (Zal (Zaa (Zac (Zac (Zab (xq 2 [(16, .v (.bool (decide (b < 8))))] [] ?_))))))))
 rw [(show decide (b < 8)=false from decide_eq_false (by omega))]
 refine xq 3 [(17, .v (.bool false)),(19, .v (.bool (decide (b > 1024))))] [] ?_
 rw [(show decide (b > 1024)=false from decide_eq_false (by omega))]
 refine xq 1 [(20, .v (.bool false))] [] ?_
 refine xe (Zaa (xb (Zal (Zaa (Zac (Zac (Zab (xq 3 [(24, .v (.bool (decide (((r:Nat):Int) > 32))))] [] ?_))))))))
 rw [(show decide (((r:Nat):Int) > 32)=false from decide_eq_false (by omega))]
 refine xq 4 [(25, .v (.bool false)),(28, .v (.bool (decide (((c:Nat):Int) > 32))))] [] ?_
 rw [(show decide (((c:Nat):Int) > 32)=false from decide_eq_false (by omega))]
 refine xq 1 [(29, .v (.bool false))] [] ?_
 refine xe (Zaa (xb (Zal (Zaa (Zac ?_)))))
 refine ZaK 10 (by kernel_rfl) (by kernel_rfl) Zao ?_
 refine xqg 7 [(32, .v (.int .i64 ((r:Nat):Int))),(34, .v (.int .i64 ((c:Nat):Int))),(37, .v (.int .i64 ((ts.length:Nat):Int)))] ?_
 refine ZhI 38 (fun bb:{b:Nat // m0≤b}=>.slice (some ⟨bb.1,0,none⟩) ts.length ts.length) (fun bb w=>OwnD w m0 76 2 (some ⟨bb.1,0,none⟩) ts.length ts.length ((List.replicate ts.length fl0).flatMap flC)) (by kernel_rfl) (by kernel_rfl) (by kernel_rfl) (by kernel_rfl) (by kernel_rfl) (by kernel_rfl) (by kernel_rfl) (fun w R Q=>ZcA (t:=27) (e:=76) (kl:=.i64) (kc:=.i64) (l:=(Operand.tmp 37)) (c:=(Operand.tmp 37)) (bytes:=24) (z:=.agg #[.string ⟨#[]⟩, .int .i64 0]) fl0 Zef (by decide) rfl Zi6 (hm0 ▸ R.size) (by simp only [maxLen]; omega) (by omega)) (fun bb=>?_)
 obtain ⟨b10,hb10⟩:=bb
 refine xf 2 [(1, .v (.int .i64 b)),(2, .p 2 0),(4, .p 4 0),(5, .v (.int .i64 0)),(6, .p 6 0),(39, .v (.agg #[.int .i64 ((r:Nat):Int), .int .i64 ((c:Nat):Int), .slice (some ⟨b10,0,none⟩) ts.length ts.length]))] [(6,29,[.v (.int .i64 0), .v (.int .i64 0), .v (.slice none 0 0)]),(4,29,[.v (.int .i64 0), .v (.int .i64 0), .v (.slice none 0 0)]),(2,24,[.v (.int .i64 ((r:Nat):Int)), .v (.int .i64 ((c:Nat):Int)), .v (.slice A ts.length cap)])] ?_
 refine xz (xq 1 [] [(6,29,[.v (.int .i64 ((r:Nat):Int)), .v (.int .i64 ((c:Nat):Int)), .v (.slice (some ⟨b10,0,none⟩) ts.length ts.length)])] ?_)
 refine xe (Zaa (Zac (Zac (Zab (xq 4 [eS1 41 A ts.length cap,(42, .v (.int .i64 ((ts.length:Nat):Int))),(43, .v (.int .i64 0))] [] ?_)))))
 refine xe (Zaa (Zar ?_))
 refine SXc.weak [(1, .v (.int .i64 b)),(4, .p 4 0),(5, .v (.int .i64 0)),(6, .p 6 0),(41, .v (.slice A ts.length cap)),(42, .v (.int .i64 ((ts.length:Nat):Int))),(43, .v (.int .i64 ((0:Nat):Int)))] [(6,29,[.v (.int .i64 ((r:Nat):Int)), .v (.int .i64 ((c:Nat):Int)), .v (.slice (some ⟨b10,0,none⟩) ts.length ts.length)]),(4,29,[.v (.int .i64 0), .v (.int .i64 0), .v (.slice none 0 0)])] (Ψ:=fun w=>OwnD w m0 76 2 (some ⟨b10,0,none⟩) ts.length ts.length ((ZbM (rdF b) fl0 ts 0).flatMap flC)) (Zax.of (by kernel_rfl)) (by kernel_rfl) (fun w Q=>(by rw [ZeL]; exact Q.2)) ?_
 refine ZaR (fun nn ss ff=>∃ (k:Nat),ss=ofL [(1, .v (.int .i64 b)),(4, .p 4 0),(5, .v (.int .i64 0)),(6, .p 6 0),(41, .v (.slice A ts.length cap)),(42, .v (.int .i64 ((ts.length:Nat):Int))),(43, .v (.int .i64 ((k:Nat):Int)))] [(6,29,[.v (.int .i64 ((r:Nat):Int)), .v (.int .i64 ((c:Nat):Int)), .v (.slice (some ⟨b10,0,none⟩) ts.length ts.length)]),(4,29,[.v (.int .i64 0), .v (.int .i64 0), .v (.slice none 0 0)])]∧ff=(fun w=>OwnD w m0 76 2 (some ⟨b10,0,none⟩) ts.length ts.length ((ZbM (rdF b) fl0 ts k).flatMap flC))∧(k≤ts.length)∧nn=(1 + (ts.length - k))) ((1 + (ts.length - 0))) ⟨0,rfl,rfl,(Nat.zero_le _),rfl⟩ ?_
 rintro nn ss ff ⟨k,rfl,rfl,hk,rfl⟩
 refine Zac (Zab (xq 1 [(44, .v (.bool (decide (((k:Nat):Int) < ((ts.length:Nat):Int)))))] [] ?_))
 refine xe (Zaa (Zac ?_))
 refine Zap ((decide (((k:Nat):Int) < ((ts.length:Nat):Int)))) (by kernel_rfl) (fun hb11=>?_) (fun hb11=>?_)
 ·have hlt:k < ts.length:=by have:=of_decide_eq_true hb11; omega
  refine Zal (Zaa (Zac (Zar (Zac (Zab (xq 1 [(45, .v (.int .i64 ((k:Nat):Int)))] [] ?_))))))
  refine xqk 46 (atA A (k * 1)) (fun w R Q=>Zb1 (t:=22) (e:=9) (sz:=1) (x:=(Operand.tmp 41)) (ix:=(Operand.tmp 43)) (len:=ts.length) (cap:=cap) (i:=k) ((hS.ext R).ne hlt) hlt) ?_
  obtain ⟨x12,hx12⟩:∃ x,ts[k]! = x:=⟨_,rfl⟩
  refine xqk 47 (.string x12) (fun w R Q=>by rw [← hx12]; exact Zlo (t:=9) (x:=(Operand.tmp 46)) (j:=k) (hS.ext R) hlt) ?_
  refine xq 2 [(7, .v (.int .i64 ((k:Nat):Int))),(8, .v (.string x12))] [] ?_
  refine xe (Zaa (Zac (Zab (xq 2 [(49, .v (.string x12)),(50, .v (.int .i64 b))] [] ?_))))
  obtain ⟨r13,hr13⟩:∃ r,ZbN (bytes x12) b=r:=⟨_,rfl⟩
  have he13:r13.err=0:=by rw [← hr13,← hx12]; exact he _ (Zbc hlt)
  refine xqc 38 [.string x12, .int .i64 b] 51 (fun _:Unit=>.tuple #[.agg #[.string ⟨(frT r13).toArray⟩, .int .i64 (frE r13)], .int .i64 0]) _ (fun w R Q=>(ZnS x12 b _ (hg.ext R) (by rw [← hx12]; exact hs _ (Zbc hlt))).mono (fun _ _ h=>Zam h (by rw [hr13,he13]))) (fun xx=>?_)
  refine xq 6 [(9, .p 9 0),(10, .v (.int .i64 0))] [(9,76,[.v (.string ⟨(frT r13).toArray⟩), .v (.int .i64 (frE r13))])] ?_
  refine xe (Zaa (Zac (Zac (Zab (xq 2 [(55, .v (.bool false))] [] ?_)))))
  refine xe (Zaa (xb (Zal (Zaa (Zab (xq 4 [eS1 59 (some ⟨b10,0,none⟩) ts.length ts.length,(60, .v (.int .i64 ((k:Nat):Int))),(61, .v (.agg #[.string ⟨(frT r13).toArray⟩, .int .i64 (frE r13)]))] [] ?_))))))
  refine xqk 62 (.pointer (some ⟨b10,0 + k * 2,none⟩)) (fun w R Q=>Zb8 (t:=27) (e:=76) (sz:=2) (x:=(Operand.tmp 59)) (ix:=(Operand.tmp 60)) (len:=ts.length) (cap:=ts.length) (i:=k) hlt) ?_
  refine ZdP (t:=76) (x:=(Operand.tmp 62)) (y:=(Operand.tmp 61)) (j:=k) (new:=flC ((⟨(frT r13).toArray⟩,frE r13))) m0 b10 (.agg #[.string ⟨(frT r13).toArray⟩, .int .i64 (frE r13)]) (fun w=>True) (fun w Q=>Q.1) hlt rfl (by decide) (fun h=>Or.inl (Nat.le_trans (hm0 ▸ Nat.le_refl _) h)) (by simp [flC,Value.oneCell']) (Zi6 _) rfl (fun w w' Q hF=>trivial) ?_
  rw [← Zc0 Zef ((ZbM (rdF b) fl0 ts k)) k ((⟨(frT r13).toArray⟩,frE r13)) (by rw [Zfv]; exact hlt),Zfx hlt (by rw [hx12,rdF,hr13])]
  refine xr 0 [(1, .v (.int .i64 b)),(4, .p 4 0),(5, .v (.int .i64 0)),(6, .p 6 0),eS1 41 A ts.length cap,(42, .v (.int .i64 ((ts.length:Nat):Int))),(43, .v (.int .i64 ((k:Nat):Int)))] [(6,29,[.v (.int .i64 ((r:Nat):Int)), .v (.int .i64 ((c:Nat):Int)), .v (.slice (some ⟨b10,0,none⟩) ts.length ts.length)]),(4,29,[.v (.int .i64 0), .v (.int .i64 0), .v (.slice none 0 0)])] ?_
  refine xe (ZaO (Zaa (Zab (xq 1 [(63, .v (.int .i64 (IntKind.i64.wrap (((k:Nat):Int) + 1))))] [] ?_))))
  rw [show IntKind.i64.wrap ((((k:Nat):Int) + 1))=((k + 1:Nat):Int) from by rw [IntKind.wrap_i64]; omega]
  refine xq 1 [(43, .v (.int .i64 ((k + 1:Nat):Int)))] [] ?_
  refine xe ?_
  refine SXq.weak [(1, .v (.int .i64 b)),(4, .p 4 0),(5, .v (.int .i64 0)),(6, .p 6 0),(41, .v (.slice A ts.length cap)),(42, .v (.int .i64 ((ts.length:Nat):Int))),(43, .v (.int .i64 (((k + 1):Nat):Int)))] [(6,29,[.v (.int .i64 ((r:Nat):Int)), .v (.int .i64 ((c:Nat):Int)), .v (.slice (some ⟨b10,0,none⟩) ts.length ts.length)]),(4,29,[.v (.int .i64 0), .v (.int .i64 0), .v (.slice none 0 0)])] (Ψ:=fun w=>OwnD w m0 76 2 (some ⟨b10,0,none⟩) ts.length ts.length ((ZbM (rdF b) fl0 ts (k + 1)).flatMap flC)) (Zax.of (by kernel_rfl)) (by kernel_rfl) (fun w Q=>Q.2) ?_
  exact ZaF ((1 + (ts.length - (k + 1)))) (by omega) ⟨(k + 1),rfl,rfl,hlt,rfl⟩
 ·have hge:k=ts.length:=by have:=of_decide_eq_false hb11; omega
  refine ZaM (Zaj (Zaj (ZaV (Zaa (Zac (Zab (xq 3 [(5, .v (.int .i64 0))] [(4,29,[.v (.int .i64 ((r:Nat):Int)), .v (.int .i64 ((c:Nat):Int)), .v (.slice (some ⟨b10,0,none⟩) ts.length ts.length)])] ?_)))))))
  refine xe (Zaa (Zag ?_))
  refine Zaf (v:=.tuple #[.agg #[.int .i64 ((r:Nat):Int), .int .i64 ((c:Nat):Int), .slice (some ⟨b10,0,none⟩) ts.length ts.length], .int .i64 0]) (by kernel_rfl) (fun w' R Q=>?_)
  exact ⟨b10,by rw [List.length_map],by have h:=Q; rw [hge,Zfw] at h; rw [List.length_map]; exact hm0 ▸ h,R⟩
end Go.Proofs.YtenchljfmfgeoaaGreatDoor

namespace Go.Proofs.YtenchljfmfgeoaaGreatDoor
open Go.RowKit
theorem Zke (r c:Nat) (w:World) (hr:r≤64) (hc:c≤64) :
 Calls Tryz.prog 80 #[.int .i64 ((r:Nat):Int), .int .i64 ((c:Nat):Int)] w (fun e w'=>∃ b,e=.returned (.agg #[.int .i64 ((r:Nat):Int), .int .i64 ((c:Nat):Int), .slice (some ⟨b,0,none⟩) (r * c) (r * c)])∧OwnD w' w.heap.size 109 3 (some ⟨b,0,none⟩) (r * c) (r * c) ((List.replicate (r * c) nb0).flatMap nbC)∧Ext w w'):=by
 obtain ⟨m0,hm0⟩:∃ m,m=w.heap.size:=⟨_,rfl⟩
 have hrc:r * c≤64 * 64:=Nat.mul_le_mul hr hc
 refine Zas (Φ:=fun w=>True) Tryz.func80 rfl (by kernel_rfl) (fun w' hf=>trivial) ?_
 refine Zac (Zab (xq 1 [(4, .p 4 0)] [(4,97,[.v (.int .i64 0), .v (.int .i64 0), .v (.slice none 0 0)])] ?_))
 refine xe (Zaa (Zac (Zab (xq 5 [(5, .v (.int .i64 ((r:Nat):Int))),(6, .v (.int .i64 ((c:Nat):Int))),(9, .v (.int .i64 (IntKind.i64.wrap (((r:Nat):Int) * ((c:Nat):Int)))))] [] ?_))))
 rw [(show IntKind.i64.wrap (((r:Nat):Int) * ((c:Nat):Int))=((r * c:Nat):Int) from ZhM (by omega) (by omega))]
 refine Zbx (d:=10) (fun bb:{b:Nat // m0≤b}=>.slice (some ⟨bb.1,0,none⟩) (r * c) (r * c)) (fun bb w=>OwnD w m0 109 3 (some ⟨bb.1,0,none⟩) (r * c) (r * c) ((List.replicate (r * c) nb0).flatMap nbC)) (by kernel_rfl) (by kernel_rfl) (by kernel_rfl) (by kernel_rfl) (by kernel_rfl) (by kernel_rfl) (fun w R Q=>ZcA (t:=95) (e:=109) (kl:=.i64) (kc:=.i64) (l:=(Operand.tmp 9)) (c:=(Operand.tmp 9)) (bytes:=40) (z:=.agg #[.bool false, .slice none 0 0, .int .i64 0]) nb0 ZeS (by decide) rfl Zlm (hm0 ▸ R.size) (by simp only [maxLen]; omega) (by omega)) (fun bb=>?_)
 obtain ⟨b10,hb10⟩:=bb
 refine xr 2 [(4, .p 4 0)] [(4,97,[.v (.int .i64 ((r:Nat):Int)), .v (.int .i64 ((c:Nat):Int)), .v (.slice (some ⟨b10,0,none⟩) (r * c) (r * c))])] ?_
 refine xe (Zaa (Zag ?_))
 refine Zaf (v:=.agg #[.int .i64 ((r:Nat):Int), .int .i64 ((c:Nat):Int), .slice (some ⟨b10,0,none⟩) (r * c) (r * c)]) (by kernel_rfl) (fun w' R Q=>?_)
 exact ⟨b10,rfl,hm0 ▸ Q.2,R⟩
theorem ZhN (m r c:Nat) (A:Option Addr) (cap n:Nat) (xs:List Nb) (i j:Nat) (w:World) (hO:OwnD w m 109 3 A cap n (xs.flatMap nbC)) (hl:xs.length=n) (hi:i≤64) (hc:c≤64) (hk:i * c + j < n) (hn:n≤4096) :
 Calls Tryz.prog 81 #[.agg #[.int .i64 ((r:Nat):Int), .int .i64 ((c:Nat):Int), .slice A n cap], .int .i64 ((i:Nat):Int), .int .i64 ((j:Nat):Int)] w (RetV w (.agg #[.bool xs[i * c + j]!.s, .slice xs[i * c + j]!.A xs[i * c + j]!.l xs[i * c + j]!.c, .int .i64 xs[i * c + j]!.e])):=by
 refine Zas (Φ:=fun w=>True) Tryz.func81 rfl (by kernel_rfl) (fun w' hf=>trivial) ?_
 refine Zac (Zab (xq 2 [(3, .p 3 0),(6, .p 6 0)] [(6,109,[.v (.bool false), .v (.slice none 0 0), .v (.int .i64 0)]),(3,97,[.v (.int .i64 ((r:Nat):Int)), .v (.int .i64 ((c:Nat):Int)), .v (.slice A n cap)])] ?_))
 refine xe (Zaa (Zac (Zab (xq 6 [eS1 8 A n cap,(12, .v (.int .i64 (IntKind.i64.wrap (((i:Nat):Int) * ((c:Nat):Int)))))] [] ?_))))
 rw [(show IntKind.i64.wrap (((i:Nat):Int) * ((c:Nat):Int))=((i * c:Nat):Int) from ZhM (by omega) (by omega))]
 refine xq 2 [(14, .v (.int .i64 (IntKind.i64.wrap (((i * c:Nat):Int) + ((j:Nat):Int)))))] [] ?_
 rw [(show IntKind.i64.wrap (((i * c:Nat):Int) + ((j:Nat):Int))=((i * c + j:Nat):Int) from by rw [IntKind.wrap_i64]; omega)]
 refine xqk 15 (atA A ((i * c + j) * 3)) (fun w R Q=>Zb1 (t:=95) (e:=109) (sz:=3) (x:=(Operand.tmp 8)) (ix:=(Operand.tmp 14)) (len:=n) (cap:=cap) (i:=i * c + j) ((OwnD.ext hO R).ne hk) hk) ?_
 obtain ⟨x10,hx10⟩:∃ x,xs[i * c + j]! = x:=⟨_,rfl⟩
 refine xqk 16 (.agg #[.bool x10.s, .slice x10.A x10.l x10.c, .int .i64 x10.e]) (fun w R Q=>by rw [← hx10]; exact ZdO (t:=109) (x:=(Operand.tmp 15)) (j:=i * c + j) (OwnD.ext hO R) ZeS (hl.symm ▸ hk)) ?_
 refine xq 1 [] [(6,109,[.v (.bool x10.s), .v (.slice x10.A x10.l x10.c), .v (.int .i64 x10.e)])] ?_
 refine xe (Zaa (Zag ?_))
 refine Zaf (v:=.agg #[.bool x10.s, .slice x10.A x10.l x10.c, .int .i64 x10.e]) (by kernel_rfl) (fun w' R Q=>?_)
 exact ⟨by rw [← hx10],R⟩
theorem ZlF (m r c b cap n:Nat) (xs:List Nb) (i j:Nat) (x:Nb) (w:World) (hO:OwnD w m 109 3 (some ⟨b,0,none⟩) cap n (xs.flatMap nbC)) (hl:xs.length=n) (hi:i≤64) (hc:c≤64) (hk:i * c + j < n) (hn:n≤4096) :
 Calls Tryz.prog 83 #[.agg #[.int .i64 ((r:Nat):Int), .int .i64 ((c:Nat):Int), .slice (some ⟨b,0,none⟩) n cap], .int .i64 ((i:Nat):Int), .int .i64 ((j:Nat):Int), .agg #[.bool x.s, .slice x.A x.l x.c, .int .i64 x.e]] w (fun e w'=>e=.returned (.tuple #[])∧Fr (fun i=>i=b) w w'∧OwnD w' m 109 3 (some ⟨b,0,none⟩) cap n ((xs.set (i * c + j) x).flatMap nbC)):=by
 refine Zoz (fun i=>i=b) (Φ:=fun w=>OwnD w m 109 3 (some ⟨b,0,none⟩) cap n (xs.flatMap nbC)) Tryz.func83 rfl (by kernel_rfl) (fun w' hf=>OwnD.ext hO hf) ?_
 refine Zac (Zab (xq 2 [(4, .p 4 0),(7, .p 7 0)] [(7,109,[.v (.bool x.s), .v (.slice x.A x.l x.c), .v (.int .i64 x.e)]),(4,97,[.v (.int .i64 ((r:Nat):Int)), .v (.int .i64 ((c:Nat):Int)), .v (.slice (some ⟨b,0,none⟩) n cap)])] ?_))
 refine xe (Zaa (Zab (xq 6 [eS1 9 (some ⟨b,0,none⟩) n cap,(13, .v (.int .i64 (IntKind.i64.wrap (((i:Nat):Int) * ((c:Nat):Int)))))] [] ?_)))
 rw [(show IntKind.i64.wrap (((i:Nat):Int) * ((c:Nat):Int))=((i * c:Nat):Int) from ZhM (by omega) (by omega))]
 refine xq 2 [(15, .v (.int .i64 (IntKind.i64.wrap (((i * c:Nat):Int) + ((j:Nat):Int)))))] [] ?_
 rw [(show IntKind.i64.wrap (((i * c:Nat):Int) + ((j:Nat):Int))=((i * c + j:Nat):Int) from by rw [IntKind.wrap_i64]; omega)]
 refine xq 1 [(16, .v (.agg #[.bool x.s, .slice x.A x.l x.c, .int .i64 x.e]))] [] ?_
 refine xqk 17 (.pointer (some ⟨b,0 + (i * c + j) * 3,none⟩)) (fun w R Q=>Zb8 (t:=95) (e:=109) (sz:=3) (x:=(Operand.tmp 9)) (ix:=(Operand.tmp 15)) (len:=n) (cap:=cap) (i:=i * c + j) hk) ?_
 refine ZdP (t:=109) (x:=(Operand.tmp 17)) (y:=(Operand.tmp 16)) (j:=i * c + j) (new:=nbC x) m b (.agg #[.bool x.s, .slice x.A x.l x.c, .int .i64 x.e]) (fun w=>True) (fun w Q=>Q) hk rfl (by decide) (fun _=>Or.inr rfl) (by simp [nbC,Value.oneCell']) (Zlm _) rfl (fun w w' Q hF=>trivial) ?_
 rw [← Zc0 ZeS xs (i * c + j) x (hl.symm ▸ hk)]
 refine xr 0 [] [] ?_
 refine xe ?_
 refine Zrf (v:=.tuple #[]) (by kernel_rfl) (fun w' R Q=>?_)
 exact ⟨rfl,R,Q.2⟩
theorem ZgJ (s:Bool) (A:Option Addr) (l c:Nat) (e:Int) (w:World) :
 Calls Tryz.prog 90 #[.agg #[.bool s, .slice A l c, .int .i64 e], .int .i64 0] w (RetV w (.agg #[.bool s, .slice A l c, .int .i64 e])):=by
 refine Zas (Φ:=fun w=>True) Tryz.func90 rfl (by kernel_rfl) (fun w' hf=>trivial) ?_
 refine Zac (Zab (xq 2 [(2, .p 2 0),(4, .p 4 0)] [(4,109,[.v (.bool false), .v (.slice none 0 0), .v (.int .i64 0)]),(2,109,[.v (.bool s), .v (.slice A l c), .v (.int .i64 e)])] ?_))
 refine xe (Zaa (Zac (Zac (Zab (xq 2 [(6, .v (.bool false))] [] ?_)))))
 refine xe (Zaa (xb (Zal (Zaa (Zac (Zab (xq 2 [] [(4,109,[.v (.bool s), .v (.slice A l c), .v (.int .i64 e)])] ?_)))))))
 refine xe (Zaa (Zag ?_))
 refine Zaf (v:=.agg #[.bool s, .slice A l c, .int .i64 e]) (by kernel_rfl) (fun w' R Q=>?_)
 exact ⟨rfl,R⟩
end Go.Proofs.YtenchljfmfgeoaaGreatDoor

namespace Go.Proofs.YtenchljfmfgeoaaGreatDoor
open Go.RowKit
theorem OwnD.boxN {w w':World} {m n c k:Nat} {e:TypeId} {A:Option Addr} {xs:List Value} (h:OwnD w' w.heap.size e k A c n xs) (hm:m≤w.heap.size):BoxN w w' (fun v=>OwnD v m e k A c n xs):=fun S hS w'' hF=>OwnD.mono (h.fr hF (fun i hi hs=>by
 have h1:=(h.blk hi).1
 have h2:=(hS i hs).1
 omega)) hm
theorem Zkf {r c n m0:Nat} {w w':World} {e:Ending} (hm:m0≤w.heap.size) (hn:r * c=n) (h:∃ b,e=.returned (.agg #[.int .i64 ((r:Nat):Int), .int .i64 ((c:Nat):Int), .slice (some ⟨b,0,none⟩) (r * c) (r * c)])∧OwnD w' w.heap.size 109 3 (some ⟨b,0,none⟩) (r * c) (r * c) ((List.replicate (r * c) nb0).flatMap nbC)∧Ext w w') :
 ZbA (fun b:{b:Nat // m0≤b}=>.agg #[.int .i64 ((r:Nat):Int), .int .i64 ((c:Nat):Int), .slice (some ⟨b.1,0,none⟩) n n]) (fun b w=>OwnD w m0 109 3 (some ⟨b.1,0,none⟩) n n ((List.replicate n nb0).flatMap nbC)) w e w':=by
 subst hn
 obtain ⟨b,rfl,h1,Q⟩:=h
 exact ⟨⟨b,Nat.le_trans hm (h1.blk rfl).1⟩,rfl,Q,h1.boxN hm⟩
theorem Zhw {n k:Nat} {α:Type} {z x:α} {l:List α} (hk:l.length=k) (h:k < n):(fill n z l).set k x=fill n z (l ++ [x]):=by subst hk; exact Zln h
theorem ZlH {α β γ:Type} [Inhabited β] {f:α→γ} {g:β→γ} {ys:List α} {fs:List β} {k:Nat} {v:α} (hy:ys.map f=(fs.take k).map g) (hk:k < fs.length) (hv:f v=g fs[k]!):(ys ++ [v]).map f=(fs.take (k + 1)).map g:=by
 rw [List.map_append,hy,List.map_singleton,hv,getElem!_pos fs k hk,List.take_succ_eq_append_getElem hk,List.map_append,List.map_singleton]
theorem ZaG.snoc {w:World} {ys:List Nb} {x:Nb} (h:ZaG w ys) (hx:NbOk w x):ZaG w (ys ++ [x]):=fun y hy=>by
 rcases List.mem_append.1 hy with hy | hy
 ·exact h y hy
 ·rw [List.mem_singleton.1 hy]; exact hx
def ldV (x:ByteArray × Int):Fv3:=((ldR (bytes x.1) x.2).s,(ldR (bytes x.1) x.2).m,(ldR (bytes x.1) x.2).e)
def ftV (x:Nb):ByteArray × Int:=(⟨(Lib.itoa (sg x.s x.m)).toArray⟩,x.e)
def exV (x:ByteArray × Int):ByteArray:=⟨(exT (bytes x.1) x.2).toArray⟩
def Zfy (sh:Value→Value) (r c:Nat) (vs:List Fv3) (w:World) (e:Ending) (w':World):Prop:=∃ b xs,e=.returned (sh (.agg #[.int .i64 ((r:Nat):Int), .int .i64 ((c:Nat):Int), .slice (some ⟨b,0,none⟩) xs.length xs.length]))∧xs.map nbV=vs∧OwnD w' w.heap.size 109 3 (some ⟨b,0,none⟩) xs.length xs.length (xs.flatMap nbC)∧ZaG w' xs∧Ext w w'
def Zfz (sh:Value→Value) (r c:Nat) (fs:List (ByteArray × Int)) (w:World) (e:Ending) (w':World):Prop:=∃ b,e=.returned (sh (.agg #[.int .i64 ((r:Nat):Int), .int .i64 ((c:Nat):Int), .slice (some ⟨b,0,none⟩) fs.length fs.length]))∧OwnD w' w.heap.size 76 2 (some ⟨b,0,none⟩) fs.length fs.length (fs.flatMap flC)∧Ext w w'
theorem Zpi (m:Nat) (r c:Nat) (A:Option Addr) (cap:Nat) (fs:List (ByteArray × Int)) (w:World) (hO:OwnD w m 76 2 A cap fs.length (fs.flatMap flC)) (hr:1≤r∧r≤32) (hc:1≤c∧c≤32) (hn:fs.length=r * c) (hv:∀ x ∈ fs,fvB (bytes x.1) x.2=true) (hs:∀ x ∈ fs,(bytes x.1).length≤1000) :
 Calls Tryz.prog 126 #[.agg #[.int .i64 ((r:Nat):Int), .int .i64 ((c:Nat):Int), .slice A fs.length cap]] w (Zfy (fun v=>.tuple #[v, .bool true]) r c (fs.map ldV) w):=by
 obtain ⟨m0,hm0⟩:∃ m,m=w.heap.size:=⟨_,rfl⟩
 have hrc:r * c≤32 * 32:=Nat.mul_le_mul hr.2 hc.2
 refine Zas (Φ:=fun w=>True) Tryz.func126 rfl (by kernel_rfl) (fun w' hf=>trivial) ?_
 refine Zac (Zab (xq 3 [(1, .p 1 0),(2, .p 2 0),(3, .v (.bool false))] [(2,97,[.v (.int .i64 0), .v (.int .i64 0), .v (.slice none 0 0)]),(1,29,[.v (.int .i64 ((r:Nat):Int)), .v (.int .i64 ((c:Nat):Int)), .v (.slice A fs.length cap)])] ?_))
 refine xe (Zaa (Zac (Zac (Zab (xq 1 [(7, .v (.agg #[.int .i64 ((r:Nat):Int), .int .i64 ((c:Nat):Int), .slice A fs.length cap]))] [] ?_)))))
 refine xqc 18 [.agg #[.int .i64 ((r:Nat):Int), .int .i64 ((c:Nat):Int), .slice A fs.length cap]] 8 (fun _:Unit=>.bool true) _ (fun w R Q=>(ZgI m r c A cap fs _ (OwnD.ext hO R) hr hc hn hv hs).mono (fun _ _ h=>Zam h rfl)) (fun xx=>?_)
 refine xq 1 [(9, .v (.bool false))] [] ?_
 refine xe (Zaa (xb (Zal (Zaa (Zac (Zab (xq 4 [(12, .v (.int .i64 ((r:Nat):Int))),(14, .v (.int .i64 ((c:Nat):Int)))] [] ?_)))))))
 refine xqc 80 [.int .i64 ((r:Nat):Int), .int .i64 ((c:Nat):Int)] 15 (fun b:{b:Nat // m0≤b}=>.agg #[.int .i64 ((r:Nat):Int), .int .i64 ((c:Nat):Int), .slice (some ⟨b.1,0,none⟩) fs.length fs.length]) _ (fun w R Q=>(Zke r c _ (by omega) (by omega)).mono (fun _ _ h=>Zkf (m0:=m0) (hm0 ▸ R.size) hn.symm h)) (fun bb=>?_)
 obtain ⟨b10,hb10⟩:=bb
 refine xq 2 [(4, .p 4 0)] [(4,97,[.v (.int .i64 ((r:Nat):Int)), .v (.int .i64 ((c:Nat):Int)), .v (.slice (some ⟨b10,0,none⟩) fs.length fs.length)])] ?_
 refine xe (Zaa (Zac (Zac (Zab (xq 4 [eS1 17 A fs.length cap,(18, .v (.int .i64 ((fs.length:Nat):Int))),(19, .v (.int .i64 0))] [] ?_)))))
 refine xe (Zaa (Zar ?_))
 refine SXc.weak [(2, .p 2 0),(3, .v (.bool false)),(4, .p 4 0),(17, .v (.slice A fs.length cap)),(18, .v (.int .i64 ((fs.length:Nat):Int))),(19, .v (.int .i64 ((0:Nat):Int)))] [(4,97,[.v (.int .i64 ((r:Nat):Int)), .v (.int .i64 ((c:Nat):Int)), .v (.slice (some ⟨b10,0,none⟩) fs.length fs.length)]),(2,97,[.v (.int .i64 0), .v (.int .i64 0), .v (.slice none 0 0)])] (Ψ:=fun w=>(ZaG w ([]:List Nb)∧OwnD w m0 109 3 (some ⟨b10,0,none⟩) fs.length fs.length ((fill fs.length nb0 ([]:List Nb)).flatMap nbC))) (Zax.of (by kernel_rfl)) (by kernel_rfl) (fun w Q=>⟨(fun _ h=>nomatch h),(by rw [Zgw]; exact Q.2)⟩) ?_
 refine ZaR (fun nn ss ff=>∃ (k:Nat) (ys:List Nb),ss=ofL [(2, .p 2 0),(3, .v (.bool false)),(4, .p 4 0),(17, .v (.slice A fs.length cap)),(18, .v (.int .i64 ((fs.length:Nat):Int))),(19, .v (.int .i64 ((k:Nat):Int)))] [(4,97,[.v (.int .i64 ((r:Nat):Int)), .v (.int .i64 ((c:Nat):Int)), .v (.slice (some ⟨b10,0,none⟩) fs.length fs.length)]),(2,97,[.v (.int .i64 0), .v (.int .i64 0), .v (.slice none 0 0)])]∧ff=(fun w=>(ZaG w ys∧OwnD w m0 109 3 (some ⟨b10,0,none⟩) fs.length fs.length ((fill fs.length nb0 ys).flatMap nbC)))∧(k≤fs.length)∧(ys.map nbV=(fs.take k).map ldV)∧nn=(1 + (fs.length - k))) ((1 + (fs.length - 0))) ⟨0,([]:List Nb),rfl,rfl,(Nat.zero_le _),rfl,rfl⟩ ?_
 rintro nn ss ff ⟨k,ys,rfl,rfl,hk,hy,rfl⟩
 refine Zac (Zab (xq 1 [(20, .v (.bool (decide (((k:Nat):Int) < ((fs.length:Nat):Int)))))] [] ?_))
 refine xe (Zaa (Zac ?_))
 refine Zap ((decide (((k:Nat):Int) < ((fs.length:Nat):Int)))) (by kernel_rfl) (fun hb11=>?_) (fun hb11=>?_)
 ·have hlt:k < fs.length:=by have:=of_decide_eq_true hb11; omega
  have hyk:ys.length=k:=by have:=congrArg List.length hy; rw [List.length_map,List.length_map,List.length_take] at this; omega
  refine Zal (Zaa (Zac (Zar (Zac (Zab (xq 1 [(21, .v (.int .i64 ((k:Nat):Int)))] [] ?_))))))
  refine xqk 22 (atA A (k * 2)) (fun w R Q=>Zb1 (t:=27) (e:=76) (sz:=2) (x:=(Operand.tmp 17)) (ix:=(Operand.tmp 19)) (len:=fs.length) (cap:=cap) (i:=k) ((OwnD.ext hO R).ne hlt) hlt) ?_
  obtain ⟨x12,hx12⟩:∃ x,fs[k]! = x:=⟨_,rfl⟩
  refine xqk 23 (.agg #[.string x12.1, .int .i64 x12.2]) (fun w R Q=>by rw [← hx12]; exact ZdO (t:=76) (x:=(Operand.tmp 22)) (j:=k) (OwnD.ext hO R) Zef hlt) ?_
  refine xq 3 [(5, .v (.int .i64 ((k:Nat):Int))),(6, .p 6 0)] [(6,76,[.v (.string x12.1), .v (.int .i64 x12.2)])] ?_
  refine xe (Zaa ?_)
  refine Zqp 9 7 31 (fun _ _ _ _ h=>h) ?_
  refine xqg 4 [eS1 26 (some ⟨b10,0,none⟩) fs.length fs.length,(27, .v (.int .i64 ((k:Nat):Int))),(28, .v (.agg #[.string x12.1, .int .i64 x12.2]))] ?_
  obtain ⟨r13,hr13⟩:∃ r,ldR (bytes x12.1) x12.2=r:=⟨_,rfl⟩
  refine xqd 100 [.agg #[.string x12.1, .int .i64 x12.2]] 29 (shLd true r13) _ (fun w R Q=>((show Calls _ _ _ _ (Zi9 w true r13) from by rw [← hr13,← show fvB (bytes x12.1) x12.2=true from by rw [← hx12]; exact hv _ (Zbc hlt)]; exact Zhs x12.1 x12.2 _ (by rw [← hx12]; exact Nat.le_trans (hs _ (Zbc hlt)) (by decide)))).mono (fun _ _=>Zjy)) (fun xx=>?_)
  obtain ⟨A13,l13,c13⟩:=xx
  refine xqg 3 [(30, .v (.agg #[.bool r13.s, .slice A13 l13 c13, .int .i64 r13.e]))] ?_
  refine xqj 32 (.pointer (some ⟨b10,0 + k * 3,none⟩)) (fun w Q=>Zb8 (t:=95) (e:=109) (sz:=3) (x:=(Operand.tmp 26)) (ix:=(Operand.tmp 27)) (len:=fs.length) (cap:=fs.length) (i:=k) hlt) ?_
  refine xz ?_
  refine ZdP (t:=109) (x:=(Operand.tmp 32)) (y:=(Operand.tmp 30)) (j:=k) (new:=nbC ((⟨r13.s,A13,l13,c13,r13.m,r13.e⟩:Nb))) m0 b10 (.agg #[.bool r13.s, .slice A13 l13 c13, .int .i64 r13.e]) (fun w=>(ZaG w ys∧Zad w (.slice A13 l13 c13) r13.m)) (fun w Q=>Q.1.2) hlt rfl (by decide) (fun h=>Or.inl (Nat.le_trans (hm0 ▸ Nat.le_refl _) h)) (by simp [nbC,Value.oneCell']) (Zlm _) rfl (fun w w' Q hF=>⟨ZaG.row Q.1.1 Q.1.2 hF,Zad.rowD Q.2 Q.1.2 hF⟩) ?_
  rw [← Zc0 ZeS ((fill fs.length nb0 ys)) k ((⟨r13.s,A13,l13,c13,r13.m,r13.e⟩:Nb)) (by rw [Zgu (by omega)]; exact hlt),Zhw hyk hlt]
  refine xr 0 [(2, .p 2 0),(3, .v (.bool false)),(4, .p 4 0),eS1 17 A fs.length cap,(18, .v (.int .i64 ((fs.length:Nat):Int))),(19, .v (.int .i64 ((k:Nat):Int)))] [(4,97,[.v (.int .i64 ((r:Nat):Int)), .v (.int .i64 ((c:Nat):Int)), .v (.slice (some ⟨b10,0,none⟩) fs.length fs.length)]),(2,97,[.v (.int .i64 0), .v (.int .i64 0), .v (.slice none 0 0)])] ?_
  refine xe (ZaO (Zaa (Zab (xq 1 [(33, .v (.int .i64 (IntKind.i64.wrap (((k:Nat):Int) + 1))))] [] ?_))))
  rw [show IntKind.i64.wrap ((((k:Nat):Int) + 1))=((k + 1:Nat):Int) from by rw [IntKind.wrap_i64]; omega]
  refine xq 1 [(19, .v (.int .i64 ((k + 1:Nat):Int)))] [] ?_
  refine xe ?_
  refine SXq.weak [(2, .p 2 0),(3, .v (.bool false)),(4, .p 4 0),(17, .v (.slice A fs.length cap)),(18, .v (.int .i64 ((fs.length:Nat):Int))),(19, .v (.int .i64 (((k + 1):Nat):Int)))] [(4,97,[.v (.int .i64 ((r:Nat):Int)), .v (.int .i64 ((c:Nat):Int)), .v (.slice (some ⟨b10,0,none⟩) fs.length fs.length)]),(2,97,[.v (.int .i64 0), .v (.int .i64 0), .v (.slice none 0 0)])] (Ψ:=fun w=>(ZaG w (ys ++ [(⟨r13.s,A13,l13,c13,r13.m,r13.e⟩:Nb)])∧OwnD w m0 109 3 (some ⟨b10,0,none⟩) fs.length fs.length ((fill fs.length nb0 (ys ++ [(⟨r13.s,A13,l13,c13,r13.m,r13.e⟩:Nb)])).flatMap nbC))) (Zax.of (by kernel_rfl)) (by kernel_rfl) (fun w Q=>⟨(ZaG.snoc Q.1.1 Q.1.2),Q.2⟩) ?_
  exact ZaF ((1 + (fs.length - (k + 1)))) (by omega) ⟨(k + 1),(ys ++ [(⟨r13.s,A13,l13,c13,r13.m,r13.e⟩:Nb)]),rfl,rfl,hlt,(ZlH hy hlt (by rw [hx12,ldV,hr13]; rfl)),rfl⟩
 ·have hge:k=fs.length:=by have:=of_decide_eq_false hb11; omega
  have hyk:ys.length=k:=by have:=congrArg List.length hy; rw [List.length_map,List.length_map,List.length_take] at this; omega
  refine ZaM (Zaj (Zaj (ZaV (Zaa (Zac (Zab (xq 3 [(3, .v (.bool true))] [(2,97,[.v (.int .i64 ((r:Nat):Int)), .v (.int .i64 ((c:Nat):Int)), .v (.slice (some ⟨b10,0,none⟩) fs.length fs.length)])] ?_)))))))
  refine xe (Zaa (Zag ?_))
  refine Zaf (v:=.tuple #[.agg #[.int .i64 ((r:Nat):Int), .int .i64 ((c:Nat):Int), .slice (some ⟨b10,0,none⟩) fs.length fs.length], .bool true]) (by kernel_rfl) (fun w' R Q=>?_)
  exact ⟨b10,ys,by have h:=hyk; rw [hge] at h; rw [h],by rw [hy,hge,List.take_length],by have h:=Q.2; have h2:=hyk; rw [hge] at h2; rw [← h2,Zgv] at h; rw [h2] at h ⊢; exact hm0 ▸ h,Q.1,R⟩
theorem Zmj (m r c:Nat) (A:Option Addr) (cap n:Nat) (xs:List Nb) (w:World) (hO:OwnD w m 109 3 A cap n (xs.flatMap nbC)) (hN:ZaG w xs) (hl:xs.length=n) (hg:Glob w) (hn:n≤4096) (hx:∀ x ∈ xs,wl x.m≤1000000∧(x.s=true→0 < x.m)) :
 Calls Tryz.prog 127 #[.agg #[.int .i64 ((r:Nat):Int), .int .i64 ((c:Nat):Int), .slice A n cap]] w (Zfz (fun v=>v) r c (xs.map ftV) w):=by
 obtain ⟨m0,hm0⟩:∃ m,m=w.heap.size:=⟨_,rfl⟩
 refine Zas (Φ:=fun w=>True) Tryz.func127 rfl (by kernel_rfl) (fun w' hf=>trivial) ?_
 refine Zac (Zab (xq 2 [(1, .p 1 0),(2, .p 2 0)] [(2,29,[.v (.int .i64 0), .v (.int .i64 0), .v (.slice none 0 0)]),(1,97,[.v (.int .i64 ((r:Nat):Int)), .v (.int .i64 ((c:Nat):Int)), .v (.slice A n cap)])] ?_))
 refine xe (Zaa (Zac ?_))
 refine ZaK 10 (by kernel_rfl) (by kernel_rfl) Zao ?_
 refine xqg 7 [(7, .v (.int .i64 ((r:Nat):Int))),(9, .v (.int .i64 ((c:Nat):Int))),(12, .v (.int .i64 ((n:Nat):Int)))] ?_
 refine ZhI 13 (fun bb:{b:Nat // m0≤b}=>.slice (some ⟨bb.1,0,none⟩) n n) (fun bb w=>OwnD w m0 76 2 (some ⟨bb.1,0,none⟩) n n ((List.replicate n fl0).flatMap flC)) (by kernel_rfl) (by kernel_rfl) (by kernel_rfl) (by kernel_rfl) (by kernel_rfl) (by kernel_rfl) (by kernel_rfl) (fun w R Q=>ZcA (t:=27) (e:=76) (kl:=.i64) (kc:=.i64) (l:=(Operand.tmp 12)) (c:=(Operand.tmp 12)) (bytes:=24) (z:=.agg #[.string ⟨#[]⟩, .int .i64 0]) fl0 Zef (by decide) rfl Zi6 (hm0 ▸ R.size) (by simp only [maxLen]; omega) (by omega)) (fun bb=>?_)
 obtain ⟨b10,hb10⟩:=bb
 refine xf 2 [(1, .p 1 0),(2, .p 2 0),(3, .p 3 0),(14, .v (.agg #[.int .i64 ((r:Nat):Int), .int .i64 ((c:Nat):Int), .slice (some ⟨b10,0,none⟩) n n]))] [(3,29,[.v (.int .i64 0), .v (.int .i64 0), .v (.slice none 0 0)]),(2,29,[.v (.int .i64 0), .v (.int .i64 0), .v (.slice none 0 0)]),(1,97,[.v (.int .i64 ((r:Nat):Int)), .v (.int .i64 ((c:Nat):Int)), .v (.slice A n cap)])] ?_
 refine xz (xq 1 [] [(3,29,[.v (.int .i64 ((r:Nat):Int)), .v (.int .i64 ((c:Nat):Int)), .v (.slice (some ⟨b10,0,none⟩) n n)])] ?_)
 refine xe (Zaa (Zac (Zac (Zab (xq 4 [eS1 16 A n cap,(17, .v (.int .i64 ((n:Nat):Int))),(18, .v (.int .i64 0))] [] ?_)))))
 refine xe (Zaa (Zar ?_))
 refine SXc.weak [(2, .p 2 0),(3, .p 3 0),(16, .v (.slice A n cap)),(17, .v (.int .i64 ((n:Nat):Int))),(18, .v (.int .i64 ((0:Nat):Int)))] [(3,29,[.v (.int .i64 ((r:Nat):Int)), .v (.int .i64 ((c:Nat):Int)), .v (.slice (some ⟨b10,0,none⟩) n n)]),(2,29,[.v (.int .i64 0), .v (.int .i64 0), .v (.slice none 0 0)])] (Ψ:=fun w=>OwnD w m0 76 2 (some ⟨b10,0,none⟩) n n ((ZbM ftV fl0 xs 0).flatMap flC)) (Zax.of (by kernel_rfl)) (by kernel_rfl) (fun w Q=>(by rw [ZeL,hl]; exact Q.2)) ?_
 refine ZaR (fun nn ss ff=>∃ (k:Nat),ss=ofL [(2, .p 2 0),(3, .p 3 0),(16, .v (.slice A n cap)),(17, .v (.int .i64 ((n:Nat):Int))),(18, .v (.int .i64 ((k:Nat):Int)))] [(3,29,[.v (.int .i64 ((r:Nat):Int)), .v (.int .i64 ((c:Nat):Int)), .v (.slice (some ⟨b10,0,none⟩) n n)]),(2,29,[.v (.int .i64 0), .v (.int .i64 0), .v (.slice none 0 0)])]∧ff=(fun w=>OwnD w m0 76 2 (some ⟨b10,0,none⟩) n n ((ZbM ftV fl0 xs k).flatMap flC))∧(k≤n)∧nn=(1 + (n - k))) ((1 + (n - 0))) ⟨0,rfl,rfl,(Nat.zero_le _),rfl⟩ ?_
 rintro nn ss ff ⟨k,rfl,rfl,hk,rfl⟩
 refine Zac (Zab (xq 1 [(19, .v (.bool (decide (((k:Nat):Int) < ((n:Nat):Int)))))] [] ?_))
 refine xe (Zaa (Zac ?_))
 refine Zap ((decide (((k:Nat):Int) < ((n:Nat):Int)))) (by kernel_rfl) (fun hb11=>?_) (fun hb11=>?_)
 ·have hlt:k < n:=by have:=of_decide_eq_true hb11; omega
  refine Zal (Zaa (Zac (Zar (Zac (Zab (xq 1 [(20, .v (.int .i64 ((k:Nat):Int)))] [] ?_))))))
  refine xqk 21 (atA A (k * 3)) (fun w R Q=>Zb1 (t:=95) (e:=109) (sz:=3) (x:=(Operand.tmp 16)) (ix:=(Operand.tmp 18)) (len:=n) (cap:=cap) (i:=k) ((OwnD.ext hO R).ne hlt) hlt) ?_
  obtain ⟨x12,hx12⟩:∃ x,xs[k]! = x:=⟨_,rfl⟩
  refine xqk 22 (.agg #[.bool x12.s, .slice x12.A x12.l x12.c, .int .i64 x12.e]) (fun w R Q=>by rw [← hx12]; exact ZdO (t:=109) (x:=(Operand.tmp 21)) (j:=k) (OwnD.ext hO R) ZeS (hl.symm ▸ hlt)) ?_
  refine xq 3 [(4, .v (.int .i64 ((k:Nat):Int))),(5, .p 5 0)] [(5,109,[.v (.bool x12.s), .v (.slice x12.A x12.l x12.c), .v (.int .i64 x12.e)])] ?_
  refine xe (Zaa ?_)
  refine ZaK 6 (by kernel_rfl) (by kernel_rfl) Zao ?_
  refine xqg 4 [eS1 24 (some ⟨b10,0,none⟩) n n,(25, .v (.int .i64 ((k:Nat):Int))),(26, .v (.agg #[.bool x12.s, .slice x12.A x12.l x12.c, .int .i64 x12.e]))] ?_
  refine xqd 108 [.agg #[.bool x12.s, .slice x12.A x12.l x12.c, .int .i64 x12.e]] 27 (fun _:Unit=>.agg #[.string ⟨(Lib.itoa (sg x12.s x12.m)).toArray⟩, .int .i64 x12.e]) _ (fun w R Q=>(Zib x12.s x12.A x12.l x12.c x12.m x12.e _ (hg.ext R) (by rw [← hx12]; exact (hN.ext R).get (hl.symm ▸ hlt)) (by rw [← hx12]; exact (hx _ (Zbc (hl.symm ▸ hlt))).1) (by rw [← hx12]; exact (hx _ (Zbc (hl.symm ▸ hlt))).2)).mono (fun _ _ h=>Zam h rfl)) (fun xx=>?_)
  refine xqj 28 (.pointer (some ⟨b10,0 + k * 2,none⟩)) (fun w Q=>Zb8 (t:=27) (e:=76) (sz:=2) (x:=(Operand.tmp 24)) (ix:=(Operand.tmp 25)) (len:=n) (cap:=n) (i:=k) hlt) ?_
  refine xz ?_
  refine ZdP (t:=76) (x:=(Operand.tmp 28)) (y:=(Operand.tmp 27)) (j:=k) (new:=flC ((⟨(Lib.itoa (sg x12.s x12.m)).toArray⟩,x12.e))) m0 b10 (.agg #[.string ⟨(Lib.itoa (sg x12.s x12.m)).toArray⟩, .int .i64 x12.e]) (fun w=>True) (fun w Q=>Q.1) hlt rfl (by decide) (fun h=>Or.inl (Nat.le_trans (hm0 ▸ Nat.le_refl _) h)) (by simp [flC,Value.oneCell']) (Zi6 _) rfl (fun w w' Q hF=>trivial) ?_
  rw [← Zc0 Zef ((ZbM ftV fl0 xs k)) k ((⟨(Lib.itoa (sg x12.s x12.m)).toArray⟩,x12.e)) (by rw [Zfv]; exact hl.symm ▸ hlt),Zfx (hl.symm ▸ hlt) (by rw [hx12]; rfl)]
  refine xr 0 [(2, .p 2 0),(3, .p 3 0),eS1 16 A n cap,(17, .v (.int .i64 ((n:Nat):Int))),(18, .v (.int .i64 ((k:Nat):Int)))] [(3,29,[.v (.int .i64 ((r:Nat):Int)), .v (.int .i64 ((c:Nat):Int)), .v (.slice (some ⟨b10,0,none⟩) n n)]),(2,29,[.v (.int .i64 0), .v (.int .i64 0), .v (.slice none 0 0)])] ?_
  refine xe (ZaO (Zaa (Zab (xq 1 [(29, .v (.int .i64 (IntKind.i64.wrap (((k:Nat):Int) + 1))))] [] ?_))))
  rw [show IntKind.i64.wrap ((((k:Nat):Int) + 1))=((k + 1:Nat):Int) from by rw [IntKind.wrap_i64]; omega]
  refine xq 1 [(18, .v (.int .i64 ((k + 1:Nat):Int)))] [] ?_
  refine xe ?_
  refine SXq.weak [(2, .p 2 0),(3, .p 3 0),(16, .v (.slice A n cap)),(17, .v (.int .i64 ((n:Nat):Int))),(18, .v (.int .i64 (((k + 1):Nat):Int)))] [(3,29,[.v (.int .i64 ((r:Nat):Int)), .v (.int .i64 ((c:Nat):Int)), .v (.slice (some ⟨b10,0,none⟩) n n)]),(2,29,[.v (.int .i64 0), .v (.int .i64 0), .v (.slice none 0 0)])] (Ψ:=fun w=>OwnD w m0 76 2 (some ⟨b10,0,none⟩) n n ((ZbM ftV fl0 xs (k + 1)).flatMap flC)) (Zax.of (by kernel_rfl)) (by kernel_rfl) (fun w Q=>Q.2) ?_
  exact ZaF ((1 + (n - (k + 1)))) (by omega) ⟨(k + 1),rfl,rfl,hlt,rfl⟩
 ·have hge:k=n:=by have:=of_decide_eq_false hb11; omega
  refine ZaM (Zaj (Zaj (ZaV (Zaa (Zac (Zab (xq 2 [] [(2,29,[.v (.int .i64 ((r:Nat):Int)), .v (.int .i64 ((c:Nat):Int)), .v (.slice (some ⟨b10,0,none⟩) n n)])] ?_)))))))
  refine xe (Zaa (Zag ?_))
  refine Zaf (v:=.agg #[.int .i64 ((r:Nat):Int), .int .i64 ((c:Nat):Int), .slice (some ⟨b10,0,none⟩) n n]) (by kernel_rfl) (fun w' R Q=>?_)
  exact ⟨b10,by rw [List.length_map,hl],by have h:=Q; rw [hge,← hl,Zfw] at h; rw [List.length_map]; exact hm0 ▸ h,R⟩
theorem ZnW (m:Nat) (r c:Nat) (A:Option Addr) (cap:Nat) (fs:List (ByteArray × Int)) (w:World) (hO:OwnD w m 76 2 A cap fs.length (fs.flatMap flC)) (hg:Glob w) (hr:1≤r∧r≤32) (hc:1≤c∧c≤32) (hn:fs.length=r * c) (hv:∀ x ∈ fs,fvB (bytes x.1) x.2=true) (hs:∀ x ∈ fs,(bytes x.1).length≤1000) (hx:∀ x ∈ fs,-1000≤x.2∧x.2≤1000) :
 Calls Tryz.prog 36 #[.agg #[.int .i64 ((r:Nat):Int), .int .i64 ((c:Nat):Int), .slice A fs.length cap]] w (fun e w'=>∃ b,e=.returned (.tuple #[.agg #[.int .i64 ((r:Nat):Int), .int .i64 ((c:Nat):Int), .slice (some ⟨b,0,none⟩) fs.length fs.length], .int .i64 0])∧OwnD w' w.heap.size 9 1 (some ⟨b,0,none⟩) fs.length fs.length ((fs.map exV).flatMap stC)∧Ext w w'):=by
 obtain ⟨m0,hm0⟩:∃ m,m=w.heap.size:=⟨_,rfl⟩
 have hrc:r * c≤32 * 32:=Nat.mul_le_mul hr.2 hc.2
 refine Zas (Φ:=fun w=>True) Tryz.func36 rfl (by kernel_rfl) (fun w' hf=>trivial) ?_
 refine Zac (Zab (xq 3 [(1, .p 1 0),(2, .p 2 0),(3, .v (.int .i64 0))] [(2,24,[.v (.int .i64 0), .v (.int .i64 0), .v (.slice none 0 0)]),(1,29,[.v (.int .i64 ((r:Nat):Int)), .v (.int .i64 ((c:Nat):Int)), .v (.slice A fs.length cap)])] ?_))
 refine xe (Zaa (Zac (Zac (Zab (xq 1 [(7, .v (.agg #[.int .i64 ((r:Nat):Int), .int .i64 ((c:Nat):Int), .slice A fs.length cap]))] [] ?_)))))
 refine xqc 18 [.agg #[.int .i64 ((r:Nat):Int), .int .i64 ((c:Nat):Int), .slice A fs.length cap]] 8 (fun _:Unit=>.bool true) _ (fun w R Q=>(ZgI m r c A cap fs _ (OwnD.ext hO R) hr hc hn hv hs).mono (fun _ _ h=>Zam h rfl)) (fun xx=>?_)
 refine xq 1 [(9, .v (.bool false))] [] ?_
 refine xe (Zaa (xb (Zal (Zaa (Zac ?_)))))
 refine ZaK 10 (by kernel_rfl) (by kernel_rfl) Zao ?_
 refine xqg 7 [(12, .v (.int .i64 ((r:Nat):Int))),(14, .v (.int .i64 ((c:Nat):Int))),(17, .v (.int .i64 ((fs.length:Nat):Int)))] ?_
 refine ZhI 18 (fun bb:{b:Nat // m0≤b}=>.slice (some ⟨bb.1,0,none⟩) fs.length fs.length) (fun bb w=>OwnD w m0 9 1 (some ⟨bb.1,0,none⟩) fs.length fs.length ((List.replicate fs.length (⟨#[]⟩:ByteArray)).flatMap stC)) (by kernel_rfl) (by kernel_rfl) (by kernel_rfl) (by kernel_rfl) (by kernel_rfl) (by kernel_rfl) (by kernel_rfl) (fun w R Q=>ZcA (t:=22) (e:=9) (kl:=.i64) (kc:=.i64) (l:=(Operand.tmp 17)) (c:=(Operand.tmp 17)) (bytes:=16) (z:=.string ⟨#[]⟩) (⟨#[]⟩:ByteArray) ZeW (by decide) rfl Zht (hm0 ▸ R.size) (by simp only [maxLen]; omega) (by omega)) (fun bb=>?_)
 obtain ⟨b10,hb10⟩:=bb
 refine xf 2 [(1, .p 1 0),(2, .p 2 0),(3, .v (.int .i64 0)),(4, .p 4 0),(19, .v (.agg #[.int .i64 ((r:Nat):Int), .int .i64 ((c:Nat):Int), .slice (some ⟨b10,0,none⟩) fs.length fs.length]))] [(4,24,[.v (.int .i64 0), .v (.int .i64 0), .v (.slice none 0 0)]),(2,24,[.v (.int .i64 0), .v (.int .i64 0), .v (.slice none 0 0)]),(1,29,[.v (.int .i64 ((r:Nat):Int)), .v (.int .i64 ((c:Nat):Int)), .v (.slice A fs.length cap)])] ?_
 refine xz (xq 1 [] [(4,24,[.v (.int .i64 ((r:Nat):Int)), .v (.int .i64 ((c:Nat):Int)), .v (.slice (some ⟨b10,0,none⟩) fs.length fs.length)])] ?_)
 refine xe (Zaa (Zac (Zac (Zab (xq 4 [eS1 21 A fs.length cap,(22, .v (.int .i64 ((fs.length:Nat):Int))),(23, .v (.int .i64 0))] [] ?_)))))
 refine xe (Zaa (Zar ?_))
 refine SXc.weak [(2, .p 2 0),(3, .v (.int .i64 0)),(4, .p 4 0),(21, .v (.slice A fs.length cap)),(22, .v (.int .i64 ((fs.length:Nat):Int))),(23, .v (.int .i64 ((0:Nat):Int)))] [(4,24,[.v (.int .i64 ((r:Nat):Int)), .v (.int .i64 ((c:Nat):Int)), .v (.slice (some ⟨b10,0,none⟩) fs.length fs.length)]),(2,24,[.v (.int .i64 0), .v (.int .i64 0), .v (.slice none 0 0)])] (Ψ:=fun w=>OwnD w m0 9 1 (some ⟨b10,0,none⟩) fs.length fs.length ((ZbM exV ⟨#[]⟩ fs 0).flatMap stC)) (Zax.of (by kernel_rfl)) (by kernel_rfl) (fun w Q=>(by rw [ZeL]; exact Q.2)) ?_
 refine ZaR (fun nn ss ff=>∃ (k:Nat),ss=ofL [(2, .p 2 0),(3, .v (.int .i64 0)),(4, .p 4 0),(21, .v (.slice A fs.length cap)),(22, .v (.int .i64 ((fs.length:Nat):Int))),(23, .v (.int .i64 ((k:Nat):Int)))] [(4,24,[.v (.int .i64 ((r:Nat):Int)), .v (.int .i64 ((c:Nat):Int)), .v (.slice (some ⟨b10,0,none⟩) fs.length fs.length)]),(2,24,[.v (.int .i64 0), .v (.int .i64 0), .v (.slice none 0 0)])]∧ff=(fun w=>OwnD w m0 9 1 (some ⟨b10,0,none⟩) fs.length fs.length ((ZbM exV ⟨#[]⟩ fs k).flatMap stC))∧(k≤fs.length)∧nn=(1 + (fs.length - k))) ((1 + (fs.length - 0))) ⟨0,rfl,rfl,(Nat.zero_le _),rfl⟩ ?_
 rintro nn ss ff ⟨k,rfl,rfl,hk,rfl⟩
 refine Zac (Zab (xq 1 [(24, .v (.bool (decide (((k:Nat):Int) < ((fs.length:Nat):Int)))))] [] ?_))
 refine xe (Zaa (Zac ?_))
 refine Zap ((decide (((k:Nat):Int) < ((fs.length:Nat):Int)))) (by kernel_rfl) (fun hb11=>?_) (fun hb11=>?_)
 ·have hlt:k < fs.length:=by have:=of_decide_eq_true hb11; omega
  refine Zal (Zaa (Zac (Zar (Zac (Zab (xq 1 [(25, .v (.int .i64 ((k:Nat):Int)))] [] ?_))))))
  refine xqk 26 (atA A (k * 2)) (fun w R Q=>Zb1 (t:=27) (e:=76) (sz:=2) (x:=(Operand.tmp 21)) (ix:=(Operand.tmp 23)) (len:=fs.length) (cap:=cap) (i:=k) ((OwnD.ext hO R).ne hlt) hlt) ?_
  obtain ⟨x12,hx12⟩:∃ x,fs[k]! = x:=⟨_,rfl⟩
  refine xqk 27 (.agg #[.string x12.1, .int .i64 x12.2]) (fun w R Q=>by rw [← hx12]; exact ZdO (t:=76) (x:=(Operand.tmp 26)) (j:=k) (OwnD.ext hO R) Zef hlt) ?_
  refine xq 3 [(5, .v (.int .i64 ((k:Nat):Int))),(6, .p 6 0)] [(6,76,[.v (.string x12.1), .v (.int .i64 x12.2)])] ?_
  refine xe (Zaa ?_)
  refine ZaK 6 (by kernel_rfl) (by kernel_rfl) Zao ?_
  refine xqg 4 [eS1 29 (some ⟨b10,0,none⟩) fs.length fs.length,(30, .v (.int .i64 ((k:Nat):Int))),(31, .v (.agg #[.string x12.1, .int .i64 x12.2]))] ?_
  refine xqd 59 [.agg #[.string x12.1, .int .i64 x12.2]] 32 (fun _:Unit=>.string ⟨(exT (bytes x12.1) x12.2).toArray⟩) _ (fun w R Q=>(ZnV x12.1 x12.2 _ (hg.ext R) (by rw [← hx12]; exact Nat.le_trans (hs _ (Zbc hlt)) (by decide)) (by rw [← hx12]; exact fun _=>hx _ (Zbc hlt))).mono (fun _ _ h=>Zam h rfl)) (fun xx=>?_)
  refine xqj 33 (.pointer (some ⟨b10,0 + k * 1,none⟩)) (fun w Q=>Zb8 (t:=22) (e:=9) (sz:=1) (x:=(Operand.tmp 29)) (ix:=(Operand.tmp 30)) (len:=fs.length) (cap:=fs.length) (i:=k) hlt) ?_
  refine xz ?_
  refine ZdP (t:=9) (x:=(Operand.tmp 33)) (y:=(Operand.tmp 32)) (j:=k) (new:=stC ((⟨(exT (bytes x12.1) x12.2).toArray⟩))) m0 b10 (.string ⟨(exT (bytes x12.1) x12.2).toArray⟩) (fun w=>True) (fun w Q=>Q.1) hlt rfl (by decide) (fun h=>Or.inl (Nat.le_trans (hm0 ▸ Nat.le_refl _) h)) (by simp [stC,Value.oneCell']) (Zht _) rfl (fun w w' Q hF=>trivial) ?_
  rw [← Zc0 ZeW ((ZbM exV ⟨#[]⟩ fs k)) k ((⟨(exT (bytes x12.1) x12.2).toArray⟩)) (by rw [Zfv]; exact hlt),Zfx hlt (by rw [hx12]; rfl)]
  refine xr 0 [(2, .p 2 0),(3, .v (.int .i64 0)),(4, .p 4 0),eS1 21 A fs.length cap,(22, .v (.int .i64 ((fs.length:Nat):Int))),(23, .v (.int .i64 ((k:Nat):Int)))] [(4,24,[.v (.int .i64 ((r:Nat):Int)), .v (.int .i64 ((c:Nat):Int)), .v (.slice (some ⟨b10,0,none⟩) fs.length fs.length)]),(2,24,[.v (.int .i64 0), .v (.int .i64 0), .v (.slice none 0 0)])] ?_
  refine xe (ZaO (Zaa (Zab (xq 1 [(34, .v (.int .i64 (IntKind.i64.wrap (((k:Nat):Int) + 1))))] [] ?_))))
  rw [show IntKind.i64.wrap ((((k:Nat):Int) + 1))=((k + 1:Nat):Int) from by rw [IntKind.wrap_i64]; omega]
  refine xq 1 [(23, .v (.int .i64 ((k + 1:Nat):Int)))] [] ?_
  refine xe ?_
  refine SXq.weak [(2, .p 2 0),(3, .v (.int .i64 0)),(4, .p 4 0),(21, .v (.slice A fs.length cap)),(22, .v (.int .i64 ((fs.length:Nat):Int))),(23, .v (.int .i64 (((k + 1):Nat):Int)))] [(4,24,[.v (.int .i64 ((r:Nat):Int)), .v (.int .i64 ((c:Nat):Int)), .v (.slice (some ⟨b10,0,none⟩) fs.length fs.length)]),(2,24,[.v (.int .i64 0), .v (.int .i64 0), .v (.slice none 0 0)])] (Ψ:=fun w=>OwnD w m0 9 1 (some ⟨b10,0,none⟩) fs.length fs.length ((ZbM exV ⟨#[]⟩ fs (k + 1)).flatMap stC)) (Zax.of (by kernel_rfl)) (by kernel_rfl) (fun w Q=>Q.2) ?_
  exact ZaF ((1 + (fs.length - (k + 1)))) (by omega) ⟨(k + 1),rfl,rfl,hlt,rfl⟩
 ·have hge:k=fs.length:=by have:=of_decide_eq_false hb11; omega
  refine ZaM (Zaj (Zaj (ZaV (Zaa (Zac (Zab (xq 3 [(3, .v (.int .i64 0))] [(2,24,[.v (.int .i64 ((r:Nat):Int)), .v (.int .i64 ((c:Nat):Int)), .v (.slice (some ⟨b10,0,none⟩) fs.length fs.length)])] ?_)))))))
  refine xe (Zaa (Zag ?_))
  refine Zaf (v:=.tuple #[.agg #[.int .i64 ((r:Nat):Int), .int .i64 ((c:Nat):Int), .slice (some ⟨b10,0,none⟩) fs.length fs.length], .int .i64 0]) (by kernel_rfl) (fun w' R Q=>?_)
  exact ⟨b10,rfl,by have h:=Q; rw [hge,Zfw] at h; exact hm0 ▸ h,R⟩
end Go.Proofs.YtenchljfmfgeoaaGreatDoor

namespace Go.Proofs.YtenchljfmfgeoaaGreatDoor
def FvOk (v:Fv3):Prop:=wl v.2.1≤100000∧okE v.2.2∧(v.2.1=0∨v.2.1 % 2=1)∧(v.1=true→0 < v.2.1)
theorem Zjb:FvOk (false,0,0):=⟨Nat.le_trans (Nat.le_of_eq (Zbk.2 rfl)) (Nat.zero_le _),by show okE 0; unfold okE; omega,Or.inl rfl,fun h=>by cases h⟩
def fvR (r:FR):Fv3:=(r.s,r.m,r.e)
def mulV (x y:Fv3) (b:Nat):FR:=Zbd (x.1 != y.1) (x.2.1 * y.2.1) 1 (x.2.2 + y.2.2) b
def subV (x y:Fv3) (b:Nat):FR:=sumR x.1 x.2.1 x.2.2 (if y.2.1=0 then y.1 else !y.1) y.2.1 y.2.2 b
def divV (x y:Fv3) (b:Nat):FR:=Zgt (x.1 != y.1) x.2.1 y.2.1 (x.2.2 - y.2.2) b
def ZhO (x:Fv3) (b:Nat):FR:=ZcJ x.1 x.2.1 x.2.2 b
def musT (r:FR):Option Fv3:=if r.err=0 then some (fvR r) else none
theorem Zci {r:FR} {v:Fv3} (h:musT r=some v):r.err=0∧v=fvR r:=by
 unfold musT at h
 split at h
 ·injection h with h; exact ⟨by assumption,h.symm⟩
 ·cases h
def FrOk (r:FR):Prop:=r.err=0→FvOk (fvR r)
theorem ZjA {r:FR} {v:Fv3} (hr:FrOk r) (h:musT r=some v):FvOk v:=by
 obtain ⟨h1,rfl⟩:=Zci h
 exact hr h1
theorem Zf5 {k:Int}:FrOk ⟨false,0,0,k⟩:=fun _=>Zjb
theorem ZmV {s:Bool} {n:Nat} {e:Int} (h:wl n≤100000):FrOk (ZaW s n e):=by
 unfold ZaW
 split
 ·exact Zf5
 ·rename_i hn
  have ho:=Zdo (n:=n) (by omega)
  split
  ·rename_i he
   exact fun _=>⟨Nat.le_trans (ZaU (Nat.div_le_self _ _)) h,he,Or.inr ho.1,fun _=>by show 0 < oddM n; omega⟩
  ·exact Zf5
theorem Zqr {n d bits:Nat} (hn:0 < n) (hd:0 < d) (hb:0 < bits):rndM n d bits≤2 ^ bits:=by
 have h1:=Zhh hn hd hb
 have h2:=(Zmx (fa n (rndK n d bits)) (fb d (rndK n d bits))).2
 have h3:=Zcs (fq n d (rndK n d bits))
 rw [h1] at h3
 unfold rndM
 unfold fq at h3
 omega
theorem ZmW {n b:Nat} (h:n≤2 ^ b) (hb:b≤4096):wl n≤100000:=Nat.le_trans (ZaU h) (Nat.le_trans (Ze7 (a:=b) (b:=100) (by omega)) (by decide))
theorem Zf6 {s:Bool} {n d b:Nat} {e:Int} (hd:0 < d) (hb:0 < b) (hb2:b≤4096):FrOk (Zbd s n d e b):=by
 unfold Zbd
 split
 ·exact Zf5
 ·exact ZmV (ZmW (Zqr (by omega) hd hb) hb2)
theorem ZrS {x y:Fv3} {b:Nat} (hb:0 < b) (hb2:b≤4096):FrOk (mulV x y b):=Zf6 (by decide) hb hb2
theorem ZmX {x y:Fv3} {b:Nat} (hb:0 < b) (hb2:b≤4096):FrOk (subV x y b):=by
 unfold subV sumR
 split
 ·exact Zf6 (by decide) hb hb2
 ·split
  ·exact Zf6 (by decide) hb hb2
  ·exact Zf6 (by decide) hb hb2
theorem ZmY {x y:Fv3} {b:Nat} (hb:0 < b) (hb2:b≤4096):FrOk (divV x y b):=by
 unfold divV Zgt
 split
 ·exact Zf5
 ·exact Zf6 (by omega) hb hb2
theorem Zpn {y:Nat} {mk:Bool}:2 * ZcB y 0 mk≤y + 1:=by
 unfold ZcB
 simp only [Nat.pow_zero,Nat.div_one,Nat.mod_one,Nat.zero_add,Nat.pow_one,ne_eq,not_true,false_or]
 split<;>omega
theorem ZrT {M n:Nat} {E:Int} (hM:M % 2=1) (hn:0 < n):sqM M E n≤2 ^ n:=by
 have hs:(blen M:Int) + (E - 2 * sqK M E n + 2)=2 * n + 1∨(blen M:Int) + (E - 2 * sqK M E n + 2)=2 * n + 2:=by unfold sqK; omega
 have hb:=Zgq (show 0 < M by omega) (E - 2 * sqK M E n + 2) (by omega)
 unfold sqM
 generalize fq M 1 (-(E - 2 * sqK M E n + 2))=F at *
 have u:=Zbu.1 (show blen F≤2 * n + 2 by omega)
 have i2:isq F < 2 ^ (n + 1):=by
  refine Nat.lt_of_not_le fun h=>?_
  have h5:=Nat.mul_le_mul h h
  rw [← Nat.pow_add,show n + 1 + (n + 1)=2 * n + 2 by omega] at h5
  have h6:=(ZdI F).1
  omega
 have:=Zpn (y:=isq F) (mk:=Zb9 M (E - 2 * sqK M E n + 2))
 rw [Nat.pow_succ] at i2
 omega
theorem ZlJ {x:Fv3} {b:Nat} (hx:FvOk x) (hb:0 < b) (hb2:b≤4096):FrOk (ZhO x b):=by
 unfold ZhO ZcJ
 split
 ·exact Zf5
 ·split
  ·exact Zf5
  ·exact ZmV (ZmW (ZrT (hx.2.2.1.resolve_left (by assumption)) hb) hb2)
def at3 (l:List Fv3) (i:Nat):Fv3:=l.getD i (false,0,0)
def sgnV (v:Fv3):Int:=if v.2.1=0 then 0 else if v.1=true then -1 else 1
def ZfB (t x y:Fv3) (b:Nat):Option Fv3:=(musT (mulV x y b)).bind fun p=>musT (subV t p b)
def chK (b:Nat) (L:List Fv3) (i j n:Nat):Nat→Nat→Fv3→Option Fv3
 | 0,_,t=>some t
 | f + 1,k,t=>(ZfB t (at3 L (i * n + k)) (at3 L (j * n + k)) b).bind fun t=>chK b L i j n f (k + 1) t
def chE (b:Nat) (L:List Fv3) (i j n:Nat) (t:Fv3):Option Fv3:=if j < i then musT (divV t (at3 L (j * n + j)) b) else if sgnV t≤0 then none else musT (ZhO t b)
def chI (b:Nat) (A:List Fv3) (n j:Nat):Nat→Nat→List Fv3→Option (List Fv3)
 | 0,_,L=>some L
 | f + 1,i,L=>(chK b L i j n j 0 (at3 A (i * n + j))).bind fun t=>(chE b L i j n t).bind fun v=>chI b A n j f (i + 1) (L.set (i * n + j) v)
def chJ (b:Nat) (A:List Fv3) (n:Nat):Nat→Nat→List Fv3→Option (List Fv3)
 | 0,_,L=>some L
 | f + 1,j,L=>(chI b A n j (n - j) j L).bind fun L=>chJ b A n f (j + 1) L
def ZgK (b:Nat) (A:List Fv3) (n:Nat):Option (List Fv3):=chJ b A n n 0 (List.replicate (n * n) (false,0,0))
end Go.Proofs.YtenchljfmfgeoaaGreatDoor

namespace Go.Proofs.YtenchljfmfgeoaaGreatDoor
open Go.RowKit
theorem ZgL {w w':World} {e:Ending} {r:FR} (he:r.err=0) (h:ZaH w r e w'):ZbA (fun q:ShN=>.tuple #[.agg #[.bool r.s, .slice q.1 q.2.1 q.2.2, .int .i64 r.e], .int .i64 0]) (fun x w=>Zad w (ZaA x) r.m) w e w':=by
 have h2:=ZaJ h
 unfold shNb at h2
 rw [he] at h2
 exact h2
theorem FvOk.wl {v:Fv3} (h:FvOk v):wl v.2.1≤100000:=Nat.le_trans h.1 (by decide)
theorem FvOk.lo {v:Fv3} (h:FvOk v) : -1073741824≤v.2.2:=by have:=h.2.1; unfold okE at this; omega
theorem FvOk.hi {v:Fv3} (h:FvOk v):v.2.2≤1073741824:=by have:=h.2.1; unfold okE at this; omega
def ZqX (v:Fv3) (w:World) (e:Ending) (w':World):Prop:=∃ z:Nb,e=.returned (.agg #[.bool z.s, .slice z.A z.l z.c, .int .i64 z.e])∧nbV z=v∧NbOk w' z∧Ext w w'
theorem Zqs (t x y:Nb) (b:Nat) (v:Fv3) (w:World) (hg:Glob w) (ht:NbOk w t) (hx:NbOk w x) (hy:NbOk w y) (hft:FvOk (nbV t)) (hfx:FvOk (nbV x)) (hfy:FvOk (nbV y)) (hb1:8≤b) (hb2:b≤1024) (hv:ZfB (nbV t) (nbV x) (nbV y) b=some v) :
 Calls Tryz.prog 82 #[.agg #[.bool t.s, .slice t.A t.l t.c, .int .i64 t.e], .agg #[.bool x.s, .slice x.A x.l x.c, .int .i64 x.e], .agg #[.bool y.s, .slice y.A y.l y.c, .int .i64 y.e], .int .i64 ((b:Nat):Int)] w (ZqX v w):=by
 obtain ⟨p,hp,hq⟩:=Option.bind_eq_some_iff.1 hv
 refine Zas (Φ:=fun w=>True) Tryz.func82 rfl (by kernel_rfl) (fun w' hf=>trivial) ?_
 refine Zac (Zab (xq 4 [(4, .p 4 0),(5, .p 5 0),(6, .p 6 0),(8, .p 8 0)] [(8,109,[.v (.bool false), .v (.slice none 0 0), .v (.int .i64 0)]),(6,109,[.v (.bool y.s), .v (.slice y.A y.l y.c), .v (.int .i64 y.e)]),(5,109,[.v (.bool x.s), .v (.slice x.A x.l x.c), .v (.int .i64 x.e)]),(4,109,[.v (.bool t.s), .v (.slice t.A t.l t.c), .v (.int .i64 t.e)])] ?_))
 refine xe (Zaa (Zac ?_))
 refine ZaK 13 (by kernel_rfl) (by kernel_rfl) Zao ?_
 refine xqg 4 [(9, .v (.agg #[.bool t.s, .slice t.A t.l t.c, .int .i64 t.e])),(10, .v (.agg #[.bool x.s, .slice x.A x.l x.c, .int .i64 x.e])),(11, .v (.agg #[.bool y.s, .slice y.A y.l y.c, .int .i64 y.e])),(12, .v (.int .i64 ((b:Nat):Int)))] ?_
 obtain ⟨r10,hr10⟩:∃ r,mulV (nbV x) (nbV y) b=r:=⟨_,rfl⟩
 have he10:r10.err=0:=by rw [← hr10]; exact (Zci hp).1
 have hf10:FvOk (fvR r10):=by rw [← hr10]; exact ZrS (by omega) (by omega) (by rw [hr10]; exact he10)
 refine xqd 130 [.agg #[.bool x.s, .slice x.A x.l x.c, .int .i64 x.e], .agg #[.bool y.s, .slice y.A y.l y.c, .int .i64 y.e], .int .i64 ((b:Nat):Int)] 13 (fun q:ShN=>.tuple #[.agg #[.bool r10.s, .slice q.1 q.2.1 q.2.2, .int .i64 r10.e], .int .i64 0]) _ (fun w R Q=>((show Calls _ _ _ _ (ZaH w r10) from by rw [← hr10]; exact ZoS x.s x.A x.l x.c x.m x.e y.s y.A y.l y.c y.m y.e b (by omega) (by omega) _ (hg.ext R) (hx.ext R) hfx.wl hfx.lo hfx.hi (hy.ext R) hfy.wl hfy.lo hfy.hi)).mono (fun _ _ h=>ZgL he10 h)) (fun xx=>?_)
 obtain ⟨A10,l10,c10⟩:=xx
 refine xqg 2 [(14, .v (.agg #[.bool r10.s, .slice A10 l10 c10, .int .i64 r10.e])),(15, .v (.int .i64 0))] ?_
 refine xqd 90 [.agg #[.bool r10.s, .slice A10 l10 c10, .int .i64 r10.e], .int .i64 0] 16 (fun _:Unit=>.agg #[.bool r10.s, .slice A10 l10 c10, .int .i64 r10.e]) _ (fun w R Q=>(ZgJ r10.s A10 l10 c10 r10.e _).mono (fun _ _ h=>Zam h rfl)) (fun xx=>?_)
 refine xqg 1 [(17, .v (.int .i64 ((b:Nat):Int)))] ?_
 obtain ⟨r11,hr11⟩:∃ r,subV (nbV t) (fvR r10) b=r:=⟨_,rfl⟩
 have he11:r11.err=0:=by rw [← hr11]; exact (Zci (by rw [← hr10,← (Zci hp).2]; exact hq)).1
 have hf11:FvOk (fvR r11):=by rw [← hr11]; exact ZmX (by omega) (by omega) (by rw [hr11]; exact he11)
 refine xqd 129 [.agg #[.bool t.s, .slice t.A t.l t.c, .int .i64 t.e], .agg #[.bool r10.s, .slice A10 l10 c10, .int .i64 r10.e], .int .i64 ((b:Nat):Int)] 18 (fun q:ShN=>.tuple #[.agg #[.bool r11.s, .slice q.1 q.2.1 q.2.2, .int .i64 r11.e], .int .i64 0]) _ (fun w R Q=>((show Calls _ _ _ _ (ZaH w r11) from by rw [← hr11]; exact Zpo t.s t.A t.l t.c t.m t.e r10.s A10 l10 c10 r10.m r10.e b (by omega) (by omega) _ (hg.ext R) (ht.ext R) hft.wl hft.lo hft.hi Q.1.2 hf10.wl hf10.lo hf10.hi)).mono (fun _ _ h=>ZgL he11 h)) (fun xx=>?_)
 obtain ⟨A11,l11,c11⟩:=xx
 refine xqg 2 [(19, .v (.agg #[.bool r11.s, .slice A11 l11 c11, .int .i64 r11.e])),(20, .v (.int .i64 0))] ?_
 refine xqd 90 [.agg #[.bool r11.s, .slice A11 l11 c11, .int .i64 r11.e], .int .i64 0] 21 (fun _:Unit=>.agg #[.bool r11.s, .slice A11 l11 c11, .int .i64 r11.e]) _ (fun w R Q=>(ZgJ r11.s A11 l11 c11 r11.e _).mono (fun _ _ h=>Zam h rfl)) (fun xx=>?_)
 refine xz (xq 1 [] [(8,109,[.v (.bool r11.s), .v (.slice A11 l11 c11), .v (.int .i64 r11.e)])] ?_)
 refine xe (Zaa (Zag ?_))
 refine Zaf (v:=.agg #[.bool r11.s, .slice A11 l11 c11, .int .i64 r11.e]) (by kernel_rfl) (fun w' R Q=>?_)
 exact ⟨(⟨r11.s,A11,l11,c11,r11.m,r11.e⟩:Nb),rfl,by rw [(Zci hq).2,(Zci hp).2,hr10,hr11]; rfl,Q.1.2,R⟩
end Go.Proofs.YtenchljfmfgeoaaGreatDoor

namespace Go.Proofs.YtenchljfmfgeoaaGreatDoor
open Go.RowKit
theorem ZbH {i j n:Nat} (hi:i < n) (hj:j < n):i * n + j < n * n:=by
 have:=Nat.mul_le_mul_right n (show i + 1≤n by omega)
 rw [Nat.succ_mul] at this
 omega
theorem ZhP {ys:List Nb} {i:Nat} (h:i < ys.length):at3 (ys.map nbV) i=nbV ys[i]! := by
 unfold at3
 rw [List.getD_eq_getElem?_getD,List.getElem?_map,List.getElem?_eq_getElem h,getElem!_pos ys i h]
 rfl
theorem ZlK {ys:List Nb} {i:Nat} {x:Nb} (h:i < ys.length) (hx:ys[i]! = x):at3 (ys.map nbV) i=nbV x:=by rw [ZhP h,hx]
theorem Zpp {ys:List Nb} {i:Nat} {z:Nb} (h:∀ y ∈ ys,FvOk (nbV y)) (hz:FvOk (nbV z)):∀ y ∈ ys.set i z,FvOk (nbV y):=fun y hy=>by
 rcases List.mem_or_eq_of_mem_set hy with h1 | h1
 ·exact h y h1
 ·rw [h1]; exact hz
theorem Zqt (k:Nat):∀ y ∈ List.replicate k nb0,FvOk (nbV y):=fun y hy=>by rw [(List.mem_replicate.1 hy).2]; exact Zjb
theorem Zpq (k:Nat):(List.replicate k nb0).map nbV=List.replicate k (false,0,0):=List.map_replicate
theorem ZlL {t x y v:Fv3} {b:Nat} (hb:0 < b) (hb2:b≤4096) (h:ZfB t x y b=some v):FvOk v:=by
 obtain ⟨p,_,hq⟩:=Option.bind_eq_some_iff.1 h
 exact ZjA (ZmX hb hb2) hq
theorem Zqu {b n j:Nat} {A L Lf:List Fv3} (h:j < n) (hL:chJ b A n (n - j) j L=some Lf):∃ L1,chI b A n j (n - j) j L=some L1∧chJ b A n (n - (j + 1)) (j + 1) L1=some Lf:=by
 obtain ⟨f,hf⟩:∃ f,n - j=f + 1:=⟨n - j - 1,by omega⟩
 rw [show n - (j + 1)=f by omega]
 have hL2:chJ b A n (f + 1) j L=some Lf:=by rw [← hf]; exact hL
 exact Option.bind_eq_some_iff.1 hL2
theorem Zqv {b n i j:Nat} {A L L1:List Fv3} (h:i < n) (hI:chI b A n j (n - i) i L=some L1):∃ t v,chK b L i j n j 0 (at3 A (i * n + j))=some t∧chE b L i j n t=some v∧chI b A n j (n - (i + 1)) (i + 1) (L.set (i * n + j) v)=some L1:=by
 obtain ⟨f,hf⟩:∃ f,n - i=f + 1:=⟨n - i - 1,by omega⟩
 rw [show n - (i + 1)=f by omega]
 have h2:chI b A n j (f + 1) i L=some L1:=by rw [← hf]; exact hI
 obtain ⟨t,h3,h4⟩:=Option.bind_eq_some_iff.1 h2
 obtain ⟨v,h5,h6⟩:=Option.bind_eq_some_iff.1 h4
 exact ⟨t,v,h3,h5,h6⟩
theorem Zqw {b n i j k:Nat} {L:List Fv3} {t t1:Fv3} (h:k < j) (hK:chK b L i j n (j - k) k t=some t1):∃ v,ZfB t (at3 L (i * n + k)) (at3 L (j * n + k)) b=some v∧chK b L i j n (j - (k + 1)) (k + 1) v=some t1:=by
 obtain ⟨f,hf⟩:∃ f,j - k=f + 1:=⟨j - k - 1,by omega⟩
 rw [show j - (k + 1)=f by omega]
 have h2:chK b L i j n (f + 1) k t=some t1:=by rw [← hf]; exact hK
 exact Option.bind_eq_some_iff.1 h2
theorem ZjB {b n i j:Nat} {L:List Fv3} {t v d:Fv3} (h:j < i) (Q:chE b L i j n t=some v) (hd:at3 L (j * n + j)=d):musT (divV t d b)=some v:=by
 unfold chE at Q
 rw [if_pos h,hd] at Q
 exact Q
theorem ZgM {b n i j:Nat} {L:List Fv3} {t v:Fv3} (h:¬ j < i) (Q:chE b L i j n t=some v):¬ sgnV t≤0∧musT (ZhO t b)=some v:=by
 unfold chE at Q
 rw [if_neg h] at Q
 split at Q
 ·cases Q
 ·exact ⟨by assumption,Q⟩
theorem ZrU {v:Fv3} {w w':World} {e:Ending} (h:ZqX v w e w'):ZbA (fun z:{z:Nb // nbV z=v}=>.agg #[.bool z.1.s, .slice z.1.A z.1.l z.1.c, .int .i64 z.1.e]) (fun z w=>NbOk w z.1) w e w':=by
 obtain ⟨z,rfl,hz,hI,Q⟩:=h
 exact ⟨⟨z,hz⟩,rfl,Q,boxn Q (fun S w'' hS hF=>Zad.nrb hI hS hF)⟩
theorem Zpr {w w':World} {e:Ending} {v:Value} {x:Nb} (h:RetV w v e w') (hx:NbOk w x):ZbA (fun _:Unit=>v) (fun _ w=>NbOk w x) w e w':=by
 obtain ⟨rfl,Q⟩:=h
 exact ⟨(),rfl,Q,boxn Q (fun S w'' hS hF=>Zad.nrb (Zad.ext hx Q) hS hF)⟩
instance {v:Fv3}:Nonempty {z:Nb // nbV z=v}:=⟨⟨⟨v.1,none,0,0,v.2.1,v.2.2⟩,rfl⟩⟩
theorem ZlM {m b cap n k:Nat} {e:TypeId} {xs:List Value} {w w':World} {en:Ending} (h:en=.returned (.tuple #[])∧Fr (fun i=>i=b) w w'∧OwnD w' m e k (some ⟨b,0,none⟩) cap n xs):∃ x:Unit,en=.returned ((fun _:Unit=>.tuple #[]) x)∧Fr (fun i=>i=b) w w'∧BoxT b w w' (fun w=>OwnD w m e k (some ⟨b,0,none⟩) cap n xs) :=
 ⟨(),h.1,h.2.1,fun S w'' hS hF=>h.2.2.fr hF (fun i hi hs=>by
   injection hi with hi
   injection hi with hi
   exact (hS i hs).2.1 hi.symm)⟩
theorem Zkg {w:World} {m b cap n:Nat} {e:TypeId} {ys:List Nb} (h:OwnD w m e 3 (some ⟨b,0,none⟩) cap n (ys.flatMap nbC)) (h0:0 < ys.length):w.cell? ⟨b,0,none⟩=some (.bool ys[0]!.s):=by
 have h1:=Zec ZeS ys 0 0 h0 (by decide)
 obtain ⟨b2,e2,_,h3⟩:=h.at (j:=0 * 3 + 0) h1
 injection e2 with e2
 injection e2 with e2
 subst e2
 exact h3
theorem Zps (m n:Nat) (A:Option Addr) (cap:Nat) (xs:List Nb) (b gm gb:Nat) (Lf:List Fv3) (w:World) (hg:Glob w) (hM:Blk 97 w gm #[.int .i64 ((n:Nat):Int), .int .i64 ((n:Nat):Int), .slice A (n * n) cap]) (hB:Blk 3 w gb #[.int .i64 ((b:Nat):Int)]) (hO:OwnD w m 109 3 A cap (n * n) (xs.flatMap nbC)) (hN:ZaG w xs) (hl:xs.length=n * n) (hn:n≤32) (hb1:8≤b) (hb2:b≤1024) (hfx:∀ x ∈ xs,FvOk (nbV x)) (hC:ZgK b (xs.map nbV) n=some Lf) :
 Calls Tryz.prog 95 #[.pointer (some ⟨gm,0,none⟩), .pointer (some ⟨gb,0,none⟩)] w (Zfy (fun v=>v) n n Lf w):=by
 obtain ⟨m0,hm0⟩:∃ m,m=w.heap.size:=⟨_,rfl⟩
 have hgm:gm < m0:=hm0 ▸ hM.lt
 have hgb:gb < m0:=hm0 ▸ hB.lt
 have hnn:n * n≤32 * 32:=Nat.mul_le_mul hn hn
 refine Zas (Φ:=fun w=>(Blk 97 w gm #[.int .i64 ((n:Nat):Int), .int .i64 ((n:Nat):Int), .slice A (n * n) cap]∧Blk 3 w gb #[.int .i64 ((b:Nat):Int)])) Tryz.func95 rfl (by kernel_rfl) (fun w' hf=>⟨hM.ext hf,hB.ext hf⟩) ?_
 refine Zac (Zab (xq 1 [(2, .p 2 0)] [(2,97,[.v (.int .i64 0), .v (.int .i64 0), .v (.slice none 0 0)])] ?_))
 refine xe (Zaa (Zac (Zab (xq 1 [(8, .v (.pointer (some ⟨gm,0,none⟩)))] [] ?_))))
 refine xqk 9 (.int .i64 ((n:Nat):Int)) (fun w R Q=>Za4 (t:=3) (x:=(Operand.tmp 8)) (g:=gm) (off:=0) (Blk.news Q.1 0 _ rfl)) ?_
 refine xq 1 [(10, .v (.pointer (some ⟨gm,0 + 1,none⟩)))] [] ?_
 refine xqk 11 (.int .i64 ((n:Nat):Int)) (fun w R Q=>Za4 (t:=3) (x:=(Operand.tmp 10)) (g:=gm) (off:=0 + 1) (Blk.news Q.1 1 _ rfl)) ?_
 refine xqc 80 [.int .i64 ((n:Nat):Int), .int .i64 ((n:Nat):Int)] 12 (fun b:{b:Nat // m0≤b}=>.agg #[.int .i64 ((n:Nat):Int), .int .i64 ((n:Nat):Int), .slice (some ⟨b.1,0,none⟩) (n * n) (n * n)]) _ (fun w R Q=>(Zke n n _ (by omega) (by omega)).mono (fun _ _ h=>Zkf (m0:=m0) (hm0 ▸ R.size) rfl h)) (fun bb=>?_)
 obtain ⟨b10,hb10⟩:=bb
 refine xq 2 [(3, .p 3 0)] [(3,97,[.v (.int .i64 ((n:Nat):Int)), .v (.int .i64 ((n:Nat):Int)), .v (.slice (some ⟨b10,0,none⟩) (n * n) (n * n))])] ?_
 refine xe (Zaa (Zac (Zac (Zab (xq 1 [(13, .v (.pointer (some ⟨gm,0 + 1,none⟩)))] [] ?_)))))
 refine xqk 14 (.int .i64 ((n:Nat):Int)) (fun w R Q=>Za4 (t:=3) (x:=(Operand.tmp 13)) (g:=gm) (off:=0 + 1) (Blk.news Q.1.1 1 _ rfl)) ?_
 refine xq 1 [(15, .v (.int .i64 0))] [] ?_
 refine xe (Zaa (Zar ?_))
 refine SXc.weak [(0, .v (.pointer (some ⟨gm,0,none⟩))),(1, .v (.pointer (some ⟨gb,0,none⟩))),(2, .p 2 0),(3, .p 3 0),(14, .v (.int .i64 ((n:Nat):Int))),(15, .v (.int .i64 ((0:Nat):Int)))] [(3,97,[.v (.int .i64 ((n:Nat):Int)), .v (.int .i64 ((n:Nat):Int)), .v (.slice (some ⟨b10,0,none⟩) (n * n) (n * n))]),(2,97,[.v (.int .i64 0), .v (.int .i64 0), .v (.slice none 0 0)])] (Ψ:=fun w=>(((Blk 97 w gm #[.int .i64 ((n:Nat):Int), .int .i64 ((n:Nat):Int), .slice A (n * n) cap]∧Blk 3 w gb #[.int .i64 ((b:Nat):Int)])∧ZaG w (List.replicate (n * n) nb0))∧OwnD w m0 109 3 (some ⟨b10,0,none⟩) (n * n) (n * n) ((List.replicate (n * n) nb0).flatMap nbC))) (Zax.of (by kernel_rfl)) (by kernel_rfl) (fun w Q=>⟨⟨⟨Q.1.1,Q.1.2⟩,(ZaG.zero _ _)⟩,(by exact Q.2)⟩) ?_
 refine ZaR (fun nn ss ff=>∃ (j:Nat) (ys:List Nb),ss=ofL [(0, .v (.pointer (some ⟨gm,0,none⟩))),(1, .v (.pointer (some ⟨gb,0,none⟩))),(2, .p 2 0),(3, .p 3 0),(14, .v (.int .i64 ((n:Nat):Int))),(15, .v (.int .i64 ((j:Nat):Int)))] [(3,97,[.v (.int .i64 ((n:Nat):Int)), .v (.int .i64 ((n:Nat):Int)), .v (.slice (some ⟨b10,0,none⟩) (n * n) (n * n))]),(2,97,[.v (.int .i64 0), .v (.int .i64 0), .v (.slice none 0 0)])]∧ff=(fun w=>(((Blk 97 w gm #[.int .i64 ((n:Nat):Int), .int .i64 ((n:Nat):Int), .slice A (n * n) cap]∧Blk 3 w gb #[.int .i64 ((b:Nat):Int)])∧ZaG w ys)∧OwnD w m0 109 3 (some ⟨b10,0,none⟩) (n * n) (n * n) (ys.flatMap nbC)))∧(j≤n)∧(ys.length=n * n)∧(∀ y ∈ ys,FvOk (nbV y))∧(chJ b (xs.map nbV) n (n - j) j (ys.map nbV)=some Lf)∧nn=(1 + (n - j))) ((1 + (n - 0))) ⟨0,(List.replicate (n * n) nb0),rfl,rfl,(Nat.zero_le _),(by simp),(Zqt _),(by rw [Zpq]; exact hC),rfl⟩ ?_
 rintro nn ss ff ⟨j,ys,rfl,rfl,hj,hys,hfy,hL,rfl⟩
 refine Zac (Zab (xq 1 [(16, .v (.bool (decide (((j:Nat):Int) < ((n:Nat):Int)))))] [] ?_))
 refine xe (Zaa (Zac ?_))
 refine Zap ((decide (((j:Nat):Int) < ((n:Nat):Int)))) (by kernel_rfl) (fun hb11=>?_) (fun hb11=>?_)
 ·have hjn:j < n:=by have:=of_decide_eq_true hb11; omega
  obtain ⟨L1,hI,hJ⟩:=Zqu hjn hL
  refine Zal (Zaa (Zac (Zar (Zac (Zab (xq 2 [(4, .v (.int .i64 ((j:Nat):Int)))] [] ?_))))))
  refine xe (Zaa (Zac (Zab (xq 2 [(5, .v (.int .i64 ((j:Nat):Int)))] [] ?_))))
  refine xe (Zaa (Zar ?_))
  refine SXc.weak [(0, .v (.pointer (some ⟨gm,0,none⟩))),(1, .v (.pointer (some ⟨gb,0,none⟩))),(2, .p 2 0),(3, .p 3 0),(4, .v (.int .i64 ((j:Nat):Int))),(5, .v (.int .i64 ((j:Nat):Int))),(14, .v (.int .i64 ((n:Nat):Int))),(15, .v (.int .i64 ((j:Nat):Int)))] [(3,97,[.v (.int .i64 ((n:Nat):Int)), .v (.int .i64 ((n:Nat):Int)), .v (.slice (some ⟨b10,0,none⟩) (n * n) (n * n))]),(2,97,[.v (.int .i64 0), .v (.int .i64 0), .v (.slice none 0 0)])] (Ψ:=fun w=>(((Blk 97 w gm #[.int .i64 ((n:Nat):Int), .int .i64 ((n:Nat):Int), .slice A (n * n) cap]∧Blk 3 w gb #[.int .i64 ((b:Nat):Int)])∧ZaG w ys)∧OwnD w m0 109 3 (some ⟨b10,0,none⟩) (n * n) (n * n) (ys.flatMap nbC))) (Zax.of (by kernel_rfl)) (by kernel_rfl) (fun w Q=>⟨⟨⟨Q.1.1.1,Q.1.1.2⟩,Q.1.2⟩,Q.2⟩) ?_
  refine ZaR (fun nn ss ff=>∃ (i:Nat) (ys:List Nb),ss=ofL [(0, .v (.pointer (some ⟨gm,0,none⟩))),(1, .v (.pointer (some ⟨gb,0,none⟩))),(2, .p 2 0),(3, .p 3 0),(4, .v (.int .i64 ((j:Nat):Int))),(5, .v (.int .i64 ((i:Nat):Int))),(14, .v (.int .i64 ((n:Nat):Int))),(15, .v (.int .i64 ((j:Nat):Int)))] [(3,97,[.v (.int .i64 ((n:Nat):Int)), .v (.int .i64 ((n:Nat):Int)), .v (.slice (some ⟨b10,0,none⟩) (n * n) (n * n))]),(2,97,[.v (.int .i64 0), .v (.int .i64 0), .v (.slice none 0 0)])]∧ff=(fun w=>(((Blk 97 w gm #[.int .i64 ((n:Nat):Int), .int .i64 ((n:Nat):Int), .slice A (n * n) cap]∧Blk 3 w gb #[.int .i64 ((b:Nat):Int)])∧ZaG w ys)∧OwnD w m0 109 3 (some ⟨b10,0,none⟩) (n * n) (n * n) (ys.flatMap nbC)))∧(j≤i)∧(i≤n)∧(ys.length=n * n)∧(∀ y ∈ ys,FvOk (nbV y))∧(chI b (xs.map nbV) n j (n - i) i (ys.map nbV)=some L1)∧nn=(1 + (n - i))) ((1 + (n - j))) ⟨j,ys,rfl,rfl,(Nat.le_refl _),(Nat.le_of_lt hjn),hys,hfy,hI,rfl⟩ ?_
  rintro nn ss ff ⟨i,ys,rfl,rfl,hji0,hi,hys,hfy,hI,rfl⟩
  refine Zac (Zac (Zab (xq 2 [(19, .v (.int .i64 ((i:Nat):Int))),(20, .v (.pointer (some ⟨gm,0,none⟩)))] [] ?_)))
  refine xqk 21 (.int .i64 ((n:Nat):Int)) (fun w R Q=>Za4 (t:=3) (x:=(Operand.tmp 20)) (g:=gm) (off:=0) (Blk.news Q.1.1.1 0 _ rfl)) ?_
  refine xq 1 [(22, .v (.bool (decide (((i:Nat):Int) < ((n:Nat):Int)))))] [] ?_
  refine xe (Zaa ?_)
  refine Zap ((decide (((i:Nat):Int) < ((n:Nat):Int)))) (by kernel_rfl) (fun hb12=>?_) (fun hb12=>?_)
  ·have hin:i < n:=by have:=of_decide_eq_true hb12; omega
   obtain ⟨t1,u,hK,hE2,hI2⟩:=Zqv hin hI
   refine Zal (Zaa (Zac (Zar (Zac (Zab ?_)))))
   refine xqk 25 (.agg #[.int .i64 ((n:Nat):Int), .int .i64 ((n:Nat):Int), .slice A (n * n) cap]) (fun w R Q=>Zrq (t:=97) (x:=(Operand.tmp 0)) (g:=gm) (cs:=[.int .i64 ((n:Nat):Int), .int .i64 ((n:Nat):Int), .slice A (n * n) cap]) Q.1.1.1) ?_
   refine xq 2 [(26, .v (.int .i64 ((i:Nat):Int))),(27, .v (.int .i64 ((j:Nat):Int)))] [] ?_
   obtain ⟨x13,hx13⟩:∃ x,xs[i * n + j]! = x:=⟨_,rfl⟩
   have hfx13:FvOk (nbV x13):=by rw [← hx13]; exact hfx _ (Zbc (by rw [hl]; exact (ZbH hin hjn)))
   refine xqc 81 [.agg #[.int .i64 ((n:Nat):Int), .int .i64 ((n:Nat):Int), .slice A (n * n) cap], .int .i64 ((i:Nat):Int), .int .i64 ((j:Nat):Int)] 28 (fun _:Unit=>.agg #[.bool x13.s, .slice x13.A x13.l x13.c, .int .i64 x13.e]) _ (fun w R Q=>((show Calls _ _ _ _ (RetV _ (.agg #[.bool x13.s, .slice x13.A x13.l x13.c, .int .i64 x13.e])) from by rw [← hx13]; exact ZhN m n n A cap (n * n) xs i j _ (OwnD.ext hO R) hl (by omega) (by omega) (ZbH hin hjn) (by omega))).mono (fun _ _ h=>Zpr h (show NbOk _ x13 from by rw [← hx13]; exact (ZaG.ext hN R) _ (Zbc (by rw [hl]; exact (ZbH hin hjn)))))) (fun xx=>?_)
   refine xq 2 [(6, .p 6 0)] [(6,109,[.v (.bool x13.s), .v (.slice x13.A x13.l x13.c), .v (.int .i64 x13.e)])] ?_
   refine xe (Zaa (Zac (Zac (Zab (xq 2 [(29, .v (.int .i64 ((j:Nat):Int))),(30, .v (.int .i64 0))] [] ?_)))))
   refine xe (Zaa (Zar ?_))
   refine SXc.weak [(0, .v (.pointer (some ⟨gm,0,none⟩))),(1, .v (.pointer (some ⟨gb,0,none⟩))),(2, .p 2 0),(3, .p 3 0),(4, .v (.int .i64 ((j:Nat):Int))),(5, .v (.int .i64 ((i:Nat):Int))),(6, .p 6 0),(14, .v (.int .i64 ((n:Nat):Int))),(15, .v (.int .i64 ((j:Nat):Int))),(29, .v (.int .i64 ((j:Nat):Int))),(30, .v (.int .i64 ((0:Nat):Int)))] [(6,109,[.v (.bool x13.s), .v (.slice x13.A x13.l x13.c), .v (.int .i64 x13.e)]),(3,97,[.v (.int .i64 ((n:Nat):Int)), .v (.int .i64 ((n:Nat):Int)), .v (.slice (some ⟨b10,0,none⟩) (n * n) (n * n))]),(2,97,[.v (.int .i64 0), .v (.int .i64 0), .v (.slice none 0 0)])] (Ψ:=fun w=>((((Blk 97 w gm #[.int .i64 ((n:Nat):Int), .int .i64 ((n:Nat):Int), .slice A (n * n) cap]∧Blk 3 w gb #[.int .i64 ((b:Nat):Int)])∧ZaG w ys)∧OwnD w m0 109 3 (some ⟨b10,0,none⟩) (n * n) (n * n) (ys.flatMap nbC))∧NbOk w x13)) (Zax.of (by kernel_rfl)) (by kernel_rfl) (fun w Q=>⟨⟨⟨⟨Q.1.1.1.1,Q.1.1.1.2⟩,Q.1.1.2⟩,Q.1.2⟩,Q.2⟩) ?_
   refine ZaR (fun nn ss ff=>∃ (k:Nat) (t:Nb),ss=ofL [(0, .v (.pointer (some ⟨gm,0,none⟩))),(1, .v (.pointer (some ⟨gb,0,none⟩))),(2, .p 2 0),(3, .p 3 0),(4, .v (.int .i64 ((j:Nat):Int))),(5, .v (.int .i64 ((i:Nat):Int))),(6, .p 6 0),(14, .v (.int .i64 ((n:Nat):Int))),(15, .v (.int .i64 ((j:Nat):Int))),(29, .v (.int .i64 ((j:Nat):Int))),(30, .v (.int .i64 ((k:Nat):Int)))] [(6,109,[.v (.bool t.s), .v (.slice t.A t.l t.c), .v (.int .i64 t.e)]),(3,97,[.v (.int .i64 ((n:Nat):Int)), .v (.int .i64 ((n:Nat):Int)), .v (.slice (some ⟨b10,0,none⟩) (n * n) (n * n))]),(2,97,[.v (.int .i64 0), .v (.int .i64 0), .v (.slice none 0 0)])]∧ff=(fun w=>((((Blk 97 w gm #[.int .i64 ((n:Nat):Int), .int .i64 ((n:Nat):Int), .slice A (n * n) cap]∧Blk 3 w gb #[.int .i64 ((b:Nat):Int)])∧ZaG w ys)∧OwnD w m0 109 3 (some ⟨b10,0,none⟩) (n * n) (n * n) (ys.flatMap nbC))∧NbOk w t))∧(k≤j)∧(FvOk (nbV t))∧(chK b (ys.map nbV) i j n (j - k) k (nbV t)=some t1)∧nn=(1 + (j - k))) ((1 + (j - 0))) ⟨0,x13,rfl,rfl,(Nat.zero_le _),hfx13,(by rw [ZhP (by rw [hl]; exact (ZbH hin hjn)),hx13] at hK; exact hK),rfl⟩ ?_
   rintro nn ss ff ⟨k,t,rfl,rfl,hk,hft,hK,rfl⟩
   refine Zac (Zab (xq 1 [(31, .v (.bool (decide (((k:Nat):Int) < ((j:Nat):Int)))))] [] ?_))
   refine xe (Zaa (Zac ?_))
   refine Zap ((decide (((k:Nat):Int) < ((j:Nat):Int)))) (by kernel_rfl) (fun hb14=>?_) (fun hb14=>?_)
   ·have hlk:k < j:=by have:=of_decide_eq_true hb14; omega
    have hkn:k < n:=by omega
    obtain ⟨v,hv1,hv2⟩:=Zqw hlk hK
    refine Zal (Zaa (Zac (Zar (Zac (Zab (xq 2 [(7, .v (.int .i64 ((k:Nat):Int)))] [] ?_))))))
    refine xe (Zaa ?_)
    refine ZaK 11 (by kernel_rfl) (by kernel_rfl) Zao ?_
    refine xqg 4 [(33, .v (.agg #[.bool t.s, .slice t.A t.l t.c, .int .i64 t.e])),(34, .v (.agg #[.int .i64 ((n:Nat):Int), .int .i64 ((n:Nat):Int), .slice (some ⟨b10,0,none⟩) (n * n) (n * n)])),(35, .v (.int .i64 ((i:Nat):Int))),(36, .v (.int .i64 ((k:Nat):Int)))] ?_
    obtain ⟨x15,hx15⟩:∃ x,ys[i * n + k]! = x:=⟨_,rfl⟩
    have hfx15:FvOk (nbV x15):=by rw [← hx15]; exact hfy _ (Zbc (by rw [hys]; exact (ZbH hin hkn)))
    refine xqd 81 [.agg #[.int .i64 ((n:Nat):Int), .int .i64 ((n:Nat):Int), .slice (some ⟨b10,0,none⟩) (n * n) (n * n)], .int .i64 ((i:Nat):Int), .int .i64 ((k:Nat):Int)] 37 (fun _:Unit=>.agg #[.bool x15.s, .slice x15.A x15.l x15.c, .int .i64 x15.e]) _ (fun w R Q=>((show Calls _ _ _ _ (RetV _ (.agg #[.bool x15.s, .slice x15.A x15.l x15.c, .int .i64 x15.e])) from by rw [← hx15]; exact ZhN m0 n n (some ⟨b10,0,none⟩) (n * n) (n * n) ys i k _ Q.1.2 hys (by omega) (by omega) (ZbH hin hkn) (by omega))).mono (fun _ _ h=>Zam h rfl)) (fun xx=>?_)
    refine xqg 3 [(38, .v (.agg #[.int .i64 ((n:Nat):Int), .int .i64 ((n:Nat):Int), .slice (some ⟨b10,0,none⟩) (n * n) (n * n)])),(39, .v (.int .i64 ((j:Nat):Int))),(40, .v (.int .i64 ((k:Nat):Int)))] ?_
    obtain ⟨x16,hx16⟩:∃ x,ys[j * n + k]! = x:=⟨_,rfl⟩
    have hfx16:FvOk (nbV x16):=by rw [← hx16]; exact hfy _ (Zbc (by rw [hys]; exact (ZbH hjn hkn)))
    refine xqd 81 [.agg #[.int .i64 ((n:Nat):Int), .int .i64 ((n:Nat):Int), .slice (some ⟨b10,0,none⟩) (n * n) (n * n)], .int .i64 ((j:Nat):Int), .int .i64 ((k:Nat):Int)] 41 (fun _:Unit=>.agg #[.bool x16.s, .slice x16.A x16.l x16.c, .int .i64 x16.e]) _ (fun w R Q=>((show Calls _ _ _ _ (RetV _ (.agg #[.bool x16.s, .slice x16.A x16.l x16.c, .int .i64 x16.e])) from by rw [← hx16]; exact ZhN m0 n n (some ⟨b10,0,none⟩) (n * n) (n * n) ys j k _ Q.1.1.2 hys (by omega) (by omega) (ZbH hjn hkn) (by omega))).mono (fun _ _ h=>Zam h rfl)) (fun xx=>?_)
    refine xqj 42 (.int .i64 ((b:Nat):Int)) (fun w Q=>Za4 (t:=3) (x:=(Operand.tmp 1)) (g:=gb) (off:=0) (Blk.news Q.1.1.1.2 0 _ rfl)) ?_
    have hs17:ZfB (nbV t) (nbV x15) (nbV x16) b=some v:=by rw [ZhP (by rw [hys]; exact (ZbH hin hkn)),ZhP (by rw [hys]; exact (ZbH hjn hkn)),hx15,hx16] at hv1; exact hv1
    refine xqd 82 [.agg #[.bool t.s, .slice t.A t.l t.c, .int .i64 t.e], .agg #[.bool x15.s, .slice x15.A x15.l x15.c, .int .i64 x15.e], .agg #[.bool x16.s, .slice x16.A x16.l x16.c, .int .i64 x16.e], .int .i64 ((b:Nat):Int)] 43 (fun z:{z:Nb // nbV z=v}=>.agg #[.bool z.1.s, .slice z.1.A z.1.l z.1.c, .int .i64 z.1.e]) _ (fun w R Q=>(Zqs t x15 x16 b v _ (hg.ext R) Q.1.1.2 (show NbOk _ x15 from by rw [← hx15]; exact Q.1.1.1.1.2 _ (Zbc (by rw [hys]; exact (ZbH hin hkn)))) (show NbOk _ x16 from by rw [← hx16]; exact Q.1.1.1.1.2 _ (Zbc (by rw [hys]; exact (ZbH hjn hkn)))) hft hfx15 hfx16 hb1 hb2 hs17).mono (fun _ _=>ZrU)) (fun zz=>?_)
    obtain ⟨z17,hz17⟩:=zz
    refine xz (xq 1 [] [(6,109,[.v (.bool z17.s), .v (.slice z17.A z17.l z17.c), .v (.int .i64 z17.e)])] ?_)
    refine xe (ZaO (Zaa (Zab (xq 1 [(44, .v (.int .i64 (IntKind.i64.wrap (((k:Nat):Int) + 1))))] [] ?_))))
    rw [show IntKind.i64.wrap ((((k:Nat):Int) + 1))=((k + 1:Nat):Int) from by rw [IntKind.wrap_i64]; omega]
    refine xq 1 [(30, .v (.int .i64 ((k + 1:Nat):Int)))] [] ?_
    refine xe ?_
    refine SXq.weak [(0, .v (.pointer (some ⟨gm,0,none⟩))),(1, .v (.pointer (some ⟨gb,0,none⟩))),(2, .p 2 0),(3, .p 3 0),(4, .v (.int .i64 ((j:Nat):Int))),(5, .v (.int .i64 ((i:Nat):Int))),(6, .p 6 0),(14, .v (.int .i64 ((n:Nat):Int))),(15, .v (.int .i64 ((j:Nat):Int))),(29, .v (.int .i64 ((j:Nat):Int))),(30, .v (.int .i64 (((k + 1):Nat):Int)))] [(6,109,[.v (.bool z17.s), .v (.slice z17.A z17.l z17.c), .v (.int .i64 z17.e)]),(3,97,[.v (.int .i64 ((n:Nat):Int)), .v (.int .i64 ((n:Nat):Int)), .v (.slice (some ⟨b10,0,none⟩) (n * n) (n * n))]),(2,97,[.v (.int .i64 0), .v (.int .i64 0), .v (.slice none 0 0)])] (Ψ:=fun w=>((((Blk 97 w gm #[.int .i64 ((n:Nat):Int), .int .i64 ((n:Nat):Int), .slice A (n * n) cap]∧Blk 3 w gb #[.int .i64 ((b:Nat):Int)])∧ZaG w ys)∧OwnD w m0 109 3 (some ⟨b10,0,none⟩) (n * n) (n * n) (ys.flatMap nbC))∧NbOk w z17)) (Zax.of (by kernel_rfl)) (by kernel_rfl) (fun w Q=>⟨⟨⟨⟨Q.1.1.1.1.1.1.1,Q.1.1.1.1.1.1.2⟩,Q.1.1.1.1.1.2⟩,Q.1.1.1.1.2⟩,Q.2⟩) ?_
    exact ZaF ((1 + (j - (k + 1)))) (by omega) ⟨(k + 1),z17,rfl,rfl,hlk,(by rw [hz17]; exact ZlL (by omega) (by omega) hv1),(by rw [hz17]; exact hv2),rfl⟩
   ·have hke:k=j:=by have:=of_decide_eq_false hb14; omega
    have hT:nbV t=t1:=by rw [hke,Nat.sub_self] at hK; injection hK
    rw [← hT] at hE2
    refine ZaM (Zaj (Zaj (ZaV (Zaa (Zac (Zac (Zab (xq 3 [(47, .v (.bool (decide (((i:Nat):Int) > ((j:Nat):Int)))))] [] ?_))))))))
    refine xe (Zaa ?_)
    refine Zap ((decide (((i:Nat):Int) > ((j:Nat):Int)))) (by kernel_rfl) (fun hb18=>?_) (fun hb18=>?_)
    ·have hji:j < i:=by have:=of_decide_eq_true hb18; omega
     refine Zac ?_
     refine ZaK 13 (by kernel_rfl) (by kernel_rfl) Zao ?_
     refine xqg 7 [(48, .v (.agg #[.int .i64 ((n:Nat):Int), .int .i64 ((n:Nat):Int), .slice (some ⟨b10,0,none⟩) (n * n) (n * n)])),(49, .v (.int .i64 ((i:Nat):Int))),(50, .v (.int .i64 ((j:Nat):Int))),(51, .v (.agg #[.bool t.s, .slice t.A t.l t.c, .int .i64 t.e])),(52, .v (.agg #[.int .i64 ((n:Nat):Int), .int .i64 ((n:Nat):Int), .slice (some ⟨b10,0,none⟩) (n * n) (n * n)])),(53, .v (.int .i64 ((j:Nat):Int))),(54, .v (.int .i64 ((j:Nat):Int)))] ?_
     obtain ⟨x19,hx19⟩:∃ x,ys[j * n + j]! = x:=⟨_,rfl⟩
     have hfx19:FvOk (nbV x19):=by rw [← hx19]; exact hfy _ (Zbc (by rw [hys]; exact (ZbH hjn hjn)))
     refine xqd 81 [.agg #[.int .i64 ((n:Nat):Int), .int .i64 ((n:Nat):Int), .slice (some ⟨b10,0,none⟩) (n * n) (n * n)], .int .i64 ((j:Nat):Int), .int .i64 ((j:Nat):Int)] 55 (fun _:Unit=>.agg #[.bool x19.s, .slice x19.A x19.l x19.c, .int .i64 x19.e]) _ (fun w R Q=>((show Calls _ _ _ _ (RetV _ (.agg #[.bool x19.s, .slice x19.A x19.l x19.c, .int .i64 x19.e])) from by rw [← hx19]; exact ZhN m0 n n (some ⟨b10,0,none⟩) (n * n) (n * n) ys j j _ Q.1.2 hys (by omega) (by omega) (ZbH hjn hjn) (by omega))).mono (fun _ _ h=>Zam h rfl)) (fun xx=>?_)
     refine xqj 56 (.int .i64 ((b:Nat):Int)) (fun w Q=>Za4 (t:=3) (x:=(Operand.tmp 1)) (g:=gb) (off:=0) (Blk.news Q.1.1.1.2 0 _ rfl)) ?_
     obtain ⟨r20,hr20⟩:∃ r,divV (nbV t) (nbV x19) b=r:=⟨_,rfl⟩
     have he20:r20.err=0:=by rw [← hr20]; exact (Zci (ZjB hji hE2 (ZlK (by rw [hys]; exact (ZbH hjn hjn)) hx19))).1
     have hf20:FvOk (fvR r20):=by rw [← hr20]; exact ZmY (by omega) (by omega) (by rw [hr20]; exact he20)
     refine xqd 96 [.agg #[.bool t.s, .slice t.A t.l t.c, .int .i64 t.e], .agg #[.bool x19.s, .slice x19.A x19.l x19.c, .int .i64 x19.e], .int .i64 ((b:Nat):Int)] 57 (fun q:ShN=>.tuple #[.agg #[.bool r20.s, .slice q.1 q.2.1 q.2.2, .int .i64 r20.e], .int .i64 0]) _ (fun w R Q=>((show Calls _ _ _ _ (ZaH w r20) from by rw [← hr20]; exact ZoT t.s t.A t.l t.c t.m t.e x19.s x19.A x19.l x19.c x19.m x19.e b (by omega) (by omega) _ (hg.ext R) Q.1.2 hft.wl hft.lo hft.hi (show NbOk _ x19 from by rw [← hx19]; exact Q.1.1.1.2 _ (Zbc (by rw [hys]; exact (ZbH hjn hjn)))) hfx19.wl hfx19.lo hfx19.hi)).mono (fun _ _ h=>ZgL he20 h)) (fun xx=>?_)
     obtain ⟨A20,l20,c20⟩:=xx
     refine xqg 2 [(58, .v (.agg #[.bool r20.s, .slice A20 l20 c20, .int .i64 r20.e])),(59, .v (.int .i64 0))] ?_
     refine xqd 90 [.agg #[.bool r20.s, .slice A20 l20 c20, .int .i64 r20.e], .int .i64 0] 60 (fun _:Unit=>.agg #[.bool r20.s, .slice A20 l20 c20, .int .i64 r20.e]) _ (fun w R Q=>(ZgJ r20.s A20 l20 c20 r20.e _).mono (fun _ _ h=>Zam h rfl)) (fun xx=>?_)
     refine xz ?_
     refine Zlc (b:=b10) (d:=61) (j:=0) (c:=.bool ys[0]!.s) 83 [.agg #[.int .i64 ((n:Nat):Int), .int .i64 ((n:Nat):Int), .slice (some ⟨b10,0,none⟩) (n * n) (n * n)], .int .i64 ((i:Nat):Int), .int .i64 ((j:Nat):Int), .agg #[.bool r20.s, .slice A20 l20 c20, .int .i64 r20.e]] (fun _:Unit=>.tuple #[]) (fun w=>((Blk 97 w gm #[.int .i64 ((n:Nat):Int), .int .i64 ((n:Nat):Int), .slice A (n * n) cap]∧Blk 3 w gb #[.int .i64 ((b:Nat):Int)])∧ZaG w (ys.set (i * n + j) (⟨r20.s,A20,l20,c20,r20.m,r20.e⟩:Nb)))) (fun _ w=>OwnD w m0 109 3 (some ⟨b10,0,none⟩) (n * n) (n * n) ((ys.set (i * n + j) (⟨r20.s,A20,l20,c20,r20.m,r20.e⟩:Nb)).flatMap nbC)) (fun w Q=>Zkg Q.1.1.1.1.2 (by rw [hys]; have:=(ZbH hin hjn); omega)) (Or.inl (hm0 ▸ hb10)) (fun w R Q=>(ZlF m0 n n b10 (n * n) (n * n) ys i j (⟨r20.s,A20,l20,c20,r20.m,r20.e⟩:Nb) _ Q.1.1.1.1.2 hys (by omega) (by omega) (ZbH hin hjn) (by omega)).mono (fun _ _=>ZlM)) (fun w w' R Q hF=>⟨⟨Blk.fr Q.1.1.1.1.1.1.1 hF (fun h=>by have h:gm=b10:=h; omega),Blk.fr Q.1.1.1.1.1.1.2 hF (fun h=>by have h:gb=b10:=h; omega)⟩,ZaG.set (ZaG.nrb Q.1.1.1.1.1.2 (fun i e=>by subst e; exact OwnD.nrb Q.1.1.1.1.2 rfl) hF) (Zad.nrb Q.1.2 (fun i e=>by subst e; exact OwnD.nrb Q.1.1.1.1.2 rfl) hF)⟩) (fun _=>?_)
     refine xr 0 [(0, .v (.pointer (some ⟨gm,0,none⟩))),(1, .v (.pointer (some ⟨gb,0,none⟩))),(2, .p 2 0),(3, .p 3 0),(4, .v (.int .i64 ((j:Nat):Int))),(5, .v (.int .i64 ((i:Nat):Int))),(6, .p 6 0),(14, .v (.int .i64 ((n:Nat):Int))),(15, .v (.int .i64 ((j:Nat):Int)))] [(6,109,[.v (.bool t.s), .v (.slice t.A t.l t.c), .v (.int .i64 t.e)]),(3,97,[.v (.int .i64 ((n:Nat):Int)), .v (.int .i64 ((n:Nat):Int)), .v (.slice (some ⟨b10,0,none⟩) (n * n) (n * n))]),(2,97,[.v (.int .i64 0), .v (.int .i64 0), .v (.slice none 0 0)])] ?_
     refine xe (Zaa (ZaM (Zaj (ZaV (Zaa (Zab (xq 2 [(24, .v (.int .i64 (IntKind.i64.wrap (((i:Nat):Int) + 1))))] [] ?_)))))))
     rw [show IntKind.i64.wrap ((((i:Nat):Int) + 1))=((i + 1:Nat):Int) from by rw [IntKind.wrap_i64]; omega]
     refine xq 1 [(5, .v (.int .i64 ((i + 1:Nat):Int)))] [] ?_
     refine xe ?_
     refine SXq.weak [(0, .v (.pointer (some ⟨gm,0,none⟩))),(1, .v (.pointer (some ⟨gb,0,none⟩))),(2, .p 2 0),(3, .p 3 0),(4, .v (.int .i64 ((j:Nat):Int))),(5, .v (.int .i64 (((i + 1):Nat):Int))),(14, .v (.int .i64 ((n:Nat):Int))),(15, .v (.int .i64 ((j:Nat):Int)))] [(3,97,[.v (.int .i64 ((n:Nat):Int)), .v (.int .i64 ((n:Nat):Int)), .v (.slice (some ⟨b10,0,none⟩) (n * n) (n * n))]),(2,97,[.v (.int .i64 0), .v (.int .i64 0), .v (.slice none 0 0)])] (Ψ:=fun w=>(((Blk 97 w gm #[.int .i64 ((n:Nat):Int), .int .i64 ((n:Nat):Int), .slice A (n * n) cap]∧Blk 3 w gb #[.int .i64 ((b:Nat):Int)])∧ZaG w (ys.set (i * n + j) (⟨r20.s,A20,l20,c20,r20.m,r20.e⟩:Nb)))∧OwnD w m0 109 3 (some ⟨b10,0,none⟩) (n * n) (n * n) ((ys.set (i * n + j) (⟨r20.s,A20,l20,c20,r20.m,r20.e⟩:Nb)).flatMap nbC))) (Zax.of (by kernel_rfl)) (by kernel_rfl) (fun w Q=>⟨⟨⟨Q.1.1.1,Q.1.1.2⟩,Q.1.2⟩,Q.2⟩) ?_
     exact ZaF ((1 + (n - (i + 1)))) (by omega) ⟨(i + 1),(ys.set (i * n + j) (⟨r20.s,A20,l20,c20,r20.m,r20.e⟩:Nb)),rfl,rfl,(by omega),hin,(by rw [List.length_set]; exact hys),(Zpp hfy (show FvOk (nbV (⟨r20.s,A20,l20,c20,r20.m,r20.e⟩:Nb)) from hf20)),(by rw [List.map_set,show nbV (⟨r20.s,A20,l20,c20,r20.m,r20.e⟩:Nb)=u from ((Zci (ZjB hji hE2 (ZlK (by rw [hys]; exact (ZbH hjn hjn)) hx19))).2.trans (by rw [hr20]; rfl)).symm]; have h:=hI2; exact h),rfl⟩
    ·have hji:¬ j < i:=by have:=of_decide_eq_false hb18; omega
     have hij:i=j:=by omega
     refine Zal (Zaa (Zac (Zac (Zab (xq 1 [(62, .v (.agg #[.bool t.s, .slice t.A t.l t.c, .int .i64 t.e]))] [] ?_)))))
     refine xqc 97 [.agg #[.bool t.s, .slice t.A t.l t.c, .int .i64 t.e]] 63 (fun _:Unit=>.int .i64 (sgnV (nbV t))) _ (fun w R Q=>(ZnX t.s t.A t.l t.c t.m t.e _ Q.2).mono (fun _ _ h=>Zam h rfl)) (fun xx=>?_)
     refine xq 1 [(64, .v (.bool (decide ((sgnV (nbV t))≤0))))] [] ?_
     rw [(show decide (sgnV (nbV t)≤0)=false from decide_eq_false (ZgM hji hE2).1)]
     refine xe (Zaa (xb (Zal (Zaa ?_))))
     refine ZaK 9 (by kernel_rfl) (by kernel_rfl) Zao ?_
     refine xqg 4 [(66, .v (.agg #[.int .i64 ((n:Nat):Int), .int .i64 ((n:Nat):Int), .slice (some ⟨b10,0,none⟩) (n * n) (n * n)])),(67, .v (.int .i64 ((j:Nat):Int))),(68, .v (.int .i64 ((j:Nat):Int))),(69, .v (.agg #[.bool t.s, .slice t.A t.l t.c, .int .i64 t.e]))] ?_
     refine xqj 70 (.int .i64 ((b:Nat):Int)) (fun w Q=>Za4 (t:=3) (x:=(Operand.tmp 1)) (g:=gb) (off:=0) (Blk.news Q.1.1.1.1.2 0 _ rfl)) ?_
     obtain ⟨r21,hr21⟩:∃ r,ZhO (nbV t) b=r:=⟨_,rfl⟩
     have he21:r21.err=0:=by rw [← hr21]; exact (Zci (ZgM hji hE2).2).1
     have hf21:FvOk (fvR r21):=by rw [← hr21]; exact ZlJ hft (by omega) (by omega) (by rw [hr21]; exact he21)
     refine xqd 98 [.agg #[.bool t.s, .slice t.A t.l t.c, .int .i64 t.e], .int .i64 ((b:Nat):Int)] 71 (fun q:ShN=>.tuple #[.agg #[.bool r21.s, .slice q.1 q.2.1 q.2.2, .int .i64 r21.e], .int .i64 0]) _ (fun w R Q=>((show Calls _ _ _ _ (ZaH w r21) from by rw [← hr21]; exact ZnZ t.s t.A t.l t.c t.m t.e b (by omega) (by omega) _ (hg.ext R) Q.1.2 hft.wl hft.lo hft.hi hft.2.2.1)).mono (fun _ _ h=>ZgL he21 h)) (fun xx=>?_)
     obtain ⟨A21,l21,c21⟩:=xx
     refine xqg 2 [(72, .v (.agg #[.bool r21.s, .slice A21 l21 c21, .int .i64 r21.e])),(73, .v (.int .i64 0))] ?_
     refine xqd 90 [.agg #[.bool r21.s, .slice A21 l21 c21, .int .i64 r21.e], .int .i64 0] 74 (fun _:Unit=>.agg #[.bool r21.s, .slice A21 l21 c21, .int .i64 r21.e]) _ (fun w R Q=>(ZgJ r21.s A21 l21 c21 r21.e _).mono (fun _ _ h=>Zam h rfl)) (fun xx=>?_)
     refine xz ?_
     refine Zlc (b:=b10) (d:=75) (j:=0) (c:=.bool ys[0]!.s) 83 [.agg #[.int .i64 ((n:Nat):Int), .int .i64 ((n:Nat):Int), .slice (some ⟨b10,0,none⟩) (n * n) (n * n)], .int .i64 ((j:Nat):Int), .int .i64 ((j:Nat):Int), .agg #[.bool r21.s, .slice A21 l21 c21, .int .i64 r21.e]] (fun _:Unit=>.tuple #[]) (fun w=>((Blk 97 w gm #[.int .i64 ((n:Nat):Int), .int .i64 ((n:Nat):Int), .slice A (n * n) cap]∧Blk 3 w gb #[.int .i64 ((b:Nat):Int)])∧ZaG w (ys.set (j * n + j) (⟨r21.s,A21,l21,c21,r21.m,r21.e⟩:Nb)))) (fun _ w=>OwnD w m0 109 3 (some ⟨b10,0,none⟩) (n * n) (n * n) ((ys.set (j * n + j) (⟨r21.s,A21,l21,c21,r21.m,r21.e⟩:Nb)).flatMap nbC)) (fun w Q=>Zkg Q.1.1.1.1.2 (by rw [hys]; have:=(ZbH hjn hjn); omega)) (Or.inl (hm0 ▸ hb10)) (fun w R Q=>(ZlF m0 n n b10 (n * n) (n * n) ys j j (⟨r21.s,A21,l21,c21,r21.m,r21.e⟩:Nb) _ Q.1.1.1.1.2 hys (by omega) (by omega) (ZbH hjn hjn) (by omega)).mono (fun _ _=>ZlM)) (fun w w' R Q hF=>⟨⟨Blk.fr Q.1.1.1.1.1.1.1 hF (fun h=>by have h:gm=b10:=h; omega),Blk.fr Q.1.1.1.1.1.1.2 hF (fun h=>by have h:gb=b10:=h; omega)⟩,ZaG.set (ZaG.nrb Q.1.1.1.1.1.2 (fun i e=>by subst e; exact OwnD.nrb Q.1.1.1.1.2 rfl) hF) (Zad.nrb Q.1.2 (fun i e=>by subst e; exact OwnD.nrb Q.1.1.1.1.2 rfl) hF)⟩) (fun _=>?_)
     refine xr 0 [(0, .v (.pointer (some ⟨gm,0,none⟩))),(1, .v (.pointer (some ⟨gb,0,none⟩))),(2, .p 2 0),(3, .p 3 0),(4, .v (.int .i64 ((j:Nat):Int))),(5, .v (.int .i64 ((i:Nat):Int))),(14, .v (.int .i64 ((n:Nat):Int))),(15, .v (.int .i64 ((j:Nat):Int)))] [(3,97,[.v (.int .i64 ((n:Nat):Int)), .v (.int .i64 ((n:Nat):Int)), .v (.slice (some ⟨b10,0,none⟩) (n * n) (n * n))]),(2,97,[.v (.int .i64 0), .v (.int .i64 0), .v (.slice none 0 0)])] ?_
     refine xe (ZaO (Zaa (Zab (xq 2 [(24, .v (.int .i64 (IntKind.i64.wrap (((i:Nat):Int) + 1))))] [] ?_))))
     rw [show IntKind.i64.wrap ((((i:Nat):Int) + 1))=((i + 1:Nat):Int) from by rw [IntKind.wrap_i64]; omega]
     refine xq 1 [(5, .v (.int .i64 ((i + 1:Nat):Int)))] [] ?_
     refine xe ?_
     refine SXq.weak [(0, .v (.pointer (some ⟨gm,0,none⟩))),(1, .v (.pointer (some ⟨gb,0,none⟩))),(2, .p 2 0),(3, .p 3 0),(4, .v (.int .i64 ((j:Nat):Int))),(5, .v (.int .i64 (((i + 1):Nat):Int))),(14, .v (.int .i64 ((n:Nat):Int))),(15, .v (.int .i64 ((j:Nat):Int)))] [(3,97,[.v (.int .i64 ((n:Nat):Int)), .v (.int .i64 ((n:Nat):Int)), .v (.slice (some ⟨b10,0,none⟩) (n * n) (n * n))]),(2,97,[.v (.int .i64 0), .v (.int .i64 0), .v (.slice none 0 0)])] (Ψ:=fun w=>(((Blk 97 w gm #[.int .i64 ((n:Nat):Int), .int .i64 ((n:Nat):Int), .slice A (n * n) cap]∧Blk 3 w gb #[.int .i64 ((b:Nat):Int)])∧ZaG w (ys.set (j * n + j) (⟨r21.s,A21,l21,c21,r21.m,r21.e⟩:Nb)))∧OwnD w m0 109 3 (some ⟨b10,0,none⟩) (n * n) (n * n) ((ys.set (j * n + j) (⟨r21.s,A21,l21,c21,r21.m,r21.e⟩:Nb)).flatMap nbC))) (Zax.of (by kernel_rfl)) (by kernel_rfl) (fun w Q=>⟨⟨⟨Q.1.1.1,Q.1.1.2⟩,Q.1.2⟩,Q.2⟩) ?_
     exact ZaF ((1 + (n - (i + 1)))) (by omega) ⟨(i + 1),(ys.set (j * n + j) (⟨r21.s,A21,l21,c21,r21.m,r21.e⟩:Nb)),rfl,rfl,(by omega),hin,(by rw [List.length_set]; exact hys),(Zpp hfy (show FvOk (nbV (⟨r21.s,A21,l21,c21,r21.m,r21.e⟩:Nb)) from hf21)),(by rw [List.map_set,show nbV (⟨r21.s,A21,l21,c21,r21.m,r21.e⟩:Nb)=u from ((Zci (ZgM hji hE2).2).2.trans (by rw [hr21]; rfl)).symm]; have h:=hI2; rw [hij] at h ⊢; exact h),rfl⟩
  ·have hie:i=n:=by have:=of_decide_eq_false hb12; omega
   have hL1:ys.map nbV=L1:=by rw [hie,Nat.sub_self] at hI; injection hI
   refine ZaM (Zaj (Zaj (ZaV (ZaO (Zaa (Zab (xq 1 [(76, .v (.int .i64 (IntKind.i64.wrap (((j:Nat):Int) + 1))))] [] ?_)))))))
   rw [show IntKind.i64.wrap ((((j:Nat):Int) + 1))=((j + 1:Nat):Int) from by rw [IntKind.wrap_i64]; omega]
   refine xq 1 [(15, .v (.int .i64 ((j + 1:Nat):Int)))] [] ?_
   refine xe ?_
   refine SXq.weak [(0, .v (.pointer (some ⟨gm,0,none⟩))),(1, .v (.pointer (some ⟨gb,0,none⟩))),(2, .p 2 0),(3, .p 3 0),(14, .v (.int .i64 ((n:Nat):Int))),(15, .v (.int .i64 (((j + 1):Nat):Int)))] [(3,97,[.v (.int .i64 ((n:Nat):Int)), .v (.int .i64 ((n:Nat):Int)), .v (.slice (some ⟨b10,0,none⟩) (n * n) (n * n))]),(2,97,[.v (.int .i64 0), .v (.int .i64 0), .v (.slice none 0 0)])] (Ψ:=fun w=>(((Blk 97 w gm #[.int .i64 ((n:Nat):Int), .int .i64 ((n:Nat):Int), .slice A (n * n) cap]∧Blk 3 w gb #[.int .i64 ((b:Nat):Int)])∧ZaG w ys)∧OwnD w m0 109 3 (some ⟨b10,0,none⟩) (n * n) (n * n) (ys.flatMap nbC))) (Zax.of (by kernel_rfl)) (by kernel_rfl) (fun w Q=>⟨⟨⟨Q.1.1.1,Q.1.1.2⟩,Q.1.2⟩,Q.2⟩) ?_
   exact ZaF ((1 + (n - (j + 1)))) (by omega) ⟨(j + 1),ys,rfl,rfl,hjn,hys,hfy,(by rw [hL1]; exact hJ),rfl⟩
 ·have hje:j=n:=by have:=of_decide_eq_false hb11; omega
  refine ZaM (Zaj (Zaj (ZaV (Zaa (Zac (Zab (xq 2 [] [(2,97,[.v (.int .i64 ((n:Nat):Int)), .v (.int .i64 ((n:Nat):Int)), .v (.slice (some ⟨b10,0,none⟩) (n * n) (n * n))])] ?_)))))))
  refine xe (Zaa (Zag ?_))
  refine Zaf (v:=.agg #[.int .i64 ((n:Nat):Int), .int .i64 ((n:Nat):Int), .slice (some ⟨b10,0,none⟩) (n * n) (n * n)]) (by kernel_rfl) (fun w' R Q=>?_)
  exact ⟨b10,ys,by rw [hys],by rw [hje,Nat.sub_self] at hL; injection hL,by rw [hys]; exact hm0 ▸ Q.2,Q.1.2,R⟩
end Go.Proofs.YtenchljfmfgeoaaGreatDoor
