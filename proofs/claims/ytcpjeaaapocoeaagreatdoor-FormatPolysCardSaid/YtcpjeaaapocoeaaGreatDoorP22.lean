/-
 My texts Wr, Wr2, Rpo put together.
-/
import Derived.Test.YtcpjeaaapocoeaaGreatDoorP21
import Derived.Test.YtcpjeaaapocoeaaGreatDoorP19
import Derived.Test.YtcpjeaaapocoeaaGreatDoorP17
set_option maxRecDepth 100000
namespace Go.Proofs.YtcpjeaaapocoeaaGreatDoor
open Go.RowKit
set_option maxHeartbeats 1000000 in
theorem ZnC (lo b:Nat) (l:List UInt8) (w:World) (h:WrIs lo b l w) (h0:l≠[]) (hl:l.length≤1048576) :
 Calls Tryz.prog 46 #[.pointer (some ⟨b,0,none⟩)] w fun e w'=>e=.returned (.tuple #[.string ⟨l.toArray⟩, .int .i64 0])∧WrFr lo b w w':=by
 have H:=zh h
 have HL:((l.length:Nat):Int)≤1048576:=by omega
 clear h
 go_enter Tryz.func46,Tryz.ntmps46
 go_wp2_with fail
 refine (Zmw lo b l _ H.out).mono ?_
 rintro e w1 ⟨rfl,rfl⟩
 go_wp2_with fail
 refine (Zom lo b l _ H.out h0).mono ?_
 rintro e w2 ⟨rfl,hF⟩
 have HF:=zh hF
 clear hF
 go_wp2
 go_ret2
 exact ⟨rfl,HF.out⟩
theorem Zlw (v:Int) (ts:List TermR):ZaI v ts≠[]:=by
 unfold ZaI Zax
 simp
theorem ZaF.range {v:Int} {t:TermR} (h:ZaF v t=true) (hv:v≤6):t.exps.length≤6∧∀ j,j < t.exps.length→Zdc (nth t.exps j):=by
 have h1:=ZaF.exp h hv
 exact ⟨h1.1.1,fun j _=>by have:=h1.1.2 j; unfold Zdc; omega⟩
theorem ZaG.parts {v:Int} {ts:List TermR} (h:ZaG v ts=true):(0≤v∧v≤6)∧ts.length≤4096∧wfT v ts ts.length=true:=by
 unfold ZaG at h
 simp only [Bool.and_eq_true,decide_eq_true_eq] at h
 exact ⟨⟨h.2.1,h.2.2.1⟩,h.1,h.2.2.2.1⟩
theorem WrIs.new {w:World} {lo b:Nat} (hb:lo≤b) (h:Blk 119 w b #[.pointer none, .slice none 0 0]):WrIs lo b [] w :=
 ⟨.pointer none,Or.inl rfl,hb, .slice none 0 0,h,World.ownsRow_nil w lo 5 1,fun e=>by cases e⟩
end Go.Proofs.YtcpjeaaapocoeaaGreatDoor

namespace Go.Proofs.YtcpjeaaapocoeaaGreatDoor
open Go.RowKit
def fpV (v:Int) (ts:List TermR):Value:=if ZaG v ts then .tuple #[.string ⟨(ZaI v ts).toArray⟩, .int .i64 0] else .tuple #[.string ⟨#[]⟩, .int .i64 1]
def kts (b1 b2:Nat):List TermR:=[⟨⟨#[50]⟩,some ⟨b1,0,none⟩,2,[1,1]⟩,⟨⟨#[45,49]⟩,some ⟨b2,0,none⟩,2,[0,0]⟩]
theorem ZgS {p:Nat→Prop} (h0:p 0) (h1:p 1) {i:Nat} (h:i < 2):p i:=by
 match i,h with
 | 0,_=>exact h0
 | 1,_=>exact h1
theorem ZqG {w:World} {b1 b2 b3:Nat} (h1:Blk 3 w b1 #[.int .i64 1, .int .i64 1]) (h2:Blk 3 w b2 #[.int .i64 0, .int .i64 0]) (h3:Blk 53 w b3 #[.string ⟨#[50]⟩, .slice (some ⟨b1,0,none⟩) 2 2, .string ⟨#[45,49]⟩, .slice (some ⟨b2,0,none⟩) 2 2]):TRow w (some ⟨b3,0,none⟩) (kts b1 b2):=fun i hi=>by
 refine ZgS (p:=fun i=>∃ b off,some (⟨b3,0,none⟩:Addr)=some ⟨b,off,none⟩∧b < w.heap.size∧w.cell? ⟨b,off + i * 2,none⟩=some (.string (kts b1 b2)[i]!.coef)∧w.cell? ⟨b,off + i * 2 + 1,none⟩=some (.slice (kts b1 b2)[i]!.A (kts b1 b2)[i]!.exps.length (kts b1 b2)[i]!.cap)∧IRow w (kts b1 b2)[i]!.A (kts b1 b2)[i]!.exps) ?_ ?_ hi
 ·exact ⟨b3,0,rfl,h3.lt,by rw [h3.cell]; rfl,by rw [h3.cell]; rfl,IRow.two h1⟩
 ·exact ⟨b3,0,rfl,h3.lt,by rw [h3.cell]; rfl,by rw [h3.cell]; rfl,IRow.two h2⟩
theorem ZpT {b1 b2 i:Nat} (hi:i < (kts b1 b2).length):(bytes (kts b1 b2)[i]!.coef).length=if i=0 then 1 else 2:=ZgS (p:=fun i=>(bytes (kts b1 b2)[i]!.coef).length=if i=0 then 1 else 2) rfl rfl hi
theorem ZqH {b1 b2 i:Nat} (hi:i < (kts b1 b2).length):(kts b1 b2)[i]!.exps.length=2:=ZgS (p:=fun i=>(kts b1 b2)[i]!.exps.length=2) rfl rfl hi
theorem ZgT {n:Nat} (h:n < 10):Zaf (n:Int)=⟨#[UInt8.ofNat (48 + n)]⟩:=by
 unfold Zaf; rw [Lib.itoa_nonneg,Lib.decDigits_one h]
theorem Zlx (b1 b2:Nat):ZaI 2 (kts b1 b2)=[112,111,108,121,32,50,32,50,10,116,101,114,109,32,50,32,49,32,49,10,116,101,114,109,32,45,49,32,48,32,48,10]:=by
 have e0:Zaf 0=⟨#[48]⟩:=ZgT (n:=0) (by decide)
 have e1:Zaf 1=⟨#[49]⟩:=ZgT (n:=1) (by decide)
 have e2:Zaf 2=⟨#[50]⟩:=ZgT (n:=2) (by decide)
 have e3:Zaf (((kts b1 b2).length:Nat):Int)=⟨#[50]⟩:=e2
 unfold ZaI ZaR
 rw [e3,e2]
 simp only [kts,List.flatMap_cons,List.flatMap_nil,List.map_cons,List.map_nil,e0,e1]
 rfl
theorem Zre (b1 b2:Nat):ZaG 2 (kts b1 b2)=true:=by
 have r1:ZaB (bytes ⟨#[50]⟩)=some 2:=Zh3.2 (by
  unfold ZaA; rw [if_pos (by rfl)]; exact (Lib.itoa_nonneg 2).trans (Lib.decDigits_one (by decide)))
 have r2:ZaB (bytes ⟨#[45,49]⟩)=some (-1):=Zh3.2 (by
  unfold ZaA; rw [if_pos (by rfl)]; exact (Lib.itoa_neg 1 (by decide)).trans (congrArg (fun l=>45 :: l) (Lib.decDigits_one (by decide))))
 have c1:Zem (bytes ⟨#[50]⟩)=true:=by unfold Zem; rw [r1]; rfl
 have c2:Zem (bytes ⟨#[45,49]⟩)=true:=by unfold Zem; rw [r2]; rfl
 have t1:ZaF 2 (kts b1 b2)[0]! = true:=by
  unfold ZaF
  rw [show (kts b1 b2)[0]!.coef=⟨#[50]⟩ from rfl,c1]; rfl
 have t2:ZaF 2 (kts b1 b2)[1]! = true:=by
  unfold ZaF
  rw [show (kts b1 b2)[1]!.coef=⟨#[45,49]⟩ from rfl,c2]; rfl
 unfold ZaG
 rw [show (kts b1 b2).length=2 from rfl]
 unfold wfT wfT
 rw [t1,t2]
 rfl
theorem ZqI (b1 b2:Nat):fpV 2 (kts b1 b2)=.tuple #[.string ⟨#[112,111,108,121,32,50,32,50,10,116,101,114,109,32,50,32,49,32,49,10,116,101,114,109,32,45,49,32,48,32,48,10]⟩, .int .i64 0]:=by
 unfold fpV; rw [if_pos (Zre b1 b2),Zlx]
theorem ZgU (A:Option Addr) (c:Nat) (ts:List TermR) (v:Int) (w:World) (hg:Glob w) (hT:TRow w A ts) (hc:∀ i,i < ts.length→(bytes ts[i]!.coef).length≤570) (hx:∀ i,i < ts.length→ts[i]!.exps.length≤9223372036854775807) (hl:ZaG v ts=true→(ZaI v ts).length≤1048576) :
 Calls Tryz.prog 20 #[.agg #[.int .i64 v, .slice A ts.length c]] w (RetV w (fpV v ts)):=by
 refine Za6 (Φ:=fun w=>(Glob w∧TRow w A ts)) Tryz.func20 rfl (by kernel_rfl) (fun w' hf=>⟨hg.ext hf,hT.ext hf⟩) ?_
 refine Zac (Zab (xq 3 [(1, .p 1 0),(2, .v (.string ⟨#[]⟩)),(3, .v (.int .i64 0))] [(1,43,[.v (.int .i64 v), .v (.slice A ts.length c)])] ?_))
 refine xe (Zaa (Zac (Zac (Zab (xq 1 [(5, .v (.agg #[.int .i64 v, .slice A ts.length c]))] [] ?_)))))
 cases hok:ZaG v ts
 ·refine xqc 63 [.agg #[.int .i64 v, .slice A ts.length c]] 6 (fun _:Unit=>.bool false) _ (fun w R Q=>(ZfY A c ts v _ Q.1 Q.2 hc hx).mono (fun _ _ h=>Zay h (by rw [hok]))) (fun xx=>?_)
  refine xq 1 [(7, .v (.bool true))] [] ?_
  refine xe (Zaa (xa (Zac (Zab (xq 2 [(2, .v (.string ⟨#[]⟩)),(3, .v (.int .i64 1))] [] ?_)))))
  refine xe (Zaa (Zau (Zae ?_)))
  refine Zai (v:=.tuple #[.string ⟨#[]⟩, .int .i64 1]) (by kernel_rfl) (fun w' R Q=>?_)
  exact ⟨by unfold fpV; rw [hok]; rfl,R⟩
 ·refine xqc 63 [.agg #[.int .i64 v, .slice A ts.length c]] 6 (fun _:Unit=>.bool true) _ (fun w R Q=>(ZfY A c ts v _ Q.1 Q.2 hc hx).mono (fun _ _ h=>Zay h (by rw [hok]))) (fun xx=>?_)
  refine xq 1 [(7, .v (.bool false))] [] ?_
  refine xe (Zaa (xb (Zav (Zaa (Zac (Zab (xq 3 [(4, .p 9 0)] [(9,119,[.v (.pointer none), .v (.slice none 0 0)])] ?_)))))))
  refine xe (Zaa (Zac ?_))
  refine SXc.freezeN 9 119 [.pointer none, .slice none 0 0] (fun gw=>[(1, .p 1 0),(2, .v (.string ⟨#[]⟩)),(3, .v (.int .i64 0)),(4, .v (.pointer (some ⟨gw,0,none⟩)))]) [(1,43,[.v (.int .i64 v), .v (.slice A ts.length c)])] (by kernel_rfl) (fun _=>by kernel_rfl) (by kernel_rfl) (by kernel_rfl) (fun _=>by kernel_rfl) (fun gw hgw0=>?_)
  have hgw:w.heap.size≤gw:=hgw0.resolve_right (fun f=>f)
  have hp:=ZaG.parts hok
  refine Zab (xq 2 [(10, .v (.pointer (some ⟨gw,0,none⟩))),(11, .v (.agg #[.int .i64 v, .slice A ts.length c]))] [] ?_)
  refine ZhX (d:=12) (lo:=w.heap.size) (g:=gw) (l:=[]) (v:=.tuple #[]) (fun w1=>WrIs w.heap.size gw (ZaI v ts) w1) 64 [.pointer (some ⟨gw,0,none⟩), .agg #[.int .i64 v, .slice A ts.length c]] (fun _ _ h k=>WrFr.old h hgw k) (by kernel_rfl) (fun w1 R Q=>ZoP w w.heap.size gw [] A c ts v w1 rfl hgw hg hT R (WrIs.new hgw Q.2) (by unfold Zdc; omega) (fun i hi=>ZaF.range (Zdz hp.2.2 hi) hp.1.2) hp.2.1 (hl hok)) (fun w1 Q=>WrIs.new hgw Q.2) (fun _ _ _ hW hf h1 h2=>hW.fr hf h1 h2) ?_
  refine xr 0 [(2, .v (.string ⟨#[]⟩)),(3, .v (.int .i64 0)),(4, .v (.pointer (some ⟨gw,0,none⟩)))] [] ?_
  refine xe (Zaa (Zac (Zab (xq 1 [(13, .v (.pointer (some ⟨gw,0,none⟩)))] [] ?_))))
  refine ZhX (d:=14) (lo:=w.heap.size) (g:=gw) (l:=ZaI v ts) (v:=.tuple #[.string ⟨(ZaI v ts).toArray⟩, .int .i64 0]) (fun _=>True) 46 [.pointer (some ⟨gw,0,none⟩)] (fun _ _ h k=>WrFr.old h hgw k) (by kernel_rfl) (fun w1 R Q=>(ZnC w.heap.size gw (ZaI v ts) w1 Q (Zlw v ts) (hl hok)).mono (fun _ _ h=>⟨h.1,trivial,h.2⟩)) (fun w1 Q=>Q) (fun _ _ _ _ _ _ _=>trivial) ?_
  refine xr 4 [(2, .v (.string ⟨(ZaI v ts).toArray⟩)),(3, .v (.int .i64 0))] [] ?_
  refine xe (Zaa (Zau ?_))
  refine Zai (v:=.tuple #[.string ⟨(ZaI v ts).toArray⟩, .int .i64 0]) (by kernel_rfl) (fun w' R Q=>?_)
  exact ⟨by unfold fpV; rw [hok]; rfl,R⟩
theorem Zdp (w:World) (hg:Glob w) :
 Calls Tryz.prog 15 #[] w (RetV w (.bool true)):=by
 refine Za6 (Φ:=fun w=>Glob w) Tryz.func15 rfl (by kernel_rfl) (fun w' hf=>hg.ext hf) ?_
 refine Zac (Zab (xq 1 [(0, .v (.bool false))] [] ?_))
 refine xe (Zaa (Zac (Zab ?_)))
 refine ZcU (d:=4) (fun zb:Nat=>.slice (some ⟨zb,0,none⟩) 2 2) (fun zb zw=>Blk 3 zw zb #[.int .i64 1, .int .i64 1]) (by kernel_rfl) (by kernel_rfl) (by kernel_rfl) (by kernel_rfl) (by kernel_rfl) (by kernel_rfl) (fun w R Q=>Zbs (t:=22) (e:=3) (n:=2) (sz:=1) (z:=.int .i64 0) (parts:=#[(0,Operand.const (Value.int IntKind.i64 1)),(1,Operand.const (Value.int IntKind.i64 1))]) (by kernel_rfl) (by kernel_rfl) (by kernel_rfl) (by kernel_rfl) (by kernel_rfl) (by kernel_rfl)) (fun b10=>?_)
 refine xr 1 [(0, .v (.bool false)),(5, .v (.agg #[.string ⟨#[50]⟩, .slice (some ⟨b10,0,none⟩) 2 2]))] [] ?_
 refine ZcU (d:=6) (fun zb:Nat=>.slice (some ⟨zb,0,none⟩) 2 2) (fun zb zw=>Blk 3 zw zb #[.int .i64 0, .int .i64 0]) (by kernel_rfl) (by kernel_rfl) (by kernel_rfl) (by kernel_rfl) (by kernel_rfl) (by kernel_rfl) (fun w R Q=>Zbs (t:=22) (e:=3) (n:=2) (sz:=1) (z:=.int .i64 0) (parts:=#[(0,Operand.const (Value.int IntKind.i64 0)),(1,Operand.const (Value.int IntKind.i64 0))]) (by kernel_rfl) (by kernel_rfl) (by kernel_rfl) (by kernel_rfl) (by kernel_rfl) (by kernel_rfl)) (fun b11=>?_)
 refine xr 1 [(0, .v (.bool false)),(5, .v (.agg #[.string ⟨#[50]⟩, .slice (some ⟨b10,0,none⟩) 2 2])),(7, .v (.agg #[.string ⟨#[45,49]⟩, .slice (some ⟨b11,0,none⟩) 2 2]))] [] ?_
 refine ZcU (d:=8) (fun zb:Nat=>.slice (some ⟨zb,0,none⟩) 2 2) (fun zb zw=>Blk 53 zw zb #[.string ⟨#[50]⟩, .slice (some ⟨b10,0,none⟩) 2 2, .string ⟨#[45,49]⟩, .slice (some ⟨b11,0,none⟩) 2 2]) (by kernel_rfl) (by kernel_rfl) (by kernel_rfl) (by kernel_rfl) (by kernel_rfl) (by kernel_rfl) (fun w R Q=>Zbs (t:=41) (e:=53) (n:=2) (sz:=2) (z:=.agg #[.string ⟨#[]⟩, .slice none 0 0]) (parts:=#[(0,Operand.tmp 5),(1,Operand.tmp 7)]) (by kernel_rfl) (by kernel_rfl) (by kernel_rfl) (by kernel_rfl) (by kernel_rfl) (by kernel_rfl)) (fun b12=>?_)
 refine xr 1 [(0, .v (.bool false)),(9, .v (.agg #[.int .i64 2, .slice (some ⟨b12,0,none⟩) 2 2]))] [] ?_
 refine xqc 20 [.agg #[.int .i64 2, .slice (some ⟨b12,0,none⟩) 2 2]] 10 (fun _:Unit=>.tuple #[.string ⟨#[112,111,108,121,32,50,32,50,10,116,101,114,109,32,50,32,49,32,49,10,116,101,114,109,32,45,49,32,48,32,48,10]⟩, .int .i64 0]) _ (fun w R Q=>(ZgU (some ⟨b12,0,none⟩) 2 (kts b10 b11) 2 _ Q.1.1.1 (ZqG Q.1.1.2 Q.1.2 Q.2) (fun i hi=>by rw [ZpT hi]; split<;>decide) (fun i hi=>by rw [ZqH hi]; decide) (fun _=>by rw [Zlx]; decide)).mono (fun _ _ h=>Zay h (ZqI _ _))) (fun xx=>?_)
 refine xq 5 [(1, .v (.string ⟨#[112,111,108,121,32,50,32,50,10,116,101,114,109,32,50,32,49,32,49,10,116,101,114,109,32,45,49,32,48,32,48,10]⟩)),(2, .v (.int .i64 0))] [] ?_
 refine xe (Zaa (Zac (Zab (xq 5 [(15, .v (.bool true)),(17, .v (.bool ((⟨#[112,111,108,121,32,50,32,50,10,116,101,114,109,32,50,32,49,32,49,10,116,101,114,109,32,45,49,32,48,32,48,10]⟩:ByteArray).toList == (⟨#[112,111,108,121,32,50,32,50,10,116,101,114,109,32,50,32,49,32,49,10,116,101,114,109,32,45,49,32,48,32,48,10]⟩:ByteArray).toList)))] [] ?_))))
 rw [ZfJ]
 refine xq 2 [(0, .v (.bool true))] [] ?_
 refine xe (Zaa (Zau ?_))
 refine Zai (v:=.bool true) (by kernel_rfl) (fun w' R Q=>?_)
 exact ⟨rfl,R⟩
end Go.Proofs.YtcpjeaaapocoeaaGreatDoor

namespace Go.Proofs.YtcpjeaaapocoeaaGreatDoor
open Go.RowKit
theorem ZnH (p:Value) (s:ByteArray) (q:Rat) (w:World) (hg:Glob w) (hs:(bytes s).length≤570) (h:ZaB (bytes s)=some q) :
 Calls Tryz.prog 142 #[p, .string s] w (RetV w (.string s)):=by
 have hv:=ZoU s w hg hs
 rw [h] at hv
 clear h hs hg
 go_enter Tryz.func142,Tryz.ntmps142
 go_wp2_with fail
 refine hv.mono ?_
 rintro e w1 ⟨rfl,Q⟩
 have HE:=zh Q
 clear hv Q
 go_wp2_with fail
 refine (Zbt _ _).mono ?_
 rintro e w2 ⟨rfl,rfl⟩
 go_wp2
 go_ret
 exact ⟨rfl,HE.out⟩
theorem ZmX (b:Nat) (s k:ByteArray) (ss:List ByteArray) (p q n:Nat) (m:Int) (w:World) (hB:RdAt w b s p) (hL:LineAt s p k ss) (hs:s.size≤1048576) (hm:((n:Nat):Int)=m) (hn:ss.length=n) (hq:p + (Zax k ss).length=q) :
 Calls Tryz.prog 141 #[.pointer (some ⟨b,0,none⟩), .string k, .int .i64 m] w fun e w'=>∃ A,e=.returned (.slice A n n)∧Fr (fun i=>i=b) w w'∧BoxF b w w' (fun w=>RdAt w b s q∧SRow w A ss):=by
 subst hn hq
 exact ZoN b s k ss p m w hB hL hs hm
theorem RdAt.cell0 {w:World} {b p:Nat} {s:ByteArray} (h:RdAt w b s p):w.cell? ⟨b,0,none⟩=some (.string s):=by rw [Blk.cell h]; rfl
-- the words of a valid polynomial's text
theorem Zi0 {z:Int} (h:0≤z):∀ x ∈ bytes (Zaf z),48≤x.toNat∧x.toNat≤57:=fun x hx=>by
 have hx':x ∈ Lib.itoa z:=hx
 rw [ZdW h] at hx'
 exact ZgO _ x hx'
theorem Zep {l:List UInt8} {c:UInt8} (h:∀ x ∈ l,x.toNat≠c.toNat):c ∉ l:=fun hc=>h c hc rfl
theorem Zi1 {s:ByteArray} {q:Rat} (h:ZaB (bytes s)=some q):∀ x ∈ bytes s,x.toNat=45∨x.toNat=47∨(48≤x.toNat∧x.toNat≤57):=by
 have e:=Zh3.1 h
 have hit:∀ (z:Int),∀ x ∈ Lib.itoa z,x.toNat=45∨x.toNat=47∨(48≤x.toNat∧x.toNat≤57):=fun z x hx=>by
  unfold Lib.itoa at hx
  split at hx
  ·rcases List.mem_cons.1 hx with rfl | hx
   ·left; rfl
   ·right; right; exact ZgO _ x hx
  ·right; right; exact ZgO _ x hx
 intro x hx
 rw [← e] at hx
 unfold ZaA at hx
 split at hx
 ·exact hit _ x hx
 ·rcases List.mem_append.1 hx with hx | hx
  ·rcases List.mem_append.1 hx with hx | hx
   ·exact hit _ x hx
   ·obtain rfl:=List.mem_singleton.1 hx
    right; left; rfl
  ·exact hit _ x hx
def ZgV (s:ByteArray):Prop:=(32:UInt8) ∉ bytes s∧(10:UInt8) ∉ bytes s
theorem ZgV.itoa {z:Int} (h:0≤z):ZgV (Zaf z) :=
 ⟨Zep (fun x hx=>by have:=Zi0 h x hx; have h2:(32:UInt8).toNat=32:=rfl; omega),Zep (fun x hx=>by have:=Zi0 h x hx; have h2:(10:UInt8).toNat=10:=rfl; omega)⟩
theorem ZgV.coef {s:ByteArray} {q:Rat} (h:ZaB (bytes s)=some q):ZgV s :=
 ⟨Zep (fun x hx=>by have:=Zi1 h x hx; have h2:(32:UInt8).toNat=32:=rfl; omega),Zep (fun x hx=>by have:=Zi1 h x hx; have h2:(10:UInt8).toNat=10:=rfl; omega)⟩
theorem LineAt.of {s k:ByteArray} {ss:List ByteArray} {pre r:List UInt8} {p:Nat} (hs:s.data.toList=pre ++ (Zax k ss ++ r)) (hp:pre.length=p) (h:∀ x ∈ k :: ss,ZgV x):LineAt s p k ss:=by
 subst hp
 refine ⟨⟨r,?_⟩,fun x hx=>(h x hx).1,fun x hx=>(h x hx).2⟩
 rw [hs,List.drop_left']
 ·unfold Zax; simp
 ·rfl
def posT (v:Int) (ts:List TermR) (j:Nat):Nat:=(Zax ZaW [Zaf v,Zaf ((ts.length:Nat):Int)] ++ (ts.take j).flatMap ZaR).length
theorem ZoV (v:Int) (ts:List TermR):0 + (Zax ZaW [Zaf v,Zaf ((ts.length:Nat):Int)]).length=posT v ts 0:=by unfold posT; simp
theorem ZoW {v:Int} {ts:List TermR} {j:Nat} {t:TermR} (hlt:j < ts.length) (ht:ts[j]! = t):posT v ts j + (Zax Zci (t.coef :: t.exps.map Zaf)).length=posT v ts (j + 1):=by
 unfold posT
 rw [ZdI hlt ht,← List.append_assoc,List.length_append (bs:=ZaR t)]
 rfl
theorem ZpU {v:Int} {ts:List TermR} {s:ByteArray} (hs:s.data.toList=ZaI v ts) {j:Nat} (hj:ts.length≤j):posT v ts j=s.size:=by
 unfold posT
 rw [List.take_of_length_le hj,← Zag s,show bytes s=ZaI v ts from hs]
 rfl
theorem ZoX {v:Int} {ts:List TermR} {s:ByteArray} (hs:s.data.toList=ZaI v ts) (hv:0≤v):LineAt s 0 ZaW [Zaf v,Zaf ((ts.length:Nat):Int)]:=by
 refine LineAt.of (pre:=[]) (r:=ts.flatMap ZaR) (by rw [hs]; rfl) rfl (fun x hx=>?_)
 simp only [List.mem_cons,List.not_mem_nil,or_false] at hx
 rcases hx with rfl | rfl | rfl
 ·exact ⟨by decide,by decide⟩
 ·exact .itoa hv
 ·exact .itoa (by omega)
theorem ZoY {v:Int} {ts:List TermR} {s:ByteArray} {j:Nat} {t:TermR} {q:Rat} (hs:s.data.toList=ZaI v ts) (hlt:j < ts.length) (ht:ts[j]! = t) (hq:ZaB (bytes t.coef)=some q) (he:∀ i,i < t.exps.length→0≤nth t.exps i):LineAt s (posT v ts j) Zci (t.coef :: t.exps.map Zaf):=by
 refine LineAt.of (pre:=Zax ZaW [Zaf v,Zaf ((ts.length:Nat):Int)] ++ (ts.take j).flatMap ZaR) (r:=(ts.drop (j + 1)).flatMap ZaR) ?_ rfl (fun x hx=>?_)
 ·rw [hs]
  unfold ZaI
  rw [List.append_assoc]
  congr 1
  conv=>lhs; rw [← List.take_append_drop j ts,List.flatMap_append,List.drop_eq_getElem_cons hlt]
  rw [List.flatMap_cons,← getElem!_pos ts j hlt,ht]
  rfl
 ·rcases List.mem_cons.1 hx with rfl | hx
  ·exact ⟨by decide,by decide⟩
  rcases List.mem_cons.1 hx with rfl | hx
  ·exact .coef hq
  ·obtain ⟨z,hz,rfl⟩:=List.mem_map.1 hx
   obtain ⟨i,hi,e⟩:=List.getElem_of_mem hz
   have:=he i hi
   unfold nth at this
   rw [List.getElem?_eq_getElem hi,e] at this
   exact .itoa this
-- the terms that were read
def keyT (t:TermR):ByteArray × List Int:=(t.coef,t.exps)
def Zdq (us:List TermR):List Value:=us.flatMap (fun t=>[.string t.coef, .slice t.A t.exps.length t.cap])
theorem Zmh (us:List TermR) (t:TermR):Zdq (us ++ [t])=Zdq us ++ [.string t.coef, .slice t.A t.exps.length t.cap]:=by unfold Zdq; simp
def IEs (m0:Nat) (w:World) (us:List TermR):Prop:=∀ t ∈ us,∃ e,m0≤e∧t.A=some ⟨e,0,none⟩∧Blk 3 w e (Zcd t.exps)
theorem IEs.nil (m0:Nat) (w:World):IEs m0 w []:=fun t h=>by cases h
theorem IEs.fr {m0:Nat} {w w':World} {us:List TermR} {T:Nat→Prop} (h:IEs m0 w us) (hF:Fr T w w') (hT:∀ i,T i→i < m0):IEs m0 w' us:=fun t ht=>by
 obtain ⟨e,h1,h2,h3⟩:=h t ht
 exact ⟨e,h1,h2,h3.fr hF (fun h=>by have:=hT _ h; omega)⟩
theorem IEs.ext {m0:Nat} {w w':World} {us:List TermR} (h:IEs m0 w us) (hF:Ext w w'):IEs m0 w' us:=h.fr hF (fun _ f=>f.elim)
theorem IEs.snoc {m0 e:Nat} {w:World} {us:List TermR} {t:TermR} (h:IEs m0 w us) (he:m0≤e) (hA:t.A=some ⟨e,0,none⟩) (hB:Blk 3 w e (Zcd t.exps)):IEs m0 w (us ++ [t]):=fun u hu=>by
 rcases List.mem_append.1 hu with hu | hu
 ·exact h u hu
 ·obtain rfl:=List.mem_singleton.1 hu
  exact ⟨e,he,hA,hB⟩
abbrev ORow (m0:Nat) (w:World) (A:Option Addr) (cap n:Nat) (us:List TermR):Prop:=w.ownsRow m0 53 2 (.slice A n cap) n (Zdq us)
theorem ORow.blk {m0 cap n i:Nat} {w:World} {A:Option Addr} {us:List TermR} (h:ORow m0 w A cap n us) (hA:A=some ⟨i,0,none⟩):m0≤i∧∃ cur,Blk 53 w i cur:=by
 rcases h.2 with ⟨h3,_⟩ | ⟨b,c3,cur,h3,h4,h5,_⟩
 ·rw [hA] at h3; cases h3
 ·rw [hA] at h3
  injection h3 with h3
  injection h3 with h3
  injection h3 with h3
  subst h3
  exact ⟨h4,cur,h5⟩
theorem ORow.fr {m0 cap n:Nat} {w w':World} {A:Option Addr} {us:List TermR} {T:Nat→Prop} (h:ORow m0 w A cap n us) (hF:Fr T w w') (hT:∀ i,T i→i < m0):ORow m0 w' A cap n us:=by
 obtain ⟨h1,h2⟩:=h
 refine ⟨h1,?_⟩
 rcases h2 with h2 | ⟨b,c3,cur,h3,h4,h5,h6⟩
 ·exact Or.inl h2
 ·exact Or.inr ⟨b,c3,cur,h3,h4,Blk.fr (show Blk 53 w b cur from h5) hF (fun h=>by have:=hT _ h; omega),h6⟩
theorem ZmY {m0 cap n e:Nat} {w w':World} {A:Option Addr} {us:List TermR} {T:TypeId} {cs:Array Value} (h:Blk T w e cs) (hT:T≠53) (hO:ORow m0 w A cap n us) (hF:Fr (fun i=>A=some ⟨i,0,none⟩) w w'):Blk T w' e cs :=
 h.fr hF (fun hA=>by
  obtain ⟨_,cur,h2⟩:=hO.blk hA
  have h1:w.heap[e]? = some (.cells cs T (0,0)):=h
  have h3:w.heap[e]? = some (.cells cur 53 (0,0)):=h2
  rw [h1] at h3
  injection h3 with h3
  injection h3 with _ e _
  exact hT e)
theorem IEs.row {m0 cap n:Nat} {w w':World} {A:Option Addr} {us vs:List TermR} (h:IEs m0 w vs) (hO:ORow m0 w A cap n us) (hF:Fr (fun i=>A=some ⟨i,0,none⟩) w w'):IEs m0 w' vs:=fun t ht=>by
 obtain ⟨e,h1,h2,h3⟩:=h t ht
 exact ⟨e,h1,h2,ZmY h3 (by decide) hO hF⟩
theorem Zkb:∀ (us:List TermR) (i:Nat),i < us.length→(Zdq us)[i * 2]? = some (.string us[i]!.coef)∧(Zdq us)[i * 2 + 1]? = some (.slice us[i]!.A us[i]!.exps.length us[i]!.cap)
 | [],i,h=>by cases h
 | t :: us,0,_=>⟨rfl,rfl⟩
 | t :: us,i + 1,h=>by
   have:=Zkb us i (by simpa using h)
   have e:Zdq (t :: us)=.string t.coef :: .slice t.A t.exps.length t.cap :: Zdq us:=rfl
   rw [e,show (i + 1) * 2=i * 2 + 1 + 1 by omega]
   simpa using this
theorem TRow.of {m0 cap:Nat} {w:World} {A:Option Addr} {us:List TermR} (hO:ORow m0 w A cap us.length us) (hI:IEs m0 w us):TRow w A us:=fun i hi=>by
 rcases hO.2 with ⟨_,h3⟩ | ⟨b,c3,cur,h3,h4,h5,_,_,_,h6⟩
 ·omega
 ·injection h3 with h3
  subst h3
  have hB:Blk 53 w b cur:=h5
  obtain ⟨c1,c2⟩:=Zkb us i hi
  have hc:∀ j,j < us.length * 2→cur[j]? = (Zdq us)[j]? := fun j hj=>by
   rw [← h6,List.getElem?_take_of_lt hj]; simp
  have hm:us[i]! ∈ us:=by rw [getElem!_pos us i hi]; exact List.getElem_mem hi
  obtain ⟨e,_,hA,Q⟩:=hI _ hm
  refine ⟨b,0,rfl,hB.lt,?_,?_,?_⟩
  ·rw [hB.cell,Nat.zero_add,hc _ (by omega),c1]
  ·rw [hB.cell,Nat.zero_add,hc _ (by omega),c2]
  ·rw [hA]; exact IRow.cells Q
-- validity hangs on coefficients and exponents alone
theorem ZeN {us ts:List TermR} (h:us.map keyT=ts.map keyT) (i:Nat):us[i]!.coef=ts[i]!.coef∧us[i]!.exps=ts[i]!.exps:=by
 have hl:us.length=ts.length:=by have:=congrArg List.length h; simpa using this
 by_cases hi:i < us.length
 ·have h1:(us.map keyT)[i]? = (ts.map keyT)[i]? := by rw [h]
  rw [List.getElem?_map,List.getElem?_map,List.getElem?_eq_getElem hi,List.getElem?_eq_getElem (by omega)] at h1
  rw [getElem!_pos us i hi,getElem!_pos ts i (by omega)]
  simp only [Option.map_some,Option.some.injEq,keyT,Prod.mk.injEq] at h1
  exact h1
 ·rw [getElem!_neg us i hi,getElem!_neg ts i (by omega)]
  exact ⟨rfl,rfl⟩
theorem Zmi {v:Int} {t u:TermR} (h:t.coef=u.coef∧t.exps=u.exps):ZaF v t=ZaF v u:=by
 unfold ZaF; rw [h.1,h.2]
theorem Zly {v:Int} {us ts:List TermR} (h:us.map keyT=ts.map keyT):∀ k,wfT v us k=wfT v ts k
 | 0=>rfl
 | k + 1=>by
   unfold wfT
   rw [Zly h k,Zmi (ZeN h k),(ZeN h k).2,(ZeN h (k - 1)).2]
theorem Zmj {v:Int} {us ts:List TermR} (h:us.map keyT=ts.map keyT):ZaG v us=ZaG v ts:=by
 have hl:us.length=ts.length:=by have:=congrArg List.length h; simpa using this
 unfold ZaG
 rw [hl,Zly h,(ZeN h 0).2]
theorem ZoZ {us ts:List TermR} {j:Nat} {t u:TermR} (h:us.map keyT=(ts.take j).map keyT) (hlt:j < ts.length) (ht:ts[j]! = t) (hu:keyT u=keyT t):(us ++ [u]).map keyT=(ts.take (j + 1)).map keyT:=by
 rw [List.take_succ_eq_append_getElem hlt,List.map_append,List.map_append,h,← getElem!_pos ts j hlt,ht,List.map_singleton,List.map_singleton,hu]
theorem ZpV {us ts:List TermR} {j:Nat} (h:us.map keyT=(ts.take j).map keyT) (hj:j≤ts.length):us.length=j:=by
 have:=congrArg List.length h
 rw [List.length_map,List.length_map,List.length_take] at this
 omega
theorem ZaF.coef {v:Int} {t:TermR} (h:ZaF v t=true):∃ q,ZaB (bytes t.coef)=some q:=by
 unfold ZaF Zem at h
 split at h
 ·exact ⟨_,by assumption⟩
 ·cases h
theorem ZaF.exps' {v:Int} {t:TermR} (h:ZaF v t=true) (hv:v≤6):(t.exps.length≤6∧(t.exps.length:Int)=v)∧∀ i,i < t.exps.length→0≤nth t.exps i∧nth t.exps i≤1000000000:=by
 have h1:=ZaF.exp h hv
 exact ⟨⟨h1.1.1,h1.2⟩,fun i _=>by have:=h1.1.2 i; omega⟩
theorem Zf8 {m0:Nat} {w w':World} {en:Ending} {zs:List Int} {n:Nat} (hm:m0≤w.heap.size) (hn:zs.length=n) (h:∃ b,en=.returned (.slice (some ⟨b,0,none⟩) zs.length zs.length)∧w.heap.size≤b∧Blk 3 w' b (Zcd zs)∧Ext w w') :
 Zbh (fun b:{b:Nat // m0≤b}=>.slice (some ⟨b.1,0,none⟩) n n) (fun b w=>Blk 3 w b.1 (Zcd zs)) w en w':=by
 subst hn
 obtain ⟨b,rfl,hb,hB,Q⟩:=h
 exact ⟨⟨b,by omega⟩,rfl,Q,fun S hS w'' hF=>hB.fr hF (fun h=>by have:=(hS _ h).1; omega)⟩
-- the slice of a line's words behind the first
def Zhl (A:Option Addr) (n:Nat):Option Addr:=if n + 1=1 then A else A.map (·.add 1)
theorem SRow.ne {w:World} {A:Option Addr} {x:ByteArray} {ss:List ByteArray} (h:SRow w A (x :: ss)):A≠none:=by
 obtain ⟨b,off,_,_,e,_⟩:=h (by simp); rw [e]; simp
theorem SRow.tail {w:World} {A:Option Addr} {x:ByteArray} {ss:List ByteArray} {n:Nat} (h:SRow w A (x :: ss)) (hn:ss.length=n):SRow w (Zhl A n) ss:=fun h0=>by
 obtain ⟨b,off,cs,f,e,hcs,hc⟩:=h (by simp)
 have hn0:¬ n + 1=1:=by
  subst hn
  cases ss with
  | nil=>exact absurd rfl h0
  | cons _ _=>simp
 refine ⟨b,off + 1,cs,f,?_,hcs,fun i hi=>?_⟩
 ·unfold Zhl; rw [if_neg hn0,e]; rfl
 ·have:=hc (i + 1) (by simpa using hi)
  rw [Nat.add_assoc,Nat.add_comm 1 i,this]; simp
section
variable {P:Program} {o:Oper} {ρ:Operand→Value} {w:World} {t e:TypeId} {x:Operand}
theorem ZqL {A:Option Addr} {y:ByteArray} {ss:List ByteArray} (hS:SRow w A (y :: ss)) (ho:o.op=Op.load t x:=by kernel_rfl) (hx:ρ x=atA A (0 * 1):=by kernel_rfl) (ha:(teOf P t).map (fun e=>e.agg)=some false:=by kernel_rfl) :
 (execOp ρ o).run P w=.ok (.value (.string y)) w:=by
 obtain ⟨g,off,cs,f,rfl,hcs,hc⟩:=hS (by simp)
 have h0:=hc 0 (by simp)
 refine Zgz (g:=g) (off:=off) (c:=.string y) ?_ ho (by rw [hx,atA,Option.map_some,ZcH,Nat.zero_mul]; rfl) ha
 rw [Lib.cell_of_heap hcs]
 simpa using h0
theorem ZqM {A:Option Addr} {n:Nat} (ho:o.op=Op.slice t x (some (.const (.int .i64 1))) none none:=by kernel_rfl) (ht:P.underlying t=some (.slice e):=by kernel_rfl) (hs:(P.info? e).map (fun i=>i.size)=some 1:=by kernel_rfl)
 (hx:ρ x=.slice A (n + 1) (n + 1):=by kernel_rfl) (hl:ρ (.const (.int .i64 1))=.int .i64 1:=by kernel_rfl):(execOp ρ o).run P w=.ok (.value (.slice (Zhl A n) n n)) w :=
 Zpw (l:=1) (by omega) ho ht hs hx hl
end
theorem Zo0 {v:Int} {n:Nat} (hv:0≤v∧v≤6) (hn:n≤4096):∀ i,i < [v,((n:Nat):Int)].length→0≤nth [v,((n:Nat):Int)] i∧nth [v,((n:Nat):Int)] i≤1000000000:=fun i hi=>by
 match i,hi with
 | 0,_=>exact ⟨hv.1,by show v≤1000000000; omega⟩
 | 1,_=>exact ⟨by show (0:Int)≤(n:Int); omega,by show (n:Int)≤1000000000; omega⟩
theorem Zo1 (wl:World) (b:Nat) (s:ByteArray) (v:Int) (ts:List TermR) (w:World) (hgl:Glob wl) (h0:Ext wl w) (hbl:wl.heap.size≤b) (hB:RdAt w b s 0) (hs:s.data.toList=ZaI v ts) (hok:ZaG v ts=true) (hc:∀ i,i < ts.length→(bytes ts[i]!.coef).length≤570) (hsz:s.size≤1048576) :
 Calls Tryz.prog 66 #[.pointer (some ⟨b,0,none⟩)] w (fun e w'=>∃ A c us,e=.returned (.agg #[.int .i64 v, .slice A us.length c])∧us.map keyT=ts.map keyT∧(ORow w.heap.size w' A c us.length us∧IEs w.heap.size w' us)∧RdAt w' b s s.size∧Fr (fun i=>i=b) w w'):=by
 obtain ⟨m0,hm0⟩:∃ m,m=w.heap.size:=⟨_,rfl⟩
 have hbm:b < m0:=hm0 ▸ Blk.lt hB
 have hp:=ZaG.parts hok
 have hgE:∀ w',Fr (fun i=>i=b) w w'→Glob w':=fun w' hF=>hgl.ext (h0.next hF (fun i hi e=>by omega))
 have hx6:∀ i,i < ts.length→ts[i]!.exps.length≤6:=fun i hi=>(ZaF.exps' (Zdz hp.2.2 hi) hp.1.2).1.1
 refine Ze7 (fun i=>i=b) (Φ:=fun w=>RdAt w b s (0)) Tryz.func66 rfl (by kernel_rfl) (fun w' hf=>Blk.ext hB hf) ?_
 refine Zac (Zab (xq 1 [(2, .p 2 0)] [(2,43,[.v (.int .i64 0), .v (.slice none 0 0)])] ?_))
 refine xe (Zaa (Zac (Zab (xq 2 [(8, .v (.pointer (some ⟨b,0,none⟩))),(9, .v (.pointer (some ⟨b,0,none⟩)))] [] ?_))))
 refine Zk7 (b:=b) (d:=10) (c:=.string s) (j:=0) 141 [.pointer (some ⟨b,0,none⟩), .string ZaW, .int .i64 2] (fun A:Option Addr=>.slice A (2) (2)) (fun w=>True) (fun A w=>RdAt w b s (posT v ts 0)∧SRow w A ([Zaf v,Zaf ((ts.length:Nat):Int)])) (fun w Q=>RdAt.cell0 Q) (Or.inr rfl) (fun w1 R Q=>ZmX b s ZaW ([Zaf v,Zaf ((ts.length:Nat):Int)]) (0) (posT v ts 0) (2) (2) w1 Q (ZoX hs hp.1.1) hsz (rfl) (rfl) (ZoV v ts)) (fun w w2 R Q hF=>trivial) (fun W10=>?_)
 refine xr 0 [(0, .v (.pointer (some ⟨b,0,none⟩))),(2, .p 2 0),(8, .v (.pointer (some ⟨b,0,none⟩))),eS1 10 W10 2 2] [(2,43,[.v (.int .i64 0), .v (.slice none 0 0)])] ?_
 refine xqc 140 [.pointer (some ⟨b,0,none⟩), .slice W10 2 2] 11 (fun zb:{e:Nat // m0≤e}=>.slice (some ⟨zb.1,0,none⟩) 2 2) _ (fun w R Q=>(ZgR _ W10 2 [v,((ts.length:Nat):Int)] _ Q.2.2 (Zo0 hp.1 hp.2.1) (by simp)).mono (fun _ _ h=>Zf8 (hm0 ▸ R.size) rfl h)) (fun zb11=>?_)
 obtain ⟨e11,he11⟩:=zb11
 refine xq 1 [eS1 3 (some ⟨e11,0,none⟩) 2 2] [] ?_
 refine xe (Zaa (Zac ?_))
 refine ZbJ 8 (by kernel_rfl) (by kernel_rfl) Zas ?_
 refine xqg 1 [eS1 12 (some ⟨e11,0,none⟩) 2 2] ?_
 refine xqj 13 (atA (some ⟨e11,0,none⟩) (0 * 1)) (fun w Q=>ZaN (t:=22) (e:=3) (sz:=1) (x:=.tmp 12) (ix:=.const (.int .i64 0)) (len:=2) (cap:=2) (i:=0) (by simp) (by decide)) ?_
 refine xqj 14 (.int .i64 v) (fun w Q=>Zbd (t:=3) (x:=.tmp 13) (zs:=[v,((ts.length:Nat):Int)]) (j:=0) (IRow.cells Q.2) (by simp)) ?_
 refine xqg 1 [eS1 15 (some ⟨e11,0,none⟩) 2 2] ?_
 refine xqj 16 (atA (some ⟨e11,0,none⟩) (1 * 1)) (fun w Q=>ZaN (t:=22) (e:=3) (sz:=1) (x:=.tmp 15) (ix:=.const (.int .i64 1)) (len:=2) (cap:=2) (i:=1) (by simp) (by decide)) ?_
 refine xqj 17 (.int .i64 ((ts.length:Nat):Int)) (fun w Q=>Zbd (t:=3) (x:=.tmp 16) (zs:=[v,((ts.length:Nat):Int)]) (j:=1) (IRow.cells Q.2) (by simp)) ?_
 refine xqg 2 [(4, .v (.int .i64 v)),(5, .v (.int .i64 ((ts.length:Nat):Int)))] ?_
 refine xz (xe (Zaa (Zac (Zab (xq 3 [(18, .v (.pointer (some ⟨b,0,none⟩))),(20, .v (.bool (decide (v≤6))))] [] ?_)))))
 rw [(show decide (v≤6)=true from decide_eq_true hp.1.2)]
 refine xq 3 [(21, .v (.bool true)),(23, .v (.bool (decide (((ts.length:Nat):Int)≤4096))))] [] ?_
 rw [(show decide (((ts.length:Nat):Int)≤4096)=true from decide_eq_true (by omega))]
 refine xq 1 [(24, .v (.bool true))] [] ?_
 refine xqc 139 [.pointer (some ⟨b,0,none⟩), .bool true] 25 (fun _:Unit=>.tuple #[]) _ (fun w R Q=>(Zbt _ _).mono (fun _ _ h=>ZdJ h rfl)) (fun xx=>?_)
 refine xe (Zaa (Zac (Zab (xq 4 [(6, .p 6 0)] [(6,43,[.v (.int .i64 v), .v (.slice none 0 0)])] ?_))))
 refine xe (Zaa (Zac (Zac (Zab (xq 2 [(28, .v (.int .i64 ((ts.length:Nat):Int))),(29, .v (.int .i64 0))] [] ?_)))))
 refine xe (Zaa (ZaP ?_))
 refine SXc.weak [(0, .v (.pointer (some ⟨b,0,none⟩))),(2, .p 2 0),(4, .v (.int .i64 v)),(6, .p 6 0),(28, .v (.int .i64 ((ts.length:Nat):Int))),(29, .v (.int .i64 ((0:Nat):Int)))] [(6,43,[.v (.int .i64 v), .v (.slice none 0 0)]),(2,43,[.v (.int .i64 0), .v (.slice none 0 0)])] (Ψ:=fun w=>((RdAt w b s (posT v ts 0)∧ORow m0 w none 0 0 [])∧IEs m0 w [])) (ZaM.of (by kernel_rfl)) (by kernel_rfl) (fun w Q=>⟨⟨Q.1.1.2.1,World.ownsRow_nil w m0 53 2⟩,IEs.nil m0 w⟩) ?_
 refine ZbU (fun nn ss ff=>∃ (j cap:Nat) (A:Option Addr) (us:List TermR),ss=ofL [(0, .v (.pointer (some ⟨b,0,none⟩))),(2, .p 2 0),(4, .v (.int .i64 v)),(6, .p 6 0),(28, .v (.int .i64 ((ts.length:Nat):Int))),(29, .v (.int .i64 ((j:Nat):Int)))] [(6,43,[.v (.int .i64 v), .v (.slice A j cap)]),(2,43,[.v (.int .i64 0), .v (.slice none 0 0)])]∧ff=(fun w=>((RdAt w b s (posT v ts j)∧ORow m0 w A cap j us)∧IEs m0 w us))∧(j≤ts.length)∧(us.map keyT=(ts.take j).map keyT)∧(j=0→A=none)∧nn=(1 + (ts.length - j))) ((1 + (ts.length - 0))) ⟨0,0,none,[],rfl,rfl,(Nat.zero_le _),rfl,(fun _=>rfl),rfl⟩ ?_
 rintro nn ss ff ⟨j,cap,A,us,rfl,rfl,hj,hus,hA,rfl⟩
 refine Zac (Zab (xq 1 [(30, .v (.bool (decide (((j:Nat):Int) < ((ts.length:Nat):Int)))))] [] ?_))
 refine xe (Zaa (Zac ?_))
 refine Zbc ((decide (((j:Nat):Int) < ((ts.length:Nat):Int)))) (by kernel_rfl) (fun hb12=>?_) (fun hb12=>?_)
 ·have hlt:j < ts.length:=by have:=of_decide_eq_true hb12; omega
  obtain ⟨t,ht⟩:∃ x,ts[j]! = x:=⟨_,rfl⟩
  have htok:ZaF v t=true:=ht ▸ Zdz hp.2.2 hlt
  obtain ⟨qt,hqt⟩:=ZaF.coef htok
  have hte:=ZaF.exps' htok hp.1.2
  have htl:=hte.1.2
  refine Zav (Zaa (Zac (ZaP (Zac (Zab (xq 3 [(31, .v (.pointer (some ⟨b,0,none⟩))),(33, .v (.int .i64 (IntKind.i64.wrap (v + 1))))] [] ?_))))))
  rw [(show IntKind.i64.wrap (v + 1)=v + 1 from by rw [IntKind.wrap_i64]; omega)]
  refine Zk7 (b:=b) (d:=34) (c:=.string s) (j:=0) 141 [.pointer (some ⟨b,0,none⟩), .string Zci, .int .i64 (v + 1)] (fun A:Option Addr=>.slice A (t.exps.length + 1) (t.exps.length + 1)) (fun w=>(ORow m0 w A cap j us∧IEs m0 w us)) (fun A w=>RdAt w b s (posT v ts (j + 1))∧SRow w A (t.coef :: t.exps.map Zaf)) (fun w Q=>RdAt.cell0 Q.1.1) (Or.inr rfl) (fun w1 R Q=>ZmX b s Zci (t.coef :: t.exps.map Zaf) (posT v ts j) (posT v ts (j + 1)) (t.exps.length + 1) ((v + 1)) w1 Q.1.1 (ZoY hs hlt ht hqt (fun i hi=>(hte.2 i hi).1)) hsz ((by omega)) ((by simp)) (ZoW hlt ht)) (fun w w2 R Q hF=>⟨ORow.fr (Q.1.2) hF (fun i h=>by have h:i=b:=h; omega),IEs.fr (Q.2) hF (fun i h=>by have h:i=b:=h; omega)⟩) (fun W13=>?_)
  refine xr 1 [(0, .v (.pointer (some ⟨b,0,none⟩))),(2, .p 2 0),(4, .v (.int .i64 v)),(6, .p 6 0),eS1 7 W13 (t.exps.length + 1) (t.exps.length + 1),(28, .v (.int .i64 ((ts.length:Nat):Int))),(29, .v (.int .i64 ((j:Nat):Int)))] [(6,43,[.v (.int .i64 v), .v (.slice A j cap)]),(2,43,[.v (.int .i64 0), .v (.slice none 0 0)])] ?_
  refine xe (Zaa ?_)
  refine ZbK 13 [0,1,0,0,8,24,60,0,0,256,1020,2044,4092] (by kernel_rfl) (by kernel_rfl) Zas ?_
  refine xqg 4 [eS1 36 A j cap,(37, .v (.pointer (some ⟨b,0,none⟩))),eS1 38 W13 (t.exps.length + 1) (t.exps.length + 1)] ?_
  refine xqj 39 (atA W13 (0 * 1)) (fun w Q=>ZaN (t:=59) (e:=9) (sz:=1) (x:=.tmp 38) (ix:=.const (.int .i64 0)) (len:=t.exps.length + 1) (cap:=t.exps.length + 1) (i:=0) (SRow.ne Q.2.2) (by omega)) ?_
  refine xqj 40 (.string t.coef) (fun w Q=>ZqL (t:=9) (x:=.tmp 39) Q.2.2) ?_
  refine xqd 142 [.pointer (some ⟨b,0,none⟩), .string t.coef] 41 (fun _:Unit=>.string t.coef) _ (fun w R Q=>(ZnH _ t.coef qt _ (hgE _ R) (ht ▸ hc j hlt) hqt).mono (fun _ _ h=>Zay h rfl)) (fun xx=>?_)
  refine xqg 2 [(42, .v (.pointer (some ⟨b,0,none⟩))),eS1 43 W13 (t.exps.length + 1) (t.exps.length + 1)] ?_
  refine xqj 44 (.slice (Zhl W13 t.exps.length) t.exps.length t.exps.length) (fun w Q=>ZqM (t:=59) (e:=9) (x:=.tmp 43) (n:=t.exps.length)) ?_
  refine xqd 140 [.pointer (some ⟨b,0,none⟩), .slice (Zhl W13 t.exps.length) t.exps.length t.exps.length] 45 (fun zb:{e:Nat // m0≤e}=>.slice (some ⟨zb.1,0,none⟩) t.exps.length t.exps.length) _ (fun w R Q=>(ZgR _ (Zhl W13 t.exps.length) t.exps.length t.exps _ (Q.1.2.2.tail (List.length_map _)) hte.2 (by omega)).mono (fun _ _ h=>Zf8 (hm0 ▸ R.size) rfl h)) (fun zb14=>?_)
  obtain ⟨e14,he14⟩:=zb14
  refine xqg 1 [(46, .v (.agg #[.string t.coef, .slice (some ⟨e14,0,none⟩) t.exps.length t.exps.length]))] ?_
  refine Zhd 47 (fun zb:Nat=>.slice (some ⟨zb,0,none⟩) 1 1) (fun zb zw=>Blk 53 zw zb #[.string t.coef, .slice (some ⟨e14,0,none⟩) t.exps.length t.exps.length]) (by kernel_rfl) (by kernel_rfl) (by kernel_rfl) (by kernel_rfl) (by kernel_rfl) (by kernel_rfl) (by kernel_rfl) (fun w R Q=>Zbs (t:=41) (e:=53) (n:=1) (sz:=2) (z:=.agg #[.string ⟨#[]⟩, .slice none 0 0]) (parts:=#[(0,Operand.tmp 46)]) (by kernel_rfl) (by kernel_rfl) (by kernel_rfl) (by kernel_rfl) (by kernel_rfl) (by kernel_rfl)) (fun b15=>?_)
  refine xf 0 [(0, .v (.pointer (some ⟨b,0,none⟩))),(2, .p 2 0),(4, .v (.int .i64 v)),(6, .p 6 0),(28, .v (.int .i64 ((ts.length:Nat):Int))),(29, .v (.int .i64 ((j:Nat):Int))),eS1 36 A j cap,eS1 47 (some ⟨b15,0,none⟩) 1 1] [(6,43,[.v (.int .i64 v), .v (.slice A j cap)]),(2,43,[.v (.int .i64 0), .v (.slice none 0 0)])] ?_
  refine xz ?_
  refine Zhe (base:=m0) (d:=48) (k:=2) (n:=j) (m:=1) (cap:=cap) (bytes:=40) (t:=41) (e:=53) (s0:=.tmp 36) (x:=.tmp 47) (xs:=Zdq us) (news:=[.string t.coef, .slice (some ⟨e14,0,none⟩) t.exps.length t.exps.length]) (z:=(.agg #[.string ⟨#[]⟩, .slice none 0 0])) hm0.symm A b15 1 (fun w=>((RdAt w b s (posT v ts (j + 1))∧IEs m0 w us)∧Blk 3 w e14 (Zcd t.exps))) (fun w Q=>Q.1.1.1.1.1) (fun w Q=>Q.2) rfl (by decide) rfl (by decide) (by simp [Value.oneCell']) (by have:=hp.2.1; simp only [maxLen]; omega) (by have:=hp.2.1; omega) hA (fun w w2 R Q hF=>⟨⟨Blk.fr Q.1.1.1.2.1 hF (fun h=>by have:=(ORow.blk Q.1.1.1.1.1 h).1; omega),IEs.row Q.1.1.1.1.2 Q.1.1.1.1.1 hF⟩,ZmY Q.1.2 (by decide) Q.1.1.1.1.1 hF⟩) (fun A' cap' hA'=>?_)
  refine xr 2 [(0, .v (.pointer (some ⟨b,0,none⟩))),(2, .p 2 0),(4, .v (.int .i64 v)),(6, .p 6 0),(28, .v (.int .i64 ((ts.length:Nat):Int))),(29, .v (.int .i64 ((j:Nat):Int)))] [(6,43,[.v (.int .i64 v), .v (.slice A' (j + 1) cap')]),(2,43,[.v (.int .i64 0), .v (.slice none 0 0)])] ?_
  refine xe (ZbP (Zaa (Zab (xq 1 [(50, .v (.int .i64 (IntKind.i64.wrap (((j:Nat):Int) + 1))))] [] ?_))))
  rw [(show IntKind.i64.wrap (((j:Nat):Int) + 1)=((j + 1:Nat):Int) from by rw [IntKind.wrap_i64]; omega)]
  refine xq 1 [(29, .v (.int .i64 ((j + 1:Nat):Int)))] [] ?_
  refine xe ?_
  refine SXq.weak [(0, .v (.pointer (some ⟨b,0,none⟩))),(2, .p 2 0),(4, .v (.int .i64 v)),(6, .p 6 0),(28, .v (.int .i64 ((ts.length:Nat):Int))),(29, .v (.int .i64 (((j + 1):Nat):Int)))] [(6,43,[.v (.int .i64 v), .v (.slice A' (j + 1) cap')]),(2,43,[.v (.int .i64 0), .v (.slice none 0 0)])] (Ψ:=fun w=>((RdAt w b s (posT v ts (j + 1))∧ORow m0 w A' cap' (j + 1) (us ++ [⟨t.coef,some ⟨e14,0,none⟩,t.exps.length,t.exps⟩]))∧IEs m0 w (us ++ [⟨t.coef,some ⟨e14,0,none⟩,t.exps.length,t.exps⟩]))) (ZaM.of (by kernel_rfl)) (by kernel_rfl) (fun w Q=>⟨⟨Q.1.1.1,(by unfold ORow; rw [Zmh]; exact Q.2)⟩,IEs.snoc Q.1.1.2 he14 rfl Q.1.2⟩) ?_
  exact Zbm ((1 + (ts.length - (j + 1)))) (by omega) ⟨(j + 1),cap',A',(us ++ [⟨t.coef,some ⟨e14,0,none⟩,t.exps.length,t.exps⟩]),rfl,rfl,hlt,(ZoZ hus hlt ht rfl),(fun h=>by omega),rfl⟩
 ·have hge:ts.length≤j:=by have:=of_decide_eq_false hb12; omega
  have hul:=ZpV hus hj
  have hkeys:us.map keyT=ts.map keyT:=by rw [hus,List.take_of_length_le hge]
  have hlen:us.length=ts.length:=by omega
  obtain rfl:us.length=j:=hul
  refine ZbL (Zaw (Zaw (Zcb (Zaa (Zac (Zab (xq 2 [(51, .v (.pointer (some ⟨b,0,none⟩))),(52, .v (.agg #[.int .i64 v, .slice A us.length cap]))] [] ?_)))))))
  refine xqc 63 [.agg #[.int .i64 v, .slice A us.length cap]] 53 (fun _:Unit=>.bool true) _ (fun w R Q=>(ZfY A cap us v _ (hgE _ R) (TRow.of (us:=us) Q.1.2 Q.2) (fun i hi=>by rw [(ZeN hkeys i).1]; exact hc i (by omega)) (fun i hi=>by rw [(ZeN hkeys i).2]; exact Nat.le_trans (hx6 i (by omega)) (by decide))).mono (fun _ _ h=>Zay h (by rw [Zmj hkeys,hok]))) (fun xx=>?_)
  refine xqc 139 [.pointer (some ⟨b,0,none⟩), .bool true] 54 (fun _:Unit=>.tuple #[]) _ (fun w R Q=>(Zbt _ _).mono (fun _ _ h=>ZdJ h rfl)) (fun xx=>?_)
  refine xe (Zaa (Zac (Zab (xq 2 [] [(2,43,[.v (.int .i64 v), .v (.slice A us.length cap)])] ?_))))
  refine xe (Zaa (Zau ?_))
  refine Zai (v:=.agg #[.int .i64 v, .slice A us.length cap]) (by kernel_rfl) (fun w' R Q=>?_)
  exact ⟨A,cap,us,rfl,hkeys,⟨hm0 ▸ Q.1.1.1.2,hm0 ▸ Q.1.1.2⟩,by have h:=Q.1.1.1.1; rw [ZpU hs hge] at h; exact h,R⟩
end Go.Proofs.YtcpjeaaapocoeaaGreatDoor
