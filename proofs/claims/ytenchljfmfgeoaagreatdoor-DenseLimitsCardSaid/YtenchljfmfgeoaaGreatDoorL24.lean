/-
 My texts Dn6, Dn9, Do0, Do4, Do5, Do1, Do2, Do3, Do6, Do7 put together.
-/
import Derived.Test.YtenchljfmfgeoaaGreatDoorL23
import Derived.Test.YtenchljfmfgeoaaGreatDoorL15
import Derived.Recover
import Derived.Defers
import Derived.Deep.RegionHeld3
import Derived.Deep.DeepCutAuto
import Derived.Deep.Onto
import Derived.Test.YtenchljfmfgeoaaGreatDoorL18
import Derived.Test.YtenchljfmfgeoaaGreatDoorL22
set_option maxRecDepth 100000
namespace Go.Proofs.YtenchljfmfgeoaaGreatDoor
open Go.RowKit
theorem Zn1 (p q:Nat) (w:World) :
 CallsD Tryz.prog 128 #[.pointer (some ⟨p,0,none⟩), .pointer (some ⟨q,0,none⟩)] .returning w fun e u' w'=>e=.returned (.tuple #[])∧u'=.returning∧Ext w w':=by
 refine callsD_of_wpS Tryz.func128 rfl fun c₀ cs hu=>?_
 apply wpS_seq
 apply wpS_region
 simp [wpOpsS,go_sem,recoverD,hu,Tryz.ntmps128,Exit.thenS]
 refine wpS_of_wp ?_
 rw [show (#[Value.pointer (some ⟨p,0,none⟩), .pointer (some ⟨q,0,none⟩)] ++ ((Array.replicate 15 undef).setIfInBounds 4 .nilIface).setIfInBounds 0 .nilIface)=#[.pointer (some ⟨p,0,none⟩), .pointer (some ⟨q,0,none⟩), .nilIface,undef,undef,undef, .nilIface,undef,undef,undef,undef,undef,undef,undef,undef,undef,undef] from rfl]
 refine Zsi (N:=17) (S0:=fun _=>False) (sl:=[(0, .v (.pointer (some ⟨p,0,none⟩))),(1, .v (.pointer (some ⟨q,0,none⟩))),(2, .v .nilIface)]) (Φ:=fun w=>True) rfl rfl (fun w' hf=>trivial) ?_
 refine Zac (Zab (xr 2 [(0, .v (.pointer (some ⟨p,0,none⟩))),(1, .v (.pointer (some ⟨q,0,none⟩))),(2, .v .nilIface),(8, .v (.bool false))] [] ?_))
 refine xe (Zaa (xb (Zal (fun L a w' hi=>?_))))
 exact ⟨hi.df,_,rfl, .tuple #[],by simp [results,Tryz.results128],rfl,hu,hi.mem.ext⟩
theorem ZsW {fn:Func} {tmps:Array Value} {w:World} {p q:Nat} {T:TypeId} {zs:List Value} {e:Int} (hr:fn.results=#[ResultVar.cell 2 T,ResultVar.cell 3 30]) (h4:tmps[2]? = some (.pointer (some ⟨p,0,none⟩))) (h5:tmps[3]? = some (.pointer (some ⟨q,0,none⟩)))
 (hp:Blk T w p zs.toArray) (hq:Blk 30 w q #[.int .i64 e]) (hT:(teOf Tryz.prog T).map (fun e=>(e.agg,e.size))=some (true,zs.length)):(results fn tmps).run Tryz.prog w=.ok (.tuple #[.agg zs.toArray, .int .i64 e]) w:=by
 obtain ⟨te,hte,h1⟩:=Option.map_eq_some_iff.1 hT
 injection h1 with ha hn
 have Q:(teOf Tryz.prog 30).map (fun e=>e.agg)=some false:=by kernel_rfl
 obtain ⟨ee,hee,hea⟩:=Option.map_eq_some_iff.1 Q
 have l1:=ZeE (P:=Tryz.prog) (w:=w) hte (g:=p) (off:=0) (cs:=zs) hn.symm (fun j hj=>by rw [Nat.zero_add,hp.cell]; simp [hj]) ha
 have l2:=ZfD (P:=Tryz.prog) (w:=w) hee (g:=q) (off:=0) (c:=.int .i64 e) (by rw [hq.cell]; rfl) hea
 simp only [Instr.loadAt,Instr.sureAddr,Sem.run_bind,Sem.run_pure,Result.andThen_ok] at l1 l2
 rw [ZiM,hr,Array.mapM_eq_mapM_toList]
 simp [ZfT,h4,h5,asAddr,l1,l2,Result.andThen_ok]
set_option maxHeartbeats 4000000 in
theorem ZrV (f:FuncId) (cap:Array Value) (r c:Nat) (vs:List Fv3) (w:World) (hcf:∀ w,(callFunc f cap).run Tryz.prog w=.ok (.enter f cap) w) (hC:∀ w1,Ext w w1→Calls Tryz.prog f cap w1 (Zfy (fun v=>v) r c vs w1)) :
 Calls Tryz.prog 78 #[.func (.func f) #[] cap] w (Zfy (fun v=>.tuple #[v, .int .i64 0]) r c vs w):=by
 have hmf:∀ (fn:Fn) (first cap:Array Value) (w:World),(Instr.makeFunc fn first cap).run Tryz.prog w=.ok (.func fn first cap) w:=fun _ _ _ _=>rfl
 go_enter_defers Tryz.func78,Tryz.ntmps78
 go_wp2_with fail
 generalize hwb:World.alloc (World.alloc w _) _=wb
 obtain ⟨hP,hQ,Q⟩:=Zrm hwb
 have HP:=zh hP
 have HQ:=zh hQ
 have HE:=zh Q
 clear hP hQ Q hwb
 refine (hC _ HE.out).mono ?_
 rintro e w2 ⟨b,xs,rfl,hv,hO,hN,hE2⟩
 have HP2:=zh (Blk.ext HP.out hE2)
 have HQ2:=zh (Blk.ext HQ.out hE2)
 have HO:=zh hO
 have HN:=zh hN
 have HV:=zh hv
 have HE2:=zh hE2
 have cP0:w2.cell? ⟨w.heap.size,0,none⟩=some (.int .i64 0):=by rw [Blk.cell HP2.out]; rfl
 have cP1:w2.cell? ⟨w.heap.size,1,none⟩=some (.int .i64 0):=by rw [Blk.cell HP2.out]; rfl
 have cP2:w2.cell? ⟨w.heap.size,2,none⟩=some (.slice none 0 0):=by rw [Blk.cell HP2.out]; rfl
 have fP0:=Blk.frozen HP2.out 0
 have fP1:=Blk.frozen HP2.out 1
 have fP2:=Blk.frozen HP2.out 2
 have cQ0:w2.cell? ⟨w.heap.size + 1,0,none⟩=some (.int .i64 0):=by rw [Blk.cell HQ2.out]; rfl
 have fQ0:=Blk.frozen HQ2.out 0
 clear hv hO hN hE2
 go_wp2_with fail
 have hp:w.heap.size < wb.heap.size:=Blk.lt HP.out
 have hq:w.heap.size + 1 < wb.heap.size:=Blk.lt HQ.out
 have HP3:Hid (Blk 97 (((w2.setCell ⟨w.heap.size,0,none⟩ (.int .i64 ((r:Nat):Int))).setCell ⟨w.heap.size,1,none⟩ (.int .i64 ((c:Nat):Int))).setCell ⟨w.heap.size,2,none⟩ (.slice (some ⟨b,0,none⟩) xs.length xs.length)) w.heap.size #[.int .i64 ((r:Nat):Int), .int .i64 ((c:Nat):Int), .slice (some ⟨b,0,none⟩) xs.length xs.length]):=zh (Blk.set_ (Blk.set_ (Blk.set_ HP2.out 0 (.int .i64 ((r:Nat):Int))) 1 (.int .i64 ((c:Nat):Int))) 2 (.slice (some ⟨b,0,none⟩) xs.length xs.length))
 have HF3:Hid (Fr (fun i=>i=w.heap.size) w2 (((w2.setCell ⟨w.heap.size,0,none⟩ (.int .i64 ((r:Nat):Int))).setCell ⟨w.heap.size,1,none⟩ (.int .i64 ((c:Nat):Int))).setCell ⟨w.heap.size,2,none⟩ (.slice (some ⟨b,0,none⟩) xs.length xs.length))):=zh (Fr.setCell (S:=fun i=>i=w.heap.size) (p:=⟨w.heap.size,2,none⟩) (Fr.setCell (S:=fun i=>i=w.heap.size) (p:=⟨w.heap.size,1,none⟩) (Fr.setCell (S:=fun i=>i=w.heap.size) (p:=⟨w.heap.size,0,none⟩) (Fr.refl _ _) (Or.inl rfl) _) (Or.inl rfl) _) (Or.inl rfl) _)
 generalize ((w2.setCell ⟨w.heap.size,0,none⟩ (.int .i64 ((r:Nat):Int))).setCell ⟨w.heap.size,1,none⟩ (.int .i64 ((c:Nat):Int))).setCell ⟨w.heap.size,2,none⟩ (.slice (some ⟨b,0,none⟩) xs.length xs.length)=w3 at *
 have HQ3:=zh (Blk.fr HQ2.out HF3.out (fun h=>by have h:w.heap.size + 1=w.heap.size:=h; omega))
 have HQ4:Hid (Blk 30 (w3.setCell ⟨w.heap.size + 1,0,none⟩ (.int .i64 0)) (w.heap.size + 1) #[.int .i64 0]):=zh (Blk.set_ HQ3.out 0 (.int .i64 0))
 have HF4:Hid (Fr (fun i=>i=w.heap.size + 1) w3 (w3.setCell ⟨w.heap.size + 1,0,none⟩ (.int .i64 0))):=zh (Fr.setCell (S:=fun i=>i=w.heap.size + 1) (p:=⟨w.heap.size + 1,0,none⟩) (Fr.refl _ _) (Or.inl rfl) _)
 generalize w3.setCell ⟨w.heap.size + 1,0,none⟩ (.int .i64 0)=w4 at *
 have HP4:=zh (Blk.fr HP3.out HF4.out (fun h=>by have h:w.heap.size=w.heap.size + 1:=h; omega))
 have HX:Hid (Fr (fun i=>i=w.heap.size∨i=w.heap.size + 1) w2 w4):=zh ((HF3.out.mono (fun _ _ h=>Or.inl h)).trans (HF4.out.mono (fun _ _ h=>Or.inr h)))
 refine leaves_cons (f:=128) (args:=#[.pointer (some ⟨w.heap.size,0,none⟩), .pointer (some ⟨w.heap.size + 1,0,none⟩)]) (by simp) (by simp [go_sem]) ?_
 refine (Zn1 _ _ _).mono ?_
 rintro e u' w7 ⟨rfl,rfl,hE7⟩
 have hwb2:wb.heap.size≤w2.heap.size:=HE2.out.size
 have hW:Ext w w7:=((HE.out.trans HE2.out).next HX.out (fun i hi h=>by rcases h with h | h<;>omega)).trans hE7
 have hO4:=OwnD.ext (HO.out.fr HX.out (fun i hi h=>by have:=(HO.out.blk hi).1; rcases h with h | h<;>omega)) hE7
 have hN4:=(HN.out.nrb (fun i h=>by
  rcases h with h | h
  ·rw [h]; exact ⟨_,_,HP2.out,Zcp.list (l:=[.int .i64 0, .int .i64 0, .slice none 0 0]) (by simp)⟩
  ·rw [h]; exact ⟨_,_,HQ2.out,Zcp.list (l:=[.int .i64 0]) (by simp)⟩) HX.out).ext hE7
 exact ⟨_,ZsW (p:=w.heap.size) (q:=w.heap.size + 1) (T:=97) (zs:=[.int .i64 ((r:Nat):Int), .int .i64 ((c:Nat):Int), .slice (some ⟨b,0,none⟩) xs.length xs.length]) Tryz.results78 rfl rfl (HP4.out.ext hE7) (HQ4.out.ext hE7) (by kernel_rfl),b,xs,rfl,HV.out,OwnD.mono hO4 (by omega),hN4,hW⟩
end Go.Proofs.YtenchljfmfgeoaaGreatDoor

namespace Go.Proofs.YtenchljfmfgeoaaGreatDoor
open Go.RowKit
theorem ZjC {sh:Value→Value} {r c m0:Nat} {vs:List Fv3} {w w':World} {e:Ending} (hm:m0≤w.heap.size) (h:Zfy sh r c vs w e w') :
 ZbA (fun x:{x:Nat × List Nb // x.2.map nbV=vs∧m0≤x.1}=>sh (.agg #[.int .i64 ((r:Nat):Int), .int .i64 ((c:Nat):Int), .slice (some ⟨x.1.1,0,none⟩) x.1.2.length x.1.2.length])) (fun x w=>OwnD w m0 109 3 (some ⟨x.1.1,0,none⟩) x.1.2.length x.1.2.length (x.1.2.flatMap nbC)∧ZaG w x.1.2) w e w':=by
 obtain ⟨b,xs,rfl,hv,hO,hN,Q⟩:=h
 exact ⟨⟨(b,xs),hv,Nat.le_trans hm (hO.blk rfl).1⟩,rfl,Q,(hO.boxN hm).and (boxn Q (fun S w'' hS hF=>hN.nrb hS hF))⟩
theorem ZeX {sh:Value→Value} {r c m0:Nat} {fs:List (ByteArray × Int)} {w w':World} {e:Ending} (hm:m0≤w.heap.size) (h:Zfz sh r c fs w e w') :
 ZbA (fun b:{b:Nat // m0≤b}=>sh (.agg #[.int .i64 ((r:Nat):Int), .int .i64 ((c:Nat):Int), .slice (some ⟨b.1,0,none⟩) fs.length fs.length])) (fun b w=>OwnD w m0 76 2 (some ⟨b.1,0,none⟩) fs.length fs.length (fs.flatMap flC)) w e w':=by
 obtain ⟨b,rfl,hO,Q⟩:=h
 exact ⟨⟨b,Nat.le_trans hm (hO.blk rfl).1⟩,rfl,Q,hO.boxN hm⟩
theorem Zqx (m n:Nat) (A:Option Addr) (cap:Nat) (xs:List Nb) (b:Nat) (Lf:List Fv3) (w:World) (hg:Glob w) (hO:OwnD w m 109 3 A cap (n * n) (xs.flatMap nbC)) (hN:ZaG w xs) (hl:xs.length=n * n) (hn:n≤32) (hb1:8≤b) (hb2:b≤1024) (hfx:∀ x ∈ xs,FvOk (nbV x)) (hC:ZgK b (xs.map nbV) n=some Lf) :
 Calls Tryz.prog 57 #[.agg #[.int .i64 ((n:Nat):Int), .int .i64 ((n:Nat):Int), .slice A (n * n) cap], .int .i64 ((b:Nat):Int)] w (Zfy (fun v=>.tuple #[v, .int .i64 0]) n n Lf w):=by
 obtain ⟨m0,hm0⟩:∃ m,m=w.heap.size:=⟨_,rfl⟩
 refine Zas (Φ:=fun w=>True) Tryz.func57 rfl (by kernel_rfl) (fun w' hf=>trivial) ?_
 refine Zac (Zab (xq 4 [(2, .p 2 0),(3, .p 3 0),(4, .p 4 0),(5, .v (.int .i64 0))] [(4,97,[.v (.int .i64 0), .v (.int .i64 0), .v (.slice none 0 0)]),(3,3,[.v (.int .i64 ((b:Nat):Int))]),(2,97,[.v (.int .i64 ((n:Nat):Int)), .v (.int .i64 ((n:Nat):Int)), .v (.slice A (n * n) cap)])] ?_))
 refine xe (Zaa (Zac (Zac (Zab (xq 5 [(10, .v (.bool ((((n:Nat):Int):Int) != ((n:Nat):Int))))] [] ?_)))))
 rw [(show ((((n:Nat):Int):Int) != ((n:Nat):Int))=false from ZlE rfl)]
 refine xe (Zaa (xb (Zal (Zaa (Zac ?_)))))
 refine SXc.freezeN 2 97 [.int .i64 ((n:Nat):Int), .int .i64 ((n:Nat):Int), .slice A (n * n) cap] (fun gm=>[(2, .v (.pointer (some ⟨gm,0,none⟩))),(3, .p 3 0),(4, .p 4 0),(5, .v (.int .i64 0))]) [(4,97,[.v (.int .i64 0), .v (.int .i64 0), .v (.slice none 0 0)]),(3,3,[.v (.int .i64 ((b:Nat):Int))])] (by kernel_rfl) (fun _=>by kernel_rfl) (by kernel_rfl) (by kernel_rfl) (fun _=>by kernel_rfl) (fun gm hgm=>?_)
 refine SXc.freezeN 3 3 [.int .i64 ((b:Nat):Int)] (fun gb=>[(2, .v (.pointer (some ⟨gm,0,none⟩))),(3, .v (.pointer (some ⟨gb,0,none⟩))),(4, .p 4 0),(5, .v (.int .i64 0))]) [(4,97,[.v (.int .i64 0), .v (.int .i64 0), .v (.slice none 0 0)])] (by kernel_rfl) (fun _=>by kernel_rfl) (by kernel_rfl) (by kernel_rfl) (fun _=>by kernel_rfl) (fun gb hgb=>?_)
 refine Zab (xq 1 [(12, .v (.func (.func 95) #[] #[.pointer (some ⟨gm,0,none⟩), .pointer (some ⟨gb,0,none⟩)]))] [] ?_)
 refine xqc 78 [.func (.func 95) #[] #[.pointer (some ⟨gm,0,none⟩), .pointer (some ⟨gb,0,none⟩)]] 13 (fun x:{x:Nat × List Nb // x.2.map nbV=Lf∧m0≤x.1}=>.tuple #[.agg #[.int .i64 ((n:Nat):Int), .int .i64 ((n:Nat):Int), .slice (some ⟨x.1.1,0,none⟩) x.1.2.length x.1.2.length], .int .i64 0]) _ (fun w R Q=>(ZrV 95 #[.pointer (some ⟨gm,0,none⟩), .pointer (some ⟨gb,0,none⟩)] n n Lf _ (fun _=>rfl) (fun w1 hE1=>Zps m n A cap xs b gm gb Lf _ (hg.ext (R.trans hE1)) (Q.1.2.ext hE1) (Q.2.ext hE1) (OwnD.ext hO (R.trans hE1)) (ZaG.ext hN (R.trans hE1)) hl hn hb1 hb2 hfx hC)).mono (fun _ _ h=>ZjC (sh:=fun v=>.tuple #[v, .int .i64 0]) (m0:=m0) (hm0 ▸ R.size) h)) (fun xx=>?_)
 obtain ⟨⟨b10,zs10⟩,hzs10,hb10⟩:=xx
 refine xq 4 [(5, .v (.int .i64 0))] [(4,97,[.v (.int .i64 ((n:Nat):Int)), .v (.int .i64 ((n:Nat):Int)), .v (.slice (some ⟨b10,0,none⟩) zs10.length zs10.length)])] ?_
 refine xe (Zaa (Zag ?_))
 refine Zaf (v:=.tuple #[.agg #[.int .i64 ((n:Nat):Int), .int .i64 ((n:Nat):Int), .slice (some ⟨b10,0,none⟩) zs10.length zs10.length], .int .i64 0]) (by kernel_rfl) (fun w' R Q=>?_)
 exact ⟨b10,zs10,rfl,hzs10,hm0 ▸ Q.2.1,Q.2.2,R⟩
theorem Zn2 (m r c:Nat) (A:Option Addr) (cap n:Nat) (xs:List Nb) (w:World) (hO:OwnD w m 109 3 A cap n (xs.flatMap nbC)) (hN:ZaG w xs) (hl:xs.length=n) (hg:Glob w) (hn:n≤4096) (hx:∀ x ∈ xs,wl x.m≤1000000∧(x.s=true→0 < x.m)) :
 Calls Tryz.prog 77 #[.agg #[.int .i64 ((r:Nat):Int), .int .i64 ((c:Nat):Int), .slice A n cap], .int .i64 0] w (Zfz (fun v=>.tuple #[v, .int .i64 0]) r c (xs.map ftV) w):=by
 obtain ⟨m0,hm0⟩:∃ m,m=w.heap.size:=⟨_,rfl⟩
 refine Zas (Φ:=fun w=>True) Tryz.func77 rfl (by kernel_rfl) (fun w' hf=>trivial) ?_
 refine Zac (Zab (xq 3 [(2, .p 2 0),(4, .p 4 0),(5, .v (.int .i64 0))] [(4,29,[.v (.int .i64 0), .v (.int .i64 0), .v (.slice none 0 0)]),(2,97,[.v (.int .i64 ((r:Nat):Int)), .v (.int .i64 ((c:Nat):Int)), .v (.slice A n cap)])] ?_))
 refine xe (Zaa (Zac (Zac (Zab (xq 2 [(7, .v (.bool false))] [] ?_)))))
 refine xe (Zaa (xb (Zal (Zaa (Zac (Zab (xq 1 [(10, .v (.agg #[.int .i64 ((r:Nat):Int), .int .i64 ((c:Nat):Int), .slice A n cap]))] [] ?_)))))))
 refine xqc 127 [.agg #[.int .i64 ((r:Nat):Int), .int .i64 ((c:Nat):Int), .slice A n cap]] 11 (fun b:{b:Nat // m0≤b}=>.agg #[.int .i64 ((r:Nat):Int), .int .i64 ((c:Nat):Int), .slice (some ⟨b.1,0,none⟩) (xs.map ftV).length (xs.map ftV).length]) _ (fun w R Q=>(Zmj m r c A cap n xs _ (OwnD.ext hO R) (ZaG.ext hN R) hl (hg.ext R) hn hx).mono (fun _ _ h=>ZeX (sh:=fun v=>v) (m0:=m0) (hm0 ▸ R.size) h)) (fun bb=>?_)
 obtain ⟨b10,hb10⟩:=bb
 refine xq 2 [(5, .v (.int .i64 0))] [(4,29,[.v (.int .i64 ((r:Nat):Int)), .v (.int .i64 ((c:Nat):Int)), .v (.slice (some ⟨b10,0,none⟩) (xs.map ftV).length (xs.map ftV).length)])] ?_
 refine xe (Zaa (Zag ?_))
 refine Zaf (v:=.tuple #[.agg #[.int .i64 ((r:Nat):Int), .int .i64 ((c:Nat):Int), .slice (some ⟨b10,0,none⟩) (xs.map ftV).length (xs.map ftV).length], .int .i64 0]) (by kernel_rfl) (fun w' R Q=>?_)
 exact ⟨b10,rfl,hm0 ▸ Q.2,R⟩
end Go.Proofs.YtenchljfmfgeoaaGreatDoor

namespace Go.Proofs.YtenchljfmfgeoaaGreatDoor
open Go.RowKit
structure Fm where
 r:Nat
 c:Nat
 A:Option Addr
 cap:Nat
 fs:List (ByteArray × Int)
instance:Inhabited Fm:=⟨⟨0,0,none,0,[]⟩⟩
def fmC (x:Fm):List Value:=[.int .i64 ((x.r:Nat):Int), .int .i64 ((x.c:Nat):Int), .slice x.A x.fs.length x.cap]
theorem ZrW (x:Fm):(fmC x).length=3:=rfl
theorem ZsC (x:Fm):∀ (k:IntKind) (z:Int),Value.int k z ∈ fmC x→k=.i64:=fun k z h=>by
 simp [fmC] at h; rcases h with h | h<;>exact h.1
structure Mx where
 r:Nat
 c:Nat
 A:Option Addr
 cap:Nat
 xs:List Nb
def mx0:Mx:=⟨0,0,none,0,[]⟩
instance:Inhabited Mx:=⟨mx0⟩
def mxC (x:Mx):List Value:=[.int .i64 ((x.r:Nat):Int), .int .i64 ((x.c:Nat):Int), .slice x.A x.xs.length x.cap]
theorem ZjD (x:Mx):(mxC x).length=3:=rfl
theorem Zpt (x:Mx):∀ (k:IntKind) (z:Int),Value.int k z ∈ mxC x→k=.i64:=fun k z h=>by
 simp [mxC] at h; rcases h with h | h<;>exact h.1
def fmV (x:Fm):Nat × Nat × List Fv3:=(x.r,x.c,x.fs.map ldV)
def mxV (x:Mx):Nat × Nat × List Fv3:=(x.r,x.c,x.xs.map nbV)
structure FmG (x:Fm):Prop where
 hr:1≤x.r∧x.r≤32
 hc:1≤x.c∧x.c≤32
 hn:x.fs.length=x.r * x.c
 hv:∀ f ∈ x.fs,fvB (bytes f.1) f.2=true
 hs:∀ f ∈ x.fs,(bytes f.1).length≤1000
def MsOk (m:Nat) (w:World) (ys:List Mx):Prop:=∀ y ∈ ys,OwnD w m 109 3 y.A y.cap y.xs.length (y.xs.flatMap nbC)∧ZaG w y.xs
theorem Blk.same {T T':TypeId} {w:World} {i:Nat} {cs cs':Array Value} (h:Blk T w i cs) (h':Blk T' w i cs'):T=T':=by
 have h1:w.heap[i]? = some (.cells cs T (0,0)):=h
 have h2:w.heap[i]? = some (.cells cs' T' (0,0)):=h'
 rw [h1] at h2
 injection h2 with h2
 injection h2 with _ e _
theorem OwnD.apart {w w':World} {m m' n n' c c' k k':Nat} {e e':TypeId} {A A':Option Addr} {xs xs':List Value} (h:OwnD w m e k A c n xs) (hO:OwnD w m' e' k' A' c' n' xs') (hne:e≠e') (hF:Fr (fun i=>A'=some ⟨i,0,none⟩) w w'):OwnD w' m e k A c n xs :=
 h.fr hF (fun i hi hs=>by
  obtain ⟨_,_,h1,_⟩:=h.blk hi
  obtain ⟨_,_,h2,_⟩:=hO.blk hs
  exact hne (Blk.same h1 h2))
theorem MsOk.row {m m' k c n:Nat} {w w':World} {ys:List Mx} {A:Option Addr} {l:List Value} (h:MsOk m w ys) (hO:OwnD w m' 97 k A c n l) (hF:Fr (fun i=>A=some ⟨i,0,none⟩) w w'):MsOk m w' ys:=fun y hy =>
 ⟨(h y hy).1.apart hO (by decide) hF,(h y hy).2.row hO hF⟩
theorem MsOk.snoc {m:Nat} {w:World} {ys:List Mx} {x:Mx} (h:MsOk m w ys) (hx:OwnD w m 109 3 x.A x.cap x.xs.length (x.xs.flatMap nbC)∧ZaG w x.xs):MsOk m w (ys ++ [x]):=fun y hy=>by
 rcases List.mem_append.1 hy with hy | hy
 ·exact h y hy
 ·rw [List.mem_singleton.1 hy]; exact hx
def ZqY (ls:List Fm) (nl:Nat) (w:World) (e:Ending) (w':World):Prop:=∃ b ms,e=.returned (.tuple #[.slice (some ⟨b,0,none⟩) nl nl, .int .i64 0])∧ms.map mxV=ls.map fmV∧OwnD w' w.heap.size 97 3 (some ⟨b,0,none⟩) nl nl (ms.flatMap mxC)∧MsOk w.heap.size w' ms∧Ext w w'
theorem Zqy (ml gl nl:Nat) (ls:List Fm) (b:Nat) (w:World) (hO:OwnD w ml 29 3 (some ⟨gl,0,none⟩) nl nl (ls.flatMap fmC)) (hl:ls.length=nl) (hn:nl≤2) (hF:∀ x ∈ ls,OwnD w ml 76 2 x.A x.cap x.fs.length (x.fs.flatMap flC)) (hG:∀ x ∈ ls,FmG x) (hb1:8≤b) (hb2:b≤1024) :
 Calls Tryz.prog 76 #[.int .i64 ((b:Nat):Int), .slice (some ⟨gl,0,none⟩) nl nl] w (ZqY ls nl w):=by
 obtain ⟨m0,hm0⟩:∃ m,m=w.heap.size:=⟨_,rfl⟩
 refine Zas (Φ:=fun w=>True) Tryz.func76 rfl (by kernel_rfl) (fun w' hf=>trivial) ?_
 refine Zac (Zab (xq 2 [eS1 4 none 0 0,(5, .v (.int .i64 0))] [] ?_))
 refine xe (Zaa (Zac (Zab (xq 2 [(12, .v (.int .i64 ((nl:Nat):Int)))] [] ?_))))
 refine Zbx (d:=13) (fun bb:{b:Nat // m0≤b}=>.slice (some ⟨bb.1,0,none⟩) nl nl) (fun bb w=>OwnD w m0 97 3 (some ⟨bb.1,0,none⟩) nl nl ((List.replicate nl mx0).flatMap mxC)) (by kernel_rfl) (by kernel_rfl) (by kernel_rfl) (by kernel_rfl) (by kernel_rfl) (by kernel_rfl) (fun w R Q=>ZcA (t:=123) (e:=97) (kl:=.i64) (kc:=.i64) (l:=(Operand.tmp 12)) (c:=(Operand.tmp 12)) (bytes:=40) (z:=.agg #[.int .i64 0, .int .i64 0, .slice none 0 0]) mx0 ZjD (by decide) rfl Zpt (hm0 ▸ R.size) (by simp only [maxLen]; omega) (by omega)) (fun bb=>?_)
 obtain ⟨b10,hb10⟩:=bb
 refine xr 1 [(0, .v (.int .i64 ((b:Nat):Int))),eS1 1 (some ⟨gl,0,none⟩) nl nl,eS1 4 none 0 0,(5, .v (.int .i64 0)),eS1 6 (some ⟨b10,0,none⟩) nl nl] [] ?_
 refine xe (Zaa (Zac (Zac (Zab (xq 3 [eS1 14 (some ⟨gl,0,none⟩) nl nl,(15, .v (.int .i64 ((nl:Nat):Int))),(16, .v (.int .i64 0))] [] ?_)))))
 refine xe (Zaa (Zar ?_))
 refine SXc.weak [(0, .v (.int .i64 ((b:Nat):Int))),(4, .v (.slice none 0 0)),(5, .v (.int .i64 0)),(6, .v (.slice (some ⟨b10,0,none⟩) nl nl)),(14, .v (.slice (some ⟨gl,0,none⟩) nl nl)),(15, .v (.int .i64 ((nl:Nat):Int))),(16, .v (.int .i64 ((0:Nat):Int)))] [] (Ψ:=fun w=>(MsOk m0 w ([]:List Mx)∧OwnD w m0 97 3 (some ⟨b10,0,none⟩) nl nl ((fill nl mx0 ([]:List Mx)).flatMap mxC))) (Zax.of (by kernel_rfl)) (by kernel_rfl) (fun w Q=>⟨(fun _ h=>nomatch h),(by rw [Zgw]; exact Q.2)⟩) ?_
 refine ZaR (fun nn ss ff=>∃ (k:Nat) (ys:List Mx),ss=ofL [(0, .v (.int .i64 ((b:Nat):Int))),(4, .v (.slice none 0 0)),(5, .v (.int .i64 0)),(6, .v (.slice (some ⟨b10,0,none⟩) nl nl)),(14, .v (.slice (some ⟨gl,0,none⟩) nl nl)),(15, .v (.int .i64 ((nl:Nat):Int))),(16, .v (.int .i64 ((k:Nat):Int)))] []∧ff=(fun w=>(MsOk m0 w ys∧OwnD w m0 97 3 (some ⟨b10,0,none⟩) nl nl ((fill nl mx0 ys).flatMap mxC)))∧(k≤nl)∧(ys.map mxV=(ls.take k).map fmV)∧nn=(1 + (nl - k))) ((1 + (nl - 0))) ⟨0,([]:List Mx),rfl,rfl,(Nat.zero_le _),rfl,rfl⟩ ?_
 rintro nn ss ff ⟨k,ys,rfl,rfl,hk,hy,rfl⟩
 refine Zac (Zab (xq 1 [(17, .v (.bool (decide (((k:Nat):Int) < ((nl:Nat):Int)))))] [] ?_))
 refine xe (Zaa (Zac ?_))
 refine Zap ((decide (((k:Nat):Int) < ((nl:Nat):Int)))) (by kernel_rfl) (fun hb11=>?_) (fun hb11=>?_)
 ·have hlt:k < nl:=by have:=of_decide_eq_true hb11; omega
  have hyk:ys.length=k:=by have:=congrArg List.length hy; rw [List.length_map,List.length_map,List.length_take] at this; omega
  refine Zal (Zaa (Zac (Zar (Zac (Zab (xq 1 [(18, .v (.int .i64 ((k:Nat):Int)))] [] ?_))))))
  refine xqk 19 (atA (some ⟨gl,0,none⟩) (k * 3)) (fun w R Q=>Zb1 (t:=179) (e:=29) (sz:=3) (x:=(Operand.tmp 14)) (ix:=(Operand.tmp 16)) (len:=nl) (cap:=nl) (i:=k) ((OwnD.ext hO R).ne hlt) hlt) ?_
  obtain ⟨x12,hx12⟩:∃ x,ls[k]! = x:=⟨_,rfl⟩
  refine xqk 20 (.agg #[.int .i64 ((x12.r:Nat):Int), .int .i64 ((x12.c:Nat):Int), .slice x12.A x12.fs.length x12.cap]) (fun w R Q=>by rw [← hx12]; exact ZdO (t:=29) (x:=(Operand.tmp 19)) (j:=k) (OwnD.ext hO R) ZrW (hl.symm ▸ hlt)) ?_
  refine xq 3 [(7, .v (.int .i64 ((k:Nat):Int))),(8, .p 8 0)] [(8,29,[.v (.int .i64 ((x12.r:Nat):Int)), .v (.int .i64 ((x12.c:Nat):Int)), .v (.slice x12.A x12.fs.length x12.cap)])] ?_
  refine xe (Zaa (Zac (Zab (xq 1 [(22, .v (.agg #[.int .i64 ((x12.r:Nat):Int), .int .i64 ((x12.c:Nat):Int), .slice x12.A x12.fs.length x12.cap]))] [] ?_))))
  have hgx12:FmG x12:=by rw [← hx12]; exact hG _ (Zbc (hl.symm ▸ hlt))
  refine xqc 126 [.agg #[.int .i64 ((x12.r:Nat):Int), .int .i64 ((x12.c:Nat):Int), .slice x12.A x12.fs.length x12.cap]] 23 (fun x:{x:Nat × List Nb // x.2.map nbV=x12.fs.map ldV∧m0≤x.1}=>.tuple #[.agg #[.int .i64 ((x12.r:Nat):Int), .int .i64 ((x12.c:Nat):Int), .slice (some ⟨x.1.1,0,none⟩) x.1.2.length x.1.2.length], .bool true]) _ (fun w R Q=>((show Calls _ _ _ _ (Zfy (fun v=>.tuple #[v, .bool true]) x12.r x12.c (x12.fs.map ldV) _) from Zpi ml x12.r x12.c x12.A x12.cap x12.fs _ (by rw [← hx12]; exact OwnD.ext (hF _ (Zbc (hl.symm ▸ hlt))) R) hgx12.hr hgx12.hc hgx12.hn hgx12.hv hgx12.hs)).mono (fun _ _ h=>ZjC (sh:=fun v=>.tuple #[v, .bool true]) (m0:=m0) (hm0 ▸ R.size) h)) (fun xx=>?_)
  obtain ⟨⟨b13,zs13⟩,hzs13,hb13⟩:=xx
  refine xq 6 [(9, .p 9 0),(10, .v (.bool true))] [(9,97,[.v (.int .i64 ((x12.r:Nat):Int)), .v (.int .i64 ((x12.c:Nat):Int)), .v (.slice (some ⟨b13,0,none⟩) zs13.length zs13.length)])] ?_
  refine xe (Zaa (Zac (Zac (Zab (xq 2 [(27, .v (.bool false))] [] ?_)))))
  refine xe (Zaa (xb (Zal (Zaa (Zab (xq 3 [eS1 28 (some ⟨b10,0,none⟩) nl nl,(29, .v (.int .i64 ((k:Nat):Int))),(30, .v (.agg #[.int .i64 ((x12.r:Nat):Int), .int .i64 ((x12.c:Nat):Int), .slice (some ⟨b13,0,none⟩) zs13.length zs13.length]))] [] ?_))))))
  refine xqk 31 (.pointer (some ⟨b10,0 + k * 3,none⟩)) (fun w R Q=>Zb8 (t:=123) (e:=97) (sz:=3) (x:=(Operand.tmp 28)) (ix:=(Operand.tmp 29)) (len:=nl) (cap:=nl) (i:=k) hlt) ?_
  refine ZdP (t:=97) (x:=(Operand.tmp 31)) (y:=(Operand.tmp 30)) (j:=k) (new:=mxC ((⟨x12.r,x12.c,some ⟨b13,0,none⟩,zs13.length,zs13⟩:Mx))) m0 b10 (.agg #[.int .i64 ((x12.r:Nat):Int), .int .i64 ((x12.c:Nat):Int), .slice (some ⟨b13,0,none⟩) zs13.length zs13.length]) (fun w=>((MsOk m0 w ys∧OwnD w m0 109 3 (some ⟨b13,0,none⟩) zs13.length zs13.length (zs13.flatMap nbC))∧ZaG w zs13)) (fun w Q=>Q.1.2) hlt rfl (by decide) (fun h=>Or.inl (Nat.le_trans (hm0 ▸ Nat.le_refl _) h)) (by simp [mxC,Value.oneCell']) (Zpt _) rfl (fun w w' Q hF=>⟨⟨MsOk.row Q.1.1 Q.1.2 hF,OwnD.apart Q.2.1 Q.1.2 (by decide) hF⟩,ZaG.row Q.2.2 Q.1.2 hF⟩) ?_
  rw [← Zc0 ZjD ((fill nl mx0 ys)) k ((⟨x12.r,x12.c,some ⟨b13,0,none⟩,zs13.length,zs13⟩:Mx)) (by rw [Zgu (by omega)]; exact hlt),Zhw hyk hlt]
  refine xr 0 [(0, .v (.int .i64 ((b:Nat):Int))),eS1 4 none 0 0,(5, .v (.int .i64 0)),eS1 6 (some ⟨b10,0,none⟩) nl nl,eS1 14 (some ⟨gl,0,none⟩) nl nl,(15, .v (.int .i64 ((nl:Nat):Int))),(16, .v (.int .i64 ((k:Nat):Int)))] [] ?_
  refine xe (ZaO (Zaa (Zab (xq 1 [(32, .v (.int .i64 (IntKind.i64.wrap (((k:Nat):Int) + 1))))] [] ?_))))
  rw [show IntKind.i64.wrap ((((k:Nat):Int) + 1))=((k + 1:Nat):Int) from by rw [IntKind.wrap_i64]; omega]
  refine xq 1 [(16, .v (.int .i64 ((k + 1:Nat):Int)))] [] ?_
  refine xe ?_
  refine SXq.weak [(0, .v (.int .i64 ((b:Nat):Int))),(4, .v (.slice none 0 0)),(5, .v (.int .i64 0)),(6, .v (.slice (some ⟨b10,0,none⟩) nl nl)),(14, .v (.slice (some ⟨gl,0,none⟩) nl nl)),(15, .v (.int .i64 ((nl:Nat):Int))),(16, .v (.int .i64 (((k + 1):Nat):Int)))] [] (Ψ:=fun w=>(MsOk m0 w (ys ++ [(⟨x12.r,x12.c,some ⟨b13,0,none⟩,zs13.length,zs13⟩:Mx)])∧OwnD w m0 97 3 (some ⟨b10,0,none⟩) nl nl ((fill nl mx0 (ys ++ [(⟨x12.r,x12.c,some ⟨b13,0,none⟩,zs13.length,zs13⟩:Mx)])).flatMap mxC))) (Zax.of (by kernel_rfl)) (by kernel_rfl) (fun w Q=>⟨(MsOk.snoc Q.1.1.1 ⟨Q.1.1.2,Q.1.2⟩),Q.2⟩) ?_
  exact ZaF ((1 + (nl - (k + 1)))) (by omega) ⟨(k + 1),(ys ++ [(⟨x12.r,x12.c,some ⟨b13,0,none⟩,zs13.length,zs13⟩:Mx)]),rfl,rfl,hlt,(ZlH hy (hl.symm ▸ hlt) (by rw [hx12]; show (_,_,_)=(_,_,_); rw [hzs13])),rfl⟩
 ·have hge:k=nl:=by have:=of_decide_eq_false hb11; omega
  have hyk:ys.length=k:=by have:=congrArg List.length hy; rw [List.length_map,List.length_map,List.length_take] at this; omega
  refine ZaM (Zaj (Zaj (ZaV (Zaa (Zac (Zac (Zab (xq 2 [(34, .v (.bool (decide (((b:Nat):Int) < 8))))] [] ?_))))))))
  rw [(show decide (((b:Nat):Int) < 8)=false from decide_eq_false (by omega))]
  refine xq 3 [(35, .v (.bool false)),(37, .v (.bool (decide (((b:Nat):Int) > 1024))))] [] ?_
  rw [(show decide (((b:Nat):Int) > 1024)=false from decide_eq_false (by omega))]
  refine xq 1 [(38, .v (.bool false))] [] ?_
  refine xe (Zaa (xb (Zal (Zaa (Zac (Zab (xq 3 [eS1 4 (some ⟨b10,0,none⟩) nl nl,(5, .v (.int .i64 0))] [] ?_)))))))
  refine xe (Zaa (Zag ?_))
  refine Zaf (v:=.tuple #[.slice (some ⟨b10,0,none⟩) nl nl, .int .i64 0]) (by kernel_rfl) (fun w' R Q=>?_)
  exact ⟨b10,ys,rfl,by rw [hy,hge,← hl,List.take_length],by have h:=Q.2; have h2:=hyk; rw [hge] at h2; subst h2; rw [Zgv] at h; exact hm0 ▸ h,hm0 ▸ Q.1,R⟩
end Go.Proofs.YtenchljfmfgeoaaGreatDoor

namespace Go.Proofs.YtenchljfmfgeoaaGreatDoor
open Go.RowKit
structure Qv where
 c:ShQ
 q:Rat
def qv0:Qv:=⟨(false,none,0,0,false,none,0,0),0⟩
instance:Inhabited Qv:=⟨qv0⟩
def qvC (x:Qv):List Value:=[.bool x.c.1, .slice x.c.2.1 x.c.2.2.1 x.c.2.2.2.1, .bool x.c.2.2.2.2.1, .slice x.c.2.2.2.2.2.1 x.c.2.2.2.2.2.2.1 x.c.2.2.2.2.2.2.2]
theorem ZmZ (x:Qv):(qvC x).length=4:=rfl
theorem ZsD (x:Qv):∀ (k:IntKind) (z:Int),Value.int k z ∈ qvC x→k=.i64:=fun k z h=>by simp [qvC] at h
def QsOk (w:World) (xs:List Qv):Prop:=∀ x ∈ xs,Zbt w (ZqN x.c) x.q
theorem QsOk.nrb {S:Nat→Prop} {w w':World} {xs:List Qv} (h:QsOk w xs) (hN:∀ i,S i→NRB w i) (hF:Fr S w w'):QsOk w' xs:=fun x hx=>(h x hx).nrb hN hF
theorem QsOk.ext {w w':World} {xs:List Qv} (h:QsOk w xs) (hF:Ext w w'):QsOk w' xs:=fun x hx=>(h x hx).ext hF
theorem QsOk.zero (w:World) (n:Nat):QsOk w (List.replicate n qv0):=fun x hx=>by rw [(List.mem_replicate.1 hx).2]; exact Zbt.nil w
structure Qr where
 A:Option Addr
 cap:Nat
 xs:List Qv
def qr0:Qr:=⟨none,0,[]⟩
instance:Inhabited Qr:=⟨qr0⟩
def qrC (x:Qr):List Value:=[.slice x.A x.xs.length x.cap]
theorem ZjE (x:Qr):(qrC x).length=1:=rfl
theorem Zpu (x:Qr):∀ (k:IntKind) (z:Int),Value.int k z ∈ qrC x→k=.i64:=fun k z h=>by simp [qrC] at h
def RsOk (m:Nat) (w:World) (ys:List Qr):Prop:=∀ y ∈ ys,OwnD w m 59 4 y.A y.cap y.xs.length (y.xs.flatMap qvC)∧QsOk w y.xs
theorem RsOk.row {m m' k c n:Nat} {w w':World} {ys:List Qr} {A:Option Addr} {l:List Value} (h:RsOk m w ys) (hO:OwnD w m' 61 k A c n l) (hF:Fr (fun i=>A=some ⟨i,0,none⟩) w w'):RsOk m w' ys:=fun y hy =>
 ⟨(h y hy).1.apart hO (by decide) hF,(h y hy).2.nrb (fun _ hi=>hO.nrb hi) hF⟩
theorem RsOk.snoc {m:Nat} {w:World} {ys:List Qr} {x:Qr} (h:RsOk m w ys) (hx:OwnD w m 59 4 x.A x.cap x.xs.length (x.xs.flatMap qvC)∧QsOk w x.xs):RsOk m w (ys ++ [x]):=fun y hy=>by
 rcases List.mem_append.1 hy with hy | hy
 ·exact h y hy
 ·rw [List.mem_singleton.1 hy]; exact hx
def ZqZ (n:Nat) (qs:List (List Rat)) (w:World) (e:Ending) (w':World):Prop:=∃ b ys,e=.returned (.slice (some ⟨b,0,none⟩) n n)∧ys.map (fun r=>r.xs.map (·.q))=qs∧OwnD w' w.heap.size 61 1 (some ⟨b,0,none⟩) n n (ys.flatMap qrC)∧RsOk w.heap.size w' ys∧Ext w w'
def qT (x:Qv):ByteArray:=⟨(ZaD x.q).toArray⟩
theorem Zpv (n m:Nat) (w:World) (hn:n≤1000) (hm:m≤1000) :
 Calls Tryz.prog 17 #[.int .i64 ((n:Nat):Int), .int .i64 ((m:Nat):Int)] w (ZqZ n (List.replicate n (List.replicate m 0)) w):=by
 obtain ⟨m0,hm0⟩:∃ m,m=w.heap.size:=⟨_,rfl⟩
 refine Zas (Φ:=fun w=>True) Tryz.func17 rfl (by kernel_rfl) (fun w' hf=>trivial) ?_
 refine Zac (Zab (xq 1 [eS1 4 none 0 0] [] ?_))
 refine xe (Zaa (Zac (Zab (xq 1 [(7, .v (.int .i64 ((n:Nat):Int)))] [] ?_))))
 refine Zbx (d:=8) (fun bb:{b:Nat // m0≤b}=>.slice (some ⟨bb.1,0,none⟩) n n) (fun bb w=>OwnD w m0 61 1 (some ⟨bb.1,0,none⟩) n n ((List.replicate n qr0).flatMap qrC)) (by kernel_rfl) (by kernel_rfl) (by kernel_rfl) (by kernel_rfl) (by kernel_rfl) (by kernel_rfl) (fun w R Q=>ZcA (t:=33) (e:=61) (kl:=.i64) (kc:=.i64) (l:=(Operand.tmp 7)) (c:=(Operand.tmp 7)) (bytes:=24) (z:=.slice none 0 0) qr0 ZjE (by decide) rfl Zpu (hm0 ▸ R.size) (by simp only [maxLen]; omega) (by omega)) (fun bb=>?_)
 obtain ⟨b10,hb10⟩:=bb
 refine xr 1 [(0, .v (.int .i64 ((n:Nat):Int))),(1, .v (.int .i64 ((m:Nat):Int))),eS1 4 none 0 0,eS1 5 (some ⟨b10,0,none⟩) n n] [] ?_
 refine xe (Zaa (Zac (Zac (Zab (xq 1 [(6, .v (.int .i64 0))] [] ?_)))))
 refine xe (Zaa (Zar ?_))
 refine SXc.weak [(0, .v (.int .i64 ((n:Nat):Int))),(1, .v (.int .i64 ((m:Nat):Int))),(4, .v (.slice none 0 0)),(5, .v (.slice (some ⟨b10,0,none⟩) n n)),(6, .v (.int .i64 ((0:Nat):Int)))] [] (Ψ:=fun w=>(RsOk m0 w ([]:List Qr)∧OwnD w m0 61 1 (some ⟨b10,0,none⟩) n n ((fill n qr0 ([]:List Qr)).flatMap qrC))) (Zax.of (by kernel_rfl)) (by kernel_rfl) (fun w Q=>⟨(fun _ h=>nomatch h),(by rw [Zgw]; exact Q.2)⟩) ?_
 refine ZaR (fun nn ss ff=>∃ (k:Nat) (ys:List Qr),ss=ofL [(0, .v (.int .i64 ((n:Nat):Int))),(1, .v (.int .i64 ((m:Nat):Int))),(4, .v (.slice none 0 0)),(5, .v (.slice (some ⟨b10,0,none⟩) n n)),(6, .v (.int .i64 ((k:Nat):Int)))] []∧ff=(fun w=>(RsOk m0 w ys∧OwnD w m0 61 1 (some ⟨b10,0,none⟩) n n ((fill n qr0 ys).flatMap qrC)))∧(k≤n)∧(ys.length=k)∧(ys.map (fun r=>r.xs.map (·.q))=List.replicate k (List.replicate m 0))∧nn=(1 + (n - k))) ((1 + (n - 0))) ⟨0,([]:List Qr),rfl,rfl,(Nat.zero_le _),rfl,rfl,rfl⟩ ?_
 rintro nn ss ff ⟨k,ys,rfl,rfl,hk,hyk,hyz,rfl⟩
 refine Zac (Zac (Zab (xq 3 [(11, .v (.bool (decide (((k:Nat):Int) < ((n:Nat):Int)))))] [] ?_)))
 refine xe (Zaa ?_)
 refine Zap ((decide (((k:Nat):Int) < ((n:Nat):Int)))) (by kernel_rfl) (fun hb11=>?_) (fun hb11=>?_)
 ·have hlt:k < n:=by have:=of_decide_eq_true hb11; omega
  refine Zal (Zaa (Zac (Zar (Zab (xq 3 [eS1 14 (some ⟨b10,0,none⟩) n n,(15, .v (.int .i64 ((k:Nat):Int))),(16, .v (.int .i64 ((m:Nat):Int)))] [] ?_)))))
  refine Zbx (d:=17) (fun bb:{b:Nat // m0≤b}=>.slice (some ⟨bb.1,0,none⟩) m m) (fun bb w=>OwnD w m0 59 4 (some ⟨bb.1,0,none⟩) m m ((List.replicate m qv0).flatMap qvC)) (by kernel_rfl) (by kernel_rfl) (by kernel_rfl) (by kernel_rfl) (by kernel_rfl) (by kernel_rfl) (fun w R Q=>ZcA (t:=61) (e:=59) (kl:=.i64) (kc:=.i64) (l:=(Operand.tmp 16)) (c:=(Operand.tmp 16)) (bytes:=64) (z:=.agg #[.bool false, .slice none 0 0, .bool false, .slice none 0 0]) qv0 ZmZ (by decide) rfl ZsD (hm0 ▸ R.size) (by simp only [maxLen]; omega) (by omega)) (fun bb=>?_)
  obtain ⟨b12,hb12⟩:=bb
  refine xr 0 [(0, .v (.int .i64 ((n:Nat):Int))),(1, .v (.int .i64 ((m:Nat):Int))),eS1 4 none 0 0,eS1 5 (some ⟨b10,0,none⟩) n n,(6, .v (.int .i64 ((k:Nat):Int))),eS1 14 (some ⟨b10,0,none⟩) n n,(15, .v (.int .i64 ((k:Nat):Int))),eS1 17 (some ⟨b12,0,none⟩) m m] [] ?_
  refine xqk 18 (.pointer (some ⟨b10,0 + k * 1,none⟩)) (fun w R Q=>Zb8 (t:=33) (e:=61) (sz:=1) (x:=(Operand.tmp 14)) (ix:=(Operand.tmp 15)) (len:=n) (cap:=n) (i:=k) hlt) ?_
  refine ZdP (t:=61) (x:=(Operand.tmp 18)) (y:=(Operand.tmp 17)) (j:=k) (new:=qrC ((⟨some ⟨b12,0,none⟩,m,List.replicate m qv0⟩:Qr))) m0 b10 (.slice (some ⟨b12,0,none⟩) m m) (fun w=>(RsOk m0 w ys∧OwnD w m0 59 4 (some ⟨b12,0,none⟩) m m ((List.replicate m qv0).flatMap qvC))) (fun w Q=>Q.1.2) hlt rfl (by decide) (fun h=>Or.inl (Nat.le_trans (hm0 ▸ Nat.le_refl _) h)) (by simp [qrC,Value.oneCell']) (Zpu _) (by unfold qrC; rw [List.length_replicate]; rfl) (fun w w' Q hF=>⟨RsOk.row Q.1.1 Q.1.2 hF,OwnD.apart Q.2 Q.1.2 (by decide) hF⟩) ?_
  rw [← Zc0 ZjE ((fill n qr0 ys)) k ((⟨some ⟨b12,0,none⟩,m,List.replicate m qv0⟩:Qr)) (by rw [Zgu (by omega)]; exact hlt),Zhw hyk hlt]
  refine xr 0 [(0, .v (.int .i64 ((n:Nat):Int))),(1, .v (.int .i64 ((m:Nat):Int))),eS1 4 none 0 0,eS1 5 (some ⟨b10,0,none⟩) n n,(6, .v (.int .i64 ((k:Nat):Int)))] [] ?_
  refine xe (ZaO (Zaa (Zab (xq 2 [(13, .v (.int .i64 (IntKind.i64.wrap (((k:Nat):Int) + 1))))] [] ?_))))
  rw [show IntKind.i64.wrap ((((k:Nat):Int) + 1))=((k + 1:Nat):Int) from by rw [IntKind.wrap_i64]; omega]
  refine xq 1 [(6, .v (.int .i64 ((k + 1:Nat):Int)))] [] ?_
  refine xe ?_
  refine SXq.weak [(0, .v (.int .i64 ((n:Nat):Int))),(1, .v (.int .i64 ((m:Nat):Int))),(4, .v (.slice none 0 0)),(5, .v (.slice (some ⟨b10,0,none⟩) n n)),(6, .v (.int .i64 (((k + 1):Nat):Int)))] [] (Ψ:=fun w=>(RsOk m0 w (ys ++ [(⟨some ⟨b12,0,none⟩,m,List.replicate m qv0⟩:Qr)])∧OwnD w m0 61 1 (some ⟨b10,0,none⟩) n n ((fill n qr0 (ys ++ [(⟨some ⟨b12,0,none⟩,m,List.replicate m qv0⟩:Qr)])).flatMap qrC))) (Zax.of (by kernel_rfl)) (by kernel_rfl) (fun w Q=>⟨(RsOk.snoc Q.1.1 ⟨by show OwnD _ _ _ _ _ _ (List.replicate m qv0).length _; rw [List.length_replicate]; exact Q.1.2,QsOk.zero _ _⟩),Q.2⟩) ?_
  exact ZaF ((1 + (n - (k + 1)))) (by omega) ⟨(k + 1),(ys ++ [(⟨some ⟨b12,0,none⟩,m,List.replicate m qv0⟩:Qr)]),rfl,rfl,hlt,(by rw [List.length_append,hyk]; rfl),(by rw [List.map_append,hyz,List.replicate_succ']; show _ ++ [(List.replicate m qv0).map (·.q)]=_; rw [List.map_replicate]; rfl),rfl⟩
 ·have hge:k=n:=by have:=of_decide_eq_false hb11; omega
  refine ZaM (Zaj (Zaj (ZaV (Zaa (Zac (Zab (xq 2 [eS1 4 (some ⟨b10,0,none⟩) n n] [] ?_)))))))
  refine xe (Zaa (Zag ?_))
  refine Zaf (v:=.slice (some ⟨b10,0,none⟩) n n) (by kernel_rfl) (fun w' R Q=>?_)
  exact ⟨b10,ys,rfl,by rw [hge] at hyz; exact hyz,by have h:=Q.2; have h2:=hyk; rw [hge] at h2; subst h2; rw [Zgv] at h; exact hm0 ▸ h,hm0 ▸ Q.1,R⟩
theorem Zpw (m:Nat) (A:Option Addr) (cap:Nat) (xs:List Qv) (w:World) (hO:OwnD w m 59 4 A cap xs.length (xs.flatMap qvC)) (hN:QsOk w xs) (hn:xs.length≤1000) (hx:∀ x ∈ xs,ml x.q.num.natAbs≤65536∧ml x.q.den≤65536) :
 Calls Tryz.prog 69 #[.slice A xs.length cap] w (fun e w'=>∃ b,e=.returned (.slice (some ⟨b,0,none⟩) xs.length xs.length)∧OwnD w' w.heap.size 9 1 (some ⟨b,0,none⟩) xs.length xs.length ((xs.map qT).flatMap stC)∧Ext w w'):=by
 obtain ⟨m0,hm0⟩:∃ m,m=w.heap.size:=⟨_,rfl⟩
 refine Zas (Φ:=fun w=>True) Tryz.func69 rfl (by kernel_rfl) (fun w' hf=>trivial) ?_
 refine Zac (Zab (xq 1 [eS1 2 none 0 0] [] ?_))
 refine xe (Zaa (Zac (Zab (xq 2 [(6, .v (.int .i64 ((xs.length:Nat):Int)))] [] ?_))))
 refine Zbx (d:=7) (fun bb:{b:Nat // m0≤b}=>.slice (some ⟨bb.1,0,none⟩) xs.length xs.length) (fun bb w=>OwnD w m0 9 1 (some ⟨bb.1,0,none⟩) xs.length xs.length ((List.replicate xs.length (⟨#[]⟩:ByteArray)).flatMap stC)) (by kernel_rfl) (by kernel_rfl) (by kernel_rfl) (by kernel_rfl) (by kernel_rfl) (by kernel_rfl) (fun w R Q=>ZcA (t:=22) (e:=9) (kl:=.i64) (kc:=.i64) (l:=(Operand.tmp 6)) (c:=(Operand.tmp 6)) (bytes:=16) (z:=.string ⟨#[]⟩) (⟨#[]⟩:ByteArray) ZeW (by decide) rfl Zht (hm0 ▸ R.size) (by simp only [maxLen]; omega) (by omega)) (fun bb=>?_)
 obtain ⟨b10,hb10⟩:=bb
 refine xr 1 [eS1 0 A xs.length cap,eS1 2 none 0 0,eS1 3 (some ⟨b10,0,none⟩) xs.length xs.length] [] ?_
 refine xe (Zaa (Zac (Zac (Zab (xq 1 [(4, .v (.int .i64 0))] [] ?_)))))
 refine xe (Zaa (Zar ?_))
 refine SXc.weak [(0, .v (.slice A xs.length cap)),(2, .v (.slice none 0 0)),(3, .v (.slice (some ⟨b10,0,none⟩) xs.length xs.length)),(4, .v (.int .i64 ((0:Nat):Int)))] [] (Ψ:=fun w=>OwnD w m0 9 1 (some ⟨b10,0,none⟩) xs.length xs.length ((ZbM qT ⟨#[]⟩ xs 0).flatMap stC)) (Zax.of (by kernel_rfl)) (by kernel_rfl) (fun w Q=>(by rw [ZeL]; exact Q.2)) ?_
 refine ZaR (fun nn ss ff=>∃ (k:Nat),ss=ofL [(0, .v (.slice A xs.length cap)),(2, .v (.slice none 0 0)),(3, .v (.slice (some ⟨b10,0,none⟩) xs.length xs.length)),(4, .v (.int .i64 ((k:Nat):Int)))] []∧ff=(fun w=>OwnD w m0 9 1 (some ⟨b10,0,none⟩) xs.length xs.length ((ZbM qT ⟨#[]⟩ xs k).flatMap stC))∧(k≤xs.length)∧nn=(1 + (xs.length - k))) ((1 + (xs.length - 0))) ⟨0,rfl,rfl,(Nat.zero_le _),rfl⟩ ?_
 rintro nn ss ff ⟨k,rfl,rfl,hk,rfl⟩
 refine Zac (Zac (Zab (xq 4 [(11, .v (.bool (decide (((k:Nat):Int) < ((xs.length:Nat):Int)))))] [] ?_)))
 refine xe (Zaa ?_)
 refine Zap ((decide (((k:Nat):Int) < ((xs.length:Nat):Int)))) (by kernel_rfl) (fun hb11=>?_) (fun hb11=>?_)
 ·have hlt:k < xs.length:=by have:=of_decide_eq_true hb11; omega
  refine Zal (Zaa (Zac (Zar (Zab (xq 4 [eS1 14 (some ⟨b10,0,none⟩) xs.length xs.length,(15, .v (.int .i64 ((k:Nat):Int))),eS1 16 A xs.length cap,(17, .v (.int .i64 ((k:Nat):Int)))] [] ?_)))))
  refine xqk 18 (atA A (k * 4)) (fun w R Q=>Zb1 (t:=61) (e:=59) (sz:=4) (x:=(Operand.tmp 16)) (ix:=(Operand.tmp 17)) (len:=xs.length) (cap:=cap) (i:=k) ((OwnD.ext hO R).ne hlt) hlt) ?_
  obtain ⟨x12,hx12⟩:∃ x,xs[k]! = x:=⟨_,rfl⟩
  refine xqk 19 (.agg #[.bool x12.c.1, .slice x12.c.2.1 x12.c.2.2.1 x12.c.2.2.2.1, .bool x12.c.2.2.2.2.1, .slice x12.c.2.2.2.2.2.1 x12.c.2.2.2.2.2.2.1 x12.c.2.2.2.2.2.2.2]) (fun w R Q=>by rw [← hx12]; exact ZdO (t:=59) (x:=(Operand.tmp 18)) (j:=k) (OwnD.ext hO R) ZmZ hlt) ?_
  refine xqc 66 [vR4 x12.c.1 x12.c.2.1 x12.c.2.2.1 x12.c.2.2.2.1 x12.c.2.2.2.2.1 x12.c.2.2.2.2.2.1 x12.c.2.2.2.2.2.2.1 x12.c.2.2.2.2.2.2.2] 20 (fun _:Unit=>.string ⟨(ZaD x12.q).toArray⟩) _ (fun w R Q=>(Zo7 _ x12.q _ (show Zbt _ (ZqN x12.c) x12.q from by rw [← hx12]; exact (QsOk.ext hN R) _ (Zbc hlt)) (by rw [← hx12]; exact (hx _ (Zbc hlt)).1) (by rw [← hx12]; exact (hx _ (Zbc hlt)).2)).mono (fun _ _ h=>Zam h rfl)) (fun xx=>?_)
  refine xqk 21 (.pointer (some ⟨b10,0 + k * 1,none⟩)) (fun w R Q=>Zb8 (t:=22) (e:=9) (sz:=1) (x:=(Operand.tmp 14)) (ix:=(Operand.tmp 15)) (len:=xs.length) (cap:=xs.length) (i:=k) hlt) ?_
  refine ZdP (t:=9) (x:=(Operand.tmp 21)) (y:=(Operand.tmp 20)) (j:=k) (new:=stC ((⟨(ZaD x12.q).toArray⟩:ByteArray))) m0 b10 (.string ⟨(ZaD x12.q).toArray⟩) (fun w=>True) (fun w Q=>Q.1) hlt rfl (by decide) (fun h=>Or.inl (Nat.le_trans (hm0 ▸ Nat.le_refl _) h)) (by simp [stC,Value.oneCell']) (Zht _) rfl (fun w w' Q hF=>trivial) ?_
  rw [← Zc0 ZeW ((ZbM qT ⟨#[]⟩ xs k)) k ((⟨(ZaD x12.q).toArray⟩:ByteArray)) (by rw [Zfv]; exact hlt),Zfx hlt (by rw [hx12]; rfl)]
  refine xr 0 [eS1 0 A xs.length cap,eS1 2 none 0 0,eS1 3 (some ⟨b10,0,none⟩) xs.length xs.length,(4, .v (.int .i64 ((k:Nat):Int)))] [] ?_
  refine xe (ZaO (Zaa (Zab (xq 2 [(13, .v (.int .i64 (IntKind.i64.wrap (((k:Nat):Int) + 1))))] [] ?_))))
  rw [show IntKind.i64.wrap ((((k:Nat):Int) + 1))=((k + 1:Nat):Int) from by rw [IntKind.wrap_i64]; omega]
  refine xq 1 [(4, .v (.int .i64 ((k + 1:Nat):Int)))] [] ?_
  refine xe ?_
  refine SXq.weak [(0, .v (.slice A xs.length cap)),(2, .v (.slice none 0 0)),(3, .v (.slice (some ⟨b10,0,none⟩) xs.length xs.length)),(4, .v (.int .i64 (((k + 1):Nat):Int)))] [] (Ψ:=fun w=>OwnD w m0 9 1 (some ⟨b10,0,none⟩) xs.length xs.length ((ZbM qT ⟨#[]⟩ xs (k + 1)).flatMap stC)) (Zax.of (by kernel_rfl)) (by kernel_rfl) (fun w Q=>Q.2) ?_
  exact ZaF ((1 + (xs.length - (k + 1)))) (by omega) ⟨(k + 1),rfl,rfl,hlt,rfl⟩
 ·have hge:k=xs.length:=by have:=of_decide_eq_false hb11; omega
  refine ZaM (Zaj (Zaj (ZaV (Zaa (Zac (Zab (xq 2 [eS1 2 (some ⟨b10,0,none⟩) xs.length xs.length] [] ?_)))))))
  refine xe (Zaa (Zag ?_))
  refine Zaf (v:=.slice (some ⟨b10,0,none⟩) xs.length xs.length) (by kernel_rfl) (fun w' R Q=>?_)
  exact ⟨b10,rfl,by have h:=Q; rw [hge,Zfw] at h; exact hm0 ▸ h,R⟩
end Go.Proofs.YtenchljfmfgeoaaGreatDoor

namespace Go.Proofs.YtenchljfmfgeoaaGreatDoor
open Go.RowKit
section
variable {P:Program} {o:Oper} {ρ:Operand→Value} {w:World} {t e:TypeId} {x:Operand}
theorem Zm0 {A:Option Addr} {m c n j:Nat} {ys:List Qr} (h:OwnD w m e 1 A c n (ys.flatMap qrC)) (hj:j < ys.length) (ho:o.op=Op.load t x:=by kernel_rfl) (hx:ρ x=atA A (j * 1):=by kernel_rfl) (ha:(teOf P t).map (fun e=>e.agg)=some false:=by kernel_rfl) :
 (execOp ρ o).run P w=.ok (.value (.slice ys[j]!.A ys[j]!.xs.length ys[j]!.cap)) w:=by
 have h4:=Zec ZjE ys j 0 hj (by decide)
 obtain ⟨b,rfl,_,h5⟩:=h.at (v:=.slice ys[j]!.A ys[j]!.xs.length ys[j]!.cap) h4
 exact Za4 h5 ho (by rw [hx,atA,Option.map_some,ZcG]; rfl) ha
end
theorem Zqz {α:Type} {enc:α→List Value} {k:Nat} (he:∀ x,(enc x).length=k) (xs:List α):(xs.flatMap enc).length=xs.length * k:=by
 induction xs with
 | nil=>simp
 | cons x xs ih=>rw [List.flatMap_cons,List.length_append,ih,he,List.length_cons,Nat.succ_mul,Nat.add_comm]
theorem ZrX (l:List ByteArray):∀ u ∈ l.flatMap stC,u.oneCell'=true:=fun u hu=>by
 obtain ⟨s,_,hs⟩:=List.mem_flatMap.1 hu
 rw [List.mem_singleton.1 hs]; rfl
theorem Zpx {α β:Type} [Inhabited α] {l:List α} {k:Nat} {f:α→List β} (hk:k < l.length):(l.take (k + 1)).flatMap f=(l.take k).flatMap f ++ f l[k]! := by
 rw [List.take_succ_eq_append_getElem hk,List.flatMap_append,getElem!_pos l k hk,List.flatMap_singleton]
theorem ZrY {m0 c:Nat} {xs:List Qv} {w w':World} {e:Ending} (hm:m0≤w.heap.size) (hc:xs.length=c) (h:∃ b,e=.returned (.slice (some ⟨b,0,none⟩) xs.length xs.length)∧OwnD w' w.heap.size 9 1 (some ⟨b,0,none⟩) xs.length xs.length ((xs.map qT).flatMap stC)∧Ext w w') :
 ZbA (fun b:{b:Nat // m0≤b}=>.slice (some ⟨b.1,0,none⟩) c c) (fun b w=>OwnD w m0 9 1 (some ⟨b.1,0,none⟩) c c ((xs.map qT).flatMap stC)) w e w':=by
 subst hc
 obtain ⟨b,rfl,hO,Q⟩:=h
 exact ⟨⟨b,Nat.le_trans hm (hO.blk rfl).1⟩,rfl,Q,hO.boxN hm⟩
def ZkE (n c:Nat) (ys:List Qr) (w:World) (e:Ending) (w':World):Prop:=∃ A cap,e=.returned (.agg #[.int .i64 ((n:Nat):Int), .int .i64 ((c:Nat):Int), .slice A (n * c) cap])∧OwnD w' w.heap.size 9 1 A cap (n * c) ((ys.flatMap (fun r=>r.xs.map qT)).flatMap stC)∧Ext w w'
theorem ZqA (mq bq n c:Nat) (ys:List Qr) (w:World) (hO:OwnD w mq 61 1 (some ⟨bq,0,none⟩) n n (ys.flatMap qrC)) (hR:RsOk mq w ys) (hl:ys.length=n) (hn0:0 < n) (hn:n≤64) (hc0:0 < c) (hc1:c≤64) (hc:∀ y ∈ ys,y.xs.length=c) (hq:∀ y ∈ ys,∀ x ∈ y.xs,ml x.q.num.natAbs≤65536∧ml x.q.den≤65536) :
 Calls Tryz.prog 43 #[.slice (some ⟨bq,0,none⟩) n n] w (ZkE n c ys w):=by
 obtain ⟨m0,hm0⟩:∃ m,m=w.heap.size:=⟨_,rfl⟩
 refine Zas (Φ:=fun w=>OwnD w mq 61 1 (some ⟨bq,0,none⟩) n n (ys.flatMap qrC)) Tryz.func43 rfl (by kernel_rfl) (fun w' hf=>OwnD.ext hO hf) ?_
 refine Zac (Zab (xq 1 [(2, .p 2 0)] [(2,24,[.v (.int .i64 0), .v (.int .i64 0), .v (.slice none 0 0)])] ?_))
 refine xe (Zaa (Zac (Zac (Zab (xq 3 [(7, .v (.bool ((((n:Nat):Int):Int) == 0)))] [] ?_)))))
 rw [(show ((((n:Nat):Int):Int) == 0)=false from by simp; omega)]
 refine xe (Zaa (xb (Zal (Zaa (Zac (Zab (xq 3 [(10, .v (.int .i64 ((n:Nat):Int))),eS1 11 (some ⟨bq,0,none⟩) n n] [] ?_)))))))
 refine xqk 12 (atA (some ⟨bq,0,none⟩) (0 * 1)) (fun w R Q=>Zb1 (t:=33) (e:=61) (sz:=1) (x:=(Operand.tmp 11)) (ix:=(Operand.const (Value.int IntKind.i64 0))) (len:=n) (cap:=n) (i:=0) (by simp) hn0) ?_
 obtain ⟨x10,hx10⟩:∃ x,ys[0]! = x:=⟨_,rfl⟩
 refine xqk 13 (.slice x10.A x10.xs.length x10.cap) (fun w R Q=>by rw [← hx10]; exact Zm0 (t:=61) (x:=(Operand.tmp 12)) (j:=0) Q (hl.symm ▸ hn0)) ?_
 have hcx10:x10.xs.length=c:=by rw [← hx10]; exact hc _ (Zbc (hl.symm ▸ hn0))
 rw [hcx10]
 refine xq 4 [(3, .p 3 0)] [(3,24,[.v (.int .i64 ((n:Nat):Int)), .v (.int .i64 ((c:Nat):Int)), .v (.slice none 0 0)])] ?_
 refine xe (Zaa (Zac (Zac (Zab (xq 1 [(4, .v (.int .i64 0))] [] ?_)))))
 refine xe (Zaa (Zar ?_))
 refine SXc.weak [(0, .v (.slice (some ⟨bq,0,none⟩) n n)),(2, .p 2 0),(3, .p 3 0),(4, .v (.int .i64 ((0:Nat):Int)))] [(3,24,[.v (.int .i64 ((n:Nat):Int)), .v (.int .i64 ((c:Nat):Int)), .v (.slice none 0 0)]),(2,24,[.v (.int .i64 0), .v (.int .i64 0), .v (.slice none 0 0)])] (Ψ:=fun w=>(OwnD w mq 61 1 (some ⟨bq,0,none⟩) n n (ys.flatMap qrC)∧OwnD w m0 9 1 none 0 0 (([]:List ByteArray).flatMap stC))) (Zax.of (by kernel_rfl)) (by kernel_rfl) (fun w Q=>⟨Q,(OwnD.nil _ _ _ _)⟩) ?_
 refine ZaR (fun nn ss ff=>∃ (k p:Nat) (A:Option Addr) (cap:Nat) (l:List ByteArray),ss=ofL [(0, .v (.slice (some ⟨bq,0,none⟩) n n)),(2, .p 2 0),(3, .p 3 0),(4, .v (.int .i64 ((k:Nat):Int)))] [(3,24,[.v (.int .i64 ((n:Nat):Int)), .v (.int .i64 ((c:Nat):Int)), .v (.slice A p cap)]),(2,24,[.v (.int .i64 0), .v (.int .i64 0), .v (.slice none 0 0)])]∧ff=(fun w=>(OwnD w mq 61 1 (some ⟨bq,0,none⟩) n n (ys.flatMap qrC)∧OwnD w m0 9 1 A cap p (l.flatMap stC)))∧(k≤n)∧(p=k * c)∧(l=(ys.take k).flatMap (fun r=>r.xs.map qT))∧(p=0→A=none)∧nn=(1 + (n - k))) ((1 + (n - 0))) ⟨0,0,none,0,([]:List ByteArray),rfl,rfl,(Nat.zero_le _),(by rw [Nat.zero_mul]),rfl,(fun _=>rfl),rfl⟩ ?_
 rintro nn ss ff ⟨k,p,A,cap,l,rfl,rfl,hk,hp,hlq,hA0,rfl⟩
 refine Zac (Zac (Zab (xq 4 [(19, .v (.bool (decide (((k:Nat):Int) < ((n:Nat):Int)))))] [] ?_)))
 refine xe (Zaa ?_)
 refine Zap ((decide (((k:Nat):Int) < ((n:Nat):Int)))) (by kernel_rfl) (fun hb11=>?_) (fun hb11=>?_)
 ·have hlt:k < n:=by have:=of_decide_eq_true hb11; omega
  have hck:k * c≤64 * 64:=Nat.mul_le_mul (by omega) (by omega)
  refine Zal (Zaa (Zac (Zar ?_)))
  refine ZaK 7 (by kernel_rfl) (by kernel_rfl) Zao ?_
  refine xqg 4 [eS1 23 A p cap,eS1 24 (some ⟨bq,0,none⟩) n n,(25, .v (.int .i64 ((k:Nat):Int)))] ?_
  refine xqj 26 (atA (some ⟨bq,0,none⟩) (k * 1)) (fun w Q=>Zb1 (t:=33) (e:=61) (sz:=1) (x:=(Operand.tmp 24)) (ix:=(Operand.tmp 25)) (len:=n) (cap:=n) (i:=k) (by simp) hlt) ?_
  obtain ⟨x12,hx12⟩:∃ x,ys[k]! = x:=⟨_,rfl⟩
  refine xqj 27 (.slice x12.A x12.xs.length x12.cap) (fun w Q=>by rw [← hx12]; exact Zm0 (t:=61) (x:=(Operand.tmp 26)) (j:=k) Q.1 (hl.symm ▸ hlt)) ?_
  have hcx12:x12.xs.length=c:=by rw [← hx12]; exact hc _ (Zbc (hl.symm ▸ hlt))
  refine xqd 69 [.slice x12.A x12.xs.length x12.cap] 28 (fun b:{b:Nat // m0≤b}=>.slice (some ⟨b.1,0,none⟩) c c) _ (fun w R Q=>(Zpw mq x12.A x12.cap x12.xs _ (by have h:=((hR _ (Zbc (hl.symm ▸ hlt))).1); rw [hx12] at h; exact OwnD.ext h R) (by have h:=((hR _ (Zbc (hl.symm ▸ hlt))).2); rw [hx12] at h; exact QsOk.ext h R) (by omega) (by have h:=hq _ (Zbc (hl.symm ▸ hlt)); rw [hx12] at h; exact h)).mono (fun _ _ h=>ZrY (m0:=m0) (hm0 ▸ R.size) hcx12 h)) (fun bb=>?_)
  obtain ⟨b13,hb13⟩:=bb
  refine xz ?_
  refine Zrp (d:=29) (k:=1) (n:=p) (m:=c) (cap:=cap) (bytes:=16) (t:=22) (e:=9) (s0:=.tmp 23) (x:=.tmp 28) (xs:=l.flatMap stC) (news:=((x12.xs.map qT).flatMap stC)) (z:=.string ⟨#[]⟩) m0 A (fun j hj h=>Or.inl (hm0 ▸ h)) b13 c (fun w=>OwnD w mq 61 1 (some ⟨bq,0,none⟩) n n (ys.flatMap qrC)) (fun w R Q=>hm0 ▸ R.size) (fun w Q=>Q.1.2) (fun w Q=>OwnD.news Q.2) (by rw [Zqz ZeW,List.length_map,hcx12]) (by decide) rfl (Zcp.list (by simp)) hc0 (ZrX _) (ZiW Zht _) (by simp only [maxLen]; omega) (by omega) hA0 (fun w w' R Q hF=>OwnD.apart Q.1.1 Q.1.2 (by decide) hF) (fun A14 c14 hA14=>?_)
  refine xr 2 [eS1 0 (some ⟨bq,0,none⟩) n n,(2, .p 2 0),(3, .p 3 0),(4, .v (.int .i64 ((k:Nat):Int)))] [(3,24,[.v (.int .i64 ((n:Nat):Int)), .v (.int .i64 ((c:Nat):Int)), .v (.slice A14 (p + c) c14)]),(2,24,[.v (.int .i64 0), .v (.int .i64 0), .v (.slice none 0 0)])] ?_
  refine xe (ZaO (Zaa (Zab (xq 2 [(21, .v (.int .i64 (IntKind.i64.wrap (((k:Nat):Int) + 1))))] [] ?_))))
  rw [show IntKind.i64.wrap ((((k:Nat):Int) + 1))=((k + 1:Nat):Int) from by rw [IntKind.wrap_i64]; omega]
  refine xq 1 [(4, .v (.int .i64 ((k + 1:Nat):Int)))] [] ?_
  refine xe ?_
  refine SXq.weak [(0, .v (.slice (some ⟨bq,0,none⟩) n n)),(2, .p 2 0),(3, .p 3 0),(4, .v (.int .i64 (((k + 1):Nat):Int)))] [(3,24,[.v (.int .i64 ((n:Nat):Int)), .v (.int .i64 ((c:Nat):Int)), .v (.slice A14 (p + c) c14)]),(2,24,[.v (.int .i64 0), .v (.int .i64 0), .v (.slice none 0 0)])] (Ψ:=fun w=>(OwnD w mq 61 1 (some ⟨bq,0,none⟩) n n (ys.flatMap qrC)∧OwnD w m0 9 1 A14 c14 (p + c) ((l ++ x12.xs.map qT).flatMap stC))) (Zax.of (by kernel_rfl)) (by kernel_rfl) (fun w Q=>⟨Q.1,(by rw [List.flatMap_append]; exact Q.2)⟩) ?_
  exact ZaF ((1 + (n - (k + 1)))) (by omega) ⟨(k + 1),(p + c),A14,c14,(l ++ x12.xs.map qT),rfl,rfl,hlt,(by rw [hp,Nat.succ_mul]),(by rw [hlq,Zpx (hl.symm ▸ hlt),hx12]),(fun h=>by omega),rfl⟩
 ·have hge:k=n:=by have:=of_decide_eq_false hb11; omega
  have hck:k * c≤64 * 64:=Nat.mul_le_mul (by omega) (by omega)
  refine ZaM (Zaj (Zaj (ZaV (Zaa (Zac (Zab (xq 2 [] [(2,24,[.v (.int .i64 ((n:Nat):Int)), .v (.int .i64 ((c:Nat):Int)), .v (.slice A p cap)])] ?_)))))))
  refine xe (Zaa (Zag ?_))
  refine Zaf (v:=.agg #[.int .i64 ((n:Nat):Int), .int .i64 ((c:Nat):Int), .slice A p cap]) (by kernel_rfl) (fun w' R Q=>?_)
  exact ⟨A,cap,by rw [hp,hge],by have h:=Q.2; rw [hlq,hge,← hl,List.take_length] at h; rw [hp,hge] at h; exact hm0 ▸ h,R⟩
end Go.Proofs.YtenchljfmfgeoaaGreatDoor

namespace Go.Proofs.YtenchljfmfgeoaaGreatDoor
open Go.RowKit
theorem ZrZ {ls:List Fm} {nl m0:Nat} {w w':World} {e:Ending} (hm:m0≤w.heap.size) (h:ZqY ls nl w e w') :
 ZbA (fun x:{x:Nat × List Mx // x.2.map mxV=ls.map fmV∧m0≤x.1}=>.tuple #[.slice (some ⟨x.1.1,0,none⟩) nl nl, .int .i64 0]) (fun x w=>OwnD w m0 97 3 (some ⟨x.1.1,0,none⟩) nl nl (x.1.2.flatMap mxC)∧MsOk m0 w x.1.2) w e w':=by
 obtain ⟨b,ms,rfl,hv,hO,hM,Q⟩:=h
 exact ⟨⟨(b,ms),hv,Nat.le_trans hm (hO.blk rfl).1⟩,rfl,Q,(hO.boxN hm).and (fun S hS w'' hF y hy=>⟨(hM y hy).1.boxN hm S hS w'' hF,boxn Q (fun S w'' hS hF=>(hM y hy).2.nrb hS hF) S hS w'' hF⟩)⟩
theorem ZsE {ms:List Mx} {x0:Fm} {x:Mx} (h:ms.map mxV=[x0].map fmV) (hl:ms.length=1) (hx:ms[0]! = x):x.r=x0.r∧x.c=x0.c∧x.xs.map nbV=x0.fs.map ldV:=by
 match ms,hl with
 | [y],_ =>
   have e:y=x:=hx
   subst e
   injection h with h _
   injection h with h1 h
   injection h with h2 h3
   exact ⟨h1,h2,h3⟩
theorem ZsF {f:ByteArray × Int} (hv:fvB (bytes f.1) f.2=true) (hs:(bytes f.1).length≤1000):FvOk (ldV f):=by
 have h:=ZgG hv
 have he:ldR (bytes f.1) f.2=⟨(Zaz (bytes f.1)).1,Zak (Zaz (bytes f.1)).2,f.2,0⟩:=if_pos hv
 refine ⟨ZqT (by omega),?_,ZsB,?_⟩
 ·unfold ldV; rw [he]; exact ⟨h.1,h.2.1⟩
 ·unfold ldV; rw [he]; exact h.2.2.2
theorem Zm1 {x:Fm} (h:FmG x):∀ v ∈ x.fs.map ldV,FvOk v:=fun v hv=>by
 obtain ⟨f,hf,rfl⟩:=List.mem_map.1 hv
 exact ZsF (h.hv f hf) (h.hs f hf)
theorem ZsG {x:Fm} {xs:List Nb} (h:FmG x) (he:xs.map nbV=x.fs.map ldV):∀ y ∈ xs,FvOk (nbV y):=fun y hy=>Zm1 h _ (by rw [← he]; exact List.mem_map_of_mem hy)
def ftW (v:Fv3):ByteArray × Int:=(⟨(Lib.itoa (sg v.1 v.2.1)).toArray⟩,v.2.2)
theorem ZsH {A:List Fv3} (h:∀ v ∈ A,FvOk v) (i:Nat):FvOk (at3 A i):=by
 unfold at3
 rw [List.getD_eq_getElem?_getD]
 cases e:A[i]? with
 | none=>exact Zjb
 | some v=>exact h v (List.mem_of_getElem? e)
theorem Zpy {b i j n:Nat} {L:List Fv3} (hb:0 < b) (hb2:b≤4096):∀ (f k:Nat) (t t1:Fv3),FvOk t→chK b L i j n f k t=some t1→FvOk t1
 | 0,_,t,t1,ht,h=>by injection h with h; exact h ▸ ht
 | f + 1,k,t,t1,ht,h=>by
   obtain ⟨v,h1,h2⟩:=Option.bind_eq_some_iff.1 h
   exact Zpy hb hb2 f (k + 1) v t1 (ZlL hb hb2 h1) h2
theorem ZsI {b i j n:Nat} {L:List Fv3} {t v:Fv3} (hb:0 < b) (hb2:b≤4096) (ht:FvOk t) (h:chE b L i j n t=some v):FvOk v:=by
 by_cases hj:j < i
 ·exact ZjA (ZmY hb hb2) (ZjB hj h rfl)
 ·exact ZjA (ZlJ ht hb hb2) (ZgM hj h).2
theorem Zpz {b n j:Nat} {A:List Fv3} (hA:∀ v ∈ A,FvOk v) (hb:0 < b) (hb2:b≤4096):∀ (f i:Nat) (L Lf:List Fv3),(∀ v ∈ L,FvOk v)→chI b A n j f i L=some Lf→(∀ v ∈ Lf,FvOk v)∧Lf.length=L.length
 | 0,_,L,Lf,hL,h=>by injection h with h; exact h ▸ ⟨hL,rfl⟩
 | f + 1,i,L,Lf,hL,h=>by
   obtain ⟨t,h1,h2⟩:=Option.bind_eq_some_iff.1 h
   obtain ⟨v,h3,h4⟩:=Option.bind_eq_some_iff.1 h2
   have hv:=ZsI hb hb2 (Zpy hb hb2 _ _ _ _ (ZsH hA _) h1) h3
   have:=Zpz hA hb hb2 f (i + 1) _ Lf (fun u hu=>by
    rcases List.mem_or_eq_of_mem_set hu with hu | hu
    ·exact hL u hu
    ·rw [hu]; exact hv) h4
   rwa [List.length_set] at this
theorem ZpA {b n:Nat} {A:List Fv3} (hA:∀ v ∈ A,FvOk v) (hb:0 < b) (hb2:b≤4096):∀ (f j:Nat) (L Lf:List Fv3),(∀ v ∈ L,FvOk v)→chJ b A n f j L=some Lf→(∀ v ∈ Lf,FvOk v)∧Lf.length=L.length
 | 0,_,L,Lf,hL,h=>by injection h with h; exact h ▸ ⟨hL,rfl⟩
 | f + 1,j,L,Lf,hL,h=>by
   obtain ⟨L1,h1,h2⟩:=Option.bind_eq_some_iff.1 h
   have k1:=Zpz hA hb hb2 _ _ _ _ hL h1
   have k2:=ZpA hA hb hb2 f (j + 1) L1 Lf k1.1 h2
   exact ⟨k2.1,k2.2.trans k1.2⟩
theorem ZqB (k:Nat):∀ v ∈ List.replicate k ((false,0,0):Fv3),FvOk v:=fun v hv=>by rw [(List.mem_replicate.1 hv).2]; exact Zjb
theorem Zr0 {b n:Nat} {A Lf:List Fv3} (hA:∀ v ∈ A,FvOk v) (hb:0 < b) (hb2:b≤4096) (h:ZgK b A n=some Lf):∀ v ∈ Lf,FvOk v:=(ZpA hA hb hb2 _ _ _ _ (ZqB _) h).1
theorem Zm2 {b n j:Nat} {A:List Fv3}:∀ (f i:Nat) (L Lf:List Fv3),chI b A n j f i L=some Lf→Lf.length=L.length
 | 0,_,L,Lf,h=>by injection h with h; rw [h]
 | f + 1,i,L,Lf,h=>by
   obtain ⟨t,h1,h2⟩:=Option.bind_eq_some_iff.1 h
   obtain ⟨v,h3,h4⟩:=Option.bind_eq_some_iff.1 h2
   rw [Zm2 f (i + 1) _ Lf h4,List.length_set]
theorem Zm3 {b n:Nat} {A:List Fv3}:∀ (f j:Nat) (L Lf:List Fv3),chJ b A n f j L=some Lf→Lf.length=L.length
 | 0,_,L,Lf,h=>by injection h with h; rw [h]
 | f + 1,j,L,Lf,h=>by
   obtain ⟨L1,h1,h2⟩:=Option.bind_eq_some_iff.1 h
   rw [Zm3 f (j + 1) L1 Lf h2,Zm2 _ _ _ _ h1]
theorem ZqC {b n:Nat} {A Lf:List Fv3} (h:ZgK b A n=some Lf):Lf.length=n * n:=by rw [Zm3 _ _ _ _ h,List.length_replicate]
theorem Zn3 (ml n:Nat) (A:Option Addr) (cap:Nat) (fs:List (ByteArray × Int)) (b:Nat) (Lf:List Fv3) (w:World) (hg:Glob w) (hO:OwnD w ml 76 2 A cap fs.length (fs.flatMap flC)) (hG:FmG ⟨n,n,A,cap,fs⟩) (hb1:8≤b) (hb2:b≤1024) (hC:ZgK b (fs.map ldV) n=some Lf) :
 Calls Tryz.prog 53 #[.agg #[.int .i64 ((n:Nat):Int), .int .i64 ((n:Nat):Int), .slice A fs.length cap], .int .i64 ((b:Nat):Int), .func (.func 57) #[] #[]] w (Zfz (fun v=>.tuple #[v, .int .i64 0]) n n (Lf.map ftW) w):=by
 obtain ⟨m0,hm0⟩:∃ m,m=w.heap.size:=⟨_,rfl⟩
 refine Zas (Φ:=fun w=>True) Tryz.func53 rfl (by kernel_rfl) (fun w' hf=>trivial) ?_
 refine Zac (Zab (xq 3 [(3, .p 3 0),(6, .p 6 0),(7, .v (.int .i64 0))] [(6,29,[.v (.int .i64 0), .v (.int .i64 0), .v (.slice none 0 0)]),(3,29,[.v (.int .i64 ((n:Nat):Int)), .v (.int .i64 ((n:Nat):Int)), .v (.slice A fs.length cap)])] ?_))
 refine xe (Zaa (Zac (Zab (xq 2 [(11, .v (.int .i64 ((b:Nat):Int))),(12, .v (.agg #[.int .i64 ((n:Nat):Int), .int .i64 ((n:Nat):Int), .slice A fs.length cap]))] [] ?_))))
 refine Zbx (d:=13) (fun zb:{b:Nat // m0≤b}=>.slice (some ⟨zb.1,0,none⟩) 1 1) (fun zb zw=>Blk 29 zw zb.1 #[.int .i64 ((n:Nat):Int), .int .i64 ((n:Nat):Int), .slice A fs.length cap]) (by kernel_rfl) (by kernel_rfl) (by kernel_rfl) (by kernel_rfl) (by kernel_rfl) (by kernel_rfl) (fun w R Q=>Zhc (m0:=m0) (hm0 ▸ R.size) (t:=179) (e:=29) (n:=1) (sz:=3) (z:=.agg #[.int .i64 0, .int .i64 0, .slice none 0 0]) (parts:=#[(0,Operand.tmp 12)]) (by kernel_rfl) (by kernel_rfl) (by kernel_rfl) (by kernel_rfl) (by kernel_rfl) (by kernel_rfl)) (fun bb=>?_)
 obtain ⟨b10,hb10⟩:=bb
 refine xr 0 [(1, .v (.int .i64 ((b:Nat):Int))),(2, .v (.func (.func 57) #[] #[])),(6, .p 6 0),(7, .v (.int .i64 0)),(11, .v (.int .i64 ((b:Nat):Int))),eS1 13 (some ⟨b10,0,none⟩) 1 1] [(6,29,[.v (.int .i64 0), .v (.int .i64 0), .v (.slice none 0 0)])] ?_
 refine xqc 76 [.int .i64 ((b:Nat):Int), .slice (some ⟨b10,0,none⟩) 1 1] 14 (fun x:{x:Nat × List Mx // x.2.map mxV=[(⟨n,n,A,cap,fs⟩:Fm)].map fmV∧m0≤x.1}=>.tuple #[.slice (some ⟨x.1.1,0,none⟩) 1 1, .int .i64 0]) _ (fun w R Q=>(Zqy 0 b10 1 [⟨n,n,A,cap,fs⟩] b _ (show OwnD _ 0 29 3 _ 1 1 ([(⟨n,n,A,cap,fs⟩:Fm)].flatMap fmC) from OwnD.ofBlk (xs:=fmC ⟨n,n,A,cap,fs⟩) Q.2 (Nat.zero_le _) rfl (by decide) (ZsC _)) rfl (by decide) (fun x hx=>by rw [List.mem_singleton.1 hx]; exact OwnD.mono (OwnD.ext hO R) (Nat.zero_le _)) (fun x hx=>by rw [List.mem_singleton.1 hx]; exact hG) hb1 hb2).mono (fun _ _ h=>ZrZ (m0:=m0) (hm0 ▸ R.size) h)) (fun xx=>?_)
 obtain ⟨⟨b11,ms⟩,hms,hb11⟩:=xx
 have hml:ms.length=1:=by have:=congrArg List.length hms; rw [List.length_map,List.length_map] at this; exact this
 refine xq 5 [eS1 8 (some ⟨b11,0,none⟩) 1 1,(9, .v (.int .i64 0))] [] ?_
 refine xe (Zaa (Zac (Zac (Zab (xq 2 [(18, .v (.bool false))] [] ?_)))))
 refine xe (Zaa (xb (Zal (Zaa (Zac (Zab (xq 2 [(21, .v (.func (.func 57) #[] #[])),eS1 22 (some ⟨b11,0,none⟩) 1 1] [] ?_)))))))
 refine xqk 23 (atA (some ⟨b11,0,none⟩) (0 * 3)) (fun w R Q=>Zb1 (t:=123) (e:=97) (sz:=3) (x:=.tmp 22) (ix:=.const (.int .i64 0)) (len:=1) (cap:=1) (i:=0) (by simp) (by decide)) ?_
 obtain ⟨x12,hx12⟩:∃ x,ms[0]! = x:=⟨_,rfl⟩
 refine xqk 24 (.agg #[.int .i64 ((x12.r:Nat):Int), .int .i64 ((x12.c:Nat):Int), .slice x12.A x12.xs.length x12.cap]) (fun w R Q=>by rw [← hx12]; exact ZdO (t:=97) (x:=(Operand.tmp 23)) (j:=0) Q.2.1 ZjD (by rw [hml]; decide)) ?_
 obtain ⟨e1,e2,e3⟩:=ZsE hms hml hx12
 have e4:x12.xs.length=n * n:=by have:=congrArg List.length e3; rw [List.length_map,List.length_map] at this; rw [this]; exact hG.hn
 refine xq 1 [(25, .v (.int .i64 ((b:Nat):Int)))] [] ?_
 refine xqc 57 [.agg #[.int .i64 ((x12.r:Nat):Int), .int .i64 ((x12.c:Nat):Int), .slice x12.A x12.xs.length x12.cap], .int .i64 ((b:Nat):Int)] 26 (fun x:{x:Nat × List Nb // x.2.map nbV=Lf∧m0≤x.1}=>.tuple #[.agg #[.int .i64 ((n:Nat):Int), .int .i64 ((n:Nat):Int), .slice (some ⟨x.1.1,0,none⟩) x.1.2.length x.1.2.length], .int .i64 0]) _ (fun w R Q=>((show Calls _ _ _ _ (Zfy (fun v=>.tuple #[v, .int .i64 0]) n n Lf _) from by rw [e1,e2,e4]; exact Zqx m0 n x12.A x12.cap x12.xs b Lf _ (hg.ext R) (by have h:=(Q.2.2 _ (Zbc (by rw [hml]; decide:0 < ms.length))).1; rw [hx12,e4] at h; exact h) (by have h:=(Q.2.2 _ (Zbc (by rw [hml]; decide:0 < ms.length))).2; rw [hx12] at h; exact h) e4 hG.hr.2 hb1 hb2 (ZsG hG e3) (by rw [e3]; exact hC))).mono (fun _ _ h=>ZjC (sh:=fun v=>.tuple #[v, .int .i64 0]) (m0:=m0) (hm0 ▸ R.size) h)) (fun xx=>?_)
 obtain ⟨⟨b13,zs13⟩,hzs13,hb13⟩:=xx
 refine xq 2 [(27, .v (.agg #[.int .i64 ((n:Nat):Int), .int .i64 ((n:Nat):Int), .slice (some ⟨b13,0,none⟩) zs13.length zs13.length])),(28, .v (.int .i64 0))] [] ?_
 have hlz:(zs13.map ftV)=Lf.map ftW:=by rw [← hzs13,List.map_map]; rfl
 have hlk:zs13.length≤4096:=by have h1:=ZqC hC; rw [← hzs13,List.length_map] at h1; have:=Nat.mul_le_mul hG.hr.2 hG.hr.2; rw [h1]; exact Nat.le_trans this (by decide)
 refine xqc 77 [.agg #[.int .i64 ((n:Nat):Int), .int .i64 ((n:Nat):Int), .slice (some ⟨b13,0,none⟩) zs13.length zs13.length], .int .i64 0] 29 (fun b:{b:Nat // m0≤b}=>.tuple #[.agg #[.int .i64 ((n:Nat):Int), .int .i64 ((n:Nat):Int), .slice (some ⟨b.1,0,none⟩) (Lf.map ftW).length (Lf.map ftW).length], .int .i64 0]) _ (fun w R Q=>((show Calls _ _ _ _ (Zfz (fun v=>.tuple #[v, .int .i64 0]) n n (Lf.map ftW) _) from by rw [← hlz]; exact Zn2 m0 n n (some ⟨b13,0,none⟩) zs13.length zs13.length zs13 _ Q.2.1 Q.2.2 rfl (hg.ext R) hlk (fun x hx=>(fun h=>⟨Nat.le_trans h.1 (by decide),h.2.2.2⟩:FvOk (nbV x)→_) (Zr0 (Zm1 hG) (by omega) (by omega) hC _ (by rw [← hzs13]; exact List.mem_map_of_mem hx))))).mono (fun _ _ h=>ZeX (sh:=fun v=>.tuple #[v, .int .i64 0]) (m0:=m0) (hm0 ▸ R.size) h)) (fun bb=>?_)
 obtain ⟨b14,hb14⟩:=bb
 refine xq 4 [(7, .v (.int .i64 0))] [(6,29,[.v (.int .i64 ((n:Nat):Int)), .v (.int .i64 ((n:Nat):Int)), .v (.slice (some ⟨b14,0,none⟩) (Lf.map ftW).length (Lf.map ftW).length)])] ?_
 refine xe (Zaa (Zag ?_))
 refine Zaf (v:=.tuple #[.agg #[.int .i64 ((n:Nat):Int), .int .i64 ((n:Nat):Int), .slice (some ⟨b14,0,none⟩) (Lf.map ftW).length (Lf.map ftW).length], .int .i64 0]) (by kernel_rfl) (fun w' R Q=>?_)
 exact ⟨b14,rfl,hm0 ▸ Q.2,R⟩
theorem ZlN (ml n:Nat) (A:Option Addr) (cap:Nat) (fs:List (ByteArray × Int)) (b:Nat) (Lf:List Fv3) (w:World) (hg:Glob w) (hO:OwnD w ml 76 2 A cap fs.length (fs.flatMap flC)) (hG:FmG ⟨n,n,A,cap,fs⟩) (hb1:8≤b) (hb2:b≤1024) (hC:ZgK b (fs.map ldV) n=some Lf) :
 Calls Tryz.prog 34 #[.agg #[.int .i64 ((n:Nat):Int), .int .i64 ((n:Nat):Int), .slice A fs.length cap], .int .i64 ((b:Nat):Int)] w (Zfz (fun v=>.tuple #[v, .int .i64 0]) n n (Lf.map ftW) w):=by
 obtain ⟨m0,hm0⟩:∃ m,m=w.heap.size:=⟨_,rfl⟩
 refine Zas (Φ:=fun w=>True) Tryz.func34 rfl (by kernel_rfl) (fun w' hf=>trivial) ?_
 refine Zac (Zab (xq 3 [(2, .p 2 0),(4, .p 4 0),(5, .v (.int .i64 0))] [(4,29,[.v (.int .i64 0), .v (.int .i64 0), .v (.slice none 0 0)]),(2,29,[.v (.int .i64 ((n:Nat):Int)), .v (.int .i64 ((n:Nat):Int)), .v (.slice A fs.length cap)])] ?_))
 refine xe (Zaa (Zac (Zab (xq 2 [(6, .v (.agg #[.int .i64 ((n:Nat):Int), .int .i64 ((n:Nat):Int), .slice A fs.length cap])),(7, .v (.int .i64 ((b:Nat):Int)))] [] ?_))))
 refine xqc 53 [.agg #[.int .i64 ((n:Nat):Int), .int .i64 ((n:Nat):Int), .slice A fs.length cap], .int .i64 ((b:Nat):Int), .func (.func 57) #[] #[]] 8 (fun b:{b:Nat // m0≤b}=>.tuple #[.agg #[.int .i64 ((n:Nat):Int), .int .i64 ((n:Nat):Int), .slice (some ⟨b.1,0,none⟩) (Lf.map ftW).length (Lf.map ftW).length], .int .i64 0]) _ (fun w R Q=>(Zn3 ml n A cap fs b Lf _ (hg.ext R) (OwnD.ext hO R) hG hb1 hb2 hC).mono (fun _ _ h=>ZeX (sh:=fun v=>.tuple #[v, .int .i64 0]) (m0:=m0) (hm0 ▸ R.size) h)) (fun bb=>?_)
 obtain ⟨b10,hb10⟩:=bb
 refine xq 4 [(5, .v (.int .i64 0))] [(4,29,[.v (.int .i64 ((n:Nat):Int)), .v (.int .i64 ((n:Nat):Int)), .v (.slice (some ⟨b10,0,none⟩) (Lf.map ftW).length (Lf.map ftW).length)])] ?_
 refine xe (Zaa (Zag ?_))
 refine Zaf (v:=.tuple #[.agg #[.int .i64 ((n:Nat):Int), .int .i64 ((n:Nat):Int), .slice (some ⟨b10,0,none⟩) (Lf.map ftW).length (Lf.map ftW).length], .int .i64 0]) (by kernel_rfl) (fun w' R Q=>?_)
 exact ⟨b10,rfl,hm0 ▸ Q.2,R⟩
end Go.Proofs.YtenchljfmfgeoaaGreatDoor

namespace Go.Proofs.YtenchljfmfgeoaaGreatDoor
theorem few (s:Bool) {n o j b:Nat} (e:Int) (hb:0 < b) (hn:n=o * 2 ^ j) (ho:o % 2=1) (hl:n < 2 ^ b) (he:okE (e + (j:Int))):Zbd s n 1 e b=⟨s,o,e + (j:Int),0⟩:=by
 have h0:0 < n:=by rw [hn]; exact Nat.mul_pos (by omega) (p2 j)
 rw [← ZbF s n e hb]
 unfold Za5
 rw [if_pos (Zbu.2 hl)]
 unfold ZaW
 rw [if_neg (by omega),hn,Zf0 ho,ZhK ho,if_pos he]
theorem Zjc {e:Int} (h1 : -1000≤e) (h2:e≤1000):okE e:=by unfold okE; omega
theorem rd4:Za0 [52]=some ((4:Int):Rat):=Zgz.2 (Zdp (n:=4) (by decide) (by decide) (by decide))
theorem rd2:Za0 [50]=some ((2:Int):Rat):=Zgz.2 (Zdp (n:=2) (by decide) (by decide) (by decide))
theorem rd5:Za0 [53]=some ((5:Int):Rat):=Zgz.2 (Zdp (n:=5) (by decide) (by decide) (by decide))
theorem Zn4 {l:List UInt8} {n o j:Nat} (h:Za0 l=some ((n:Int):Rat)) (hn:n=o * 2 ^ j) (ho:o % 2=1) (hl:n < 256) (hj:j≤1000):ZbN l 8=⟨false,o,(j:Int),0⟩:=by
 unfold ZbN
 rw [if_pos (by rw [h]; rfl),if_pos (by omega),Zez h]
 unfold rndF
 rw [Rat.num_intCast,Rat.den_intCast]
 show Zbd (decide ((n:Int) < 0)) n 1 0 8=_
 rw [show decide ((n:Int) < 0)=false from decide_eq_false (by omega),few false 0 (by decide) hn ho hl (Zjc (by omega) (by omega)),Int.zero_add]
theorem r4:ZbN [52] 8=⟨false,1,2,0⟩:=Zn4 (n:=4) (o:=1) (j:=2) rd4 (by decide) (by decide) (by decide) (by decide)
theorem r2:ZbN [50] 8=⟨false,1,1,0⟩:=Zn4 (n:=2) (o:=1) (j:=1) rd2 (by decide) (by decide) (by decide) (by decide)
theorem r5:ZbN [53] 8=⟨false,5,0,0⟩:=Zn4 (n:=5) (o:=5) (j:=0) rd5 (by decide) (by decide) (by decide) (by decide)
theorem ZlO {n:Nat} {c:UInt8} (hc:Lib.decDigits n=[c]):Lib.itoa ((n:Nat):Int)=[c]:=by rw [ZcH,hc]
theorem it1:Lib.itoa 1=[49]:=ZlO (n:=1) (by rw [ZcT (by omega)]; rfl)
theorem it5:Lib.itoa 5=[53]:=ZlO (n:=5) (by rw [ZcT (by omega)]; rfl)
theorem it2:Lib.itoa 2=[50]:=ZlO (n:=2) (by rw [ZcT (by omega)]; rfl)
theorem Zjd {c d:UInt8} {o:Nat} {e:Int} (h:ZbN [c] 8=⟨false,o,e,0⟩) (hd:Lib.itoa (sg false o)=[d]):rdF 8 ⟨#[c]⟩=(⟨#[d]⟩,e):=by
 unfold rdF
 rw [show bytes ⟨#[c]⟩=[c] from rfl,h]
 show ((⟨(Lib.itoa (sg false o)).toArray⟩:ByteArray),e)=_
 rw [hd]
def kF:List (ByteArray × Int):=[(⟨#[49]⟩,2),(⟨#[49]⟩,1),(⟨#[49]⟩,1),(⟨#[53]⟩,0)]
theorem ZqD:[(⟨#[52]⟩:ByteArray),⟨#[50]⟩,⟨#[50]⟩,⟨#[53]⟩].map (rdF 8)=kF:=by
 simp only [List.map_cons,List.map_nil]
 rw [Zjd r4 it1,Zjd r2 it1,Zjd r5 it5]
 rfl
def kA:List Fv3:=[(false,1,2),(false,1,1),(false,1,1),(false,5,0)]
theorem Zr1:kF.map ldV=kA:=by
 unfold kF kA
 simp only [List.map_cons,List.map_nil]
 refine congr (congrArg _ ?_) (congr (congrArg _ ?_) (congr (congrArg _ ?_) (congr (congrArg _ ?_) rfl)))
 all_goals (unfold ldV ldR; rw [if_pos (by decide)]; rfl)
theorem ZhQ {r:FR} {s:Bool} {m:Nat} {e:Int} (h:r=⟨s,m,e,0⟩):musT r=some (s,m,e):=by subst h; rfl
theorem ZsJ:blen 1=1:=ZhJ (k:=0) (by decide) (by decide)
theorem Zm4:musT (ZhO (false,1,2) 8)=some (false,1,1):=by
 refine ZhQ ?_
 show ZcJ false 1 2 8=_
 unfold ZcJ
 rw [if_neg (by decide),if_neg (by decide)]
 have hK:sqK 1 2 8 = -6:=by unfold sqK; rw [ZsJ]; decide
 have hq:fq 1 1 (-16)=65536:=by have:=ZeQ 1 16; rw [show (-((16:Nat):Int)) = -16 from rfl] at this; rw [this]
 have hi:isq 65536=256:=Zi3 (by decide) (by decide)
 have hM:sqM 1 2 8=128:=by
  unfold sqM Zb9
  rw [hK,show (2:Int) - 2 * (-6) + 2=16 from rfl,hq,hi]
  decide
 unfold Zfp ZaW
 rw [hK,hM,if_neg (by decide),show (128:Nat)=1 * 2 ^ 7 from rfl,Zf0 (by decide),ZhK (by decide),if_pos (Zjc (by decide) (by decide))]
 rfl
theorem ZsK:musT (divV (false,1,1) (false,1,1) 8)=some (false,1,0):=by
 refine ZhQ ?_
 show Zgt false 1 1 0 8=_
 unfold Zgt
 rw [if_neg (by decide)]
 exact few (n:=1) (o:=1) (j:=0) (b:=8) false 0 (by decide) (by decide) (by decide) (by decide) (Zjc (by decide) (by decide))
theorem ZsL:ZfB (false,5,0) (false,1,0) (false,1,0) 8=some (false,1,2):=by
 unfold ZfB
 rw [show musT (mulV (false,1,0) (false,1,0) 8)=some (false,1,0) from ZhQ (few (n:=1) (o:=1) (j:=0) false 0 (by decide) (by decide) (by decide) (by decide) (Zjc (by decide) (by decide)))]
 show musT (subV (false,5,0) (false,1,0) 8)=_
 refine ZhQ ?_
 show sumR false 5 0 true 1 0 8=_
 unfold sumR addR
 rw [if_neg (by decide),if_neg (by decide)]
 exact few (n:=4) (o:=1) (j:=2) (b:=8) false 0 (by decide) (by decide) (by decide) (by decide) (Zjc (by decide) (by decide))
theorem Zip {b n i j f:Nat} {A L:List Fv3} {t v:Fv3} (hK:chK b L i j n j 0 (at3 A (i * n + j))=some t) (Q:chE b L i j n t=some v):chI b A n j (f + 1) i L=chI b A n j f (i + 1) (L.set (i * n + j) v):=by
 show (chK b L i j n j 0 (at3 A (i * n + j))).bind _=_
 rw [hK]
 show (chE b L i j n t).bind _=_
 rw [Q]
 rfl
def kL:List Fv3:=[(false,1,1),(false,0,0),(false,1,0),(false,1,1)]
theorem Zr2:ZgK 8 kA 2=some kL:=by
 have h1:chI 8 kA 2 0 2 0 [(false,0,0),(false,0,0),(false,0,0),(false,0,0)]=some [(false,1,1),(false,0,0),(false,1,0),(false,0,0)]:=by
  rw [Zip (t:=(false,1,2)) (v:=(false,1,1)) rfl (by unfold chE; rw [if_neg (by decide),if_neg (by decide)]; exact Zm4)]
  rw [Zip (t:=(false,1,1)) (v:=(false,1,0)) rfl (by unfold chE; rw [if_pos (by decide)]; exact ZsK)]
  rfl
 have h2:chI 8 kA 2 1 1 1 [(false,1,1),(false,0,0),(false,1,0),(false,0,0)]=some kL:=by
  rw [Zip (t:=(false,1,2)) (v:=(false,1,1)) (by show (ZfB (false,5,0) (false,1,0) (false,1,0) 8).bind _=_; rw [ZsL]; rfl) (by unfold chE; rw [if_neg (by decide),if_neg (by decide)]; exact Zm4)]
  rfl
 show (chI 8 kA 2 0 2 0 [(false,0,0),(false,0,0),(false,0,0),(false,0,0)]).bind _=_
 rw [h1]
 show (chI 8 kA 2 1 1 1 [(false,1,1),(false,0,0),(false,1,0),(false,0,0)]).bind _=_
 rw [h2]
 rfl
def kG:List (ByteArray × Int):=[(⟨#[49]⟩,1),(⟨#[48]⟩,0),(⟨#[49]⟩,0),(⟨#[49]⟩,1)]
theorem ZpB:kL.map ftW=kG:=by
 unfold kL kG
 simp only [List.map_cons,List.map_nil]
 unfold ftW
 show [((⟨(Lib.itoa 1).toArray⟩:ByteArray),(1:Int)),(⟨(Lib.itoa 0).toArray⟩,0),(⟨(Lib.itoa 1).toArray⟩,0),(⟨(Lib.itoa 1).toArray⟩,1)]=_
 rw [it1,Zhn]
theorem ZqE:kG.map exV=[⟨#[50]⟩,⟨#[48]⟩,⟨#[49]⟩,⟨#[50]⟩]:=by
 have f1:flM [49]=1:=by decide
 have e1:exT [49] 1=[50]:=by
  unfold exT; rw [if_pos (fv_1 (by decide) (by decide)),f1,if_neg (by decide),if_neg (by decide)]; exact it2
 have e0:exT [49] 0=[49]:=by
  unfold exT; rw [if_pos (fv_1 (by decide) (by decide)),f1,if_neg (by decide),if_neg (by decide)]; exact it1
 have ez:exT [48] 0=[48]:=ZlG (by decide) (by decide)
 unfold kG
 simp only [List.map_cons,List.map_nil]
 unfold exV
 show [(⟨(exT [49] 1).toArray⟩:ByteArray),⟨(exT [48] 0).toArray⟩,⟨(exT [49] 0).toArray⟩,⟨(exT [49] 1).toArray⟩]=_
 rw [e1,e0,ez]
end Go.Proofs.YtenchljfmfgeoaaGreatDoor

namespace Go.Proofs.YtenchljfmfgeoaaGreatDoor
open Go.RowKit
def kS:List ByteArray:=[⟨#[52]⟩,⟨#[50]⟩,⟨#[50]⟩,⟨#[53]⟩]
theorem ZsM {w:World} {b:Nat} (h:Blk 9 w b #[.string ⟨#[52]⟩, .string ⟨#[50]⟩, .string ⟨#[50]⟩, .string ⟨#[53]⟩]):SRd w (some ⟨b,0,none⟩) kS:=fun i hi=>by
 refine ⟨b,0,rfl,h.lt,?_⟩
 rw [h.cell,Nat.zero_add]
 match i,hi with
 | 0,_=>rfl
 | 1,_=>rfl
 | 2,_=>rfl
 | 3,_=>rfl
theorem ZqF:mtB (2:Nat) (2:Nat) kS=true:=by
 unfold mtB
 rw [decide_eq_true (by decide),Bool.true_and]
 show ([(⟨#[52]⟩:ByteArray),⟨#[50]⟩,⟨#[50]⟩,⟨#[53]⟩]:List ByteArray).all (fun s=>(Za0 (bytes s)).isSome)=true
 simp only [List.all_cons,List.all_nil]
 rw [show bytes ⟨#[52]⟩=[52] from rfl,show bytes ⟨#[50]⟩=[50] from rfl,show bytes ⟨#[53]⟩=[53] from rfl,rd4,rd2,rd5]
 rfl
theorem ZsN:∀ s ∈ kS,(ZbN (bytes s) 8).err=0:=fun s hs=>by
 simp only [kS,List.mem_cons,List.not_mem_nil,or_false] at hs
 rcases hs with rfl | rfl | rfl | rfl
 ·rw [show bytes ⟨#[52]⟩=[52] from rfl,r4]
 ·rw [show bytes ⟨#[50]⟩=[50] from rfl,r2]
 ·rw [show bytes ⟨#[50]⟩=[50] from rfl,r2]
 ·rw [show bytes ⟨#[53]⟩=[53] from rfl,r5]
theorem kF_g (A:Option Addr) (cap:Nat):FmG ⟨2,2,A,cap,kF⟩:=by
 refine ⟨by show 1≤2∧2≤32; decide,by show 1≤2∧2≤32; decide,rfl,fun f hf=>?_,fun f hf=>?_⟩
 all_goals (simp only [kF,List.mem_cons,List.not_mem_nil,or_false] at hf; rcases hf with rfl | rfl | rfl | rfl<;>decide)
theorem kG_g (A:Option Addr) (cap:Nat):FmG ⟨2,2,A,cap,kG⟩:=by
 refine ⟨by show 1≤2∧2≤32; decide,by show 1≤2∧2≤32; decide,rfl,fun f hf=>?_,fun f hf=>?_⟩
 all_goals (simp only [kG,List.mem_cons,List.not_mem_nil,or_false] at hf; rcases hf with rfl | rfl | rfl | rfl<;>decide)
theorem kG_x:∀ x ∈ kG,-1000≤x.2∧x.2≤1000:=fun f hf=>by
 simp only [kG,List.mem_cons,List.not_mem_nil,or_false] at hf
 rcases hf with rfl | rfl | rfl | rfl<;>decide
theorem Zr3 {m0:Nat} {w w':World} {e:Ending} (hm:m0≤w.heap.size) (h:∃ b,e=.returned (.tuple #[.agg #[.int .i64 ((2:Nat):Int), .int .i64 ((2:Nat):Int), .slice (some ⟨b,0,none⟩) kG.length kG.length], .int .i64 0])∧OwnD w' w.heap.size 9 1 (some ⟨b,0,none⟩) kG.length kG.length ((kG.map exV).flatMap stC)∧Ext w w') :
 ZbA (fun b:{b:Nat // m0≤b}=>.tuple #[.agg #[.int .i64 2, .int .i64 2, .slice (some ⟨b.1,0,none⟩) 4 4], .int .i64 0]) (fun b w=>OwnD w m0 9 1 (some ⟨b.1,0,none⟩) 4 4 [.string ⟨#[50]⟩, .string ⟨#[48]⟩, .string ⟨#[49]⟩, .string ⟨#[50]⟩]) w e w':=by
 obtain ⟨b,rfl,hO,Q⟩:=h
 rw [ZqE] at hO
 exact ⟨⟨b,Nat.le_trans hm (hO.blk rfl).1⟩,rfl,Q,hO.boxN hm⟩
theorem ZfK (w:World) (hg:Glob w) :
 Calls Tryz.prog 9 #[] w (RetV w (.bool true)):=by
 obtain ⟨m0,hm0⟩:∃ m,m=w.heap.size:=⟨_,rfl⟩
 refine Zas (Φ:=fun w=>True) Tryz.func9 rfl (by kernel_rfl) (fun w' hf=>trivial) ?_
 refine Zac (Zab (xq 1 [(0, .v (.bool false))] [] ?_))
 refine xe (Zaa (Zac (Zab ?_)))
 refine Zbx (d:=8) (fun zb:{b:Nat // m0≤b}=>.slice (some ⟨zb.1,0,none⟩) 4 4) (fun zb zw=>Blk 9 zw zb.1 #[.string ⟨#[52]⟩, .string ⟨#[50]⟩, .string ⟨#[50]⟩, .string ⟨#[53]⟩]) (by kernel_rfl) (by kernel_rfl) (by kernel_rfl) (by kernel_rfl) (by kernel_rfl) (by kernel_rfl) (fun w R Q=>Zhc (m0:=m0) (hm0 ▸ R.size) (t:=22) (e:=9) (n:=4) (sz:=1) (z:=.string ⟨#[]⟩) (parts:=#[(0,Operand.const (Value.string { data:=#[52] })),(1,Operand.const (Value.string { data:=#[50] })),(2,Operand.const (Value.string { data:=#[50] })),(3,Operand.const (Value.string { data:=#[53] }))]) (by kernel_rfl) (by kernel_rfl) (by kernel_rfl) (by kernel_rfl) (by kernel_rfl) (by kernel_rfl)) (fun bb=>?_)
 obtain ⟨b10,hb10⟩:=bb
 refine xr 1 [(0, .v (.bool false)),(9, .v (.agg #[.int .i64 2, .int .i64 2, .slice (some ⟨b10,0,none⟩) 4 4]))] [] ?_
 refine xqc 10 [.agg #[.int .i64 2, .int .i64 2, .slice (some ⟨b10,0,none⟩) 4 4], .int .i64 8] 10 (fun b:{b:Nat // m0≤b}=>.tuple #[.agg #[.int .i64 2, .int .i64 2, .slice (some ⟨b.1,0,none⟩) 4 4], .int .i64 0]) _ (fun w R Q=>((show Calls _ _ _ _ (ZqU 2 2 kF _) from by rw [← ZqD]; exact Zkd 2 2 (some ⟨b10,0,none⟩) 4 kS 8 _ (hg.ext R) (ZsM Q.2) (by decide) ZqF (by decide) (by decide) (by decide) (by decide) (by decide) ZsN)).mono (fun _ _ h=>ZeX (sh:=fun v=>.tuple #[v, .int .i64 0]) (m0:=m0) (r:=2) (c:=2) (hm0 ▸ R.size) h)) (fun bb=>?_)
 obtain ⟨b11,hb11⟩:=bb
 refine xq 6 [(1, .p 1 0),(2, .v (.int .i64 0))] [(1,29,[.v (.int .i64 2), .v (.int .i64 2), .v (.slice (some ⟨b11,0,none⟩) 4 4)])] ?_
 refine xe (Zaa (Zac (Zab (xq 1 [(14, .v (.agg #[.int .i64 2, .int .i64 2, .slice (some ⟨b11,0,none⟩) 4 4]))] [] ?_))))
 refine xqc 34 [.agg #[.int .i64 2, .int .i64 2, .slice (some ⟨b11,0,none⟩) 4 4], .int .i64 8] 15 (fun b:{b:Nat // m0≤b}=>.tuple #[.agg #[.int .i64 2, .int .i64 2, .slice (some ⟨b.1,0,none⟩) 4 4], .int .i64 0]) _ (fun w R Q=>((show Calls _ _ _ _ (Zfz (fun v=>.tuple #[v, .int .i64 0]) 2 2 kG _) from by rw [← ZpB]; exact ZlN m0 2 (some ⟨b11,0,none⟩) 4 kF 8 kL _ (hg.ext R) Q.2 (kF_g _ _) (by decide) (by decide) (by rw [Zr1]; exact Zr2))).mono (fun _ _ h=>ZeX (sh:=fun v=>.tuple #[v, .int .i64 0]) (m0:=m0) (r:=2) (c:=2) (hm0 ▸ R.size) h)) (fun bb=>?_)
 obtain ⟨b12,hb12⟩:=bb
 refine xq 6 [(3, .p 3 0),(4, .v (.int .i64 0))] [(3,29,[.v (.int .i64 2), .v (.int .i64 2), .v (.slice (some ⟨b12,0,none⟩) 4 4)])] ?_
 refine xe (Zaa (Zac (Zab (xq 1 [(19, .v (.agg #[.int .i64 2, .int .i64 2, .slice (some ⟨b12,0,none⟩) 4 4]))] [] ?_))))
 refine xqc 36 [.agg #[.int .i64 2, .int .i64 2, .slice (some ⟨b12,0,none⟩) 4 4]] 20 (fun b:{b:Nat // m0≤b}=>.tuple #[.agg #[.int .i64 2, .int .i64 2, .slice (some ⟨b.1,0,none⟩) 4 4], .int .i64 0]) _ (fun w R Q=>(ZnW m0 2 2 (some ⟨b12,0,none⟩) 4 kG _ Q.2 (hg.ext R) (kG_g (some ⟨b12,0,none⟩) 4).hr (kG_g (some ⟨b12,0,none⟩) 4).hc rfl (kG_g (some ⟨b12,0,none⟩) 4).hv (kG_g (some ⟨b12,0,none⟩) 4).hs kG_x).mono (fun _ _ h=>Zr3 (m0:=m0) (hm0 ▸ R.size) h)) (fun bb=>?_)
 obtain ⟨b13,hb13⟩:=bb
 refine xq 6 [(5, .p 5 0),(6, .v (.int .i64 0))] [(5,24,[.v (.int .i64 2), .v (.int .i64 2), .v (.slice (some ⟨b13,0,none⟩) 4 4)])] ?_
 refine xe (Zaa (Zac (Zab (xq 15 [(33, .v (.bool true)),(37, .v (.bool ((((4:Nat):Int):Int) == 4)))] [] ?_))))
 rw [(show ((((4:Nat):Int):Int) == 4)=true from rfl)]
 refine xq 4 [(39, .v (.bool true)),eS1 41 (some ⟨b13,0,none⟩) 4 4] [] ?_
 refine xqk 42 (.pointer (some ⟨b13,0 + 0 * 1,none⟩)) (fun w R Q=>Zb8 (t:=22) (e:=9) (sz:=1) (x:=(Operand.tmp 41)) (ix:=(Operand.const (Value.int IntKind.i64 0))) (len:=4) (cap:=4) (i:=0) (by decide)) ?_
 refine xqk 43 (.string ⟨#[50]⟩) (fun w R Q=>Za4 (t:=9) (x:=.tmp 42) (g:=b13) (off:=0) (OwnD.news Q.2 0 _ rfl)) ?_
 refine xq 1 [(44, .v (.bool ((⟨#[50]⟩:ByteArray).toList == (⟨#[50]⟩:ByteArray).toList)))] [] ?_
 rw [Zgk]
 refine xq 4 [(46, .v (.bool true)),eS1 48 (some ⟨b13,0,none⟩) 4 4] [] ?_
 refine xqk 49 (.pointer (some ⟨b13,0 + 1 * 1,none⟩)) (fun w R Q=>Zb8 (t:=22) (e:=9) (sz:=1) (x:=(Operand.tmp 48)) (ix:=(Operand.const (Value.int IntKind.i64 1))) (len:=4) (cap:=4) (i:=1) (by decide)) ?_
 refine xqk 50 (.string ⟨#[48]⟩) (fun w R Q=>Za4 (t:=9) (x:=.tmp 49) (g:=b13) (off:=1) (OwnD.news Q.2 1 _ rfl)) ?_
 refine xq 1 [(51, .v (.bool ((⟨#[48]⟩:ByteArray).toList == (⟨#[48]⟩:ByteArray).toList)))] [] ?_
 rw [Zgk]
 refine xq 4 [(53, .v (.bool true)),eS1 55 (some ⟨b13,0,none⟩) 4 4] [] ?_
 refine xqk 56 (.pointer (some ⟨b13,0 + 2 * 1,none⟩)) (fun w R Q=>Zb8 (t:=22) (e:=9) (sz:=1) (x:=(Operand.tmp 55)) (ix:=(Operand.const (Value.int IntKind.i64 2))) (len:=4) (cap:=4) (i:=2) (by decide)) ?_
 refine xqk 57 (.string ⟨#[49]⟩) (fun w R Q=>Za4 (t:=9) (x:=.tmp 56) (g:=b13) (off:=2) (OwnD.news Q.2 2 _ rfl)) ?_
 refine xq 1 [(58, .v (.bool ((⟨#[49]⟩:ByteArray).toList == (⟨#[49]⟩:ByteArray).toList)))] [] ?_
 rw [Zgk]
 refine xr 4 [(0, .v (.bool false)),(60, .v (.bool true)),eS1 62 (some ⟨b13,0,none⟩) 4 4] [] ?_
 refine xqk 63 (.pointer (some ⟨b13,0 + 3 * 1,none⟩)) (fun w R Q=>Zb8 (t:=22) (e:=9) (sz:=1) (x:=(Operand.tmp 62)) (ix:=(Operand.const (Value.int IntKind.i64 3))) (len:=4) (cap:=4) (i:=3) (by decide)) ?_
 refine xqk 64 (.string ⟨#[50]⟩) (fun w R Q=>Za4 (t:=9) (x:=.tmp 63) (g:=b13) (off:=3) (OwnD.news Q.2 3 _ rfl)) ?_
 refine xq 1 [(65, .v (.bool ((⟨#[50]⟩:ByteArray).toList == (⟨#[50]⟩:ByteArray).toList)))] [] ?_
 rw [Zgk]
 refine xq 2 [(0, .v (.bool true))] [] ?_
 refine xe (Zaa (Zag ?_))
 refine Zaf (v:=.bool true) (by kernel_rfl) (fun w' R Q=>?_)
 exact ⟨rfl,R⟩
end Go.Proofs.YtenchljfmfgeoaaGreatDoor

namespace Go.Proofs.YtenchljfmfgeoaaGreatDoor
open Go.RowKit
theorem Zm5 {m0 n c:Nat} {ys:List Qr} {w w':World} {e:Ending} (hm:m0≤w.heap.size) (h:ZkE n c ys w e w') :
 ZbA (fun x:Option Addr × Nat=>.agg #[.int .i64 ((n:Nat):Int), .int .i64 ((c:Nat):Int), .slice x.1 (n * c) x.2]) (fun x w=>OwnD w m0 9 1 x.1 x.2 (n * c) ((ys.flatMap (fun r=>r.xs.map qT)).flatMap stC)) w e w':=by
 obtain ⟨A,cap,rfl,hO,Q⟩:=h
 exact ⟨(A,cap),rfl,Q,hO.boxN hm⟩
theorem Zje (r c:Nat) (A:Option Addr) (cap:Nat) (ts:List ByteArray) (b:Int) (w:World) (hg:Glob w) (hS:SRd w A ts) (hs:∀ s ∈ ts,(bytes s).length≤570) (hv:mtB r c ts=true) (hb1:8≤b) (hb2:b≤1024) (hr:32 < r∨32 < c) :
 Calls Tryz.prog 10 #[.agg #[.int .i64 ((r:Nat):Int), .int .i64 ((c:Nat):Int), .slice A ts.length cap], .int .i64 b] w (RetV w (.tuple #[.agg #[.int .i64 0, .int .i64 0, .slice none 0 0], .int .i64 2])):=by
 obtain ⟨m0,hm0⟩:∃ m,m=w.heap.size:=⟨_,rfl⟩
 refine Zas (Φ:=fun w=>True) Tryz.func10 rfl (by kernel_rfl) (fun w' hf=>trivial) ?_
 refine Zac (Zab (xq 3 [(2, .p 2 0),(4, .p 4 0),(5, .v (.int .i64 0))] [(4,29,[.v (.int .i64 0), .v (.int .i64 0), .v (.slice none 0 0)]),(2,24,[.v (.int .i64 ((r:Nat):Int)), .v (.int .i64 ((c:Nat):Int)), .v (.slice A ts.length cap)])] ?_))
 refine xe (Zaa (Zac (Zac (Zab (xq 1 [(11, .v (.agg #[.int .i64 ((r:Nat):Int), .int .i64 ((c:Nat):Int), .slice A ts.length cap]))] [] ?_)))))
 refine xqc 37 [.agg #[.int .i64 ((r:Nat):Int), .int .i64 ((c:Nat):Int), .slice A ts.length cap]] 12 (fun _:Unit=>.bool true) _ (fun w R Q=>(Zhv ((r:Nat):Int) ((c:Nat):Int) A cap ts _ (hg.ext R) (hS.ext R) hs).mono (fun _ _ h=>Zam h (by rw [hv]))) (fun xx=>?_)
 refine xq 1 [(13, .v (.bool false))] [] ?_
 refine xe (Zaa (xb (Zal (Zaa (Zac (Zac (Zab (xq 2 [(16, .v (.bool (decide (b < 8))))] [] ?_))))))))
 rw [(show decide (b < 8)=false from decide_eq_false (by omega))]
 refine xq 3 [(17, .v (.bool false)),(19, .v (.bool (decide (b > 1024))))] [] ?_
 rw [(show decide (b > 1024)=false from decide_eq_false (by omega))]
 refine xq 1 [(20, .v (.bool false))] [] ?_
 refine xe (Zaa (xb (Zal (Zaa (Zac (Zac (Zab (xq 4 [(25, .v (.bool (decide (((r:Nat):Int) > 32))))] [] ?_))))))))
 rcases bl2 ((decide (((r:Nat):Int) > 32))) with hb10 | hb10
 ·rw [hb10]
  have hb10':=of_decide_eq_true hb10
  refine xq 4 [(29, .v (.bool true))] [] ?_
  refine xe (Zaa (xa (Zac (Zab (xq 3 [(5, .v (.int .i64 2))] [] ?_)))))
  refine xe (Zaa (Zag (Zai ?_)))
  refine Zaf (v:=.tuple #[.agg #[.int .i64 0, .int .i64 0, .slice none 0 0], .int .i64 2]) (by kernel_rfl) (fun w' R Q=>?_)
  exact ⟨rfl,R⟩
 ·rw [hb10]
  have hb10':=of_decide_eq_false hb10
  refine xq 4 [(29, .v (.bool (decide (((c:Nat):Int) > 32))))] [] ?_
  refine xe (Zaa ?_)
  refine Zap ((decide (((c:Nat):Int) > 32))) (by kernel_rfl) (fun hb11=>?_) (fun hb11=>?_)
  ·have hb11':=of_decide_eq_true hb11
   refine Zac (Zab (xq 3 [(5, .v (.int .i64 2))] [] ?_))
   refine xe (Zaa (Zag (Zai ?_)))
   refine Zaf (v:=.tuple #[.agg #[.int .i64 0, .int .i64 0, .slice none 0 0], .int .i64 2]) (by kernel_rfl) (fun w' R Q=>?_)
   exact ⟨rfl,R⟩
  ·have hb11':=of_decide_eq_false hb11
   exfalso; omega
theorem Zkh (w:World) :
 Calls Tryz.prog 12 #[.agg #[.int .i64 0, .int .i64 0, .slice none 0 0], .agg #[.int .i64 0, .int .i64 0, .slice none 0 0]] w (RetV w (.bool true)):=by
 refine Zas (Φ:=fun w=>True) Tryz.func12 rfl (by kernel_rfl) (fun w' hf=>trivial) ?_
 refine Zac (Zab (xq 3 [(2, .p 2 0),(3, .p 3 0),(4, .v (.bool false))] [(3,29,[.v (.int .i64 0), .v (.int .i64 0), .v (.slice none 0 0)]),(2,29,[.v (.int .i64 0), .v (.int .i64 0), .v (.slice none 0 0)])] ?_))
 refine xe (Zaa (Zac (Zac (Zab (xq 21 [(26, .v (.bool false))] [] ?_)))))
 refine xe (Zaa (xb (Zal (Zaa (Zac (Zac (Zab (xq 4 [(29, .v (.int .i64 0)),(30, .v (.int .i64 0))] [] ?_))))))))
 refine xe (Zaa (Zar ?_))
 refine SXc.weak [(2, .p 2 0),(3, .p 3 0),(4, .v (.bool false)),(29, .v (.int .i64 0)),(30, .v (.int .i64 0))] [(3,29,[.v (.int .i64 0), .v (.int .i64 0), .v (.slice none 0 0)]),(2,29,[.v (.int .i64 0), .v (.int .i64 0), .v (.slice none 0 0)])] (Ψ:=fun w=>True) (Zax.of (by kernel_rfl)) (by kernel_rfl) (fun w Q=>trivial) ?_
 refine ZaR (fun nn ss ff=>∃ (uu:Nat),ss=ofL [(2, .p 2 0),(3, .p 3 0),(4, .v (.bool false)),(29, .v (.int .i64 0)),(30, .v (.int .i64 0))] [(3,29,[.v (.int .i64 0), .v (.int .i64 0), .v (.slice none 0 0)]),(2,29,[.v (.int .i64 0), .v (.int .i64 0), .v (.slice none 0 0)])]∧ff=(fun w=>True)∧nn=1) (1) ⟨0,rfl,rfl,rfl⟩ ?_
 rintro nn ss ff ⟨uu,rfl,rfl,rfl⟩
 refine Zac (Zab (xq 1 [(31, .v (.bool false))] [] ?_))
 refine xe (Zaa (Zac (xb (ZaM (Zaj (Zaj (ZaV (Zaa (Zac (Zab (xq 1 [(4, .v (.bool true))] [] ?_)))))))))))
 refine xe (Zaa (Zag ?_))
 refine Zaf (v:=.bool true) (by kernel_rfl) (fun w' R Q=>?_)
 exact ⟨rfl,R⟩
theorem ZpC (mq bq n c:Nat) (ys:List Qr) (w:World) (hO:OwnD w mq 61 1 (some ⟨bq,0,none⟩) n n (ys.flatMap qrC)) (hR:RsOk mq w ys) (hl:ys.length=n) (hn0:0 < n) (hn:n≤64) (hc0:0 < c) (hc1:c≤64) (hc:∀ y ∈ ys,y.xs.length=c) (hq:∀ y ∈ ys,∀ x ∈ y.xs,ml x.q.num.natAbs≤65536∧ml x.q.den≤65536) :
 Calls Tryz.prog 16 #[.slice (some ⟨bq,0,none⟩) n n] w (ZkE n c ys w):=by
 obtain ⟨m0,hm0⟩:∃ m,m=w.heap.size:=⟨_,rfl⟩
 refine Zas (Φ:=fun w=>True) Tryz.func16 rfl (by kernel_rfl) (fun w' hf=>trivial) ?_
 refine Zac (Zab (xq 1 [(2, .p 2 0)] [(2,24,[.v (.int .i64 0), .v (.int .i64 0), .v (.slice none 0 0)])] ?_))
 refine xe (Zaa (Zac (Zab (xq 1 [eS1 3 (some ⟨bq,0,none⟩) n n] [] ?_))))
 refine xqc 43 [.slice (some ⟨bq,0,none⟩) n n] 4 (fun x:Option Addr × Nat=>.agg #[.int .i64 ((n:Nat):Int), .int .i64 ((c:Nat):Int), .slice x.1 (n * c) x.2]) _ (fun w R Q=>(ZqA mq bq n c ys _ (OwnD.ext hO R) (fun y hy=>⟨OwnD.ext (hR y hy).1 R,QsOk.ext (hR y hy).2 R⟩) hl hn0 hn hc0 hc1 hc hq).mono (fun _ _ h=>Zm5 (m0:=m0) (hm0 ▸ R.size) h)) (fun xx=>?_)
 obtain ⟨A,cap⟩:=xx
 refine xq 1 [] [(2,24,[.v (.int .i64 ((n:Nat):Int)), .v (.int .i64 ((c:Nat):Int)), .v (.slice A (n * c) cap)])] ?_
 refine xe (Zaa (Zag ?_))
 refine Zaf (v:=.agg #[.int .i64 ((n:Nat):Int), .int .i64 ((c:Nat):Int), .slice A (n * c) cap]) (by kernel_rfl) (fun w' R Q=>?_)
 exact ⟨A,cap,rfl,hm0 ▸ Q.2,R⟩
end Go.Proofs.YtenchljfmfgeoaaGreatDoor

namespace Go.Proofs.YtenchljfmfgeoaaGreatDoor
open Go.RowKit
theorem Zq0 (n:Int):∃ p:Nat,IntKind.i64.wrap (1 + ((IntKind.i64.wrap (((n).tmod 64) + 64)).tmod 64))=((p:Nat):Int)∧1≤p∧p≤64:=by
 have h1 : -64 < n.tmod 64:=Int.lt_tmod_of_pos n (by decide)
 have h2:n.tmod 64 < 64:=Int.tmod_lt_of_pos n (by decide)
 rw [show IntKind.i64.wrap ((n.tmod 64) + 64)=n.tmod 64 + 64 from by rw [IntKind.wrap_i64]; omega]
 have h3:0≤(n.tmod 64 + 64).tmod 64:=Int.tmod_nonneg 64 (by omega)
 have h4:(n.tmod 64 + 64).tmod 64 < 64:=Int.tmod_lt_of_pos _ (by decide)
 refine ⟨(1 + (n.tmod 64 + 64).tmod 64).toNat,?_,by omega,by omega⟩
 rw [IntKind.wrap_i64]; omega
instance {p q m0:Nat}:Nonempty {x:Nat × List Qr // x.2.map (fun r=>r.xs.map (·.q))=List.replicate p (List.replicate q 0)∧m0≤x.1}:=⟨⟨(m0,List.replicate p ⟨none,0,List.replicate q qv0⟩),by
 refine ⟨?_,Nat.le_refl _⟩
 rw [List.map_replicate,List.map_replicate]; rfl⟩⟩
theorem Zr4 {m0 n:Nat} {qs:List (List Rat)} {w w':World} {e:Ending} (hm:m0≤w.heap.size) (h:ZqZ n qs w e w') :
 ZbA (fun x:{x:Nat × List Qr // x.2.map (fun r=>r.xs.map (·.q))=qs∧m0≤x.1}=>.slice (some ⟨x.1.1,0,none⟩) n n) (fun x w=>OwnD w m0 61 1 (some ⟨x.1.1,0,none⟩) n n (x.1.2.flatMap qrC)∧RsOk m0 w x.1.2) w e w':=by
 obtain ⟨b,ys,rfl,hq,hO,hR,Q⟩:=h
 exact ⟨⟨(b,ys),hq,Nat.le_trans hm (hO.blk rfl).1⟩,rfl,Q,(hO.boxN hm).and (fun S hS w'' hF y hy=>⟨(hR y hy).1.boxN hm S hS w'' hF,boxn Q (fun S w'' hS hF=>(hR y hy).2.nrb hS hF) S hS w'' hF⟩)⟩
theorem ZqG {m0 n c:Nat} {ys:List Qr} {ts:List ByteArray} {w w':World} {e:Ending} (hm:m0≤w.heap.size) (ht:ys.flatMap (fun r=>r.xs.map qT)=ts) (h:ZkE n c ys w e w') :
 ZbA (fun x:Option Addr × Nat=>.agg #[.int .i64 ((n:Nat):Int), .int .i64 ((c:Nat):Int), .slice x.1 (n * c) x.2]) (fun x w=>OwnD w m0 9 1 x.1 x.2 (n * c) (ts.flatMap stC)) w e w':=by
 subst ht
 exact Zm5 hm h
theorem Zq1 {n m:Nat} {ys:List Qr} (h:ys.map (fun r=>r.xs.map (·.q))=List.replicate n (List.replicate m 0)):ys.length=n:=by
 have:=congrArg List.length h
 rwa [List.length_map,List.length_replicate] at this
theorem Zq2 {n m:Nat} {ys:List Qr} (h:ys.map (fun r=>r.xs.map (·.q))=List.replicate n (List.replicate m 0)):∀ y ∈ ys,y.xs.map (·.q)=List.replicate m 0:=fun y hy=>by
 have:y.xs.map (·.q) ∈ ys.map (fun r=>r.xs.map (·.q)):=List.mem_map_of_mem (f:=fun r:Qr=>r.xs.map (·.q)) hy
 rw [h] at this
 exact (List.mem_replicate.1 this).2
theorem Zq3 {n m:Nat} {ys:List Qr} (h:ys.map (fun r=>r.xs.map (·.q))=List.replicate n (List.replicate m 0)):∀ y ∈ ys,y.xs.length=m:=fun y hy=>by
 have:=congrArg List.length (Zq2 h y hy)
 rwa [List.length_map,List.length_replicate] at this
theorem ZpD {n m:Nat} {ys:List Qr} (h:ys.map (fun r=>r.xs.map (·.q))=List.replicate n (List.replicate m 0)):∀ y ∈ ys,∀ x ∈ y.xs,x.q=0:=fun y hy x hx=>by
 have:x.q ∈ y.xs.map (·.q):=List.mem_map_of_mem (f:=fun v:Qv=>v.q) hx
 rw [Zq2 h y hy] at this
 exact (List.mem_replicate.1 this).2
theorem z_q {n m:Nat} {ys:List Qr} (h:ys.map (fun r=>r.xs.map (·.q))=List.replicate n (List.replicate m 0)):∀ y ∈ ys,∀ x ∈ y.xs,ml x.q.num.natAbs≤65536∧ml x.q.den≤65536:=fun y hy x hx=>by
 rw [ZpD h y hy x hx]
 exact ⟨Nat.le_trans (Zmo (b:=2 ^ 0) (Nat.zero_le _)) (Nat.le_trans (Zpj (a:=0) (b:=1) (by decide)) (by decide)),Nat.le_trans (Zpj (a:=0) (b:=1) (by decide)) (by decide)⟩
theorem Zr5 {x:Qv} (h:x.q=0):qT x=⟨#[48]⟩:=by
 unfold qT
 rw [h,Zdp (q:=0) (n:=0) (by decide) (by decide) (by decide)]
 rfl
theorem Zq4 {m:Nat}:∀ (n:Nat) (ys:List Qr),ys.map (fun r=>r.xs.map (·.q))=List.replicate n (List.replicate m 0)→ys.flatMap (fun r=>r.xs.map qT)=List.replicate (n * m) (⟨#[48]⟩:ByteArray)
 | 0,ys,h=>by
   have:=Zq1 h
   rw [List.length_eq_zero_iff.1 this,Nat.zero_mul]; rfl
 | n + 1,[],h=>by cases h
 | n + 1,y :: ys,h=>by
   have h0:=h
   rw [List.map_cons,List.replicate_succ] at h
   injection h with h1 h2
   rw [List.flatMap_cons,Zq4 n ys h2,Nat.succ_mul,Nat.add_comm,← List.replicate_append_replicate]
   congr 1
   refine List.eq_replicate_iff.2 ⟨by rw [List.length_map]; exact Zq3 h0 y List.mem_cons_self,fun s hs=>?_⟩
   obtain ⟨x,hx,rfl⟩:=List.mem_map.1 hs
   exact Zr5 (ZpD h0 y List.mem_cons_self x hx)
theorem ZjF {w:World} {m c n:Nat} {A:Option Addr} {ts:List ByteArray} (h:OwnD w m 9 1 A c n (ts.flatMap stC)):SRd w A ts:=fun i hi=>by
 have h4:=Zec ZeW ts i 0 hi (by decide)
 obtain ⟨b,e,h5,h6⟩:=h.at (v:=.string ts[i]!) h4
 exact ⟨b,0,e,h5,by rw [Nat.mul_one,Nat.add_zero] at h6; exact h6⟩
theorem rd0:Za0 [48]=some ((0:Int):Rat):=Zgz.2 (Zdp (n:=0) (by decide) (by decide) (by decide))
theorem r0:ZbN [48] 8=⟨false,0,0,0⟩:=by
 unfold ZbN
 rw [if_pos (by rw [rd0]; rfl),if_pos (by omega),Zez rd0]
 rfl
theorem z_is {p q:Nat} {ts:List ByteArray} (hts:ts=List.replicate (p * q) (⟨#[48]⟩:ByteArray)):∀ s ∈ ts,s=⟨#[48]⟩:=fun s hs=>by rw [hts] at hs; exact (List.mem_replicate.1 hs).2
theorem ZjG {p q:Nat} {ts:List ByteArray} (hts:ts=List.replicate (p * q) (⟨#[48]⟩:ByteArray)):∀ s ∈ ts,(bytes s).length≤570:=fun s hs=>by rw [z_is hts s hs]; decide
theorem ZsX {p q:Nat} {ts:List ByteArray} (hts:ts=List.replicate (p * q) (⟨#[48]⟩:ByteArray)):∀ s ∈ ts,(ZbN (bytes s) 8).err=0:=fun s hs=>by rw [z_is hts s hs,show bytes ⟨#[48]⟩=[48] from rfl,r0]
theorem Zr6 {p q:Nat} {ts:List ByteArray} (hp1:1≤p) (hp2:p≤64) (hq1:1≤q) (hq2:q≤64) (hts:ts=List.replicate (p * q) (⟨#[48]⟩:ByteArray)):mtB p q ts=true:=by
 unfold mtB
 rw [decide_eq_true ⟨by omega,by omega,by omega,by omega,by rw [hts,List.length_replicate,Int.natCast_mul]⟩,Bool.true_and]
 exact List.all_eq_true.2 fun s hs=>by rw [z_is hts s hs,show bytes ⟨#[48]⟩=[48] from rfl,rd0]; rfl
theorem ZsO {p q:Nat} {ts:List ByteArray} {fs:List (ByteArray × Int)} (hp1:1≤p) (hp2:p≤32) (hq1:1≤q) (hq2:q≤32) (hts:ts=List.replicate (p * q) (⟨#[48]⟩:ByteArray)) (hfs:fs=ts.map (rdF 8)):FmG ⟨p,q,none,0,fs⟩:=by
 have hz:rdF 8 ⟨#[48]⟩=(⟨#[48]⟩,0):=Zjd r0 (by show Lib.itoa 0=[48]; exact Zhn)
 have hm:∀ f ∈ fs,f=(⟨#[48]⟩,0):=fun f hf=>by
  rw [hfs] at hf
  obtain ⟨s,hs,rfl⟩:=List.mem_map.1 hf
  rw [z_is hts s hs,hz]
 refine ⟨⟨hp1,hp2⟩,⟨hq1,hq2⟩,?_,fun f hf=>?_,fun f hf=>?_⟩
 ·show fs.length=p * q
  rw [hfs,List.length_map,hts,List.length_replicate]
 ·rw [hm f hf]; decide
 ·rw [hm f hf]; decide
theorem Zjf (n m:Int) (w:World) (hg:Glob w) :
 Calls Tryz.prog 4 #[.int .i64 n, .int .i64 m] w (RetV w (.bool true)):=by
 obtain ⟨m0,hm0⟩:∃ m,m=w.heap.size:=⟨_,rfl⟩
 obtain ⟨p,hp,hp1,hp2⟩:=Zq0 n
 obtain ⟨q,hq,hq1,hq2⟩:=Zq0 m
 refine Zas (Φ:=fun w=>True) Tryz.func4 rfl (by kernel_rfl) (fun w' hf=>trivial) ?_
 refine Zac (Zab (xq 1 [(4, .v (.bool false))] [] ?_))
 refine xe (Zaa (Zac (Zab (xq 5 [(11, .v (.int .i64 (IntKind.i64.wrap (1 + (((IntKind.i64.wrap (((n).tmod 64) + 64))).tmod 64)))))] [] ?_))))
 rw [(show IntKind.i64.wrap (1 + ((IntKind.i64.wrap (((n).tmod 64) + 64)).tmod 64))=((p:Nat):Int) from hp)]
 refine xq 5 [(16, .v (.int .i64 (IntKind.i64.wrap (1 + (((IntKind.i64.wrap (((m).tmod 64) + 64))).tmod 64)))))] [] ?_
 rw [(show IntKind.i64.wrap (1 + ((IntKind.i64.wrap (((m).tmod 64) + 64)).tmod 64))=((q:Nat):Int) from hq)]
 refine xq 2 [(0, .v (.int .i64 ((p:Nat):Int))),(1, .v (.int .i64 ((q:Nat):Int)))] [] ?_
 refine xe (Zaa (Zac (Zab (xq 2 [(18, .v (.int .i64 ((p:Nat):Int))),(19, .v (.int .i64 ((q:Nat):Int)))] [] ?_))))
 refine xqc 17 [.int .i64 ((p:Nat):Int), .int .i64 ((q:Nat):Int)] 20 (fun x:{x:Nat × List Qr // x.2.map (fun r=>r.xs.map (·.q))=List.replicate p (List.replicate q 0)∧m0≤x.1}=>.slice (some ⟨x.1.1,0,none⟩) p p) _ (fun w R Q=>(Zpv p q _ (by omega) (by omega)).mono (fun _ _ h=>Zr4 (m0:=m0) (hm0 ▸ R.size) h)) (fun xx=>?_)
 obtain ⟨⟨bq,ys⟩,hys,hbq⟩:=xx
 obtain ⟨ts,hts⟩:∃ ts,ts=List.replicate (p * q) (⟨#[48]⟩:ByteArray):=⟨_,rfl⟩
 have htl:ts.length=p * q:=by rw [hts,List.length_replicate]
 have htx:ys.flatMap (fun r=>r.xs.map qT)=ts:=by rw [hts]; exact Zq4 p ys hys
 refine xqc 16 [.slice (some ⟨bq,0,none⟩) p p] 21 (fun x:Option Addr × Nat=>.agg #[.int .i64 ((p:Nat):Int), .int .i64 ((q:Nat):Int), .slice x.1 (p * q) x.2]) _ (fun w R Q=>(ZpC m0 bq p q ys _ Q.2.1 Q.2.2 (Zq1 hys) (by omega) (by omega) (by omega) (by omega) (Zq3 hys) (z_q hys)).mono (fun _ _ h=>ZqG (m0:=m0) (hm0 ▸ R.size) htx h)) (fun xx=>?_)
 obtain ⟨A,cap⟩:=xx
 obtain ⟨fs,hfs⟩:∃ fs,fs=ts.map (rdF 8):=⟨_,rfl⟩
 have hpq:p * q≤64 * 64:=Nat.mul_le_mul (by omega) (by omega)
 have hmt:=Zr6 (by omega) (by omega) (by omega) (by omega) hts
 rcases (show (32 < p)∨(¬ 32 < p∧32 < q)∨(¬ 32 < p∧¬ 32 < q) by omega) with hcs | hcs | hcs
 ·refine xqc 10 [.agg #[.int .i64 ((p:Nat):Int), .int .i64 ((q:Nat):Int), .slice A (p * q) cap], .int .i64 8] 22 (fun _:Unit=>.tuple #[.agg #[.int .i64 0, .int .i64 0, .slice none 0 0], .int .i64 2]) _ (fun w R Q=>((show Calls _ _ _ _ (RetV _ (.tuple #[.agg #[.int .i64 0, .int .i64 0, .slice none 0 0], .int .i64 2])) from by rw [← htl]; exact Zje p q A cap ts 8 _ (hg.ext R) (ZjF Q.2) (ZjG hts) hmt (by decide) (by decide) (by omega))).mono (fun _ _ h=>Zam h rfl)) (fun xx=>?_)
  refine xq 6 [(5, .p 5 0),(6, .v (.int .i64 2))] [(5,29,[.v (.int .i64 0), .v (.int .i64 0), .v (.slice none 0 0)])] ?_
  refine xe (Zaa (Zac (Zac (Zab (xq 2 [(26, .v (.bool (decide (((p:Nat):Int) > 32))))] [] ?_)))))
  rw [(show decide (((p:Nat):Int) > 32)=true from decide_eq_true (by omega))]
  refine xq 4 [(30, .v (.bool true))] [] ?_
  refine xe (Zaa (xa (Zac (Zab ?_))))
  refine xqc 9 [] 31 (fun _:Unit=>.bool true) _ (fun w R Q=>(ZfK _ (hg.ext R)).mono (fun _ _ h=>Zam h rfl)) (fun xx=>?_)
  refine xq 7 [(36, .v (.bool true)),(37, .v (.agg #[.int .i64 0, .int .i64 0, .slice none 0 0])),(38, .v (.agg #[.int .i64 0, .int .i64 0, .slice none 0 0]))] [] ?_
  refine xqc 12 [.agg #[.int .i64 0, .int .i64 0, .slice none 0 0], .agg #[.int .i64 0, .int .i64 0, .slice none 0 0]] 39 (fun _:Unit=>.bool true) _ (fun w R Q=>(Zkh _).mono (fun _ _ h=>Zam h rfl)) (fun xx=>?_)
  refine xq 2 [(4, .v (.bool true))] [] ?_
  refine xe (Zaa (Zag (Zai ?_)))
  refine Zaf (v:=.bool true) (by kernel_rfl) (fun w' R Q=>?_)
  exact ⟨rfl,R⟩
 ·refine xqc 10 [.agg #[.int .i64 ((p:Nat):Int), .int .i64 ((q:Nat):Int), .slice A (p * q) cap], .int .i64 8] 22 (fun _:Unit=>.tuple #[.agg #[.int .i64 0, .int .i64 0, .slice none 0 0], .int .i64 2]) _ (fun w R Q=>((show Calls _ _ _ _ (RetV _ (.tuple #[.agg #[.int .i64 0, .int .i64 0, .slice none 0 0], .int .i64 2])) from by rw [← htl]; exact Zje p q A cap ts 8 _ (hg.ext R) (ZjF Q.2) (ZjG hts) hmt (by decide) (by decide) (by omega))).mono (fun _ _ h=>Zam h rfl)) (fun xx=>?_)
  refine xq 6 [(5, .p 5 0),(6, .v (.int .i64 2))] [(5,29,[.v (.int .i64 0), .v (.int .i64 0), .v (.slice none 0 0)])] ?_
  refine xe (Zaa (Zac (Zac (Zab (xq 2 [(26, .v (.bool (decide (((p:Nat):Int) > 32))))] [] ?_)))))
  rw [(show decide (((p:Nat):Int) > 32)=false from decide_eq_false (by omega))]
  refine xq 3 [(27, .v (.bool false)),(29, .v (.bool (decide (((q:Nat):Int) > 32))))] [] ?_
  rw [(show decide (((q:Nat):Int) > 32)=true from decide_eq_true (by omega))]
  refine xq 1 [(30, .v (.bool true))] [] ?_
  refine xe (Zaa (xa (Zac (Zab ?_))))
  refine xqc 9 [] 31 (fun _:Unit=>.bool true) _ (fun w R Q=>(ZfK _ (hg.ext R)).mono (fun _ _ h=>Zam h rfl)) (fun xx=>?_)
  refine xq 7 [(36, .v (.bool true)),(37, .v (.agg #[.int .i64 0, .int .i64 0, .slice none 0 0])),(38, .v (.agg #[.int .i64 0, .int .i64 0, .slice none 0 0]))] [] ?_
  refine xqc 12 [.agg #[.int .i64 0, .int .i64 0, .slice none 0 0], .agg #[.int .i64 0, .int .i64 0, .slice none 0 0]] 39 (fun _:Unit=>.bool true) _ (fun w R Q=>(Zkh _).mono (fun _ _ h=>Zam h rfl)) (fun xx=>?_)
  refine xq 2 [(4, .v (.bool true))] [] ?_
  refine xe (Zaa (Zag (Zai ?_)))
  refine Zaf (v:=.bool true) (by kernel_rfl) (fun w' R Q=>?_)
  exact ⟨rfl,R⟩
 ·have hpq2:p * q≤32 * 32:=Nat.mul_le_mul (by omega) (by omega)
  have hgf:FmG ⟨p,q,none,0,fs⟩:=ZsO (by omega) (by omega) (by omega) (by omega) hts hfs
  refine xqc 10 [.agg #[.int .i64 ((p:Nat):Int), .int .i64 ((q:Nat):Int), .slice A (p * q) cap], .int .i64 8] 22 (fun b:{b:Nat // m0≤b}=>.tuple #[.agg #[.int .i64 ((p:Nat):Int), .int .i64 ((q:Nat):Int), .slice (some ⟨b.1,0,none⟩) fs.length fs.length], .int .i64 0]) _ (fun w R Q=>((show Calls _ _ _ _ (Zfz (fun v=>.tuple #[v, .int .i64 0]) p q fs _) from by rw [← htl,hfs]; exact Zkd p q A cap ts 8 _ (hg.ext R) (ZjF Q.2) (ZjG hts) hmt (by decide) (by decide) (by omega) (by omega) (by omega) (ZsX hts))).mono (fun _ _ h=>ZeX (sh:=fun v=>.tuple #[v, .int .i64 0]) (m0:=m0) (hm0 ▸ R.size) h)) (fun bb=>?_)
  obtain ⟨bf,hbf⟩:=bb
  refine xq 6 [(5, .p 5 0),(6, .v (.int .i64 0))] [(5,29,[.v (.int .i64 ((p:Nat):Int)), .v (.int .i64 ((q:Nat):Int)), .v (.slice (some ⟨bf,0,none⟩) fs.length fs.length)])] ?_
  refine xe (Zaa (Zac (Zac (Zab (xq 2 [(26, .v (.bool (decide (((p:Nat):Int) > 32))))] [] ?_)))))
  rw [(show decide (((p:Nat):Int) > 32)=false from decide_eq_false (by omega))]
  refine xq 3 [(27, .v (.bool false)),(29, .v (.bool (decide (((q:Nat):Int) > 32))))] [] ?_
  rw [(show decide (((q:Nat):Int) > 32)=false from decide_eq_false (by omega))]
  refine xq 1 [(30, .v (.bool false))] [] ?_
  refine xe (Zaa (xb (Zal (Zaa (Zac (Zab ?_))))))
  refine xqc 9 [] 41 (fun _:Unit=>.bool true) _ (fun w R Q=>(ZfK _ (hg.ext R)).mono (fun _ _ h=>Zam h rfl)) (fun xx=>?_)
  refine xq 9 [(46, .v (.bool true)),(50, .v (.bool ((((p:Nat):Int):Int) == ((p:Nat):Int))))] [] ?_
  rw [(show ((((p:Nat):Int):Int) == ((p:Nat):Int))=true from by simp)]
  refine xq 6 [(52, .v (.bool true)),(56, .v (.bool ((((q:Nat):Int):Int) == ((q:Nat):Int))))] [] ?_
  rw [(show ((((q:Nat):Int):Int) == ((q:Nat):Int))=true from by simp)]
  refine xq 3 [(58, .v (.bool true)),(59, .v (.agg #[.int .i64 ((p:Nat):Int), .int .i64 ((q:Nat):Int), .slice (some ⟨bf,0,none⟩) fs.length fs.length]))] [] ?_
  refine xqc 18 [.agg #[.int .i64 ((p:Nat):Int), .int .i64 ((q:Nat):Int), .slice (some ⟨bf,0,none⟩) fs.length fs.length]] 60 (fun _:Unit=>.bool true) _ (fun w R Q=>(ZgI m0 p q (some ⟨bf,0,none⟩) fs.length fs _ Q.1.2 hgf.hr hgf.hc hgf.hn hgf.hv hgf.hs).mono (fun _ _ h=>Zam h rfl)) (fun xx=>?_)
  refine xr 2 [(4, .v (.bool true))] [] ?_
  refine xe (Zaa (Zag ?_))
  refine Zaf (v:=.bool true) (by kernel_rfl) (fun w' R Q=>?_)
  exact ⟨rfl,R⟩
end Go.Proofs.YtenchljfmfgeoaaGreatDoor
