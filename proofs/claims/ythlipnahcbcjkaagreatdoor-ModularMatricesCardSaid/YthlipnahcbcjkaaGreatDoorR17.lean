/-
 My texts Mb, Mc, Md, Mp, Mq, Me put together.
-/
import Derived.Test.YthlipnahcbcjkaaGreatDoorR16
import Derived.Lib.JoinLaws
set_option maxRecDepth 100000
namespace Go.Proofs.YthlipnahcbcjkaaGreatDoor
open Go.RowKit
theorem Zi6 (n:Nat):madeCells #[Value.slice none 0 0] n=(List.replicate n (Value.slice none 0 0)).toArray:=by
 apply Array.ext
 ·simp [madeCells]
 ·intro i h1 h2
  simp [madeCells,Nat.mod_one]
section
variable {P:Program} {o:Oper} {ρ:Operand→Value} {w w' w0:World} {t e ty:TypeId} {x y ix l c:Operand} {k kl kc:IntKind} {te tr:TypeId} {b n m i j g q:Nat} {A:Nat→Option Addr} {C:Nat→Nat} {X:Nat→List Nat} {S0:Nat→Prop} {Γ:World→Prop}
theorem ZoR {bw:Nat} (hn:n≤100000) (hby:bw≤24) (Q:Fr S0 w0 w) (ho:o.op=Op.makeSlice t l c:=by kernel_rfl) (ht:P.underlying t=some (.slice tr):=by kernel_rfl) (hinfo:(P.info? tr).map (fun i=>(i.zero,i.size,i.bytes))=some (some (.slice none 0 0),1,bw):=by kernel_rfl)
 (hl:ρ l=.int kl ((n:Nat):Int):=by kernel_rfl) (hc:ρ c=.int kc ((n:Nat):Int):=by kernel_rfl) :
 ∃ w',(execOp ρ o).run P w=.ok (.value (.slice (some ⟨w.heap.size,0,none⟩) n n)) w'∧Fr S0 w0 w'∧Ext w w'∧MatO k te tr w' w.heap.size n ⟨fun _=>none,fun _=>0,fun _=>[]⟩:=by
 have hrun:=run_make_row' (P:=P) t tr (.slice none 0 0) bw ht hinfo rfl kl kc n (by have:=Nat.mul_le_mul hby hn; omega) (by omega) w
 rw [Zi6] at hrun
 have hno:∀ g,¬ Zad none g:=fun g h=>by obtain ⟨_,h,_⟩:=h; cases h
 refine ⟨w.alloc (.cells (List.replicate n (Value.slice none 0 0)).toArray tr),by simp only [execOp,ho,hl,hc,Sem.run_bind,hrun,Result.andThen_ok,Sem.run_pure],Q.alloc _,(Fr.refl _ w).alloc _,⟨_,heap_alloc_new w _,List.length_replicate,fun i hi=>?_⟩,fun i _=>Buf.nil,fun i j g _ _ h=>(hno g h).elim,fun i _ h=>hno _ h⟩
 rw [List.getElem?_replicate,if_pos hi]; rfl
theorem Zp4 {bw cap:Nat} (hn:cap≤100000) (hby:bw≤8) (Q:Fr S0 w0 w) (ho:o.op=Op.makeSlice t l c:=by kernel_rfl) (ht:P.underlying t=some (.slice te):=by kernel_rfl) (hinfo:(P.info? te).map (fun i=>(i.zero,i.size,i.bytes))=some (some (.int k 0),1,bw):=by kernel_rfl)
 (hl:ρ l=.int kl 0:=by kernel_rfl) (hc:ρ c=.int kc ((cap:Nat):Int):=by kernel_rfl) :
 ∃ w',(execOp ρ o).run P w=.ok (.value (.slice (some ⟨w.heap.size,0,none⟩) 0 cap)) w'∧Fr S0 w0 w'∧Ext w w'∧Buf k te w' (some ⟨w.heap.size,0,none⟩) cap []:=by
 have hrun:=run_make_room (P:=P) t te (.int k 0) bw ht hinfo rfl kl kc cap (by have:=Nat.mul_le_mul hby hn; omega) (by omega) w
 rw [Zeb] at hrun
 have e1:ZaK k (List.replicate cap 0) []=ZaK k [] ((List.replicate cap 0).map fun x:Nat=>Value.int k (x:Int)):=by simp [ZaK]
 rw [e1] at hrun
 have hO:=Own.new w te k [] ((List.replicate cap 0).map fun x:Nat=>Value.int k (x:Int)) (fun v hv=>by obtain ⟨x,_,rfl⟩:=List.mem_map.1 hv; exact ⟨_,rfl⟩)
 exact ⟨_,by simp only [execOp,ho,hl,hc,Sem.run_bind,hrun,Result.andThen_ok,Sem.run_pure],Q.alloc _,(Fr.refl _ w).alloc _,Or.inr ⟨_,rfl,hO,⟨_,heap_alloc_new w _,by simp [ZaK]⟩,Nat.zero_le _,by simp only [maxLen]; omega⟩⟩
structure ResI (k:IntKind) (te tr:TypeId) (Γ:World→Prop) (w0 w:World) (b n:Nat) (A:Nat→Option Addr) (C:Nat→Nat) (X:Nat→List Nat):Prop where
 arg:Γ w
 mat:MatO k te tr w b n ⟨A,C,X⟩
 new:∀ g,MatB b n ⟨A,C,X⟩ g→w0.heap.size≤g
def OldG (Γ:World→Prop) (w0:World):Prop:=∀ w w' S,Ext w0 w→Γ w→Fr S w w'→(∀ g,S g→w0.heap.size≤g)→Γ w'
theorem OldG.step (hΓ:OldG Γ w0) (h0:Ext w0 w) (h:Γ w) (Q:Ext w w'):Γ w':=hΓ w w' _ h0 h Q (fun _ e=>e.elim)
theorem RowsO.row_in {M:MR} {A':Option Addr} {c':Nat} {xs:List Nat} {w w':World} {S:Nat→Prop} (h:RowsO k te w b n M) (hF:Fr S w w') (hB:Buf k te w' A' c' xs) (hS:∀ a,a < n→a≠i→∀ g,Zad (M.A a) g→¬ S g) (hd:∀ a,a < n→a≠i→∀ g,Zad A' g→¬ Zad (M.A a) g) (hb:¬ Zad A' b):RowsO k te w' b n (M.row i A' c' xs):=by
 refine ⟨fun a ha=>?_,fun a a' g ha ha' h1 h2=>?_,fun a ha=>?_⟩
 ·unfold MR.row
  by_cases e:a=i
  ·subst e; simp only [Zas]; exact hB
  ·simp only [ZaP e]; exact (h.row a ha).fr hF (fun g hg=>hS a ha e g hg)
 ·unfold MR.row at h1 h2
  by_cases e:a=i
  ·by_cases e':a'=i
   ·omega
   ·subst e; simp only [Zas] at h1; simp only [ZaP e'] at h2; exact absurd h2 (hd a' ha' e' g h1)
  ·by_cases e':a'=i
   ·subst e'; simp only [Zas] at h2; simp only [ZaP e] at h1; exact absurd h1 (hd a ha e g h2)
   ·simp only [ZaP e] at h1; simp only [ZaP e'] at h2; exact h.inj a a' g ha ha' h1 h2
 ·unfold MR.row
  by_cases e:a=i
  ·subst e; simp only [Zas]; exact hb
  ·simp only [ZaP e]; exact h.ne a ha
structure LooseI (k:IntKind) (te tr:TypeId) (Γ:World→Prop) (w0 w:World) (b n i:Nat) (A:Nat→Option Addr) (C:Nat→Nat) (X:Nat→List Nat) (A':Option Addr) (c':Nat) (xs:List Nat):Prop where
 arg:Γ w
 topI:ZbX tr w b n (MR.v ⟨A,C,X⟩)
 rows:RowsO k te w b n (MR.row ⟨A,C,X⟩ i A' c' xs)
 new:∀ g,MatB b n ⟨A,C,X⟩ g→w0.heap.size≤g
 newA:∀ g,Zad A' g→w0.heap.size≤g
theorem Zpn {bw cap:Nat} (hΓ:OldG Γ w0) (h:ResI k te tr Γ w0 w b n A C X) (hn:cap≤100000) (hby:bw≤8) (Q:Ext w0 w) (ho:o.op=Op.makeSlice t l c:=by kernel_rfl) (ht:P.underlying t=some (.slice te):=by kernel_rfl) (hinfo:(P.info? te).map (fun i=>(i.zero,i.size,i.bytes))=some (some (.int k 0),1,bw):=by kernel_rfl)
 (hl:ρ l=.int kl 0:=by kernel_rfl) (hc:ρ c=.int kc ((cap:Nat):Int):=by kernel_rfl) :
 ∃ (A':Option Addr) (w':World),(execOp ρ o).run P w=.ok (.value (.slice A' 0 cap)) w'∧Ext w0 w'∧∀ w'',Ext w' w''→LooseI k te tr Γ w0 w'' b n i A C X A' cap []:=by
 obtain ⟨w',hr,h0,hE2,hB⟩:=Zp4 (P:=P) (k:=k) (te:=te) hn hby Q ho ht hinfo hl hc
 refine ⟨_,w',hr,h0,fun w'' hw=>?_⟩
 have hx:Ext w w'':=hE2.ext hw
 have hb:b < w.heap.size:=h.mat.1.lt
 exact ⟨hΓ.step Q h.arg hx,h.mat.1.ext hx,h.mat.2.row_in hx (hB.ext hw) (fun _ _ _ _ _ e=>e) (fun a ha _ g hg hg2=>by have h1:=(h.mat.2.row a ha).lt hg2; rw [Zad.eq hg] at h1; omega) (fun hg=>by rw [Zad.eq hg] at hb; omega),h.new,fun g hg=>by rw [Zad.eq hg]; exact Q.size⟩
theorem Zff {bw:Nat} {x':Nat} (hΓ:OldG Γ w0) (h:ResI k te tr Γ w0 w b n A C X) (Q:Ext w0 w) (hi:i < n) (hlen:(X i).length=j) (hj:j≤100000) (hby:bw≤8) (hq:Zan k w (some ⟨g,0,none⟩) [x'])
 (ho:o.op=.call { callee:=.builtin .append,args:=#[x,y],argTypes:=#[t,t] }:=by kernel_rfl) (ht:P.underlying t=some (.slice te):=by kernel_rfl) (hinfo:(P.info? te).map (fun i=>(i.zero,i.size,i.bytes))=some (some (.int k 0),1,bw):=by kernel_rfl)
 (hx:ρ x=.slice (A i) j (C i):=by kernel_rfl) (hy:ρ y=.slice (some ⟨g,0,none⟩) 1 1:=by kernel_rfl) :
 ∃ (z:Option Addr × Nat) (w':World),(execOp ρ o).run P w=.ok (.value (.slice z.1 (j + 1) z.2)) w'∧Ext w0 w'∧∀ w'',Ext w' w''→LooseI k te tr Γ w0 w'' b n i A C X z.1 z.2 (X i ++ [x']):=by
 obtain ⟨A',cap',w',hrun,h2,h3,h4⟩:=ZdI (P:=P) w t o.type te k bw ht hinfo (A i) (some ⟨g,0,none⟩) j 1 (C i) 1 (X i) [x'] hlen rfl (h.mat.2.row i hi) hq (by simp only [maxLen]; omega) (by have:=Nat.mul_le_mul (show j + 1≤100001 by omega) hby; omega)
 have hnew:∀ g,Zad (A i) g→w0.heap.size≤g:=fun g hg=>h.new g (Or.inr ⟨i,hi,hg⟩)
 have h0:Ext w0 w':=Q.next h3 (fun a ha hb=>by have:=hnew a hb; omega)
 refine ⟨(A',cap'),w',?_,h0,fun w'' hw=>?_⟩
 ·simp only [execOp,ho,resolve,invoke,builtin,Sem.run_bind,Sem.run_pure,Result.andThen_ok,List.map_toArray,List.map_cons,List.map_nil,hx,hy,hrun]
 ·have hne:¬ Zad A' b:=fun hg=>by
   rcases h4 b hg with h5 | h5
   ·exact h.mat.2.ne i hi h5
   ·have:=h.mat.1.lt; omega
  have hr:=h.mat.2.row_in (i:=i) h3 h2 (fun a ha e g hg hg2=>e (h.mat.2.inj a i g ha hi hg hg2)) (fun a ha e g hg hg2=>by
   rcases h4 g hg with h5 | h5
   ·exact e (h.mat.2.inj a i g ha hi hg2 h5)
   ·have:=(h.mat.2.row a ha).lt hg2; omega) hne
  refine ⟨hΓ.step h0 (hΓ w w' _ Q h.arg h3 hnew) hw,(h.mat.1.fr h3 (h.mat.2.ne i hi)).ext hw,hr.ext hw,h.new,fun g hg=>?_⟩
  rcases h4 g hg with h5 | h5
  ·exact hnew g h5
  ·rw [h5]; exact Q.size
theorem ZeS {A':Option Addr} {c' len:Nat} {xs:List Nat} (hΓ:OldG Γ w0) (h:LooseI k te tr Γ w0 w b n i A C X A' c' xs) (Q:Ext w0 w) (hi:i < n) (hlen:xs.length=len)
 (ho:o.op=Op.store t x y:=by kernel_rfl) (hx:ρ x=.pointer (some ⟨b,i,none⟩):=by kernel_rfl) (hy:ρ y=.slice A' len c':=by kernel_rfl) (hs:(teOf P t).map (fun e=>e.size)=some 1:=by kernel_rfl) :
 ∃ w',(execOp ρ o).run P w=.ok .skip w'∧Ext w0 w'∧∀ w'',Ext w' w''→ResI k te tr Γ w0 w'' b n (upF A i A') (upF C i c') (upF X i xs):=by
 subst hlen
 obtain ⟨w',hr,hM,hF⟩:=MatO.setRow (P:=P) (t:=t) (M:=⟨A,C,X⟩) hs h.topI h.rows hi
 have hb:w0.heap.size≤b:=h.new b (Or.inl rfl)
 have h0:Ext w0 w':=Q.next hF (fun a ha hg=>by omega)
 refine ⟨w',by simp only [execOp,ho,Sem.run_bind,hx,hy,hr,Result.andThen_ok,Sem.run_pure],h0,fun w'' hw=>⟨hΓ.step h0 (hΓ w w' _ Q h.arg hF (fun g hg=>by omega)) hw,hM.ext hw,fun g hg=>?_⟩⟩
 rcases hg with rfl | ⟨a,ha,hg⟩
 ·exact hb
 ·by_cases e:a=i
  ·subst e; rw [show (MR.mk (upF A a A') (upF C a c') (upF X a xs)).A a=A' from Zas _ _ _] at hg; exact h.newA g hg
  ·rw [show (MR.mk (upF A i A') (upF C i c') (upF X i xs)).A a=A a from ZaP e] at hg; exact h.new g (Or.inr ⟨a,ha,hg⟩)
end
theorem ZfE (z p:Int) (q:Nat) (w:World) (h1 : -9223372036854775808≤z∧z≤9223372036854775807) (hp:1≤p) (hm:p≤2147483647) (hq:z % p=(q:Int)):Calls Tryz.prog 62 #[.int .i64 z, .int .i64 p] w (RetV w (.int .u64 ((q:Nat):Int))):=by
 rw [← hq]; exact (ZhR z p w h1.1 h1.2 hp hm).mono (fun _ _ ⟨h1,h2⟩=>⟨h1,by rw [h2]; exact Fr.refl _ _⟩)
def redL (p:Int) (zs:List Int):List Nat:=zs.map fun z=>(z % p).toNat
theorem Zfg {p:Int} {zs:List Int}:(redL p zs).length=zs.length:=List.length_map _
theorem Zj9 {p:Int} {zs:List Int} {j q:Nat} (hj:j < zs.length) (hq:zs.getD j 0 % p=(q:Int)):redL p (zs.take j) ++ [q]=redL p (zs.take (j + 1)):=by
 rw [List.take_add_one,List.getElem?_eq_getElem hj]
 rw [List.getD_eq_getElem?_getD,List.getElem?_eq_getElem hj] at hq
 unfold redL
 rw [List.map_append]
 simp only [Option.getD_some] at hq
 simp [hq]
theorem Zlp {p:Int} {zs:List Int} {j:Nat} (hj:zs.length≤j):redL p (zs.take j)=redL p zs:=by rw [List.take_of_length_le hj]
theorem Zma {p:Int} {P:Nat} (hp:p=(P:Int)) (h0:0 < P) {zs:List Int}:∀ x ∈ redL p zs,x < P:=fun x hx=>by
 obtain ⟨z,_,rfl⟩:=List.mem_map.1 hx
 have h1:=Int.emod_nonneg z (show p≠0 by omega)
 have h2:=Int.emod_lt_of_pos z (show 0 < p by omega)
 omega
theorem ZcI {A0:Option Addr} {n:Nat} {R:Nat→Option Addr} {C:Nat→Nat} {Z:Nat→List Int} {w0:World} (h0:ArgI w0 A0 n R C Z):OldG (fun w=>ArgI w A0 n R C Z) w0:=fun w w' S Q _ hF hS=>h0.ext (Q.next hF (fun g hg hs=>by have:=hS g hs; omega))
def Zkv (w:World) (n:Nat) (p:Int) (Z:Nat→List Int) (k:IntKind) (te tr:TypeId) (e:Ending) (w':World):Prop:=∃ b A C X,e=.returned (.slice (some ⟨b,0,none⟩) n n)∧Ext w w'∧MatO k te tr w' b n ⟨A,C,X⟩∧(∀ g,MatB b n ⟨A,C,X⟩ g→w.heap.size≤g)∧∀ i,i < n→X i=redL p (Z i)
theorem ZeT {w:World} {e:TypeId} {b x:Nat} {k:IntKind} (h:Blk e w b #[.int k ((x:Nat):Int)]):Zan k w (some ⟨b,0,none⟩) [x]:=fun _ =>
 ⟨b,0,rfl,h.lt,fun i hi=>by
  have:i=0:=by simp at hi; omega
  subst this
  rw [show (0:Nat) + 0=0 from rfl,h.cell]; rfl⟩
theorem Zd8 (A0:Option Addr) (n m c0:Nat) (R:Nat→Option Addr) (C:Nat→Nat) (Z:Nat→List Int) (p:Int) (W0:World) (ha:ArgI W0 A0 n R C Z) (hn:n≤1000) (hm1:m≤1000) (hm:∀ i,i < n→(Z i).length=m) (hp:1≤p) (hp31:p≤2147483647) :
 Calls Tryz.prog 61 #[.slice A0 n c0, .int .i64 p] W0 (Zkv W0 n p Z .u64 88 93):=by
 refine Zbi (Φ:=fun w=>ArgI w A0 n R C Z) Tryz.func61 rfl (by kernel_rfl) (fun w' hf=>ha.ext hf) ?_
 refine Zac (Zab (xr 1 [eS1 0 A0 n c0,(1, .v (.int .i64 p)),eS1 4 none 0 0] [] ?_))
 refine xe (Zaa (Zac (Zab (xr 2 [eS1 0 A0 n c0,(1, .v (.int .i64 p)),eS1 4 none 0 0,(11, .v (.int .i64 ((n:Nat):Int)))] [] ?_))))
 refine ZcG (d:=12) (fun b:Nat=>.slice (some ⟨b,0,none⟩) n n) (fun b w=>ResI .u64 88 93 (fun w=>ArgI w A0 n R C Z) W0 w b n (fun _=>none) (fun _=>0) (fun _=>[])) (fun w hE' Q=>(fun ⟨w',h1,h2,h3,h4⟩=>⟨w.heap.size,w',h1,h2,fun w'' hw=>⟨Q.ext (h3.ext hw),h4.ext hw,fun g hg=>hg.elim (fun e=>e ▸ hE'.size) (fun ⟨_,_,_,h5,_⟩=>nomatch h5)⟩⟩) (ZoR (k:=.u64) (te:=88) (t:=91) (l:=.tmp 11) (c:=.tmp 11) (n:=n) (bw:=24) (kl:=.i64) (kc:=.i64) (by omega) (by decide) hE')) (fun b=>?_)
 refine xr 1 [eS1 0 A0 n c0,(1, .v (.int .i64 p)),eS1 4 none 0 0,eS1 5 (some ⟨b,0,none⟩) n n] [] ?_
 refine xe (Zaa (Zac (Zac (Zab (xr 3 [(1, .v (.int .i64 p)),eS1 4 none 0 0,eS1 5 (some ⟨b,0,none⟩) n n,eS1 13 A0 n c0,(14, .v (.int .i64 ((n:Nat):Int))),(15, .v (.int .i64 0))] [] ?_)))))
 refine xe (Zaa (Zap ?_))
 refine SXc.weak [(1, .v (.int .i64 p)),(4, .v (.slice none 0 0)),(5, .v (.slice (some ⟨b,0,none⟩) n n)),(13, .v (.slice A0 n c0)),(14, .v (.int .i64 ((n:Nat):Int))),(15, .v (.int .i64 ((0:Nat):Int)))] [] (Ψ:=fun w=>ResI .u64 88 93 (fun w=>ArgI w A0 n R C Z) W0 w b n ((fun _=>none)) ((fun _=>0)) ((fun _=>[]))) (Zaw.of (by kernel_rfl)) (by kernel_rfl) (fun w Q=>Q) ?_
 refine ZaU (fun nn ss ff=>∃ (A:Nat→Option Addr) (C1:Nat→Nat) (X:Nat→List Nat) (i:Nat),ss=ofL [(1, .v (.int .i64 p)),(4, .v (.slice none 0 0)),(5, .v (.slice (some ⟨b,0,none⟩) n n)),(13, .v (.slice A0 n c0)),(14, .v (.int .i64 ((n:Nat):Int))),(15, .v (.int .i64 ((i:Nat):Int)))] []∧ff=(fun w=>ResI .u64 88 93 (fun w=>ArgI w A0 n R C Z) W0 w b n (A) (C1) (X))∧(i≤n)∧(∀ a,a < i→X a=redL p (Z a))∧nn=(n - i)) ((n - 0)) ⟨(fun _=>none),(fun _=>0),(fun _=>[]),0,rfl,rfl,Nat.zero_le _,fun a ha=>absurd ha (by omega),rfl⟩ ?_
 rintro nn ss ff ⟨A,C1,X,i,rfl,rfl,hi,hXd,rfl⟩
 refine Zac (Zab (xr 1 [(1, .v (.int .i64 p)),eS1 4 none 0 0,eS1 5 (some ⟨b,0,none⟩) n n,eS1 13 A0 n c0,(14, .v (.int .i64 ((n:Nat):Int))),(15, .v (.int .i64 ((i:Nat):Int))),(16, .v (.bool (decide (((i:Nat):Int) < ((n:Nat):Int)))))] [] ?_))
 refine xe (Zaa (Zac ?_))
 refine Zar ((decide (((i:Nat):Int) < ((n:Nat):Int)))) (by kernel_rfl) (fun hb10=>?_) (fun hb10=>?_)
 ·have hin:i < n:=by have:=of_decide_eq_true hb10; omega
  refine Zam (Zaa (Zac (Zap (Zac (Zab (xr 1 [(1, .v (.int .i64 p)),eS1 4 none 0 0,eS1 5 (some ⟨b,0,none⟩) n n,eS1 13 A0 n c0,(14, .v (.int .i64 ((n:Nat):Int))),(15, .v (.int .i64 ((i:Nat):Int))),(17, .v (.int .i64 ((i:Nat):Int)))] [] ?_))))))
  refine xk 18 (atA A0 i) (fun w hE' Q=>Zbr (t:=22) (e:=23) (x:=.tmp 13) (ix:=.tmp 15) (i:=i) (cap:=c0) Q.arg hin) ?_
  refine xk 19 (.slice (R i) m (C i)) (fun w hE' Q=>Zbs (t:=23) (x:=.tmp 18) (i:=i) Q.arg hin (hm i hin)) ?_
  refine xr 2 [(1, .v (.int .i64 p)),eS1 4 none 0 0,eS1 5 (some ⟨b,0,none⟩) n n,(6, .v (.int .i64 ((i:Nat):Int))),eS1 7 (R i) m (C i),eS1 13 A0 n c0,(14, .v (.int .i64 ((n:Nat):Int))),(15, .v (.int .i64 ((i:Nat):Int)))] [] ?_
  refine xe (Zaa (Zac (Zab (xr 5 [(1, .v (.int .i64 p)),eS1 4 none 0 0,eS1 5 (some ⟨b,0,none⟩) n n,(6, .v (.int .i64 ((i:Nat):Int))),eS1 7 (R i) m (C i),eS1 13 A0 n c0,(14, .v (.int .i64 ((n:Nat):Int))),(15, .v (.int .i64 ((i:Nat):Int))),eS1 20 (some ⟨b,0,none⟩) n n,(21, .v (.int .i64 ((i:Nat):Int))),(24, .v (.int .i64 (IntKind.i64.wrap (((m:Nat):Int) + 1))))] [] ?_))))
  rw [ZaI (k:=m) (by omega)]
  refine ZcG (d:=25) (fun A2:Option Addr=>.slice A2 0 (m + 1)) (fun A2 w=>LooseI .u64 88 93 (fun w=>ArgI w A0 n R C Z) W0 w b n i (A) (C1) (X) (A2) (m + 1) ([])) (fun w hE' Q=>Zpn (t:=93) (l:=.const (.int .i64 0)) (c:=.tmp 24) (bw:=8) (kl:=.i64) (kc:=.i64) (ZcI ha) Q (by omega) (by decide) hE') (fun A2=>?_)
  refine xk 26 (.pointer (some ⟨b,i,none⟩)) (fun w hE' Q=>Zax (g:=b) (len:=n) (cap:=n) (i:=i) (t:=91) (e:=93) (x:=.tmp 20) (ix:=.tmp 21) hin) ?_
  refine Zb8 (fun w=>ResI .u64 88 93 (fun w=>ArgI w A0 n R C Z) W0 w b n (upF A i A2) (upF C1 i (m + 1)) (upF X i [])) (fun w hE' Q=>ZeS (t:=93) (x:=.tmp 26) (y:=.tmp 25) (ZcI ha) Q hE' hin rfl) ?_
  refine xr 0 [(1, .v (.int .i64 p)),eS1 4 none 0 0,eS1 5 (some ⟨b,0,none⟩) n n,(6, .v (.int .i64 ((i:Nat):Int))),eS1 7 (R i) m (C i),eS1 13 A0 n c0,(14, .v (.int .i64 ((n:Nat):Int))),(15, .v (.int .i64 ((i:Nat):Int)))] [] ?_
  refine xe (Zaa (Zac (Zab (xr 3 [(1, .v (.int .i64 p)),eS1 4 none 0 0,eS1 5 (some ⟨b,0,none⟩) n n,(6, .v (.int .i64 ((i:Nat):Int))),eS1 13 A0 n c0,(14, .v (.int .i64 ((n:Nat):Int))),(15, .v (.int .i64 ((i:Nat):Int))),eS1 27 (R i) m (C i),(28, .v (.int .i64 ((m:Nat):Int))),(29, .v (.int .i64 0))] [] ?_))))
  refine xe (Zaa (Zap ?_))
  refine SXc.weak [(1, .v (.int .i64 p)),(4, .v (.slice none 0 0)),(5, .v (.slice (some ⟨b,0,none⟩) n n)),(6, .v (.int .i64 ((i:Nat):Int))),(13, .v (.slice A0 n c0)),(14, .v (.int .i64 ((n:Nat):Int))),(15, .v (.int .i64 ((i:Nat):Int))),(27, .v (.slice (R i) m (C i))),(28, .v (.int .i64 ((m:Nat):Int))),(29, .v (.int .i64 ((0:Nat):Int)))] [] (Ψ:=fun w=>ResI .u64 88 93 (fun w=>ArgI w A0 n R C Z) W0 w b n ((upF A i A2)) ((upF C1 i (m + 1))) ((upF X i []))) (Zaw.of (by kernel_rfl)) (by kernel_rfl) (fun w Q=>Q) ?_
  refine ZaU (fun nn ss ff=>∃ (A:Nat→Option Addr) (C1:Nat→Nat) (X:Nat→List Nat) (j:Nat),ss=ofL [(1, .v (.int .i64 p)),(4, .v (.slice none 0 0)),(5, .v (.slice (some ⟨b,0,none⟩) n n)),(6, .v (.int .i64 ((i:Nat):Int))),(13, .v (.slice A0 n c0)),(14, .v (.int .i64 ((n:Nat):Int))),(15, .v (.int .i64 ((i:Nat):Int))),(27, .v (.slice (R i) m (C i))),(28, .v (.int .i64 ((m:Nat):Int))),(29, .v (.int .i64 ((j:Nat):Int)))] []∧ff=(fun w=>ResI .u64 88 93 (fun w=>ArgI w A0 n R C Z) W0 w b n (A) (C1) (X))∧(j≤m)∧(X i=redL p ((Z i).take j))∧(∀ a,a < i→X a=redL p (Z a))∧nn=(m - j)) ((m - 0)) ⟨(upF A i A2),(upF C1 i (m + 1)),(upF X i []),0,rfl,rfl,Nat.zero_le _,(by rw [Zas]; rfl),(fun a ha=>by rw [ZaP (by omega)]; exact hXd a ha),rfl⟩ ?_
  rintro nn ss ff ⟨A,C1,X,j,rfl,rfl,hj,hXi,hXd,rfl⟩
  refine Zac (Zab (xr 1 [(1, .v (.int .i64 p)),eS1 4 none 0 0,eS1 5 (some ⟨b,0,none⟩) n n,(6, .v (.int .i64 ((i:Nat):Int))),eS1 13 A0 n c0,(14, .v (.int .i64 ((n:Nat):Int))),(15, .v (.int .i64 ((i:Nat):Int))),eS1 27 (R i) m (C i),(28, .v (.int .i64 ((m:Nat):Int))),(29, .v (.int .i64 ((j:Nat):Int))),(30, .v (.bool (decide (((j:Nat):Int) < ((m:Nat):Int)))))] [] ?_))
  refine xe (Zaa (Zac ?_))
  refine Zar ((decide (((j:Nat):Int) < ((m:Nat):Int)))) (by kernel_rfl) (fun hb11=>?_) (fun hb11=>?_)
  ·have hjm:j < m:=by have:=of_decide_eq_true hb11; omega
   refine Zam (Zaa (Zac (Zap (Zac ?_))))
   obtain ⟨z,hz⟩:∃ z,(Z i).getD j 0=z:=⟨_,rfl⟩
   have hz64 : -9223372036854775808≤z∧z≤9223372036854775807:=by rw [← hz]; exact (ha.i64 i hin).at j
   obtain ⟨q,hq⟩:∃ q:Nat,z % p=(q:Int):=Int.eq_ofNat_of_zero_le (Int.emod_nonneg z (by omega))
   have hXj:(X i).length=j:=by rw [hXi,Zfg,List.length_take,hm i hin]; omega
   refine Zab ?_
   refine xk 31 (atA (R i) j) (fun w hE' Q=>Zem (t:=23) (e:=3) (x:=.tmp 27) (ix:=.tmp 29) (cap:=C i) (Q.arg.row i hin) (hm i hin) hjm) ?_
   refine xk 32 (.int .i64 z) (fun w hE' Q=>Zen (t:=3) (x:=.tmp 31) (j:=j) (Q.arg.row i hin) (by rw [hm i hin]; exact hjm) hz) ?_
   refine xr 1 [(1, .v (.int .i64 p)),eS1 4 none 0 0,eS1 5 (some ⟨b,0,none⟩) n n,(6, .v (.int .i64 ((i:Nat):Int))),(9, .v (.int .i64 z)),eS1 13 A0 n c0,(14, .v (.int .i64 ((n:Nat):Int))),(15, .v (.int .i64 ((i:Nat):Int))),eS1 27 (R i) m (C i),(28, .v (.int .i64 ((m:Nat):Int))),(29, .v (.int .i64 ((j:Nat):Int)))] [] ?_
   refine xe (Zaa ?_)
   refine Zfc 10 5 33 6 34 5 35 6 36 (.slice (some ⟨b,0,none⟩) n n) (.int .i64 ((i:Nat):Int)) (.slice (some ⟨b,0,none⟩) n n) (.int .i64 ((i:Nat):Int)) ?_
   refine xf 0 [(1, .v (.int .i64 p)),eS1 4 none 0 0,eS1 5 (some ⟨b,0,none⟩) n n,(6, .v (.int .i64 ((i:Nat):Int))),(9, .v (.int .i64 z)),eS1 13 A0 n c0,(14, .v (.int .i64 ((n:Nat):Int))),(15, .v (.int .i64 ((i:Nat):Int))),eS1 27 (R i) m (C i),(28, .v (.int .i64 ((m:Nat):Int))),(29, .v (.int .i64 ((j:Nat):Int))),eS1 33 (some ⟨b,0,none⟩) n n,(34, .v (.int .i64 ((i:Nat):Int))),eS1 35 (some ⟨b,0,none⟩) n n,(36, .v (.int .i64 ((i:Nat):Int)))] [] ?_
   refine xj 37 (.pointer (some ⟨b,i,none⟩)) (fun w Q=>Zax (g:=b) (len:=n) (cap:=n) (i:=i) (t:=91) (e:=93) (x:=.tmp 35) (ix:=.tmp 36) hin) ?_
   refine xj 38 (.slice (A i) j (C1 i)) (fun w Q=>ZaQ (t:=93) (x:=.tmp 37) Q.mat hin hXj) ?_
   refine xf 2 [(1, .v (.int .i64 p)),eS1 4 none 0 0,eS1 5 (some ⟨b,0,none⟩) n n,(6, .v (.int .i64 ((i:Nat):Int))),eS1 13 A0 n c0,(14, .v (.int .i64 ((n:Nat):Int))),(15, .v (.int .i64 ((i:Nat):Int))),eS1 27 (R i) m (C i),(28, .v (.int .i64 ((m:Nat):Int))),(29, .v (.int .i64 ((j:Nat):Int))),eS1 33 (some ⟨b,0,none⟩) n n,(34, .v (.int .i64 ((i:Nat):Int))),eS1 38 (A i) j (C1 i),(39, .v (.int .i64 z)),(40, .v (.int .i64 p))] [] ?_
   refine xd 62 [.int .i64 z, .int .i64 p] 41 (fun _:Unit=>.int .u64 ((q:Nat):Int)) _ (fun w S Q=>(ZfE z p q _ hz64 hp hp31 hq).mono (fun _ _ h=>Zau h rfl)) (fun xx=>?_)
   refine xf 0 [(1, .v (.int .i64 p)),eS1 4 none 0 0,eS1 5 (some ⟨b,0,none⟩) n n,(6, .v (.int .i64 ((i:Nat):Int))),eS1 13 A0 n c0,(14, .v (.int .i64 ((n:Nat):Int))),(15, .v (.int .i64 ((i:Nat):Int))),eS1 27 (R i) m (C i),(28, .v (.int .i64 ((m:Nat):Int))),(29, .v (.int .i64 ((j:Nat):Int))),eS1 33 (some ⟨b,0,none⟩) n n,(34, .v (.int .i64 ((i:Nat):Int))),eS1 38 (A i) j (C1 i),(41, .v (.int .u64 ((q:Nat):Int)))] [] ?_
   refine ZfY 42 (fun zb:Nat=>.slice (some ⟨zb,0,none⟩) 1 1) (fun zb zw=>Blk 88 zw zb #[.int .u64 ((q:Nat):Int)]) (by kernel_rfl) (by kernel_rfl) (by kernel_rfl) (by kernel_rfl) (by kernel_rfl) (by kernel_rfl) (by kernel_rfl) (fun w S Q=>Zce (t:=93) (e:=88) (n:=1) (sz:=1) (z:=.int .u64 0) (parts:=#[(0,Operand.tmp 41)]) (by kernel_rfl) (by kernel_rfl) (by kernel_rfl) (by kernel_rfl) (by kernel_rfl) (by kernel_rfl)) (fun b12=>?_)
   refine xf 0 [(1, .v (.int .i64 p)),eS1 4 none 0 0,eS1 5 (some ⟨b,0,none⟩) n n,(6, .v (.int .i64 ((i:Nat):Int))),eS1 13 A0 n c0,(14, .v (.int .i64 ((n:Nat):Int))),(15, .v (.int .i64 ((i:Nat):Int))),eS1 27 (R i) m (C i),(28, .v (.int .i64 ((m:Nat):Int))),(29, .v (.int .i64 ((j:Nat):Int))),eS1 33 (some ⟨b,0,none⟩) n n,(34, .v (.int .i64 ((i:Nat):Int))),eS1 38 (A i) j (C1 i),eS1 42 (some ⟨b12,0,none⟩) 1 1] [] ?_
   refine xz ?_
   refine ZcG (d:=43) (fun z:Option Addr × Nat=>.slice z.1 (j + 1) z.2) (fun z w=>LooseI .u64 88 93 (fun w=>ArgI w A0 n R C Z) W0 w b n i (A) (C1) (X) (z.1) (z.2) (X i ++ [q])) (fun w hE' Q=>Zff (t:=93) (x:=.tmp 38) (y:=.tmp 42) (g:=b12) (x':=q) (bw:=8) (ZcI ha) Q.1.1 hE' hin hXj (by omega) (by decide) (ZeT Q.2)) (fun z=>?_)
   obtain ⟨A3,c3⟩:=z
   refine xk 44 (.pointer (some ⟨b,i,none⟩)) (fun w hE' Q=>Zax (g:=b) (len:=n) (cap:=n) (i:=i) (t:=91) (e:=93) (x:=.tmp 33) (ix:=.tmp 34) hin) ?_
   refine Zb8 (fun w=>ResI .u64 88 93 (fun w=>ArgI w A0 n R C Z) W0 w b n (upF A i A3) (upF C1 i c3) (upF X i (X i ++ [q]))) (fun w hE' Q=>ZeS (t:=93) (x:=.tmp 44) (y:=.tmp 43) (ZcI ha) Q hE' hin (by rw [List.length_append,hXj,List.length_singleton])) ?_
   refine xr 0 [(1, .v (.int .i64 p)),eS1 4 none 0 0,eS1 5 (some ⟨b,0,none⟩) n n,(6, .v (.int .i64 ((i:Nat):Int))),eS1 13 A0 n c0,(14, .v (.int .i64 ((n:Nat):Int))),(15, .v (.int .i64 ((i:Nat):Int))),eS1 27 (R i) m (C i),(28, .v (.int .i64 ((m:Nat):Int))),(29, .v (.int .i64 ((j:Nat):Int)))] [] ?_
   refine xe (ZaN (Zaa (Zab (xr 1 [(1, .v (.int .i64 p)),eS1 4 none 0 0,eS1 5 (some ⟨b,0,none⟩) n n,(6, .v (.int .i64 ((i:Nat):Int))),eS1 13 A0 n c0,(14, .v (.int .i64 ((n:Nat):Int))),(15, .v (.int .i64 ((i:Nat):Int))),eS1 27 (R i) m (C i),(28, .v (.int .i64 ((m:Nat):Int))),(29, .v (.int .i64 ((j:Nat):Int))),(45, .v (.int .i64 (IntKind.i64.wrap (((j:Nat):Int) + 1))))] [] ?_))))
   rw [ZaI (k:=j) (by omega)]
   refine xr 1 [(1, .v (.int .i64 p)),eS1 4 none 0 0,eS1 5 (some ⟨b,0,none⟩) n n,(6, .v (.int .i64 ((i:Nat):Int))),eS1 13 A0 n c0,(14, .v (.int .i64 ((n:Nat):Int))),(15, .v (.int .i64 ((i:Nat):Int))),eS1 27 (R i) m (C i),(28, .v (.int .i64 ((m:Nat):Int))),(29, .v (.int .i64 ((j + 1:Nat):Int)))] [] ?_
   refine xe ?_
   refine SXq.weak [(1, .v (.int .i64 p)),(4, .v (.slice none 0 0)),(5, .v (.slice (some ⟨b,0,none⟩) n n)),(6, .v (.int .i64 ((i:Nat):Int))),(13, .v (.slice A0 n c0)),(14, .v (.int .i64 ((n:Nat):Int))),(15, .v (.int .i64 ((i:Nat):Int))),(27, .v (.slice (R i) m (C i))),(28, .v (.int .i64 ((m:Nat):Int))),(29, .v (.int .i64 (((j + 1):Nat):Int)))] [] (Ψ:=fun w=>ResI .u64 88 93 (fun w=>ArgI w A0 n R C Z) W0 w b n ((upF A i A3)) ((upF C1 i c3)) ((upF X i (X i ++ [q])))) (Zaw.of (by kernel_rfl)) (by kernel_rfl) (fun w Q=>Q) ?_
   exact ZaB ((m - (j + 1))) (by omega) ⟨(upF A i A3),(upF C1 i c3),(upF X i (X i ++ [q])),(j + 1),rfl,rfl,(by omega),(by rw [Zas,hXi]; exact Zj9 (by rw [hm i hin]; exact hjm) (by rw [hz]; exact hq)),(fun a ha=>by rw [ZaP (by omega)]; exact hXd a ha),rfl⟩
  ·have hjm:m≤j:=by have:=of_decide_eq_false hb11; omega
   refine ZaC (Zae (Zae (ZaO (ZaN (Zaa (Zab (xr 1 [(1, .v (.int .i64 p)),eS1 4 none 0 0,eS1 5 (some ⟨b,0,none⟩) n n,eS1 13 A0 n c0,(14, .v (.int .i64 ((n:Nat):Int))),(15, .v (.int .i64 ((i:Nat):Int))),(46, .v (.int .i64 (IntKind.i64.wrap (((i:Nat):Int) + 1))))] [] ?_)))))))
   rw [ZaI (k:=i) (by omega)]
   refine xr 1 [(1, .v (.int .i64 p)),eS1 4 none 0 0,eS1 5 (some ⟨b,0,none⟩) n n,eS1 13 A0 n c0,(14, .v (.int .i64 ((n:Nat):Int))),(15, .v (.int .i64 ((i + 1:Nat):Int)))] [] ?_
   refine xe ?_
   refine SXq.weak [(1, .v (.int .i64 p)),(4, .v (.slice none 0 0)),(5, .v (.slice (some ⟨b,0,none⟩) n n)),(13, .v (.slice A0 n c0)),(14, .v (.int .i64 ((n:Nat):Int))),(15, .v (.int .i64 (((i + 1):Nat):Int)))] [] (Ψ:=fun w=>ResI .u64 88 93 (fun w=>ArgI w A0 n R C Z) W0 w b n (A) (C1) (X)) (Zaw.of (by kernel_rfl)) (by kernel_rfl) (fun w Q=>Q) ?_
   exact ZaB ((n - (i + 1))) (by omega) ⟨A,C1,X,(i + 1),rfl,rfl,(by omega),(fun a ha=>by rcases Nat.lt_or_ge a i with h3 | h3; exact hXd a h3; obtain rfl:a=i:=(by omega); rw [hXi]; exact Zlp (by rw [hm a (by omega)]; omega)),rfl⟩
 ·have hin:n≤i:=by have:=of_decide_eq_false hb10; omega
  refine ZaC (Zae (Zae (ZaO (Zaa (Zac (Zab (xr 2 [eS1 4 (some ⟨b,0,none⟩) n n] [] ?_)))))))
  refine xe (Zaa (Zao ?_))
  refine Zak (v:=.slice (some ⟨b,0,none⟩) n n) (by kernel_rfl) (fun w' S Q=>?_)
  exact ⟨b,A,C1,X,rfl,S,Q.mat,Q.new,fun a ha=>hXd a (by omega)⟩
end Go.Proofs.YthlipnahcbcjkaaGreatDoor

namespace Go.Proofs.YthlipnahcbcjkaaGreatDoor
open Go.RowKit
theorem ChkIs.okk {n:Nat} {Z:Nat→List Int} {p c:Int} {sq:Bool} (h:ChkIs n Z p sq c) (h0:c=0):prB p=true∧0 < n∧(Z 0).length≠0∧(sq=true→(Z 0).length=n)∧(∀ i,i < n→(Z i).length=(Z 0).length)∧n≤64∧(Z 0).length≤64:=by
 cases h with
 | ok h hn hz hs he hl hl2=>exact ⟨h,hn,hz,hs,he,hl,hl2⟩
 | _=>exact absurd h0 (by decide)
theorem ZbW {p:Int} (h:prB p=true):∃ P:Nat,p=(P:Int)∧2≤P∧P≤2147483647∧Pr p:=by
 have hP:=ZdJ.1 h
 have h1:=hP.1
 have h2:=hP.2.1
 exact ⟨p.toNat,by omega,by omega,by omega,hP⟩
structure RsX (n:Nat) (p:Int) (Z:Nat→List Int) where
 b:Nat
 A:Nat→Option Addr
 C:Nat→Nat
 X:Nat→List Nat
 hX:∀ i,i < n→X i=redL p (Z i)
section
variable {k:IntKind} {te tr:TypeId} {Γ:World→Prop} {w w0:World} {n m cols P b:Nat} {p:Int} {Z:Nat→List Int} {A:Nat→Option Addr} {C:Nat→Nat} {X:Nat→List Nat}
theorem Zeo {e:Ending} {w':World} (hΓ:OldG Γ w0) (hg:Γ w) (Q:Ext w0 w) (h:Zkv w n p Z k te tr e w'):∃ x:RsX n p Z,e=.returned (.slice (some ⟨x.b,0,none⟩) n n)∧Ext w0 w'∧∀ w'',Ext w' w''→ResI k te tr Γ w0 w'' x.b n x.A x.C x.X:=by
 obtain ⟨b,A,C,X,rfl,h1,h2,h3,h4⟩:=h
 exact ⟨⟨b,A,C,X,h4⟩,rfl,Q.ext h1,fun w'' hw=>⟨hΓ.step Q hg (h1.ext hw),h2.ext hw,fun g hg=>Nat.le_trans Q.size (h3 g hg)⟩⟩
structure ElX (p n m cols:Nat) (X0:Nat→List Nat) where
 r:Nat
 d:Nat
 A:Nat→Option Addr
 C:Nat→Nat
 X:Nat→List Nat
 hR:ElRun p n m X0 cols X r d
 hB:ElB p n m X r d
theorem ZhA {e:Ending} {w':World} (hΓ:OldG Γ w0) (hg:ResI .u64 88 93 Γ w0 w b n A C X) (Q:Ext w0 w) (h:ZoP w b n m cols P A C X e w'):∃ x:ElX P n m cols X,e=.returned (.tuple #[.int .i64 ((x.r:Nat):Int), .int .u64 ((x.d:Nat):Int)])∧Ext w0 w'∧∀ w'',Ext w' w''→ResI .u64 88 93 Γ w0 w'' b n x.A x.C x.X:=by
 obtain ⟨r,d,A',C',X',rfl,h1,h2,h3,h4,h5⟩:=h
 have h0:Ext w0 w':=Q.next h1 (fun g hg2 hg3=>by have:=hg.new g hg3; omega)
 refine ⟨⟨r,d,A',C',X',h2,h3⟩,rfl,h0,fun w'' hw=>⟨hΓ.step h0 (hΓ w w' _ Q hg.arg h1 hg.new) hw,h5.ext hw,fun g hg2=>?_⟩⟩
 rcases hg2 with rfl | ⟨i,hi,hg2⟩
 ·exact hg.new _ (Or.inl rfl)
 ·obtain ⟨j,hj,e⟩:=h4 i hi
  exact hg.new g (Or.inr ⟨j,hj,by show Zad (A j) g; rw [← e]; exact hg2⟩)
theorem Zf0 {x:Nat} (h:x≤2147483647):IntKind.u64.wrap ((x:Nat):Int)=((x:Nat):Int):=by rw [IntKind.wrap_u64]; omega
theorem Zlq {x:Nat} (h:x≤2147483647):IntKind.i64.wrap ((x:Nat):Int)=((x:Nat):Int):=by rw [IntKind.wrap_i64]; omega
theorem Zep (hp:p=(P:Int)) (h0:2≤P) (hX:∀ i,i < n→X i=redL p (Z i)) (hm:∀ i,i < n→(Z i).length=m):ElB P n m X 0 1 :=
 ⟨fun i hi=>by rw [hX i hi,Zfg,hm i hi],fun i hi=>by rw [hX i hi]; exact Zma hp (by omega),Nat.zero_le _,by omega⟩
end
inductive DetIs (n:Nat) (Z:Nat→List Int) (p:Int):Int→Int→Prop
 | err (c:Int) (hc:ChkIs n Z p true c) (h0:c≠0):DetIs n Z p 0 c
 | low (P:Nat) (X0 X:Nat→List Nat) (r d:Nat) (hc:ChkIs n Z p true 0) (hp:p=(P:Int)) (hX:∀ i,i < n→X0 i=redL p (Z i)) (hR:ElRun P n n X0 n X r d) (hr:r < n):DetIs n Z p 0 0
 | full (P:Nat) (X0 X:Nat→List Nat) (r d:Nat) (hc:ChkIs n Z p true 0) (hp:p=(P:Int)) (hX:∀ i,i < n→X0 i=redL p (Z i)) (hR:ElRun P n n X0 n X r d) (hB:ElB P n n X r d) (hr:¬ r < n):DetIs n Z p ((d:Nat):Int) 0
def ZpM (w:World) (n:Nat) (Z:Nat→List Int) (p:Int) (e:Ending) (w':World):Prop:=∃ d c:Int,e=.returned (.tuple #[.int .i64 d, .int .i64 c])∧DetIs n Z p d c∧Ext w w'
theorem Zgo {c:Int} (h:((c:Int) != 0)=true):c≠0:=by simpa using h
theorem Zgp {c:Int} (h:((c:Int) != 0)=false):c=0:=by simpa using h
theorem Zmb (A0:Option Addr) (n c0:Nat) (R:Nat→Option Addr) (C:Nat→Nat) (Z:Nat→List Int) (p:Int) (W0:World) (ha:ArgI W0 A0 n R C Z) (hn1:n≤100000) :
 Calls Tryz.prog 11 #[.slice A0 n c0, .int .i64 p] W0 (ZpM W0 n Z p):=by
 refine Zbi (Φ:=fun w=>ArgI w A0 n R C Z) Tryz.func11 rfl (by kernel_rfl) (fun w' hf=>ha.ext hf) ?_
 refine Zac (Zab (xr 2 [eS1 0 A0 n c0,(1, .v (.int .i64 p)),(4, .v (.int .i64 0)),(5, .v (.int .i64 0))] [] ?_))
 refine xe (Zaa (Zac (Zac (Zab (xr 2 [eS1 0 A0 n c0,(1, .v (.int .i64 p)),(4, .v (.int .i64 0)),(5, .v (.int .i64 0)),eS1 9 A0 n c0,(10, .v (.int .i64 p))] [] ?_)))))
 refine xc 59 [.slice A0 n c0, .int .i64 p, .bool true] 11 (fun c:{c:Int // ChkIs n Z p true c}=>.int .i64 c.1) _ (fun w S Q=>(Zlo A0 n c0 R C Z p _ Q (by omega)).mono (fun _ _=>Zin)) (fun xx=>?_)
 obtain ⟨c,hc⟩:=xx
 refine xr 1 [eS1 0 A0 n c0,(1, .v (.int .i64 p)),(4, .v (.int .i64 0)),(5, .v (.int .i64 0)),(6, .v (.int .i64 c))] [] ?_
 refine xe (Zaa (Zac (Zab (xr 2 [eS1 0 A0 n c0,(1, .v (.int .i64 p)),(4, .v (.int .i64 0)),(5, .v (.int .i64 0)),(6, .v (.int .i64 c)),(13, .v (.bool ((c:Int) != 0)))] [] ?_))))
 refine xe (Zaa ?_)
 refine Zar (((c:Int) != 0)) (by kernel_rfl) (fun hb10=>?_) (fun hb10=>?_)
 ·have hc0:=Zgo hb10
  refine Zac (Zab (xr 3 [eS1 0 A0 n c0,(1, .v (.int .i64 p)),(4, .v (.int .i64 0)),(5, .v (.int .i64 c))] [] ?_))
  refine xe (Zaa (Zao (Zag ?_)))
  refine Zak (v:=.tuple #[.int .i64 0, .int .i64 c]) (by kernel_rfl) (fun w' S Q=>?_)
  exact ⟨_,_,rfl, .err c hc hc0,S⟩
 ·have hc0:=Zgp hb10
  refine Zam (Zaa (Zac ?_))
  obtain ⟨hpb,hn0,hz,hs,hev,hn64,hz64⟩:=hc.okk hc0
  obtain ⟨P,rfl,hP2,hP31,hPr⟩:=ZbW hpb
  obtain ⟨m,hmn⟩:∃ m,m=n:=⟨_,rfl⟩
  have hmm:∀ i,i < n→(Z i).length=m:=fun i hi=>by rw [hev i hi,hs rfl,hmn]
  refine Zab (xr 2 [eS1 0 A0 n c0,(1, .v (.int .i64 ((P:Nat):Int))),(4, .v (.int .i64 0)),(5, .v (.int .i64 0)),eS1 16 A0 n c0,(17, .v (.int .i64 ((P:Nat):Int)))] [] ?_)
  refine Zbk (d:=18) 61 [.slice A0 n c0, .int .i64 ((P:Nat):Int)] (fun x:RsX n ((P:Nat):Int) Z=>.slice (some ⟨x.b,0,none⟩) n n) (fun x w=>ResI .u64 88 93 (fun w=>ArgI w A0 n R C Z) W0 w x.b n (x.A) (x.C) (x.X)) (fun w hE' Q=>(Zd8 A0 n m c0 R C Z ((P:Nat):Int) w Q.1 (by omega) (by omega) hmm (by omega) (by omega)).mono (fun _ _ h=>Zeo (ZcI ha) Q.1 hE' h)) (fun x=>?_)
  obtain ⟨b,A,C1,X,hX⟩:=x
  refine xr 4 [eS1 0 A0 n c0,(4, .v (.int .i64 0)),(5, .v (.int .i64 0)),eS1 18 (some ⟨b,0,none⟩) n n,(20, .v (.int .i64 ((n:Nat):Int))),(22, .v (.int .u64 (IntKind.u64.wrap (((P:Nat):Int)))))] [] ?_
  rw [Zf0 hP31]
  refine Zbk (d:=23) 60 [.slice (some ⟨b,0,none⟩) n n, .int .i64 ((n:Nat):Int), .int .u64 ((P:Nat):Int)] (fun x:ElX P n (n) n (X)=>.tuple #[.int .i64 ((x.r:Nat):Int), .int .u64 ((x.d:Nat):Int)]) (fun x w=>ResI .u64 88 93 (fun w=>ArgI w A0 n R C Z) W0 w b n (x.A) (x.C) (x.X)) (fun w hE' Q=>(ZdD b n (n) n P (A) (C1) (X) w Q.mat (by omega) (by omega) (by omega) (by omega) (by omega) (Zep rfl hP2 hX (fun i hi=>(hmm i hi).trans hmn))).mono (fun _ _ h=>ZhA (ZcI ha) Q hE' h)) (fun x=>?_)
  obtain ⟨r,d,A',C',X',hR,hB⟩:=x
  refine xr 5 [eS1 0 A0 n c0,(4, .v (.int .i64 0)),(5, .v (.int .i64 0)),(7, .v (.int .i64 ((r:Nat):Int))),(8, .v (.int .u64 ((d:Nat):Int)))] [] ?_
  refine xe (Zaa (Zac (Zac (Zab (xr 4 [(4, .v (.int .i64 0)),(5, .v (.int .i64 0)),(8, .v (.int .u64 ((d:Nat):Int))),(29, .v (.bool (decide (((r:Nat):Int) < ((n:Nat):Int)))))] [] ?_)))))
  refine xe (Zaa ?_)
  refine Zar ((decide (((r:Nat):Int) < ((n:Nat):Int)))) (by kernel_rfl) (fun hb12=>?_) (fun hb12=>?_)
  ·have hr:r < n:=by have:=of_decide_eq_true hb12; omega
   refine Zac (Zab (xr 2 [(4, .v (.int .i64 0)),(5, .v (.int .i64 0)),(8, .v (.int .u64 ((d:Nat):Int)))] [] ?_))
   refine xe (Zaa (Zao (Zag ?_)))
   refine Zak (v:=.tuple #[.int .i64 0, .int .i64 0]) (by kernel_rfl) (fun w' S Q=>?_)
   exact ⟨_,_,rfl, .low P X X' r d (hc0 ▸ hc) rfl hX hR hr,S⟩
  ·have hr:¬ r < n:=by have:=of_decide_eq_false hb12; omega
   refine Zam (Zaa (Zac (Zab (xr 2 [(4, .v (.int .i64 0)),(5, .v (.int .i64 0)),(31, .v (.int .i64 (IntKind.i64.wrap (((d:Nat):Int)))))] [] ?_))))
   rw [Zlq (by have:=hB.dp; omega)]
   refine xr 2 [(4, .v (.int .i64 ((d:Nat):Int))),(5, .v (.int .i64 0))] [] ?_
   refine xe (Zaa (Zao ?_))
   refine Zak (v:=.tuple #[.int .i64 ((d:Nat):Int), .int .i64 0]) (by kernel_rfl) (fun w' S Q=>?_)
   exact ⟨_,_,rfl, .full P X X' r d (hc0 ▸ hc) rfl hX hR hB hr,S⟩
end Go.Proofs.YthlipnahcbcjkaaGreatDoor

namespace Go.Proofs.YthlipnahcbcjkaaGreatDoor
open Go.RowKit
theorem bOld {A0:Option Addr} {n:Nat} {R:Nat→Option Addr} {C:Nat→Nat} {Z:Nat→List Int} {B0:Option Addr} {bz:List Int} {w0:World} (h0:ArgI w0 A0 n R C Z) (h1:Zaq w0 B0 bz):OldG (fun w=>ArgI w A0 n R C Z∧Zaq w B0 bz) w0:=fun w w' S Q _ hF hS =>
 have h:=Q.next hF (fun g hg hs=>by have:=hS g hs; omega)
 ⟨h0.ext h,h1.ext h⟩
def AugD (n:Nat) (p:Int) (Z:Nat→List Int) (bz:List Int) (X:Nat→List Nat) (i:Nat):Prop:=∀ a,a < n→X a=if a < i then redL p (Z a) ++ [(bz.getD a 0 % p).toNat] else redL p (Z a)
theorem AugD.start {n:Nat} {p:Int} {Z:Nat→List Int} {bz:List Int} {X:Nat→List Nat} (h:∀ i,i < n→X i=redL p (Z i)):AugD n p Z bz X 0:=fun a ha=>by rw [if_neg (by omega)]; exact h a ha
theorem AugD.step {n i q:Nat} {p:Int} {Z:Nat→List Int} {bz:List Int} {X:Nat→List Nat} (h:AugD n p Z bz X i) (hi:i < n) (hq:bz.getD i 0 % p=(q:Int)):AugD n p Z bz (upF X i (X i ++ [q])) (i + 1):=fun a ha=>by
 by_cases e:a=i
 ·subst e; rw [Zas,if_pos (by omega),h a ha,if_neg (by omega),hq]; rfl
 ·rw [ZaP e,h a ha]
  by_cases e2:a < i
  ·rw [if_pos e2,if_pos (by omega)]
  ·rw [if_neg e2,if_neg (by omega)]
theorem AugD.len {n i m:Nat} {p:Int} {Z:Nat→List Int} {bz:List Int} {X:Nat→List Nat} (h:AugD n p Z bz X i) (hi:i < n) (hm:(Z i).length=m):(X i).length=m:=by rw [h i hi,if_neg (by omega),Zfg,hm]
theorem ZdS {n P:Nat} {p:Int} {Z:Nat→List Int} {bz:List Int} {X:Nat→List Nat} (hp:p=(P:Int)) (h0:2≤P) (h:AugD n p Z bz X n) (hm:∀ i,i < n→(Z i).length=n):ElB P n (n + 1) X 0 1 :=
 ⟨fun i hi=>by rw [h i hi,if_pos hi,List.length_append,Zfg,hm i hi]; rfl,fun i hi x hx=>by
  rw [h i hi,if_pos hi] at hx
  rcases List.mem_append.1 hx with h2 | h2
  ·exact Zma hp (by omega) x h2
  ·have:=List.mem_singleton.1 h2
   have h3:=Int.emod_nonneg (bz.getD i 0) (show p≠0 by omega)
   have h4:=Int.emod_lt_of_pos (bz.getD i 0) (show 0 < p by omega)
   omega,Nat.zero_le _,by omega⟩
def bk (p:Nat) (f xs:List Nat) (n t:Nat):Nat→Nat
 | 0=>f[n]?.getD 0
 | j + 1=>(bk p f xs n t j + (p - f[t + 1 + j]?.getD 0) * xs[t + 1 + j]?.getD 0) % p
def Zfh (p n:Nat) (X:Nat→List Nat) (xs:List Nat) (i:Nat):Prop:=∀ t,i≤t→t < n→xs[t]?.getD 0=bk p (X t) xs n t (n - (t + 1))
theorem ZnD {p n t s v:Nat} {f xs:List Nat} (hs:s≤t) (hsl:s < xs.length):∀ j,bk p f (xs.set s v) n t j=bk p f xs n t j
 | 0=>rfl
 | j + 1=>by unfold bk; rw [ZnD hs hsl j,Zg3 hsl,if_neg (by omega)]
theorem Zfh.step {p n t u:Nat} {X:Nat→List Nat} {xs:List Nat} (h:Zfh p n X xs (t + 1)) (ht:t < n) (hl:xs.length=n) (hu:u=bk p (X t) xs n t (n - (t + 1))):Zfh p n X (xs.set t u) t:=fun s h1 h2=>by
 rw [ZnD h1 (by omega),Zg3 (by omega)]
 by_cases e:s=t
 ·subst e; rw [if_pos rfl,hu]
 ·rw [if_neg e]; exact h s (by omega) h2
theorem ZoS {p n t:Nat} {f xs:List Nat} (hp:0 < p) (h:f[n]?.getD 0 < p):∀ j,bk p f xs n t j < p
 | 0=>h
 | _ + 1=>Nat.mod_lt _ hp
structure SolI (Γ:World→Prop) (w0 w:World) (b n:Nat) (A:Nat→Option Addr) (C:Nat→Nat) (X:Nat→List Nat) (bx:Nat) (xs:List Nat):Prop where
 mat:ResI .u64 88 93 Γ w0 w b n A C X
 xr:Own .i64 3 w bx xs
 nx:w0.heap.size≤bx
 dj:¬ MatB b n ⟨A,C,X⟩ bx
section
variable {P:Program} {o:Oper} {ρ:Operand→Value} {w w' w0:World} {t:TypeId} {x y l c:Operand} {kl kc:IntKind} {b n bx j v:Nat} {A:Nat→Option Addr} {C:Nat→Nat} {X:Nat→List Nat} {xs:List Nat} {Γ:World→Prop}
theorem ResI.ext0 {k:IntKind} {te tr:TypeId} (hΓ:OldG Γ w0) (h0:Ext w0 w) (h:ResI k te tr Γ w0 w b n A C X) (Q:Ext w w'):ResI k te tr Γ w0 w' b n A C X:=⟨hΓ.step h0 h.arg Q,h.mat.ext Q,h.new⟩
theorem MatO.lt {k:IntKind} {te tr:TypeId} {M:MR} (h:MatO k te tr w b n M) {g:Nat} (hg:MatB b n M g):g < w.heap.size:=by
 rcases hg with rfl | ⟨i,hi,hg⟩
 ·exact h.1.lt
 ·exact (h.2.row i hi).lt hg
theorem ZnE (hΓ:OldG Γ w0) (h:ResI .u64 88 93 Γ w0 w b n A C X) (hn:n≤100000) (Q:Ext w0 w) (ho:o.op=Op.makeSlice t l c:=by kernel_rfl) (ht:P.underlying t=some (.slice 3):=by kernel_rfl) (hinfo:(P.info? 3).map (fun i=>(i.zero,i.size,i.bytes))=some (some (.int .i64 0),1,8):=by kernel_rfl)
 (hl:ρ l=.int kl ((n:Nat):Int):=by kernel_rfl) (hc:ρ c=.int kc ((n:Nat):Int):=by kernel_rfl) :
 ∃ (bx:Nat) (w':World),(execOp ρ o).run P w=.ok (.value (.slice (some ⟨bx,0,none⟩) n n)) w'∧Ext w0 w'∧∀ w'',Ext w' w''→SolI Γ w0 w'' b n A C X bx (List.replicate n 0):=by
 have hrun:=run_make_row' (P:=P) t 3 (.int .i64 0) 8 ht hinfo rfl kl kc n (by omega) (by omega) w
 rw [Zeb] at hrun
 have hO:=Own.new w 3 .i64 (List.replicate n 0) []
 have hx:Ext w (w.alloc (.cells (ZaK .i64 (List.replicate n 0) []) 3)):=(Fr.refl _ w).alloc _
 exact ⟨_,_,by simp only [execOp,ho,hl,hc,Sem.run_bind,hrun,Result.andThen_ok,Sem.run_pure],Q.alloc _,fun w'' hw=>⟨h.ext0 hΓ Q (hx.ext hw),hO.fr hw (fun e=>e),Q.size,fun hg=>by have:=h.mat.lt hg; omega⟩⟩
theorem stX (hΓ:OldG Γ w0) (h:SolI Γ w0 w b n A C X bx xs) (Q:Ext w0 w) (hj:j < xs.length)
 (ho:o.op=Op.store t x y:=by kernel_rfl) (hx:ρ x=.pointer (some ⟨bx,j,none⟩):=by kernel_rfl) (hy:ρ y=.int .i64 ((v:Nat):Int):=by kernel_rfl) (hs:(teOf P t).map (fun e=>e.size)=some 1:=by kernel_rfl) :
 ∃ w',(execOp ρ o).run P w=.ok .skip w'∧Ext w0 w'∧∀ w'',Ext w' w''→SolI Γ w0 w'' b n A C X bx (xs.set j v):=by
 obtain ⟨w',hr,hO,hF⟩:=Zk9 (P:=P) (t:=t) hs h.xr hj v
 have h0:Ext w0 w':=Q.next hF (fun g hg hg2=>by have:=h.nx; omega)
 refine ⟨w',by simp only [execOp,ho,Sem.run_bind,hx,hy,hr,Result.andThen_ok,Sem.run_pure],h0,fun w'' hw=>⟨⟨hΓ.step h0 (hΓ w w' _ Q h.mat.arg hF (fun g hg=>by have:=h.nx; omega)) hw,(h.mat.mat.fr hF (fun g hg e=>h.dj (by rw [← e]; exact hg))).ext hw,h.mat.new⟩,hO.fr hw (fun e=>e),h.nx,h.dj⟩⟩
end
inductive SolIs (n nb:Nat) (Z:Nat→List Int) (bz:List Int) (p:Int) (bx:Nat) (xs:List Nat):Value→Int→Prop
 | lim (hc:ChkIs n Z p true 2) (hb:nb≠n):SolIs n nb Z bz p bx xs (.slice none 0 0) 4
 | err (c:Int) (hc:ChkIs n Z p true c) (h0:c≠0) (h2:c=2→nb=n):SolIs n nb Z bz p bx xs (.slice none 0 0) c
 | shape (hc:ChkIs n Z p true 0) (hb:nb≠n):SolIs n nb Z bz p bx xs (.slice none 0 0) 4
 | sing (P:Nat) (X0 X:Nat→List Nat) (r d:Nat) (hc:ChkIs n Z p true 0) (hb:nb=n) (hp:p=(P:Int)) (hX:AugD n p Z bz X0 n) (hR:ElRun P n (n + 1) X0 n X r d) (hr:r < n):SolIs n nb Z bz p bx xs (.slice none 0 0) 7
 | ok (P:Nat) (X0 X:Nat→List Nat) (r d:Nat) (hc:ChkIs n Z p true 0) (hb:nb=n) (hp:p=(P:Int)) (hX:AugD n p Z bz X0 n) (hR:ElRun P n (n + 1) X0 n X r d) (hB:ElB P n (n + 1) X r d) (hr:¬ r < n) (hl:xs.length=n) (hlt:∀ x ∈ xs,x < P) (hk:Zfh P n X xs 0):SolIs n nb Z bz p bx xs (.slice (some ⟨bx,0,none⟩) n n) 0
structure SolX (n nb:Nat) (Z:Nat→List Int) (bz:List Int) (p:Int) where
 bx:Nat
 xs:List Nat
 v:Value
 c:Int
 h:SolIs n nb Z bz p bx xs v c
def ZnF (w:World) (n nb:Nat) (Z:Nat→List Int) (bz:List Int) (p:Int) (e:Ending) (w':World):Prop:=∃ x:SolX n nb Z bz p,e=.returned (.tuple #[x.v, .int .i64 x.c])∧Ext w w'∧(x.c=0→Own .i64 3 w' x.bx x.xs∧w.heap.size≤x.bx)
theorem Zp5 {c:Int} (h:((c:Int) == 2)=true):c=2:=by simpa using h
theorem Zp6 {c:Int} (h:((c:Int) == 2)=false):c≠2:=by simpa using h
theorem Zi7 {k:Nat} (h:k≤100000):IntKind.i64.wrap (((k:Nat):Int) - 1)=((k:Nat):Int) - 1:=by rw [IntKind.wrap_i64]; omega
theorem ZnG {x p:Nat} (hx:x < p) (hp:p≤2147483647):IntKind.u64.wrap (((p:Nat):Int) - ((x:Nat):Int))=((p - x:Nat):Int):=by rw [IntKind.wrap_u64]; omega
theorem mulS {x y p:Nat} (hx:x≤p) (hy:y < p) (hp:p≤2147483647):IntKind.u64.wrap (((x:Nat):Int) * ((y:Nat):Int))=((x * y:Nat):Int):=by
 have h:=Nat.mul_le_mul hx (Nat.le_of_lt hy)
 have h2:=Nat.mul_le_mul hp hp
 rw [← Int.natCast_mul,IntKind.wrap_u64]; omega
theorem addS {z x y p:Nat} (hz:z < p) (hx:x≤p) (hy:y < p) (hp:p≤2147483647):IntKind.u64.wrap (((z:Nat):Int) + ((x * y:Nat):Int))=((z + x * y:Nat):Int):=by
 have h:=Nat.mul_le_mul hx (Nat.le_of_lt hy)
 have h2:=Nat.mul_le_mul hp hp
 rw [IntKind.wrap_u64]; omega
theorem Zmc {n p:Nat} (hp:0 < p):∀ x ∈ List.replicate n 0,x < p:=fun x hx=>by rw [List.eq_of_mem_replicate hx]; exact hp
theorem ZnH {xs:List Nat} {t u p:Nat} (h:∀ x ∈ xs,x < p) (hu:u < p):∀ x ∈ xs.set t u,x < p:=fun x hx=>(List.mem_or_eq_of_mem_set hx).elim (h x) (fun e=>e ▸ hu)
theorem Zka (A0:Option Addr) (n c0:Nat) (R:Nat→Option Addr) (C:Nat→Nat) (Z:Nat→List Int) (B0:Option Addr) (nb cb:Nat) (bz:List Int) (p:Int) (W0:World) (ha:ArgI W0 A0 n R C Z) (hb0:Zaq W0 B0 bz) (hbl:bz.length=nb) (hb64:ZeH bz) (hn1:n≤100000) :
 Calls Tryz.prog 12 #[.slice A0 n c0, .slice B0 nb cb, .int .i64 p] W0 (ZnF W0 n nb Z bz p):=by
 refine Zbi (Φ:=fun w=>(ArgI w A0 n R C Z∧Zaq w B0 bz)) Tryz.func12 rfl (by kernel_rfl) (fun w' hf=>⟨ha.ext hf,hb0.ext hf⟩) ?_
 refine Zac (Zab (xr 2 [eS1 0 A0 n c0,eS1 1 B0 nb cb,(2, .v (.int .i64 p)),eS1 6 none 0 0,(7, .v (.int .i64 0))] [] ?_))
 refine xe (Zaa (Zac (Zac (Zab (xr 2 [eS1 0 A0 n c0,eS1 1 B0 nb cb,(2, .v (.int .i64 p)),eS1 6 none 0 0,(7, .v (.int .i64 0)),eS1 19 A0 n c0,(20, .v (.int .i64 p))] [] ?_)))))
 refine xc 59 [.slice A0 n c0, .int .i64 p, .bool true] 21 (fun c:{c:Int // ChkIs n Z p true c}=>.int .i64 c.1) _ (fun w S Q=>(Zlo A0 n c0 R C Z p _ Q.1 (by omega)).mono (fun _ _=>Zin)) (fun xx=>?_)
 obtain ⟨c,hc⟩:=xx
 refine xr 1 [eS1 0 A0 n c0,eS1 1 B0 nb cb,(2, .v (.int .i64 p)),eS1 6 none 0 0,(7, .v (.int .i64 0)),(8, .v (.int .i64 c))] [] ?_
 refine xe (Zaa (Zap (Zac (Zab (xr 3 [eS1 0 A0 n c0,eS1 1 B0 nb cb,(2, .v (.int .i64 p)),eS1 6 none 0 0,(7, .v (.int .i64 0)),(8, .v (.int .i64 c)),(25, .v (.bool ((c:Int) == 2)))] [] ?_)))))
 rcases bl2 (((c:Int) == 2)) with hb10 | hb10
 ·rw [hb10]
  have hc2:=Zp5 hb10
  refine xr 7 [eS1 0 A0 n c0,eS1 1 B0 nb cb,(2, .v (.int .i64 p)),eS1 6 none 0 0,(7, .v (.int .i64 0)),(8, .v (.int .i64 c)),(22, .v (.bool ((((nb:Nat):Int):Int) != ((n:Nat):Int))))] [] ?_
  refine xe (Zaa ?_)
  refine Zar (((((nb:Nat):Int):Int) != ((n:Nat):Int))) (by kernel_rfl) (fun hb11=>?_) (fun hb11=>?_)
  ·have hnb:=ZcY hb11
   refine Zac (Zab (xr 2 [eS1 0 A0 n c0,eS1 1 B0 nb cb,(2, .v (.int .i64 p)),eS1 6 none 0 0,(7, .v (.int .i64 4))] [] ?_))
   refine xe (Zaa (Zao (ZaZ (Zag ?_))))
   refine Zak (v:=.tuple #[.slice none 0 0, .int .i64 4]) (by kernel_rfl) (fun w' S Q=>?_)
   exact ⟨⟨0,[],_,_, .lim (hc2 ▸ hc) hnb⟩,rfl,S,(fun e=>absurd (show (4:Int)=0 from e) (by decide))⟩
  ·have hnb:=ZcZ hb11
   refine Zac (Zab (xr 3 [eS1 0 A0 n c0,eS1 1 B0 nb cb,(2, .v (.int .i64 p)),eS1 6 none 0 0,(7, .v (.int .i64 0)),(8, .v (.int .i64 c)),(32, .v (.bool ((c:Int) != 0)))] [] ?_))
   refine xe (Zaa ?_)
   refine Zar (((c:Int) != 0)) (by kernel_rfl) (fun hb12=>?_) (fun hb12=>?_)
   ·have hc0:=Zgo hb12
    refine Zac (Zab (xr 3 [eS1 0 A0 n c0,eS1 1 B0 nb cb,(2, .v (.int .i64 p)),eS1 6 none 0 0,(7, .v (.int .i64 c))] [] ?_))
    refine xe (Zaa (Zao (ZaZ (Zag ?_))))
    refine Zak (v:=.tuple #[.slice none 0 0, .int .i64 c]) (by kernel_rfl) (fun w' S Q=>?_)
    exact ⟨⟨0,[],_,_, .err c hc hc0 (fun _=>hnb)⟩,rfl,S,(fun e=>absurd e hc0)⟩
   ·have hc0:=Zgp hb12
    refine Zac (Zab (xr 5 [eS1 0 A0 n c0,eS1 1 B0 nb cb,(2, .v (.int .i64 p)),eS1 6 none 0 0,(7, .v (.int .i64 0)),(41, .v (.bool ((((nb:Nat):Int):Int) != ((n:Nat):Int))))] [] ?_))
    rw [hb11]
    refine xr 1 [eS1 0 A0 n c0,eS1 1 B0 nb cb,(2, .v (.int .i64 p)),eS1 6 none 0 0,(7, .v (.int .i64 0)),(36, .v (.bool false))] [] ?_
    refine xe (Zaa (xb (Zam (ZaN (Zaa (Zac ?_))))))
    obtain ⟨hpb,hn0,hz,hs,hev,hn64,hz64⟩:=hc.okk hc0
    obtain ⟨P,rfl,hP2,hP31,hPr⟩:=ZbW hpb
    obtain ⟨m,hmn⟩:∃ m,m=n:=⟨_,rfl⟩
    have hmm:∀ i,i < n→(Z i).length=m:=fun i hi=>by rw [hev i hi,hs rfl,hmn]
    refine Zab (xr 4 [eS1 0 A0 n c0,eS1 1 B0 nb cb,(2, .v (.int .i64 ((P:Nat):Int))),eS1 6 none 0 0,(7, .v (.int .i64 0)),(43, .v (.int .i64 ((n:Nat):Int))),(45, .v (.int .u64 (IntKind.u64.wrap (((P:Nat):Int)))))] [] ?_)
    rw [Zf0 hP31]
    refine xr 2 [eS1 0 A0 n c0,eS1 1 B0 nb cb,(2, .v (.int .i64 ((P:Nat):Int))),eS1 6 none 0 0,(7, .v (.int .i64 0)),(9, .v (.int .i64 ((n:Nat):Int))),(10, .v (.int .u64 ((P:Nat):Int)))] [] ?_
    refine xe (Zaa (Zac (Zab (xr 2 [eS1 1 B0 nb cb,(2, .v (.int .i64 ((P:Nat):Int))),eS1 6 none 0 0,(7, .v (.int .i64 0)),(9, .v (.int .i64 ((n:Nat):Int))),(10, .v (.int .u64 ((P:Nat):Int))),eS1 46 A0 n c0,(47, .v (.int .i64 ((P:Nat):Int)))] [] ?_))))
    refine Zbk (d:=48) 61 [.slice A0 n c0, .int .i64 ((P:Nat):Int)] (fun x:RsX n ((P:Nat):Int) Z=>.slice (some ⟨x.b,0,none⟩) n n) (fun x w=>ResI .u64 88 93 (fun w=>ArgI w A0 n R C Z∧Zaq w B0 bz) W0 w x.b n (x.A) (x.C) (x.X)) (fun w hE' Q=>(Zd8 A0 n m c0 R C Z ((P:Nat):Int) w Q.1.1 (by omega) (by omega) hmm (by omega) (by omega)).mono (fun _ _ h=>Zeo (bOld ha hb0) Q.1 hE' h)) (fun x=>?_)
    obtain ⟨b,A,C1,X,hX⟩:=x
    refine xr 1 [eS1 1 B0 nb cb,(2, .v (.int .i64 ((P:Nat):Int))),eS1 6 none 0 0,(7, .v (.int .i64 0)),(9, .v (.int .i64 ((n:Nat):Int))),(10, .v (.int .u64 ((P:Nat):Int))),eS1 11 (some ⟨b,0,none⟩) n n] [] ?_
    refine xe (Zaa (Zac (Zac (Zab (xr 3 [eS1 1 B0 nb cb,(2, .v (.int .i64 ((P:Nat):Int))),eS1 6 none 0 0,(7, .v (.int .i64 0)),(9, .v (.int .i64 ((n:Nat):Int))),(10, .v (.int .u64 ((P:Nat):Int))),eS1 11 (some ⟨b,0,none⟩) n n,(50, .v (.int .i64 ((n:Nat):Int))),(51, .v (.int .i64 0))] [] ?_)))))
    refine xe (Zaa (Zap ?_))
    refine SXc.weak [(1, .v (.slice B0 nb cb)),(2, .v (.int .i64 ((P:Nat):Int))),(6, .v (.slice none 0 0)),(7, .v (.int .i64 0)),(9, .v (.int .i64 ((n:Nat):Int))),(10, .v (.int .u64 ((P:Nat):Int))),(11, .v (.slice (some ⟨b,0,none⟩) n n)),(50, .v (.int .i64 ((n:Nat):Int))),(51, .v (.int .i64 ((0:Nat):Int)))] [] (Ψ:=fun w=>ResI .u64 88 93 (fun w=>ArgI w A0 n R C Z∧Zaq w B0 bz) W0 w b n (A) (C1) (X)) (Zaw.of (by kernel_rfl)) (by kernel_rfl) (fun w Q=>Q) ?_
    refine ZaU (fun nn ss ff=>∃ (A:Nat→Option Addr) (C1:Nat→Nat) (X:Nat→List Nat) (i:Nat),ss=ofL [(1, .v (.slice B0 nb cb)),(2, .v (.int .i64 ((P:Nat):Int))),(6, .v (.slice none 0 0)),(7, .v (.int .i64 0)),(9, .v (.int .i64 ((n:Nat):Int))),(10, .v (.int .u64 ((P:Nat):Int))),(11, .v (.slice (some ⟨b,0,none⟩) n n)),(50, .v (.int .i64 ((n:Nat):Int))),(51, .v (.int .i64 ((i:Nat):Int)))] []∧ff=(fun w=>ResI .u64 88 93 (fun w=>ArgI w A0 n R C Z∧Zaq w B0 bz) W0 w b n (A) (C1) (X))∧(i≤n)∧(AugD n ((P:Nat):Int) Z bz X i)∧nn=(n - i)) ((n - 0)) ⟨A,C1,X,0,rfl,rfl,Nat.zero_le _,(AugD.start hX),rfl⟩ ?_
    rintro nn ss ff ⟨A,C1,X,i,rfl,rfl,hi,hD,rfl⟩
    refine Zac (Zab (xr 1 [eS1 1 B0 nb cb,(2, .v (.int .i64 ((P:Nat):Int))),eS1 6 none 0 0,(7, .v (.int .i64 0)),(9, .v (.int .i64 ((n:Nat):Int))),(10, .v (.int .u64 ((P:Nat):Int))),eS1 11 (some ⟨b,0,none⟩) n n,(50, .v (.int .i64 ((n:Nat):Int))),(51, .v (.int .i64 ((i:Nat):Int))),(52, .v (.bool (decide (((i:Nat):Int) < ((n:Nat):Int)))))] [] ?_))
    refine xe (Zaa (Zac ?_))
    refine Zar ((decide (((i:Nat):Int) < ((n:Nat):Int)))) (by kernel_rfl) (fun hb14=>?_) (fun hb14=>?_)
    ·have hin:i < n:=by have:=of_decide_eq_true hb14; omega
     refine Zam (Zaa (Zac (Zap (Zac (Zab (xr 2 [eS1 1 B0 nb cb,(2, .v (.int .i64 ((P:Nat):Int))),eS1 6 none 0 0,(7, .v (.int .i64 0)),(9, .v (.int .i64 ((n:Nat):Int))),(10, .v (.int .u64 ((P:Nat):Int))),eS1 11 (some ⟨b,0,none⟩) n n,(12, .v (.int .i64 ((i:Nat):Int))),(50, .v (.int .i64 ((n:Nat):Int))),(51, .v (.int .i64 ((i:Nat):Int)))] [] ?_))))))
     refine xe (Zaa ?_)
     obtain ⟨z,hz'⟩:∃ z,bz.getD i 0=z:=⟨_,rfl⟩
     have hz64' : -9223372036854775808≤z∧z≤9223372036854775807:=by rw [← hz']; exact hb64.at i
     obtain ⟨q,hq⟩:∃ q:Nat,z % ((P:Nat):Int)=(q:Int):=Int.eq_ofNat_of_zero_le (Int.emod_nonneg z (by omega))
     refine Zfc 13 11 54 12 55 11 56 12 57 (.slice (some ⟨b,0,none⟩) n n) (.int .i64 ((i:Nat):Int)) (.slice (some ⟨b,0,none⟩) n n) (.int .i64 ((i:Nat):Int)) ?_
     refine xf 0 [eS1 1 B0 nb cb,(2, .v (.int .i64 ((P:Nat):Int))),eS1 6 none 0 0,(7, .v (.int .i64 0)),(9, .v (.int .i64 ((n:Nat):Int))),(10, .v (.int .u64 ((P:Nat):Int))),eS1 11 (some ⟨b,0,none⟩) n n,(12, .v (.int .i64 ((i:Nat):Int))),(50, .v (.int .i64 ((n:Nat):Int))),(51, .v (.int .i64 ((i:Nat):Int))),eS1 54 (some ⟨b,0,none⟩) n n,(55, .v (.int .i64 ((i:Nat):Int))),eS1 56 (some ⟨b,0,none⟩) n n,(57, .v (.int .i64 ((i:Nat):Int)))] [] ?_
     refine xj 58 (.pointer (some ⟨b,i,none⟩)) (fun w Q=>Zax (g:=b) (len:=n) (cap:=n) (i:=i) (t:=91) (e:=93) (x:=.tmp 56) (ix:=.tmp 57) hin) ?_
     refine xj 59 (.slice (A i) m (C1 i)) (fun w Q=>ZaQ (t:=93) (x:=.tmp 58) Q.mat hin (hD.len hin (hmm i hin))) ?_
     refine xf 2 [eS1 1 B0 nb cb,(2, .v (.int .i64 ((P:Nat):Int))),eS1 6 none 0 0,(7, .v (.int .i64 0)),(9, .v (.int .i64 ((n:Nat):Int))),(10, .v (.int .u64 ((P:Nat):Int))),eS1 11 (some ⟨b,0,none⟩) n n,(50, .v (.int .i64 ((n:Nat):Int))),(51, .v (.int .i64 ((i:Nat):Int))),eS1 54 (some ⟨b,0,none⟩) n n,(55, .v (.int .i64 ((i:Nat):Int))),eS1 59 (A i) m (C1 i),eS1 60 B0 nb cb,(61, .v (.int .i64 ((i:Nat):Int)))] [] ?_
     refine xj 62 (atA B0 i) (fun w Q=>Zem (t:=23) (e:=3) (x:=.tmp 60) (ix:=.tmp 61) (cap:=cb) Q.arg.2 hbl (by omega)) ?_
     refine xj 63 (.int .i64 z) (fun w Q=>Zen (t:=3) (x:=.tmp 62) (j:=i) Q.arg.2 (by omega) hz') ?_
     refine xf 1 [eS1 1 B0 nb cb,(2, .v (.int .i64 ((P:Nat):Int))),eS1 6 none 0 0,(7, .v (.int .i64 0)),(9, .v (.int .i64 ((n:Nat):Int))),(10, .v (.int .u64 ((P:Nat):Int))),eS1 11 (some ⟨b,0,none⟩) n n,(50, .v (.int .i64 ((n:Nat):Int))),(51, .v (.int .i64 ((i:Nat):Int))),eS1 54 (some ⟨b,0,none⟩) n n,(55, .v (.int .i64 ((i:Nat):Int))),eS1 59 (A i) m (C1 i),(63, .v (.int .i64 z)),(64, .v (.int .i64 ((P:Nat):Int)))] [] ?_
     refine xd 62 [.int .i64 z, .int .i64 ((P:Nat):Int)] 65 (fun _:Unit=>.int .u64 ((q:Nat):Int)) _ (fun w S Q=>(ZfE z ((P:Nat):Int) q _ hz64' (by omega) (by omega) hq).mono (fun _ _ h=>Zau h rfl)) (fun xx=>?_)
     refine xf 0 [eS1 1 B0 nb cb,(2, .v (.int .i64 ((P:Nat):Int))),eS1 6 none 0 0,(7, .v (.int .i64 0)),(9, .v (.int .i64 ((n:Nat):Int))),(10, .v (.int .u64 ((P:Nat):Int))),eS1 11 (some ⟨b,0,none⟩) n n,(50, .v (.int .i64 ((n:Nat):Int))),(51, .v (.int .i64 ((i:Nat):Int))),eS1 54 (some ⟨b,0,none⟩) n n,(55, .v (.int .i64 ((i:Nat):Int))),eS1 59 (A i) m (C1 i),(65, .v (.int .u64 ((q:Nat):Int)))] [] ?_
     refine ZfY 66 (fun zb:Nat=>.slice (some ⟨zb,0,none⟩) 1 1) (fun zb zw=>Blk 88 zw zb #[.int .u64 ((q:Nat):Int)]) (by kernel_rfl) (by kernel_rfl) (by kernel_rfl) (by kernel_rfl) (by kernel_rfl) (by kernel_rfl) (by kernel_rfl) (fun w S Q=>Zce (t:=93) (e:=88) (n:=1) (sz:=1) (z:=.int .u64 0) (parts:=#[(0,Operand.tmp 65)]) (by kernel_rfl) (by kernel_rfl) (by kernel_rfl) (by kernel_rfl) (by kernel_rfl) (by kernel_rfl)) (fun b15=>?_)
     refine xf 0 [eS1 1 B0 nb cb,(2, .v (.int .i64 ((P:Nat):Int))),eS1 6 none 0 0,(7, .v (.int .i64 0)),(9, .v (.int .i64 ((n:Nat):Int))),(10, .v (.int .u64 ((P:Nat):Int))),eS1 11 (some ⟨b,0,none⟩) n n,(50, .v (.int .i64 ((n:Nat):Int))),(51, .v (.int .i64 ((i:Nat):Int))),eS1 54 (some ⟨b,0,none⟩) n n,(55, .v (.int .i64 ((i:Nat):Int))),eS1 59 (A i) m (C1 i),eS1 66 (some ⟨b15,0,none⟩) 1 1] [] ?_
     refine xz ?_
     refine ZcG (d:=67) (fun z:Option Addr × Nat=>.slice z.1 (m + 1) z.2) (fun z w=>LooseI .u64 88 93 (fun w=>ArgI w A0 n R C Z∧Zaq w B0 bz) W0 w b n i A C1 X (z.1) (z.2) (X i ++ [q])) (fun w hE' Q=>Zff (t:=93) (x:=.tmp 59) (y:=.tmp 66) (g:=b15) (x':=q) (bw:=8) (bOld ha hb0) Q.1.1 hE' hin (hD.len hin (hmm i hin)) (by omega) (by decide) (ZeT Q.2)) (fun z=>?_)
     obtain ⟨A3,c3⟩:=z
     refine xk 68 (.pointer (some ⟨b,i,none⟩)) (fun w hE' Q=>Zax (g:=b) (len:=n) (cap:=n) (i:=i) (t:=91) (e:=93) (x:=.tmp 54) (ix:=.tmp 55) hin) ?_
     refine Zb8 (fun w=>ResI .u64 88 93 (fun w=>ArgI w A0 n R C Z∧Zaq w B0 bz) W0 w b n (upF A i A3) (upF C1 i c3) (upF X i (X i ++ [q]))) (fun w hE' Q=>ZeS (t:=93) (x:=.tmp 68) (y:=.tmp 67) (bOld ha hb0) Q hE' hin (by rw [List.length_append,hD.len hin (hmm i hin),List.length_singleton])) ?_
     refine xr 0 [eS1 1 B0 nb cb,(2, .v (.int .i64 ((P:Nat):Int))),eS1 6 none 0 0,(7, .v (.int .i64 0)),(9, .v (.int .i64 ((n:Nat):Int))),(10, .v (.int .u64 ((P:Nat):Int))),eS1 11 (some ⟨b,0,none⟩) n n,(50, .v (.int .i64 ((n:Nat):Int))),(51, .v (.int .i64 ((i:Nat):Int)))] [] ?_
     refine xe (ZaN (Zaa (Zab (xr 1 [eS1 1 B0 nb cb,(2, .v (.int .i64 ((P:Nat):Int))),eS1 6 none 0 0,(7, .v (.int .i64 0)),(9, .v (.int .i64 ((n:Nat):Int))),(10, .v (.int .u64 ((P:Nat):Int))),eS1 11 (some ⟨b,0,none⟩) n n,(50, .v (.int .i64 ((n:Nat):Int))),(51, .v (.int .i64 ((i:Nat):Int))),(69, .v (.int .i64 (IntKind.i64.wrap (((i:Nat):Int) + 1))))] [] ?_))))
     rw [ZaI (k:=i) (by omega)]
     refine xr 1 [eS1 1 B0 nb cb,(2, .v (.int .i64 ((P:Nat):Int))),eS1 6 none 0 0,(7, .v (.int .i64 0)),(9, .v (.int .i64 ((n:Nat):Int))),(10, .v (.int .u64 ((P:Nat):Int))),eS1 11 (some ⟨b,0,none⟩) n n,(50, .v (.int .i64 ((n:Nat):Int))),(51, .v (.int .i64 ((i + 1:Nat):Int)))] [] ?_
     refine xe ?_
     refine SXq.weak [(1, .v (.slice B0 nb cb)),(2, .v (.int .i64 ((P:Nat):Int))),(6, .v (.slice none 0 0)),(7, .v (.int .i64 0)),(9, .v (.int .i64 ((n:Nat):Int))),(10, .v (.int .u64 ((P:Nat):Int))),(11, .v (.slice (some ⟨b,0,none⟩) n n)),(50, .v (.int .i64 ((n:Nat):Int))),(51, .v (.int .i64 (((i + 1):Nat):Int)))] [] (Ψ:=fun w=>ResI .u64 88 93 (fun w=>ArgI w A0 n R C Z∧Zaq w B0 bz) W0 w b n ((upF A i A3)) ((upF C1 i c3)) ((upF X i (X i ++ [q])))) (Zaw.of (by kernel_rfl)) (by kernel_rfl) (fun w Q=>Q) ?_
     exact ZaB ((n - (i + 1))) (by omega) ⟨(upF A i A3),(upF C1 i c3),(upF X i (X i ++ [q])),(i + 1),rfl,rfl,(by omega),(hD.step hin (by rw [hz']; exact hq)),rfl⟩
    ·have hin:n≤i:=by have:=of_decide_eq_false hb14; omega
     refine ZaC (Zae (Zae (ZaO (Zaa (Zac (Zac ?_))))))
     have hD':AugD n ((P:Nat):Int) Z bz X n:=by obtain rfl:i=n:=(by omega); exact hD
     refine Zab (xr 3 [eS1 6 none 0 0,(7, .v (.int .i64 0)),(9, .v (.int .i64 ((n:Nat):Int))),(10, .v (.int .u64 ((P:Nat):Int))),eS1 11 (some ⟨b,0,none⟩) n n,eS1 71 (some ⟨b,0,none⟩) n n,(72, .v (.int .i64 ((n:Nat):Int))),(73, .v (.int .u64 ((P:Nat):Int)))] [] ?_)
     refine Zbk (d:=74) 60 [.slice (some ⟨b,0,none⟩) n n, .int .i64 ((n:Nat):Int), .int .u64 ((P:Nat):Int)] (fun x:ElX P n ((n + 1)) n (X)=>.tuple #[.int .i64 ((x.r:Nat):Int), .int .u64 ((x.d:Nat):Int)]) (fun x w=>ResI .u64 88 93 (fun w=>ArgI w A0 n R C Z∧Zaq w B0 bz) W0 w b n (x.A) (x.C) (x.X)) (fun w hE' Q=>(ZdD b n ((n + 1)) n P (A) (C1) (X) w Q.mat (by omega) (by omega) (by omega) (by omega) (by omega) (ZdS rfl hP2 hD' (fun i hi=>(hmm i hi).trans hmn))).mono (fun _ _ h=>ZhA (bOld ha hb0) Q hE' h)) (fun x=>?_)
     obtain ⟨r,d,A',C',X',hR,hB⟩:=x
     refine xr 5 [eS1 6 none 0 0,(7, .v (.int .i64 0)),(9, .v (.int .i64 ((n:Nat):Int))),(10, .v (.int .u64 ((P:Nat):Int))),eS1 11 (some ⟨b,0,none⟩) n n,(13, .v (.int .i64 ((r:Nat):Int)))] [] ?_
     refine xe (Zaa (Zac (Zab (xr 3 [eS1 6 none 0 0,(7, .v (.int .i64 0)),(9, .v (.int .i64 ((n:Nat):Int))),(10, .v (.int .u64 ((P:Nat):Int))),eS1 11 (some ⟨b,0,none⟩) n n,(79, .v (.bool (decide (((r:Nat):Int) < ((n:Nat):Int)))))] [] ?_))))
     refine xe (Zaa ?_)
     refine Zar ((decide (((r:Nat):Int) < ((n:Nat):Int)))) (by kernel_rfl) (fun hb16=>?_) (fun hb16=>?_)
     ·have hr:r < n:=by have:=of_decide_eq_true hb16; omega
      refine Zac (Zab (xr 2 [eS1 6 none 0 0,(7, .v (.int .i64 7)),(9, .v (.int .i64 ((n:Nat):Int))),(10, .v (.int .u64 ((P:Nat):Int))),eS1 11 (some ⟨b,0,none⟩) n n] [] ?_))
      refine xe (Zaa (Zao (Zag ?_)))
      refine Zak (v:=.tuple #[.slice none 0 0, .int .i64 7]) (by kernel_rfl) (fun w' S Q=>?_)
      exact ⟨⟨0,[],_,_, .sing P X X' r d (hc0 ▸ hc) hnb rfl hD' hR hr⟩,rfl,S,(fun e=>absurd (show (7:Int)=0 from e) (by decide))⟩
     ·have hr:¬ r < n:=by have:=of_decide_eq_false hb16; omega
      refine Zam (Zaa (Zac (Zab (xr 1 [eS1 6 none 0 0,(7, .v (.int .i64 0)),(9, .v (.int .i64 ((n:Nat):Int))),(10, .v (.int .u64 ((P:Nat):Int))),eS1 11 (some ⟨b,0,none⟩) n n,(80, .v (.int .i64 ((n:Nat):Int)))] [] ?_))))
      refine ZcG (d:=81) (fun bx:Nat=>.slice (some ⟨bx,0,none⟩) n n) (fun bx w=>SolI (fun w=>ArgI w A0 n R C Z∧Zaq w B0 bz) W0 w b n A' C' X' bx (List.replicate n 0)) (fun w hE' Q=>ZnE (t:=23) (l:=.tmp 80) (c:=.tmp 80) (kl:=.i64) (kc:=.i64) (bOld ha hb0) Q (by omega) hE') (fun bx=>?_)
      refine xr 1 [eS1 6 none 0 0,(7, .v (.int .i64 0)),(9, .v (.int .i64 ((n:Nat):Int))),(10, .v (.int .u64 ((P:Nat):Int))),eS1 11 (some ⟨b,0,none⟩) n n,eS1 15 (some ⟨bx,0,none⟩) n n] [] ?_
      refine xe (Zaa (Zac (Zac (Zab (xr 2 [eS1 6 none 0 0,(7, .v (.int .i64 0)),(9, .v (.int .i64 ((n:Nat):Int))),(10, .v (.int .u64 ((P:Nat):Int))),eS1 11 (some ⟨b,0,none⟩) n n,eS1 15 (some ⟨bx,0,none⟩) n n,(83, .v (.int .i64 (IntKind.i64.wrap (((n:Nat):Int) - 1))))] [] ?_)))))
      rw [Zi7 (k:=n) (by omega)]
      refine xr 1 [eS1 6 none 0 0,(7, .v (.int .i64 0)),(9, .v (.int .i64 ((n:Nat):Int))),(10, .v (.int .u64 ((P:Nat):Int))),eS1 11 (some ⟨b,0,none⟩) n n,eS1 15 (some ⟨bx,0,none⟩) n n,(16, .v (.int .i64 (((n:Nat):Int) - 1)))] [] ?_
      refine xe (Zaa (Zap ?_))
      refine SXc.weak [(6, .v (.slice none 0 0)),(7, .v (.int .i64 0)),(9, .v (.int .i64 ((n:Nat):Int))),(10, .v (.int .u64 ((P:Nat):Int))),(11, .v (.slice (some ⟨b,0,none⟩) n n)),(15, .v (.slice (some ⟨bx,0,none⟩) n n)),(16, .v (.int .i64 (((n:Nat):Int) - 1)))] [] (Ψ:=fun w=>SolI (fun w=>ArgI w A0 n R C Z∧Zaq w B0 bz) W0 w b n A' C' X' bx ((List.replicate n 0))) (Zaw.of (by kernel_rfl)) (by kernel_rfl) (fun w Q=>Q) ?_
      refine ZaU (fun nn ss ff=>∃ (xs:List Nat) (i:Nat),ss=ofL [(6, .v (.slice none 0 0)),(7, .v (.int .i64 0)),(9, .v (.int .i64 ((n:Nat):Int))),(10, .v (.int .u64 ((P:Nat):Int))),(11, .v (.slice (some ⟨b,0,none⟩) n n)),(15, .v (.slice (some ⟨bx,0,none⟩) n n)),(16, .v (.int .i64 (((i:Nat):Int) - 1)))] []∧ff=(fun w=>SolI (fun w=>ArgI w A0 n R C Z∧Zaq w B0 bz) W0 w b n A' C' X' bx (xs))∧(i≤n)∧(xs.length=n)∧(∀ x ∈ xs,x < P)∧(Zfh P n X' xs i)∧nn=(1 + i)) ((1 + n)) ⟨(List.replicate n 0),n,rfl,rfl,Nat.le_refl _,List.length_replicate,(Zmc (by omega)),(fun t h1 h2=>absurd h2 (by omega)),rfl⟩ ?_
      rintro nn ss ff ⟨xs,i,rfl,rfl,hi,hxl,hlt,hbk,rfl⟩
      refine Zac (Zac (Zab (xr 2 [eS1 6 none 0 0,(7, .v (.int .i64 0)),(9, .v (.int .i64 ((n:Nat):Int))),(10, .v (.int .u64 ((P:Nat):Int))),eS1 11 (some ⟨b,0,none⟩) n n,eS1 15 (some ⟨bx,0,none⟩) n n,(16, .v (.int .i64 (((i:Nat):Int) - 1))),(85, .v (.bool (decide ((((i:Nat):Int) - 1) ≥ 0))))] [] ?_)))
      refine xe (Zaa ?_)
      refine Zar ((decide ((((i:Nat):Int) - 1) ≥ 0))) (by kernel_rfl) (fun hb17=>?_) (fun hb17=>?_)
      ·obtain ⟨t,rfl⟩:∃ t,i=t + 1:=⟨i - 1,by have:=of_decide_eq_true hb17; omega⟩
       refine Zam (Zaa (Zac (Zap (Zac ?_))))
       rw [show (((t + 1:Nat):Int) - 1)=((t:Nat):Int) from by omega]
       have htn:t < n:=by omega
       refine Zab (xr 2 [eS1 6 none 0 0,(7, .v (.int .i64 0)),(9, .v (.int .i64 ((n:Nat):Int))),(10, .v (.int .u64 ((P:Nat):Int))),eS1 11 (some ⟨b,0,none⟩) n n,eS1 15 (some ⟨bx,0,none⟩) n n,(16, .v (.int .i64 ((t:Nat):Int))),eS1 88 (some ⟨b,0,none⟩) n n,(89, .v (.int .i64 ((t:Nat):Int)))] [] ?_)
       refine xk 90 (.pointer (some ⟨b,t,none⟩)) (fun w hE' Q=>Zax (g:=b) (len:=n) (cap:=n) (i:=t) (t:=91) (e:=93) (x:=.tmp 88) (ix:=.tmp 89) htn) ?_
       refine xk 91 (.slice (A' t) (n + 1) (C' t)) (fun w hE' Q=>ZaQ (t:=93) (x:=.tmp 90) Q.mat.mat htn (hB.len t htn)) ?_
       refine xr 1 [eS1 6 none 0 0,(7, .v (.int .i64 0)),(9, .v (.int .i64 ((n:Nat):Int))),(10, .v (.int .u64 ((P:Nat):Int))),eS1 11 (some ⟨b,0,none⟩) n n,eS1 15 (some ⟨bx,0,none⟩) n n,(16, .v (.int .i64 ((t:Nat):Int))),eS1 91 (A' t) (n + 1) (C' t),(92, .v (.int .i64 ((n:Nat):Int)))] [] ?_
       refine xk 93 (atA (A' t) n) (fun w hE' Q=>Za4 (t:=93) (e:=88) (x:=.tmp 91) (ix:=.tmp 92) (cap:=C' t) Q.mat.mat htn (hB.len t htn) (by omega)) ?_
       obtain ⟨u,hu⟩:∃ u,u=bk P (X' t) xs n t 0:=⟨_,rfl⟩
       refine xk 94 (.int .u64 ((u:Nat):Int)) (fun w hE' Q=>Zbo (t:=88) (x:=.tmp 93) (j:=n) Q.mat.mat htn (hB.len t htn) (by omega) hu.symm) ?_
       refine xr 1 [eS1 6 none 0 0,(7, .v (.int .i64 0)),(9, .v (.int .i64 ((n:Nat):Int))),(10, .v (.int .u64 ((P:Nat):Int))),eS1 11 (some ⟨b,0,none⟩) n n,eS1 15 (some ⟨bx,0,none⟩) n n,(16, .v (.int .i64 ((t:Nat):Int))),(17, .v (.int .u64 ((u:Nat):Int)))] [] ?_
       refine xe (Zaa (Zac (Zac (Zab (xr 2 [eS1 6 none 0 0,(7, .v (.int .i64 0)),(9, .v (.int .i64 ((n:Nat):Int))),(10, .v (.int .u64 ((P:Nat):Int))),eS1 11 (some ⟨b,0,none⟩) n n,eS1 15 (some ⟨bx,0,none⟩) n n,(16, .v (.int .i64 ((t:Nat):Int))),(17, .v (.int .u64 ((u:Nat):Int))),(96, .v (.int .i64 (IntKind.i64.wrap (((t:Nat):Int) + 1))))] [] ?_)))))
       rw [ZaI (k:=t) (by omega)]
       refine xr 1 [eS1 6 none 0 0,(7, .v (.int .i64 0)),(9, .v (.int .i64 ((n:Nat):Int))),(10, .v (.int .u64 ((P:Nat):Int))),eS1 11 (some ⟨b,0,none⟩) n n,eS1 15 (some ⟨bx,0,none⟩) n n,(16, .v (.int .i64 ((t:Nat):Int))),(17, .v (.int .u64 ((u:Nat):Int))),(18, .v (.int .i64 ((t + 1:Nat):Int)))] [] ?_
       refine xe (Zaa (Zap ?_))
       refine SXc.weak [(6, .v (.slice none 0 0)),(7, .v (.int .i64 0)),(9, .v (.int .i64 ((n:Nat):Int))),(10, .v (.int .u64 ((P:Nat):Int))),(11, .v (.slice (some ⟨b,0,none⟩) n n)),(15, .v (.slice (some ⟨bx,0,none⟩) n n)),(16, .v (.int .i64 ((t:Nat):Int))),(17, .v (.int .u64 ((u:Nat):Int))),(18, .v (.int .i64 ((t + 1 + 0:Nat):Int)))] [] (Ψ:=fun w=>SolI (fun w=>ArgI w A0 n R C Z∧Zaq w B0 bz) W0 w b n A' C' X' bx (xs)) (Zaw.of (by kernel_rfl)) (by kernel_rfl) (fun w Q=>Q) ?_
       refine ZaU (fun nn ss ff=>∃ (u j:Nat),ss=ofL [(6, .v (.slice none 0 0)),(7, .v (.int .i64 0)),(9, .v (.int .i64 ((n:Nat):Int))),(10, .v (.int .u64 ((P:Nat):Int))),(11, .v (.slice (some ⟨b,0,none⟩) n n)),(15, .v (.slice (some ⟨bx,0,none⟩) n n)),(16, .v (.int .i64 ((t:Nat):Int))),(17, .v (.int .u64 ((u:Nat):Int))),(18, .v (.int .i64 ((t + 1 + j:Nat):Int)))] []∧ff=(fun w=>SolI (fun w=>ArgI w A0 n R C Z∧Zaq w B0 bz) W0 w b n A' C' X' bx (xs))∧(u=bk P (X' t) xs n t j)∧(u < P)∧(t + 1 + j≤n)∧nn=(n - (t + 1 + j))) ((n - (t + 1 + 0))) ⟨u,0,rfl,rfl,hu,(by rw [hu]; exact ZoS (by omega) (hB.get htn (by omega)) 0),(by omega),rfl⟩ ?_
       rintro nn ss ff ⟨u,j,rfl,rfl,hu,huP,hj,rfl⟩
       refine Zac (Zac (Zab (xr 3 [eS1 6 none 0 0,(7, .v (.int .i64 0)),(9, .v (.int .i64 ((n:Nat):Int))),(10, .v (.int .u64 ((P:Nat):Int))),eS1 11 (some ⟨b,0,none⟩) n n,eS1 15 (some ⟨bx,0,none⟩) n n,(16, .v (.int .i64 ((t:Nat):Int))),(17, .v (.int .u64 ((u:Nat):Int))),(18, .v (.int .i64 ((t + 1 + j:Nat):Int))),(99, .v (.bool (decide (((t + 1 + j:Nat):Int) < ((n:Nat):Int)))))] [] ?_)))
       refine xe (Zaa ?_)
       refine Zar ((decide (((t + 1 + j:Nat):Int) < ((n:Nat):Int)))) (by kernel_rfl) (fun hb18=>?_) (fun hb18=>?_)
       ·have hjn:t + 1 + j < n:=by have:=of_decide_eq_true hb18; omega
        refine Zam (Zaa (Zac (Zap ?_)))
        obtain ⟨f,hf⟩:∃ f,(X' t)[t + 1 + j]?.getD 0=f:=⟨_,rfl⟩
        have hfP:f < P:=by rw [← hf]; exact hB.get htn (by omega)
        obtain ⟨y,hy⟩:∃ y,xs[t + 1 + j]?.getD 0=y:=⟨_,rfl⟩
        have hyP:y < P:=by rw [← hy]; exact hlt _ (ZcH (by omega))
        refine Ze7 20 [0,0,0,0,12,28,0,124,252,510,0,0,3072,7168,15360,32766,65535,0,262143,524287] (by kernel_rfl) (by kernel_rfl) ZaE ?_
        refine xf 4 [eS1 6 none 0 0,(7, .v (.int .i64 0)),(9, .v (.int .i64 ((n:Nat):Int))),(10, .v (.int .u64 ((P:Nat):Int))),eS1 11 (some ⟨b,0,none⟩) n n,eS1 15 (some ⟨bx,0,none⟩) n n,(16, .v (.int .i64 ((t:Nat):Int))),(17, .v (.int .u64 ((u:Nat):Int))),(18, .v (.int .i64 ((t + 1 + j:Nat):Int))),(102, .v (.int .u64 ((u:Nat):Int))),(103, .v (.int .u64 ((P:Nat):Int))),eS1 104 (some ⟨b,0,none⟩) n n,(105, .v (.int .i64 ((t:Nat):Int)))] [] ?_
        refine xj 106 (.pointer (some ⟨b,t,none⟩)) (fun w Q=>Zax (g:=b) (len:=n) (cap:=n) (i:=t) (t:=91) (e:=93) (x:=.tmp 104) (ix:=.tmp 105) htn) ?_
        refine xj 107 (.slice (A' t) (n + 1) (C' t)) (fun w Q=>ZaQ (t:=93) (x:=.tmp 106) Q.mat.mat htn (hB.len t htn)) ?_
        refine xf 1 [eS1 6 none 0 0,(7, .v (.int .i64 0)),(9, .v (.int .i64 ((n:Nat):Int))),(10, .v (.int .u64 ((P:Nat):Int))),eS1 11 (some ⟨b,0,none⟩) n n,eS1 15 (some ⟨bx,0,none⟩) n n,(16, .v (.int .i64 ((t:Nat):Int))),(17, .v (.int .u64 ((u:Nat):Int))),(18, .v (.int .i64 ((t + 1 + j:Nat):Int))),(102, .v (.int .u64 ((u:Nat):Int))),(103, .v (.int .u64 ((P:Nat):Int))),eS1 107 (A' t) (n + 1) (C' t),(108, .v (.int .i64 ((t + 1 + j:Nat):Int)))] [] ?_
        refine xj 109 (atA (A' t) (t + 1 + j)) (fun w Q=>Za4 (t:=93) (e:=88) (x:=.tmp 107) (ix:=.tmp 108) (cap:=C' t) Q.mat.mat htn (hB.len t htn) (by omega)) ?_
        refine xj 110 (.int .u64 ((f:Nat):Int)) (fun w Q=>Zbo (t:=88) (x:=.tmp 109) (j:=t + 1 + j) Q.mat.mat htn (hB.len t htn) (by omega) hf) ?_
        refine xf 1 [eS1 6 none 0 0,(7, .v (.int .i64 0)),(9, .v (.int .i64 ((n:Nat):Int))),(10, .v (.int .u64 ((P:Nat):Int))),eS1 11 (some ⟨b,0,none⟩) n n,eS1 15 (some ⟨bx,0,none⟩) n n,(16, .v (.int .i64 ((t:Nat):Int))),(17, .v (.int .u64 ((u:Nat):Int))),(18, .v (.int .i64 ((t + 1 + j:Nat):Int))),(102, .v (.int .u64 ((u:Nat):Int))),(111, .v (.int .u64 (IntKind.u64.wrap (((P:Nat):Int) - ((f:Nat):Int)))))] [] ?_
        rw [ZnG hfP hP31]
        refine xf 2 [eS1 6 none 0 0,(7, .v (.int .i64 0)),(9, .v (.int .i64 ((n:Nat):Int))),(10, .v (.int .u64 ((P:Nat):Int))),eS1 11 (some ⟨b,0,none⟩) n n,eS1 15 (some ⟨bx,0,none⟩) n n,(16, .v (.int .i64 ((t:Nat):Int))),(17, .v (.int .u64 ((u:Nat):Int))),(18, .v (.int .i64 ((t + 1 + j:Nat):Int))),(102, .v (.int .u64 ((u:Nat):Int))),(111, .v (.int .u64 ((P - f:Nat):Int))),eS1 112 (some ⟨bx,0,none⟩) n n,(113, .v (.int .i64 ((t + 1 + j:Nat):Int)))] [] ?_
        refine xj 114 (.pointer (some ⟨bx,t + 1 + j,none⟩)) (fun w Q=>Zax (g:=bx) (len:=n) (cap:=n) (i:=t + 1 + j) (t:=23) (e:=3) (x:=.tmp 112) (ix:=.tmp 113) (by omega)) ?_
        refine xj 115 (.int .i64 ((y:Nat):Int)) (fun w Q=>by rw [← hy]; exact Zl5 (t:=3) (x:=.tmp 114) (j:=t + 1 + j) Q.xr (by omega)) ?_
        refine xf 1 [eS1 6 none 0 0,(7, .v (.int .i64 0)),(9, .v (.int .i64 ((n:Nat):Int))),(10, .v (.int .u64 ((P:Nat):Int))),eS1 11 (some ⟨b,0,none⟩) n n,eS1 15 (some ⟨bx,0,none⟩) n n,(16, .v (.int .i64 ((t:Nat):Int))),(17, .v (.int .u64 ((u:Nat):Int))),(18, .v (.int .i64 ((t + 1 + j:Nat):Int))),(102, .v (.int .u64 ((u:Nat):Int))),(111, .v (.int .u64 ((P - f:Nat):Int))),(116, .v (.int .u64 (IntKind.u64.wrap (((y:Nat):Int)))))] [] ?_
        rw [Zf0 (by omega)]
        refine xf 1 [eS1 6 none 0 0,(7, .v (.int .i64 0)),(9, .v (.int .i64 ((n:Nat):Int))),(10, .v (.int .u64 ((P:Nat):Int))),eS1 11 (some ⟨b,0,none⟩) n n,eS1 15 (some ⟨bx,0,none⟩) n n,(16, .v (.int .i64 ((t:Nat):Int))),(17, .v (.int .u64 ((u:Nat):Int))),(18, .v (.int .i64 ((t + 1 + j:Nat):Int))),(102, .v (.int .u64 ((u:Nat):Int))),(117, .v (.int .u64 (IntKind.u64.wrap (((P - f:Nat):Int) * ((y:Nat):Int)))))] [] ?_
        rw [mulS (Nat.sub_le _ _) hyP hP31]
        refine xf 1 [eS1 6 none 0 0,(7, .v (.int .i64 0)),(9, .v (.int .i64 ((n:Nat):Int))),(10, .v (.int .u64 ((P:Nat):Int))),eS1 11 (some ⟨b,0,none⟩) n n,eS1 15 (some ⟨bx,0,none⟩) n n,(16, .v (.int .i64 ((t:Nat):Int))),(17, .v (.int .u64 ((u:Nat):Int))),(18, .v (.int .i64 ((t + 1 + j:Nat):Int))),(118, .v (.int .u64 (IntKind.u64.wrap (((u:Nat):Int) + (((P - f) * y:Nat):Int)))))] [] ?_
        rw [addS huP (Nat.sub_le _ _) hyP hP31]
        refine xf 1 [eS1 6 none 0 0,(7, .v (.int .i64 0)),(9, .v (.int .i64 ((n:Nat):Int))),(10, .v (.int .u64 ((P:Nat):Int))),eS1 11 (some ⟨b,0,none⟩) n n,eS1 15 (some ⟨bx,0,none⟩) n n,(16, .v (.int .i64 ((t:Nat):Int))),(17, .v (.int .u64 ((u:Nat):Int))),(18, .v (.int .i64 ((t + 1 + j:Nat):Int))),(118, .v (.int .u64 ((u + (P - f) * y:Nat):Int))),(119, .v (.int .u64 ((P:Nat):Int)))] [] ?_
        refine xj 120 (.int .u64 (((u + (P - f) * y) % P:Nat):Int)) (fun w Q=>Zdj (k:=.u64) (t:=88) (k':=88) (x:=.tmp 118) (y:=.tmp 119) (a:=(u + (P - f) * y)) (b:=P) (by omega)) ?_
        refine xf 1 [eS1 6 none 0 0,(7, .v (.int .i64 0)),(9, .v (.int .i64 ((n:Nat):Int))),(10, .v (.int .u64 ((P:Nat):Int))),eS1 11 (some ⟨b,0,none⟩) n n,eS1 15 (some ⟨bx,0,none⟩) n n,(16, .v (.int .i64 ((t:Nat):Int))),(17, .v (.int .u64 (((u + (P - f) * y) % P:Nat):Int))),(18, .v (.int .i64 ((t + 1 + j:Nat):Int)))] [] ?_
        refine xz (xe (ZaN (Zaa (Zab (xr 2 [eS1 6 none 0 0,(7, .v (.int .i64 0)),(9, .v (.int .i64 ((n:Nat):Int))),(10, .v (.int .u64 ((P:Nat):Int))),eS1 11 (some ⟨b,0,none⟩) n n,eS1 15 (some ⟨bx,0,none⟩) n n,(16, .v (.int .i64 ((t:Nat):Int))),(17, .v (.int .u64 (((u + (P - f) * y) % P:Nat):Int))),(18, .v (.int .i64 ((t + 1 + j:Nat):Int))),(101, .v (.int .i64 (IntKind.i64.wrap (((t + 1 + j:Nat):Int) + 1))))] [] ?_)))))
        rw [ZaI (k:=t + 1 + j) (by omega)]
        refine xr 1 [eS1 6 none 0 0,(7, .v (.int .i64 0)),(9, .v (.int .i64 ((n:Nat):Int))),(10, .v (.int .u64 ((P:Nat):Int))),eS1 11 (some ⟨b,0,none⟩) n n,eS1 15 (some ⟨bx,0,none⟩) n n,(16, .v (.int .i64 ((t:Nat):Int))),(17, .v (.int .u64 (((u + (P - f) * y) % P:Nat):Int))),(18, .v (.int .i64 ((t + 1 + j + 1:Nat):Int)))] [] ?_
        refine xe ?_
        refine SXq.weak [(6, .v (.slice none 0 0)),(7, .v (.int .i64 0)),(9, .v (.int .i64 ((n:Nat):Int))),(10, .v (.int .u64 ((P:Nat):Int))),(11, .v (.slice (some ⟨b,0,none⟩) n n)),(15, .v (.slice (some ⟨bx,0,none⟩) n n)),(16, .v (.int .i64 ((t:Nat):Int))),(17, .v (.int .u64 ((((u + (P - f) * y) % P):Nat):Int))),(18, .v (.int .i64 ((t + 1 + (j + 1):Nat):Int)))] [] (Ψ:=fun w=>SolI (fun w=>ArgI w A0 n R C Z∧Zaq w B0 bz) W0 w b n A' C' X' bx (xs)) (Zaw.of (by kernel_rfl)) (by kernel_rfl) (fun w Q=>Q) ?_
        exact ZaB ((n - (t + 1 + (j + 1)))) (by omega) ⟨((u + (P - f) * y) % P),(j + 1),rfl,rfl,(by rw [hu,← hf,← hy]; rfl),(Nat.mod_lt _ (by omega)),(by omega),rfl⟩
       ·have hjn:n≤t + 1 + j:=by have:=of_decide_eq_false hb18; omega
        refine ZaC (Zae (Zae (ZaO (Zaa (Zab (xr 4 [eS1 6 none 0 0,(7, .v (.int .i64 0)),(9, .v (.int .i64 ((n:Nat):Int))),(10, .v (.int .u64 ((P:Nat):Int))),eS1 11 (some ⟨b,0,none⟩) n n,eS1 15 (some ⟨bx,0,none⟩) n n,(16, .v (.int .i64 ((t:Nat):Int))),eS1 121 (some ⟨bx,0,none⟩) n n,(122, .v (.int .i64 ((t:Nat):Int))),(124, .v (.int .i64 (IntKind.i64.wrap (((u:Nat):Int)))))] [] ?_))))))
        rw [Zlq (by omega)]
        refine xk 125 (.pointer (some ⟨bx,t,none⟩)) (fun w hE' Q=>Zax (g:=bx) (len:=n) (cap:=n) (i:=t) (t:=23) (e:=3) (x:=.tmp 121) (ix:=.tmp 122) htn) ?_
        refine Zb8 (fun w=>SolI (fun w=>ArgI w A0 n R C Z∧Zaq w B0 bz) W0 w b n A' C' X' bx (xs.set t u)) (fun w hE' Q=>stX (t:=3) (x:=.tmp 125) (y:=.tmp 124) (bOld ha hb0) Q hE' (by omega)) ?_
        refine xr 0 [eS1 6 none 0 0,(7, .v (.int .i64 0)),(9, .v (.int .i64 ((n:Nat):Int))),(10, .v (.int .u64 ((P:Nat):Int))),eS1 11 (some ⟨b,0,none⟩) n n,eS1 15 (some ⟨bx,0,none⟩) n n,(16, .v (.int .i64 ((t:Nat):Int)))] [] ?_
        refine xe (ZaN (Zaa (Zab (xr 2 [eS1 6 none 0 0,(7, .v (.int .i64 0)),(9, .v (.int .i64 ((n:Nat):Int))),(10, .v (.int .u64 ((P:Nat):Int))),eS1 11 (some ⟨b,0,none⟩) n n,eS1 15 (some ⟨bx,0,none⟩) n n,(16, .v (.int .i64 ((t:Nat):Int))),(87, .v (.int .i64 (IntKind.i64.wrap (((t:Nat):Int) - 1))))] [] ?_))))
        rw [Zi7 (k:=t) (by omega)]
        refine xr 1 [eS1 6 none 0 0,(7, .v (.int .i64 0)),(9, .v (.int .i64 ((n:Nat):Int))),(10, .v (.int .u64 ((P:Nat):Int))),eS1 11 (some ⟨b,0,none⟩) n n,eS1 15 (some ⟨bx,0,none⟩) n n,(16, .v (.int .i64 (((t:Nat):Int) - 1)))] [] ?_
        refine xe ?_
        refine SXq.weak [(6, .v (.slice none 0 0)),(7, .v (.int .i64 0)),(9, .v (.int .i64 ((n:Nat):Int))),(10, .v (.int .u64 ((P:Nat):Int))),(11, .v (.slice (some ⟨b,0,none⟩) n n)),(15, .v (.slice (some ⟨bx,0,none⟩) n n)),(16, .v (.int .i64 (((t:Nat):Int) - 1)))] [] (Ψ:=fun w=>SolI (fun w=>ArgI w A0 n R C Z∧Zaq w B0 bz) W0 w b n A' C' X' bx ((xs.set t u))) (Zaw.of (by kernel_rfl)) (by kernel_rfl) (fun w Q=>Q) ?_
        exact ZaB ((1 + t)) (by omega) ⟨(xs.set t u),t,rfl,rfl,(by omega),(by rw [List.length_set]; exact hxl),(ZnH hlt huP),(hbk.step htn hxl (by rw [(show n - (t + 1)=j by omega)]; exact hu)),rfl⟩
      ·obtain rfl:i=0:=by have:=of_decide_eq_false hb17; omega
       refine ZaC (Zae (Zae (ZaO (Zaa (Zac (Zab (xr 3 [eS1 6 (some ⟨bx,0,none⟩) n n,(7, .v (.int .i64 0))] [] ?_)))))))
       refine xe (Zaa (Zao ?_))
       refine Zak (v:=.tuple #[.slice (some ⟨bx,0,none⟩) n n, .int .i64 0]) (by kernel_rfl) (fun w' S Q=>?_)
       exact ⟨⟨bx,xs,_,_, .ok P X X' r d (hc0 ▸ hc) hnb rfl hD' hR hB hr hxl hlt hbk⟩,rfl,S,fun _=>⟨Q.xr,Q.nx⟩⟩
 ·rw [hb10]
  have hc2:=Zp6 hb10
  refine xr 7 [eS1 0 A0 n c0,eS1 1 B0 nb cb,(2, .v (.int .i64 p)),eS1 6 none 0 0,(7, .v (.int .i64 0)),(8, .v (.int .i64 c)),(22, .v (.bool false))] [] ?_
  refine xe (Zaa (xb (Zac (Zab (xr 3 [eS1 0 A0 n c0,eS1 1 B0 nb cb,(2, .v (.int .i64 p)),eS1 6 none 0 0,(7, .v (.int .i64 0)),(8, .v (.int .i64 c)),(32, .v (.bool ((c:Int) != 0)))] [] ?_)))))
  refine xe (Zaa ?_)
  refine Zar (((c:Int) != 0)) (by kernel_rfl) (fun hb19=>?_) (fun hb19=>?_)
  ·have hc0:=Zgo hb19
   refine Zac (Zab (xr 3 [eS1 0 A0 n c0,eS1 1 B0 nb cb,(2, .v (.int .i64 p)),eS1 6 none 0 0,(7, .v (.int .i64 c))] [] ?_))
   refine xe (Zaa (Zao (ZaZ (Zag ?_))))
   refine Zak (v:=.tuple #[.slice none 0 0, .int .i64 c]) (by kernel_rfl) (fun w' S Q=>?_)
   exact ⟨⟨0,[],_,_, .err c hc hc0 (fun e=>absurd e hc2)⟩,rfl,S,(fun e=>absurd e hc0)⟩
  ·have hc0:=Zgp hb19
   refine Zac (Zab (xr 6 [eS1 0 A0 n c0,eS1 1 B0 nb cb,(2, .v (.int .i64 p)),eS1 6 none 0 0,(7, .v (.int .i64 0)),(36, .v (.bool ((((nb:Nat):Int):Int) != ((n:Nat):Int))))] [] ?_))
   refine xe (Zaa ?_)
   refine Zar (((((nb:Nat):Int):Int) != ((n:Nat):Int))) (by kernel_rfl) (fun hb20=>?_) (fun hb20=>?_)
   ·have hnb:=ZcY hb20
    refine Zac (Zab (xr 2 [eS1 0 A0 n c0,eS1 1 B0 nb cb,(2, .v (.int .i64 p)),eS1 6 none 0 0,(7, .v (.int .i64 4))] [] ?_))
    refine xe (Zaa (Zao (ZaZ (Zag ?_))))
    refine Zak (v:=.tuple #[.slice none 0 0, .int .i64 4]) (by kernel_rfl) (fun w' S Q=>?_)
    exact ⟨⟨0,[],_,_, .shape (hc0 ▸ hc) hnb⟩,rfl,S,(fun e=>absurd (show (4:Int)=0 from e) (by decide))⟩
   ·have hnb:=ZcZ hb20
    refine Zam (ZaN (Zaa (Zac ?_)))
    obtain ⟨hpb,hn0,hz,hs,hev,hn64,hz64⟩:=hc.okk hc0
    obtain ⟨P,rfl,hP2,hP31,hPr⟩:=ZbW hpb
    obtain ⟨m,hmn⟩:∃ m,m=n:=⟨_,rfl⟩
    have hmm:∀ i,i < n→(Z i).length=m:=fun i hi=>by rw [hev i hi,hs rfl,hmn]
    refine Zab (xr 4 [eS1 0 A0 n c0,eS1 1 B0 nb cb,(2, .v (.int .i64 ((P:Nat):Int))),eS1 6 none 0 0,(7, .v (.int .i64 0)),(43, .v (.int .i64 ((n:Nat):Int))),(45, .v (.int .u64 (IntKind.u64.wrap (((P:Nat):Int)))))] [] ?_)
    rw [Zf0 hP31]
    refine xr 2 [eS1 0 A0 n c0,eS1 1 B0 nb cb,(2, .v (.int .i64 ((P:Nat):Int))),eS1 6 none 0 0,(7, .v (.int .i64 0)),(9, .v (.int .i64 ((n:Nat):Int))),(10, .v (.int .u64 ((P:Nat):Int)))] [] ?_
    refine xe (Zaa (Zac (Zab (xr 2 [eS1 1 B0 nb cb,(2, .v (.int .i64 ((P:Nat):Int))),eS1 6 none 0 0,(7, .v (.int .i64 0)),(9, .v (.int .i64 ((n:Nat):Int))),(10, .v (.int .u64 ((P:Nat):Int))),eS1 46 A0 n c0,(47, .v (.int .i64 ((P:Nat):Int)))] [] ?_))))
    refine Zbk (d:=48) 61 [.slice A0 n c0, .int .i64 ((P:Nat):Int)] (fun x:RsX n ((P:Nat):Int) Z=>.slice (some ⟨x.b,0,none⟩) n n) (fun x w=>ResI .u64 88 93 (fun w=>ArgI w A0 n R C Z∧Zaq w B0 bz) W0 w x.b n (x.A) (x.C) (x.X)) (fun w hE' Q=>(Zd8 A0 n m c0 R C Z ((P:Nat):Int) w Q.1.1 (by omega) (by omega) hmm (by omega) (by omega)).mono (fun _ _ h=>Zeo (bOld ha hb0) Q.1 hE' h)) (fun x=>?_)
    obtain ⟨b,A,C1,X,hX⟩:=x
    refine xr 1 [eS1 1 B0 nb cb,(2, .v (.int .i64 ((P:Nat):Int))),eS1 6 none 0 0,(7, .v (.int .i64 0)),(9, .v (.int .i64 ((n:Nat):Int))),(10, .v (.int .u64 ((P:Nat):Int))),eS1 11 (some ⟨b,0,none⟩) n n] [] ?_
    refine xe (Zaa (Zac (Zac (Zab (xr 3 [eS1 1 B0 nb cb,(2, .v (.int .i64 ((P:Nat):Int))),eS1 6 none 0 0,(7, .v (.int .i64 0)),(9, .v (.int .i64 ((n:Nat):Int))),(10, .v (.int .u64 ((P:Nat):Int))),eS1 11 (some ⟨b,0,none⟩) n n,(50, .v (.int .i64 ((n:Nat):Int))),(51, .v (.int .i64 0))] [] ?_)))))
    refine xe (Zaa (Zap ?_))
    refine SXc.weak [(1, .v (.slice B0 nb cb)),(2, .v (.int .i64 ((P:Nat):Int))),(6, .v (.slice none 0 0)),(7, .v (.int .i64 0)),(9, .v (.int .i64 ((n:Nat):Int))),(10, .v (.int .u64 ((P:Nat):Int))),(11, .v (.slice (some ⟨b,0,none⟩) n n)),(50, .v (.int .i64 ((n:Nat):Int))),(51, .v (.int .i64 ((0:Nat):Int)))] [] (Ψ:=fun w=>ResI .u64 88 93 (fun w=>ArgI w A0 n R C Z∧Zaq w B0 bz) W0 w b n (A) (C1) (X)) (Zaw.of (by kernel_rfl)) (by kernel_rfl) (fun w Q=>Q) ?_
    refine ZaU (fun nn ss ff=>∃ (A:Nat→Option Addr) (C1:Nat→Nat) (X:Nat→List Nat) (i:Nat),ss=ofL [(1, .v (.slice B0 nb cb)),(2, .v (.int .i64 ((P:Nat):Int))),(6, .v (.slice none 0 0)),(7, .v (.int .i64 0)),(9, .v (.int .i64 ((n:Nat):Int))),(10, .v (.int .u64 ((P:Nat):Int))),(11, .v (.slice (some ⟨b,0,none⟩) n n)),(50, .v (.int .i64 ((n:Nat):Int))),(51, .v (.int .i64 ((i:Nat):Int)))] []∧ff=(fun w=>ResI .u64 88 93 (fun w=>ArgI w A0 n R C Z∧Zaq w B0 bz) W0 w b n (A) (C1) (X))∧(i≤n)∧(AugD n ((P:Nat):Int) Z bz X i)∧nn=(n - i)) ((n - 0)) ⟨A,C1,X,0,rfl,rfl,Nat.zero_le _,(AugD.start hX),rfl⟩ ?_
    rintro nn ss ff ⟨A,C1,X,i,rfl,rfl,hi,hD,rfl⟩
    refine Zac (Zab (xr 1 [eS1 1 B0 nb cb,(2, .v (.int .i64 ((P:Nat):Int))),eS1 6 none 0 0,(7, .v (.int .i64 0)),(9, .v (.int .i64 ((n:Nat):Int))),(10, .v (.int .u64 ((P:Nat):Int))),eS1 11 (some ⟨b,0,none⟩) n n,(50, .v (.int .i64 ((n:Nat):Int))),(51, .v (.int .i64 ((i:Nat):Int))),(52, .v (.bool (decide (((i:Nat):Int) < ((n:Nat):Int)))))] [] ?_))
    refine xe (Zaa (Zac ?_))
    refine Zar ((decide (((i:Nat):Int) < ((n:Nat):Int)))) (by kernel_rfl) (fun hb22=>?_) (fun hb22=>?_)
    ·have hin:i < n:=by have:=of_decide_eq_true hb22; omega
     refine Zam (Zaa (Zac (Zap (Zac (Zab (xr 2 [eS1 1 B0 nb cb,(2, .v (.int .i64 ((P:Nat):Int))),eS1 6 none 0 0,(7, .v (.int .i64 0)),(9, .v (.int .i64 ((n:Nat):Int))),(10, .v (.int .u64 ((P:Nat):Int))),eS1 11 (some ⟨b,0,none⟩) n n,(12, .v (.int .i64 ((i:Nat):Int))),(50, .v (.int .i64 ((n:Nat):Int))),(51, .v (.int .i64 ((i:Nat):Int)))] [] ?_))))))
     refine xe (Zaa ?_)
     obtain ⟨z,hz'⟩:∃ z,bz.getD i 0=z:=⟨_,rfl⟩
     have hz64' : -9223372036854775808≤z∧z≤9223372036854775807:=by rw [← hz']; exact hb64.at i
     obtain ⟨q,hq⟩:∃ q:Nat,z % ((P:Nat):Int)=(q:Int):=Int.eq_ofNat_of_zero_le (Int.emod_nonneg z (by omega))
     refine Zfc 13 11 54 12 55 11 56 12 57 (.slice (some ⟨b,0,none⟩) n n) (.int .i64 ((i:Nat):Int)) (.slice (some ⟨b,0,none⟩) n n) (.int .i64 ((i:Nat):Int)) ?_
     refine xf 0 [eS1 1 B0 nb cb,(2, .v (.int .i64 ((P:Nat):Int))),eS1 6 none 0 0,(7, .v (.int .i64 0)),(9, .v (.int .i64 ((n:Nat):Int))),(10, .v (.int .u64 ((P:Nat):Int))),eS1 11 (some ⟨b,0,none⟩) n n,(12, .v (.int .i64 ((i:Nat):Int))),(50, .v (.int .i64 ((n:Nat):Int))),(51, .v (.int .i64 ((i:Nat):Int))),eS1 54 (some ⟨b,0,none⟩) n n,(55, .v (.int .i64 ((i:Nat):Int))),eS1 56 (some ⟨b,0,none⟩) n n,(57, .v (.int .i64 ((i:Nat):Int)))] [] ?_
     refine xj 58 (.pointer (some ⟨b,i,none⟩)) (fun w Q=>Zax (g:=b) (len:=n) (cap:=n) (i:=i) (t:=91) (e:=93) (x:=.tmp 56) (ix:=.tmp 57) hin) ?_
     refine xj 59 (.slice (A i) m (C1 i)) (fun w Q=>ZaQ (t:=93) (x:=.tmp 58) Q.mat hin (hD.len hin (hmm i hin))) ?_
     refine xf 2 [eS1 1 B0 nb cb,(2, .v (.int .i64 ((P:Nat):Int))),eS1 6 none 0 0,(7, .v (.int .i64 0)),(9, .v (.int .i64 ((n:Nat):Int))),(10, .v (.int .u64 ((P:Nat):Int))),eS1 11 (some ⟨b,0,none⟩) n n,(50, .v (.int .i64 ((n:Nat):Int))),(51, .v (.int .i64 ((i:Nat):Int))),eS1 54 (some ⟨b,0,none⟩) n n,(55, .v (.int .i64 ((i:Nat):Int))),eS1 59 (A i) m (C1 i),eS1 60 B0 nb cb,(61, .v (.int .i64 ((i:Nat):Int)))] [] ?_
     refine xj 62 (atA B0 i) (fun w Q=>Zem (t:=23) (e:=3) (x:=.tmp 60) (ix:=.tmp 61) (cap:=cb) Q.arg.2 hbl (by omega)) ?_
     refine xj 63 (.int .i64 z) (fun w Q=>Zen (t:=3) (x:=.tmp 62) (j:=i) Q.arg.2 (by omega) hz') ?_
     refine xf 1 [eS1 1 B0 nb cb,(2, .v (.int .i64 ((P:Nat):Int))),eS1 6 none 0 0,(7, .v (.int .i64 0)),(9, .v (.int .i64 ((n:Nat):Int))),(10, .v (.int .u64 ((P:Nat):Int))),eS1 11 (some ⟨b,0,none⟩) n n,(50, .v (.int .i64 ((n:Nat):Int))),(51, .v (.int .i64 ((i:Nat):Int))),eS1 54 (some ⟨b,0,none⟩) n n,(55, .v (.int .i64 ((i:Nat):Int))),eS1 59 (A i) m (C1 i),(63, .v (.int .i64 z)),(64, .v (.int .i64 ((P:Nat):Int)))] [] ?_
     refine xd 62 [.int .i64 z, .int .i64 ((P:Nat):Int)] 65 (fun _:Unit=>.int .u64 ((q:Nat):Int)) _ (fun w S Q=>(ZfE z ((P:Nat):Int) q _ hz64' (by omega) (by omega) hq).mono (fun _ _ h=>Zau h rfl)) (fun xx=>?_)
     refine xf 0 [eS1 1 B0 nb cb,(2, .v (.int .i64 ((P:Nat):Int))),eS1 6 none 0 0,(7, .v (.int .i64 0)),(9, .v (.int .i64 ((n:Nat):Int))),(10, .v (.int .u64 ((P:Nat):Int))),eS1 11 (some ⟨b,0,none⟩) n n,(50, .v (.int .i64 ((n:Nat):Int))),(51, .v (.int .i64 ((i:Nat):Int))),eS1 54 (some ⟨b,0,none⟩) n n,(55, .v (.int .i64 ((i:Nat):Int))),eS1 59 (A i) m (C1 i),(65, .v (.int .u64 ((q:Nat):Int)))] [] ?_
     refine ZfY 66 (fun zb:Nat=>.slice (some ⟨zb,0,none⟩) 1 1) (fun zb zw=>Blk 88 zw zb #[.int .u64 ((q:Nat):Int)]) (by kernel_rfl) (by kernel_rfl) (by kernel_rfl) (by kernel_rfl) (by kernel_rfl) (by kernel_rfl) (by kernel_rfl) (fun w S Q=>Zce (t:=93) (e:=88) (n:=1) (sz:=1) (z:=.int .u64 0) (parts:=#[(0,Operand.tmp 65)]) (by kernel_rfl) (by kernel_rfl) (by kernel_rfl) (by kernel_rfl) (by kernel_rfl) (by kernel_rfl)) (fun b23=>?_)
     refine xf 0 [eS1 1 B0 nb cb,(2, .v (.int .i64 ((P:Nat):Int))),eS1 6 none 0 0,(7, .v (.int .i64 0)),(9, .v (.int .i64 ((n:Nat):Int))),(10, .v (.int .u64 ((P:Nat):Int))),eS1 11 (some ⟨b,0,none⟩) n n,(50, .v (.int .i64 ((n:Nat):Int))),(51, .v (.int .i64 ((i:Nat):Int))),eS1 54 (some ⟨b,0,none⟩) n n,(55, .v (.int .i64 ((i:Nat):Int))),eS1 59 (A i) m (C1 i),eS1 66 (some ⟨b23,0,none⟩) 1 1] [] ?_
     refine xz ?_
     refine ZcG (d:=67) (fun z:Option Addr × Nat=>.slice z.1 (m + 1) z.2) (fun z w=>LooseI .u64 88 93 (fun w=>ArgI w A0 n R C Z∧Zaq w B0 bz) W0 w b n i A C1 X (z.1) (z.2) (X i ++ [q])) (fun w hE' Q=>Zff (t:=93) (x:=.tmp 59) (y:=.tmp 66) (g:=b23) (x':=q) (bw:=8) (bOld ha hb0) Q.1.1 hE' hin (hD.len hin (hmm i hin)) (by omega) (by decide) (ZeT Q.2)) (fun z=>?_)
     obtain ⟨A3,c3⟩:=z
     refine xk 68 (.pointer (some ⟨b,i,none⟩)) (fun w hE' Q=>Zax (g:=b) (len:=n) (cap:=n) (i:=i) (t:=91) (e:=93) (x:=.tmp 54) (ix:=.tmp 55) hin) ?_
     refine Zb8 (fun w=>ResI .u64 88 93 (fun w=>ArgI w A0 n R C Z∧Zaq w B0 bz) W0 w b n (upF A i A3) (upF C1 i c3) (upF X i (X i ++ [q]))) (fun w hE' Q=>ZeS (t:=93) (x:=.tmp 68) (y:=.tmp 67) (bOld ha hb0) Q hE' hin (by rw [List.length_append,hD.len hin (hmm i hin),List.length_singleton])) ?_
     refine xr 0 [eS1 1 B0 nb cb,(2, .v (.int .i64 ((P:Nat):Int))),eS1 6 none 0 0,(7, .v (.int .i64 0)),(9, .v (.int .i64 ((n:Nat):Int))),(10, .v (.int .u64 ((P:Nat):Int))),eS1 11 (some ⟨b,0,none⟩) n n,(50, .v (.int .i64 ((n:Nat):Int))),(51, .v (.int .i64 ((i:Nat):Int)))] [] ?_
     refine xe (ZaN (Zaa (Zab (xr 1 [eS1 1 B0 nb cb,(2, .v (.int .i64 ((P:Nat):Int))),eS1 6 none 0 0,(7, .v (.int .i64 0)),(9, .v (.int .i64 ((n:Nat):Int))),(10, .v (.int .u64 ((P:Nat):Int))),eS1 11 (some ⟨b,0,none⟩) n n,(50, .v (.int .i64 ((n:Nat):Int))),(51, .v (.int .i64 ((i:Nat):Int))),(69, .v (.int .i64 (IntKind.i64.wrap (((i:Nat):Int) + 1))))] [] ?_))))
     rw [ZaI (k:=i) (by omega)]
     refine xr 1 [eS1 1 B0 nb cb,(2, .v (.int .i64 ((P:Nat):Int))),eS1 6 none 0 0,(7, .v (.int .i64 0)),(9, .v (.int .i64 ((n:Nat):Int))),(10, .v (.int .u64 ((P:Nat):Int))),eS1 11 (some ⟨b,0,none⟩) n n,(50, .v (.int .i64 ((n:Nat):Int))),(51, .v (.int .i64 ((i + 1:Nat):Int)))] [] ?_
     refine xe ?_
     refine SXq.weak [(1, .v (.slice B0 nb cb)),(2, .v (.int .i64 ((P:Nat):Int))),(6, .v (.slice none 0 0)),(7, .v (.int .i64 0)),(9, .v (.int .i64 ((n:Nat):Int))),(10, .v (.int .u64 ((P:Nat):Int))),(11, .v (.slice (some ⟨b,0,none⟩) n n)),(50, .v (.int .i64 ((n:Nat):Int))),(51, .v (.int .i64 (((i + 1):Nat):Int)))] [] (Ψ:=fun w=>ResI .u64 88 93 (fun w=>ArgI w A0 n R C Z∧Zaq w B0 bz) W0 w b n ((upF A i A3)) ((upF C1 i c3)) ((upF X i (X i ++ [q])))) (Zaw.of (by kernel_rfl)) (by kernel_rfl) (fun w Q=>Q) ?_
     exact ZaB ((n - (i + 1))) (by omega) ⟨(upF A i A3),(upF C1 i c3),(upF X i (X i ++ [q])),(i + 1),rfl,rfl,(by omega),(hD.step hin (by rw [hz']; exact hq)),rfl⟩
    ·have hin:n≤i:=by have:=of_decide_eq_false hb22; omega
     refine ZaC (Zae (Zae (ZaO (Zaa (Zac (Zac ?_))))))
     have hD':AugD n ((P:Nat):Int) Z bz X n:=by obtain rfl:i=n:=(by omega); exact hD
     refine Zab (xr 3 [eS1 6 none 0 0,(7, .v (.int .i64 0)),(9, .v (.int .i64 ((n:Nat):Int))),(10, .v (.int .u64 ((P:Nat):Int))),eS1 11 (some ⟨b,0,none⟩) n n,eS1 71 (some ⟨b,0,none⟩) n n,(72, .v (.int .i64 ((n:Nat):Int))),(73, .v (.int .u64 ((P:Nat):Int)))] [] ?_)
     refine Zbk (d:=74) 60 [.slice (some ⟨b,0,none⟩) n n, .int .i64 ((n:Nat):Int), .int .u64 ((P:Nat):Int)] (fun x:ElX P n ((n + 1)) n (X)=>.tuple #[.int .i64 ((x.r:Nat):Int), .int .u64 ((x.d:Nat):Int)]) (fun x w=>ResI .u64 88 93 (fun w=>ArgI w A0 n R C Z∧Zaq w B0 bz) W0 w b n (x.A) (x.C) (x.X)) (fun w hE' Q=>(ZdD b n ((n + 1)) n P (A) (C1) (X) w Q.mat (by omega) (by omega) (by omega) (by omega) (by omega) (ZdS rfl hP2 hD' (fun i hi=>(hmm i hi).trans hmn))).mono (fun _ _ h=>ZhA (bOld ha hb0) Q hE' h)) (fun x=>?_)
     obtain ⟨r,d,A',C',X',hR,hB⟩:=x
     refine xr 5 [eS1 6 none 0 0,(7, .v (.int .i64 0)),(9, .v (.int .i64 ((n:Nat):Int))),(10, .v (.int .u64 ((P:Nat):Int))),eS1 11 (some ⟨b,0,none⟩) n n,(13, .v (.int .i64 ((r:Nat):Int)))] [] ?_
     refine xe (Zaa (Zac (Zab (xr 3 [eS1 6 none 0 0,(7, .v (.int .i64 0)),(9, .v (.int .i64 ((n:Nat):Int))),(10, .v (.int .u64 ((P:Nat):Int))),eS1 11 (some ⟨b,0,none⟩) n n,(79, .v (.bool (decide (((r:Nat):Int) < ((n:Nat):Int)))))] [] ?_))))
     refine xe (Zaa ?_)
     refine Zar ((decide (((r:Nat):Int) < ((n:Nat):Int)))) (by kernel_rfl) (fun hb24=>?_) (fun hb24=>?_)
     ·have hr:r < n:=by have:=of_decide_eq_true hb24; omega
      refine Zac (Zab (xr 2 [eS1 6 none 0 0,(7, .v (.int .i64 7)),(9, .v (.int .i64 ((n:Nat):Int))),(10, .v (.int .u64 ((P:Nat):Int))),eS1 11 (some ⟨b,0,none⟩) n n] [] ?_))
      refine xe (Zaa (Zao (Zag ?_)))
      refine Zak (v:=.tuple #[.slice none 0 0, .int .i64 7]) (by kernel_rfl) (fun w' S Q=>?_)
      exact ⟨⟨0,[],_,_, .sing P X X' r d (hc0 ▸ hc) hnb rfl hD' hR hr⟩,rfl,S,(fun e=>absurd (show (7:Int)=0 from e) (by decide))⟩
     ·have hr:¬ r < n:=by have:=of_decide_eq_false hb24; omega
      refine Zam (Zaa (Zac (Zab (xr 1 [eS1 6 none 0 0,(7, .v (.int .i64 0)),(9, .v (.int .i64 ((n:Nat):Int))),(10, .v (.int .u64 ((P:Nat):Int))),eS1 11 (some ⟨b,0,none⟩) n n,(80, .v (.int .i64 ((n:Nat):Int)))] [] ?_))))
      refine ZcG (d:=81) (fun bx:Nat=>.slice (some ⟨bx,0,none⟩) n n) (fun bx w=>SolI (fun w=>ArgI w A0 n R C Z∧Zaq w B0 bz) W0 w b n A' C' X' bx (List.replicate n 0)) (fun w hE' Q=>ZnE (t:=23) (l:=.tmp 80) (c:=.tmp 80) (kl:=.i64) (kc:=.i64) (bOld ha hb0) Q (by omega) hE') (fun bx=>?_)
      refine xr 1 [eS1 6 none 0 0,(7, .v (.int .i64 0)),(9, .v (.int .i64 ((n:Nat):Int))),(10, .v (.int .u64 ((P:Nat):Int))),eS1 11 (some ⟨b,0,none⟩) n n,eS1 15 (some ⟨bx,0,none⟩) n n] [] ?_
      refine xe (Zaa (Zac (Zac (Zab (xr 2 [eS1 6 none 0 0,(7, .v (.int .i64 0)),(9, .v (.int .i64 ((n:Nat):Int))),(10, .v (.int .u64 ((P:Nat):Int))),eS1 11 (some ⟨b,0,none⟩) n n,eS1 15 (some ⟨bx,0,none⟩) n n,(83, .v (.int .i64 (IntKind.i64.wrap (((n:Nat):Int) - 1))))] [] ?_)))))
      rw [Zi7 (k:=n) (by omega)]
      refine xr 1 [eS1 6 none 0 0,(7, .v (.int .i64 0)),(9, .v (.int .i64 ((n:Nat):Int))),(10, .v (.int .u64 ((P:Nat):Int))),eS1 11 (some ⟨b,0,none⟩) n n,eS1 15 (some ⟨bx,0,none⟩) n n,(16, .v (.int .i64 (((n:Nat):Int) - 1)))] [] ?_
      refine xe (Zaa (Zap ?_))
      refine SXc.weak [(6, .v (.slice none 0 0)),(7, .v (.int .i64 0)),(9, .v (.int .i64 ((n:Nat):Int))),(10, .v (.int .u64 ((P:Nat):Int))),(11, .v (.slice (some ⟨b,0,none⟩) n n)),(15, .v (.slice (some ⟨bx,0,none⟩) n n)),(16, .v (.int .i64 (((n:Nat):Int) - 1)))] [] (Ψ:=fun w=>SolI (fun w=>ArgI w A0 n R C Z∧Zaq w B0 bz) W0 w b n A' C' X' bx ((List.replicate n 0))) (Zaw.of (by kernel_rfl)) (by kernel_rfl) (fun w Q=>Q) ?_
      refine ZaU (fun nn ss ff=>∃ (xs:List Nat) (i:Nat),ss=ofL [(6, .v (.slice none 0 0)),(7, .v (.int .i64 0)),(9, .v (.int .i64 ((n:Nat):Int))),(10, .v (.int .u64 ((P:Nat):Int))),(11, .v (.slice (some ⟨b,0,none⟩) n n)),(15, .v (.slice (some ⟨bx,0,none⟩) n n)),(16, .v (.int .i64 (((i:Nat):Int) - 1)))] []∧ff=(fun w=>SolI (fun w=>ArgI w A0 n R C Z∧Zaq w B0 bz) W0 w b n A' C' X' bx (xs))∧(i≤n)∧(xs.length=n)∧(∀ x ∈ xs,x < P)∧(Zfh P n X' xs i)∧nn=(1 + i)) ((1 + n)) ⟨(List.replicate n 0),n,rfl,rfl,Nat.le_refl _,List.length_replicate,(Zmc (by omega)),(fun t h1 h2=>absurd h2 (by omega)),rfl⟩ ?_
      rintro nn ss ff ⟨xs,i,rfl,rfl,hi,hxl,hlt,hbk,rfl⟩
      refine Zac (Zac (Zab (xr 2 [eS1 6 none 0 0,(7, .v (.int .i64 0)),(9, .v (.int .i64 ((n:Nat):Int))),(10, .v (.int .u64 ((P:Nat):Int))),eS1 11 (some ⟨b,0,none⟩) n n,eS1 15 (some ⟨bx,0,none⟩) n n,(16, .v (.int .i64 (((i:Nat):Int) - 1))),(85, .v (.bool (decide ((((i:Nat):Int) - 1) ≥ 0))))] [] ?_)))
      refine xe (Zaa ?_)
      refine Zar ((decide ((((i:Nat):Int) - 1) ≥ 0))) (by kernel_rfl) (fun hb25=>?_) (fun hb25=>?_)
      ·obtain ⟨t,rfl⟩:∃ t,i=t + 1:=⟨i - 1,by have:=of_decide_eq_true hb25; omega⟩
       refine Zam (Zaa (Zac (Zap (Zac ?_))))
       rw [show (((t + 1:Nat):Int) - 1)=((t:Nat):Int) from by omega]
       have htn:t < n:=by omega
       refine Zab (xr 2 [eS1 6 none 0 0,(7, .v (.int .i64 0)),(9, .v (.int .i64 ((n:Nat):Int))),(10, .v (.int .u64 ((P:Nat):Int))),eS1 11 (some ⟨b,0,none⟩) n n,eS1 15 (some ⟨bx,0,none⟩) n n,(16, .v (.int .i64 ((t:Nat):Int))),eS1 88 (some ⟨b,0,none⟩) n n,(89, .v (.int .i64 ((t:Nat):Int)))] [] ?_)
       refine xk 90 (.pointer (some ⟨b,t,none⟩)) (fun w hE' Q=>Zax (g:=b) (len:=n) (cap:=n) (i:=t) (t:=91) (e:=93) (x:=.tmp 88) (ix:=.tmp 89) htn) ?_
       refine xk 91 (.slice (A' t) (n + 1) (C' t)) (fun w hE' Q=>ZaQ (t:=93) (x:=.tmp 90) Q.mat.mat htn (hB.len t htn)) ?_
       refine xr 1 [eS1 6 none 0 0,(7, .v (.int .i64 0)),(9, .v (.int .i64 ((n:Nat):Int))),(10, .v (.int .u64 ((P:Nat):Int))),eS1 11 (some ⟨b,0,none⟩) n n,eS1 15 (some ⟨bx,0,none⟩) n n,(16, .v (.int .i64 ((t:Nat):Int))),eS1 91 (A' t) (n + 1) (C' t),(92, .v (.int .i64 ((n:Nat):Int)))] [] ?_
       refine xk 93 (atA (A' t) n) (fun w hE' Q=>Za4 (t:=93) (e:=88) (x:=.tmp 91) (ix:=.tmp 92) (cap:=C' t) Q.mat.mat htn (hB.len t htn) (by omega)) ?_
       obtain ⟨u,hu⟩:∃ u,u=bk P (X' t) xs n t 0:=⟨_,rfl⟩
       refine xk 94 (.int .u64 ((u:Nat):Int)) (fun w hE' Q=>Zbo (t:=88) (x:=.tmp 93) (j:=n) Q.mat.mat htn (hB.len t htn) (by omega) hu.symm) ?_
       refine xr 1 [eS1 6 none 0 0,(7, .v (.int .i64 0)),(9, .v (.int .i64 ((n:Nat):Int))),(10, .v (.int .u64 ((P:Nat):Int))),eS1 11 (some ⟨b,0,none⟩) n n,eS1 15 (some ⟨bx,0,none⟩) n n,(16, .v (.int .i64 ((t:Nat):Int))),(17, .v (.int .u64 ((u:Nat):Int)))] [] ?_
       refine xe (Zaa (Zac (Zac (Zab (xr 2 [eS1 6 none 0 0,(7, .v (.int .i64 0)),(9, .v (.int .i64 ((n:Nat):Int))),(10, .v (.int .u64 ((P:Nat):Int))),eS1 11 (some ⟨b,0,none⟩) n n,eS1 15 (some ⟨bx,0,none⟩) n n,(16, .v (.int .i64 ((t:Nat):Int))),(17, .v (.int .u64 ((u:Nat):Int))),(96, .v (.int .i64 (IntKind.i64.wrap (((t:Nat):Int) + 1))))] [] ?_)))))
       rw [ZaI (k:=t) (by omega)]
       refine xr 1 [eS1 6 none 0 0,(7, .v (.int .i64 0)),(9, .v (.int .i64 ((n:Nat):Int))),(10, .v (.int .u64 ((P:Nat):Int))),eS1 11 (some ⟨b,0,none⟩) n n,eS1 15 (some ⟨bx,0,none⟩) n n,(16, .v (.int .i64 ((t:Nat):Int))),(17, .v (.int .u64 ((u:Nat):Int))),(18, .v (.int .i64 ((t + 1:Nat):Int)))] [] ?_
       refine xe (Zaa (Zap ?_))
       refine SXc.weak [(6, .v (.slice none 0 0)),(7, .v (.int .i64 0)),(9, .v (.int .i64 ((n:Nat):Int))),(10, .v (.int .u64 ((P:Nat):Int))),(11, .v (.slice (some ⟨b,0,none⟩) n n)),(15, .v (.slice (some ⟨bx,0,none⟩) n n)),(16, .v (.int .i64 ((t:Nat):Int))),(17, .v (.int .u64 ((u:Nat):Int))),(18, .v (.int .i64 ((t + 1 + 0:Nat):Int)))] [] (Ψ:=fun w=>SolI (fun w=>ArgI w A0 n R C Z∧Zaq w B0 bz) W0 w b n A' C' X' bx (xs)) (Zaw.of (by kernel_rfl)) (by kernel_rfl) (fun w Q=>Q) ?_
       refine ZaU (fun nn ss ff=>∃ (u j:Nat),ss=ofL [(6, .v (.slice none 0 0)),(7, .v (.int .i64 0)),(9, .v (.int .i64 ((n:Nat):Int))),(10, .v (.int .u64 ((P:Nat):Int))),(11, .v (.slice (some ⟨b,0,none⟩) n n)),(15, .v (.slice (some ⟨bx,0,none⟩) n n)),(16, .v (.int .i64 ((t:Nat):Int))),(17, .v (.int .u64 ((u:Nat):Int))),(18, .v (.int .i64 ((t + 1 + j:Nat):Int)))] []∧ff=(fun w=>SolI (fun w=>ArgI w A0 n R C Z∧Zaq w B0 bz) W0 w b n A' C' X' bx (xs))∧(u=bk P (X' t) xs n t j)∧(u < P)∧(t + 1 + j≤n)∧nn=(n - (t + 1 + j))) ((n - (t + 1 + 0))) ⟨u,0,rfl,rfl,hu,(by rw [hu]; exact ZoS (by omega) (hB.get htn (by omega)) 0),(by omega),rfl⟩ ?_
       rintro nn ss ff ⟨u,j,rfl,rfl,hu,huP,hj,rfl⟩
       refine Zac (Zac (Zab (xr 3 [eS1 6 none 0 0,(7, .v (.int .i64 0)),(9, .v (.int .i64 ((n:Nat):Int))),(10, .v (.int .u64 ((P:Nat):Int))),eS1 11 (some ⟨b,0,none⟩) n n,eS1 15 (some ⟨bx,0,none⟩) n n,(16, .v (.int .i64 ((t:Nat):Int))),(17, .v (.int .u64 ((u:Nat):Int))),(18, .v (.int .i64 ((t + 1 + j:Nat):Int))),(99, .v (.bool (decide (((t + 1 + j:Nat):Int) < ((n:Nat):Int)))))] [] ?_)))
       refine xe (Zaa ?_)
       refine Zar ((decide (((t + 1 + j:Nat):Int) < ((n:Nat):Int)))) (by kernel_rfl) (fun hb26=>?_) (fun hb26=>?_)
       ·have hjn:t + 1 + j < n:=by have:=of_decide_eq_true hb26; omega
        refine Zam (Zaa (Zac (Zap ?_)))
        obtain ⟨f,hf⟩:∃ f,(X' t)[t + 1 + j]?.getD 0=f:=⟨_,rfl⟩
        have hfP:f < P:=by rw [← hf]; exact hB.get htn (by omega)
        obtain ⟨y,hy⟩:∃ y,xs[t + 1 + j]?.getD 0=y:=⟨_,rfl⟩
        have hyP:y < P:=by rw [← hy]; exact hlt _ (ZcH (by omega))
        refine Ze7 20 [0,0,0,0,12,28,0,124,252,510,0,0,3072,7168,15360,32766,65535,0,262143,524287] (by kernel_rfl) (by kernel_rfl) ZaE ?_
        refine xf 4 [eS1 6 none 0 0,(7, .v (.int .i64 0)),(9, .v (.int .i64 ((n:Nat):Int))),(10, .v (.int .u64 ((P:Nat):Int))),eS1 11 (some ⟨b,0,none⟩) n n,eS1 15 (some ⟨bx,0,none⟩) n n,(16, .v (.int .i64 ((t:Nat):Int))),(17, .v (.int .u64 ((u:Nat):Int))),(18, .v (.int .i64 ((t + 1 + j:Nat):Int))),(102, .v (.int .u64 ((u:Nat):Int))),(103, .v (.int .u64 ((P:Nat):Int))),eS1 104 (some ⟨b,0,none⟩) n n,(105, .v (.int .i64 ((t:Nat):Int)))] [] ?_
        refine xj 106 (.pointer (some ⟨b,t,none⟩)) (fun w Q=>Zax (g:=b) (len:=n) (cap:=n) (i:=t) (t:=91) (e:=93) (x:=.tmp 104) (ix:=.tmp 105) htn) ?_
        refine xj 107 (.slice (A' t) (n + 1) (C' t)) (fun w Q=>ZaQ (t:=93) (x:=.tmp 106) Q.mat.mat htn (hB.len t htn)) ?_
        refine xf 1 [eS1 6 none 0 0,(7, .v (.int .i64 0)),(9, .v (.int .i64 ((n:Nat):Int))),(10, .v (.int .u64 ((P:Nat):Int))),eS1 11 (some ⟨b,0,none⟩) n n,eS1 15 (some ⟨bx,0,none⟩) n n,(16, .v (.int .i64 ((t:Nat):Int))),(17, .v (.int .u64 ((u:Nat):Int))),(18, .v (.int .i64 ((t + 1 + j:Nat):Int))),(102, .v (.int .u64 ((u:Nat):Int))),(103, .v (.int .u64 ((P:Nat):Int))),eS1 107 (A' t) (n + 1) (C' t),(108, .v (.int .i64 ((t + 1 + j:Nat):Int)))] [] ?_
        refine xj 109 (atA (A' t) (t + 1 + j)) (fun w Q=>Za4 (t:=93) (e:=88) (x:=.tmp 107) (ix:=.tmp 108) (cap:=C' t) Q.mat.mat htn (hB.len t htn) (by omega)) ?_
        refine xj 110 (.int .u64 ((f:Nat):Int)) (fun w Q=>Zbo (t:=88) (x:=.tmp 109) (j:=t + 1 + j) Q.mat.mat htn (hB.len t htn) (by omega) hf) ?_
        refine xf 1 [eS1 6 none 0 0,(7, .v (.int .i64 0)),(9, .v (.int .i64 ((n:Nat):Int))),(10, .v (.int .u64 ((P:Nat):Int))),eS1 11 (some ⟨b,0,none⟩) n n,eS1 15 (some ⟨bx,0,none⟩) n n,(16, .v (.int .i64 ((t:Nat):Int))),(17, .v (.int .u64 ((u:Nat):Int))),(18, .v (.int .i64 ((t + 1 + j:Nat):Int))),(102, .v (.int .u64 ((u:Nat):Int))),(111, .v (.int .u64 (IntKind.u64.wrap (((P:Nat):Int) - ((f:Nat):Int)))))] [] ?_
        rw [ZnG hfP hP31]
        refine xf 2 [eS1 6 none 0 0,(7, .v (.int .i64 0)),(9, .v (.int .i64 ((n:Nat):Int))),(10, .v (.int .u64 ((P:Nat):Int))),eS1 11 (some ⟨b,0,none⟩) n n,eS1 15 (some ⟨bx,0,none⟩) n n,(16, .v (.int .i64 ((t:Nat):Int))),(17, .v (.int .u64 ((u:Nat):Int))),(18, .v (.int .i64 ((t + 1 + j:Nat):Int))),(102, .v (.int .u64 ((u:Nat):Int))),(111, .v (.int .u64 ((P - f:Nat):Int))),eS1 112 (some ⟨bx,0,none⟩) n n,(113, .v (.int .i64 ((t + 1 + j:Nat):Int)))] [] ?_
        refine xj 114 (.pointer (some ⟨bx,t + 1 + j,none⟩)) (fun w Q=>Zax (g:=bx) (len:=n) (cap:=n) (i:=t + 1 + j) (t:=23) (e:=3) (x:=.tmp 112) (ix:=.tmp 113) (by omega)) ?_
        refine xj 115 (.int .i64 ((y:Nat):Int)) (fun w Q=>by rw [← hy]; exact Zl5 (t:=3) (x:=.tmp 114) (j:=t + 1 + j) Q.xr (by omega)) ?_
        refine xf 1 [eS1 6 none 0 0,(7, .v (.int .i64 0)),(9, .v (.int .i64 ((n:Nat):Int))),(10, .v (.int .u64 ((P:Nat):Int))),eS1 11 (some ⟨b,0,none⟩) n n,eS1 15 (some ⟨bx,0,none⟩) n n,(16, .v (.int .i64 ((t:Nat):Int))),(17, .v (.int .u64 ((u:Nat):Int))),(18, .v (.int .i64 ((t + 1 + j:Nat):Int))),(102, .v (.int .u64 ((u:Nat):Int))),(111, .v (.int .u64 ((P - f:Nat):Int))),(116, .v (.int .u64 (IntKind.u64.wrap (((y:Nat):Int)))))] [] ?_
        rw [Zf0 (by omega)]
        refine xf 1 [eS1 6 none 0 0,(7, .v (.int .i64 0)),(9, .v (.int .i64 ((n:Nat):Int))),(10, .v (.int .u64 ((P:Nat):Int))),eS1 11 (some ⟨b,0,none⟩) n n,eS1 15 (some ⟨bx,0,none⟩) n n,(16, .v (.int .i64 ((t:Nat):Int))),(17, .v (.int .u64 ((u:Nat):Int))),(18, .v (.int .i64 ((t + 1 + j:Nat):Int))),(102, .v (.int .u64 ((u:Nat):Int))),(117, .v (.int .u64 (IntKind.u64.wrap (((P - f:Nat):Int) * ((y:Nat):Int)))))] [] ?_
        rw [mulS (Nat.sub_le _ _) hyP hP31]
        refine xf 1 [eS1 6 none 0 0,(7, .v (.int .i64 0)),(9, .v (.int .i64 ((n:Nat):Int))),(10, .v (.int .u64 ((P:Nat):Int))),eS1 11 (some ⟨b,0,none⟩) n n,eS1 15 (some ⟨bx,0,none⟩) n n,(16, .v (.int .i64 ((t:Nat):Int))),(17, .v (.int .u64 ((u:Nat):Int))),(18, .v (.int .i64 ((t + 1 + j:Nat):Int))),(118, .v (.int .u64 (IntKind.u64.wrap (((u:Nat):Int) + (((P - f) * y:Nat):Int)))))] [] ?_
        rw [addS huP (Nat.sub_le _ _) hyP hP31]
        refine xf 1 [eS1 6 none 0 0,(7, .v (.int .i64 0)),(9, .v (.int .i64 ((n:Nat):Int))),(10, .v (.int .u64 ((P:Nat):Int))),eS1 11 (some ⟨b,0,none⟩) n n,eS1 15 (some ⟨bx,0,none⟩) n n,(16, .v (.int .i64 ((t:Nat):Int))),(17, .v (.int .u64 ((u:Nat):Int))),(18, .v (.int .i64 ((t + 1 + j:Nat):Int))),(118, .v (.int .u64 ((u + (P - f) * y:Nat):Int))),(119, .v (.int .u64 ((P:Nat):Int)))] [] ?_
        refine xj 120 (.int .u64 (((u + (P - f) * y) % P:Nat):Int)) (fun w Q=>Zdj (k:=.u64) (t:=88) (k':=88) (x:=.tmp 118) (y:=.tmp 119) (a:=(u + (P - f) * y)) (b:=P) (by omega)) ?_
        refine xf 1 [eS1 6 none 0 0,(7, .v (.int .i64 0)),(9, .v (.int .i64 ((n:Nat):Int))),(10, .v (.int .u64 ((P:Nat):Int))),eS1 11 (some ⟨b,0,none⟩) n n,eS1 15 (some ⟨bx,0,none⟩) n n,(16, .v (.int .i64 ((t:Nat):Int))),(17, .v (.int .u64 (((u + (P - f) * y) % P:Nat):Int))),(18, .v (.int .i64 ((t + 1 + j:Nat):Int)))] [] ?_
        refine xz (xe (ZaN (Zaa (Zab (xr 2 [eS1 6 none 0 0,(7, .v (.int .i64 0)),(9, .v (.int .i64 ((n:Nat):Int))),(10, .v (.int .u64 ((P:Nat):Int))),eS1 11 (some ⟨b,0,none⟩) n n,eS1 15 (some ⟨bx,0,none⟩) n n,(16, .v (.int .i64 ((t:Nat):Int))),(17, .v (.int .u64 (((u + (P - f) * y) % P:Nat):Int))),(18, .v (.int .i64 ((t + 1 + j:Nat):Int))),(101, .v (.int .i64 (IntKind.i64.wrap (((t + 1 + j:Nat):Int) + 1))))] [] ?_)))))
        rw [ZaI (k:=t + 1 + j) (by omega)]
        refine xr 1 [eS1 6 none 0 0,(7, .v (.int .i64 0)),(9, .v (.int .i64 ((n:Nat):Int))),(10, .v (.int .u64 ((P:Nat):Int))),eS1 11 (some ⟨b,0,none⟩) n n,eS1 15 (some ⟨bx,0,none⟩) n n,(16, .v (.int .i64 ((t:Nat):Int))),(17, .v (.int .u64 (((u + (P - f) * y) % P:Nat):Int))),(18, .v (.int .i64 ((t + 1 + j + 1:Nat):Int)))] [] ?_
        refine xe ?_
        refine SXq.weak [(6, .v (.slice none 0 0)),(7, .v (.int .i64 0)),(9, .v (.int .i64 ((n:Nat):Int))),(10, .v (.int .u64 ((P:Nat):Int))),(11, .v (.slice (some ⟨b,0,none⟩) n n)),(15, .v (.slice (some ⟨bx,0,none⟩) n n)),(16, .v (.int .i64 ((t:Nat):Int))),(17, .v (.int .u64 ((((u + (P - f) * y) % P):Nat):Int))),(18, .v (.int .i64 ((t + 1 + (j + 1):Nat):Int)))] [] (Ψ:=fun w=>SolI (fun w=>ArgI w A0 n R C Z∧Zaq w B0 bz) W0 w b n A' C' X' bx (xs)) (Zaw.of (by kernel_rfl)) (by kernel_rfl) (fun w Q=>Q) ?_
        exact ZaB ((n - (t + 1 + (j + 1)))) (by omega) ⟨((u + (P - f) * y) % P),(j + 1),rfl,rfl,(by rw [hu,← hf,← hy]; rfl),(Nat.mod_lt _ (by omega)),(by omega),rfl⟩
       ·have hjn:n≤t + 1 + j:=by have:=of_decide_eq_false hb26; omega
        refine ZaC (Zae (Zae (ZaO (Zaa (Zab (xr 4 [eS1 6 none 0 0,(7, .v (.int .i64 0)),(9, .v (.int .i64 ((n:Nat):Int))),(10, .v (.int .u64 ((P:Nat):Int))),eS1 11 (some ⟨b,0,none⟩) n n,eS1 15 (some ⟨bx,0,none⟩) n n,(16, .v (.int .i64 ((t:Nat):Int))),eS1 121 (some ⟨bx,0,none⟩) n n,(122, .v (.int .i64 ((t:Nat):Int))),(124, .v (.int .i64 (IntKind.i64.wrap (((u:Nat):Int)))))] [] ?_))))))
        rw [Zlq (by omega)]
        refine xk 125 (.pointer (some ⟨bx,t,none⟩)) (fun w hE' Q=>Zax (g:=bx) (len:=n) (cap:=n) (i:=t) (t:=23) (e:=3) (x:=.tmp 121) (ix:=.tmp 122) htn) ?_
        refine Zb8 (fun w=>SolI (fun w=>ArgI w A0 n R C Z∧Zaq w B0 bz) W0 w b n A' C' X' bx (xs.set t u)) (fun w hE' Q=>stX (t:=3) (x:=.tmp 125) (y:=.tmp 124) (bOld ha hb0) Q hE' (by omega)) ?_
        refine xr 0 [eS1 6 none 0 0,(7, .v (.int .i64 0)),(9, .v (.int .i64 ((n:Nat):Int))),(10, .v (.int .u64 ((P:Nat):Int))),eS1 11 (some ⟨b,0,none⟩) n n,eS1 15 (some ⟨bx,0,none⟩) n n,(16, .v (.int .i64 ((t:Nat):Int)))] [] ?_
        refine xe (ZaN (Zaa (Zab (xr 2 [eS1 6 none 0 0,(7, .v (.int .i64 0)),(9, .v (.int .i64 ((n:Nat):Int))),(10, .v (.int .u64 ((P:Nat):Int))),eS1 11 (some ⟨b,0,none⟩) n n,eS1 15 (some ⟨bx,0,none⟩) n n,(16, .v (.int .i64 ((t:Nat):Int))),(87, .v (.int .i64 (IntKind.i64.wrap (((t:Nat):Int) - 1))))] [] ?_))))
        rw [Zi7 (k:=t) (by omega)]
        refine xr 1 [eS1 6 none 0 0,(7, .v (.int .i64 0)),(9, .v (.int .i64 ((n:Nat):Int))),(10, .v (.int .u64 ((P:Nat):Int))),eS1 11 (some ⟨b,0,none⟩) n n,eS1 15 (some ⟨bx,0,none⟩) n n,(16, .v (.int .i64 (((t:Nat):Int) - 1)))] [] ?_
        refine xe ?_
        refine SXq.weak [(6, .v (.slice none 0 0)),(7, .v (.int .i64 0)),(9, .v (.int .i64 ((n:Nat):Int))),(10, .v (.int .u64 ((P:Nat):Int))),(11, .v (.slice (some ⟨b,0,none⟩) n n)),(15, .v (.slice (some ⟨bx,0,none⟩) n n)),(16, .v (.int .i64 (((t:Nat):Int) - 1)))] [] (Ψ:=fun w=>SolI (fun w=>ArgI w A0 n R C Z∧Zaq w B0 bz) W0 w b n A' C' X' bx ((xs.set t u))) (Zaw.of (by kernel_rfl)) (by kernel_rfl) (fun w Q=>Q) ?_
        exact ZaB ((1 + t)) (by omega) ⟨(xs.set t u),t,rfl,rfl,(by omega),(by rw [List.length_set]; exact hxl),(ZnH hlt huP),(hbk.step htn hxl (by rw [(show n - (t + 1)=j by omega)]; exact hu)),rfl⟩
      ·obtain rfl:i=0:=by have:=of_decide_eq_false hb25; omega
       refine ZaC (Zae (Zae (ZaO (Zaa (Zac (Zab (xr 3 [eS1 6 (some ⟨bx,0,none⟩) n n,(7, .v (.int .i64 0))] [] ?_)))))))
       refine xe (Zaa (Zao ?_))
       refine Zak (v:=.tuple #[.slice (some ⟨bx,0,none⟩) n n, .int .i64 0]) (by kernel_rfl) (fun w' S Q=>?_)
       exact ⟨⟨bx,xs,_,_, .ok P X X' r d (hc0 ▸ hc) hnb rfl hD' hR hB hr hxl hlt hbk⟩,rfl,S,fun _=>⟨Q.xr,Q.nx⟩⟩
end Go.Proofs.YthlipnahcbcjkaaGreatDoor

namespace Go.Proofs.YthlipnahcbcjkaaGreatDoor
open Go.RowKit
def ge (f:List Nat) (t:Nat):Int:=((f[t]?.getD 0:Nat):Int)
def lin (f xs:List Nat):Nat→Int
 | 0=>0
 | j + 1=>lin f xs j + ge f j * ge xs j
def EE (n:Nat) (f xs:List Nat):Int:=lin f xs n - ge f n
section
variable {p n m c:Nat} {f g h xs:List Nat} {a b:Int}
theorem ZnN:∀ (j:Nat),(∀ t,t < j→(p:Int) ∣ ge h t - (a * ge f t + b * ge g t))→(p:Int) ∣ lin h xs j - (a * lin f xs j + b * lin g xs j)
 | 0,_=>by simp [lin]
 | j + 1,H=>by
   have h1:=ZnN j (fun t ht=>H t (by omega))
   have h2:=Int.dvd_mul_of_dvd_left (c:=ge xs j) (H j (by omega))
   have h3:=Int.dvd_add h1 h2
   have e:lin h xs (j + 1) - (a * lin f xs (j + 1) + b * lin g xs (j + 1))=lin h xs j - (a * lin f xs j + b * lin g xs j) + (ge h j - (a * ge f j + b * ge g j)) * ge xs j:=by
    simp only [lin]; grind
   rw [e]; exact h3
theorem Zkw (H:∀ t,t≤n→(p:Int) ∣ ge h t - (a * ge f t + b * ge g t)):(p:Int) ∣ EE n h xs - (a * EE n f xs + b * EE n g xs):=by
 have h1:=ZnN (xs:=xs) n (fun t ht=>H t (by omega))
 have h2:=Int.dvd_sub h1 (H n (Nat.le_refl _))
 have e:EE n h xs - (a * EE n f xs + b * EE n g xs)=lin h xs n - (a * lin f xs n + b * lin g xs n) - (ge h n - (a * ge f n + b * ge g n)):=by unfold EE; grind
 rw [e]; exact h2
theorem Zer (x p:Nat):(p:Int) ∣ ((x % p:Nat):Int) - (x:Int):=⟨-((x / p:Nat):Int),by
 have:=Nat.div_add_mod x p
 have h2:((p * (x / p) + x % p:Nat):Int)=(x:Int):=by rw [this]
 rw [Int.natCast_add,Int.natCast_mul] at h2
 grind⟩
theorem Zkc {s:Nat} (hl:f.length=n + 1) (hz:∀ t,t < c→f[t]?.getD 0=0):∀ t,t≤n→(p:Int) ∣ ge (mulP c s p f (n + 1)) t - ((s:Int) * ge f t + 0 * ge f t):=fun t ht=>by
 unfold ge
 rw [ZbY]
 by_cases e:c≤t
 ·rw [if_pos ⟨e,by omega,by omega⟩]
  have:=Zer (f[t]?.getD 0 * s) p
  rw [Int.natCast_mul] at this
  have e2:(s:Int) * ((f[t]?.getD 0:Nat):Int) + 0 * ((f[t]?.getD 0:Nat):Int)=((f[t]?.getD 0:Nat):Int) * (s:Int):=by grind
  rw [e2]; exact this
 ·rw [if_neg (fun z=>e z.1),hz t (by omega)]; simp
theorem ZnO {q:Nat} (hl:f.length=n + 1) (hz:∀ t,t < c→g[t]?.getD 0=0):∀ t,t≤n→(p:Int) ∣ ge (addP c q p f g (n + 1)) t - (1 * ge f t + (q:Int) * ge g t):=fun t ht=>by
 unfold ge
 rw [Zco]
 by_cases e:c≤t
 ·rw [if_pos ⟨e,by omega,by omega⟩]
  have:=Zer (f[t]?.getD 0 + q * g[t]?.getD 0) p
  rw [Int.natCast_add,Int.natCast_mul] at this
  rw [Int.one_mul]; exact this
 ·rw [if_neg (fun z=>e z.1),hz t (by omega)]; simp
end
def Sat (p n:Nat) (X:Nat→List Nat) (xs:List Nat):Prop:=∀ i,i < n→(p:Int) ∣ EE n (X i) xs
def Ech (n:Nat) (X:Nat→List Nat) (c:Nat):Prop:=∀ i,i < n→(∀ t,t < c→t < i→(X i)[t]?.getD 0=0)∧(i < c→(X i)[i]?.getD 0=1)
section
variable {p n c r d r' d':Nat} {X X' X0:Nat→List Nat} {xs:List Nat}
theorem Zjb {r k i:Nat} (hk:r≤k) (hi:r≤i):r≤swF r k i:=by unfold swF; split<;>(try split)<;>omega
theorem Zmd {a b:Int} {q:Int} (h:q ∣ a - b) (hb:q ∣ b):q ∣ a:=by have:=Int.dvd_add h hb; rwa [Int.sub_add_cancel] at this
theorem ElStep.full (hP:Pr (p:Int)) (hB:ElB p n (n + 1) X c d) (hc:c < n) (hd0:0 < d) (Q:Ech n X c) (hs:ElStep p n (n + 1) c X c d X' r' d') (hr:r'=c + 1):Ech n X' (c + 1)∧0 < d'∧(Sat p n X' xs→Sat p n X xs):=by
 have hp2:2≤p:=by have:=hP.1; omega
 cases hs with
 | none hz=>omega
 | some k X1 d1 y F hk hkn hz hne hX1 hd1 hy hF =>
   have hB1:ElB p n (n + 1) X1 c 0:=by rw [hX1]; exact hB.sw hkn hc (by omega)
   have hy0:y≠0:=by rw [← hy,hX1]; show (X (swF c k c))[c]?.getD 0≠0; rw [ZmD]; exact hne
   have hyp:y < p:=by rw [← hy]; exact hB1.get hc (by omega)
   have hyi:y * invN y p % p=1:=Zgs hP (by rw [Nat.mod_eq_of_lt hyp]; exact hy0)
   have hzero:∀ i,c≤i→i < n→∀ t,t < c→(X1 i)[t]?.getD 0=0:=fun i hi hin t ht=>by
    rw [hX1]
    exact (Q _ (ZbM hc hkn hin)).1 t ht (Nat.lt_of_lt_of_le ht (Zjb hk hi))
   have hFl:F.length=n + 1:=by rw [hF,ZaD]; exact hB1.len c hc
   have hF0:∀ t,t < c→F[t]?.getD 0=0:=fun t ht=>by rw [hF,ZbY,if_neg (by omega)]; exact hzero c (Nat.le_refl _) hc t ht
   have hF1:F[c]?.getD 0=1:=by rw [hF,ZbY,if_pos ⟨Nat.le_refl _,by omega,by rw [hB1.len c hc]; omega⟩,hy,hyi]
   have hXlow:∀ i,i < c→X1 i=X i:=fun i hi=>by
    rw [hX1]; show X (swF c k i)=X i
    unfold swF; rw [if_neg (by omega),if_neg (by omega)]
   refine ⟨fun i hi=>?_,?_,fun hS=>?_⟩
   ·unfold addR
    by_cases h1:c < i
    ·rw [if_pos (by omega)]
     refine ⟨fun t ht hti=>?_,fun hic=>by omega⟩
     rw [Zco]
     by_cases e:t=c
     ·subst e
      rw [if_pos ⟨Nat.le_refl _,by omega,by rw [hB1.len i hi]; omega⟩,hF1,Nat.mul_one]
      have hx:=hB1.get hi (show t < n + 1 by omega)
      generalize (X1 i)[t]?.getD 0=x at hx
      rcases Nat.eq_zero_or_pos x with e | e
      ·subst e; simp
      ·rw [Nat.mod_eq_of_lt (show p - x < p by omega),show x + (p - x)=p by omega,Nat.mod_self]
     ·rw [if_neg (by omega)]; exact hzero i (by omega) hi t (by omega)
    ·rw [if_neg (by omega)]
     by_cases h2:i=c
     ·subst h2
      rw [Zas]
      exact ⟨fun t ht hti=>hF0 t hti,fun _=>hF1⟩
     ·rw [ZaP h2,hXlow i (by omega)]
      exact ⟨fun t ht hti=>(Q i hi).1 t (by omega) hti,fun _=>(Q i hi).2 (by omega)⟩
   ·have hd1p:0 < d1∧d1 < p:=by
     have:=hB.dp
     rw [hd1]
     split
     ·exact ⟨hd0,this⟩
     ·rw [Nat.mod_eq_of_lt (by omega)]; omega
    have h3:=ZnM hP (a:=(d1:Int)) (b:=(y:Int)) (by rw [Int.emod_eq_of_lt (by omega) (by omega)]; omega) (by rw [Int.emod_eq_of_lt (by omega) (by omega)]; omega)
    rw [← Int.natCast_mul,← Int.natCast_emod] at h3
    omega
   ·have hF2:(p:Int) ∣ EE n F xs:=by
     have h1:=hS c hc
     unfold addR at h1
     rw [if_neg (by omega),Zas] at h1
     exact h1
    have hX1c:(p:Int) ∣ EE n (X1 c) xs:=by
     have h1:=Zkw (xs:=xs) (Zkc (p:=p) (s:=invN y p) (hB1.len c hc) (hzero c (Nat.le_refl _) hc))
     rw [← hF] at h1
     have h2:=Int.dvd_sub hF2 h1
     have h3:(p:Int) ∣ (invN y p:Int) * EE n (X1 c) xs:=by
      have e:EE n F xs - (EE n F xs - ((invN y p:Int) * EE n (X1 c) xs + 0 * EE n (X1 c) xs))=(invN y p:Int) * EE n (X1 c) xs:=by grind
      rw [e] at h2; exact h2
     obtain ⟨u,hu⟩:=Int.dvd_trans h3 (Int.dvd_mul_left (y:Int) _)
     have h4:((y * invN y p:Nat):Int)=1 + (p:Int) * ((y * invN y p / p:Nat):Int):=by
      have:=Nat.div_add_mod (y * invN y p) p
      rw [hyi] at this
      rw [← Int.natCast_mul]; omega
     rw [Int.natCast_mul] at h4
     exact ⟨u - ((y * invN y p / p:Nat):Int) * EE n (X1 c) xs,by grind⟩
    have hall:∀ i,i < n→(p:Int) ∣ EE n (X1 i) xs:=fun i hi=>by
     have h1:=hS i hi
     unfold addR at h1
     by_cases h2:c < i
     ·rw [if_pos (by omega)] at h1
      have h3:=Zkw (xs:=xs) (ZnO (p:=p) (q:=(p - (X1 i)[c]?.getD 0) % p) (hB1.len i hi) hF0)
      have h4:=Int.dvd_sub h1 h3
      have h5:=Int.dvd_sub h4 (Int.dvd_trans hF2 (Int.dvd_mul_left (((p - (X1 i)[c]?.getD 0) % p:Nat):Int) _))
      have e:∀ A B C:Int,A - (A - (1 * B + C)) - C=B:=fun A B C=>by omega
      rw [e] at h5; exact h5
     ·rw [if_neg (by omega)] at h1
      by_cases h3:i=c
      ·subst h3; exact hX1c
      ·rw [ZaP h3] at h1; exact h1
    intro i hi
    have h6:=hall (swF c k i) (ZbM hc hkn hi)
    rw [hX1] at h6
    have h7:X (swF c k (swF c k i))=X i:=by rw [Zpj]
    rw [← h7]; exact h6
theorem ElRun.full (hP:Pr (p:Int)) (hB0:ElB p n (n + 1) X0 0 1):∀ {c:Nat} {X:Nat→List Nat} {r d:Nat},ElRun p n (n + 1) X0 c X r d→r≤c∧ElB p n (n + 1) X r d∧(r=c→Ech n X c∧0 < d∧(Sat p n X xs→Sat p n X0 xs)):=by
 intro c X r d h
 induction h with
 | nil=>exact ⟨Nat.le_refl _,hB0,fun _=>⟨fun i hi=>⟨fun t ht=>by omega,fun h=>by omega⟩,by omega,fun h=>h⟩⟩
 | snoc h hs ih =>
   obtain ⟨i1,i2,i3⟩:=ih
   have hb:=ElStep.bd (by have:=hP.1; omega) i2 hs
   cases hs with
   | none hz=>exact ⟨by omega,hb,fun e=>by omega⟩
   | some k X1 d1 y F hk hkn hz hne hX1 hd1 hy hF =>
     refine ⟨by omega,hb,fun e=>?_⟩
     rename_i c0 r0 _ _
     obtain rfl:r0=c0:=by omega
     obtain ⟨j1,j2,j3⟩:=i3 rfl
     obtain ⟨k1,k2,k3⟩:=ElStep.full (xs:=xs) hP i2 (by omega) j2 j1 (.some k X1 d1 y F hk hkn hz hne hX1 hd1 hy hF) rfl
     exact ⟨k1,k2,fun h=>j3 (k3 h)⟩
theorem Zme {f:List Nat} {t:Nat} (hp:0 < p) (hf:∀ x ∈ f,x < p):∀ j,(p:Int) ∣ ((bk p f xs n t j:Nat):Int) - (ge f n - (lin f xs (t + 1 + j) - lin f xs (t + 1)))
 | 0=>by unfold bk ge; simp
 | j + 1=>by
   have h1:=Zme (t:=t) hp hf j
   have h2:(p:Int) ∣ ((bk p f xs n t (j + 1):Nat):Int) - ((bk p f xs n t j + (p - f[t + 1 + j]?.getD 0) * xs[t + 1 + j]?.getD 0:Nat):Int):=Zer _ p
   have hle:f[t + 1 + j]?.getD 0≤p:=by
    rcases Nat.lt_or_ge (t + 1 + j) f.length with h | h
    ·exact Nat.le_of_lt (hf _ (ZcH h))
    ·rw [List.getElem?_eq_none h]; exact Nat.zero_le _
   rw [Int.natCast_add,Int.natCast_mul,Int.natCast_sub hle] at h2
   have h3:lin f xs (t + 1 + (j + 1))=lin f xs (t + 1 + j) + ge f (t + 1 + j) * ge xs (t + 1 + j):=rfl
   rw [h3]
   obtain ⟨u,hu⟩:=h1
   obtain ⟨v,hv⟩:=h2
   refine ⟨u + v + ge xs (t + 1 + j),?_⟩
   unfold ge at *
   grind
theorem Zoy (hp:0 < p) (hB:ElB p n (n + 1) X r d) (Q:Ech n X n) (hk:Zfh p n X xs 0):Sat p n X xs:=fun t ht=>by
 have hz:∀ j,j≤t→lin (X t) xs j=0:=fun j=>by
  induction j with
  | zero=>intro _; rfl
  | succ j ih =>
    intro hj
    show lin (X t) xs j + ge (X t) j * ge xs j=0
    rw [ih (by omega)]
    have:=(Q t ht).1 j (by omega) (by omega)
    unfold ge; rw [this]; simp
 have h1:lin (X t) xs (t + 1)=ge xs t:=by
  show lin (X t) xs t + ge (X t) t * ge xs t=ge xs t
  rw [hz t (Nat.le_refl _)]
  have:=(Q t ht).2 ht
  unfold ge; rw [this]; simp
 have h2:=Zme (n:=n) (xs:=xs) (t:=t) hp (hB.lt t ht) (n - (t + 1))
 rw [← hk t (Nat.zero_le _) ht,show t + 1 + (n - (t + 1))=n by omega,h1] at h2
 have e:((xs[t]?.getD 0:Nat):Int) - (ge (X t) n - (lin (X t) xs n - ge xs t))=EE n (X t) xs:=by unfold EE ge; grind
 rw [e] at h2; exact h2
end
end Go.Proofs.YthlipnahcbcjkaaGreatDoor

namespace Go.Proofs.YthlipnahcbcjkaaGreatDoor
open Go.RowKit
section
variable {p n c r d:Nat} {f g:List Nat} {X0 Y0:Nat→List Nat}
end
section
variable {p n:Nat} {f xs:List Nat}
end
end Go.Proofs.YthlipnahcbcjkaaGreatDoor

namespace Go.Proofs.YthlipnahcbcjkaaGreatDoor
open Go.RowKit
theorem Zgu {r k i:Nat}:swF r k i=swF k r i:=by unfold swF; split<;>split<;>omega
theorem ZlS {a x f p:Nat} (hx:x≤p) (hp:0 < p):(a + (p - x) % p * f) % p=(a + p - x * f % p) % p:=by
 have h1:((a + (p - x) % p * f:Nat):Int) % (p:Int)=((a:Int) - x * f) % (p:Int):=by
  obtain ⟨u,hu⟩:=Zer (p - x) p
  rw [Int.natCast_sub hx] at hu
  have e:((a + (p - x) % p * f:Nat):Int)=(a:Int) - x * f + p * (f + u * f):=by rw [Int.natCast_add,Int.natCast_mul]; grind
  rw [e,Int.add_mul_emod_self_left]
 have h2:((a + p - x * f % p:Nat):Int) % (p:Int)=((a:Int) - x * f) % (p:Int):=by
  obtain ⟨u,hu⟩:=Zer (x * f) p
  have hl:x * f % p < p:=Nat.mod_lt _ hp
  rw [Int.natCast_mul] at hu
  have e:((a + p - x * f % p:Nat):Int)=(a:Int) - x * f + p * (1 - u):=by rw [Int.natCast_sub (by omega),Int.natCast_add]; grind
  rw [e,Int.add_mul_emod_self_left]
 have h3:=h1.trans h2.symm
 rw [← Int.natCast_emod,← Int.natCast_emod] at h3
 exact Int.ofNat.inj h3
section
variable {p n m c r d x s:Nat} {f g xs:List Nat} {X0 Y0 X Y:Nat→List Nat}
theorem ZlT (hp:0 < p) (hf:∀ y ∈ f,y < p) (hl:f.length=m) (hz:∀ t,t < c→g[t]?.getD 0=0) (hx:x≤p):addP c ((p - x) % p) p f g m=subP x p f g m:=Zcp (by rw [Zbe,ZbP]) (fun t ht=>by
 rw [Zbe] at ht
 rw [Zco,Zc4]
 by_cases e:c≤t
 ·rw [if_pos ⟨e,by omega,ht⟩,if_pos ⟨by omega,ht⟩]; exact ZlS hx hp
 ·rw [if_neg (fun z=>e z.1),if_pos ⟨by omega,ht⟩,hz t (by omega),Nat.mul_zero,Nat.zero_mod,Nat.sub_zero,Nat.add_mod_right,Nat.mod_eq_of_lt (hf _ (ZcH ht))])
theorem Zpo (hl:f.length=m) (hz:∀ t,t < c→f[t]?.getD 0=0):mulP c s p f m=mulP 0 s p f m:=Zcp (by rw [ZaD,ZaD]) (fun t ht=>by
 rw [ZaD] at ht
 rw [ZbY,ZbY]
 by_cases e:c≤t
 ·rw [if_pos ⟨e,by omega,ht⟩,if_pos ⟨Nat.zero_le _,by omega,ht⟩]
 ·rw [if_neg (fun z=>e z.1),if_pos ⟨Nat.zero_le _,by omega,ht⟩,hz t (by omega),Nat.zero_mul,Nat.zero_mod])
structure Lk (n c r:Nat) (X Y:Nat→List Nat):Prop where
 same:∀ i,r≤i→i < n→X i=Y i
 zero:∀ i,r≤i→i < n→∀ t,t < c→(X i)[t]?.getD 0=0
theorem ZhC (hP:Pr (p:Int)) (hB0:ElB p n m X0 0 1) (h0:∀ i,i < n→X0 i=Y0 i):∀ {c:Nat} {X:Nat→List Nat} {r d:Nat},ElRun p n m X0 c X r d→∀ {Y:Nat→List Nat} {r' d':Nat},RRun p n m Y0 c Y r' d'→c≤m→r=r'∧r≤c∧ElB p n m X r d∧Lk n c r X Y∧(r=c→d=d'):=by
 have hp2:2≤p:=by have:=hP.1; omega
 intro c X r d hX
 induction hX with
 | nil=>intro Y r' d' hY _; cases hY; exact ⟨rfl,Nat.le_refl _,hB0,⟨fun i _ hi=>h0 i hi,fun _ _ _ t ht=>absurd ht (by omega)⟩,fun _=>rfl⟩
 | @snoc c0 r0 d0 r1 dd1 XX XX2 hx hs ih =>
   intro Y r' d' hY hc
   cases hY with
   | @snoc _ _ d0' _ _ YY _ hy hs' =>
     obtain ⟨rfl,hrc,hB,hL,hdd⟩:=ih hy (by omega)
     have hB':=ElStep.bd (by omega) hB hs
     cases hs with
     | none hz =>
       cases hs' with
       | none hz' =>
         refine ⟨rfl,by omega,hB',⟨hL.same,fun i h1 h2 t ht=>?_⟩,fun e=>by omega⟩
         rcases Nat.lt_or_ge t c0 with h | h
         ·exact hL.zero i h1 h2 t h
         ·obtain rfl:t=c0:=by omega
          exact hz i h1 h2
       | some k X1 d1 y F hk hkn hz' hne hX1 hd1 hy' hF=>exact absurd (by rw [← hL.same k hk hkn]; exact hz k hk hkn) hne
     | some k X1 d1 y F hk hkn hz hne hX1 hd1 hy1 hF =>
       cases hs' with
       | none hz'=>exact absurd (by rw [hL.same k hk hkn]; exact hz' k hk hkn) hne
       | some k' Y1 d1' y' F' hk' hkn' hz' hne' hY1 hd1' hy1' hF' =>
         obtain rfl:k=k':=by
          rcases Nat.lt_trichotomy k k' with h | h | h
          ·exact absurd (by rw [hL.same k hk hkn]; exact hz' k hk h) hne
          ·exact h
          ·exact absurd (by rw [← hL.same k' hk' hkn']; exact hz k' hk' h) hne'
         have hr0:r0 < n:=by omega
         have hs1:∀ i,r0≤i→i < n→X1 i=Y1 i:=fun i h1 h2=>by
          rw [hX1,hY1]; show XX (swF r0 k i)=YY (swF k r0 i)
          rw [Zgu (r:=k)]; exact hL.same _ (Zjb hk h1) (ZbM hr0 hkn h2)
         have hz1:∀ i,r0≤i→i < n→∀ t,t < c0→(X1 i)[t]?.getD 0=0:=fun i h1 h2 t ht=>by
          rw [hX1]; exact hL.zero _ (Zjb hk h1) (ZbM hr0 hkn h2) t ht
         have hB1:ElB p n m X1 r0 0:=by rw [hX1]; exact hB.sw hkn hr0 (by omega)
         obtain rfl:y=y':=by rw [← hy1,← hy1',hs1 r0 (Nat.le_refl _) hr0]
         have hFF:F=F':=by rw [hF,hF',← hs1 r0 (Nat.le_refl _) hr0]; exact Zpo (hB1.len r0 hr0) (hz1 r0 (Nat.le_refl _) hr0)
         have hyp:y < p:=by rw [← hy1]; exact hB1.get hr0 (by omega)
         have hy0:y≠0:=by rw [← hy1,hX1]; show (XX (swF r0 k r0))[c0]?.getD 0≠0; rw [ZmD]; exact hne
         have hyi:y * invN y p % p=1:=Zgs hP (by rw [Nat.mod_eq_of_lt hyp]; exact hy0)
         have hF0:∀ t,t < c0→F[t]?.getD 0=0:=fun t ht=>by rw [hF,ZbY,if_neg (by omega)]; exact hz1 r0 (Nat.le_refl _) hr0 t ht
         have hF1:F[c0]?.getD 0=1:=by rw [hF,ZbY,if_pos ⟨Nat.le_refl _,by omega,by rw [hB1.len r0 hr0]; omega⟩,hy1,hyi]
         refine ⟨rfl,by omega,hB',⟨fun i h1 h2=>?_,fun i h1 h2 t ht=>?_⟩,fun e=>?_⟩
         ·unfold addR subR
          rw [if_pos (by omega),if_pos (by omega),← hFF,← hs1 i (by omega) h2]
          exact ZlT (by omega) (hB1.lt i h2) (hB1.len i h2) hF0 (Nat.le_of_lt (hB1.get h2 (by omega)))
         ·unfold addR
          rw [if_pos (by omega),Zco]
          by_cases e:t=c0
          ·subst e
           rw [if_pos ⟨Nat.le_refl _,by omega,by rw [hB1.len i h2]; omega⟩,hF1,Nat.mul_one]
           have hx:=hB1.get h2 (show t < m by omega)
           generalize (X1 i)[t]?.getD 0=x at hx
           rcases Nat.eq_zero_or_pos x with e | e
           ·subst e; simp
           ·rw [Nat.mod_eq_of_lt (show p - x < p by omega),show x + (p - x)=p by omega,Nat.mod_self]
          ·rw [if_neg (by omega)]; exact hz1 i (by omega) h2 t (by omega)
         ·have:=hdd (by omega)
          subst this
          rw [hd1,hd1']
theorem RRun.more (h:RRun p n m X0 c Y r d) (hr:n≤r):∀ k,∃ d',RRun p n m X0 (c + k) Y r d'
 | 0=>⟨d,h⟩
 | k + 1=>by
   obtain ⟨d',h'⟩:=RRun.more h hr k
   exact ⟨0,h'.snoc (.none (fun i h1 h2=>absurd h1 (by omega)))⟩
theorem Zpp {cols r' d':Nat} (hP:Pr (p:Int)) (hB0:ElB p n m X0 0 1) (h0:∀ i,i < n→X0 i=Y0 i) (h:ElRun p n m X0 cols X r d) (h':RRun p n m Y0 c Y r' d') (hcm:cols≤m) (hc:c≤cols) (hend:c=cols∨n≤r'):r=r':=by
 rcases hend with rfl | hn
 ·exact (ZhC hP hB0 h0 h h' hcm).1
 ·obtain ⟨d2,h2⟩:=h'.more hn (cols - c)
  rw [show c + (cols - c)=cols by omega] at h2
  exact (ZhC hP hB0 h0 h h2 hcm).1
def Idn (n:Nat) (Y:Nat→List Nat) (c:Nat):Prop:=∀ i,i < n→∀ t,t < c→(Y i)[t]?.getD 0=if i=t then 1 else 0
theorem ZnP (hp:0 < p) (hl:f.length=n + 1):∀ t,t≤n→(p:Int) ∣ ge (subP x p f g (n + 1)) t - (1 * ge f t + (-(x:Int)) * ge g t):=fun t ht=>by
 unfold ge
 rw [Zc4,if_pos ⟨by omega,by omega⟩]
 have hl:=Nat.mod_lt (x * g[t]?.getD 0) hp
 obtain ⟨u,hu⟩:=Zer (f[t]?.getD 0 + p - x * g[t]?.getD 0 % p) p
 obtain ⟨v,hv⟩:=Zer (x * g[t]?.getD 0) p
 rw [Int.natCast_mul] at hv
 rw [Int.natCast_sub (by omega),Int.natCast_add] at hu
 exact ⟨u + 1 - v,by grind⟩
theorem RRun.full (hP:Pr (p:Int)) (hB0:ElB p n (n + 1) Y0 0 1) {c:Nat} {Y:Nat→List Nat} {r d:Nat} (h:RRun p n (n + 1) Y0 c Y r d):r≤c∧ElB p n (n + 1) Y r d∧(r=c→Idn n Y c∧(Sat p n Y0 xs→Sat p n Y xs)):=by
 have hp2:2≤p:=by have:=hP.1; omega
 induction h with
 | nil=>exact ⟨Nat.le_refl _,hB0,fun _=>⟨fun i hi t ht=>absurd ht (by omega),fun h=>h⟩⟩
 | @snoc c0 r0 d0 r1 dd1 YY YY2 h hs ih =>
   obtain ⟨i1,i2,i3⟩:=ih
   have hb:=RStep.bd (by omega) i2 hs
   cases hs with
   | none hz=>exact ⟨by omega,hb,fun e=>by omega⟩
   | some k X1 d1 y F hk hkn hz hne hX1 hd1 hy hF =>
     refine ⟨by omega,hb,fun e=>?_⟩
     obtain rfl:r0=c0:=by omega
     obtain ⟨hI,hS⟩:=i3 rfl
     have hr0:r0 < n:=by omega
     have hB1:ElB p n (n + 1) X1 r0 0:=by rw [hX1,show (fun i=>YY (swF k r0 i))=fun i=>YY (swF r0 k i) from funext fun i=>congrArg YY Zgu]; exact i2.sw hkn hr0 (by omega)
     have hX1r:X1 r0=YY k:=by rw [hX1]; show YY (swF k r0 r0)=YY k; rw [Zgu,ZmD]
     have hyp:y < p:=by rw [← hy]; exact hB1.get hr0 (by omega)
     have hy0:y≠0:=by rw [← hy,hX1r]; exact hne
     have hyi:y * invN y p % p=1:=Zgs hP (by rw [Nat.mod_eq_of_lt hyp]; exact hy0)
     have hI1:∀ i,i < n→∀ t,t < r0→(X1 i)[t]?.getD 0=if i=t then 1 else 0:=fun i hi t ht=>by
      rw [hX1]; show (YY (swF k r0 i))[t]?.getD 0=_
      rw [Zgu (r:=k)]
      rcases Nat.lt_or_ge i r0 with h | h
      ·rw [show swF r0 k i=i by unfold swF; rw [if_neg (by omega),if_neg (by omega)]]; exact hI i hi t ht
      ·rw [hI _ (ZbM hr0 hkn hi) t ht,if_neg (by have:=Zjb hk h; omega),if_neg (by omega)]
     have hF0:∀ t,t < r0→F[t]?.getD 0=0:=fun t ht=>by rw [hF,ZbY,if_pos ⟨Nat.zero_le _,by omega,by rw [hB1.len r0 hr0]; omega⟩,hI1 r0 hr0 t ht,if_neg (by omega),Nat.zero_mul,Nat.zero_mod]
     have hF1:F[r0]?.getD 0=1:=by rw [hF,ZbY,if_pos ⟨Nat.zero_le _,by omega,by rw [hB1.len r0 hr0]; omega⟩,hy,hyi]
     refine ⟨fun i hi t ht=>?_,fun h0=>?_⟩
     ·unfold subR
      by_cases e:i=r0
      ·subst e
       rw [if_neg (by omega),Zas]
       by_cases e2:t=i
       ·subst e2; rw [hF1,if_pos rfl]
       ·rw [hF0 t (by omega),if_neg (by omega)]
      ·rw [if_pos ⟨e,hi⟩,Zc4,if_pos ⟨by omega,by rw [hB1.len i hi]; omega⟩]
       by_cases e2:t=r0
       ·subst e2
        have hx:=hB1.get hi (show t < n + 1 by omega)
        rw [hF1,Nat.mul_one,Nat.mod_eq_of_lt hx,if_neg e,Nat.add_sub_cancel_left,Nat.mod_self]
       ·rw [hF0 t (by omega),Nat.mul_zero,Nat.zero_mod,Nat.sub_zero,Nat.add_mod_right,hI1 i hi t (by omega)]
        split<;>exact Nat.mod_eq_of_lt (by omega)
     ·have hS1:Sat p n X1 xs:=fun i hi=>by rw [hX1]; exact hS h0 _ (ZbM hkn hr0 hi)
      have hSF:(p:Int) ∣ EE n F xs:=by
       have h1:=Zkw (xs:=xs) (Zkc (p:=p) (c:=0) (s:=invN y p) (hB1.len r0 hr0) (fun t ht=>absurd ht (by omega)))
       rw [← hF] at h1
       have h2:=Int.dvd_trans (hS1 r0 hr0) (Int.dvd_mul_left (invN y p:Int) _)
       refine Zmd h1 ?_
       rw [Int.zero_mul,Int.add_zero]; exact h2
      intro i hi
      unfold subR
      by_cases e:i=r0
      ·subst e; rw [if_neg (by omega),Zas]; exact hSF
      ·rw [if_pos ⟨e,hi⟩]
       refine Zmd (Zkw (xs:=xs) (ZnP (p:=p) (x:=(X1 i)[r0]?.getD 0) (g:=F) (by omega) (hB1.len i hi))) ?_
       rw [Int.one_mul]
       exact Int.dvd_add (hS1 i hi) (Int.dvd_trans hSF (Int.dvd_mul_left _ _))
theorem Zmf (hI:Idn n Y n) {i:Nat} (hi:i < n):∀ j,j≤n→lin (Y i) xs j=if i < j then ge xs i else 0
 | 0,_=>by rw [if_neg (by omega)]; rfl
 | j + 1,hj=>by
   show lin (Y i) xs j + ge (Y i) j * ge xs j=_
   have h1:=hI i hi j (by omega)
   have h2:ge (Y i) j=if i=j then 1 else 0:=by unfold ge; rw [h1]; split<;>rfl
   rw [Zmf hI hi j (by omega),h2]
   rcases Nat.lt_trichotomy i j with h | h | h
   ·rw [if_pos h,if_neg (by omega),if_pos (by omega)]; simp
   ·subst h; rw [if_neg (by omega),if_pos rfl,if_pos (by omega)]; simp
   ·rw [if_neg (by omega),if_neg (by omega),if_neg (by omega)]; simp
theorem Zpq (hB:ElB p n (n + 1) Y r d) (hI:Idn n Y n) (hS:Sat p n Y xs) (hl:xs.length=n) (hlt:∀ x ∈ xs,x < p) {i:Nat} (hi:i < n):(Y i)[n]?.getD 0=xs[i]?.getD 0:=by
 have h1:=hS i hi
 unfold EE at h1
 rw [Zmf hI hi n (Nat.le_refl _),if_pos hi] at h1
 unfold ge at h1
 have h2:xs[i]?.getD 0 < p:=hlt _ (ZcH (by omega))
 have h3:=hB.get hi (show n < n + 1 by omega)
 generalize (Y i)[n]?.getD 0=a at *
 generalize xs[i]?.getD 0=b at *
 obtain ⟨u,hu⟩:=h1
 have:u=0:=by
  rcases Int.lt_trichotomy u 0 with h | h | h
  ·have:=Int.mul_le_mul_of_nonneg_left (show u ≤ -1 by omega) (show 0≤(p:Int) by omega); omega
  ·exact h
  ·have:=Int.mul_le_mul_of_nonneg_left (show 1≤u by omega) (show 0≤(p:Int) by omega); omega
 rw [this] at hu; omega
end
end Go.Proofs.YthlipnahcbcjkaaGreatDoor
