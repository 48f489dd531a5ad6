/-
 My texts Mb, Mc, Md, Mp, Mq put together.
-/
import Derived.Test.YthlipnahcbcjkaaGreatDoorQ16
import Derived.Lib.JoinLaws
set_option maxRecDepth 100000
namespace Go.Proofs.YthlipnahcbcjkaaGreatDoor
open Go.RowKit
theorem ZiC (n:Nat):madeCells #[Value.slice none 0 0] n=(List.replicate n (Value.slice none 0 0)).toArray:=by
 apply Array.ext
 ·simp [madeCells]
 ·intro i h1 h2
  simp [madeCells,Nat.mod_one]
section
variable {P:Program} {o:Oper} {ρ:Operand→Value} {w w' w0:World} {t e ty:TypeId} {x y ix l c:Operand} {k kl kc:IntKind} {te tr:TypeId} {b n m i j g q:Nat} {A:Nat→Option Addr} {C:Nat→Nat} {X:Nat→List Nat} {S0:Nat→Prop} {Γ:World→Prop}
theorem Zo7 {bw:Nat} (hn:n≤100000) (hby:bw≤24) (Q:Fr S0 w0 w) (ho:o.op=Op.makeSlice t l c:=by kernel_rfl) (ht:P.underlying t=some (.slice tr):=by kernel_rfl) (hinfo:(P.info? tr).map (fun i=>(i.zero,i.size,i.bytes))=some (some (.slice none 0 0),1,bw):=by kernel_rfl)
 (hl:ρ l=.int kl ((n:Nat):Int):=by kernel_rfl) (hc:ρ c=.int kc ((n:Nat):Int):=by kernel_rfl) :
 ∃ w',(execOp ρ o).run P w=.ok (.value (.slice (some ⟨w.heap.size,0,none⟩) n n)) w'∧Fr S0 w0 w'∧Ext w w'∧MatO k te tr w' w.heap.size n ⟨fun _=>none,fun _=>0,fun _=>[]⟩:=by
 have hrun:=run_make_row' (P:=P) t tr (.slice none 0 0) bw ht hinfo rfl kl kc n (by have:=Nat.mul_le_mul hby hn; omega) (by omega) w
 rw [ZiC] at hrun
 have hno:∀ g,¬ Zad none g:=fun g h=>by obtain ⟨_,h,_⟩:=h; cases h
 refine ⟨w.alloc (.cells (List.replicate n (Value.slice none 0 0)).toArray tr),by simp only [execOp,ho,hl,hc,Sem.run_bind,hrun,Result.andThen_ok,Sem.run_pure],Q.alloc _,(Fr.refl _ w).alloc _,⟨_,heap_alloc_new w _,List.length_replicate,fun i hi=>?_⟩,fun i _=>Buf.nil,fun i j g _ _ h=>(hno g h).elim,fun i _ h=>hno _ h⟩
 rw [List.getElem?_replicate,if_pos hi]; rfl
theorem Zo8 {bw cap:Nat} (hn:cap≤100000) (hby:bw≤8) (Q:Fr S0 w0 w) (ho:o.op=Op.makeSlice t l c:=by kernel_rfl) (ht:P.underlying t=some (.slice te):=by kernel_rfl) (hinfo:(P.info? te).map (fun i=>(i.zero,i.size,i.bytes))=some (some (.int k 0),1,bw):=by kernel_rfl)
 (hl:ρ l=.int kl 0:=by kernel_rfl) (hc:ρ c=.int kc ((cap:Nat):Int):=by kernel_rfl) :
 ∃ w',(execOp ρ o).run P w=.ok (.value (.slice (some ⟨w.heap.size,0,none⟩) 0 cap)) w'∧Fr S0 w0 w'∧Ext w w'∧Buf k te w' (some ⟨w.heap.size,0,none⟩) cap []:=by
 have hrun:=run_make_room (P:=P) t te (.int k 0) bw ht hinfo rfl kl kc cap (by have:=Nat.mul_le_mul hby hn; omega) (by omega) w
 rw [ZdS] at hrun
 have e1:ZaE k (List.replicate cap 0) []=ZaE k [] ((List.replicate cap 0).map fun x:Nat=>Value.int k (x:Int)):=by simp [ZaE]
 rw [e1] at hrun
 have hO:=Own.new w te k [] ((List.replicate cap 0).map fun x:Nat=>Value.int k (x:Int)) (fun v hv=>by obtain ⟨x,_,rfl⟩:=List.mem_map.1 hv; exact ⟨_,rfl⟩)
 exact ⟨_,by simp only [execOp,ho,hl,hc,Sem.run_bind,hrun,Result.andThen_ok,Sem.run_pure],Q.alloc _,(Fr.refl _ w).alloc _,Or.inr ⟨_,rfl,hO,⟨_,heap_alloc_new w _,by simp [ZaE]⟩,Nat.zero_le _,by simp only [maxLen]; omega⟩⟩
structure ResI (k:IntKind) (te tr:TypeId) (Γ:World→Prop) (w0 w:World) (b n:Nat) (A:Nat→Option Addr) (C:Nat→Nat) (X:Nat→List Nat):Prop where
 arg:Γ w
 mat:MatO k te tr w b n ⟨A,C,X⟩
 new:∀ g,MatB b n ⟨A,C,X⟩ g→w0.heap.size≤g
def OldG (Γ:World→Prop) (w0:World):Prop:=∀ w w' S,Ext w0 w→Γ w→Fr S w w'→(∀ g,S g→w0.heap.size≤g)→Γ w'
theorem OldG.step (hΓ:OldG Γ w0) (h0:Ext w0 w) (h:Γ w) (Q:Ext w w'):Γ w':=hΓ w w' _ h0 h Q (fun _ e=>e.elim)
theorem RowsO.row_in {M:MR} {A':Option Addr} {c':Nat} {xs:List Nat} {w w':World} {S:Nat→Prop} (h:RowsO k te w b n M) (hF:Fr S w w') (hB:Buf k te w' A' c' xs) (hS:∀ a,a < n→a≠i→∀ g,Zad (M.A a) g→¬ S g) (hd:∀ a,a < n→a≠i→∀ g,Zad A' g→¬ Zad (M.A a) g) (hb:¬ Zad A' b):RowsO k te w' b n (M.row i A' c' xs):=by
 refine ⟨fun a ha=>?_,fun a a' g ha ha' h1 h2=>?_,fun a ha=>?_⟩
 ·unfold MR.row
  by_cases e:a=i
  ·subst e; simp only [Zas]; exact hB
  ·simp only [ZaP e]; exact (h.row a ha).fr hF (fun g hg=>hS a ha e g hg)
 ·unfold MR.row at h1 h2
  by_cases e:a=i
  ·by_cases e':a'=i
   ·omega
   ·subst e; simp only [Zas] at h1; simp only [ZaP e'] at h2; exact absurd h2 (hd a' ha' e' g h1)
  ·by_cases e':a'=i
   ·subst e'; simp only [Zas] at h2; simp only [ZaP e] at h1; exact absurd h1 (hd a ha e g h2)
   ·simp only [ZaP e] at h1; simp only [ZaP e'] at h2; exact h.inj a a' g ha ha' h1 h2
 ·unfold MR.row
  by_cases e:a=i
  ·subst e; simp only [Zas]; exact hb
  ·simp only [ZaP e]; exact h.ne a ha
structure LooseI (k:IntKind) (te tr:TypeId) (Γ:World→Prop) (w0 w:World) (b n i:Nat) (A:Nat→Option Addr) (C:Nat→Nat) (X:Nat→List Nat) (A':Option Addr) (c':Nat) (xs:List Nat):Prop where
 arg:Γ w
 topI:ZbN tr w b n (MR.v ⟨A,C,X⟩)
 rows:RowsO k te w b n (MR.row ⟨A,C,X⟩ i A' c' xs)
 new:∀ g,MatB b n ⟨A,C,X⟩ g→w0.heap.size≤g
 newA:∀ g,Zad A' g→w0.heap.size≤g
theorem Zov {bw cap:Nat} (hΓ:OldG Γ w0) (h:ResI k te tr Γ w0 w b n A C X) (hn:cap≤100000) (hby:bw≤8) (Q:Ext w0 w) (ho:o.op=Op.makeSlice t l c:=by kernel_rfl) (ht:P.underlying t=some (.slice te):=by kernel_rfl) (hinfo:(P.info? te).map (fun i=>(i.zero,i.size,i.bytes))=some (some (.int k 0),1,bw):=by kernel_rfl)
 (hl:ρ l=.int kl 0:=by kernel_rfl) (hc:ρ c=.int kc ((cap:Nat):Int):=by kernel_rfl) :
 ∃ (A':Option Addr) (w':World),(execOp ρ o).run P w=.ok (.value (.slice A' 0 cap)) w'∧Ext w0 w'∧∀ w'',Ext w' w''→LooseI k te tr Γ w0 w'' b n i A C X A' cap []:=by
 obtain ⟨w',hr,h0,hE2,hB⟩:=Zo8 (P:=P) (k:=k) (te:=te) hn hby Q ho ht hinfo hl hc
 refine ⟨_,w',hr,h0,fun w'' hw=>?_⟩
 have hx:Ext w w'':=hE2.ext hw
 have hb:b < w.heap.size:=h.mat.1.lt
 exact ⟨hΓ.step Q h.arg hx,h.mat.1.ext hx,h.mat.2.row_in hx (hB.ext hw) (fun _ _ _ _ _ e=>e) (fun a ha _ g hg hg2=>by have h1:=(h.mat.2.row a ha).lt hg2; rw [Zad.eq hg] at h1; omega) (fun hg=>by rw [Zad.eq hg] at hb; omega),h.new,fun g hg=>by rw [Zad.eq hg]; exact Q.size⟩
theorem ZhW {bw:Nat} {x':Nat} (hΓ:OldG Γ w0) (h:ResI k te tr Γ w0 w b n A C X) (Q:Ext w0 w) (hi:i < n) (hlen:(X i).length=j) (hj:j≤100000) (hby:bw≤8) (hq:Zak k w (some ⟨g,0,none⟩) [x'])
 (ho:o.op=.call { callee:=.builtin .append,args:=#[x,y],argTypes:=#[t,t] }:=by kernel_rfl) (ht:P.underlying t=some (.slice te):=by kernel_rfl) (hinfo:(P.info? te).map (fun i=>(i.zero,i.size,i.bytes))=some (some (.int k 0),1,bw):=by kernel_rfl)
 (hx:ρ x=.slice (A i) j (C i):=by kernel_rfl) (hy:ρ y=.slice (some ⟨g,0,none⟩) 1 1:=by kernel_rfl) :
 ∃ (z:Option Addr × Nat) (w':World),(execOp ρ o).run P w=.ok (.value (.slice z.1 (j + 1) z.2)) w'∧Ext w0 w'∧∀ w'',Ext w' w''→LooseI k te tr Γ w0 w'' b n i A C X z.1 z.2 (X i ++ [x']):=by
 obtain ⟨A',cap',w',hrun,h2,h3,h4⟩:=ZeE (P:=P) w t o.type te k bw ht hinfo (A i) (some ⟨g,0,none⟩) j 1 (C i) 1 (X i) [x'] hlen rfl (h.mat.2.row i hi) hq (by simp only [maxLen]; omega) (by have:=Nat.mul_le_mul (show j + 1≤100001 by omega) hby; omega)
 have hnew:∀ g,Zad (A i) g→w0.heap.size≤g:=fun g hg=>h.new g (Or.inr ⟨i,hi,hg⟩)
 have h0:Ext w0 w':=Q.next h3 (fun a ha hb=>by have:=hnew a hb; omega)
 refine ⟨(A',cap'),w',?_,h0,fun w'' hw=>?_⟩
 ·simp only [execOp,ho,resolve,invoke,builtin,Sem.run_bind,Sem.run_pure,Result.andThen_ok,List.map_toArray,List.map_cons,List.map_nil,hx,hy,hrun]
 ·have hne:¬ Zad A' b:=fun hg=>by
   rcases h4 b hg with h5 | h5
   ·exact h.mat.2.ne i hi h5
   ·have:=h.mat.1.lt; omega
  have hr:=h.mat.2.row_in (i:=i) h3 h2 (fun a ha e g hg hg2=>e (h.mat.2.inj a i g ha hi hg hg2)) (fun a ha e g hg hg2=>by
   rcases h4 g hg with h5 | h5
   ·exact e (h.mat.2.inj a i g ha hi hg2 h5)
   ·have:=(h.mat.2.row a ha).lt hg2; omega) hne
  refine ⟨hΓ.step h0 (hΓ w w' _ Q h.arg h3 hnew) hw,(h.mat.1.fr h3 (h.mat.2.ne i hi)).ext hw,hr.ext hw,h.new,fun g hg=>?_⟩
  rcases h4 g hg with h5 | h5
  ·exact hnew g h5
  ·rw [h5]; exact Q.size
theorem Zhd {A':Option Addr} {c' len:Nat} {xs:List Nat} (hΓ:OldG Γ w0) (h:LooseI k te tr Γ w0 w b n i A C X A' c' xs) (Q:Ext w0 w) (hi:i < n) (hlen:xs.length=len)
 (ho:o.op=Op.store t x y:=by kernel_rfl) (hx:ρ x=.pointer (some ⟨b,i,none⟩):=by kernel_rfl) (hy:ρ y=.slice A' len c':=by kernel_rfl) (hs:(teOf P t).map (fun e=>e.size)=some 1:=by kernel_rfl) :
 ∃ w',(execOp ρ o).run P w=.ok .skip w'∧Ext w0 w'∧∀ w'',Ext w' w''→ResI k te tr Γ w0 w'' b n (upF A i A') (upF C i c') (upF X i xs):=by
 subst hlen
 obtain ⟨w',hr,hM,hF⟩:=MatO.setRow (P:=P) (t:=t) (M:=⟨A,C,X⟩) hs h.topI h.rows hi
 have hb:w0.heap.size≤b:=h.new b (Or.inl rfl)
 have h0:Ext w0 w':=Q.next hF (fun a ha hg=>by omega)
 refine ⟨w',by simp only [execOp,ho,Sem.run_bind,hx,hy,hr,Result.andThen_ok,Sem.run_pure],h0,fun w'' hw=>⟨hΓ.step h0 (hΓ w w' _ Q h.arg hF (fun g hg=>by omega)) hw,hM.ext hw,fun g hg=>?_⟩⟩
 rcases hg with rfl | ⟨a,ha,hg⟩
 ·exact hb
 ·by_cases e:a=i
  ·subst e; rw [show (MR.mk (upF A a A') (upF C a c') (upF X a xs)).A a=A' from Zas _ _ _] at hg; exact h.newA g hg
  ·rw [show (MR.mk (upF A i A') (upF C i c') (upF X i xs)).A a=A a from ZaP e] at hg; exact h.new g (Or.inr ⟨a,ha,hg⟩)
end
theorem Zfk (z p:Int) (q:Nat) (w:World) (h1 : -9223372036854775808≤z∧z≤9223372036854775807) (hp:1≤p) (hm:p≤2147483647) (hq:z % p=(q:Int)):Calls Tryz.prog 62 #[.int .i64 z, .int .i64 p] w (RetV w (.int .u64 ((q:Nat):Int))):=by
 rw [← hq]; exact (Zhs z p w h1.1 h1.2 hp hm).mono (fun _ _ ⟨h1,h2⟩=>⟨h1,by rw [h2]; exact Fr.refl _ _⟩)
def redL (p:Int) (zs:List Int):List Nat:=zs.map fun z=>(z % p).toNat
theorem Zc1 {p:Int} {zs:List Int}:(redL p zs).length=zs.length:=List.length_map _
theorem ZmD {p:Int} {zs:List Int} {j q:Nat} (hj:j < zs.length) (hq:zs.getD j 0 % p=(q:Int)):redL p (zs.take j) ++ [q]=redL p (zs.take (j + 1)):=by
 rw [List.take_add_one,List.getElem?_eq_getElem hj]
 rw [List.getD_eq_getElem?_getD,List.getElem?_eq_getElem hj] at hq
 unfold redL
 rw [List.map_append]
 simp only [Option.getD_some] at hq
 simp [hq]
theorem ZnA {p:Int} {zs:List Int} {j:Nat} (hj:zs.length≤j):redL p (zs.take j)=redL p zs:=by rw [List.take_of_length_le hj]
theorem Zlj {p:Int} {P:Nat} (hp:p=(P:Int)) (h0:0 < P) {zs:List Int}:∀ x ∈ redL p zs,x < P:=fun x hx=>by
 obtain ⟨z,_,rfl⟩:=List.mem_map.1 hx
 have h1:=Int.emod_nonneg z (show p≠0 by omega)
 have h2:=Int.emod_lt_of_pos z (show 0 < p by omega)
 omega
theorem ZfH {A0:Option Addr} {n:Nat} {R:Nat→Option Addr} {C:Nat→Nat} {Z:Nat→List Int} {w0:World} (h0:ArgI w0 A0 n R C Z):OldG (fun w=>ArgI w A0 n R C Z) w0:=fun w w' S Q _ hF hS=>h0.ext (Q.next hF (fun g hg hs=>by have:=hS g hs; omega))
def Zn0 (w:World) (n:Nat) (p:Int) (Z:Nat→List Int) (k:IntKind) (te tr:TypeId) (e:Ending) (w':World):Prop:=∃ b A C X,e=.returned (.slice (some ⟨b,0,none⟩) n n)∧Ext w w'∧MatO k te tr w' b n ⟨A,C,X⟩∧(∀ g,MatB b n ⟨A,C,X⟩ g→w.heap.size≤g)∧∀ i,i < n→X i=redL p (Z i)
theorem Zi8 {w:World} {e:TypeId} {b x:Nat} {k:IntKind} (h:Blk e w b #[.int k ((x:Nat):Int)]):Zak k w (some ⟨b,0,none⟩) [x]:=fun _ =>
 ⟨b,0,rfl,h.lt,fun i hi=>by
  have:i=0:=by simp at hi; omega
  subst this
  rw [show (0:Nat) + 0=0 from rfl,h.cell]; rfl⟩
theorem ZeV (A0:Option Addr) (n m c0:Nat) (R:Nat→Option Addr) (C:Nat→Nat) (Z:Nat→List Int) (p:Int) (W0:World) (ha:ArgI W0 A0 n R C Z) (hn:n≤1000) (hm1:m≤1000) (hm:∀ i,i < n→(Z i).length=m) (hp:1≤p) (hp31:p≤2147483647) :
 Calls Tryz.prog 61 #[.slice A0 n c0, .int .i64 p] W0 (Zn0 W0 n p Z .u64 88 93):=by
 refine Zc0 (Φ:=fun w=>ArgI w A0 n R C Z) Tryz.func61 rfl (by kernel_rfl) (fun w' hf=>ha.ext hf) ?_
 refine Zac (Zab (xr 1 [eS1 0 A0 n c0,(1, .v (.int .i64 p)),eS1 4 none 0 0] [] ?_))
 refine xe (Zaa (Zac (Zab (xr 2 [eS1 0 A0 n c0,(1, .v (.int .i64 p)),eS1 4 none 0 0,(11, .v (.int .i64 ((n:Nat):Int)))] [] ?_))))
 refine Zd1 (d:=12) (fun b:Nat=>.slice (some ⟨b,0,none⟩) n n) (fun b w=>ResI .u64 88 93 (fun w=>ArgI w A0 n R C Z) W0 w b n (fun _=>none) (fun _=>0) (fun _=>[])) (fun w hE' Q=>(fun ⟨w',h1,h2,h3,h4⟩=>⟨w.heap.size,w',h1,h2,fun w'' hw=>⟨Q.ext (h3.ext hw),h4.ext hw,fun g hg=>hg.elim (fun e=>e ▸ hE'.size) (fun ⟨_,_,_,h5,_⟩=>nomatch h5)⟩⟩) (Zo7 (k:=.u64) (te:=88) (t:=91) (l:=.tmp 11) (c:=.tmp 11) (n:=n) (bw:=24) (kl:=.i64) (kc:=.i64) (by omega) (by decide) hE')) (fun b=>?_)
 refine xr 1 [eS1 0 A0 n c0,(1, .v (.int .i64 p)),eS1 4 none 0 0,eS1 5 (some ⟨b,0,none⟩) n n] [] ?_
 refine xe (Zaa (Zac (Zac (Zab (xr 3 [(1, .v (.int .i64 p)),eS1 4 none 0 0,eS1 5 (some ⟨b,0,none⟩) n n,eS1 13 A0 n c0,(14, .v (.int .i64 ((n:Nat):Int))),(15, .v (.int .i64 0))] [] ?_)))))
 refine xe (Zaa (Zar ?_))
 refine SXc.weak [(1, .v (.int .i64 p)),(4, .v (.slice none 0 0)),(5, .v (.slice (some ⟨b,0,none⟩) n n)),(13, .v (.slice A0 n c0)),(14, .v (.int .i64 ((n:Nat):Int))),(15, .v (.int .i64 ((0:Nat):Int)))] [] (Ψ:=fun w=>ResI .u64 88 93 (fun w=>ArgI w A0 n R C Z) W0 w b n ((fun _=>none)) ((fun _=>0)) ((fun _=>[]))) (ZaA.of (by kernel_rfl)) (by kernel_rfl) (fun w Q=>Q) ?_
 refine Zbs (fun nn ss ff=>∃ (A:Nat→Option Addr) (C1:Nat→Nat) (X:Nat→List Nat) (i:Nat),ss=ofL [(1, .v (.int .i64 p)),(4, .v (.slice none 0 0)),(5, .v (.slice (some ⟨b,0,none⟩) n n)),(13, .v (.slice A0 n c0)),(14, .v (.int .i64 ((n:Nat):Int))),(15, .v (.int .i64 ((i:Nat):Int)))] []∧ff=(fun w=>ResI .u64 88 93 (fun w=>ArgI w A0 n R C Z) W0 w b n (A) (C1) (X))∧(i≤n)∧(∀ a,a < i→X a=redL p (Z a))∧nn=(n - i)) ((n - 0)) ⟨(fun _=>none),(fun _=>0),(fun _=>[]),0,rfl,rfl,Nat.zero_le _,fun a ha=>absurd ha (by omega),rfl⟩ ?_
 rintro nn ss ff ⟨A,C1,X,i,rfl,rfl,hi,hXd,rfl⟩
 refine Zac (Zab (xr 1 [(1, .v (.int .i64 p)),eS1 4 none 0 0,eS1 5 (some ⟨b,0,none⟩) n n,eS1 13 A0 n c0,(14, .v (.int .i64 ((n:Nat):Int))),(15, .v (.int .i64 ((i:Nat):Int))),(16, .v (.bool (decide (((i:Nat):Int) < ((n:Nat):Int)))))] [] ?_))
 refine xe (Zaa (Zac ?_))
 refine Zax ((decide (((i:Nat):Int) < ((n:Nat):Int)))) (by kernel_rfl) (fun hb10=>?_) (fun hb10=>?_)
 ·have hin:i < n:=by have:=of_decide_eq_true hb10; omega
  refine Zap (Zaa (Zac (Zar (Zac (Zab (xr 1 [(1, .v (.int .i64 p)),eS1 4 none 0 0,eS1 5 (some ⟨b,0,none⟩) n n,eS1 13 A0 n c0,(14, .v (.int .i64 ((n:Nat):Int))),(15, .v (.int .i64 ((i:Nat):Int))),(17, .v (.int .i64 ((i:Nat):Int)))] [] ?_))))))
  refine xk 18 (atA A0 i) (fun w hE' Q=>ZeT (t:=22) (e:=23) (x:=.tmp 13) (ix:=.tmp 15) (i:=i) (cap:=c0) Q.arg hin) ?_
  refine xk 19 (.slice (R i) m (C i)) (fun w hE' Q=>ZeU (t:=23) (x:=.tmp 18) (i:=i) Q.arg hin (hm i hin)) ?_
  refine xr 2 [(1, .v (.int .i64 p)),eS1 4 none 0 0,eS1 5 (some ⟨b,0,none⟩) n n,(6, .v (.int .i64 ((i:Nat):Int))),eS1 7 (R i) m (C i),eS1 13 A0 n c0,(14, .v (.int .i64 ((n:Nat):Int))),(15, .v (.int .i64 ((i:Nat):Int)))] [] ?_
  refine xe (Zaa (Zac (Zab (xr 5 [(1, .v (.int .i64 p)),eS1 4 none 0 0,eS1 5 (some ⟨b,0,none⟩) n n,(6, .v (.int .i64 ((i:Nat):Int))),eS1 7 (R i) m (C i),eS1 13 A0 n c0,(14, .v (.int .i64 ((n:Nat):Int))),(15, .v (.int .i64 ((i:Nat):Int))),eS1 20 (some ⟨b,0,none⟩) n n,(21, .v (.int .i64 ((i:Nat):Int))),(24, .v (.int .i64 (IntKind.i64.wrap (((m:Nat):Int) + 1))))] [] ?_))))
  rw [Zbh (k:=m) (by omega)]
  refine Zd1 (d:=25) (fun A2:Option Addr=>.slice A2 0 (m + 1)) (fun A2 w=>LooseI .u64 88 93 (fun w=>ArgI w A0 n R C Z) W0 w b n i (A) (C1) (X) (A2) (m + 1) ([])) (fun w hE' Q=>Zov (t:=93) (l:=.const (.int .i64 0)) (c:=.tmp 24) (bw:=8) (kl:=.i64) (kc:=.i64) (ZfH ha) Q (by omega) (by decide) hE') (fun A2=>?_)
  refine xk 26 (.pointer (some ⟨b,i,none⟩)) (fun w hE' Q=>ZaH (g:=b) (len:=n) (cap:=n) (i:=i) (t:=91) (e:=93) (x:=.tmp 20) (ix:=.tmp 21) hin) ?_
  refine Zdj (fun w=>ResI .u64 88 93 (fun w=>ArgI w A0 n R C Z) W0 w b n (upF A i A2) (upF C1 i (m + 1)) (upF X i [])) (fun w hE' Q=>Zhd (t:=93) (x:=.tmp 26) (y:=.tmp 25) (ZfH ha) Q hE' hin rfl) ?_
  refine xr 0 [(1, .v (.int .i64 p)),eS1 4 none 0 0,eS1 5 (some ⟨b,0,none⟩) n n,(6, .v (.int .i64 ((i:Nat):Int))),eS1 7 (R i) m (C i),eS1 13 A0 n c0,(14, .v (.int .i64 ((n:Nat):Int))),(15, .v (.int .i64 ((i:Nat):Int)))] [] ?_
  refine xe (Zaa (Zac (Zab (xr 3 [(1, .v (.int .i64 p)),eS1 4 none 0 0,eS1 5 (some ⟨b,0,none⟩) n n,(6, .v (.int .i64 ((i:Nat):Int))),eS1 13 A0 n c0,(14, .v (.int .i64 ((n:Nat):Int))),(15, .v (.int .i64 ((i:Nat):Int))),eS1 27 (R i) m (C i),(28, .v (.int .i64 ((m:Nat):Int))),(29, .v (.int .i64 0))] [] ?_))))
  refine xe (Zaa (Zar ?_))
  refine SXc.weak [(1, .v (.int .i64 p)),(4, .v (.slice none 0 0)),(5, .v (.slice (some ⟨b,0,none⟩) n n)),(6, .v (.int .i64 ((i:Nat):Int))),(13, .v (.slice A0 n c0)),(14, .v (.int .i64 ((n:Nat):Int))),(15, .v (.int .i64 ((i:Nat):Int))),(27, .v (.slice (R i) m (C i))),(28, .v (.int .i64 ((m:Nat):Int))),(29, .v (.int .i64 ((0:Nat):Int)))] [] (Ψ:=fun w=>ResI .u64 88 93 (fun w=>ArgI w A0 n R C Z) W0 w b n ((upF A i A2)) ((upF C1 i (m + 1))) ((upF X i []))) (ZaA.of (by kernel_rfl)) (by kernel_rfl) (fun w Q=>Q) ?_
  refine Zbs (fun nn ss ff=>∃ (A:Nat→Option Addr) (C1:Nat→Nat) (X:Nat→List Nat) (j:Nat),ss=ofL [(1, .v (.int .i64 p)),(4, .v (.slice none 0 0)),(5, .v (.slice (some ⟨b,0,none⟩) n n)),(6, .v (.int .i64 ((i:Nat):Int))),(13, .v (.slice A0 n c0)),(14, .v (.int .i64 ((n:Nat):Int))),(15, .v (.int .i64 ((i:Nat):Int))),(27, .v (.slice (R i) m (C i))),(28, .v (.int .i64 ((m:Nat):Int))),(29, .v (.int .i64 ((j:Nat):Int)))] []∧ff=(fun w=>ResI .u64 88 93 (fun w=>ArgI w A0 n R C Z) W0 w b n (A) (C1) (X))∧(j≤m)∧(X i=redL p ((Z i).take j))∧(∀ a,a < i→X a=redL p (Z a))∧nn=(m - j)) ((m - 0)) ⟨(upF A i A2),(upF C1 i (m + 1)),(upF X i []),0,rfl,rfl,Nat.zero_le _,(by rw [Zas]; rfl),(fun a ha=>by rw [ZaP (by omega)]; exact hXd a ha),rfl⟩ ?_
  rintro nn ss ff ⟨A,C1,X,j,rfl,rfl,hj,hXi,hXd,rfl⟩
  refine Zac (Zab (xr 1 [(1, .v (.int .i64 p)),eS1 4 none 0 0,eS1 5 (some ⟨b,0,none⟩) n n,(6, .v (.int .i64 ((i:Nat):Int))),eS1 13 A0 n c0,(14, .v (.int .i64 ((n:Nat):Int))),(15, .v (.int .i64 ((i:Nat):Int))),eS1 27 (R i) m (C i),(28, .v (.int .i64 ((m:Nat):Int))),(29, .v (.int .i64 ((j:Nat):Int))),(30, .v (.bool (decide (((j:Nat):Int) < ((m:Nat):Int)))))] [] ?_))
  refine xe (Zaa (Zac ?_))
  refine Zax ((decide (((j:Nat):Int) < ((m:Nat):Int)))) (by kernel_rfl) (fun hb11=>?_) (fun hb11=>?_)
  ·have hjm:j < m:=by have:=of_decide_eq_true hb11; omega
   refine Zap (Zaa (Zac (Zar (Zac ?_))))
   obtain ⟨z,hz⟩:∃ z,(Z i).getD j 0=z:=⟨_,rfl⟩
   have hz64 : -9223372036854775808≤z∧z≤9223372036854775807:=by rw [← hz]; exact (ha.i64 i hin).at j
   obtain ⟨q,hq⟩:∃ q:Nat,z % p=(q:Int):=Int.eq_ofNat_of_zero_le (Int.emod_nonneg z (by omega))
   have hXj:(X i).length=j:=by rw [hXi,Zc1,List.length_take,hm i hin]; omega
   refine Zab ?_
   refine xk 31 (atA (R i) j) (fun w hE' Q=>ZfF (t:=23) (e:=3) (x:=.tmp 27) (ix:=.tmp 29) (cap:=C i) (Q.arg.row i hin) (hm i hin) hjm) ?_
   refine xk 32 (.int .i64 z) (fun w hE' Q=>ZfG (t:=3) (x:=.tmp 31) (j:=j) (Q.arg.row i hin) (by rw [hm i hin]; exact hjm) hz) ?_
   refine xr 1 [(1, .v (.int .i64 p)),eS1 4 none 0 0,eS1 5 (some ⟨b,0,none⟩) n n,(6, .v (.int .i64 ((i:Nat):Int))),(9, .v (.int .i64 z)),eS1 13 A0 n c0,(14, .v (.int .i64 ((n:Nat):Int))),(15, .v (.int .i64 ((i:Nat):Int))),eS1 27 (R i) m (C i),(28, .v (.int .i64 ((m:Nat):Int))),(29, .v (.int .i64 ((j:Nat):Int)))] [] ?_
   refine xe (Zaa ?_)
   refine ZfY 10 5 33 6 34 5 35 6 36 (.slice (some ⟨b,0,none⟩) n n) (.int .i64 ((i:Nat):Int)) (.slice (some ⟨b,0,none⟩) n n) (.int .i64 ((i:Nat):Int)) ?_
   refine xf 0 [(1, .v (.int .i64 p)),eS1 4 none 0 0,eS1 5 (some ⟨b,0,none⟩) n n,(6, .v (.int .i64 ((i:Nat):Int))),(9, .v (.int .i64 z)),eS1 13 A0 n c0,(14, .v (.int .i64 ((n:Nat):Int))),(15, .v (.int .i64 ((i:Nat):Int))),eS1 27 (R i) m (C i),(28, .v (.int .i64 ((m:Nat):Int))),(29, .v (.int .i64 ((j:Nat):Int))),eS1 33 (some ⟨b,0,none⟩) n n,(34, .v (.int .i64 ((i:Nat):Int))),eS1 35 (some ⟨b,0,none⟩) n n,(36, .v (.int .i64 ((i:Nat):Int)))] [] ?_
   refine xj 37 (.pointer (some ⟨b,i,none⟩)) (fun w Q=>ZaH (g:=b) (len:=n) (cap:=n) (i:=i) (t:=91) (e:=93) (x:=.tmp 35) (ix:=.tmp 36) hin) ?_
   refine xj 38 (.slice (A i) j (C1 i)) (fun w Q=>Zcb (t:=93) (x:=.tmp 37) Q.mat hin hXj) ?_
   refine xf 2 [(1, .v (.int .i64 p)),eS1 4 none 0 0,eS1 5 (some ⟨b,0,none⟩) n n,(6, .v (.int .i64 ((i:Nat):Int))),eS1 13 A0 n c0,(14, .v (.int .i64 ((n:Nat):Int))),(15, .v (.int .i64 ((i:Nat):Int))),eS1 27 (R i) m (C i),(28, .v (.int .i64 ((m:Nat):Int))),(29, .v (.int .i64 ((j:Nat):Int))),eS1 33 (some ⟨b,0,none⟩) n n,(34, .v (.int .i64 ((i:Nat):Int))),eS1 38 (A i) j (C1 i),(39, .v (.int .i64 z)),(40, .v (.int .i64 p))] [] ?_
   refine xd 62 [.int .i64 z, .int .i64 p] 41 (fun _:Unit=>.int .u64 ((q:Nat):Int)) _ (fun w S Q=>(Zfk z p q _ hz64 hp hp31 hq).mono (fun _ _ h=>Zau h rfl)) (fun xx=>?_)
   refine xf 0 [(1, .v (.int .i64 p)),eS1 4 none 0 0,eS1 5 (some ⟨b,0,none⟩) n n,(6, .v (.int .i64 ((i:Nat):Int))),eS1 13 A0 n c0,(14, .v (.int .i64 ((n:Nat):Int))),(15, .v (.int .i64 ((i:Nat):Int))),eS1 27 (R i) m (C i),(28, .v (.int .i64 ((m:Nat):Int))),(29, .v (.int .i64 ((j:Nat):Int))),eS1 33 (some ⟨b,0,none⟩) n n,(34, .v (.int .i64 ((i:Nat):Int))),eS1 38 (A i) j (C1 i),(41, .v (.int .u64 ((q:Nat):Int)))] [] ?_
   refine Zi1 42 (fun zb:Nat=>.slice (some ⟨zb,0,none⟩) 1 1) (fun zb zw=>Blk 88 zw zb #[.int .u64 ((q:Nat):Int)]) (by kernel_rfl) (by kernel_rfl) (by kernel_rfl) (by kernel_rfl) (by kernel_rfl) (by kernel_rfl) (by kernel_rfl) (fun w S Q=>Zdh (t:=93) (e:=88) (n:=1) (sz:=1) (z:=.int .u64 0) (parts:=#[(0,Operand.tmp 41)]) (by kernel_rfl) (by kernel_rfl) (by kernel_rfl) (by kernel_rfl) (by kernel_rfl) (by kernel_rfl)) (fun b12=>?_)
   refine xf 0 [(1, .v (.int .i64 p)),eS1 4 none 0 0,eS1 5 (some ⟨b,0,none⟩) n n,(6, .v (.int .i64 ((i:Nat):Int))),eS1 13 A0 n c0,(14, .v (.int .i64 ((n:Nat):Int))),(15, .v (.int .i64 ((i:Nat):Int))),eS1 27 (R i) m (C i),(28, .v (.int .i64 ((m:Nat):Int))),(29, .v (.int .i64 ((j:Nat):Int))),eS1 33 (some ⟨b,0,none⟩) n n,(34, .v (.int .i64 ((i:Nat):Int))),eS1 38 (A i) j (C1 i),eS1 42 (some ⟨b12,0,none⟩) 1 1] [] ?_
   refine xz ?_
   refine Zd1 (d:=43) (fun z:Option Addr × Nat=>.slice z.1 (j + 1) z.2) (fun z w=>LooseI .u64 88 93 (fun w=>ArgI w A0 n R C Z) W0 w b n i (A) (C1) (X) (z.1) (z.2) (X i ++ [q])) (fun w hE' Q=>ZhW (t:=93) (x:=.tmp 38) (y:=.tmp 42) (g:=b12) (x':=q) (bw:=8) (ZfH ha) Q.1.1 hE' hin hXj (by omega) (by decide) (Zi8 Q.2)) (fun z=>?_)
   obtain ⟨A3,c3⟩:=z
   refine xk 44 (.pointer (some ⟨b,i,none⟩)) (fun w hE' Q=>ZaH (g:=b) (len:=n) (cap:=n) (i:=i) (t:=91) (e:=93) (x:=.tmp 33) (ix:=.tmp 34) hin) ?_
   refine Zdj (fun w=>ResI .u64 88 93 (fun w=>ArgI w A0 n R C Z) W0 w b n (upF A i A3) (upF C1 i c3) (upF X i (X i ++ [q]))) (fun w hE' Q=>Zhd (t:=93) (x:=.tmp 44) (y:=.tmp 43) (ZfH ha) Q hE' hin (by rw [List.length_append,hXj,List.length_singleton])) ?_
   refine xr 0 [(1, .v (.int .i64 p)),eS1 4 none 0 0,eS1 5 (some ⟨b,0,none⟩) n n,(6, .v (.int .i64 ((i:Nat):Int))),eS1 13 A0 n c0,(14, .v (.int .i64 ((n:Nat):Int))),(15, .v (.int .i64 ((i:Nat):Int))),eS1 27 (R i) m (C i),(28, .v (.int .i64 ((m:Nat):Int))),(29, .v (.int .i64 ((j:Nat):Int)))] [] ?_
   refine xe (Zbr (Zaa (Zab (xr 1 [(1, .v (.int .i64 p)),eS1 4 none 0 0,eS1 5 (some ⟨b,0,none⟩) n n,(6, .v (.int .i64 ((i:Nat):Int))),eS1 13 A0 n c0,(14, .v (.int .i64 ((n:Nat):Int))),(15, .v (.int .i64 ((i:Nat):Int))),eS1 27 (R i) m (C i),(28, .v (.int .i64 ((m:Nat):Int))),(29, .v (.int .i64 ((j:Nat):Int))),(45, .v (.int .i64 (IntKind.i64.wrap (((j:Nat):Int) + 1))))] [] ?_))))
   rw [Zbh (k:=j) (by omega)]
   refine xr 1 [(1, .v (.int .i64 p)),eS1 4 none 0 0,eS1 5 (some ⟨b,0,none⟩) n n,(6, .v (.int .i64 ((i:Nat):Int))),eS1 13 A0 n c0,(14, .v (.int .i64 ((n:Nat):Int))),(15, .v (.int .i64 ((i:Nat):Int))),eS1 27 (R i) m (C i),(28, .v (.int .i64 ((m:Nat):Int))),(29, .v (.int .i64 ((j + 1:Nat):Int)))] [] ?_
   refine xe ?_
   refine SXq.weak [(1, .v (.int .i64 p)),(4, .v (.slice none 0 0)),(5, .v (.slice (some ⟨b,0,none⟩) n n)),(6, .v (.int .i64 ((i:Nat):Int))),(13, .v (.slice A0 n c0)),(14, .v (.int .i64 ((n:Nat):Int))),(15, .v (.int .i64 ((i:Nat):Int))),(27, .v (.slice (R i) m (C i))),(28, .v (.int .i64 ((m:Nat):Int))),(29, .v (.int .i64 (((j + 1):Nat):Int)))] [] (Ψ:=fun w=>ResI .u64 88 93 (fun w=>ArgI w A0 n R C Z) W0 w b n ((upF A i A3)) ((upF C1 i c3)) ((upF X i (X i ++ [q])))) (ZaA.of (by kernel_rfl)) (by kernel_rfl) (fun w Q=>Q) ?_
   exact Za0 ((m - (j + 1))) (by omega) ⟨(upF A i A3),(upF C1 i c3),(upF X i (X i ++ [q])),(j + 1),rfl,rfl,(by omega),(by rw [Zas,hXi]; exact ZmD (by rw [hm i hin]; exact hjm) (by rw [hz]; exact hq)),(fun a ha=>by rw [ZaP (by omega)]; exact hXd a ha),rfl⟩
  ·have hjm:m≤j:=by have:=of_decide_eq_false hb11; omega
   refine Zbf (Zaj (Zaj (Zbv (Zbr (Zaa (Zab (xr 1 [(1, .v (.int .i64 p)),eS1 4 none 0 0,eS1 5 (some ⟨b,0,none⟩) n n,eS1 13 A0 n c0,(14, .v (.int .i64 ((n:Nat):Int))),(15, .v (.int .i64 ((i:Nat):Int))),(46, .v (.int .i64 (IntKind.i64.wrap (((i:Nat):Int) + 1))))] [] ?_)))))))
   rw [Zbh (k:=i) (by omega)]
   refine xr 1 [(1, .v (.int .i64 p)),eS1 4 none 0 0,eS1 5 (some ⟨b,0,none⟩) n n,eS1 13 A0 n c0,(14, .v (.int .i64 ((n:Nat):Int))),(15, .v (.int .i64 ((i + 1:Nat):Int)))] [] ?_
   refine xe ?_
   refine SXq.weak [(1, .v (.int .i64 p)),(4, .v (.slice none 0 0)),(5, .v (.slice (some ⟨b,0,none⟩) n n)),(13, .v (.slice A0 n c0)),(14, .v (.int .i64 ((n:Nat):Int))),(15, .v (.int .i64 (((i + 1):Nat):Int)))] [] (Ψ:=fun w=>ResI .u64 88 93 (fun w=>ArgI w A0 n R C Z) W0 w b n (A) (C1) (X)) (ZaA.of (by kernel_rfl)) (by kernel_rfl) (fun w Q=>Q) ?_
   exact Za0 ((n - (i + 1))) (by omega) ⟨A,C1,X,(i + 1),rfl,rfl,(by omega),(fun a ha=>by rcases Nat.lt_or_ge a i with h3 | h3; exact hXd a h3; obtain rfl:a=i:=(by omega); rw [hXi]; exact ZnA (by rw [hm a (by omega)]; omega)),rfl⟩
 ·have hin:n≤i:=by have:=of_decide_eq_false hb10; omega
  refine Zbf (Zaj (Zaj (Zbv (Zaa (Zac (Zab (xr 2 [eS1 4 (some ⟨b,0,none⟩) n n] [] ?_)))))))
  refine xe (Zaa (Zaw ?_))
  refine Zaq (v:=.slice (some ⟨b,0,none⟩) n n) (by kernel_rfl) (fun w' S Q=>?_)
  exact ⟨b,A,C1,X,rfl,S,Q.mat,Q.new,fun a ha=>hXd a (by omega)⟩
end Go.Proofs.YthlipnahcbcjkaaGreatDoor

namespace Go.Proofs.YthlipnahcbcjkaaGreatDoor
open Go.RowKit
theorem ChkIs.okk {n:Nat} {Z:Nat→List Int} {p c:Int} {sq:Bool} (h:ChkIs n Z p sq c) (h0:c=0):prB p=true∧0 < n∧(Z 0).length≠0∧(sq=true→(Z 0).length=n)∧(∀ i,i < n→(Z i).length=(Z 0).length)∧n≤64∧(Z 0).length≤64:=by
 cases h with
 | ok h hn hz hs he hl hl2=>exact ⟨h,hn,hz,hs,he,hl,hl2⟩
 | _=>exact absurd h0 (by decide)
theorem ZgN {p:Int} (h:prB p=true):∃ P:Nat,p=(P:Int)∧2≤P∧P≤2147483647∧Pr p:=by
 have hP:=ZcV.1 h
 have h1:=hP.1
 have h2:=hP.2.1
 exact ⟨p.toNat,by omega,by omega,by omega,hP⟩
structure RsX (n:Nat) (p:Int) (Z:Nat→List Int) where
 b:Nat
 A:Nat→Option Addr
 C:Nat→Nat
 X:Nat→List Nat
 hX:∀ i,i < n→X i=redL p (Z i)
section
variable {k:IntKind} {te tr:TypeId} {Γ:World→Prop} {w w0:World} {n m cols P b:Nat} {p:Int} {Z:Nat→List Int} {A:Nat→Option Addr} {C:Nat→Nat} {X:Nat→List Nat}
theorem ZhX {e:Ending} {w':World} (hΓ:OldG Γ w0) (hg:Γ w) (Q:Ext w0 w) (h:Zn0 w n p Z k te tr e w'):∃ x:RsX n p Z,e=.returned (.slice (some ⟨x.b,0,none⟩) n n)∧Ext w0 w'∧∀ w'',Ext w' w''→ResI k te tr Γ w0 w'' x.b n x.A x.C x.X:=by
 obtain ⟨b,A,C,X,rfl,h1,h2,h3,h4⟩:=h
 exact ⟨⟨b,A,C,X,h4⟩,rfl,Q.ext h1,fun w'' hw=>⟨hΓ.step Q hg (h1.ext hw),h2.ext hw,fun g hg=>Nat.le_trans Q.size (h3 g hg)⟩⟩
structure ElX (p n m cols:Nat) (X0:Nat→List Nat) where
 r:Nat
 d:Nat
 A:Nat→Option Addr
 C:Nat→Nat
 X:Nat→List Nat
 hR:ElRun p n m X0 cols X r d
 hB:ElB p n m X r d
theorem Zi9 {e:Ending} {w':World} (hΓ:OldG Γ w0) (hg:ResI .u64 88 93 Γ w0 w b n A C X) (Q:Ext w0 w) (h:ZnY w b n m cols P A C X e w'):∃ x:ElX P n m cols X,e=.returned (.tuple #[.int .i64 ((x.r:Nat):Int), .int .u64 ((x.d:Nat):Int)])∧Ext w0 w'∧∀ w'',Ext w' w''→ResI .u64 88 93 Γ w0 w'' b n x.A x.C x.X:=by
 obtain ⟨r,d,A',C',X',rfl,h1,h2,h3,h4,h5⟩:=h
 have h0:Ext w0 w':=Q.next h1 (fun g hg2 hg3=>by have:=hg.new g hg3; omega)
 refine ⟨⟨r,d,A',C',X',h2,h3⟩,rfl,h0,fun w'' hw=>⟨hΓ.step h0 (hΓ w w' _ Q hg.arg h1 hg.new) hw,h5.ext hw,fun g hg2=>?_⟩⟩
 rcases hg2 with rfl | ⟨i,hi,hg2⟩
 ·exact hg.new _ (Or.inl rfl)
 ·obtain ⟨j,hj,e⟩:=h4 i hi
  exact hg.new g (Or.inr ⟨j,hj,by show Zad (A j) g; rw [← e]; exact hg2⟩)
theorem ZgO {x:Nat} (h:x≤2147483647):IntKind.u64.wrap ((x:Nat):Int)=((x:Nat):Int):=by rw [IntKind.wrap_u64]; omega
theorem ZkB {x:Nat} (h:x≤2147483647):IntKind.i64.wrap ((x:Nat):Int)=((x:Nat):Int):=by rw [IntKind.wrap_i64]; omega
theorem ZnB (hp:p=(P:Int)) (h0:2≤P) (hX:∀ i,i < n→X i=redL p (Z i)) (hm:∀ i,i < n→(Z i).length=m):ElB P n m X 0 1 :=
 ⟨fun i hi=>by rw [hX i hi,Zc1,hm i hi],fun i hi=>by rw [hX i hi]; exact Zlj hp (by omega),Nat.zero_le _,by omega⟩
end
inductive DetIs (n:Nat) (Z:Nat→List Int) (p:Int):Int→Int→Prop
 | err (c:Int) (hc:ChkIs n Z p true c) (h0:c≠0):DetIs n Z p 0 c
 | low (P:Nat) (X0 X:Nat→List Nat) (r d:Nat) (hc:ChkIs n Z p true 0) (hp:p=(P:Int)) (hX:∀ i,i < n→X0 i=redL p (Z i)) (hR:ElRun P n n X0 n X r d) (hr:r < n):DetIs n Z p 0 0
 | full (P:Nat) (X0 X:Nat→List Nat) (r d:Nat) (hc:ChkIs n Z p true 0) (hp:p=(P:Int)) (hX:∀ i,i < n→X0 i=redL p (Z i)) (hR:ElRun P n n X0 n X r d) (hB:ElB P n n X r d) (hr:¬ r < n):DetIs n Z p ((d:Nat):Int) 0
def ZmE (w:World) (n:Nat) (Z:Nat→List Int) (p:Int) (e:Ending) (w':World):Prop:=∃ d c:Int,e=.returned (.tuple #[.int .i64 d, .int .i64 c])∧DetIs n Z p d c∧Ext w w'
theorem ZlO {c:Int} (h:((c:Int) != 0)=true):c≠0:=by simpa using h
theorem ZlP {c:Int} (h:((c:Int) != 0)=false):c=0:=by simpa using h
theorem Zow (A0:Option Addr) (n c0:Nat) (R:Nat→Option Addr) (C:Nat→Nat) (Z:Nat→List Int) (p:Int) (W0:World) (ha:ArgI W0 A0 n R C Z) (hn1:n≤100000) :
 Calls Tryz.prog 11 #[.slice A0 n c0, .int .i64 p] W0 (ZmE W0 n Z p):=by
 refine Zc0 (Φ:=fun w=>ArgI w A0 n R C Z) Tryz.func11 rfl (by kernel_rfl) (fun w' hf=>ha.ext hf) ?_
 refine Zac (Zab (xr 2 [eS1 0 A0 n c0,(1, .v (.int .i64 p)),(4, .v (.int .i64 0)),(5, .v (.int .i64 0))] [] ?_))
 refine xe (Zaa (Zac (Zac (Zab (xr 2 [eS1 0 A0 n c0,(1, .v (.int .i64 p)),(4, .v (.int .i64 0)),(5, .v (.int .i64 0)),eS1 9 A0 n c0,(10, .v (.int .i64 p))] [] ?_)))))
 refine xc 59 [.slice A0 n c0, .int .i64 p, .bool true] 11 (fun c:{c:Int // ChkIs n Z p true c}=>.int .i64 c.1) _ (fun w S Q=>(ZkA A0 n c0 R C Z p _ Q (by omega)).mono (fun _ _=>Zkz)) (fun xx=>?_)
 obtain ⟨c,hc⟩:=xx
 refine xr 1 [eS1 0 A0 n c0,(1, .v (.int .i64 p)),(4, .v (.int .i64 0)),(5, .v (.int .i64 0)),(6, .v (.int .i64 c))] [] ?_
 refine xe (Zaa (Zac (Zab (xr 2 [eS1 0 A0 n c0,(1, .v (.int .i64 p)),(4, .v (.int .i64 0)),(5, .v (.int .i64 0)),(6, .v (.int .i64 c)),(13, .v (.bool ((c:Int) != 0)))] [] ?_))))
 refine xe (Zaa ?_)
 refine Zax (((c:Int) != 0)) (by kernel_rfl) (fun hb10=>?_) (fun hb10=>?_)
 ·have hc0:=ZlO hb10
  refine Zac (Zab (xr 3 [eS1 0 A0 n c0,(1, .v (.int .i64 p)),(4, .v (.int .i64 0)),(5, .v (.int .i64 c))] [] ?_))
  refine xe (Zaa (Zaw (Zam ?_)))
  refine Zaq (v:=.tuple #[.int .i64 0, .int .i64 c]) (by kernel_rfl) (fun w' S Q=>?_)
  exact ⟨_,_,rfl, .err c hc hc0,S⟩
 ·have hc0:=ZlP hb10
  refine Zap (Zaa (Zac ?_))
  obtain ⟨hpb,hn0,hz,hs,hev,hn64,hz64⟩:=hc.okk hc0
  obtain ⟨P,rfl,hP2,hP31,hPr⟩:=ZgN hpb
  obtain ⟨m,hmn⟩:∃ m,m=n:=⟨_,rfl⟩
  have hmm:∀ i,i < n→(Z i).length=m:=fun i hi=>by rw [hev i hi,hs rfl,hmn]
  refine Zab (xr 2 [eS1 0 A0 n c0,(1, .v (.int .i64 ((P:Nat):Int))),(4, .v (.int .i64 0)),(5, .v (.int .i64 0)),eS1 16 A0 n c0,(17, .v (.int .i64 ((P:Nat):Int)))] [] ?_)
  refine Zdt (d:=18) 61 [.slice A0 n c0, .int .i64 ((P:Nat):Int)] (fun x:RsX n ((P:Nat):Int) Z=>.slice (some ⟨x.b,0,none⟩) n n) (fun x w=>ResI .u64 88 93 (fun w=>ArgI w A0 n R C Z) W0 w x.b n (x.A) (x.C) (x.X)) (fun w hE' Q=>(ZeV A0 n m c0 R C Z ((P:Nat):Int) w Q.1 (by omega) (by omega) hmm (by omega) (by omega)).mono (fun _ _ h=>ZhX (ZfH ha) Q.1 hE' h)) (fun x=>?_)
  obtain ⟨b,A,C1,X,hX⟩:=x
  refine xr 4 [eS1 0 A0 n c0,(4, .v (.int .i64 0)),(5, .v (.int .i64 0)),eS1 18 (some ⟨b,0,none⟩) n n,(20, .v (.int .i64 ((n:Nat):Int))),(22, .v (.int .u64 (IntKind.u64.wrap (((P:Nat):Int)))))] [] ?_
  rw [ZgO hP31]
  refine Zdt (d:=23) 60 [.slice (some ⟨b,0,none⟩) n n, .int .i64 ((n:Nat):Int), .int .u64 ((P:Nat):Int)] (fun x:ElX P n (n) n (X)=>.tuple #[.int .i64 ((x.r:Nat):Int), .int .u64 ((x.d:Nat):Int)]) (fun x w=>ResI .u64 88 93 (fun w=>ArgI w A0 n R C Z) W0 w b n (x.A) (x.C) (x.X)) (fun w hE' Q=>(Zep b n (n) n P (A) (C1) (X) w Q.mat (by omega) (by omega) (by omega) (by omega) (by omega) (ZnB rfl hP2 hX (fun i hi=>(hmm i hi).trans hmn))).mono (fun _ _ h=>Zi9 (ZfH ha) Q hE' h)) (fun x=>?_)
  obtain ⟨r,d,A',C',X',hR,hB⟩:=x
  refine xr 5 [eS1 0 A0 n c0,(4, .v (.int .i64 0)),(5, .v (.int .i64 0)),(7, .v (.int .i64 ((r:Nat):Int))),(8, .v (.int .u64 ((d:Nat):Int)))] [] ?_
  refine xe (Zaa (Zac (Zac (Zab (xr 4 [(4, .v (.int .i64 0)),(5, .v (.int .i64 0)),(8, .v (.int .u64 ((d:Nat):Int))),(29, .v (.bool (decide (((r:Nat):Int) < ((n:Nat):Int)))))] [] ?_)))))
  refine xe (Zaa ?_)
  refine Zax ((decide (((r:Nat):Int) < ((n:Nat):Int)))) (by kernel_rfl) (fun hb12=>?_) (fun hb12=>?_)
  ·have hr:r < n:=by have:=of_decide_eq_true hb12; omega
   refine Zac (Zab (xr 2 [(4, .v (.int .i64 0)),(5, .v (.int .i64 0)),(8, .v (.int .u64 ((d:Nat):Int)))] [] ?_))
   refine xe (Zaa (Zaw (Zam ?_)))
   refine Zaq (v:=.tuple #[.int .i64 0, .int .i64 0]) (by kernel_rfl) (fun w' S Q=>?_)
   exact ⟨_,_,rfl, .low P X X' r d (hc0 ▸ hc) rfl hX hR hr,S⟩
  ·have hr:¬ r < n:=by have:=of_decide_eq_false hb12; omega
   refine Zap (Zaa (Zac (Zab (xr 2 [(4, .v (.int .i64 0)),(5, .v (.int .i64 0)),(31, .v (.int .i64 (IntKind.i64.wrap (((d:Nat):Int)))))] [] ?_))))
   rw [ZkB (by have:=hB.dp; omega)]
   refine xr 2 [(4, .v (.int .i64 ((d:Nat):Int))),(5, .v (.int .i64 0))] [] ?_
   refine xe (Zaa (Zaw ?_))
   refine Zaq (v:=.tuple #[.int .i64 ((d:Nat):Int), .int .i64 0]) (by kernel_rfl) (fun w' S Q=>?_)
   exact ⟨_,_,rfl, .full P X X' r d (hc0 ▸ hc) rfl hX hR hB hr,S⟩
end Go.Proofs.YthlipnahcbcjkaaGreatDoor

namespace Go.Proofs.YthlipnahcbcjkaaGreatDoor
open Go.RowKit
theorem bOld {A0:Option Addr} {n:Nat} {R:Nat→Option Addr} {C:Nat→Nat} {Z:Nat→List Int} {B0:Option Addr} {bz:List Int} {w0:World} (h0:ArgI w0 A0 n R C Z) (h1:Zan w0 B0 bz):OldG (fun w=>ArgI w A0 n R C Z∧Zan w B0 bz) w0:=fun w w' S Q _ hF hS =>
 have h:=Q.next hF (fun g hg hs=>by have:=hS g hs; omega)
 ⟨h0.ext h,h1.ext h⟩
def AugD (n:Nat) (p:Int) (Z:Nat→List Int) (bz:List Int) (X:Nat→List Nat) (i:Nat):Prop:=∀ a,a < n→X a=if a < i then redL p (Z a) ++ [(bz.getD a 0 % p).toNat] else redL p (Z a)
theorem AugD.start {n:Nat} {p:Int} {Z:Nat→List Int} {bz:List Int} {X:Nat→List Nat} (h:∀ i,i < n→X i=redL p (Z i)):AugD n p Z bz X 0:=fun a ha=>by rw [if_neg (by omega)]; exact h a ha
theorem AugD.step {n i q:Nat} {p:Int} {Z:Nat→List Int} {bz:List Int} {X:Nat→List Nat} (h:AugD n p Z bz X i) (hi:i < n) (hq:bz.getD i 0 % p=(q:Int)):AugD n p Z bz (upF X i (X i ++ [q])) (i + 1):=fun a ha=>by
 by_cases e:a=i
 ·subst e; rw [Zas,if_pos (by omega),h a ha,if_neg (by omega),hq]; rfl
 ·rw [ZaP e,h a ha]
  by_cases e2:a < i
  ·rw [if_pos e2,if_pos (by omega)]
  ·rw [if_neg e2,if_neg (by omega)]
theorem AugD.len {n i m:Nat} {p:Int} {Z:Nat→List Int} {bz:List Int} {X:Nat→List Nat} (h:AugD n p Z bz X i) (hi:i < n) (hm:(Z i).length=m):(X i).length=m:=by rw [h i hi,if_neg (by omega),Zc1,hm]
theorem ZgP {n P:Nat} {p:Int} {Z:Nat→List Int} {bz:List Int} {X:Nat→List Nat} (hp:p=(P:Int)) (h0:2≤P) (h:AugD n p Z bz X n) (hm:∀ i,i < n→(Z i).length=n):ElB P n (n + 1) X 0 1 :=
 ⟨fun i hi=>by rw [h i hi,if_pos hi,List.length_append,Zc1,hm i hi]; rfl,fun i hi x hx=>by
  rw [h i hi,if_pos hi] at hx
  rcases List.mem_append.1 hx with h2 | h2
  ·exact Zlj hp (by omega) x h2
  ·have:=List.mem_singleton.1 h2
   have h3:=Int.emod_nonneg (bz.getD i 0) (show p≠0 by omega)
   have h4:=Int.emod_lt_of_pos (bz.getD i 0) (show 0 < p by omega)
   omega,Nat.zero_le _,by omega⟩
def bk (p:Nat) (f xs:List Nat) (n t:Nat):Nat→Nat
 | 0=>f[n]?.getD 0
 | j + 1=>(bk p f xs n t j + (p - f[t + 1 + j]?.getD 0) * xs[t + 1 + j]?.getD 0) % p
def ZeW (p n:Nat) (X:Nat→List Nat) (xs:List Nat) (i:Nat):Prop:=∀ t,i≤t→t < n→xs[t]?.getD 0=bk p (X t) xs n t (n - (t + 1))
theorem ZmF {p n t s v:Nat} {f xs:List Nat} (hs:s≤t) (hsl:s < xs.length):∀ j,bk p f (xs.set s v) n t j=bk p f xs n t j
 | 0=>rfl
 | j + 1=>by unfold bk; rw [ZmF hs hsl j,Ziw hsl,if_neg (by omega)]
theorem ZeW.step {p n t u:Nat} {X:Nat→List Nat} {xs:List Nat} (h:ZeW p n X xs (t + 1)) (ht:t < n) (hl:xs.length=n) (hu:u=bk p (X t) xs n t (n - (t + 1))):ZeW p n X (xs.set t u) t:=fun s h1 h2=>by
 rw [ZmF h1 (by omega),Ziw (by omega)]
 by_cases e:s=t
 ·subst e; rw [if_pos rfl,hu]
 ·rw [if_neg e]; exact h s (by omega) h2
theorem Zn1 {p n t:Nat} {f xs:List Nat} (hp:0 < p) (h:f[n]?.getD 0 < p):∀ j,bk p f xs n t j < p
 | 0=>h
 | _ + 1=>Nat.mod_lt _ hp
structure SolI (Γ:World→Prop) (w0 w:World) (b n:Nat) (A:Nat→Option Addr) (C:Nat→Nat) (X:Nat→List Nat) (bx:Nat) (xs:List Nat):Prop where
 mat:ResI .u64 88 93 Γ w0 w b n A C X
 xr:Own .i64 3 w bx xs
 nx:w0.heap.size≤bx
 dj:¬ MatB b n ⟨A,C,X⟩ bx
section
variable {P:Program} {o:Oper} {ρ:Operand→Value} {w w' w0:World} {t:TypeId} {x y l c:Operand} {kl kc:IntKind} {b n bx j v:Nat} {A:Nat→Option Addr} {C:Nat→Nat} {X:Nat→List Nat} {xs:List Nat} {Γ:World→Prop}
theorem ResI.ext0 {k:IntKind} {te tr:TypeId} (hΓ:OldG Γ w0) (h0:Ext w0 w) (h:ResI k te tr Γ w0 w b n A C X) (Q:Ext w w'):ResI k te tr Γ w0 w' b n A C X:=⟨hΓ.step h0 h.arg Q,h.mat.ext Q,h.new⟩
theorem MatO.lt {k:IntKind} {te tr:TypeId} {M:MR} (h:MatO k te tr w b n M) {g:Nat} (hg:MatB b n M g):g < w.heap.size:=by
 rcases hg with rfl | ⟨i,hi,hg⟩
 ·exact h.1.lt
 ·exact (h.2.row i hi).lt hg
theorem ZmG (hΓ:OldG Γ w0) (h:ResI .u64 88 93 Γ w0 w b n A C X) (hn:n≤100000) (Q:Ext w0 w) (ho:o.op=Op.makeSlice t l c:=by kernel_rfl) (ht:P.underlying t=some (.slice 3):=by kernel_rfl) (hinfo:(P.info? 3).map (fun i=>(i.zero,i.size,i.bytes))=some (some (.int .i64 0),1,8):=by kernel_rfl)
 (hl:ρ l=.int kl ((n:Nat):Int):=by kernel_rfl) (hc:ρ c=.int kc ((n:Nat):Int):=by kernel_rfl) :
 ∃ (bx:Nat) (w':World),(execOp ρ o).run P w=.ok (.value (.slice (some ⟨bx,0,none⟩) n n)) w'∧Ext w0 w'∧∀ w'',Ext w' w''→SolI Γ w0 w'' b n A C X bx (List.replicate n 0):=by
 have hrun:=run_make_row' (P:=P) t 3 (.int .i64 0) 8 ht hinfo rfl kl kc n (by omega) (by omega) w
 rw [ZdS] at hrun
 have hO:=Own.new w 3 .i64 (List.replicate n 0) []
 have hx:Ext w (w.alloc (.cells (ZaE .i64 (List.replicate n 0) []) 3)):=(Fr.refl _ w).alloc _
 exact ⟨_,_,by simp only [execOp,ho,hl,hc,Sem.run_bind,hrun,Result.andThen_ok,Sem.run_pure],Q.alloc _,fun w'' hw=>⟨h.ext0 hΓ Q (hx.ext hw),hO.fr hw (fun e=>e),Q.size,fun hg=>by have:=h.mat.lt hg; omega⟩⟩
theorem stX (hΓ:OldG Γ w0) (h:SolI Γ w0 w b n A C X bx xs) (Q:Ext w0 w) (hj:j < xs.length)
 (ho:o.op=Op.store t x y:=by kernel_rfl) (hx:ρ x=.pointer (some ⟨bx,j,none⟩):=by kernel_rfl) (hy:ρ y=.int .i64 ((v:Nat):Int):=by kernel_rfl) (hs:(teOf P t).map (fun e=>e.size)=some 1:=by kernel_rfl) :
 ∃ w',(execOp ρ o).run P w=.ok .skip w'∧Ext w0 w'∧∀ w'',Ext w' w''→SolI Γ w0 w'' b n A C X bx (xs.set j v):=by
 obtain ⟨w',hr,hO,hF⟩:=Zkn (P:=P) (t:=t) hs h.xr hj v
 have h0:Ext w0 w':=Q.next hF (fun g hg hg2=>by have:=h.nx; omega)
 refine ⟨w',by simp only [execOp,ho,Sem.run_bind,hx,hy,hr,Result.andThen_ok,Sem.run_pure],h0,fun w'' hw=>⟨⟨hΓ.step h0 (hΓ w w' _ Q h.mat.arg hF (fun g hg=>by have:=h.nx; omega)) hw,(h.mat.mat.fr hF (fun g hg e=>h.dj (by rw [← e]; exact hg))).ext hw,h.mat.new⟩,hO.fr hw (fun e=>e),h.nx,h.dj⟩⟩
end
inductive SolIs (n nb:Nat) (Z:Nat→List Int) (bz:List Int) (p:Int) (bx:Nat) (xs:List Nat):Value→Int→Prop
 | lim (hc:ChkIs n Z p true 2) (hb:nb≠n):SolIs n nb Z bz p bx xs (.slice none 0 0) 4
 | err (c:Int) (hc:ChkIs n Z p true c) (h0:c≠0) (h2:c=2→nb=n):SolIs n nb Z bz p bx xs (.slice none 0 0) c
 | shape (hc:ChkIs n Z p true 0) (hb:nb≠n):SolIs n nb Z bz p bx xs (.slice none 0 0) 4
 | sing (P:Nat) (X0 X:Nat→List Nat) (r d:Nat) (hc:ChkIs n Z p true 0) (hb:nb=n) (hp:p=(P:Int)) (hX:AugD n p Z bz X0 n) (hR:ElRun P n (n + 1) X0 n X r d) (hr:r < n):SolIs n nb Z bz p bx xs (.slice none 0 0) 7
 | ok (P:Nat) (X0 X:Nat→List Nat) (r d:Nat) (hc:ChkIs n Z p true 0) (hb:nb=n) (hp:p=(P:Int)) (hX:AugD n p Z bz X0 n) (hR:ElRun P n (n + 1) X0 n X r d) (hB:ElB P n (n + 1) X r d) (hr:¬ r < n) (hl:xs.length=n) (hlt:∀ x ∈ xs,x < P) (hk:ZeW P n X xs 0):SolIs n nb Z bz p bx xs (.slice (some ⟨bx,0,none⟩) n n) 0
structure SolX (n nb:Nat) (Z:Nat→List Int) (bz:List Int) (p:Int) where
 bx:Nat
 xs:List Nat
 v:Value
 c:Int
 h:SolIs n nb Z bz p bx xs v c
def ZmH (w:World) (n nb:Nat) (Z:Nat→List Int) (bz:List Int) (p:Int) (e:Ending) (w':World):Prop:=∃ x:SolX n nb Z bz p,e=.returned (.tuple #[x.v, .int .i64 x.c])∧Ext w w'∧(x.c=0→Own .i64 3 w' x.bx x.xs∧w.heap.size≤x.bx)
theorem Zo9 {c:Int} (h:((c:Int) == 2)=true):c=2:=by simpa using h
theorem Zpa {c:Int} (h:((c:Int) == 2)=false):c≠2:=by simpa using h
theorem ZiD {k:Nat} (h:k≤100000):IntKind.i64.wrap (((k:Nat):Int) - 1)=((k:Nat):Int) - 1:=by rw [IntKind.wrap_i64]; omega
theorem ZmI {x p:Nat} (hx:x < p) (hp:p≤2147483647):IntKind.u64.wrap (((p:Nat):Int) - ((x:Nat):Int))=((p - x:Nat):Int):=by rw [IntKind.wrap_u64]; omega
theorem mulS {x y p:Nat} (hx:x≤p) (hy:y < p) (hp:p≤2147483647):IntKind.u64.wrap (((x:Nat):Int) * ((y:Nat):Int))=((x * y:Nat):Int):=by
 have h:=Nat.mul_le_mul hx (Nat.le_of_lt hy)
 have h2:=Nat.mul_le_mul hp hp
 rw [← Int.natCast_mul,IntKind.wrap_u64]; omega
theorem addS {z x y p:Nat} (hz:z < p) (hx:x≤p) (hy:y < p) (hp:p≤2147483647):IntKind.u64.wrap (((z:Nat):Int) + ((x * y:Nat):Int))=((z + x * y:Nat):Int):=by
 have h:=Nat.mul_le_mul hx (Nat.le_of_lt hy)
 have h2:=Nat.mul_le_mul hp hp
 rw [IntKind.wrap_u64]; omega
theorem Zlk {n p:Nat} (hp:0 < p):∀ x ∈ List.replicate n 0,x < p:=fun x hx=>by rw [List.eq_of_mem_replicate hx]; exact hp
theorem ZmJ {xs:List Nat} {t u p:Nat} (h:∀ x ∈ xs,x < p) (hu:u < p):∀ x ∈ xs.set t u,x < p:=fun x hx=>(List.mem_or_eq_of_mem_set hx).elim (h x) (fun e=>e ▸ hu)
theorem ZmK (A0:Option Addr) (n c0:Nat) (R:Nat→Option Addr) (C:Nat→Nat) (Z:Nat→List Int) (B0:Option Addr) (nb cb:Nat) (bz:List Int) (p:Int) (W0:World) (ha:ArgI W0 A0 n R C Z) (hb0:Zan W0 B0 bz) (hbl:bz.length=nb) (hb64:Zen bz) (hn1:n≤100000) :
 Calls Tryz.prog 12 #[.slice A0 n c0, .slice B0 nb cb, .int .i64 p] W0 (ZmH W0 n nb Z bz p):=by
 refine Zc0 (Φ:=fun w=>(ArgI w A0 n R C Z∧Zan w B0 bz)) Tryz.func12 rfl (by kernel_rfl) (fun w' hf=>⟨ha.ext hf,hb0.ext hf⟩) ?_
 refine Zac (Zab (xr 2 [eS1 0 A0 n c0,eS1 1 B0 nb cb,(2, .v (.int .i64 p)),eS1 6 none 0 0,(7, .v (.int .i64 0))] [] ?_))
 refine xe (Zaa (Zac (Zac (Zab (xr 2 [eS1 0 A0 n c0,eS1 1 B0 nb cb,(2, .v (.int .i64 p)),eS1 6 none 0 0,(7, .v (.int .i64 0)),eS1 19 A0 n c0,(20, .v (.int .i64 p))] [] ?_)))))
 refine xc 59 [.slice A0 n c0, .int .i64 p, .bool true] 21 (fun c:{c:Int // ChkIs n Z p true c}=>.int .i64 c.1) _ (fun w S Q=>(ZkA A0 n c0 R C Z p _ Q.1 (by omega)).mono (fun _ _=>Zkz)) (fun xx=>?_)
 obtain ⟨c,hc⟩:=xx
 refine xr 1 [eS1 0 A0 n c0,eS1 1 B0 nb cb,(2, .v (.int .i64 p)),eS1 6 none 0 0,(7, .v (.int .i64 0)),(8, .v (.int .i64 c))] [] ?_
 refine xe (Zaa (Zar (Zac (Zab (xr 3 [eS1 0 A0 n c0,eS1 1 B0 nb cb,(2, .v (.int .i64 p)),eS1 6 none 0 0,(7, .v (.int .i64 0)),(8, .v (.int .i64 c)),(25, .v (.bool ((c:Int) == 2)))] [] ?_)))))
 rcases bl2 (((c:Int) == 2)) with hb10 | hb10
 ·rw [hb10]
  have hc2:=Zo9 hb10
  refine xr 7 [eS1 0 A0 n c0,eS1 1 B0 nb cb,(2, .v (.int .i64 p)),eS1 6 none 0 0,(7, .v (.int .i64 0)),(8, .v (.int .i64 c)),(22, .v (.bool ((((nb:Nat):Int):Int) != ((n:Nat):Int))))] [] ?_
  refine xe (Zaa ?_)
  refine Zax (((((nb:Nat):Int):Int) != ((n:Nat):Int))) (by kernel_rfl) (fun hb11=>?_) (fun hb11=>?_)
  ·have hnb:=ZeP hb11
   refine Zac (Zab (xr 2 [eS1 0 A0 n c0,eS1 1 B0 nb cb,(2, .v (.int .i64 p)),eS1 6 none 0 0,(7, .v (.int .i64 4))] [] ?_))
   refine xe (Zaa (Zaw (Zct (Zam ?_))))
   refine Zaq (v:=.tuple #[.slice none 0 0, .int .i64 4]) (by kernel_rfl) (fun w' S Q=>?_)
   exact ⟨⟨0,[],_,_, .lim (hc2 ▸ hc) hnb⟩,rfl,S,(fun e=>absurd (show (4:Int)=0 from e) (by decide))⟩
  ·have hnb:=ZeQ hb11
   refine Zac (Zab (xr 3 [eS1 0 A0 n c0,eS1 1 B0 nb cb,(2, .v (.int .i64 p)),eS1 6 none 0 0,(7, .v (.int .i64 0)),(8, .v (.int .i64 c)),(32, .v (.bool ((c:Int) != 0)))] [] ?_))
   refine xe (Zaa ?_)
   refine Zax (((c:Int) != 0)) (by kernel_rfl) (fun hb12=>?_) (fun hb12=>?_)
   ·have hc0:=ZlO hb12
    refine Zac (Zab (xr 3 [eS1 0 A0 n c0,eS1 1 B0 nb cb,(2, .v (.int .i64 p)),eS1 6 none 0 0,(7, .v (.int .i64 c))] [] ?_))
    refine xe (Zaa (Zaw (Zct (Zam ?_))))
    refine Zaq (v:=.tuple #[.slice none 0 0, .int .i64 c]) (by kernel_rfl) (fun w' S Q=>?_)
    exact ⟨⟨0,[],_,_, .err c hc hc0 (fun _=>hnb)⟩,rfl,S,(fun e=>absurd e hc0)⟩
   ·have hc0:=ZlP hb12
    refine Zac (Zab (xr 5 [eS1 0 A0 n c0,eS1 1 B0 nb cb,(2, .v (.int .i64 p)),eS1 6 none 0 0,(7, .v (.int .i64 0)),(41, .v (.bool ((((nb:Nat):Int):Int) != ((n:Nat):Int))))] [] ?_))
    rw [hb11]
    refine xr 1 [eS1 0 A0 n c0,eS1 1 B0 nb cb,(2, .v (.int .i64 p)),eS1 6 none 0 0,(7, .v (.int .i64 0)),(36, .v (.bool false))] [] ?_
    refine xe (Zaa (xb (Zap (Zbr (Zaa (Zac ?_))))))
    obtain ⟨hpb,hn0,hz,hs,hev,hn64,hz64⟩:=hc.okk hc0
    obtain ⟨P,rfl,hP2,hP31,hPr⟩:=ZgN hpb
    obtain ⟨m,hmn⟩:∃ m,m=n:=⟨_,rfl⟩
    have hmm:∀ i,i < n→(Z i).length=m:=fun i hi=>by rw [hev i hi,hs rfl,hmn]
    refine Zab (xr 4 [eS1 0 A0 n c0,eS1 1 B0 nb cb,(2, .v (.int .i64 ((P:Nat):Int))),eS1 6 none 0 0,(7, .v (.int .i64 0)),(43, .v (.int .i64 ((n:Nat):Int))),(45, .v (.int .u64 (IntKind.u64.wrap (((P:Nat):Int)))))] [] ?_)
    rw [ZgO hP31]
    refine xr 2 [eS1 0 A0 n c0,eS1 1 B0 nb cb,(2, .v (.int .i64 ((P:Nat):Int))),eS1 6 none 0 0,(7, .v (.int .i64 0)),(9, .v (.int .i64 ((n:Nat):Int))),(10, .v (.int .u64 ((P:Nat):Int)))] [] ?_
    refine xe (Zaa (Zac (Zab (xr 2 [eS1 1 B0 nb cb,(2, .v (.int .i64 ((P:Nat):Int))),eS1 6 none 0 0,(7, .v (.int .i64 0)),(9, .v (.int .i64 ((n:Nat):Int))),(10, .v (.int .u64 ((P:Nat):Int))),eS1 46 A0 n c0,(47, .v (.int .i64 ((P:Nat):Int)))] [] ?_))))
    refine Zdt (d:=48) 61 [.slice A0 n c0, .int .i64 ((P:Nat):Int)] (fun x:RsX n ((P:Nat):Int) Z=>.slice (some ⟨x.b,0,none⟩) n n) (fun x w=>ResI .u64 88 93 (fun w=>ArgI w A0 n R C Z∧Zan w B0 bz) W0 w x.b n (x.A) (x.C) (x.X)) (fun w hE' Q=>(ZeV A0 n m c0 R C Z ((P:Nat):Int) w Q.1.1 (by omega) (by omega) hmm (by omega) (by omega)).mono (fun _ _ h=>ZhX (bOld ha hb0) Q.1 hE' h)) (fun x=>?_)
    obtain ⟨b,A,C1,X,hX⟩:=x
    refine xr 1 [eS1 1 B0 nb cb,(2, .v (.int .i64 ((P:Nat):Int))),eS1 6 none 0 0,(7, .v (.int .i64 0)),(9, .v (.int .i64 ((n:Nat):Int))),(10, .v (.int .u64 ((P:Nat):Int))),eS1 11 (some ⟨b,0,none⟩) n n] [] ?_
    refine xe (Zaa (Zac (Zac (Zab (xr 3 [eS1 1 B0 nb cb,(2, .v (.int .i64 ((P:Nat):Int))),eS1 6 none 0 0,(7, .v (.int .i64 0)),(9, .v (.int .i64 ((n:Nat):Int))),(10, .v (.int .u64 ((P:Nat):Int))),eS1 11 (some ⟨b,0,none⟩) n n,(50, .v (.int .i64 ((n:Nat):Int))),(51, .v (.int .i64 0))] [] ?_)))))
    refine xe (Zaa (Zar ?_))
    refine SXc.weak [(1, .v (.slice B0 nb cb)),(2, .v (.int .i64 ((P:Nat):Int))),(6, .v (.slice none 0 0)),(7, .v (.int .i64 0)),(9, .v (.int .i64 ((n:Nat):Int))),(10, .v (.int .u64 ((P:Nat):Int))),(11, .v (.slice (some ⟨b,0,none⟩) n n)),(50, .v (.int .i64 ((n:Nat):Int))),(51, .v (.int .i64 ((0:Nat):Int)))] [] (Ψ:=fun w=>ResI .u64 88 93 (fun w=>ArgI w A0 n R C Z∧Zan w B0 bz) W0 w b n (A) (C1) (X)) (ZaA.of (by kernel_rfl)) (by kernel_rfl) (fun w Q=>Q) ?_
    refine Zbs (fun nn ss ff=>∃ (A:Nat→Option Addr) (C1:Nat→Nat) (X:Nat→List Nat) (i:Nat),ss=ofL [(1, .v (.slice B0 nb cb)),(2, .v (.int .i64 ((P:Nat):Int))),(6, .v (.slice none 0 0)),(7, .v (.int .i64 0)),(9, .v (.int .i64 ((n:Nat):Int))),(10, .v (.int .u64 ((P:Nat):Int))),(11, .v (.slice (some ⟨b,0,none⟩) n n)),(50, .v (.int .i64 ((n:Nat):Int))),(51, .v (.int .i64 ((i:Nat):Int)))] []∧ff=(fun w=>ResI .u64 88 93 (fun w=>ArgI w A0 n R C Z∧Zan w B0 bz) W0 w b n (A) (C1) (X))∧(i≤n)∧(AugD n ((P:Nat):Int) Z bz X i)∧nn=(n - i)) ((n - 0)) ⟨A,C1,X,0,rfl,rfl,Nat.zero_le _,(AugD.start hX),rfl⟩ ?_
    rintro nn ss ff ⟨A,C1,X,i,rfl,rfl,hi,hD,rfl⟩
    refine Zac (Zab (xr 1 [eS1 1 B0 nb cb,(2, .v (.int .i64 ((P:Nat):Int))),eS1 6 none 0 0,(7, .v (.int .i64 0)),(9, .v (.int .i64 ((n:Nat):Int))),(10, .v (.int .u64 ((P:Nat):Int))),eS1 11 (some ⟨b,0,none⟩) n n,(50, .v (.int .i64 ((n:Nat):Int))),(51, .v (.int .i64 ((i:Nat):Int))),(52, .v (.bool (decide (((i:Nat):Int) < ((n:Nat):Int)))))] [] ?_))
    refine xe (Zaa (Zac ?_))
    refine Zax ((decide (((i:Nat):Int) < ((n:Nat):Int)))) (by kernel_rfl) (fun hb14=>?_) (fun hb14=>?_)
    ·have hin:i < n:=by have:=of_decide_eq_true hb14; omega
     refine Zap (Zaa (Zac (Zar (Zac (Zab (xr 2 [eS1 1 B0 nb cb,(2, .v (.int .i64 ((P:Nat):Int))),eS1 6 none 0 0,(7, .v (.int .i64 0)),(9, .v (.int .i64 ((n:Nat):Int))),(10, .v (.int .u64 ((P:Nat):Int))),eS1 11 (some ⟨b,0,none⟩) n n,(12, .v (.int .i64 ((i:Nat):Int))),(50, .v (.int .i64 ((n:Nat):Int))),(51, .v (.int .i64 ((i:Nat):Int)))] [] ?_))))))
     refine xe (Zaa ?_)
     obtain ⟨z,hz'⟩:∃ z,bz.getD i 0=z:=⟨_,rfl⟩
     have hz64' : -9223372036854775808≤z∧z≤9223372036854775807:=by rw [← hz']; exact hb64.at i
     obtain ⟨q,hq⟩:∃ q:Nat,z % ((P:Nat):Int)=(q:Int):=Int.eq_ofNat_of_zero_le (Int.emod_nonneg z (by omega))
     refine ZfY 13 11 54 12 55 11 56 12 57 (.slice (some ⟨b,0,none⟩) n n) (.int .i64 ((i:Nat):Int)) (.slice (some ⟨b,0,none⟩) n n) (.int .i64 ((i:Nat):Int)) ?_
     refine xf 0 [eS1 1 B0 nb cb,(2, .v (.int .i64 ((P:Nat):Int))),eS1 6 none 0 0,(7, .v (.int .i64 0)),(9, .v (.int .i64 ((n:Nat):Int))),(10, .v (.int .u64 ((P:Nat):Int))),eS1 11 (some ⟨b,0,none⟩) n n,(12, .v (.int .i64 ((i:Nat):Int))),(50, .v (.int .i64 ((n:Nat):Int))),(51, .v (.int .i64 ((i:Nat):Int))),eS1 54 (some ⟨b,0,none⟩) n n,(55, .v (.int .i64 ((i:Nat):Int))),eS1 56 (some ⟨b,0,none⟩) n n,(57, .v (.int .i64 ((i:Nat):Int)))] [] ?_
     refine xj 58 (.pointer (some ⟨b,i,none⟩)) (fun w Q=>ZaH (g:=b) (len:=n) (cap:=n) (i:=i) (t:=91) (e:=93) (x:=.tmp 56) (ix:=.tmp 57) hin) ?_
     refine xj 59 (.slice (A i) m (C1 i)) (fun w Q=>Zcb (t:=93) (x:=.tmp 58) Q.mat hin (hD.len hin (hmm i hin))) ?_
     refine xf 2 [eS1 1 B0 nb cb,(2, .v (.int .i64 ((P:Nat):Int))),eS1 6 none 0 0,(7, .v (.int .i64 0)),(9, .v (.int .i64 ((n:Nat):Int))),(10, .v (.int .u64 ((P:Nat):Int))),eS1 11 (some ⟨b,0,none⟩) n n,(50, .v (.int .i64 ((n:Nat):Int))),(51, .v (.int .i64 ((i:Nat):Int))),eS1 54 (some ⟨b,0,none⟩) n n,(55, .v (.int .i64 ((i:Nat):Int))),eS1 59 (A i) m (C1 i),eS1 60 B0 nb cb,(61, .v (.int .i64 ((i:Nat):Int)))] [] ?_
     refine xj 62 (atA B0 i) (fun w Q=>ZfF (t:=23) (e:=3) (x:=.tmp 60) (ix:=.tmp 61) (cap:=cb) Q.arg.2 hbl (by omega)) ?_
     refine xj 63 (.int .i64 z) (fun w Q=>ZfG (t:=3) (x:=.tmp 62) (j:=i) Q.arg.2 (by omega) hz') ?_
     refine xf 1 [eS1 1 B0 nb cb,(2, .v (.int .i64 ((P:Nat):Int))),eS1 6 none 0 0,(7, .v (.int .i64 0)),(9, .v (.int .i64 ((n:Nat):Int))),(10, .v (.int .u64 ((P:Nat):Int))),eS1 11 (some ⟨b,0,none⟩) n n,(50, .v (.int .i64 ((n:Nat):Int))),(51, .v (.int .i64 ((i:Nat):Int))),eS1 54 (some ⟨b,0,none⟩) n n,(55, .v (.int .i64 ((i:Nat):Int))),eS1 59 (A i) m (C1 i),(63, .v (.int .i64 z)),(64, .v (.int .i64 ((P:Nat):Int)))] [] ?_
     refine xd 62 [.int .i64 z, .int .i64 ((P:Nat):Int)] 65 (fun _:Unit=>.int .u64 ((q:Nat):Int)) _ (fun w S Q=>(Zfk z ((P:Nat):Int) q _ hz64' (by omega) (by omega) hq).mono (fun _ _ h=>Zau h rfl)) (fun xx=>?_)
     refine xf 0 [eS1 1 B0 nb cb,(2, .v (.int .i64 ((P:Nat):Int))),eS1 6 none 0 0,(7, .v (.int .i64 0)),(9, .v (.int .i64 ((n:Nat):Int))),(10, .v (.int .u64 ((P:Nat):Int))),eS1 11 (some ⟨b,0,none⟩) n n,(50, .v (.int .i64 ((n:Nat):Int))),(51, .v (.int .i64 ((i:Nat):Int))),eS1 54 (some ⟨b,0,none⟩) n n,(55, .v (.int .i64 ((i:Nat):Int))),eS1 59 (A i) m (C1 i),(65, .v (.int .u64 ((q:Nat):Int)))] [] ?_
     refine Zi1 66 (fun zb:Nat=>.slice (some ⟨zb,0,none⟩) 1 1) (fun zb zw=>Blk 88 zw zb #[.int .u64 ((q:Nat):Int)]) (by kernel_rfl) (by kernel_rfl) (by kernel_rfl) (by kernel_rfl) (by kernel_rfl) (by kernel_rfl) (by kernel_rfl) (fun w S Q=>Zdh (t:=93) (e:=88) (n:=1) (sz:=1) (z:=.int .u64 0) (parts:=#[(0,Operand.tmp 65)]) (by kernel_rfl) (by kernel_rfl) (by kernel_rfl) (by kernel_rfl) (by kernel_rfl) (by kernel_rfl)) (fun b15=>?_)
     refine xf 0 [eS1 1 B0 nb cb,(2, .v (.int .i64 ((P:Nat):Int))),eS1 6 none 0 0,(7, .v (.int .i64 0)),(9, .v (.int .i64 ((n:Nat):Int))),(10, .v (.int .u64 ((P:Nat):Int))),eS1 11 (some ⟨b,0,none⟩) n n,(50, .v (.int .i64 ((n:Nat):Int))),(51, .v (.int .i64 ((i:Nat):Int))),eS1 54 (some ⟨b,0,none⟩) n n,(55, .v (.int .i64 ((i:Nat):Int))),eS1 59 (A i) m (C1 i),eS1 66 (some ⟨b15,0,none⟩) 1 1] [] ?_
     refine xz ?_
     refine Zd1 (d:=67) (fun z:Option Addr × Nat=>.slice z.1 (m + 1) z.2) (fun z w=>LooseI .u64 88 93 (fun w=>ArgI w A0 n R C Z∧Zan w B0 bz) W0 w b n i A C1 X (z.1) (z.2) (X i ++ [q])) (fun w hE' Q=>ZhW (t:=93) (x:=.tmp 59) (y:=.tmp 66) (g:=b15) (x':=q) (bw:=8) (bOld ha hb0) Q.1.1 hE' hin (hD.len hin (hmm i hin)) (by omega) (by decide) (Zi8 Q.2)) (fun z=>?_)
     obtain ⟨A3,c3⟩:=z
     refine xk 68 (.pointer (some ⟨b,i,none⟩)) (fun w hE' Q=>ZaH (g:=b) (len:=n) (cap:=n) (i:=i) (t:=91) (e:=93) (x:=.tmp 54) (ix:=.tmp 55) hin) ?_
     refine Zdj (fun w=>ResI .u64 88 93 (fun w=>ArgI w A0 n R C Z∧Zan w B0 bz) W0 w b n (upF A i A3) (upF C1 i c3) (upF X i (X i ++ [q]))) (fun w hE' Q=>Zhd (t:=93) (x:=.tmp 68) (y:=.tmp 67) (bOld ha hb0) Q hE' hin (by rw [List.length_append,hD.len hin (hmm i hin),List.length_singleton])) ?_
     refine xr 0 [eS1 1 B0 nb cb,(2, .v (.int .i64 ((P:Nat):Int))),eS1 6 none 0 0,(7, .v (.int .i64 0)),(9, .v (.int .i64 ((n:Nat):Int))),(10, .v (.int .u64 ((P:Nat):Int))),eS1 11 (some ⟨b,0,none⟩) n n,(50, .v (.int .i64 ((n:Nat):Int))),(51, .v (.int .i64 ((i:Nat):Int)))] [] ?_
     refine xe (Zbr (Zaa (Zab (xr 1 [eS1 1 B0 nb cb,(2, .v (.int .i64 ((P:Nat):Int))),eS1 6 none 0 0,(7, .v (.int .i64 0)),(9, .v (.int .i64 ((n:Nat):Int))),(10, .v (.int .u64 ((P:Nat):Int))),eS1 11 (some ⟨b,0,none⟩) n n,(50, .v (.int .i64 ((n:Nat):Int))),(51, .v (.int .i64 ((i:Nat):Int))),(69, .v (.int .i64 (IntKind.i64.wrap (((i:Nat):Int) + 1))))] [] ?_))))
     rw [Zbh (k:=i) (by omega)]
     refine xr 1 [eS1 1 B0 nb cb,(2, .v (.int .i64 ((P:Nat):Int))),eS1 6 none 0 0,(7, .v (.int .i64 0)),(9, .v (.int .i64 ((n:Nat):Int))),(10, .v (.int .u64 ((P:Nat):Int))),eS1 11 (some ⟨b,0,none⟩) n n,(50, .v (.int .i64 ((n:Nat):Int))),(51, .v (.int .i64 ((i + 1:Nat):Int)))] [] ?_
     refine xe ?_
     refine SXq.weak [(1, .v (.slice B0 nb cb)),(2, .v (.int .i64 ((P:Nat):Int))),(6, .v (.slice none 0 0)),(7, .v (.int .i64 0)),(9, .v (.int .i64 ((n:Nat):Int))),(10, .v (.int .u64 ((P:Nat):Int))),(11, .v (.slice (some ⟨b,0,none⟩) n n)),(50, .v (.int .i64 ((n:Nat):Int))),(51, .v (.int .i64 (((i + 1):Nat):Int)))] [] (Ψ:=fun w=>ResI .u64 88 93 (fun w=>ArgI w A0 n R C Z∧Zan w B0 bz) W0 w b n ((upF A i A3)) ((upF C1 i c3)) ((upF X i (X i ++ [q])))) (ZaA.of (by kernel_rfl)) (by kernel_rfl) (fun w Q=>Q) ?_
     exact Za0 ((n - (i + 1))) (by omega) ⟨(upF A i A3),(upF C1 i c3),(upF X i (X i ++ [q])),(i + 1),rfl,rfl,(by omega),(hD.step hin (by rw [hz']; exact hq)),rfl⟩
    ·have hin:n≤i:=by have:=of_decide_eq_false hb14; omega
     refine Zbf (Zaj (Zaj (Zbv (Zaa (Zac (Zac ?_))))))
     have hD':AugD n ((P:Nat):Int) Z bz X n:=by obtain rfl:i=n:=(by omega); exact hD
     refine Zab (xr 3 [eS1 6 none 0 0,(7, .v (.int .i64 0)),(9, .v (.int .i64 ((n:Nat):Int))),(10, .v (.int .u64 ((P:Nat):Int))),eS1 11 (some ⟨b,0,none⟩) n n,eS1 71 (some ⟨b,0,none⟩) n n,(72, .v (.int .i64 ((n:Nat):Int))),(73, .v (.int .u64 ((P:Nat):Int)))] [] ?_)
     refine Zdt (d:=74) 60 [.slice (some ⟨b,0,none⟩) n n, .int .i64 ((n:Nat):Int), .int .u64 ((P:Nat):Int)] (fun x:ElX P n ((n + 1)) n (X)=>.tuple #[.int .i64 ((x.r:Nat):Int), .int .u64 ((x.d:Nat):Int)]) (fun x w=>ResI .u64 88 93 (fun w=>ArgI w A0 n R C Z∧Zan w B0 bz) W0 w b n (x.A) (x.C) (x.X)) (fun w hE' Q=>(Zep b n ((n + 1)) n P (A) (C1) (X) w Q.mat (by omega) (by omega) (by omega) (by omega) (by omega) (ZgP rfl hP2 hD' (fun i hi=>(hmm i hi).trans hmn))).mono (fun _ _ h=>Zi9 (bOld ha hb0) Q hE' h)) (fun x=>?_)
     obtain ⟨r,d,A',C',X',hR,hB⟩:=x
     refine xr 5 [eS1 6 none 0 0,(7, .v (.int .i64 0)),(9, .v (.int .i64 ((n:Nat):Int))),(10, .v (.int .u64 ((P:Nat):Int))),eS1 11 (some ⟨b,0,none⟩) n n,(13, .v (.int .i64 ((r:Nat):Int)))] [] ?_
     refine xe (Zaa (Zac (Zab (xr 3 [eS1 6 none 0 0,(7, .v (.int .i64 0)),(9, .v (.int .i64 ((n:Nat):Int))),(10, .v (.int .u64 ((P:Nat):Int))),eS1 11 (some ⟨b,0,none⟩) n n,(79, .v (.bool (decide (((r:Nat):Int) < ((n:Nat):Int)))))] [] ?_))))
     refine xe (Zaa ?_)
     refine Zax ((decide (((r:Nat):Int) < ((n:Nat):Int)))) (by kernel_rfl) (fun hb16=>?_) (fun hb16=>?_)
     ·have hr:r < n:=by have:=of_decide_eq_true hb16; omega
      refine Zac (Zab (xr 2 [eS1 6 none 0 0,(7, .v (.int .i64 7)),(9, .v (.int .i64 ((n:Nat):Int))),(10, .v (.int .u64 ((P:Nat):Int))),eS1 11 (some ⟨b,0,none⟩) n n] [] ?_))
      refine xe (Zaa (Zaw (Zam ?_)))
      refine Zaq (v:=.tuple #[.slice none 0 0, .int .i64 7]) (by kernel_rfl) (fun w' S Q=>?_)
      exact ⟨⟨0,[],_,_, .sing P X X' r d (hc0 ▸ hc) hnb rfl hD' hR hr⟩,rfl,S,(fun e=>absurd (show (7:Int)=0 from e) (by decide))⟩
     ·have hr:¬ r < n:=by have:=of_decide_eq_false hb16; omega
      refine Zap (Zaa (Zac (Zab (xr 1 [eS1 6 none 0 0,(7, .v (.int .i64 0)),(9, .v (.int .i64 ((n:Nat):Int))),(10, .v (.int .u64 ((P:Nat):Int))),eS1 11 (some ⟨b,0,none⟩) n n,(80, .v (.int .i64 ((n:Nat):Int)))] [] ?_))))
      refine Zd1 (d:=81) (fun bx:Nat=>.slice (some ⟨bx,0,none⟩) n n) (fun bx w=>SolI (fun w=>ArgI w A0 n R C Z∧Zan w B0 bz) W0 w b n A' C' X' bx (List.replicate n 0)) (fun w hE' Q=>ZmG (t:=23) (l:=.tmp 80) (c:=.tmp 80) (kl:=.i64) (kc:=.i64) (bOld ha hb0) Q (by omega) hE') (fun bx=>?_)
      refine xr 1 [eS1 6 none 0 0,(7, .v (.int .i64 0)),(9, .v (.int .i64 ((n:Nat):Int))),(10, .v (.int .u64 ((P:Nat):Int))),eS1 11 (some ⟨b,0,none⟩) n n,eS1 15 (some ⟨bx,0,none⟩) n n] [] ?_
      refine xe (Zaa (Zac (Zac (Zab (xr 2 [eS1 6 none 0 0,(7, .v (.int .i64 0)),(9, .v (.int .i64 ((n:Nat):Int))),(10, .v (.int .u64 ((P:Nat):Int))),eS1 11 (some ⟨b,0,none⟩) n n,eS1 15 (some ⟨bx,0,none⟩) n n,(83, .v (.int .i64 (IntKind.i64.wrap (((n:Nat):Int) - 1))))] [] ?_)))))
      rw [ZiD (k:=n) (by omega)]
      refine xr 1 [eS1 6 none 0 0,(7, .v (.int .i64 0)),(9, .v (.int .i64 ((n:Nat):Int))),(10, .v (.int .u64 ((P:Nat):Int))),eS1 11 (some ⟨b,0,none⟩) n n,eS1 15 (some ⟨bx,0,none⟩) n n,(16, .v (.int .i64 (((n:Nat):Int) - 1)))] [] ?_
      refine xe (Zaa (Zar ?_))
      refine SXc.weak [(6, .v (.slice none 0 0)),(7, .v (.int .i64 0)),(9, .v (.int .i64 ((n:Nat):Int))),(10, .v (.int .u64 ((P:Nat):Int))),(11, .v (.slice (some ⟨b,0,none⟩) n n)),(15, .v (.slice (some ⟨bx,0,none⟩) n n)),(16, .v (.int .i64 (((n:Nat):Int) - 1)))] [] (Ψ:=fun w=>SolI (fun w=>ArgI w A0 n R C Z∧Zan w B0 bz) W0 w b n A' C' X' bx ((List.replicate n 0))) (ZaA.of (by kernel_rfl)) (by kernel_rfl) (fun w Q=>Q) ?_
      refine Zbs (fun nn ss ff=>∃ (xs:List Nat) (i:Nat),ss=ofL [(6, .v (.slice none 0 0)),(7, .v (.int .i64 0)),(9, .v (.int .i64 ((n:Nat):Int))),(10, .v (.int .u64 ((P:Nat):Int))),(11, .v (.slice (some ⟨b,0,none⟩) n n)),(15, .v (.slice (some ⟨bx,0,none⟩) n n)),(16, .v (.int .i64 (((i:Nat):Int) - 1)))] []∧ff=(fun w=>SolI (fun w=>ArgI w A0 n R C Z∧Zan w B0 bz) W0 w b n A' C' X' bx (xs))∧(i≤n)∧(xs.length=n)∧(∀ x ∈ xs,x < P)∧(ZeW P n X' xs i)∧nn=(1 + i)) ((1 + n)) ⟨(List.replicate n 0),n,rfl,rfl,Nat.le_refl _,List.length_replicate,(Zlk (by omega)),(fun t h1 h2=>absurd h2 (by omega)),rfl⟩ ?_
      rintro nn ss ff ⟨xs,i,rfl,rfl,hi,hxl,hlt,hbk,rfl⟩
      refine Zac (Zac (Zab (xr 2 [eS1 6 none 0 0,(7, .v (.int .i64 0)),(9, .v (.int .i64 ((n:Nat):Int))),(10, .v (.int .u64 ((P:Nat):Int))),eS1 11 (some ⟨b,0,none⟩) n n,eS1 15 (some ⟨bx,0,none⟩) n n,(16, .v (.int .i64 (((i:Nat):Int) - 1))),(85, .v (.bool (decide ((((i:Nat):Int) - 1) ≥ 0))))] [] ?_)))
      refine xe (Zaa ?_)
      refine Zax ((decide ((((i:Nat):Int) - 1) ≥ 0))) (by kernel_rfl) (fun hb17=>?_) (fun hb17=>?_)
      ·obtain ⟨t,rfl⟩:∃ t,i=t + 1:=⟨i - 1,by have:=of_decide_eq_true hb17; omega⟩
       refine Zap (Zaa (Zac (Zar (Zac ?_))))
       rw [show (((t + 1:Nat):Int) - 1)=((t:Nat):Int) from by omega]
       have htn:t < n:=by omega
       refine Zab (xr 2 [eS1 6 none 0 0,(7, .v (.int .i64 0)),(9, .v (.int .i64 ((n:Nat):Int))),(10, .v (.int .u64 ((P:Nat):Int))),eS1 11 (some ⟨b,0,none⟩) n n,eS1 15 (some ⟨bx,0,none⟩) n n,(16, .v (.int .i64 ((t:Nat):Int))),eS1 88 (some ⟨b,0,none⟩) n n,(89, .v (.int .i64 ((t:Nat):Int)))] [] ?_)
       refine xk 90 (.pointer (some ⟨b,t,none⟩)) (fun w hE' Q=>ZaH (g:=b) (len:=n) (cap:=n) (i:=t) (t:=91) (e:=93) (x:=.tmp 88) (ix:=.tmp 89) htn) ?_
       refine xk 91 (.slice (A' t) (n + 1) (C' t)) (fun w hE' Q=>Zcb (t:=93) (x:=.tmp 90) Q.mat.mat htn (hB.len t htn)) ?_
       refine xr 1 [eS1 6 none 0 0,(7, .v (.int .i64 0)),(9, .v (.int .i64 ((n:Nat):Int))),(10, .v (.int .u64 ((P:Nat):Int))),eS1 11 (some ⟨b,0,none⟩) n n,eS1 15 (some ⟨bx,0,none⟩) n n,(16, .v (.int .i64 ((t:Nat):Int))),eS1 91 (A' t) (n + 1) (C' t),(92, .v (.int .i64 ((n:Nat):Int)))] [] ?_
       refine xk 93 (atA (A' t) n) (fun w hE' Q=>Zb3 (t:=93) (e:=88) (x:=.tmp 91) (ix:=.tmp 92) (cap:=C' t) Q.mat.mat htn (hB.len t htn) (by omega)) ?_
       obtain ⟨u,hu⟩:∃ u,u=bk P (X' t) xs n t 0:=⟨_,rfl⟩
       refine xk 94 (.int .u64 ((u:Nat):Int)) (fun w hE' Q=>Zcs (t:=88) (x:=.tmp 93) (j:=n) Q.mat.mat htn (hB.len t htn) (by omega) hu.symm) ?_
       refine xr 1 [eS1 6 none 0 0,(7, .v (.int .i64 0)),(9, .v (.int .i64 ((n:Nat):Int))),(10, .v (.int .u64 ((P:Nat):Int))),eS1 11 (some ⟨b,0,none⟩) n n,eS1 15 (some ⟨bx,0,none⟩) n n,(16, .v (.int .i64 ((t:Nat):Int))),(17, .v (.int .u64 ((u:Nat):Int)))] [] ?_
       refine xe (Zaa (Zac (Zac (Zab (xr 2 [eS1 6 none 0 0,(7, .v (.int .i64 0)),(9, .v (.int .i64 ((n:Nat):Int))),(10, .v (.int .u64 ((P:Nat):Int))),eS1 11 (some ⟨b,0,none⟩) n n,eS1 15 (some ⟨bx,0,none⟩) n n,(16, .v (.int .i64 ((t:Nat):Int))),(17, .v (.int .u64 ((u:Nat):Int))),(96, .v (.int .i64 (IntKind.i64.wrap (((t:Nat):Int) + 1))))] [] ?_)))))
       rw [Zbh (k:=t) (by omega)]
       refine xr 1 [eS1 6 none 0 0,(7, .v (.int .i64 0)),(9, .v (.int .i64 ((n:Nat):Int))),(10, .v (.int .u64 ((P:Nat):Int))),eS1 11 (some ⟨b,0,none⟩) n n,eS1 15 (some ⟨bx,0,none⟩) n n,(16, .v (.int .i64 ((t:Nat):Int))),(17, .v (.int .u64 ((u:Nat):Int))),(18, .v (.int .i64 ((t + 1:Nat):Int)))] [] ?_
       refine xe (Zaa (Zar ?_))
       refine SXc.weak [(6, .v (.slice none 0 0)),(7, .v (.int .i64 0)),(9, .v (.int .i64 ((n:Nat):Int))),(10, .v (.int .u64 ((P:Nat):Int))),(11, .v (.slice (some ⟨b,0,none⟩) n n)),(15, .v (.slice (some ⟨bx,0,none⟩) n n)),(16, .v (.int .i64 ((t:Nat):Int))),(17, .v (.int .u64 ((u:Nat):Int))),(18, .v (.int .i64 ((t + 1 + 0:Nat):Int)))] [] (Ψ:=fun w=>SolI (fun w=>ArgI w A0 n R C Z∧Zan w B0 bz) W0 w b n A' C' X' bx (xs)) (ZaA.of (by kernel_rfl)) (by kernel_rfl) (fun w Q=>Q) ?_
       refine Zbs (fun nn ss ff=>∃ (u j:Nat),ss=ofL [(6, .v (.slice none 0 0)),(7, .v (.int .i64 0)),(9, .v (.int .i64 ((n:Nat):Int))),(10, .v (.int .u64 ((P:Nat):Int))),(11, .v (.slice (some ⟨b,0,none⟩) n n)),(15, .v (.slice (some ⟨bx,0,none⟩) n n)),(16, .v (.int .i64 ((t:Nat):Int))),(17, .v (.int .u64 ((u:Nat):Int))),(18, .v (.int .i64 ((t + 1 + j:Nat):Int)))] []∧ff=(fun w=>SolI (fun w=>ArgI w A0 n R C Z∧Zan w B0 bz) W0 w b n A' C' X' bx (xs))∧(u=bk P (X' t) xs n t j)∧(u < P)∧(t + 1 + j≤n)∧nn=(n - (t + 1 + j))) ((n - (t + 1 + 0))) ⟨u,0,rfl,rfl,hu,(by rw [hu]; exact Zn1 (by omega) (hB.get htn (by omega)) 0),(by omega),rfl⟩ ?_
       rintro nn ss ff ⟨u,j,rfl,rfl,hu,huP,hj,rfl⟩
       refine Zac (Zac (Zab (xr 3 [eS1 6 none 0 0,(7, .v (.int .i64 0)),(9, .v (.int .i64 ((n:Nat):Int))),(10, .v (.int .u64 ((P:Nat):Int))),eS1 11 (some ⟨b,0,none⟩) n n,eS1 15 (some ⟨bx,0,none⟩) n n,(16, .v (.int .i64 ((t:Nat):Int))),(17, .v (.int .u64 ((u:Nat):Int))),(18, .v (.int .i64 ((t + 1 + j:Nat):Int))),(99, .v (.bool (decide (((t + 1 + j:Nat):Int) < ((n:Nat):Int)))))] [] ?_)))
       refine xe (Zaa ?_)
       refine Zax ((decide (((t + 1 + j:Nat):Int) < ((n:Nat):Int)))) (by kernel_rfl) (fun hb18=>?_) (fun hb18=>?_)
       ·have hjn:t + 1 + j < n:=by have:=of_decide_eq_true hb18; omega
        refine Zap (Zaa (Zac (Zar ?_)))
        obtain ⟨f,hf⟩:∃ f,(X' t)[t + 1 + j]?.getD 0=f:=⟨_,rfl⟩
        have hfP:f < P:=by rw [← hf]; exact hB.get htn (by omega)
        obtain ⟨y,hy⟩:∃ y,xs[t + 1 + j]?.getD 0=y:=⟨_,rfl⟩
        have hyP:y < P:=by rw [← hy]; exact hlt _ (ZdO (by omega))
        refine ZfV 20 [0,0,0,0,12,28,0,124,252,510,0,0,3072,7168,15360,32766,65535,0,262143,524287] (by kernel_rfl) (by kernel_rfl) Za6 ?_
        refine xf 4 [eS1 6 none 0 0,(7, .v (.int .i64 0)),(9, .v (.int .i64 ((n:Nat):Int))),(10, .v (.int .u64 ((P:Nat):Int))),eS1 11 (some ⟨b,0,none⟩) n n,eS1 15 (some ⟨bx,0,none⟩) n n,(16, .v (.int .i64 ((t:Nat):Int))),(17, .v (.int .u64 ((u:Nat):Int))),(18, .v (.int .i64 ((t + 1 + j:Nat):Int))),(102, .v (.int .u64 ((u:Nat):Int))),(103, .v (.int .u64 ((P:Nat):Int))),eS1 104 (some ⟨b,0,none⟩) n n,(105, .v (.int .i64 ((t:Nat):Int)))] [] ?_
        refine xj 106 (.pointer (some ⟨b,t,none⟩)) (fun w Q=>ZaH (g:=b) (len:=n) (cap:=n) (i:=t) (t:=91) (e:=93) (x:=.tmp 104) (ix:=.tmp 105) htn) ?_
        refine xj 107 (.slice (A' t) (n + 1) (C' t)) (fun w Q=>Zcb (t:=93) (x:=.tmp 106) Q.mat.mat htn (hB.len t htn)) ?_
        refine xf 1 [eS1 6 none 0 0,(7, .v (.int .i64 0)),(9, .v (.int .i64 ((n:Nat):Int))),(10, .v (.int .u64 ((P:Nat):Int))),eS1 11 (some ⟨b,0,none⟩) n n,eS1 15 (some ⟨bx,0,none⟩) n n,(16, .v (.int .i64 ((t:Nat):Int))),(17, .v (.int .u64 ((u:Nat):Int))),(18, .v (.int .i64 ((t + 1 + j:Nat):Int))),(102, .v (.int .u64 ((u:Nat):Int))),(103, .v (.int .u64 ((P:Nat):Int))),eS1 107 (A' t) (n + 1) (C' t),(108, .v (.int .i64 ((t + 1 + j:Nat):Int)))] [] ?_
        refine xj 109 (atA (A' t) (t + 1 + j)) (fun w Q=>Zb3 (t:=93) (e:=88) (x:=.tmp 107) (ix:=.tmp 108) (cap:=C' t) Q.mat.mat htn (hB.len t htn) (by omega)) ?_
        refine xj 110 (.int .u64 ((f:Nat):Int)) (fun w Q=>Zcs (t:=88) (x:=.tmp 109) (j:=t + 1 + j) Q.mat.mat htn (hB.len t htn) (by omega) hf) ?_
        refine xf 1 [eS1 6 none 0 0,(7, .v (.int .i64 0)),(9, .v (.int .i64 ((n:Nat):Int))),(10, .v (.int .u64 ((P:Nat):Int))),eS1 11 (some ⟨b,0,none⟩) n n,eS1 15 (some ⟨bx,0,none⟩) n n,(16, .v (.int .i64 ((t:Nat):Int))),(17, .v (.int .u64 ((u:Nat):Int))),(18, .v (.int .i64 ((t + 1 + j:Nat):Int))),(102, .v (.int .u64 ((u:Nat):Int))),(111, .v (.int .u64 (IntKind.u64.wrap (((P:Nat):Int) - ((f:Nat):Int)))))] [] ?_
        rw [ZmI hfP hP31]
        refine xf 2 [eS1 6 none 0 0,(7, .v (.int .i64 0)),(9, .v (.int .i64 ((n:Nat):Int))),(10, .v (.int .u64 ((P:Nat):Int))),eS1 11 (some ⟨b,0,none⟩) n n,eS1 15 (some ⟨bx,0,none⟩) n n,(16, .v (.int .i64 ((t:Nat):Int))),(17, .v (.int .u64 ((u:Nat):Int))),(18, .v (.int .i64 ((t + 1 + j:Nat):Int))),(102, .v (.int .u64 ((u:Nat):Int))),(111, .v (.int .u64 ((P - f:Nat):Int))),eS1 112 (some ⟨bx,0,none⟩) n n,(113, .v (.int .i64 ((t + 1 + j:Nat):Int)))] [] ?_
        refine xj 114 (.pointer (some ⟨bx,t + 1 + j,none⟩)) (fun w Q=>ZaH (g:=bx) (len:=n) (cap:=n) (i:=t + 1 + j) (t:=23) (e:=3) (x:=.tmp 112) (ix:=.tmp 113) (by omega)) ?_
        refine xj 115 (.int .i64 ((y:Nat):Int)) (fun w Q=>by rw [← hy]; exact ZfE (t:=3) (x:=.tmp 114) (j:=t + 1 + j) Q.xr (by omega)) ?_
        refine xf 1 [eS1 6 none 0 0,(7, .v (.int .i64 0)),(9, .v (.int .i64 ((n:Nat):Int))),(10, .v (.int .u64 ((P:Nat):Int))),eS1 11 (some ⟨b,0,none⟩) n n,eS1 15 (some ⟨bx,0,none⟩) n n,(16, .v (.int .i64 ((t:Nat):Int))),(17, .v (.int .u64 ((u:Nat):Int))),(18, .v (.int .i64 ((t + 1 + j:Nat):Int))),(102, .v (.int .u64 ((u:Nat):Int))),(111, .v (.int .u64 ((P - f:Nat):Int))),(116, .v (.int .u64 (IntKind.u64.wrap (((y:Nat):Int)))))] [] ?_
        rw [ZgO (by omega)]
        refine xf 1 [eS1 6 none 0 0,(7, .v (.int .i64 0)),(9, .v (.int .i64 ((n:Nat):Int))),(10, .v (.int .u64 ((P:Nat):Int))),eS1 11 (some ⟨b,0,none⟩) n n,eS1 15 (some ⟨bx,0,none⟩) n n,(16, .v (.int .i64 ((t:Nat):Int))),(17, .v (.int .u64 ((u:Nat):Int))),(18, .v (.int .i64 ((t + 1 + j:Nat):Int))),(102, .v (.int .u64 ((u:Nat):Int))),(117, .v (.int .u64 (IntKind.u64.wrap (((P - f:Nat):Int) * ((y:Nat):Int)))))] [] ?_
        rw [mulS (Nat.sub_le _ _) hyP hP31]
        refine xf 1 [eS1 6 none 0 0,(7, .v (.int .i64 0)),(9, .v (.int .i64 ((n:Nat):Int))),(10, .v (.int .u64 ((P:Nat):Int))),eS1 11 (some ⟨b,0,none⟩) n n,eS1 15 (some ⟨bx,0,none⟩) n n,(16, .v (.int .i64 ((t:Nat):Int))),(17, .v (.int .u64 ((u:Nat):Int))),(18, .v (.int .i64 ((t + 1 + j:Nat):Int))),(118, .v (.int .u64 (IntKind.u64.wrap (((u:Nat):Int) + (((P - f) * y:Nat):Int)))))] [] ?_
        rw [addS huP (Nat.sub_le _ _) hyP hP31]
        refine xf 1 [eS1 6 none 0 0,(7, .v (.int .i64 0)),(9, .v (.int .i64 ((n:Nat):Int))),(10, .v (.int .u64 ((P:Nat):Int))),eS1 11 (some ⟨b,0,none⟩) n n,eS1 15 (some ⟨bx,0,none⟩) n n,(16, .v (.int .i64 ((t:Nat):Int))),(17, .v (.int .u64 ((u:Nat):Int))),(18, .v (.int .i64 ((t + 1 + j:Nat):Int))),(118, .v (.int .u64 ((u + (P - f) * y:Nat):Int))),(119, .v (.int .u64 ((P:Nat):Int)))] [] ?_
        refine xj 120 (.int .u64 (((u + (P - f) * y) % P:Nat):Int)) (fun w Q=>Zem (k:=.u64) (t:=88) (k':=88) (x:=.tmp 118) (y:=.tmp 119) (a:=(u + (P - f) * y)) (b:=P) (by omega)) ?_
        refine xf 1 [eS1 6 none 0 0,(7, .v (.int .i64 0)),(9, .v (.int .i64 ((n:Nat):Int))),(10, .v (.int .u64 ((P:Nat):Int))),eS1 11 (some ⟨b,0,none⟩) n n,eS1 15 (some ⟨bx,0,none⟩) n n,(16, .v (.int .i64 ((t:Nat):Int))),(17, .v (.int .u64 (((u + (P - f) * y) % P:Nat):Int))),(18, .v (.int .i64 ((t + 1 + j:Nat):Int)))] [] ?_
        refine xz (xe (Zbr (Zaa (Zab (xr 2 [eS1 6 none 0 0,(7, .v (.int .i64 0)),(9, .v (.int .i64 ((n:Nat):Int))),(10, .v (.int .u64 ((P:Nat):Int))),eS1 11 (some ⟨b,0,none⟩) n n,eS1 15 (some ⟨bx,0,none⟩) n n,(16, .v (.int .i64 ((t:Nat):Int))),(17, .v (.int .u64 (((u + (P - f) * y) % P:Nat):Int))),(18, .v (.int .i64 ((t + 1 + j:Nat):Int))),(101, .v (.int .i64 (IntKind.i64.wrap (((t + 1 + j:Nat):Int) + 1))))] [] ?_)))))
        rw [Zbh (k:=t + 1 + j) (by omega)]
        refine xr 1 [eS1 6 none 0 0,(7, .v (.int .i64 0)),(9, .v (.int .i64 ((n:Nat):Int))),(10, .v (.int .u64 ((P:Nat):Int))),eS1 11 (some ⟨b,0,none⟩) n n,eS1 15 (some ⟨bx,0,none⟩) n n,(16, .v (.int .i64 ((t:Nat):Int))),(17, .v (.int .u64 (((u + (P - f) * y) % P:Nat):Int))),(18, .v (.int .i64 ((t + 1 + j + 1:Nat):Int)))] [] ?_
        refine xe ?_
        refine SXq.weak [(6, .v (.slice none 0 0)),(7, .v (.int .i64 0)),(9, .v (.int .i64 ((n:Nat):Int))),(10, .v (.int .u64 ((P:Nat):Int))),(11, .v (.slice (some ⟨b,0,none⟩) n n)),(15, .v (.slice (some ⟨bx,0,none⟩) n n)),(16, .v (.int .i64 ((t:Nat):Int))),(17, .v (.int .u64 ((((u + (P - f) * y) % P):Nat):Int))),(18, .v (.int .i64 ((t + 1 + (j + 1):Nat):Int)))] [] (Ψ:=fun w=>SolI (fun w=>ArgI w A0 n R C Z∧Zan w B0 bz) W0 w b n A' C' X' bx (xs)) (ZaA.of (by kernel_rfl)) (by kernel_rfl) (fun w Q=>Q) ?_
        exact Za0 ((n - (t + 1 + (j + 1)))) (by omega) ⟨((u + (P - f) * y) % P),(j + 1),rfl,rfl,(by rw [hu,← hf,← hy]; rfl),(Nat.mod_lt _ (by omega)),(by omega),rfl⟩
       ·have hjn:n≤t + 1 + j:=by have:=of_decide_eq_false hb18; omega
        refine Zbf (Zaj (Zaj (Zbv (Zaa (Zab (xr 4 [eS1 6 none 0 0,(7, .v (.int .i64 0)),(9, .v (.int .i64 ((n:Nat):Int))),(10, .v (.int .u64 ((P:Nat):Int))),eS1 11 (some ⟨b,0,none⟩) n n,eS1 15 (some ⟨bx,0,none⟩) n n,(16, .v (.int .i64 ((t:Nat):Int))),eS1 121 (some ⟨bx,0,none⟩) n n,(122, .v (.int .i64 ((t:Nat):Int))),(124, .v (.int .i64 (IntKind.i64.wrap (((u:Nat):Int)))))] [] ?_))))))
        rw [ZkB (by omega)]
        refine xk 125 (.pointer (some ⟨bx,t,none⟩)) (fun w hE' Q=>ZaH (g:=bx) (len:=n) (cap:=n) (i:=t) (t:=23) (e:=3) (x:=.tmp 121) (ix:=.tmp 122) htn) ?_
        refine Zdj (fun w=>SolI (fun w=>ArgI w A0 n R C Z∧Zan w B0 bz) W0 w b n A' C' X' bx (xs.set t u)) (fun w hE' Q=>stX (t:=3) (x:=.tmp 125) (y:=.tmp 124) (bOld ha hb0) Q hE' (by omega)) ?_
        refine xr 0 [eS1 6 none 0 0,(7, .v (.int .i64 0)),(9, .v (.int .i64 ((n:Nat):Int))),(10, .v (.int .u64 ((P:Nat):Int))),eS1 11 (some ⟨b,0,none⟩) n n,eS1 15 (some ⟨bx,0,none⟩) n n,(16, .v (.int .i64 ((t:Nat):Int)))] [] ?_
        refine xe (Zbr (Zaa (Zab (xr 2 [eS1 6 none 0 0,(7, .v (.int .i64 0)),(9, .v (.int .i64 ((n:Nat):Int))),(10, .v (.int .u64 ((P:Nat):Int))),eS1 11 (some ⟨b,0,none⟩) n n,eS1 15 (some ⟨bx,0,none⟩) n n,(16, .v (.int .i64 ((t:Nat):Int))),(87, .v (.int .i64 (IntKind.i64.wrap (((t:Nat):Int) - 1))))] [] ?_))))
        rw [ZiD (k:=t) (by omega)]
        refine xr 1 [eS1 6 none 0 0,(7, .v (.int .i64 0)),(9, .v (.int .i64 ((n:Nat):Int))),(10, .v (.int .u64 ((P:Nat):Int))),eS1 11 (some ⟨b,0,none⟩) n n,eS1 15 (some ⟨bx,0,none⟩) n n,(16, .v (.int .i64 (((t:Nat):Int) - 1)))] [] ?_
        refine xe ?_
        refine SXq.weak [(6, .v (.slice none 0 0)),(7, .v (.int .i64 0)),(9, .v (.int .i64 ((n:Nat):Int))),(10, .v (.int .u64 ((P:Nat):Int))),(11, .v (.slice (some ⟨b,0,none⟩) n n)),(15, .v (.slice (some ⟨bx,0,none⟩) n n)),(16, .v (.int .i64 (((t:Nat):Int) - 1)))] [] (Ψ:=fun w=>SolI (fun w=>ArgI w A0 n R C Z∧Zan w B0 bz) W0 w b n A' C' X' bx ((xs.set t u))) (ZaA.of (by kernel_rfl)) (by kernel_rfl) (fun w Q=>Q) ?_
        exact Za0 ((1 + t)) (by omega) ⟨(xs.set t u),t,rfl,rfl,(by omega),(by rw [List.length_set]; exact hxl),(ZmJ hlt huP),(hbk.step htn hxl (by rw [(show n - (t + 1)=j by omega)]; exact hu)),rfl⟩
      ·obtain rfl:i=0:=by have:=of_decide_eq_false hb17; omega
       refine Zbf (Zaj (Zaj (Zbv (Zaa (Zac (Zab (xr 3 [eS1 6 (some ⟨bx,0,none⟩) n n,(7, .v (.int .i64 0))] [] ?_)))))))
       refine xe (Zaa (Zaw ?_))
       refine Zaq (v:=.tuple #[.slice (some ⟨bx,0,none⟩) n n, .int .i64 0]) (by kernel_rfl) (fun w' S Q=>?_)
       exact ⟨⟨bx,xs,_,_, .ok P X X' r d (hc0 ▸ hc) hnb rfl hD' hR hB hr hxl hlt hbk⟩,rfl,S,fun _=>⟨Q.xr,Q.nx⟩⟩
 ·rw [hb10]
  have hc2:=Zpa hb10
  refine xr 7 [eS1 0 A0 n c0,eS1 1 B0 nb cb,(2, .v (.int .i64 p)),eS1 6 none 0 0,(7, .v (.int .i64 0)),(8, .v (.int .i64 c)),(22, .v (.bool false))] [] ?_
  refine xe (Zaa (xb (Zac (Zab (xr 3 [eS1 0 A0 n c0,eS1 1 B0 nb cb,(2, .v (.int .i64 p)),eS1 6 none 0 0,(7, .v (.int .i64 0)),(8, .v (.int .i64 c)),(32, .v (.bool ((c:Int) != 0)))] [] ?_)))))
  refine xe (Zaa ?_)
  refine Zax (((c:Int) != 0)) (by kernel_rfl) (fun hb19=>?_) (fun hb19=>?_)
  ·have hc0:=ZlO hb19
   refine Zac (Zab (xr 3 [eS1 0 A0 n c0,eS1 1 B0 nb cb,(2, .v (.int .i64 p)),eS1 6 none 0 0,(7, .v (.int .i64 c))] [] ?_))
   refine xe (Zaa (Zaw (Zct (Zam ?_))))
   refine Zaq (v:=.tuple #[.slice none 0 0, .int .i64 c]) (by kernel_rfl) (fun w' S Q=>?_)
   exact ⟨⟨0,[],_,_, .err c hc hc0 (fun e=>absurd e hc2)⟩,rfl,S,(fun e=>absurd e hc0)⟩
  ·have hc0:=ZlP hb19
   refine Zac (Zab (xr 6 [eS1 0 A0 n c0,eS1 1 B0 nb cb,(2, .v (.int .i64 p)),eS1 6 none 0 0,(7, .v (.int .i64 0)),(36, .v (.bool ((((nb:Nat):Int):Int) != ((n:Nat):Int))))] [] ?_))
   refine xe (Zaa ?_)
   refine Zax (((((nb:Nat):Int):Int) != ((n:Nat):Int))) (by kernel_rfl) (fun hb20=>?_) (fun hb20=>?_)
   ·have hnb:=ZeP hb20
    refine Zac (Zab (xr 2 [eS1 0 A0 n c0,eS1 1 B0 nb cb,(2, .v (.int .i64 p)),eS1 6 none 0 0,(7, .v (.int .i64 4))] [] ?_))
    refine xe (Zaa (Zaw (Zct (Zam ?_))))
    refine Zaq (v:=.tuple #[.slice none 0 0, .int .i64 4]) (by kernel_rfl) (fun w' S Q=>?_)
    exact ⟨⟨0,[],_,_, .shape (hc0 ▸ hc) hnb⟩,rfl,S,(fun e=>absurd (show (4:Int)=0 from e) (by decide))⟩
   ·have hnb:=ZeQ hb20
    refine Zap (Zbr (Zaa (Zac ?_)))
    obtain ⟨hpb,hn0,hz,hs,hev,hn64,hz64⟩:=hc.okk hc0
    obtain ⟨P,rfl,hP2,hP31,hPr⟩:=ZgN hpb
    obtain ⟨m,hmn⟩:∃ m,m=n:=⟨_,rfl⟩
    have hmm:∀ i,i < n→(Z i).length=m:=fun i hi=>by rw [hev i hi,hs rfl,hmn]
    refine Zab (xr 4 [eS1 0 A0 n c0,eS1 1 B0 nb cb,(2, .v (.int .i64 ((P:Nat):Int))),eS1 6 none 0 0,(7, .v (.int .i64 0)),(43, .v (.int .i64 ((n:Nat):Int))),(45, .v (.int .u64 (IntKind.u64.wrap (((P:Nat):Int)))))] [] ?_)
    rw [ZgO hP31]
    refine xr 2 [eS1 0 A0 n c0,eS1 1 B0 nb cb,(2, .v (.int .i64 ((P:Nat):Int))),eS1 6 none 0 0,(7, .v (.int .i64 0)),(9, .v (.int .i64 ((n:Nat):Int))),(10, .v (.int .u64 ((P:Nat):Int)))] [] ?_
    refine xe (Zaa (Zac (Zab (xr 2 [eS1 1 B0 nb cb,(2, .v (.int .i64 ((P:Nat):Int))),eS1 6 none 0 0,(7, .v (.int .i64 0)),(9, .v (.int .i64 ((n:Nat):Int))),(10, .v (.int .u64 ((P:Nat):Int))),eS1 46 A0 n c0,(47, .v (.int .i64 ((P:Nat):Int)))] [] ?_))))
    refine Zdt (d:=48) 61 [.slice A0 n c0, .int .i64 ((P:Nat):Int)] (fun x:RsX n ((P:Nat):Int) Z=>.slice (some ⟨x.b,0,none⟩) n n) (fun x w=>ResI .u64 88 93 (fun w=>ArgI w A0 n R C Z∧Zan w B0 bz) W0 w x.b n (x.A) (x.C) (x.X)) (fun w hE' Q=>(ZeV A0 n m c0 R C Z ((P:Nat):Int) w Q.1.1 (by omega) (by omega) hmm (by omega) (by omega)).mono (fun _ _ h=>ZhX (bOld ha hb0) Q.1 hE' h)) (fun x=>?_)
    obtain ⟨b,A,C1,X,hX⟩:=x
    refine xr 1 [eS1 1 B0 nb cb,(2, .v (.int .i64 ((P:Nat):Int))),eS1 6 none 0 0,(7, .v (.int .i64 0)),(9, .v (.int .i64 ((n:Nat):Int))),(10, .v (.int .u64 ((P:Nat):Int))),eS1 11 (some ⟨b,0,none⟩) n n] [] ?_
    refine xe (Zaa (Zac (Zac (Zab (xr 3 [eS1 1 B0 nb cb,(2, .v (.int .i64 ((P:Nat):Int))),eS1 6 none 0 0,(7, .v (.int .i64 0)),(9, .v (.int .i64 ((n:Nat):Int))),(10, .v (.int .u64 ((P:Nat):Int))),eS1 11 (some ⟨b,0,none⟩) n n,(50, .v (.int .i64 ((n:Nat):Int))),(51, .v (.int .i64 0))] [] ?_)))))
    refine xe (Zaa (Zar ?_))
    refine SXc.weak [(1, .v (.slice B0 nb cb)),(2, .v (.int .i64 ((P:Nat):Int))),(6, .v (.slice none 0 0)),(7, .v (.int .i64 0)),(9, .v (.int .i64 ((n:Nat):Int))),(10, .v (.int .u64 ((P:Nat):Int))),(11, .v (.slice (some ⟨b,0,none⟩) n n)),(50, .v (.int .i64 ((n:Nat):Int))),(51, .v (.int .i64 ((0:Nat):Int)))] [] (Ψ:=fun w=>ResI .u64 88 93 (fun w=>ArgI w A0 n R C Z∧Zan w B0 bz) W0 w b n (A) (C1) (X)) (ZaA.of (by kernel_rfl)) (by kernel_rfl) (fun w Q=>Q) ?_
    refine Zbs (fun nn ss ff=>∃ (A:Nat→Option Addr) (C1:Nat→Nat) (X:Nat→List Nat) (i:Nat),ss=ofL [(1, .v (.slice B0 nb cb)),(2, .v (.int .i64 ((P:Nat):Int))),(6, .v (.slice none 0 0)),(7, .v (.int .i64 0)),(9, .v (.int .i64 ((n:Nat):Int))),(10, .v (.int .u64 ((P:Nat):Int))),(11, .v (.slice (some ⟨b,0,none⟩) n n)),(50, .v (.int .i64 ((n:Nat):Int))),(51, .v (.int .i64 ((i:Nat):Int)))] []∧ff=(fun w=>ResI .u64 88 93 (fun w=>ArgI w A0 n R C Z∧Zan w B0 bz) W0 w b n (A) (C1) (X))∧(i≤n)∧(AugD n ((P:Nat):Int) Z bz X i)∧nn=(n - i)) ((n - 0)) ⟨A,C1,X,0,rfl,rfl,Nat.zero_le _,(AugD.start hX),rfl⟩ ?_
    rintro nn ss ff ⟨A,C1,X,i,rfl,rfl,hi,hD,rfl⟩
    refine Zac (Zab (xr 1 [eS1 1 B0 nb cb,(2, .v (.int .i64 ((P:Nat):Int))),eS1 6 none 0 0,(7, .v (.int .i64 0)),(9, .v (.int .i64 ((n:Nat):Int))),(10, .v (.int .u64 ((P:Nat):Int))),eS1 11 (some ⟨b,0,none⟩) n n,(50, .v (.int .i64 ((n:Nat):Int))),(51, .v (.int .i64 ((i:Nat):Int))),(52, .v (.bool (decide (((i:Nat):Int) < ((n:Nat):Int)))))] [] ?_))
    refine xe (Zaa (Zac ?_))
    refine Zax ((decide (((i:Nat):Int) < ((n:Nat):Int)))) (by kernel_rfl) (fun hb22=>?_) (fun hb22=>?_)
    ·have hin:i < n:=by have:=of_decide_eq_true hb22; omega
     refine Zap (Zaa (Zac (Zar (Zac (Zab (xr 2 [eS1 1 B0 nb cb,(2, .v (.int .i64 ((P:Nat):Int))),eS1 6 none 0 0,(7, .v (.int .i64 0)),(9, .v (.int .i64 ((n:Nat):Int))),(10, .v (.int .u64 ((P:Nat):Int))),eS1 11 (some ⟨b,0,none⟩) n n,(12, .v (.int .i64 ((i:Nat):Int))),(50, .v (.int .i64 ((n:Nat):Int))),(51, .v (.int .i64 ((i:Nat):Int)))] [] ?_))))))
     refine xe (Zaa ?_)
     obtain ⟨z,hz'⟩:∃ z,bz.getD i 0=z:=⟨_,rfl⟩
     have hz64' : -9223372036854775808≤z∧z≤9223372036854775807:=by rw [← hz']; exact hb64.at i
     obtain ⟨q,hq⟩:∃ q:Nat,z % ((P:Nat):Int)=(q:Int):=Int.eq_ofNat_of_zero_le (Int.emod_nonneg z (by omega))
     refine ZfY 13 11 54 12 55 11 56 12 57 (.slice (some ⟨b,0,none⟩) n n) (.int .i64 ((i:Nat):Int)) (.slice (some ⟨b,0,none⟩) n n) (.int .i64 ((i:Nat):Int)) ?_
     refine xf 0 [eS1 1 B0 nb cb,(2, .v (.int .i64 ((P:Nat):Int))),eS1 6 none 0 0,(7, .v (.int .i64 0)),(9, .v (.int .i64 ((n:Nat):Int))),(10, .v (.int .u64 ((P:Nat):Int))),eS1 11 (some ⟨b,0,none⟩) n n,(12, .v (.int .i64 ((i:Nat):Int))),(50, .v (.int .i64 ((n:Nat):Int))),(51, .v (.int .i64 ((i:Nat):Int))),eS1 54 (some ⟨b,0,none⟩) n n,(55, .v (.int .i64 ((i:Nat):Int))),eS1 56 (some ⟨b,0,none⟩) n n,(57, .v (.int .i64 ((i:Nat):Int)))] [] ?_
     refine xj 58 (.pointer (some ⟨b,i,none⟩)) (fun w Q=>ZaH (g:=b) (len:=n) (cap:=n) (i:=i) (t:=91) (e:=93) (x:=.tmp 56) (ix:=.tmp 57) hin) ?_
     refine xj 59 (.slice (A i) m (C1 i)) (fun w Q=>Zcb (t:=93) (x:=.tmp 58) Q.mat hin (hD.len hin (hmm i hin))) ?_
     refine xf 2 [eS1 1 B0 nb cb,(2, .v (.int .i64 ((P:Nat):Int))),eS1 6 none 0 0,(7, .v (.int .i64 0)),(9, .v (.int .i64 ((n:Nat):Int))),(10, .v (.int .u64 ((P:Nat):Int))),eS1 11 (some ⟨b,0,none⟩) n n,(50, .v (.int .i64 ((n:Nat):Int))),(51, .v (.int .i64 ((i:Nat):Int))),eS1 54 (some ⟨b,0,none⟩) n n,(55, .v (.int .i64 ((i:Nat):Int))),eS1 59 (A i) m (C1 i),eS1 60 B0 nb cb,(61, .v (.int .i64 ((i:Nat):Int)))] [] ?_
     refine xj 62 (atA B0 i) (fun w Q=>ZfF (t:=23) (e:=3) (x:=.tmp 60) (ix:=.tmp 61) (cap:=cb) Q.arg.2 hbl (by omega)) ?_
     refine xj 63 (.int .i64 z) (fun w Q=>ZfG (t:=3) (x:=.tmp 62) (j:=i) Q.arg.2 (by omega) hz') ?_
     refine xf 1 [eS1 1 B0 nb cb,(2, .v (.int .i64 ((P:Nat):Int))),eS1 6 none 0 0,(7, .v (.int .i64 0)),(9, .v (.int .i64 ((n:Nat):Int))),(10, .v (.int .u64 ((P:Nat):Int))),eS1 11 (some ⟨b,0,none⟩) n n,(50, .v (.int .i64 ((n:Nat):Int))),(51, .v (.int .i64 ((i:Nat):Int))),eS1 54 (some ⟨b,0,none⟩) n n,(55, .v (.int .i64 ((i:Nat):Int))),eS1 59 (A i) m (C1 i),(63, .v (.int .i64 z)),(64, .v (.int .i64 ((P:Nat):Int)))] [] ?_
     refine xd 62 [.int .i64 z, .int .i64 ((P:Nat):Int)] 65 (fun _:Unit=>.int .u64 ((q:Nat):Int)) _ (fun w S Q=>(Zfk z ((P:Nat):Int) q _ hz64' (by omega) (by omega) hq).mono (fun _ _ h=>Zau h rfl)) (fun xx=>?_)
     refine xf 0 [eS1 1 B0 nb cb,(2, .v (.int .i64 ((P:Nat):Int))),eS1 6 none 0 0,(7, .v (.int .i64 0)),(9, .v (.int .i64 ((n:Nat):Int))),(10, .v (.int .u64 ((P:Nat):Int))),eS1 11 (some ⟨b,0,none⟩) n n,(50, .v (.int .i64 ((n:Nat):Int))),(51, .v (.int .i64 ((i:Nat):Int))),eS1 54 (some ⟨b,0,none⟩) n n,(55, .v (.int .i64 ((i:Nat):Int))),eS1 59 (A i) m (C1 i),(65, .v (.int .u64 ((q:Nat):Int)))] [] ?_
     refine Zi1 66 (fun zb:Nat=>.slice (some ⟨zb,0,none⟩) 1 1) (fun zb zw=>Blk 88 zw zb #[.int .u64 ((q:Nat):Int)]) (by kernel_rfl) (by kernel_rfl) (by kernel_rfl) (by kernel_rfl) (by kernel_rfl) (by kernel_rfl) (by kernel_rfl) (fun w S Q=>Zdh (t:=93) (e:=88) (n:=1) (sz:=1) (z:=.int .u64 0) (parts:=#[(0,Operand.tmp 65)]) (by kernel_rfl) (by kernel_rfl) (by kernel_rfl) (by kernel_rfl) (by kernel_rfl) (by kernel_rfl)) (fun b23=>?_)
     refine xf 0 [eS1 1 B0 nb cb,(2, .v (.int .i64 ((P:Nat):Int))),eS1 6 none 0 0,(7, .v (.int .i64 0)),(9, .v (.int .i64 ((n:Nat):Int))),(10, .v (.int .u64 ((P:Nat):Int))),eS1 11 (some ⟨b,0,none⟩) n n,(50, .v (.int .i64 ((n:Nat):Int))),(51, .v (.int .i64 ((i:Nat):Int))),eS1 54 (some ⟨b,0,none⟩) n n,(55, .v (.int .i64 ((i:Nat):Int))),eS1 59 (A i) m (C1 i),eS1 66 (some ⟨b23,0,none⟩) 1 1] [] ?_
     refine xz ?_
     refine Zd1 (d:=67) (fun z:Option Addr × Nat=>.slice z.1 (m + 1) z.2) (fun z w=>LooseI .u64 88 93 (fun w=>ArgI w A0 n R C Z∧Zan w B0 bz) W0 w b n i A C1 X (z.1) (z.2) (X i ++ [q])) (fun w hE' Q=>ZhW (t:=93) (x:=.tmp 59) (y:=.tmp 66) (g:=b23) (x':=q) (bw:=8) (bOld ha hb0) Q.1.1 hE' hin (hD.len hin (hmm i hin)) (by omega) (by decide) (Zi8 Q.2)) (fun z=>?_)
     obtain ⟨A3,c3⟩:=z
     refine xk 68 (.pointer (some ⟨b,i,none⟩)) (fun w hE' Q=>ZaH (g:=b) (len:=n) (cap:=n) (i:=i) (t:=91) (e:=93) (x:=.tmp 54) (ix:=.tmp 55) hin) ?_
     refine Zdj (fun w=>ResI .u64 88 93 (fun w=>ArgI w A0 n R C Z∧Zan w B0 bz) W0 w b n (upF A i A3) (upF C1 i c3) (upF X i (X i ++ [q]))) (fun w hE' Q=>Zhd (t:=93) (x:=.tmp 68) (y:=.tmp 67) (bOld ha hb0) Q hE' hin (by rw [List.length_append,hD.len hin (hmm i hin),List.length_singleton])) ?_
     refine xr 0 [eS1 1 B0 nb cb,(2, .v (.int .i64 ((P:Nat):Int))),eS1 6 none 0 0,(7, .v (.int .i64 0)),(9, .v (.int .i64 ((n:Nat):Int))),(10, .v (.int .u64 ((P:Nat):Int))),eS1 11 (some ⟨b,0,none⟩) n n,(50, .v (.int .i64 ((n:Nat):Int))),(51, .v (.int .i64 ((i:Nat):Int)))] [] ?_
     refine xe (Zbr (Zaa (Zab (xr 1 [eS1 1 B0 nb cb,(2, .v (.int .i64 ((P:Nat):Int))),eS1 6 none 0 0,(7, .v (.int .i64 0)),(9, .v (.int .i64 ((n:Nat):Int))),(10, .v (.int .u64 ((P:Nat):Int))),eS1 11 (some ⟨b,0,none⟩) n n,(50, .v (.int .i64 ((n:Nat):Int))),(51, .v (.int .i64 ((i:Nat):Int))),(69, .v (.int .i64 (IntKind.i64.wrap (((i:Nat):Int) + 1))))] [] ?_))))
     rw [Zbh (k:=i) (by omega)]
     refine xr 1 [eS1 1 B0 nb cb,(2, .v (.int .i64 ((P:Nat):Int))),eS1 6 none 0 0,(7, .v (.int .i64 0)),(9, .v (.int .i64 ((n:Nat):Int))),(10, .v (.int .u64 ((P:Nat):Int))),eS1 11 (some ⟨b,0,none⟩) n n,(50, .v (.int .i64 ((n:Nat):Int))),(51, .v (.int .i64 ((i + 1:Nat):Int)))] [] ?_
     refine xe ?_
     refine SXq.weak [(1, .v (.slice B0 nb cb)),(2, .v (.int .i64 ((P:Nat):Int))),(6, .v (.slice none 0 0)),(7, .v (.int .i64 0)),(9, .v (.int .i64 ((n:Nat):Int))),(10, .v (.int .u64 ((P:Nat):Int))),(11, .v (.slice (some ⟨b,0,none⟩) n n)),(50, .v (.int .i64 ((n:Nat):Int))),(51, .v (.int .i64 (((i + 1):Nat):Int)))] [] (Ψ:=fun w=>ResI .u64 88 93 (fun w=>ArgI w A0 n R C Z∧Zan w B0 bz) W0 w b n ((upF A i A3)) ((upF C1 i c3)) ((upF X i (X i ++ [q])))) (ZaA.of (by kernel_rfl)) (by kernel_rfl) (fun w Q=>Q) ?_
     exact Za0 ((n - (i + 1))) (by omega) ⟨(upF A i A3),(upF C1 i c3),(upF X i (X i ++ [q])),(i + 1),rfl,rfl,(by omega),(hD.step hin (by rw [hz']; exact hq)),rfl⟩
    ·have hin:n≤i:=by have:=of_decide_eq_false hb22; omega
     refine Zbf (Zaj (Zaj (Zbv (Zaa (Zac (Zac ?_))))))
     have hD':AugD n ((P:Nat):Int) Z bz X n:=by obtain rfl:i=n:=(by omega); exact hD
     refine Zab (xr 3 [eS1 6 none 0 0,(7, .v (.int .i64 0)),(9, .v (.int .i64 ((n:Nat):Int))),(10, .v (.int .u64 ((P:Nat):Int))),eS1 11 (some ⟨b,0,none⟩) n n,eS1 71 (some ⟨b,0,none⟩) n n,(72, .v (.int .i64 ((n:Nat):Int))),(73, .v (.int .u64 ((P:Nat):Int)))] [] ?_)
     refine Zdt (d:=74) 60 [.slice (some ⟨b,0,none⟩) n n, .int .i64 ((n:Nat):Int), .int .u64 ((P:Nat):Int)] (fun x:ElX P n ((n + 1)) n (X)=>.tuple #[.int .i64 ((x.r:Nat):Int), .int .u64 ((x.d:Nat):Int)]) (fun x w=>ResI .u64 88 93 (fun w=>ArgI w A0 n R C Z∧Zan w B0 bz) W0 w b n (x.A) (x.C) (x.X)) (fun w hE' Q=>(Zep b n ((n + 1)) n P (A) (C1) (X) w Q.mat (by omega) (by omega) (by omega) (by omega) (by omega) (ZgP rfl hP2 hD' (fun i hi=>(hmm i hi).trans hmn))).mono (fun _ _ h=>Zi9 (bOld ha hb0) Q hE' h)) (fun x=>?_)
     obtain ⟨r,d,A',C',X',hR,hB⟩:=x
     refine xr 5 [eS1 6 none 0 0,(7, .v (.int .i64 0)),(9, .v (.int .i64 ((n:Nat):Int))),(10, .v (.int .u64 ((P:Nat):Int))),eS1 11 (some ⟨b,0,none⟩) n n,(13, .v (.int .i64 ((r:Nat):Int)))] [] ?_
     refine xe (Zaa (Zac (Zab (xr 3 [eS1 6 none 0 0,(7, .v (.int .i64 0)),(9, .v (.int .i64 ((n:Nat):Int))),(10, .v (.int .u64 ((P:Nat):Int))),eS1 11 (some ⟨b,0,none⟩) n n,(79, .v (.bool (decide (((r:Nat):Int) < ((n:Nat):Int)))))] [] ?_))))
     refine xe (Zaa ?_)
     refine Zax ((decide (((r:Nat):Int) < ((n:Nat):Int)))) (by kernel_rfl) (fun hb24=>?_) (fun hb24=>?_)
     ·have hr:r < n:=by have:=of_decide_eq_true hb24; omega
      refine Zac (Zab (xr 2 [eS1 6 none 0 0,(7, .v (.int .i64 7)),(9, .v (.int .i64 ((n:Nat):Int))),(10, .v (.int .u64 ((P:Nat):Int))),eS1 11 (some ⟨b,0,none⟩) n n] [] ?_))
      refine xe (Zaa (Zaw (Zam ?_)))
      refine Zaq (v:=.tuple #[.slice none 0 0, .int .i64 7]) (by kernel_rfl) (fun w' S Q=>?_)
      exact ⟨⟨0,[],_,_, .sing P X X' r d (hc0 ▸ hc) hnb rfl hD' hR hr⟩,rfl,S,(fun e=>absurd (show (7:Int)=0 from e) (by decide))⟩
     ·have hr:¬ r < n:=by have:=of_decide_eq_false hb24; omega
      refine Zap (Zaa (Zac (Zab (xr 1 [eS1 6 none 0 0,(7, .v (.int .i64 0)),(9, .v (.int .i64 ((n:Nat):Int))),(10, .v (.int .u64 ((P:Nat):Int))),eS1 11 (some ⟨b,0,none⟩) n n,(80, .v (.int .i64 ((n:Nat):Int)))] [] ?_))))
      refine Zd1 (d:=81) (fun bx:Nat=>.slice (some ⟨bx,0,none⟩) n n) (fun bx w=>SolI (fun w=>ArgI w A0 n R C Z∧Zan w B0 bz) W0 w b n A' C' X' bx (List.replicate n 0)) (fun w hE' Q=>ZmG (t:=23) (l:=.tmp 80) (c:=.tmp 80) (kl:=.i64) (kc:=.i64) (bOld ha hb0) Q (by omega) hE') (fun bx=>?_)
      refine xr 1 [eS1 6 none 0 0,(7, .v (.int .i64 0)),(9, .v (.int .i64 ((n:Nat):Int))),(10, .v (.int .u64 ((P:Nat):Int))),eS1 11 (some ⟨b,0,none⟩) n n,eS1 15 (some ⟨bx,0,none⟩) n n] [] ?_
      refine xe (Zaa (Zac (Zac (Zab (xr 2 [eS1 6 none 0 0,(7, .v (.int .i64 0)),(9, .v (.int .i64 ((n:Nat):Int))),(10, .v (.int .u64 ((P:Nat):Int))),eS1 11 (some ⟨b,0,none⟩) n n,eS1 15 (some ⟨bx,0,none⟩) n n,(83, .v (.int .i64 (IntKind.i64.wrap (((n:Nat):Int) - 1))))] [] ?_)))))
      rw [ZiD (k:=n) (by omega)]
      refine xr 1 [eS1 6 none 0 0,(7, .v (.int .i64 0)),(9, .v (.int .i64 ((n:Nat):Int))),(10, .v (.int .u64 ((P:Nat):Int))),eS1 11 (some ⟨b,0,none⟩) n n,eS1 15 (some ⟨bx,0,none⟩) n n,(16, .v (.int .i64 (((n:Nat):Int) - 1)))] [] ?_
      refine xe (Zaa (Zar ?_))
      refine SXc.weak [(6, .v (.slice none 0 0)),(7, .v (.int .i64 0)),(9, .v (.int .i64 ((n:Nat):Int))),(10, .v (.int .u64 ((P:Nat):Int))),(11, .v (.slice (some ⟨b,0,none⟩) n n)),(15, .v (.slice (some ⟨bx,0,none⟩) n n)),(16, .v (.int .i64 (((n:Nat):Int) - 1)))] [] (Ψ:=fun w=>SolI (fun w=>ArgI w A0 n R C Z∧Zan w B0 bz) W0 w b n A' C' X' bx ((List.replicate n 0))) (ZaA.of (by kernel_rfl)) (by kernel_rfl) (fun w Q=>Q) ?_
      refine Zbs (fun nn ss ff=>∃ (xs:List Nat) (i:Nat),ss=ofL [(6, .v (.slice none 0 0)),(7, .v (.int .i64 0)),(9, .v (.int .i64 ((n:Nat):Int))),(10, .v (.int .u64 ((P:Nat):Int))),(11, .v (.slice (some ⟨b,0,none⟩) n n)),(15, .v (.slice (some ⟨bx,0,none⟩) n n)),(16, .v (.int .i64 (((i:Nat):Int) - 1)))] []∧ff=(fun w=>SolI (fun w=>ArgI w A0 n R C Z∧Zan w B0 bz) W0 w b n A' C' X' bx (xs))∧(i≤n)∧(xs.length=n)∧(∀ x ∈ xs,x < P)∧(ZeW P n X' xs i)∧nn=(1 + i)) ((1 + n)) ⟨(List.replicate n 0),n,rfl,rfl,Nat.le_refl _,List.length_replicate,(Zlk (by omega)),(fun t h1 h2=>absurd h2 (by omega)),rfl⟩ ?_
      rintro nn ss ff ⟨xs,i,rfl,rfl,hi,hxl,hlt,hbk,rfl⟩
      refine Zac (Zac (Zab (xr 2 [eS1 6 none 0 0,(7, .v (.int .i64 0)),(9, .v (.int .i64 ((n:Nat):Int))),(10, .v (.int .u64 ((P:Nat):Int))),eS1 11 (some ⟨b,0,none⟩) n n,eS1 15 (some ⟨bx,0,none⟩) n n,(16, .v (.int .i64 (((i:Nat):Int) - 1))),(85, .v (.bool (decide ((((i:Nat):Int) - 1) ≥ 0))))] [] ?_)))
      refine xe (Zaa ?_)
      refine Zax ((decide ((((i:Nat):Int) - 1) ≥ 0))) (by kernel_rfl) (fun hb25=>?_) (fun hb25=>?_)
      ·obtain ⟨t,rfl⟩:∃ t,i=t + 1:=⟨i - 1,by have:=of_decide_eq_true hb25; omega⟩
       refine Zap (Zaa (Zac (Zar (Zac ?_))))
       rw [show (((t + 1:Nat):Int) - 1)=((t:Nat):Int) from by omega]
       have htn:t < n:=by omega
       refine Zab (xr 2 [eS1 6 none 0 0,(7, .v (.int .i64 0)),(9, .v (.int .i64 ((n:Nat):Int))),(10, .v (.int .u64 ((P:Nat):Int))),eS1 11 (some ⟨b,0,none⟩) n n,eS1 15 (some ⟨bx,0,none⟩) n n,(16, .v (.int .i64 ((t:Nat):Int))),eS1 88 (some ⟨b,0,none⟩) n n,(89, .v (.int .i64 ((t:Nat):Int)))] [] ?_)
       refine xk 90 (.pointer (some ⟨b,t,none⟩)) (fun w hE' Q=>ZaH (g:=b) (len:=n) (cap:=n) (i:=t) (t:=91) (e:=93) (x:=.tmp 88) (ix:=.tmp 89) htn) ?_
       refine xk 91 (.slice (A' t) (n + 1) (C' t)) (fun w hE' Q=>Zcb (t:=93) (x:=.tmp 90) Q.mat.mat htn (hB.len t htn)) ?_
       refine xr 1 [eS1 6 none 0 0,(7, .v (.int .i64 0)),(9, .v (.int .i64 ((n:Nat):Int))),(10, .v (.int .u64 ((P:Nat):Int))),eS1 11 (some ⟨b,0,none⟩) n n,eS1 15 (some ⟨bx,0,none⟩) n n,(16, .v (.int .i64 ((t:Nat):Int))),eS1 91 (A' t) (n + 1) (C' t),(92, .v (.int .i64 ((n:Nat):Int)))] [] ?_
       refine xk 93 (atA (A' t) n) (fun w hE' Q=>Zb3 (t:=93) (e:=88) (x:=.tmp 91) (ix:=.tmp 92) (cap:=C' t) Q.mat.mat htn (hB.len t htn) (by omega)) ?_
       obtain ⟨u,hu⟩:∃ u,u=bk P (X' t) xs n t 0:=⟨_,rfl⟩
       refine xk 94 (.int .u64 ((u:Nat):Int)) (fun w hE' Q=>Zcs (t:=88) (x:=.tmp 93) (j:=n) Q.mat.mat htn (hB.len t htn) (by omega) hu.symm) ?_
       refine xr 1 [eS1 6 none 0 0,(7, .v (.int .i64 0)),(9, .v (.int .i64 ((n:Nat):Int))),(10, .v (.int .u64 ((P:Nat):Int))),eS1 11 (some ⟨b,0,none⟩) n n,eS1 15 (some ⟨bx,0,none⟩) n n,(16, .v (.int .i64 ((t:Nat):Int))),(17, .v (.int .u64 ((u:Nat):Int)))] [] ?_
       refine xe (Zaa (Zac (Zac (Zab (xr 2 [eS1 6 none 0 0,(7, .v (.int .i64 0)),(9, .v (.int .i64 ((n:Nat):Int))),(10, .v (.int .u64 ((P:Nat):Int))),eS1 11 (some ⟨b,0,none⟩) n n,eS1 15 (some ⟨bx,0,none⟩) n n,(16, .v (.int .i64 ((t:Nat):Int))),(17, .v (.int .u64 ((u:Nat):Int))),(96, .v (.int .i64 (IntKind.i64.wrap (((t:Nat):Int) + 1))))] [] ?_)))))
       rw [Zbh (k:=t) (by omega)]
       refine xr 1 [eS1 6 none 0 0,(7, .v (.int .i64 0)),(9, .v (.int .i64 ((n:Nat):Int))),(10, .v (.int .u64 ((P:Nat):Int))),eS1 11 (some ⟨b,0,none⟩) n n,eS1 15 (some ⟨bx,0,none⟩) n n,(16, .v (.int .i64 ((t:Nat):Int))),(17, .v (.int .u64 ((u:Nat):Int))),(18, .v (.int .i64 ((t + 1:Nat):Int)))] [] ?_
       refine xe (Zaa (Zar ?_))
       refine SXc.weak [(6, .v (.slice none 0 0)),(7, .v (.int .i64 0)),(9, .v (.int .i64 ((n:Nat):Int))),(10, .v (.int .u64 ((P:Nat):Int))),(11, .v (.slice (some ⟨b,0,none⟩) n n)),(15, .v (.slice (some ⟨bx,0,none⟩) n n)),(16, .v (.int .i64 ((t:Nat):Int))),(17, .v (.int .u64 ((u:Nat):Int))),(18, .v (.int .i64 ((t + 1 + 0:Nat):Int)))] [] (Ψ:=fun w=>SolI (fun w=>ArgI w A0 n R C Z∧Zan w B0 bz) W0 w b n A' C' X' bx (xs)) (ZaA.of (by kernel_rfl)) (by kernel_rfl) (fun w Q=>Q) ?_
       refine Zbs (fun nn ss ff=>∃ (u j:Nat),ss=ofL [(6, .v (.slice none 0 0)),(7, .v (.int .i64 0)),(9, .v (.int .i64 ((n:Nat):Int))),(10, .v (.int .u64 ((P:Nat):Int))),(11, .v (.slice (some ⟨b,0,none⟩) n n)),(15, .v (.slice (some ⟨bx,0,none⟩) n n)),(16, .v (.int .i64 ((t:Nat):Int))),(17, .v (.int .u64 ((u:Nat):Int))),(18, .v (.int .i64 ((t + 1 + j:Nat):Int)))] []∧ff=(fun w=>SolI (fun w=>ArgI w A0 n R C Z∧Zan w B0 bz) W0 w b n A' C' X' bx (xs))∧(u=bk P (X' t) xs n t j)∧(u < P)∧(t + 1 + j≤n)∧nn=(n - (t + 1 + j))) ((n - (t + 1 + 0))) ⟨u,0,rfl,rfl,hu,(by rw [hu]; exact Zn1 (by omega) (hB.get htn (by omega)) 0),(by omega),rfl⟩ ?_
       rintro nn ss ff ⟨u,j,rfl,rfl,hu,huP,hj,rfl⟩
       refine Zac (Zac (Zab (xr 3 [eS1 6 none 0 0,(7, .v (.int .i64 0)),(9, .v (.int .i64 ((n:Nat):Int))),(10, .v (.int .u64 ((P:Nat):Int))),eS1 11 (some ⟨b,0,none⟩) n n,eS1 15 (some ⟨bx,0,none⟩) n n,(16, .v (.int .i64 ((t:Nat):Int))),(17, .v (.int .u64 ((u:Nat):Int))),(18, .v (.int .i64 ((t + 1 + j:Nat):Int))),(99, .v (.bool (decide (((t + 1 + j:Nat):Int) < ((n:Nat):Int)))))] [] ?_)))
       refine xe (Zaa ?_)
       refine Zax ((decide (((t + 1 + j:Nat):Int) < ((n:Nat):Int)))) (by kernel_rfl) (fun hb26=>?_) (fun hb26=>?_)
       ·have hjn:t + 1 + j < n:=by have:=of_decide_eq_true hb26; omega
        refine Zap (Zaa (Zac (Zar ?_)))
        obtain ⟨f,hf⟩:∃ f,(X' t)[t + 1 + j]?.getD 0=f:=⟨_,rfl⟩
        have hfP:f < P:=by rw [← hf]; exact hB.get htn (by omega)
        obtain ⟨y,hy⟩:∃ y,xs[t + 1 + j]?.getD 0=y:=⟨_,rfl⟩
        have hyP:y < P:=by rw [← hy]; exact hlt _ (ZdO (by omega))
        refine ZfV 20 [0,0,0,0,12,28,0,124,252,510,0,0,3072,7168,15360,32766,65535,0,262143,524287] (by kernel_rfl) (by kernel_rfl) Za6 ?_
        refine xf 4 [eS1 6 none 0 0,(7, .v (.int .i64 0)),(9, .v (.int .i64 ((n:Nat):Int))),(10, .v (.int .u64 ((P:Nat):Int))),eS1 11 (some ⟨b,0,none⟩) n n,eS1 15 (some ⟨bx,0,none⟩) n n,(16, .v (.int .i64 ((t:Nat):Int))),(17, .v (.int .u64 ((u:Nat):Int))),(18, .v (.int .i64 ((t + 1 + j:Nat):Int))),(102, .v (.int .u64 ((u:Nat):Int))),(103, .v (.int .u64 ((P:Nat):Int))),eS1 104 (some ⟨b,0,none⟩) n n,(105, .v (.int .i64 ((t:Nat):Int)))] [] ?_
        refine xj 106 (.pointer (some ⟨b,t,none⟩)) (fun w Q=>ZaH (g:=b) (len:=n) (cap:=n) (i:=t) (t:=91) (e:=93) (x:=.tmp 104) (ix:=.tmp 105) htn) ?_
        refine xj 107 (.slice (A' t) (n + 1) (C' t)) (fun w Q=>Zcb (t:=93) (x:=.tmp 106) Q.mat.mat htn (hB.len t htn)) ?_
        refine xf 1 [eS1 6 none 0 0,(7, .v (.int .i64 0)),(9, .v (.int .i64 ((n:Nat):Int))),(10, .v (.int .u64 ((P:Nat):Int))),eS1 11 (some ⟨b,0,none⟩) n n,eS1 15 (some ⟨bx,0,none⟩) n n,(16, .v (.int .i64 ((t:Nat):Int))),(17, .v (.int .u64 ((u:Nat):Int))),(18, .v (.int .i64 ((t + 1 + j:Nat):Int))),(102, .v (.int .u64 ((u:Nat):Int))),(103, .v (.int .u64 ((P:Nat):Int))),eS1 107 (A' t) (n + 1) (C' t),(108, .v (.int .i64 ((t + 1 + j:Nat):Int)))] [] ?_
        refine xj 109 (atA (A' t) (t + 1 + j)) (fun w Q=>Zb3 (t:=93) (e:=88) (x:=.tmp 107) (ix:=.tmp 108) (cap:=C' t) Q.mat.mat htn (hB.len t htn) (by omega)) ?_
        refine xj 110 (.int .u64 ((f:Nat):Int)) (fun w Q=>Zcs (t:=88) (x:=.tmp 109) (j:=t + 1 + j) Q.mat.mat htn (hB.len t htn) (by omega) hf) ?_
        refine xf 1 [eS1 6 none 0 0,(7, .v (.int .i64 0)),(9, .v (.int .i64 ((n:Nat):Int))),(10, .v (.int .u64 ((P:Nat):Int))),eS1 11 (some ⟨b,0,none⟩) n n,eS1 15 (some ⟨bx,0,none⟩) n n,(16, .v (.int .i64 ((t:Nat):Int))),(17, .v (.int .u64 ((u:Nat):Int))),(18, .v (.int .i64 ((t + 1 + j:Nat):Int))),(102, .v (.int .u64 ((u:Nat):Int))),(111, .v (.int .u64 (IntKind.u64.wrap (((P:Nat):Int) - ((f:Nat):Int)))))] [] ?_
        rw [ZmI hfP hP31]
        refine xf 2 [eS1 6 none 0 0,(7, .v (.int .i64 0)),(9, .v (.int .i64 ((n:Nat):Int))),(10, .v (.int .u64 ((P:Nat):Int))),eS1 11 (some ⟨b,0,none⟩) n n,eS1 15 (some ⟨bx,0,none⟩) n n,(16, .v (.int .i64 ((t:Nat):Int))),(17, .v (.int .u64 ((u:Nat):Int))),(18, .v (.int .i64 ((t + 1 + j:Nat):Int))),(102, .v (.int .u64 ((u:Nat):Int))),(111, .v (.int .u64 ((P - f:Nat):Int))),eS1 112 (some ⟨bx,0,none⟩) n n,(113, .v (.int .i64 ((t + 1 + j:Nat):Int)))] [] ?_
        refine xj 114 (.pointer (some ⟨bx,t + 1 + j,none⟩)) (fun w Q=>ZaH (g:=bx) (len:=n) (cap:=n) (i:=t + 1 + j) (t:=23) (e:=3) (x:=.tmp 112) (ix:=.tmp 113) (by omega)) ?_
        refine xj 115 (.int .i64 ((y:Nat):Int)) (fun w Q=>by rw [← hy]; exact ZfE (t:=3) (x:=.tmp 114) (j:=t + 1 + j) Q.xr (by omega)) ?_
        refine xf 1 [eS1 6 none 0 0,(7, .v (.int .i64 0)),(9, .v (.int .i64 ((n:Nat):Int))),(10, .v (.int .u64 ((P:Nat):Int))),eS1 11 (some ⟨b,0,none⟩) n n,eS1 15 (some ⟨bx,0,none⟩) n n,(16, .v (.int .i64 ((t:Nat):Int))),(17, .v (.int .u64 ((u:Nat):Int))),(18, .v (.int .i64 ((t + 1 + j:Nat):Int))),(102, .v (.int .u64 ((u:Nat):Int))),(111, .v (.int .u64 ((P - f:Nat):Int))),(116, .v (.int .u64 (IntKind.u64.wrap (((y:Nat):Int)))))] [] ?_
        rw [ZgO (by omega)]
        refine xf 1 [eS1 6 none 0 0,(7, .v (.int .i64 0)),(9, .v (.int .i64 ((n:Nat):Int))),(10, .v (.int .u64 ((P:Nat):Int))),eS1 11 (some ⟨b,0,none⟩) n n,eS1 15 (some ⟨bx,0,none⟩) n n,(16, .v (.int .i64 ((t:Nat):Int))),(17, .v (.int .u64 ((u:Nat):Int))),(18, .v (.int .i64 ((t + 1 + j:Nat):Int))),(102, .v (.int .u64 ((u:Nat):Int))),(117, .v (.int .u64 (IntKind.u64.wrap (((P - f:Nat):Int) * ((y:Nat):Int)))))] [] ?_
        rw [mulS (Nat.sub_le _ _) hyP hP31]
        refine xf 1 [eS1 6 none 0 0,(7, .v (.int .i64 0)),(9, .v (.int .i64 ((n:Nat):Int))),(10, .v (.int .u64 ((P:Nat):Int))),eS1 11 (some ⟨b,0,none⟩) n n,eS1 15 (some ⟨bx,0,none⟩) n n,(16, .v (.int .i64 ((t:Nat):Int))),(17, .v (.int .u64 ((u:Nat):Int))),(18, .v (.int .i64 ((t + 1 + j:Nat):Int))),(118, .v (.int .u64 (IntKind.u64.wrap (((u:Nat):Int) + (((P - f) * y:Nat):Int)))))] [] ?_
        rw [addS huP (Nat.sub_le _ _) hyP hP31]
        refine xf 1 [eS1 6 none 0 0,(7, .v (.int .i64 0)),(9, .v (.int .i64 ((n:Nat):Int))),(10, .v (.int .u64 ((P:Nat):Int))),eS1 11 (some ⟨b,0,none⟩) n n,eS1 15 (some ⟨bx,0,none⟩) n n,(16, .v (.int .i64 ((t:Nat):Int))),(17, .v (.int .u64 ((u:Nat):Int))),(18, .v (.int .i64 ((t + 1 + j:Nat):Int))),(118, .v (.int .u64 ((u + (P - f) * y:Nat):Int))),(119, .v (.int .u64 ((P:Nat):Int)))] [] ?_
        refine xj 120 (.int .u64 (((u + (P - f) * y) % P:Nat):Int)) (fun w Q=>Zem (k:=.u64) (t:=88) (k':=88) (x:=.tmp 118) (y:=.tmp 119) (a:=(u + (P - f) * y)) (b:=P) (by omega)) ?_
        refine xf 1 [eS1 6 none 0 0,(7, .v (.int .i64 0)),(9, .v (.int .i64 ((n:Nat):Int))),(10, .v (.int .u64 ((P:Nat):Int))),eS1 11 (some ⟨b,0,none⟩) n n,eS1 15 (some ⟨bx,0,none⟩) n n,(16, .v (.int .i64 ((t:Nat):Int))),(17, .v (.int .u64 (((u + (P - f) * y) % P:Nat):Int))),(18, .v (.int .i64 ((t + 1 + j:Nat):Int)))] [] ?_
        refine xz (xe (Zbr (Zaa (Zab (xr 2 [eS1 6 none 0 0,(7, .v (.int .i64 0)),(9, .v (.int .i64 ((n:Nat):Int))),(10, .v (.int .u64 ((P:Nat):Int))),eS1 11 (some ⟨b,0,none⟩) n n,eS1 15 (some ⟨bx,0,none⟩) n n,(16, .v (.int .i64 ((t:Nat):Int))),(17, .v (.int .u64 (((u + (P - f) * y) % P:Nat):Int))),(18, .v (.int .i64 ((t + 1 + j:Nat):Int))),(101, .v (.int .i64 (IntKind.i64.wrap (((t + 1 + j:Nat):Int) + 1))))] [] ?_)))))
        rw [Zbh (k:=t + 1 + j) (by omega)]
        refine xr 1 [eS1 6 none 0 0,(7, .v (.int .i64 0)),(9, .v (.int .i64 ((n:Nat):Int))),(10, .v (.int .u64 ((P:Nat):Int))),eS1 11 (some ⟨b,0,none⟩) n n,eS1 15 (some ⟨bx,0,none⟩) n n,(16, .v (.int .i64 ((t:Nat):Int))),(17, .v (.int .u64 (((u + (P - f) * y) % P:Nat):Int))),(18, .v (.int .i64 ((t + 1 + j + 1:Nat):Int)))] [] ?_
        refine xe ?_
        refine SXq.weak [(6, .v (.slice none 0 0)),(7, .v (.int .i64 0)),(9, .v (.int .i64 ((n:Nat):Int))),(10, .v (.int .u64 ((P:Nat):Int))),(11, .v (.slice (some ⟨b,0,none⟩) n n)),(15, .v (.slice (some ⟨bx,0,none⟩) n n)),(16, .v (.int .i64 ((t:Nat):Int))),(17, .v (.int .u64 ((((u + (P - f) * y) % P):Nat):Int))),(18, .v (.int .i64 ((t + 1 + (j + 1):Nat):Int)))] [] (Ψ:=fun w=>SolI (fun w=>ArgI w A0 n R C Z∧Zan w B0 bz) W0 w b n A' C' X' bx (xs)) (ZaA.of (by kernel_rfl)) (by kernel_rfl) (fun w Q=>Q) ?_
        exact Za0 ((n - (t + 1 + (j + 1)))) (by omega) ⟨((u + (P - f) * y) % P),(j + 1),rfl,rfl,(by rw [hu,← hf,← hy]; rfl),(Nat.mod_lt _ (by omega)),(by omega),rfl⟩
       ·have hjn:n≤t + 1 + j:=by have:=of_decide_eq_false hb26; omega
        refine Zbf (Zaj (Zaj (Zbv (Zaa (Zab (xr 4 [eS1 6 none 0 0,(7, .v (.int .i64 0)),(9, .v (.int .i64 ((n:Nat):Int))),(10, .v (.int .u64 ((P:Nat):Int))),eS1 11 (some ⟨b,0,none⟩) n n,eS1 15 (some ⟨bx,0,none⟩) n n,(16, .v (.int .i64 ((t:Nat):Int))),eS1 121 (some ⟨bx,0,none⟩) n n,(122, .v (.int .i64 ((t:Nat):Int))),(124, .v (.int .i64 (IntKind.i64.wrap (((u:Nat):Int)))))] [] ?_))))))
        rw [ZkB (by omega)]
        refine xk 125 (.pointer (some ⟨bx,t,none⟩)) (fun w hE' Q=>ZaH (g:=bx) (len:=n) (cap:=n) (i:=t) (t:=23) (e:=3) (x:=.tmp 121) (ix:=.tmp 122) htn) ?_
        refine Zdj (fun w=>SolI (fun w=>ArgI w A0 n R C Z∧Zan w B0 bz) W0 w b n A' C' X' bx (xs.set t u)) (fun w hE' Q=>stX (t:=3) (x:=.tmp 125) (y:=.tmp 124) (bOld ha hb0) Q hE' (by omega)) ?_
        refine xr 0 [eS1 6 none 0 0,(7, .v (.int .i64 0)),(9, .v (.int .i64 ((n:Nat):Int))),(10, .v (.int .u64 ((P:Nat):Int))),eS1 11 (some ⟨b,0,none⟩) n n,eS1 15 (some ⟨bx,0,none⟩) n n,(16, .v (.int .i64 ((t:Nat):Int)))] [] ?_
        refine xe (Zbr (Zaa (Zab (xr 2 [eS1 6 none 0 0,(7, .v (.int .i64 0)),(9, .v (.int .i64 ((n:Nat):Int))),(10, .v (.int .u64 ((P:Nat):Int))),eS1 11 (some ⟨b,0,none⟩) n n,eS1 15 (some ⟨bx,0,none⟩) n n,(16, .v (.int .i64 ((t:Nat):Int))),(87, .v (.int .i64 (IntKind.i64.wrap (((t:Nat):Int) - 1))))] [] ?_))))
        rw [ZiD (k:=t) (by omega)]
        refine xr 1 [eS1 6 none 0 0,(7, .v (.int .i64 0)),(9, .v (.int .i64 ((n:Nat):Int))),(10, .v (.int .u64 ((P:Nat):Int))),eS1 11 (some ⟨b,0,none⟩) n n,eS1 15 (some ⟨bx,0,none⟩) n n,(16, .v (.int .i64 (((t:Nat):Int) - 1)))] [] ?_
        refine xe ?_
        refine SXq.weak [(6, .v (.slice none 0 0)),(7, .v (.int .i64 0)),(9, .v (.int .i64 ((n:Nat):Int))),(10, .v (.int .u64 ((P:Nat):Int))),(11, .v (.slice (some ⟨b,0,none⟩) n n)),(15, .v (.slice (some ⟨bx,0,none⟩) n n)),(16, .v (.int .i64 (((t:Nat):Int) - 1)))] [] (Ψ:=fun w=>SolI (fun w=>ArgI w A0 n R C Z∧Zan w B0 bz) W0 w b n A' C' X' bx ((xs.set t u))) (ZaA.of (by kernel_rfl)) (by kernel_rfl) (fun w Q=>Q) ?_
        exact Za0 ((1 + t)) (by omega) ⟨(xs.set t u),t,rfl,rfl,(by omega),(by rw [List.length_set]; exact hxl),(ZmJ hlt huP),(hbk.step htn hxl (by rw [(show n - (t + 1)=j by omega)]; exact hu)),rfl⟩
      ·obtain rfl:i=0:=by have:=of_decide_eq_false hb25; omega
       refine Zbf (Zaj (Zaj (Zbv (Zaa (Zac (Zab (xr 3 [eS1 6 (some ⟨bx,0,none⟩) n n,(7, .v (.int .i64 0))] [] ?_)))))))
       refine xe (Zaa (Zaw ?_))
       refine Zaq (v:=.tuple #[.slice (some ⟨bx,0,none⟩) n n, .int .i64 0]) (by kernel_rfl) (fun w' S Q=>?_)
       exact ⟨⟨bx,xs,_,_, .ok P X X' r d (hc0 ▸ hc) hnb rfl hD' hR hB hr hxl hlt hbk⟩,rfl,S,fun _=>⟨Q.xr,Q.nx⟩⟩
end Go.Proofs.YthlipnahcbcjkaaGreatDoor

namespace Go.Proofs.YthlipnahcbcjkaaGreatDoor
open Go.RowKit
def ge (f:List Nat) (t:Nat):Int:=((f[t]?.getD 0:Nat):Int)
def lin (f xs:List Nat):Nat→Int
 | 0=>0
 | j + 1=>lin f xs j + ge f j * ge xs j
def EE (n:Nat) (f xs:List Nat):Int:=lin f xs n - ge f n
section
variable {p n m c:Nat} {f g h xs:List Nat} {a b:Int}
theorem ZmQ:∀ (j:Nat),(∀ t,t < j→(p:Int) ∣ ge h t - (a * ge f t + b * ge g t))→(p:Int) ∣ lin h xs j - (a * lin f xs j + b * lin g xs j)
 | 0,_=>by simp [lin]
 | j + 1,H=>by
   have h1:=ZmQ j (fun t ht=>H t (by omega))
   have h2:=Int.dvd_mul_of_dvd_left (c:=ge xs j) (H j (by omega))
   have h3:=Int.dvd_add h1 h2
   have e:lin h xs (j + 1) - (a * lin f xs (j + 1) + b * lin g xs (j + 1))=lin h xs j - (a * lin f xs j + b * lin g xs j) + (ge h j - (a * ge f j + b * ge g j)) * ge xs j:=by
    simp only [lin]; grind
   rw [e]; exact h3
theorem Zn2 (H:∀ t,t≤n→(p:Int) ∣ ge h t - (a * ge f t + b * ge g t)):(p:Int) ∣ EE n h xs - (a * EE n f xs + b * EE n g xs):=by
 have h1:=ZmQ (xs:=xs) n (fun t ht=>H t (by omega))
 have h2:=Int.dvd_sub h1 (H n (Nat.le_refl _))
 have e:EE n h xs - (a * EE n f xs + b * EE n g xs)=lin h xs n - (a * lin f xs n + b * lin g xs n) - (ge h n - (a * ge f n + b * ge g n)):=by unfold EE; grind
 rw [e]; exact h2
theorem Zhf (x p:Nat):(p:Int) ∣ ((x % p:Nat):Int) - (x:Int):=⟨-((x / p:Nat):Int),by
 have:=Nat.div_add_mod x p
 have h2:((p * (x / p) + x % p:Nat):Int)=(x:Int):=by rw [this]
 rw [Int.natCast_add,Int.natCast_mul] at h2
 grind⟩
theorem ZmR {s:Nat} (hl:f.length=n + 1) (hz:∀ t,t < c→f[t]?.getD 0=0):∀ t,t≤n→(p:Int) ∣ ge (mulP c s p f (n + 1)) t - ((s:Int) * ge f t + 0 * ge f t):=fun t ht=>by
 unfold ge
 rw [ZcK]
 by_cases e:c≤t
 ·rw [if_pos ⟨e,by omega,by omega⟩]
  have:=Zhf (f[t]?.getD 0 * s) p
  rw [Int.natCast_mul] at this
  have e2:(s:Int) * ((f[t]?.getD 0:Nat):Int) + 0 * ((f[t]?.getD 0:Nat):Int)=((f[t]?.getD 0:Nat):Int) * (s:Int):=by grind
  rw [e2]; exact this
 ·rw [if_neg (fun z=>e z.1),hz t (by omega)]; simp
theorem ZmS {q:Nat} (hl:f.length=n + 1) (hz:∀ t,t < c→g[t]?.getD 0=0):∀ t,t≤n→(p:Int) ∣ ge (addP c q p f g (n + 1)) t - (1 * ge f t + (q:Int) * ge g t):=fun t ht=>by
 unfold ge
 rw [Zca]
 by_cases e:c≤t
 ·rw [if_pos ⟨e,by omega,by omega⟩]
  have:=Zhf (f[t]?.getD 0 + q * g[t]?.getD 0) p
  rw [Int.natCast_add,Int.natCast_mul] at this
  rw [Int.one_mul]; exact this
 ·rw [if_neg (fun z=>e z.1),hz t (by omega)]; simp
end
def Sat (p n:Nat) (X:Nat→List Nat) (xs:List Nat):Prop:=∀ i,i < n→(p:Int) ∣ EE n (X i) xs
def Ech (n:Nat) (X:Nat→List Nat) (c:Nat):Prop:=∀ i,i < n→(∀ t,t < c→t < i→(X i)[t]?.getD 0=0)∧(i < c→(X i)[i]?.getD 0=1)
section
variable {p n c r d r' d':Nat} {X X' X0:Nat→List Nat} {xs:List Nat}
theorem ZoS {r k i:Nat} (hk:r≤k) (hi:r≤i):r≤swF r k i:=by unfold swF; split<;>(try split)<;>omega
theorem ElStep.full (hP:Pr (p:Int)) (hB:ElB p n (n + 1) X c d) (hc:c < n) (hd0:0 < d) (Q:Ech n X c) (hs:ElStep p n (n + 1) c X c d X' r' d') (hr:r'=c + 1):Ech n X' (c + 1)∧0 < d'∧(Sat p n X' xs→Sat p n X xs):=by
 have hp2:2≤p:=by have:=hP.1; omega
 cases hs with
 | none hz=>omega
 | some k X1 d1 y F hk hkn hz hne hX1 hd1 hy hF =>
   have hB1:ElB p n (n + 1) X1 c 0:=by rw [hX1]; exact hB.sw hkn hc (by omega)
   have hy0:y≠0:=by rw [← hy,hX1]; show (X (swF c k c))[c]?.getD 0≠0; rw [Zo2]; exact hne
   have hyp:y < p:=by rw [← hy]; exact hB1.get hc (by omega)
   have hyi:y * invN y p % p=1:=ZkC hP (by rw [Nat.mod_eq_of_lt hyp]; exact hy0)
   have hzero:∀ i,c≤i→i < n→∀ t,t < c→(X1 i)[t]?.getD 0=0:=fun i hi hin t ht=>by
    rw [hX1]
    exact (Q _ (Zdi hc hkn hin)).1 t ht (Nat.lt_of_lt_of_le ht (ZoS hk hi))
   have hFl:F.length=n + 1:=by rw [hF,Za1]; exact hB1.len c hc
   have hF0:∀ t,t < c→F[t]?.getD 0=0:=fun t ht=>by rw [hF,ZcK,if_neg (by omega)]; exact hzero c (Nat.le_refl _) hc t ht
   have hF1:F[c]?.getD 0=1:=by rw [hF,ZcK,if_pos ⟨Nat.le_refl _,by omega,by rw [hB1.len c hc]; omega⟩,hy,hyi]
   have hXlow:∀ i,i < c→X1 i=X i:=fun i hi=>by
    rw [hX1]; show X (swF c k i)=X i
    unfold swF; rw [if_neg (by omega),if_neg (by omega)]
   refine ⟨fun i hi=>?_,?_,fun hS=>?_⟩
   ·unfold addR
    by_cases h1:c < i
    ·rw [if_pos (by omega)]
     refine ⟨fun t ht hti=>?_,fun hic=>by omega⟩
     rw [Zca]
     by_cases e:t=c
     ·subst e
      rw [if_pos ⟨Nat.le_refl _,by omega,by rw [hB1.len i hi]; omega⟩,hF1,Nat.mul_one]
      have hx:=hB1.get hi (show t < n + 1 by omega)
      generalize (X1 i)[t]?.getD 0=x at hx
      rcases Nat.eq_zero_or_pos x with e | e
      ·subst e; simp
      ·rw [Nat.mod_eq_of_lt (show p - x < p by omega),show x + (p - x)=p by omega,Nat.mod_self]
     ·rw [if_neg (by omega)]; exact hzero i (by omega) hi t (by omega)
    ·rw [if_neg (by omega)]
     by_cases h2:i=c
     ·subst h2
      rw [Zas]
      exact ⟨fun t ht hti=>hF0 t hti,fun _=>hF1⟩
     ·rw [ZaP h2,hXlow i (by omega)]
      exact ⟨fun t ht hti=>(Q i hi).1 t (by omega) hti,fun _=>(Q i hi).2 (by omega)⟩
   ·have hd1p:0 < d1∧d1 < p:=by
     have:=hB.dp
     rw [hd1]
     split
     ·exact ⟨hd0,this⟩
     ·rw [Nat.mod_eq_of_lt (by omega)]; omega
    have h3:=ZmP hP (a:=(d1:Int)) (b:=(y:Int)) (by rw [Int.emod_eq_of_lt (by omega) (by omega)]; omega) (by rw [Int.emod_eq_of_lt (by omega) (by omega)]; omega)
    rw [← Int.natCast_mul,← Int.natCast_emod] at h3
    omega
   ·have hF2:(p:Int) ∣ EE n F xs:=by
     have h1:=hS c hc
     unfold addR at h1
     rw [if_neg (by omega),Zas] at h1
     exact h1
    have hX1c:(p:Int) ∣ EE n (X1 c) xs:=by
     have h1:=Zn2 (xs:=xs) (ZmR (p:=p) (s:=invN y p) (hB1.len c hc) (hzero c (Nat.le_refl _) hc))
     rw [← hF] at h1
     have h2:=Int.dvd_sub hF2 h1
     have h3:(p:Int) ∣ (invN y p:Int) * EE n (X1 c) xs:=by
      have e:EE n F xs - (EE n F xs - ((invN y p:Int) * EE n (X1 c) xs + 0 * EE n (X1 c) xs))=(invN y p:Int) * EE n (X1 c) xs:=by grind
      rw [e] at h2; exact h2
     obtain ⟨u,hu⟩:=Int.dvd_trans h3 (Int.dvd_mul_left (y:Int) _)
     have h4:((y * invN y p:Nat):Int)=1 + (p:Int) * ((y * invN y p / p:Nat):Int):=by
      have:=Nat.div_add_mod (y * invN y p) p
      rw [hyi] at this
      rw [← Int.natCast_mul]; omega
     rw [Int.natCast_mul] at h4
     exact ⟨u - ((y * invN y p / p:Nat):Int) * EE n (X1 c) xs,by grind⟩
    have hall:∀ i,i < n→(p:Int) ∣ EE n (X1 i) xs:=fun i hi=>by
     have h1:=hS i hi
     unfold addR at h1
     by_cases h2:c < i
     ·rw [if_pos (by omega)] at h1
      have h3:=Zn2 (xs:=xs) (ZmS (p:=p) (q:=(p - (X1 i)[c]?.getD 0) % p) (hB1.len i hi) hF0)
      have h4:=Int.dvd_sub h1 h3
      have h5:=Int.dvd_sub h4 (Int.dvd_trans hF2 (Int.dvd_mul_left (((p - (X1 i)[c]?.getD 0) % p:Nat):Int) _))
      have e:∀ A B C:Int,A - (A - (1 * B + C)) - C=B:=fun A B C=>by omega
      rw [e] at h5; exact h5
     ·rw [if_neg (by omega)] at h1
      by_cases h3:i=c
      ·subst h3; exact hX1c
      ·rw [ZaP h3] at h1; exact h1
    intro i hi
    have h6:=hall (swF c k i) (Zdi hc hkn hi)
    rw [hX1] at h6
    have h7:X (swF c k (swF c k i))=X i:=by rw [Zor]
    rw [← h7]; exact h6
theorem ElRun.full (hP:Pr (p:Int)) (hB0:ElB p n (n + 1) X0 0 1):∀ {c:Nat} {X:Nat→List Nat} {r d:Nat},ElRun p n (n + 1) X0 c X r d→r≤c∧ElB p n (n + 1) X r d∧(r=c→Ech n X c∧0 < d∧(Sat p n X xs→Sat p n X0 xs)):=by
 intro c X r d h
 induction h with
 | nil=>exact ⟨Nat.le_refl _,hB0,fun _=>⟨fun i hi=>⟨fun t ht=>by omega,fun h=>by omega⟩,by omega,fun h=>h⟩⟩
 | snoc h hs ih =>
   obtain ⟨i1,i2,i3⟩:=ih
   have hb:=ElStep.bd (by have:=hP.1; omega) i2 hs
   cases hs with
   | none hz=>exact ⟨by omega,hb,fun e=>by omega⟩
   | some k X1 d1 y F hk hkn hz hne hX1 hd1 hy hF =>
     refine ⟨by omega,hb,fun e=>?_⟩
     rename_i c0 r0 _ _
     obtain rfl:r0=c0:=by omega
     obtain ⟨j1,j2,j3⟩:=i3 rfl
     obtain ⟨k1,k2,k3⟩:=ElStep.full (xs:=xs) hP i2 (by omega) j2 j1 (.some k X1 d1 y F hk hkn hz hne hX1 hd1 hy hF) rfl
     exact ⟨k1,k2,fun h=>j3 (k3 h)⟩
theorem Zll {f:List Nat} {t:Nat} (hp:0 < p) (hf:∀ x ∈ f,x < p):∀ j,(p:Int) ∣ ((bk p f xs n t j:Nat):Int) - (ge f n - (lin f xs (t + 1 + j) - lin f xs (t + 1)))
 | 0=>by unfold bk ge; simp
 | j + 1=>by
   have h1:=Zll (t:=t) hp hf j
   have h2:(p:Int) ∣ ((bk p f xs n t (j + 1):Nat):Int) - ((bk p f xs n t j + (p - f[t + 1 + j]?.getD 0) * xs[t + 1 + j]?.getD 0:Nat):Int):=Zhf _ p
   have hle:f[t + 1 + j]?.getD 0≤p:=by
    rcases Nat.lt_or_ge (t + 1 + j) f.length with h | h
    ·exact Nat.le_of_lt (hf _ (ZdO h))
    ·rw [List.getElem?_eq_none h]; exact Nat.zero_le _
   rw [Int.natCast_add,Int.natCast_mul,Int.natCast_sub hle] at h2
   have h3:lin f xs (t + 1 + (j + 1))=lin f xs (t + 1 + j) + ge f (t + 1 + j) * ge xs (t + 1 + j):=rfl
   rw [h3]
   obtain ⟨u,hu⟩:=h1
   obtain ⟨v,hv⟩:=h2
   refine ⟨u + v + ge xs (t + 1 + j),?_⟩
   unfold ge at *
   grind
theorem ZnF (hp:0 < p) (hB:ElB p n (n + 1) X r d) (Q:Ech n X n) (hk:ZeW p n X xs 0):Sat p n X xs:=fun t ht=>by
 have hz:∀ j,j≤t→lin (X t) xs j=0:=fun j=>by
  induction j with
  | zero=>intro _; rfl
  | succ j ih =>
    intro hj
    show lin (X t) xs j + ge (X t) j * ge xs j=0
    rw [ih (by omega)]
    have:=(Q t ht).1 j (by omega) (by omega)
    unfold ge; rw [this]; simp
 have h1:lin (X t) xs (t + 1)=ge xs t:=by
  show lin (X t) xs t + ge (X t) t * ge xs t=ge xs t
  rw [hz t (Nat.le_refl _)]
  have:=(Q t ht).2 ht
  unfold ge; rw [this]; simp
 have h2:=Zll (n:=n) (xs:=xs) (t:=t) hp (hB.lt t ht) (n - (t + 1))
 rw [← hk t (Nat.zero_le _) ht,show t + 1 + (n - (t + 1))=n by omega,h1] at h2
 have e:((xs[t]?.getD 0:Nat):Int) - (ge (X t) n - (lin (X t) xs n - ge xs t))=EE n (X t) xs:=by unfold EE ge; grind
 rw [e] at h2; exact h2
end
end Go.Proofs.YthlipnahcbcjkaaGreatDoor

namespace Go.Proofs.YthlipnahcbcjkaaGreatDoor
open Go.RowKit
section
variable {p n c r d:Nat} {f g:List Nat} {X0 Y0:Nat→List Nat}
theorem ZdB {t:Nat} (h:t < n):(f.take n)[t]?.getD 0=f[t]?.getD 0:=by rw [List.getElem?_take_of_lt h]
theorem ZmT {s:Nat} (hl:f.length=n + 1):mulP c s p (f.take n) n=(mulP c s p f (n + 1)).take n:=by
 refine Zdz (by rw [Za1,List.length_take,List.length_take,Za1]) (fun t ht=>?_)
 rw [Za1,List.length_take] at ht
 rw [ZdB (by omega),ZcK,ZcK,ZdB (by omega),List.length_take]
 by_cases e:c≤t
 ·rw [if_pos ⟨e,by omega,by omega⟩,if_pos ⟨e,by omega,by omega⟩]
 ·rw [if_neg (fun z=>e z.1),if_neg (fun z=>e z.1)]
theorem ZmU {q:Nat} (hl:f.length=n + 1):addP c q p (f.take n) (g.take n) n=(addP c q p f g (n + 1)).take n:=by
 refine Zdz (by rw [ZaU,List.length_take,List.length_take,ZaU]) (fun t ht=>?_)
 rw [ZaU,List.length_take] at ht
 rw [ZdB (by omega),Zca,Zca,ZdB (by omega),ZdB (by omega),List.length_take]
 by_cases e:c≤t
 ·rw [if_pos ⟨e,by omega,by omega⟩,if_pos ⟨e,by omega,by omega⟩]
 ·rw [if_neg (fun z=>e z.1),if_neg (fun z=>e z.1)]
theorem ZmV (h0:∀ i,i < n→X0 i=(Y0 i).take n∧(Y0 i).length=n + 1):∀ {c:Nat} {X:Nat→List Nat} {r d:Nat},ElRun p n n X0 c X r d→∀ {Y:Nat→List Nat} {r' d':Nat},ElRun p n (n + 1) Y0 c Y r' d'→c≤n→r=r'∧d=d'∧∀ i,i < n→X i=(Y i).take n∧(Y i).length=n + 1:=by
 intro c X r d hX
 induction hX with
 | nil=>intro Y r' d' hY _; cases hY; exact ⟨rfl,rfl,h0⟩
 | @snoc c0 r0 d0 r1 dd1 XX XX2 hx hs ih =>
   intro Y r' d' hY hc
   cases hY with
   | snoc hy hs' =>
     obtain ⟨rfl,rfl,hag⟩:=ih hy (by omega)
     have hat:∀ i,i < n→∀ t,t < n→_:=fun i hi t ht=>(congrArg (fun l:List Nat=>l[t]?.getD 0) (hag i hi).1).trans (ZdB ht)
     cases hs with
     | none hz =>
       cases hs' with
       | none hz'=>exact ⟨rfl,rfl,hag⟩
       | some k X1 d1 y F hk hkn hz' hne hX1 hd1 hy' hF =>
         have h1:=hat k hkn c0 (by omega)
         exact absurd (h1.symm.trans (hz k hk hkn)) hne
     | some k X1 d1 y F hk hkn hz hne hX1 hd1 hy1 hF =>
       cases hs' with
       | none hz' =>
         have h1:=hat k hkn c0 (by omega)
         exact absurd (h1.trans (hz' k hk hkn)) hne
       | some k' Y1 d1' y' F' hk' hkn' hz' hne' hY1 hd1' hy1' hF' =>
         obtain rfl:k=k':=by
          rcases Nat.lt_trichotomy k k' with h | h | h
          ·exact absurd ((hat k hkn c0 (by omega)).trans (hz' k hk h)) hne
          ·exact h
          ·exact absurd ((hat k' hkn' c0 (by omega)).symm.trans (hz k' hk' h)) hne'
         have hag1:∀ i,i < n→X1 i=(Y1 i).take n∧(Y1 i).length=n + 1:=fun i hi=>by
          rw [hX1,hY1]; exact hag _ (Zdi (by omega) hkn hi)
         obtain rfl:y=y':=by rw [← hy1,← hy1',(hag1 r0 (by omega)).1]; exact ZdB (by omega)
         obtain rfl:d1=d1':=hd1.trans hd1'.symm
         have hF2:F=F'.take n:=by rw [hF,hF',(hag1 r0 (by omega)).1]; exact ZmT (hag1 r0 (by omega)).2
         refine ⟨rfl,rfl,fun i hi=>?_⟩
         unfold addR
         by_cases h:r0 < i
         ·rw [if_pos (by omega),if_pos (by omega)]
          refine ⟨?_,by rw [ZaU]; exact (hag1 i hi).2⟩
          have e:(X1 i)[c0]?.getD 0=(Y1 i)[c0]?.getD 0:=by rw [(hag1 i hi).1]; exact ZdB (by omega)
          rw [e,hF2,(hag1 i hi).1]
          exact ZmU (hag1 i hi).2
         ·rw [if_neg (by omega),if_neg (by omega)]
          by_cases h2:i=r0
          ·subst h2; rw [Zas,Zas]; exact ⟨hF2,by rw [hF',Za1]; exact (hag1 i hi).2⟩
          ·rw [ZaP h2,ZaP h2]; exact hag1 i hi
end
def accN (p:Nat) (f xs:List Nat):Nat→Nat
 | 0=>0
 | k + 1=>(accN p f xs k + f[k]?.getD 0 * xs[k]?.getD 0) % p
section
variable {p n:Nat} {f xs:List Nat}
theorem Zjy:∀ k,(p:Int) ∣ ((accN p f xs k:Nat):Int) - lin f xs k
 | 0=>by simp [accN,lin]
 | k + 1=>by
   have h1:=Zjy k
   have h2:(p:Int) ∣ ((accN p f xs (k + 1):Nat):Int) - ((accN p f xs k + f[k]?.getD 0 * xs[k]?.getD 0:Nat):Int):=Zhf _ p
   rw [Int.natCast_add,Int.natCast_mul] at h2
   have h3:=Int.dvd_add h2 h1
   have e:((accN p f xs (k + 1):Nat):Int) - (((accN p f xs k:Nat):Int) + ((f[k]?.getD 0:Nat):Int) * ((xs[k]?.getD 0:Nat):Int)) + (((accN p f xs k:Nat):Int) - lin f xs k)=((accN p f xs (k + 1):Nat):Int) - lin f xs (k + 1):=by
    show _=_ - (lin f xs k + ge f k * ge xs k)
    unfold ge; grind
   rw [e] at h3; exact h3
theorem Zox (hp:0 < p):∀ k,accN p f xs k < p
 | 0=>hp
 | _ + 1=>Nat.mod_lt _ hp
theorem ZkF {g:List Nat} {v:Nat}:∀ k,k≤f.length→lin (f ++ [v]) xs k=lin f xs k
 | 0,_=>rfl
 | k + 1,h=>by
   show lin (f ++ [v]) xs k + ge (f ++ [v]) k * ge xs k=lin f xs k + ge f k * ge xs k
   rw [ZkF (g:=g) k (by omega)]
   unfold ge
   rw [List.getElem?_append_left (by omega)]
theorem ZnG (hp:0 < p) {q:Nat} (hq:q < p) (hl:f.length=n) (h:(p:Int) ∣ EE n (f ++ [q]) xs):accN p f xs n=q:=by
 have h1:=Zjy (p:=p) (f:=f) (xs:=xs) n
 unfold EE at h
 rw [ZkF (g:=[]) n (by omega)] at h
 have e:ge (f ++ [q]) n=(q:Int):=by unfold ge; rw [List.getElem?_append_right (by omega),hl,Nat.sub_self]; rfl
 rw [e] at h
 have h2:=Int.dvd_add h1 h
 rw [show ((accN p f xs n:Nat):Int) - lin f xs n + (lin f xs n - (q:Int))=((accN p f xs n:Nat):Int) - (q:Int) by omega] at h2
 have h3:=Zox (f:=f) (xs:=xs) hp n
 obtain ⟨u,hu⟩:=h2
 have:u=0:=by
  rcases Int.lt_trichotomy u 0 with h | h | h
  ·have:=Int.mul_le_mul_of_nonneg_left (show u ≤ -1 by omega) (show 0≤(p:Int) by omega); omega
  ·exact h
  ·have:=Int.mul_le_mul_of_nonneg_left (show 1≤u by omega) (show 0≤(p:Int) by omega); omega
 rw [this] at hu; omega
end
theorem ZhZ {n:Nat} {Z:Nat→List Int} {p c:Int} (h:ChkIs n Z p true c) (hP:Pr p) (hn:0 < n) (hn2:n≤64) (hl:∀ i,i < n→(Z i).length=n):c=0:=by
 have h0:=hl 0 hn
 cases h with
 | bad h=>rw [ZcV.2 hP] at h; cases h
 | empty h hn'=>omega
 | zero h hn' hz=>omega
 | nosq h hn' hz hs hs2=>exact absurd h0 hs2
 | uneven i h hn' hz hs hi hne=>exact absurd ((hl i hi).trans h0.symm) hne
 | limit h hn' hz hs he hlm=>omega
 | ok=>rfl
theorem Zoy {n P bx:Nat} {Z:Nat→List Int} {bz:List Int} {xs:List Nat} {d c c':Int} {v:Value} (hP:Pr (P:Int)) (hn:0 < n) (hn2:n≤64) (hl:∀ i,i < n→(Z i).length=n) (hD:DetIs n Z (P:Int) d c) (hS:SolIs n n Z bz (P:Int) bx xs v c') :
 c=0∧((c'=7∧d=0)∨(c'=0∧d≠0∧v=.slice (some ⟨bx,0,none⟩) n n∧xs.length=n∧(∀ x ∈ xs,x < P)∧∀ i,i < n→∀ q:Nat,bz.getD i 0 % (P:Int)=(q:Int)→accN P (redL (P:Int) (Z i)) xs n=q)):=by
 have hP2:2≤P:=by have:=hP.1; omega
 have key:∀ {X0 X Y0 Y:Nat→List Nat} {r d r' d':Nat},(∀ i,i < n→X0 i=redL (P:Int) (Z i))→AugD n (P:Int) Z bz Y0 n→ElRun P n n X0 n X r d→ElRun P n (n + 1) Y0 n Y r' d'→r=r'∧d=d':=fun {X0 X Y0 Y r d r' d'} hX hY h1 h2=>by
  have:=ZmV (fun i hi=>⟨by rw [hX i hi,hY i hi,if_pos hi,List.take_append_of_le_length (by rw [Zc1,hl i hi]; exact Nat.le_refl _),List.take_of_length_le (by rw [Zc1,hl i hi]; exact Nat.le_refl _)],by rw [hY i hi,if_pos hi,List.length_append,Zc1,hl i hi]; rfl⟩) h1 h2 (Nat.le_refl _)
  exact ⟨this.1,this.2.1⟩
 cases hS with
 | lim hc hb=>exact absurd rfl hb
 | err _ hc h0 h2=>exact absurd (ZhZ hc hP hn hn2 hl) h0
 | shape hc hb=>exact absurd rfl hb
 | sing P' Y0 Y r' d' hc hb hp hY hR hr =>
   obtain rfl:P=P':=by omega
   cases hD with
   | err _ hc h0=>exact absurd (ZhZ hc hP hn hn2 hl) h0
   | low=>exact ⟨rfl,Or.inl ⟨rfl,rfl⟩⟩
   | full P2 X0 X r d hc hp2 hX hR2 hB hr2 =>
     obtain rfl:P=P2:=by omega
     have:=(key hX hY hR2 hR).1
     omega
 | ok P' Y0 Y r' d' hc hb hp hY hR hB hr hxl hlt hk =>
   obtain rfl:P=P':=by omega
   have hfull:=ElRun.full (xs:=xs) hP (ZgP rfl hP2 hY hl) hR
   obtain ⟨e1,e2,e3⟩:=hfull.2.2 (by have:=hfull.1; omega)
   cases hD with
   | err _ hc h0=>exact absurd (ZhZ hc hP hn hn2 hl) h0
   | low P2 X0 X r d hc hp2 hX hR2 hr2 =>
     obtain rfl:P=P2:=by omega
     have:=(key hX hY hR2 hR).1
     omega
   | full P2 X0 X r d hc hp2 hX hR2 hB2 hr2 =>
     obtain rfl:P=P2:=by omega
     have hd:=(key hX hY hR2 hR).2
     refine ⟨rfl,Or.inr ⟨rfl,by omega,rfl,hxl,hlt,fun i hi q hq=>?_⟩⟩
     have hs:=e3 (ZnF (by omega) hB e1 hk) i hi
     rw [hY i hi,if_pos hi,hq,Int.toNat_natCast] at hs
     have hqP:q < P:=by have:=Int.emod_lt_of_pos (bz.getD i 0) (show (0:Int) < P by omega); omega
     exact ZnG (by omega) hqP (by rw [Zc1,hl i hi]) hs
end Go.Proofs.YthlipnahcbcjkaaGreatDoor
