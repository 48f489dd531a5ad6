/-
 My texts Sw put together.
-/
import Derived.Lib.SplitLaws
import Derived.Lib.Atoi
import Derived.Lib.Bytealg
import Derived.Lib.ItoaNum
import Derived.Test.YtcpjeaaapocoeaaGreatDoorP00
set_option maxRecDepth 100000
namespace Go.Proofs.YtcpjeaaapocoeaaGreatDoor
open Go.Lib
theorem ZpP {c:UInt8}:∀ {s:List UInt8},c ∉ s→index s [c] = -1
 | [],_=>by simp [index]
 | b :: l,h=>by
   have h1:¬ c=b:=fun e=>h (by rw [e]; exact List.mem_cons_self)
   have hp:([c]:List UInt8).isPrefixOf (b :: l)=false:=by simp [List.isPrefixOf,h1]
   rw [index,hp,ZpP (fun e=>h (List.mem_cons_of_mem _ e))]
   simp
theorem Zlq {c:UInt8} {r:List UInt8}:∀ {k:List UInt8},c ∉ k→index (k ++ c :: r) [c]=(k.length:Int)
 | [],_=>by simp [index]
 | b :: l,h=>by
   have h1:¬ c=b:=fun e=>h (by rw [e]; exact List.mem_cons_self)
   have hp:([c]:List UInt8).isPrefixOf (b :: (l ++ c :: r))=false:=by simp [List.isPrefixOf,h1]
   rw [List.cons_append,index,hp,Zlq (fun e=>h (List.mem_cons_of_mem _ e))]
   have:((l.length:Int) == -1)=false:=beq_eq_false_iff_ne.2 (by omega)
   rw [this]
   simp
def ZcQ (c:UInt8) (ws:List (List UInt8)):List UInt8:=ws.flatMap (fun x=>c :: x)
theorem ZhD {c:UInt8}:∀ (ws:List (List UInt8)) (k:List UInt8),c ∉ k→(∀ x ∈ ws,c ∉ x)→splitK [c] 0 ws.length (k ++ ZcQ c ws)=k :: ws
 | [],k,_,_=>by simp [ZcQ,splitK]
 | x :: ws,k,hk,hw=>by
   have e:k ++ ZcQ c (x :: ws)=k ++ c :: (x ++ ZcQ c ws):=by simp [ZcQ]
   rw [e,List.length_cons,splitK,Zlq hk]
   have:((k.length:Int) == -1)=false:=beq_eq_false_iff_ne.2 (by omega)
   rw [this,if_neg (by simp)]
   have h2:(k ++ c :: (x ++ ZcQ c ws)).drop ((k.length:Int).toNat + [c].length)=x ++ ZcQ c ws:=by
    rw [show (k.length:Int).toNat + [c].length=k.length + 1 by simp,List.drop_append]
    simp
   rw [h2,ZhD ws x (hw x List.mem_cons_self) (fun y hy=>hw y (List.mem_cons_of_mem _ hy))]
   simp
theorem ZiY {c:UInt8}:∀ (ws:List (List UInt8)) (k:List UInt8),c ∉ k→(∀ x ∈ ws,c ∉ x)→(k ++ ZcQ c ws).count c=ws.length
 | [],k,hk,_=>by simpa [ZcQ] using List.count_eq_zero.2 hk
 | x :: ws,k,hk,hw=>by
   have e:k ++ ZcQ c (x :: ws)=k ++ c :: (x ++ ZcQ c ws):=by simp [ZcQ]
   rw [e,List.count_append,List.count_eq_zero.2 hk,List.count_cons_self,ZiY ws x (hw x List.mem_cons_self) (fun y hy=>hw y (List.mem_cons_of_mem _ hy))]
   simp
theorem ZgM:∀ {a b:List ByteArray},a.map (·.data.toList)=b.map (·.data.toList)→a=b
 | [],[],_=>rfl
 | [],_ :: _,h=>by cases h
 | _ :: _,[],h=>by cases h
 | ⟨⟨x⟩⟩ :: a,⟨⟨y⟩⟩ :: b,h=>by
   simp only [List.map_cons,List.cons.injEq] at h
   obtain ⟨h1,h2⟩:=h
   subst h1
   rw [ZgM h2]
theorem Zmc {c:UInt8} {s:ByteArray} {ws:List ByteArray} {k:ByteArray} (hs:s.data.toList=k.data.toList ++ ZcQ c (ws.map (·.data.toList))) (hk:c ∉ k.data.toList) (hw:∀ x ∈ ws,c ∉ x.data.toList) :
 countB s ⟨#[c]⟩=ws.length∧splitB ⟨#[c]⟩ 0 ws.length s=k :: ws:=by
 have hw':∀ x ∈ ws.map (·.data.toList),c ∉ x:=fun x hx=>by
  obtain ⟨y,hy,rfl⟩:=List.mem_map.1 hx
  exact hw y hy
 refine ⟨?_,ZgM ?_⟩
 ·show count s.data.toList [c]=_
  rw [count_one,hs,ZiY _ _ hk hw',List.length_map]
 ·rw [splitB_data,hs]
  have:=ZhD (ws.map (·.data.toList)) k.data.toList hk hw'
  rw [List.length_map] at this
  rw [List.map_cons]
  exact this
theorem ZgN (b:UInt8):∀ (l:List UInt8) (acc:Nat),decFrom acc (l ++ [b])=(decFrom acc l).bind (fun n=>(digitVal b).map (fun d=>n * 10 + d))
 | [],acc=>by
   simp only [List.nil_append,decFrom,Option.bind_some]
   cases digitVal b<;>rfl
 | a :: l,acc=>by
   simp only [List.cons_append,decFrom]
   cases digitVal a with
   | none=>rfl
   | some e=>exact ZgN b l _
theorem Zlr {d:Nat} (h:d < 10):digitVal (UInt8.ofNat (48 + d))=some d:=by
 obtain rfl | rfl | rfl | rfl | rfl | rfl | rfl | rfl | rfl | rfl:d=0∨d=1∨d=2∨d=3∨d=4∨d=5∨d=6∨d=7∨d=8∨d=9:=by omega
 all_goals decide
theorem Zmd (n:Nat):decFrom 0 (decDigits n)=some n:=by
 induction n using Nat.strongRecOn with
 | _ n ih =>
   unfold decDigits
   by_cases h:n < 10
   ·rw [dif_pos h,decFrom,Zlr h]
    simp [decFrom]
   ·rw [dif_neg h,ZgN,ih _ (by omega),Option.bind_some,Zlr (by omega),Option.map_some]
    congr 1; omega
theorem ZhE (n:Nat):∃ d r,decDigits n=UInt8.ofNat (48 + d) :: r∧d < 10∧(0 < n→0 < d):=by
 induction n using Nat.strongRecOn with
 | _ n ih =>
   unfold decDigits
   by_cases h:n < 10
   ·rw [dif_pos h]; exact ⟨n,[],rfl,h,fun h=>h⟩
   ·rw [dif_neg h]
    obtain ⟨d,r,e,hd,h0⟩:=ih (n / 10) (by omega)
    rw [e]
    exact ⟨d,r ++ [_],rfl,hd,fun _=>h0 (by omega)⟩
theorem Zls {d x:Nat} (hd:d < 10) (hx:x < 48):(UInt8.ofNat (48 + d) == UInt8.ofNat x)=false:=by
 refine beq_eq_false_iff_ne.2 (fun e=>?_)
 have:=congrArg UInt8.toNat e
 rw [UInt8.toNat_ofNat',UInt8.toNat_ofNat'] at this
 omega
theorem ZpQ (n:Nat):atoi (decDigits n)=some (n:Int):=by
 obtain ⟨d,r,e,hd,_⟩:=ZhE n
 have h:decNat (decDigits n)=some n:=by
  have h2:=Zmd n
  unfold decNat
  rw [h2,e]; rfl
 rw [e] at h ⊢
 have h1:=Zls (x:=45) hd (by omega)
 have h3:=Zls (x:=43) hd (by omega)
 show (if (UInt8.ofNat (48 + d) == UInt8.ofNat 45)=true then _ else if (UInt8.ofNat (48 + d) == UInt8.ofNat 43)=true then _ else (decNat (UInt8.ofNat (48 + d) :: r)).map fun (m:Nat)=>(m:Int))=_
 rw [h1,h3,h]
 rfl
theorem ZgO (n:Nat):∀ x ∈ decDigits n,48≤x.toNat∧x.toNat≤57:=by
 induction n using Nat.strongRecOn with
 | _ n ih =>
   unfold decDigits
   intro x hx
   by_cases h:n < 10
   ·rw [dif_pos h] at hx
    obtain rfl:=List.mem_singleton.1 hx
    rw [UInt8.toNat_ofNat']; omega
   ·rw [dif_neg h] at hx
    rcases List.mem_append.1 hx with hx | hx
    ·exact ih _ (by omega) x hx
    ·obtain rfl:=List.mem_singleton.1 hx
     rw [UInt8.toNat_ofNat']; omega
theorem ZdW {z:Int} (h:0≤z):itoa z=decDigits z.toNat:=by unfold itoa; rw [if_neg (by omega)]
theorem ZoL {z:Int} (h:0≤z):atoi (itoa z)=some z:=by
 rw [ZdW h,ZpQ]; congr 1; omega
theorem ZgP {c:UInt8} {r:List UInt8}:∀ {l:List UInt8},c ∉ l→Lib.indexByte (l ++ c :: r) c=(l.length:Int)
 | [],_=>by simp [Lib.indexByte]
 | b :: l,h=>by
   have h1:(b == c)=false:=beq_eq_false_iff_ne.2 (fun e=>h (by rw [e]; exact List.mem_cons_self))
   have h2:((l.length:Int) == -1)=false:=beq_eq_false_iff_ne.2 (by omega)
   rw [List.cons_append,Lib.indexByte,h1,ZgP (fun e=>h (List.mem_cons_of_mem _ e)),h2]
   simp
theorem ZiZ (c:UInt8):∀ l:List UInt8,Lib.index l [c]=Lib.indexByte l c
 | []=>by simp [Lib.index,Lib.indexByte]
 | b :: l=>by
   by_cases h:b=c
   ·subst h
    rw [Lib.index,Lib.indexByte]
    simp [List.isPrefixOf]
   ·have h1:(b == c)=false:=beq_eq_false_iff_ne.2 h
    have hp:([c]:List UInt8).isPrefixOf (b :: l)=false:=by simp [List.isPrefixOf,Ne.symm h]
    rw [Lib.index,Lib.indexByte,h1,hp,ZiZ c l]
theorem ZgQ:∀ (k n:Nat),n < 10 ^ (k + 1)→(decDigits n).length≤k + 1
 | 0,n,h=>by rw [decDigits_one (by simpa using h)]; simp
 | k + 1,n,h=>by
   unfold decDigits
   split
   ·simp
   ·have:=ZgQ k (n / 10) (by rw [Nat.pow_succ] at h; omega)
    rw [List.length_append,List.length_singleton]
    omega
end Go.Proofs.YtcpjeaaapocoeaaGreatDoor
