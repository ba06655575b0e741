/- A part of the statement's proof. -/
import Derived.Test.YtnmmdeonkpfccaaDRisks9
import Derived.Test.YtnmmdeonkpfccaaDRisks8
set_option linter.unusedVariables false
namespace Go.Proofs.Ytnmmdeonkpfccaa.Pr
open Go.RowKit Go.Shelf Go.Proofs.YtnmmdeonkpfccaaW.PrintWords Go.Proofs.YtnmmdeonkpfccaaW.PrintLast Go.Proofs.YtnmmdeonkpfccaaW.PrintMore
theorem reps_evs {w : World} {base : Nat} {ok : Nat → Prop} : ∀ l : List S51,Reps (k51.M w base ok) 4 l (l.flatMap evL)
 | [] => Reps.none _ _
 | x :: r => Reps.c4 (k51_mkM w base ok x) (reps_evs r)
theorem evs_len : ∀ l : List S51,(l.flatMap evL).length = l.length * 4
 | [] => rfl
 | x :: r => by rw [List.flatMap_cons,List.length_append,evs_len r,List.length_cons];show 4 + _ = _;omega
theorem evs_one : ∀ (l : List S51),∀ u ∈ l.flatMap evL,u.oneCell' = true:=by
 intro l u hu
 obtain ⟨x,_,hx⟩:=List.mem_flatMap.1 hu
 unfold evL at hx
 rcases List.mem_cons.1 hx with rfl | hx
 ·rfl
 rcases List.mem_cons.1 hx with rfl | hx
 ·rfl
 rcases List.mem_cons.1 hx with rfl | hx
 ·rfl
 rcases List.mem_cons.1 hx with rfl | hx
 ·rfl
 cases hx
theorem evs_at : ∀ (l : List S51) (i : Nat) (u : Value),(l.flatMap evL)[i]? = some u → ∃ j k x,i = j * 4 + k ∧ k < 4 ∧ l[j]? = some x ∧ (evL x)[k]? = some u
 | [],i,u,h => by cases h
 | x :: r,i,u,h => by
  rw [List.flatMap_cons] at h
  rcases Nat.lt_or_ge i 4 with hi | hi
  ·rw [List.getElem?_append_left hi] at h
   exact ⟨0,i,x,by omega,hi,rfl,h⟩
  ·rw [List.getElem?_append_right hi] at h
   obtain ⟨j,k,y,h1,h2,h3,h4⟩:=evs_at r (i - 4) u h
   exact ⟨j + 1,k,y,by omega,h2,h3,h4⟩
def recall_Event_31.f (l : List S51) : Option (List S51):=if l.length ≤ 4096 then some l else none
set_option maxRecDepth 100000 in
set_option maxHeartbeats 1000000 in
theorem clone_empty (ad : Addr) (c : Nat) (w : World) :
  Calls Try.prog 31 #[.slice (some ad) 0 c] w fun e w' => ∃ v',e = .returned v' ∧ w'.ownsRow w.heap.size 51 4 v' 0 [] ∧ Below w.heap.size w w':=by
 obtain ⟨i0,hi,hz0,hz1,hz2⟩:=info_parts info51
 have q22 : ∀ (w : World) (a : Option Addr) (n c n' c' : Nat),(binOp .eql 22 (.slice a n c) (.slice none n' c')).run Try.prog w = .ok (.bool a.isNone) w:=fun w a n c n' c' => Lib.run_eql_slice_nil w _ _ a n c n' c' Try.underlying22
 go_enter Try.func31,Try.ntmps31
 go_wp2_with (at_builtin;refine wpList_append_own _ rfl _ _ 22 rfl w.heap.size 51 i0 _ 4 56 Try.underlying22 hi hz0 hz1 hz2 rfl (by decide) _ _ _ rfl (World.ownsRow_made w #[] 0 (Nat.le_refl _) (Nat.zero_le _) (by simp)) ad 0 c [] rfl ?qc1 ?qc2 ?qc3 ?qc4 ?qc5 ?qc6 ?_)
 case qc1 => rfl
 case qc2 => intro j u hj;cases hj
 case qc3 => intro u hu;cases hu
 case qc4 => decide
 case qc5 => decide
 case qc6 => simp
 intro v' w1 hown hgrow hnil
 go_wp2
 go_ret
 exact ⟨v',rfl,hown,((Below.refl _ w).alloc (Nat.le_refl _) _).grown hgrow (by simp) (by intro k hk;simp [Value.ownBlock] at hk;omega)⟩
theorem recall_Event_31.calls (A0 : Option Addr) (c0 : Nat) (l0 : List S51) (r : List S51) (w : World) (hr0 : Kd.C k51 w A0 l0.length l0) (hc0 : l0.length ≤ c0) (h : recall_Event_31.f l0 = some r) :
  Calls Try.prog 31 #[.slice A0 l0.length c0] w fun e w' => ∃ v0_ : Value,e = .returned v0_ ∧ Kd.R k51 51 w' w.heap.size (fun _ => True) v0_ r ∧ Below w.heap.size w w':=by
 unfold recall_Event_31.f at h
 split at h
 ·rename_i hl
  obtain rfl:=Option.some.inj h
  cases A0 with
  | none =>
   cases l0 with
   | nil =>
    refine (AnyE.slices_Clone_nil Try.clone31 0 c0 w).mono ?_
    rintro e w' ⟨rfl,rfl⟩
    exact ⟨_,rfl,Kd.R_nil _ _ _ _ _,Below.refl _ _⟩
   | cons x t =>
    obtain ⟨ad,e,_⟩:=hr0.2.2 (by simp)
    cases e
  | some ad =>
   cases l0 with
   | nil =>
    refine (clone_empty ad c0 w).mono ?_
    rintro e w' ⟨v',rfl,ho,hb⟩
    exact ⟨v',rfl,⟨fun _ _ => trivial,[],ho,Reps.none _ _⟩,hb⟩
   | cons y t =>
    obtain ⟨ad',e1,h0,_⟩:=at_T51 hr0 0 (Int.le_refl _) (by simp)
    cases e1
    obtain ⟨b,off,spot⟩:=ad
    have hs : spot = none:=by
     unfold World.cell? at h0
     split at h0
     ·split at h0
      ·cases h0
      ·rename_i hs
       simp [Addr.add] at hs
       exact hs
     ·cases h0
    subst hs
    obtain ⟨i0,hi,hz0,hz1,hz2⟩:=info_parts info51
    refine (AnyE.slices_Clone Try.clone31 i0 _ 4 56 hi hz0 hz1 hz2 rfl (by decide) Try.sizeOf51 b off (y :: t).length c0 ((y :: t).flatMap evL) w (evs_len _) (by unfold maxLen;omega) (by omega) ?_ (evs_one _)).mono ?_
    ·intro i u hu
     obtain ⟨j,k,x,rfl,hk,hx,hu⟩:=evs_at _ _ _ hu
     have hj:=(List.getElem?_eq_some_iff.1 hx).1
     obtain ⟨ad,e,k0,k1,k2,k3⟩:=at_T51 hr0 (j : Int) (by omega) (by omega)
     cases e
     have hrd : rd_T51 (y :: t) (j : Int) = x:=by unfold rd_T51;rw [Int.toNat_natCast,List.getD_eq_getElem?_getD,hx];rfl
     have hadd : (Addr.add ⟨b,off,none⟩ ((j : Int).toNat * 4)) = ⟨b,off + j * 4,none⟩:=by
      rw [Int.toNat_natCast]
      unfold Addr.add
      split
      ·rename_i h;rw [h];rfl
      ·rfl
     rw [hadd,hrd] at k0 k1 k2 k3
     rw [← Nat.add_assoc]
     match k,hk,hu with
     | 0,_,hu => cases hu;exact k0
     | 1,_,hu => cases hu;exact k1
     | 2,_,hu => cases hu;exact k2
     | 3,_,hu => cases hu;exact k3
    ·rintro e w' ⟨v',rfl,ho,_,hb⟩
     exact ⟨v',rfl,⟨fun _ _ => trivial,_,ho,reps_evs _⟩,hb⟩
 ·cases h
end Go.Proofs.Ytnmmdeonkpfccaa.Pr
set_option linter.unusedVariables false
namespace Go.Proofs.Ytnmmdeonkpfccaa.Pr
open Go.RowKit Go.Shelf Go.Proofs.YtnmmdeonkpfccaaW.PrintWords Go.Proofs.YtnmmdeonkpfccaaW.PrintLast Go.Proofs.YtnmmdeonkpfccaaW.PrintMore
def unB (l : List ByteArray) : List (List UInt8):=l.map fun s => s.data.toList
def sortB (l : List ByteArray) : List ByteArray:=((unB l).mergeSort fun x y => decide (x ≤ y)).map fun q => ByteArray.mk q.toArray
theorem enc_unB : ∀ l : List ByteArray,l.map Value.string = (unB l).map encStr
 | [] => rfl
 | x :: r => by
  have:=enc_unB r
  unfold unB at this ⊢
  rw [List.map_cons,this]
  rfl
theorem unB_len (l : List ByteArray) : (unB l).length = l.length:=by unfold unB;rw [List.length_map]
def slices_Sort_string_string.f (l : List ByteArray) : Option (List ByteArray):=if l.length ≤ 1000000 then some (sortB l) else none
open Go.Sort in
theorem slices_Sort_string_string.calls (P0_ : Nat → Prop) (u9000_ : Value) (l0 : List ByteArray) (r : List ByteArray) (w0 w : World) (hB : Below w0.heap.size w0 w) (ho0 : Kd.R Kd.string 9 w w0.heap.size P0_ u9000_ l0) (h : slices_Sort_string_string.f l0 = some r) :
  Calls Try.prog 35 #[u9000_] w fun e w' => e = .returned (.tuple #[]) ∧ Kd.R Kd.string 9 w' w0.heap.size (fun k_ => (P0_ k_ ∨ w.heap.size ≤ k_)) u9000_ r ∧ Below w0.heap.size w0 w' ∧ Kept w w' (fun k_ => P0_ k_):=by
 unfold slices_Sort_string_string.f at h
 split at h
 ·rename_i hl
  obtain rfl:=Option.some.inj h
  have ho:=ho0.1
  have hown' : w.ownsRow w0.heap.size 9 1 u9000_ l0.length (l0.map Value.string):=Kd.own_of_R (enc:=Value.string) (h1:=fun _ => rfl) ho0
  rcases hown'.2 with ⟨rfl,e0⟩ | ⟨g,cap,cur,rfl,hg,hgb,hn,hcap,hcs,htk⟩
  ·obtain rfl:=List.eq_nil_of_length_eq_zero e0
   refine (AnyM.slices_Sort_string_none Try.sort35 none 0 w).mono ?_
   rintro e w' ⟨rfl,rfl⟩
   have : sortB [] = []:=by unfold sortB unB;simp
   rw [this]
   exact ⟨rfl,Kd.R_nil _ _ _ _ _,hB,Kept.refl _ _⟩
  ·have hOK : P0_ g:=ho g rfl
   have hgl:=(Array.getElem?_eq_some_iff.1 hgb).1
   have hH : Holds encStr w g 0 (unB l0).toArray:=holds_of_block hgb (by rw [unB_len,← enc_unB];simpa using htk)
   have hc:=AnyM.slices_Sort_string Try.sort35 g 0 cap (unB l0) w hH hgl (by rw [unB_len];omega)
   rw [unB_len] at hc
   refine hc.mono ?_
   rintro e w' ⟨rfl,q,os,rfl⟩
   have hsl : ((unB l0).mergeSort fun x y => decide (x ≤ y)).length = (unB l0).length:=by simp
   have hrow:=ownsRow_sorted (n:=q) (os:=os) (ss:=unB l0) (ts:=(unB l0).mergeSort fun x y => decide (x ≤ y)) hsl hg hgb (by rw [unB_len];exact hn) hcap (by simpa using hcs)
   have hG:=grownBy_sorted (w:=w) (g:=g) (n:=q) (os:=os) ((unB l0).mergeSort fun x y => decide (x ≤ y)).toArray
   refine ⟨rfl,?_,hB.grown hG hB.size (fun k e => by cases e;exact hg),Kept.of_grown hG (Kept.refl _ _) (fun k e => by cases e;exact .inl hOK)⟩
   have hlen : (sortB l0).length = l0.length:=by unfold sortB;rw [List.length_map,hsl,unB_len]
   have henc : (sortB l0).map Value.string = ((unB l0).mergeSort fun x y => decide (x ≤ y)).map encStr:=by
    unfold sortB;rw [List.map_map];rfl
   refine Kd.R_of_own (enc:=Value.string) (h1:=fun _ => rfl) ?_ (fun k e => by cases e;exact .inl hOK)
   show World.ownsRow _ _ 9 1 _ (sortB l0).length ((sortB l0).map Value.string)
   rw [henc,hlen]
   rw [unB_len] at hrow
   exact hrow
 ·cases h
end Go.Proofs.Ytnmmdeonkpfccaa.Pr
