/- A part of the statement's proof. -/
import Derived.Test.YtnmmdeonkpfccaaDRisks10
import Derived.Test.YtnmmdeonkpfccaaDRisks1
import Derived.Test.YtnmmdeonkpfccaaDRisks4
import Derived.Test.YtnmmdeonkpfccaaDRisks8
import Derived.Laws.Cover1
import Derived.Sort.Walk0
set_option linter.unusedVariables false
namespace Go.Proofs.Ytnmmdeonkpfccaa.Pr
open Go.RowKit Go.Proofs.YtnmmdeonkpfccaaW.PrintWords Go.Proofs.YtnmmdeonkpfccaaW.PrintLast Go.Proofs.YtnmmdeonkpfccaaW.PrintMore
def nx (g : List UInt8) : Nat → List S51 → Option (Int × Int)
 | _,[] => none
 | i,x :: r => if (x.f0 = 1 ∨ x.f0 = 2) ∧ x.f1.data.toList = g then some ((i : Int),1 + x.f0) else nx g (i + 1) r
def gA (l : List S51) (i : Nat) : S51:=l.getD i z51
def stA (l : List S51) (i : Nat) : Int × Int:=if (gA l i).f0 = 0 then (nx (gA l i).f1.data.toList (i + 1) (l.drop (i + 1))).getD (-1,1) else (-1,0)
theorem gA_at {l : List S51} {i : Nat} {x : S51} (h : l[i]? = some x) : gA l i = x:=by unfold gA;rw [List.getD_eq_getElem?_getD,h];rfl
theorem lastA_nx (l : List S51) (g : List UInt8) : ∀ k,k ≤ l.length → (lastA l k).lookup g = nx g (l.length - k) (l.drop (l.length - k)):=by
 intro k
 induction k with
 | zero => intro _;rw [Nat.sub_zero,List.drop_length];rfl
 | succ k ih =>
  intro hk
  obtain ⟨x,hx,hdr⟩:=drop_at (l:=l) (i:=l.length - (k + 1)) (by omega)
  have e1 : l.length - (k + 1) + 1 = l.length - k:=by omega
  have e2 : l.length - 1 - k = l.length - (k + 1):=by omega
  rw [e1] at hdr
  have hih:=ih (by omega)
  have hi : (l.length : Int) - 1 - k = ((l.length - (k + 1) : Nat) : Int):=by omega
  have hg : l.getD (l.length - 1 - k) z51 = x:=by rw [e2];exact gA_at hx
  rw [hdr]
  unfold nx lastA
  rw [hg,hi,e1]
  by_cases h1 : x.f0 = 1
  ·rw [if_pos h1,List.lookup_cons]
   by_cases hgg : x.f1.data.toList = g
   ·rw [if_pos ⟨.inl h1,hgg⟩,h1]
    have : (g == x.f1.data.toList) = true:=by rw [hgg];exact beq_self_eq_true _
    rw [this];rfl
   ·rw [if_neg (fun h => hgg h.2)]
    have : (g == x.f1.data.toList) = false:=beq_eq_false_iff_ne.2 (fun h => hgg h.symm)
    rw [this];exact hih
  ·rw [if_neg h1]
   by_cases h2 : x.f0 = 2
   ·rw [if_pos h2,List.lookup_cons]
    by_cases hgg : x.f1.data.toList = g
    ·rw [if_pos ⟨.inr h2,hgg⟩,h2]
     have : (g == x.f1.data.toList) = true:=by rw [hgg];exact beq_self_eq_true _
     rw [this];rfl
    ·rw [if_neg (fun h => hgg h.2)]
     have : (g == x.f1.data.toList) = false:=beq_eq_false_iff_ne.2 (fun h => hgg h.symm)
     rw [this];exact hih
   ·rw [if_neg h2,if_neg (fun h => h.1.elim h1 h2)];exact hih
theorem chkA_st (l : List S51) (k : Nat) (hk : k < l.length) : chkA l k = stA l (l.length - 1 - k):=by
 unfold chkA stA gA
 have:=lastA_nx l (l.getD (l.length - 1 - k) z51).f1.data.toList k (by omega)
 rw [this,show l.length - 1 - k + 1 = l.length - k by omega]
theorem nx_some {l : List S51} {g : List UInt8} : ∀ (d i : Nat) {p : Int × Int},i ≤ l.length → l.length - i = d → nx g i (l.drop i) = some p → ∃ j : Nat,i ≤ j ∧ j < l.length ∧ p.1 = (j : Int) ∧ p.2 = 1 + (gA l j).f0 ∧ ((gA l j).f0 = 1 ∨ (gA l j).f0 = 2):=by
 intro d
 induction d with
 | zero =>
  intro i p hi hd h
  rw [show l.drop i = [] from List.drop_eq_nil_of_le (by omega)] at h
  cases h
 | succ d ih =>
  intro i p hi hd h
  obtain ⟨x,hx,hdr⟩:=drop_at (show i < l.length by omega)
  rw [hdr] at h
  unfold nx at h
  split at h
  ·rename_i hc
   obtain rfl:=Option.some.inj h
   exact ⟨i,Nat.le_refl _,by omega,rfl,by rw [gA_at hx],by rw [gA_at hx];exact hc.1⟩
  ·obtain ⟨j,h1,h2,h3⟩:=ih (i + 1) (by omega) (by omega) h
   exact ⟨j,by omega,h2,h3⟩
end Go.Proofs.Ytnmmdeonkpfccaa.Pr
set_option linter.unusedVariables false
namespace Go.Proofs.Ytnmmdeonkpfccaa.Pr
open Go.RowKit Go.Proofs.YtnmmdeonkpfccaaW.PrintWords Go.Proofs.YtnmmdeonkpfccaaW.PrintLast Go.Proofs.YtnmmdeonkpfccaaW.PrintMore
abbrev Nm:=List UInt8
theorem nm_lt_of {a b : Nm} (h : ¬ a < b) (h2 : a ≠ b) : b < a:=by
 refine Classical.byContradiction fun h3 => h2 ?_
 exact List.le_antisymm (List.not_lt.1 h3) (List.not_lt.1 h)
theorem nm_ne {a b : Nm} (h : a < b) : a ≠ b:=fun e => List.lt_irrefl b (e ▸ h)
def Asc (l : List Nm) : Prop:=l.Pairwise (· < ·)
theorem asc_same : ∀ {a b : List Nm},Asc a → Asc b → (∀ q,q ∈ a ↔ q ∈ b) → a = b
 | [],[],_,_,_ => rfl
 | [],y :: b,_,_,h => by have:=(h y).2 (List.mem_cons_self ..);cases this
 | x :: a,[],_,_,h => by have:=(h x).1 (List.mem_cons_self ..);cases this
 | x :: a,y :: b,ha,hb,h => by
  obtain ⟨ha1,ha2⟩:=List.pairwise_cons.1 ha
  obtain ⟨hb1,hb2⟩:=List.pairwise_cons.1 hb
  have e : x = y:=by
   rcases List.mem_cons.1 ((h x).1 (List.mem_cons_self ..)) with e | h1
   ·exact e
   ·rcases List.mem_cons.1 ((h y).2 (List.mem_cons_self ..)) with e | h2
    ·exact e.symm
    ·exact absurd (List.lt_trans (hb1 _ h1) (ha1 _ h2)) (List.lt_irrefl _)
  subst e
  rw [asc_same ha2 hb2 fun q => ?_]
  constructor
  ·intro hq
   rcases List.mem_cons.1 ((h q).1 (List.mem_cons_of_mem _ hq)) with e | h1
   ·exact absurd (e ▸ ha1 _ hq) (List.lt_irrefl _)
   ·exact h1
  ·intro hq
   rcases List.mem_cons.1 ((h q).2 (List.mem_cons_of_mem _ hq)) with e | h1
   ·exact absurd (e ▸ hb1 _ hq) (List.lt_irrefl _)
   ·exact h1
def ins (s : Nm) : List Nm → List Nm
 | [] => [s]
 | x :: r => if x < s then x :: ins s r else s :: (x :: r).filter fun y => decide (y ≠ s)
theorem mem_ins {s q : Nm} : ∀ {l : List Nm},q ∈ ins s l ↔ q = s ∨ q ∈ l
 | [] => by unfold ins;simp
 | x :: r => by
  unfold ins
  split
  ·rw [List.mem_cons,mem_ins,List.mem_cons];exact or_left_comm
  ·rw [List.mem_cons,List.mem_filter,decide_eq_true_iff]
   by_cases e : q = s
   ·exact ⟨fun _ => .inl e,fun _ => .inl e⟩
   ·exact ⟨fun h => h.imp_right fun h => h.1,fun h => h.imp_right fun h => ⟨h,e⟩⟩
theorem asc_ins {s : Nm} : ∀ {l : List Nm},Asc l → Asc (ins s l)
 | [],_ => List.pairwise_singleton ..
 | x :: r,h => by
  obtain ⟨h1,h2⟩:=List.pairwise_cons.1 h
  unfold ins
  split
  ·rename_i hx
   refine List.pairwise_cons.2 ⟨fun y hy => ?_,asc_ins h2⟩
   rcases mem_ins.1 hy with e | hy
   ·exact e ▸ hx
   ·exact h1 y hy
  ·rename_i hx
   refine List.pairwise_cons.2 ⟨fun y hy => ?_,List.Pairwise.filter _ h⟩
   obtain ⟨hy,hne⟩:=List.mem_filter.1 hy
   have hne:=of_decide_eq_true hne
   refine nm_lt_of (fun hlt => ?_) hne
   rcases List.mem_cons.1 hy with e | hy
   ·exact hx (e ▸ hlt)
   ·exact hx (List.lt_trans (h1 y hy) hlt)
theorem len_ins (s : Nm) : ∀ l : List Nm,(ins s l).length ≤ l.length + 1
 | [] => by unfold ins;simp
 | x :: r => by
  unfold ins
  split
  ·have:=len_ins s r;simp only [List.length_cons];omega
  ·have:=List.length_filter_le (fun y => decide (y ≠ s)) (x :: r);rw [List.length_cons];omega
def mkB (q : Nm) : ByteArray:=⟨q.toArray⟩
def bs (l : List Nm) : List ByteArray:=l.map mkB
theorem mkB_list (q : Nm) : (mkB q).toList = q:=by rw [ByteArray.toList_eq];rfl
theorem bs_len (l : List Nm) : (bs l).length = l.length:=by unfold bs;rw [List.length_map]
theorem rdB_at {l : List Nm} {i : Nat} {x : Nm} (h : l[i]? = some x) : rdOf ByteArray.empty (bs l) (i : Int) = mkB x:=rdOf_at (by unfold bs;rw [List.getElem?_map,h];rfl)
theorem asc_sortU (S : List Nm) : Asc (sortU S):=by
 have hp:=List.mergeSort_perm (ddup S) fun x y => decide (x ≤ y)
 have h1 : (sortU S).Pairwise fun a b => decide (a ≤ b) = true:=by
  unfold sortU
  refine List.pairwise_mergeSort (le:=fun x y : Nm => decide (x ≤ y)) ?_ ?_ _
  ·intro a b c h1 h2
   exact decide_eq_true (List.le_trans (of_decide_eq_true h1) (of_decide_eq_true h2))
  ·intro a b
   by_cases h : b < a
   ·rw [decide_eq_true (show b ≤ a from List.le_of_lt h),Bool.or_true]
   ·rw [decide_eq_true (show a ≤ b from List.not_lt.1 h)];rfl
 have h2 : (sortU S).Pairwise fun a b => a ≠ b:=(List.Perm.pairwise_iff (fun h e => h e.symm) hp).2 (nodup_ddup S)
 refine (h1.and h2).imp ?_
 rintro a b ⟨ha,hb⟩
 exact nm_lt_of (List.not_lt.2 (of_decide_eq_true ha)) (fun e => hb e.symm)
theorem mem_sortU {S : List Nm} {q : Nm} : q ∈ sortU S ↔ q ∈ S:=by
 unfold sortU;rw [List.mem_mergeSort,mem_ddup]
theorem strs_of {S l : List Nm} (h : Asc l) (hm : ∀ q,q ∈ l ↔ q ∈ S) : strs S = bs l:=by
 have : sortU S = l:=asc_same (asc_sortU S) h fun q => by rw [mem_sortU];exact (hm q).symm
 unfold strs;rw [this];rfl
def accS (sel : Nat → Option Nm) : Nat → List Nm
 | 0 => []
 | i + 1 => match sel i with | some q => ins q (accS sel i) | none => accS sel i
theorem acc_asc (sel : Nat → Option Nm) : ∀ i,Asc (accS sel i)
 | 0 => List.Pairwise.nil
 | i + 1 => by 
  unfold accS
  split
  ·exact asc_ins (acc_asc sel i)
  ·exact acc_asc sel i
theorem acc_len (sel : Nat → Option Nm) : ∀ i,(accS sel i).length ≤ i
 | 0 => Nat.le_refl _
 | i + 1 => by
  have:=acc_len sel i
  unfold accS;split
  ·rename_i q _;have:=len_ins q (accS sel i);omega
  ·omega
theorem acc_mem (sel : Nat → Option Nm) {q : Nm} : ∀ i,q ∈ accS sel i ↔ ∃ j,j < i ∧ sel j = some q
 | 0 => by unfold accS;simp
 | i + 1 => by
  unfold accS
  split
  ·rename_i p hp
   rw [mem_ins,acc_mem sel i]
   constructor
   ·rintro (e | ⟨j,h1,h2⟩)
    ·exact ⟨i,by omega,e ▸ hp⟩
    ·exact ⟨j,by omega,h2⟩
   ·rintro ⟨j,h1,h2⟩
    by_cases e : j = i
    ·subst e;rw [hp] at h2;exact .inl (Option.some.inj h2).symm
    ·exact .inr ⟨j,by omega,h2⟩
  ·rename_i hp
   rw [acc_mem sel i]
   constructor
   ·rintro ⟨j,h1,h2⟩;exact ⟨j,by omega,h2⟩
   ·rintro ⟨j,h1,h2⟩
    by_cases e : j = i
    ·subst e;rw [hp] at h2;cases h2
    ·exact ⟨j,by omega,h2⟩
end Go.Proofs.Ytnmmdeonkpfccaa.Pr
