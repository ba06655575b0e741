/- A part of the statement's proof. -/
import Derived.Test.YtnmmdeonkpfccaaDGauges11
import Derived.Laws.Cover1
import Derived.Test.YtnmmdeonkpfccaaDGauges2
import Derived.Test.YtnmmdeonkpfccaaDGauges4
import Derived.Sort.Walk0
set_option linter.unusedVariables false
namespace Go.Proofs.Ytnmmdeonkpfccaa.Pr
open Go.RowKit Go.Proofs.YtnmmdeonkpfccaaW.PrintWords Go.Proofs.YtnmmdeonkpfccaaW.PrintLast Go.Proofs.YtnmmdeonkpfccaaW.PrintMore
abbrev Nm:=List UInt8
theorem nm_lt_of {a b : Nm} (h : ¬ a < b) (h2 : a ≠ b) : b < a:=by
 refine Classical.byContradiction fun h3 => h2 ?_
 exact List.le_antisymm (List.not_lt.1 h3) (List.not_lt.1 h)
def Asc (l : List Nm) : Prop:=l.Pairwise (· < ·)
theorem asc_same : ∀ {a b : List Nm},Asc a → Asc b → (∀ q,q ∈ a ↔ q ∈ b) → a = b
 | [],[],_,_,_ => rfl
 | [],y :: b,_,_,h => by have:=(h y).2 (List.mem_cons_self ..);cases this
 | x :: a,[],_,_,h => by have:=(h x).1 (List.mem_cons_self ..);cases this
 | x :: a,y :: b,ha,hb,h => by
  obtain ⟨ha1,ha2⟩:=List.pairwise_cons.1 ha
  obtain ⟨hb1,hb2⟩:=List.pairwise_cons.1 hb
  have e : x = y:=by
   rcases List.mem_cons.1 ((h x).1 (List.mem_cons_self ..)) with e | h1
   ·exact e
   ·rcases List.mem_cons.1 ((h y).2 (List.mem_cons_self ..)) with e | h2
    ·exact e.symm
    ·exact absurd (List.lt_trans (hb1 _ h1) (ha1 _ h2)) (List.lt_irrefl _)
  subst e
  rw [asc_same ha2 hb2 fun q => ?_]
  constructor
  ·intro hq
   rcases List.mem_cons.1 ((h q).1 (List.mem_cons_of_mem _ hq)) with e | h1
   ·exact absurd (e ▸ ha1 _ hq) (List.lt_irrefl _)
   ·exact h1
  ·intro hq
   rcases List.mem_cons.1 ((h q).2 (List.mem_cons_of_mem _ hq)) with e | h1
   ·exact absurd (e ▸ hb1 _ hq) (List.lt_irrefl _)
   ·exact h1
def mkB (q : Nm) : ByteArray:=⟨q.toArray⟩
def bs (l : List Nm) : List ByteArray:=l.map mkB
theorem asc_sortU (S : List Nm) : Asc (sortU S):=by
 have hp:=List.mergeSort_perm (ddup S) fun x y => decide (x ≤ y)
 have h1 : (sortU S).Pairwise fun a b => decide (a ≤ b) = true:=by
  unfold sortU
  refine List.pairwise_mergeSort (le:=fun x y : Nm => decide (x ≤ y)) ?_ ?_ _
  ·intro a b c h1 h2
   exact decide_eq_true (List.le_trans (of_decide_eq_true h1) (of_decide_eq_true h2))
  ·intro a b
   by_cases h : b < a
   ·rw [decide_eq_true (show b ≤ a from List.le_of_lt h),Bool.or_true]
   ·rw [decide_eq_true (show a ≤ b from List.not_lt.1 h)];rfl
 have h2 : (sortU S).Pairwise fun a b => a ≠ b:=(List.Perm.pairwise_iff (fun h e => h e.symm) hp).2 (nodup_ddup S)
 refine (h1.and h2).imp ?_
 rintro a b ⟨ha,hb⟩
 exact nm_lt_of (List.not_lt.2 (of_decide_eq_true ha)) (fun e => hb e.symm)
theorem mem_sortU {S : List Nm} {q : Nm} : q ∈ sortU S ↔ q ∈ S:=by
 unfold sortU;rw [List.mem_mergeSort,mem_ddup]
theorem strs_of {S l : List Nm} (h : Asc l) (hm : ∀ q,q ∈ l ↔ q ∈ S) : strs S = bs l:=by
 have : sortU S = l:=asc_same (asc_sortU S) h fun q => by rw [mem_sortU];exact (hm q).symm
 unfold strs;rw [this];rfl
end Go.Proofs.Ytnmmdeonkpfccaa.Pr
