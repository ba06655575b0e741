/- A part of the statement's proof. -/
import Derived.Test.YtnmmdeonkpfccaaDEnds1
import Derived.Test.YtnmmdeonkpfccaaDEnds2
import Derived.Lib.ConvBytes
import Derived.Shelf.SlIter.Nil
import Derived.Shelf.SortM.Plain
import Derived.Shelf.SortM.SortNone
import Derived.Ground.GgzProg
import Derived.Ground.SlgmProg
import Derived.Shelf.SlMaps.DeleteFunc
import Derived.Ground.SlmdProg
import Derived.Shelf.SlicesQ.IndexFunc
import Derived.Ground.SlgfProg
import Derived.Ground.SlgnProg
import Derived.Shelf.SlicesE.Clone
import Derived.Shelf.SlGeneric
import Derived.Test.YtnmmdeonkpfccaaProg
import Derived.Shelf.AbstractIn
import Derived.Sort.QuietIn
import Derived.Stop.RegionWithIn
import Derived.RegionTactic
import Derived.ChangeAlike
import Derived.RangeFuncCalls
namespace Go.Proofs.Ytnmmdeonkpfccaa.Pr
open Go.RowKit Go.Proofs.YtnmmdeonkpfccaaW.PrintWords Go.Proofs.YtnmmdeonkpfccaaW.PrintLast Go.Proofs.YtnmmdeonkpfccaaW.PrintMore
attribute [local go_sem] max2_int min2_int max_two min_two max_three min_three max_four min_four
set_option linter.unusedVariables false
set_option linter.unusedSimpArgs false
def dimension_digit.f (a0 : Int) : Option (Bool):=if a0 ≥ 48 then (some (decide (a0 ≤ 57))) else (some false)
set_option maxHeartbeats 8000000 in
set_option maxRecDepth 100000 in
theorem dimension_digit.calls (a0 : Int) (r : Bool) (w : World) (h : dimension_digit.f a0 = some r) :
  Calls Try.prog 71 #[.int .u8 a0] w fun e w' => e = .returned (.bool r) ∧ Drawn0 w w':=by
 have H : (if a0 ≥ 48 then (some (decide (a0 ≤ 57))) else (some false)) = some r:=h
 clear h
 by_cases c2 : a0 ≥ 48
 ·rw [if_pos c2] at H
  have c2b0 : decide (48 ≤ a0) = true:=decide_eq_true c2
  clear c2
  obtain rfl:=Option.some.inj H
  go_enter Try.func71,Try.ntmps71
  go_wp2
  go_ret
  exact ⟨by first | rfl | (simp;done) | (simp [*];done),by repeat (first | exact Drawn0.refl _ | apply Drawn0.step)⟩
 ·rw [if_neg c2] at H
  have c2b0 : decide (48 ≤ a0) = false:=decide_eq_false c2
  clear c2
  obtain rfl:=Option.some.inj H
  go_enter Try.func71,Try.ntmps71
  go_wp2
  go_ret
  exact ⟨by first | rfl | (simp;done) | (simp [*];done),by repeat (first | exact Drawn0.refl _ | apply Drawn0.step)⟩
end Go.Proofs.Ytnmmdeonkpfccaa.Pr
set_option linter.unusedVariables false
namespace Go.Proofs.Ytnmmdeonkpfccaa.Pr
open Go.RowKit Go.Proofs.YtnmmdeonkpfccaaW.PrintWords Go.Proofs.YtnmmdeonkpfccaaW.PrintLast Go.Proofs.YtnmmdeonkpfccaaW.PrintMore
def letB (b : UInt8) : Bool:=decide (65 ≤ b.toNat ∧ b.toNat ≤ 90 ∨ 97 ≤ b.toNat ∧ b.toNat ≤ 122)
def digB (b : UInt8) : Bool:=decide (48 ≤ b.toNat ∧ b.toNat ≤ 57)
def nameL (q : List UInt8) : Int:=if 24 < q.length then 17 else if q = [] then 3 else if letB (q.headD 0) = false then 3 else if q.all (fun b => letB b || digB b) then 0 else 3
def dimension_Name.f (s : ByteArray) : Option Int:=some (nameL s.data.toList)
theorem letter_is (b : UInt8) : dimension_letter.f ((b.toNat : Int)) = some (letB b):=by
 unfold dimension_letter.f letB
 split
 ·split
  ·rw [decide_eq_true (by omega)]
  ·split
   ·congr 1;rw [decide_eq_decide];omega
   ·rw [decide_eq_false (by omega)]
 ·split
  ·congr 1;rw [decide_eq_decide];omega
  ·rw [decide_eq_false (by omega)]
theorem digit_is (b : UInt8) : dimension_digit.f ((b.toNat : Int)) = some (digB b):=by
 unfold dimension_digit.f digB
 split
 ·congr 1;rw [decide_eq_decide];omega
 ·rw [decide_eq_false (by omega)]
theorem below_bytes {B : Nat} {a w : World} (h : Below B a w) (hB : B ≤ w.heap.size) (e : TypeId) (s : ByteArray) : Below B a (Lib.bytesWorld w e s) :=
 h.trans ⟨rfl,rfl,rfl,by rw [Lib.bytesWorld_size];omega,fun k hk => Lib.bytesWorld_at_old w e s k (by omega)⟩
theorem all_take {q : List UInt8} {p : UInt8 → Bool} {k : Nat} (hk : k < q.length) (h : q.all p = true) : p (q.getD k 0) = true:=by
 rw [List.all_eq_true] at h
 rw [List.getD_eq_getElem?_getD,List.getElem?_eq_getElem hk]
 exact h _ (List.getElem_mem hk)
theorem all_of_take {q : List UInt8} {p : UInt8 → Bool} (h : ∀ k,k < q.length → p (q.getD k 0) = true) : q.all p = true:=by
 rw [List.all_eq_true]
 intro x hx
 obtain ⟨k,hk,rfl⟩:=List.getElem_of_mem hx
 have:=h k hk
 rwa [List.getD_eq_getElem?_getD,List.getElem?_eq_getElem hk] at this
theorem not_all {q : List UInt8} {p : UInt8 → Bool} {k : Nat} (hk : k < q.length) (h : p (q.getD k 0) = false) : q.all p = false:=by
 rw [Bool.eq_false_iff]
 intro hh
 rw [all_take hk hh] at h
 cases h
set_option maxHeartbeats 1000000 in
set_option maxRecDepth 100000 in
theorem dimension_Name.calls (a0 : ByteArray) (r : Int) (w : World) (h : dimension_Name.f a0 = some r) :
  Calls Try.prog 49 #[.string a0] w fun e w' => e = .returned (.int .i64 r) ∧ Below w.heap.size w w':=by
 obtain ⟨q,hq⟩ : ∃ q,q = a0.data.toList:=⟨_,rfl⟩
 have hsz : a0.size = q.length:=by rw [hq,Array.length_toList];rfl
 have hr : nameL q = r:=by rw [hq];exact Option.some.inj h
 clear h
 have HR:=Aside0.mk hr
 have HQ:=Aside0.mk hq
 by_cases h24 : 24 < q.length
 ·have e : r = 17:=by rw [← hr];unfold nameL;rw [if_pos h24]
  subst e
  have c1 : decide (24 < (a0.size : Int)) = true:=decide_eq_true (by omega)
  have c2 : decide (24 < a0.size) = true:=decide_eq_true (by omega)
  clear hq hr
  go_enter Try.func49,Try.ntmps49
  go_wp2
  go_ret
  exact ⟨rfl,Below.refl _ _⟩
 ·have c1 : decide (24 < (a0.size : Int)) = false:=decide_eq_false (by omega)
  have c2 : decide (24 < a0.size) = false:=decide_eq_false (by omega)
  by_cases hnil : q = []
  ·have e : r = 3:=by rw [← hr];unfold nameL;rw [if_neg h24,if_pos hnil]
   subst e
   have c3 : a0.toList = []:=by rw [ByteArray.toList_eq,← hq,hnil]
   have c4 : a0.data = #[]:=Array.toList_eq_nil_iff.1 (by rw [← hq,hnil])
   have c5 : a0.data.toList = []:=by rw [← hq,hnil]
   clear hq hr
   go_enter Try.func49,Try.ntmps49
   go_wp2
   go_ret
   exact ⟨rfl,Below.refl _ _⟩
  ·have hpos : 0 < q.length:=by
    cases q with
    | nil => exact absurd rfl hnil
    | cons _ _ => simp
   obtain ⟨b0,hb0⟩ : ∃ b0,b0 = q.headD 0:=⟨_,rfl⟩
   have c3 : ¬ a0.toList = []:=by rw [ByteArray.toList_eq,← hq];exact hnil
   have c4 : (a0.toList == ([] : List UInt8)) = false:=beq_eq_false_iff_ne.mpr c3
   have c5 : decide (a0.toList = ([] : List UInt8)) = false:=decide_eq_false c3
   have c6 : a0.toList.isEmpty = false:=by cases he : a0.toList with | nil => exact absurd he c3 | cons _ _ => rfl
   have hx6 : ∀ h : 0 < a0.size,((a0[0]'h).toNat : Int) = (b0.toNat : Int):=by
    intro h
    have : a0[0]'h = b0:=by
     rw [hb0,hq]
     have h2 : 0 < a0.data.size:=h
     show a0.data[0] = a0.data.toList.headD 0
     rw [List.headD_eq_head?_getD,List.head?_eq_getElem?,Array.getElem?_toList,Array.getElem?_eq_getElem h2]
     rfl
    rw [this]
   have q6 : (0 < a0.size) = True:=eq_true (by omega)
   have qi6 : (0 < (a0.size : Int)) = True:=eq_true (by omega)
   have hne0 : ¬ (a0.size : Int) = 0:=by omega
   by_cases hl0 : letB b0 = false
   ·have e : r = 3:=by rw [← hr];unfold nameL;rw [if_neg h24,if_neg hnil,if_pos (by rw [← hb0];exact hl0)]
    subst e
    have HL:=Aside0.mk ((letter_is b0).trans (congrArg some hl0))
    clear hq hr hl0 hb0 c3 hnil
    go_enter Try.func49,Try.ntmps49
    go_wp2_with (go_at_call 70;(with_reducible refine (dimension_letter.calls _ _ _ HL.out).mono ?_);rintro e w1 ⟨rfl,⟨q1,rfl⟩⟩)
    go_ret
    exact ⟨rfl,pw_below_drewN (Below.refl _ _) q1⟩
   ·have hl1 : letB b0 = true:=by cases hh : letB b0 with | true => rfl | false => exact absurd hh hl0
    have HL:=Aside0.mk ((letter_is b0).trans (congrArg some hl1))
    have HR2:=Aside0.mk (show (if q.all (fun b => letB b || digB b) then (0 : Int) else 3) = r from by rw [← hr];unfold nameL;rw [if_neg h24,if_neg hnil,if_neg (show ¬ letB (q.headD 0) = false by rw [← hb0];exact hl0)])
    have HQ2:=Aside0.mk (show ∀ (W : World) (j : Nat),j < q.length → (Lib.bytesWorld W 5 a0).cell? ⟨W.heap.size,j,none⟩ = some (.int .u8 (q.getD j 0).toNat) from fun W j hj => by rw [hq];exact Lib.bytesWorld_cell W 5 a0 j (by omega))
    have hconv:=fun W : World => Lib.run_convert_string_bytes (P:=Try.prog) W 9 104 5 a0 Try.underlying9 Try.underlying104 Try.underlying5
    clear hq hr hl0 hb0 c3 hnil HR HQ hl1
    go_enter Try.func49,Try.ntmps49
    go_wp2_with (go_at_call 70;(with_reducible refine (dimension_letter.calls _ _ _ HL.out).mono ?_);rintro e w1 ⟨rfl,⟨q1,rfl⟩⟩)
    go_loopw [19] (fun vi wr => ∃ (k : Nat),k ≤ q.length ∧ vi = .int .i64 (k : Int) ∧ Below w.heap.size w wr ∧ Aside0 ((∀ j,j < k → (letB (q.getD j 0) || digB (q.getD j 0)) = true) ∧ (∀ j,j < q.length → wr.cell? ⟨w.heap.size,j,none⟩ = some (.int .u8 (q.getD j 0).toNat)))) (fun vi _ => q.length - (intOf vi).toNat)
    case atStart => exact ⟨0,by omega,rfl,below_bytes (pw_below_drewN (Below.refl _ _) q1) (Nat.le_refl _) _ _,⟨fun j hj => absurd hj (by omega),fun j hj => by have:=HQ2.out (w.drewN q1) j hj;exact this⟩⟩
    case round =>
     obtain ⟨k,hk,rfl,hB,HI⟩:=hrel
     by_cases hlt : k < q.length
     ·obtain ⟨b,hb⟩ : ∃ b,b = q.getD k 0:=⟨_,rfl⟩
      have hcb : wr.cell? ⟨w.heap.size,k,none⟩ = some (.int .u8 b.toNat):=by rw [hb];exact HI.out.2 k hlt
      have HB:=Aside0.mk hb
      clear hb
      by_cases hl : letB b = true
      ·have HL2:=Aside0.mk ((letter_is b).trans (congrArg some hl))
       have HL3:=Aside0.mk hl
       clear hl
       go_wp2_with (go_at_call 70;(with_reducible refine (dimension_letter.calls _ _ _ HL2.out).mono ?_);rintro e w1 ⟨rfl,⟨q2,rfl⟩⟩)
       go_roundw
       case rel => exact ⟨k + 1,by omega,by go_num,pw_below_drewN hB q2,⟨fun j hj => by
        by_cases e : j = k
        ·rw [e,← HB.out,HL3.out];rfl
        ·exact HI.out.1 j (by omega),HI.out.2⟩⟩
       case measure => (simp [intOf] <;> omega)
      ·replace hl : letB b = false:=Bool.eq_false_iff.mpr hl
       have HL2:=Aside0.mk ((letter_is b).trans (congrArg some hl))
       by_cases hd : digB b = true
       ·have HD2:=Aside0.mk ((digit_is b).trans (congrArg some hd))
        have HD3:=Aside0.mk hd
        clear hl hd
        go_wp2_with (first | (go_at_call 70;(with_reducible refine (dimension_letter.calls _ _ _ HL2.out).mono ?_);rintro e w1 ⟨rfl,⟨q2,rfl⟩⟩) | (go_at_call 71;(with_reducible refine (dimension_digit.calls _ _ _ HD2.out).mono ?_);rintro e w1 ⟨rfl,⟨q3,rfl⟩⟩))
        go_roundw
        case rel => exact ⟨k + 1,by omega,by go_num,by repeat (first | exact hB | refine pw_below_drewN ?_ _),⟨fun j hj => by
         by_cases e : j = k
         ·rw [e,← HB.out,HD3.out,Bool.or_true]
         ·exact HI.out.1 j (by omega),HI.out.2⟩⟩
        case measure => (simp [intOf] <;> omega)
       ·replace hd : digB b = false:=Bool.eq_false_iff.mpr hd
        have HD2:=Aside0.mk ((digit_is b).trans (congrArg some hd))
        have e : r = 3:=by
         have h1:=HR2.out
         rw [not_all hlt (by rw [← HB.out,hl,hd];rfl)] at h1
         exact h1.symm.trans (if_neg (by decide))
        subst e
        clear hl hd
        go_wp2_with (first | (go_at_call 70;(with_reducible refine (dimension_letter.calls _ _ _ HL2.out).mono ?_);rintro e w1 ⟨rfl,⟨q2,rfl⟩⟩) | (go_at_call 71;(with_reducible refine (dimension_digit.calls _ _ _ HD2.out).mono ?_);rintro e w1 ⟨rfl,⟨q3,rfl⟩⟩))
        go_ret
        exact ⟨rfl,by repeat (first | exact hB | refine pw_below_drewN ?_ _)⟩
     ·obtain rfl : k = q.length:=by omega
      have e : r = 0:=by
       have h1:=HR2.out
       rw [if_pos (all_of_take HI.out.1)] at h1
       exact h1.symm
      subst e
      go_wp2
      go_ret
      exact ⟨rfl,hB⟩
end Go.Proofs.Ytnmmdeonkpfccaa.Pr
namespace Go.Proofs.Ytnmmdeonkpfccaa.Pr
open Go.RowKit Go.Proofs.YtnmmdeonkpfccaaW.PrintWords Go.Proofs.YtnmmdeonkpfccaaW.PrintLast Go.Proofs.YtnmmdeonkpfccaaW.PrintMore
attribute [local go_sem] max2_int min2_int max_two min_two max_three min_three max_four min_four
set_option linter.unusedVariables false
set_option linter.unusedSimpArgs false
mutual
def recall_names.j0 : Nat → Bool → Int → ByteArray → ByteArray → ByteArray → Option (Int)
 | 0,_,_,_,_,_ => none
 | k + 1,x14,x539000,x539001,x539002,x539003 => if x14 = true then (some 1) else (if x539000 = 0 then ((some (([(⟨x539001,(x539000 != 3)⟩ : S101),(⟨x539002,true⟩ : S101),(⟨x539003,(x539000 == 0)⟩ : S101)] : List (S101)) : List (S101))).bind fun y539 => (recall_names.j1 k 0 y539 (y539.length : Int) 0)) else ((some (([(⟨x539001,(x539000 != 3)⟩ : S101),(⟨x539002,(x539000 == 3)⟩ : S101),(⟨x539003,(x539000 == 0)⟩ : S101)] : List (S101)) : List (S101))).bind fun y542 => (recall_names.j1 k 0 y542 (y542.length : Int) 0)))
def recall_names.j1 : Nat → Int → List (S101) → Int → Int → Option (Int)
 | 0,_,_,_,_ => none
 | k + 1,x3,x38,x39,x40 => recall_names.l0 k x3 x38 x39 x40
def recall_names.l0 : Nat → Int → List (S101) → Int → Int → Option (Int)
 | 0,_,_,_,_ => none
 | k + 1,x3,x38,x39,x40 => if x40 < x39 then (if 0 ≤ x40 then (if x40 < (x38.length : Int) then (if (rd_T101 x38 x40).f1 = true then ((dimension_Name.f ((rd_T101 x38 x40).f0)).bind fun t547 => (if t547 = 0 then (recall_names.l0 k x3 x38 x39 (wrap64 (x40 + 1))) else (some t547))) else (if ((rd_T101 x38 x40).f0).toList = ([] : List UInt8) then (recall_names.l0 k x3 x38 x39 (wrap64 (x40 + 1))) else (recall_names.l0 k 3 x38 x39 (wrap64 (x40 + 1))))) else (none)) else (none)) else (some x3)
end
def recall_names.f (k : Nat) (a0_0 : Int) (a0_1 : ByteArray) (a0_2 : ByteArray) (a0_3 : ByteArray) : Option (Int):=if a0_0 < 0 then (recall_names.j0 k true a0_0 a0_1 a0_2 a0_3) else (recall_names.j0 k (decide (a0_0 > 3)) a0_0 a0_1 a0_2 a0_3)
set_option maxHeartbeats 8000000 in
set_option maxRecDepth 100000 in
theorem recall_names.calls (k : Nat) (a0_0 : Int) (a0_1 : ByteArray) (a0_2 : ByteArray) (a0_3 : ByteArray) (r : Int) (w : World) (h : recall_names.f k a0_0 a0_1 a0_2 a0_3 = some r) :
  Calls Try.prog 43 #[.agg #[.int .i64 a0_0,.string a0_1,.string a0_2,.string a0_3]] w fun e w' => e = .returned (.int .i64 r) ∧ Below w.heap.size w w':=by
 have hu51:=Try.underlying51
 have hu101:=Try.underlying101
 have HB:=Aside0.mk (Below.refl w.heap.size w)
 have H : (if a0_0 < 0 then (recall_names.j0 k true a0_0 a0_1 a0_2 a0_3) else (recall_names.j0 k (decide (a0_0 > 3)) a0_0 a0_1 a0_2 a0_3)) = some r:=h
 clear h
 have HC2:=Aside0.mk H
 clear H
 go_enter Try.func43,Try.ntmps43
 go_upto_region 1 with (first | ((with_reducible refine gate_dst (N:=1) rfl ?_);refine box_event ?hg (N:=1) ?hd (cs:=#[.int .i64 a0_0,.string a0_1,.string a0_2,.string a0_3]) (t:=51) ?hr ?_;(case hd => rfl);(case hg => rfl);(case hr => first | (go_simp;done) | (go_simp;rfl));intro gb538 hg w3 hbox hb;have n0_:=Aside0.mk (below_step (by repeat (first | (with_reducible first | exact HB.out | apply below_alloc | apply pw_below_drewN | apply below_drew1) | exact HB.out)) hb);have n1_:=Aside0.mk (hbox);have n2_:=Aside0.mk ((by rw [hg];exact (below_size (by repeat (first | (with_reducible first | exact HB.out | apply below_alloc | apply pw_below_drewN | apply below_drew1) | exact HB.out))) : w.heap.size ≤ gb538));have n3_:=Aside0.mk ((by rw [hg];exact (below_size (by repeat (first | (with_reducible first | exact HB.out | apply below_alloc | apply pw_below_drewN | apply below_drew1) | exact HB.out))) : w.heap.size ≤ gb538));clear HB;have HB:=n0_;have BK538:=n1_;have GW538:=n2_;have GE538:=n3_;clear n0_ n1_ n2_ n3_;clear hb hbox hg))
 (try simp only [Act.put,List.setIfInBounds_toArray,List.set_cons_zero,List.set_cons_succ])
 go_cut [14] (fun v14 wc => ∃ (kq : Nat) (x14_1 : Bool),v14 = .bool x14_1 ∧ Aside0 (recall_names.j0 kq x14_1 a0_0 a0_1 a0_2 a0_3 = some r) ∧ Aside0 (kq ≤ k) ∧ Aside0 (wc.heap[gb538]? = some (.cells #[.int .i64 a0_0,.string a0_1,.string a0_2,.string a0_3] 51 (0,0))) ∧ Aside0 (Below w.heap.size w wc))
 case first =>
  have H:=HC2.out
  clear HC2
  by_cases c4 : a0_0 < 0
  ·rw [if_pos c4] at H
   have c4b0 : decide (a0_0 < 0) = true:=decide_eq_true c4
   clear c4
   (first | rw [c4b0] | (simp only [i64_w,i32_w];rw [c4b0]) | skip)
   have H':=Aside0.mk H
   clear H
   have hcz5_0 : w3.cell? ⟨gb538,0,none⟩ = some (.int .i64 a0_0):=(blk_cell BK538.out 0).trans rfl
   have hcz5_1 : w3.cell? ⟨gb538,1,none⟩ = some (.string a0_1):=(blk_cell BK538.out 1).trans rfl
   have hcz5_2 : w3.cell? ⟨gb538,2,none⟩ = some (.string a0_2):=(blk_cell BK538.out 2).trans rfl
   have hcz5_3 : w3.cell? ⟨gb538,3,none⟩ = some (.string a0_3):=(blk_cell BK538.out 3).trans rfl
   have hfz5_0:=blk_frozen BK538.out 0
   have hfz5_1:=blk_frozen BK538.out 1
   have hfz5_2:=blk_frozen BK538.out 2
   have hfz5_3:=blk_frozen BK538.out 3
   go_wp2
   go_meet
   case rel => exact ⟨_,(true),(by first | rfl | (simp;done) | (simp [*];done)),H',⟨by first | omega | exact Nat.le_refl _⟩,⟨by (with_reducible repeat (first | refine blk_drewN ?_ _ | refine blk_drew ?_ | refine blk_alloc ?_ _));exact BK538.out⟩,⟨by repeat (first | (with_reducible first | exact HB.out | apply below_alloc | apply pw_below_drewN | apply below_drew1 | refine below_set ?_ GE538.out) | exact HB.out)⟩⟩
  ·rw [if_neg c4] at H
   have c4b0 : decide (a0_0 < 0) = false:=decide_eq_false c4
   clear c4
   (first | rw [c4b0] | (simp only [i64_w,i32_w];rw [c4b0]) | skip)
   have H':=Aside0.mk H
   clear H
   have hcz6_0 : w3.cell? ⟨gb538,0,none⟩ = some (.int .i64 a0_0):=(blk_cell BK538.out 0).trans rfl
   have hcz6_1 : w3.cell? ⟨gb538,1,none⟩ = some (.string a0_1):=(blk_cell BK538.out 1).trans rfl
   have hcz6_2 : w3.cell? ⟨gb538,2,none⟩ = some (.string a0_2):=(blk_cell BK538.out 2).trans rfl
   have hcz6_3 : w3.cell? ⟨gb538,3,none⟩ = some (.string a0_3):=(blk_cell BK538.out 3).trans rfl
   have hfz6_0:=blk_frozen BK538.out 0
   have hfz6_1:=blk_frozen BK538.out 1
   have hfz6_2:=blk_frozen BK538.out 2
   have hfz6_3:=blk_frozen BK538.out 3
   go_wp2
   go_meet
   case rel => exact ⟨_,(decide (a0_0 > 3)),(by first | rfl | (simp;done) | (simp [*];done)),H',⟨by first | omega | exact Nat.le_refl _⟩,⟨by (with_reducible repeat (first | refine blk_drewN ?_ _ | refine blk_drew ?_ | refine blk_alloc ?_ _));exact BK538.out⟩,⟨by repeat (first | (with_reducible first | exact HB.out | apply below_alloc | apply pw_below_drewN | apply below_drew1 | refine below_set ?_ GE538.out) | exact HB.out)⟩⟩
 case rest =>
  clear HC2
  try clear p2
  try clear c4
  try clear c4b0
  try clear hcz5_0
  try clear hcz5_1
  try clear hcz5_2
  try clear hcz5_3
  try clear hcz6_0
  try clear hcz6_1
  try clear hcz6_2
  try clear hcz6_3
  try clear hfz5_0
  try clear hfz5_1
  try clear hfz5_2
  try clear hfz5_3
  try clear hfz6_0
  try clear hfz6_1
  try clear hfz6_2
  try clear hfz6_3
  obtain ⟨kq,x14_1,rfl,HA,HJ1,BK538,HB⟩:=hcut
  cases kq with
  | zero => exact absurd HA.out (by simp [recall_names.j0])
  | succ kj1 =>
   have H:=HA.out
   clear HA
   simp only [recall_names.j0] at H
   by_cases c7 : x14_1 = true
   ·subst c7
    have H1 : (some 1) = some r:=by rw [if_pos rfl] at H;exact H
    clear H
    have H:=H1
    clear H1
    obtain rfl:=Option.some.inj H
    go_wp2
    go_ret
    exact ⟨by first | rfl | (simp [errW_none,errW_some] <;> rfl) | (simp [*,errW_none,errW_some] <;> rfl),by repeat (first | (with_reducible first | exact HB.out | apply below_alloc | apply pw_below_drewN | apply below_drew1 | refine below_set ?_ GE538.out) | exact HB.out)⟩
   ·replace c7:=Bool.eq_false_iff.mpr c7
    subst c7
    have H1 : (if a0_0 = 0 then ((some (([(⟨a0_1,(a0_0 != 3)⟩ : S101),(⟨a0_2,true⟩ : S101),(⟨a0_3,(a0_0 == 0)⟩ : S101)] : List (S101)) : List (S101))).bind fun y539 => (recall_names.j1 kj1 0 y539 (y539.length : Int) 0)) else ((some (([(⟨a0_1,(a0_0 != 3)⟩ : S101),(⟨a0_2,(a0_0 == 3)⟩ : S101),(⟨a0_3,(a0_0 == 0)⟩ : S101)] : List (S101)) : List (S101))).bind fun y542 => (recall_names.j1 kj1 0 y542 (y542.length : Int) 0))) = some r:=by rw [if_neg (show ¬ (false = true) by decide)] at H;exact H
    clear H
    have H:=H1
    clear H1
    have HC8:=Aside0.mk H
    clear H
    go_upto_region 4 with (fail)
    go_cut [38,39,40] (fun v38 v39 v40 wc => ∃ (kq : Nat) (x38_7 : List (S101)) (x39_7 : Int) (x40_7 : Int),v39 = .int .i64 x39_7 ∧ v40 = .int .i64 x40_7 ∧ Aside0 (recall_names.j1 kq 0 x38_7 x39_7 x40_7 = some r) ∧ Aside0 (kq ≤ kj1) ∧ Aside0 (Kd.R k101 101 wc w.heap.size (fun _ => True) v38 x38_7) ∧ Aside0 (wc.heap[gb538]? = some (.cells #[.int .i64 a0_0,.string a0_1,.string a0_2,.string a0_3] 51 (0,0))) ∧ Aside0 (Below w.heap.size w wc))
    case first =>
     have H:=HC8.out
     clear HC8
     by_cases c9 : a0_0 = 0
     ·rw [if_pos c9] at H
      have c9b0 : (a0_0 == 0) = true:=beq_iff_eq.mpr c9
      have c9b1 : (a0_0 != 0) = false:=bne_eq_false_iff_eq.mpr c9
      clear c9
      (first | rw [c9b0] | (simp only [i64_w,i32_w];rw [c9b0]) | skip)
      obtain ⟨y539,hy539⟩ : ∃ y_ : List (S101),y_ = (([(⟨a0_1,(a0_0 != 3)⟩ : S101),(⟨a0_2,true⟩ : S101),(⟨a0_3,(a0_0 == 0)⟩ : S101)] : List (S101))):=⟨_,rfl⟩
      replace H : (recall_names.j1 kj1 0 y539 (y539.length : Int) 0) = some r:=by first | (rw [hy539];with_reducible exact H) | (have H2_:=(Option.bind_some _ _).symm.trans H;rw [hy539];with_reducible exact H2_) | (have H2_:=(Option.bind_some _ _).symm.trans H;with_reducible exact H2_) | with_reducible exact H | (rw [hy539];exact H) | exact H
      have Ny539:=Aside0.mk hy539
      clear hy539
      have H':=Aside0.mk H
      clear H
      have hcz10_0 : wc.cell? ⟨gb538,0,none⟩ = some (.int .i64 a0_0):=(blk_cell BK538.out 0).trans rfl
      have hcz10_1 : wc.cell? ⟨gb538,1,none⟩ = some (.string a0_1):=(blk_cell BK538.out 1).trans rfl
      have hcz10_2 : wc.cell? ⟨gb538,2,none⟩ = some (.string a0_2):=(blk_cell BK538.out 2).trans rfl
      have hcz10_3 : wc.cell? ⟨gb538,3,none⟩ = some (.string a0_3):=(blk_cell BK538.out 3).trans rfl
      have hfz10_0:=blk_frozen BK538.out 0
      have hfz10_1:=blk_frozen BK538.out 1
      have hfz10_2:=blk_frozen BK538.out 2
      have hfz10_3:=blk_frozen BK538.out 3
      go_wp2_with (first | ((with_reducible refine gate_dst (N:=38) rfl ?_);(try refine wpList_unguard rfl rfl ?_);refine Kd.R_lit k101 _ 101 ?hg (N:=38) ?hd (xs:=([(⟨a0_1,(a0_0 != 3)⟩ : S101),(⟨a0_2,true⟩ : S101),(⟨a0_3,(a0_0 == 0)⟩ : S101)] : List (S101))) (inner:=[.string a0_1,.bool (a0_0 != 3),.string a0_2,.bool true,.string a0_3,.bool (a0_0 == 0)]) (ok:=fun _ => True) (okp:=fun _ => True) ?hr ?hp (fun _ hk => hk) trivial (Below.refl _ _) (Nat.le_refl _) (by simp) ?_;(case hd => rfl);(case hg => rfl);(case hr => first | (go_simp;done) | (go_simp;rfl));(case hp => exact (Reps.c2 (show Kd.M k101 _ _ _ (⟨a0_1,(a0_0 != 3)⟩ : S101) [.string a0_1,.bool (a0_0 != 3)] from (k101_mkM _ _ _ (⟨a0_1,(a0_0 != 3)⟩ : S101) )) (Reps.c2 (show Kd.M k101 _ _ _ (⟨a0_2,true⟩ : S101) [.string a0_2,.bool true] from (k101_mkM _ _ _ (⟨a0_2,true⟩ : S101) )) (Reps.c2 (show Kd.M k101 _ _ _ (⟨a0_3,(a0_0 == 0)⟩ : S101) [.string a0_3,.bool (a0_0 == 0)] from (k101_mkM _ _ _ (⟨a0_3,(a0_0 == 0)⟩ : S101) )) (Reps.none _ _)))));intro v540 w11 ho12 hb hg_ hnew_;clear hg_ hnew_;(first | rw [← Ny539.out] at ho12 | (simp only [Int.reduceToNat] at ho12;rw [← Ny539.out] at ho12));have n0_:=Aside0.mk (Kd.R_lower ho12 (below_size (by repeat (first | (with_reducible first | exact HB.out | apply below_alloc | apply pw_below_drewN | apply below_drew1 | refine below_set ?_ GE538.out) | exact HB.out))));have n1_:=Aside0.mk (blk_below (g:=gb538) (o:=.cells #[.int .i64 a0_0,.string a0_1,.string a0_2,.string a0_3] 51 (0,0)) (by (with_reducible repeat (first | refine blk_drewN ?_ _ | refine blk_drew ?_ | refine blk_alloc ?_ _));exact BK538.out) hb);have n2_:=Aside0.mk (below_step (by repeat (first | (with_reducible first | exact HB.out | apply below_alloc | apply pw_below_drewN | apply below_drew1 | refine below_set ?_ GE538.out) | exact HB.out)) hb);clear BK538;clear HB;have HO541:=n0_;have BK538:=n1_;have HB:=n2_;clear n0_ n1_ n2_;clear hb ho12;obtain ⟨Ao13,co13,eo13⟩:=Kd.R_slice HO541.out;subst eo13))
      go_meet
      case rel => exact ⟨_,(y539),((y539.length : Int)),(0),(by first | rfl | (simp;done) | (simp [*];done)),(by first | rfl | (simp;done) | (simp [*];done)),H',⟨by have:=HJ1.out;first | omega | exact Nat.le_refl _⟩,⟨by (with_reducible repeat (first | apply Kd.R_alloc | apply Kd.R_drewN | apply Kd.R_drew));exact HO541.out⟩,⟨by (with_reducible repeat (first | refine blk_drewN ?_ _ | refine blk_drew ?_ | refine blk_alloc ?_ _));exact BK538.out⟩,⟨by repeat (first | (with_reducible first | exact HB.out | apply below_alloc | apply pw_below_drewN | apply below_drew1 | refine below_set ?_ GE538.out) | exact HB.out)⟩⟩
     ·rw [if_neg c9] at H
      have c9b0 : (a0_0 == 0) = false:=beq_eq_false_iff_ne.mpr c9
      have c9b1 : (a0_0 != 0) = true:=bne_iff_ne.mpr c9
      (first | rw [c9b0] | (simp only [i64_w,i32_w];rw [c9b0]) | skip)
      obtain ⟨y542,hy542⟩ : ∃ y_ : List (S101),y_ = (([(⟨a0_1,(a0_0 != 3)⟩ : S101),(⟨a0_2,(a0_0 == 3)⟩ : S101),(⟨a0_3,(a0_0 == 0)⟩ : S101)] : List (S101))):=⟨_,rfl⟩
      replace H : (recall_names.j1 kj1 0 y542 (y542.length : Int) 0) = some r:=by first | (rw [hy542];with_reducible exact H) | (have H2_:=(Option.bind_some _ _).symm.trans H;rw [hy542];with_reducible exact H2_) | (have H2_:=(Option.bind_some _ _).symm.trans H;with_reducible exact H2_) | with_reducible exact H | (rw [hy542];exact H) | exact H
      have Ny542:=Aside0.mk hy542
      clear hy542
      have H':=Aside0.mk H
      clear H
      have hcz14_0 : wc.cell? ⟨gb538,0,none⟩ = some (.int .i64 a0_0):=(blk_cell BK538.out 0).trans rfl
      have hcz14_1 : wc.cell? ⟨gb538,1,none⟩ = some (.string a0_1):=(blk_cell BK538.out 1).trans rfl
      have hcz14_2 : wc.cell? ⟨gb538,2,none⟩ = some (.string a0_2):=(blk_cell BK538.out 2).trans rfl
      have hcz14_3 : wc.cell? ⟨gb538,3,none⟩ = some (.string a0_3):=(blk_cell BK538.out 3).trans rfl
      have hfz14_0:=blk_frozen BK538.out 0
      have hfz14_1:=blk_frozen BK538.out 1
      have hfz14_2:=blk_frozen BK538.out 2
      have hfz14_3:=blk_frozen BK538.out 3
      go_wp2_with (first | ((with_reducible refine gate_dst (N:=38) rfl ?_);(try refine wpList_unguard rfl rfl ?_);refine Kd.R_lit k101 _ 101 ?hg (N:=38) ?hd (xs:=([(⟨a0_1,(a0_0 != 3)⟩ : S101),(⟨a0_2,(a0_0 == 3)⟩ : S101),(⟨a0_3,(a0_0 == 0)⟩ : S101)] : List (S101))) (inner:=[.string a0_1,.bool (a0_0 != 3),.string a0_2,.bool (a0_0 == 3),.string a0_3,.bool (a0_0 == 0)]) (ok:=fun _ => True) (okp:=fun _ => True) ?hr ?hp (fun _ hk => hk) trivial (Below.refl _ _) (Nat.le_refl _) (by simp) ?_;(case hd => rfl);(case hg => rfl);(case hr => first | (go_simp;done) | (go_simp;rfl));(case hp => exact (Reps.c2 (show Kd.M k101 _ _ _ (⟨a0_1,(a0_0 != 3)⟩ : S101) [.string a0_1,.bool (a0_0 != 3)] from (k101_mkM _ _ _ (⟨a0_1,(a0_0 != 3)⟩ : S101) )) (Reps.c2 (show Kd.M k101 _ _ _ (⟨a0_2,(a0_0 == 3)⟩ : S101) [.string a0_2,.bool (a0_0 == 3)] from (k101_mkM _ _ _ (⟨a0_2,(a0_0 == 3)⟩ : S101) )) (Reps.c2 (show Kd.M k101 _ _ _ (⟨a0_3,(a0_0 == 0)⟩ : S101) [.string a0_3,.bool (a0_0 == 0)] from (k101_mkM _ _ _ (⟨a0_3,(a0_0 == 0)⟩ : S101) )) (Reps.none _ _)))));intro v543 w15 ho16 hb hg_ hnew_;clear hg_ hnew_;(first | rw [← Ny542.out] at ho16 | (simp only [Int.reduceToNat] at ho16;rw [← Ny542.out] at ho16));have n0_:=Aside0.mk (Kd.R_lower ho16 (below_size (by repeat (first | (with_reducible first | exact HB.out | apply below_alloc | apply pw_below_drewN | apply below_drew1 | refine below_set ?_ GE538.out) | exact HB.out))));have n1_:=Aside0.mk (blk_below (g:=gb538) (o:=.cells #[.int .i64 a0_0,.string a0_1,.string a0_2,.string a0_3] 51 (0,0)) (by (with_reducible repeat (first | refine blk_drewN ?_ _ | refine blk_drew ?_ | refine blk_alloc ?_ _));exact BK538.out) hb);have n2_:=Aside0.mk (below_step (by repeat (first | (with_reducible first | exact HB.out | apply below_alloc | apply pw_below_drewN | apply below_drew1 | refine below_set ?_ GE538.out) | exact HB.out)) hb);clear BK538;clear HB;have HO544:=n0_;have BK538:=n1_;have HB:=n2_;clear n0_ n1_ n2_;clear hb ho16;obtain ⟨Ao17,co17,eo17⟩:=Kd.R_slice HO544.out;subst eo17))
      go_meet
      case rel => exact ⟨_,(y542),((y542.length : Int)),(0),(by first | rfl | (simp;done) | (simp [*];done)),(by first | rfl | (simp;done) | (simp [*];done)),H',⟨by have:=HJ1.out;first | omega | exact Nat.le_refl _⟩,⟨by (with_reducible repeat (first | apply Kd.R_alloc | apply Kd.R_drewN | apply Kd.R_drew));exact HO544.out⟩,⟨by (with_reducible repeat (first | refine blk_drewN ?_ _ | refine blk_drew ?_ | refine blk_alloc ?_ _));exact BK538.out⟩,⟨by repeat (first | (with_reducible first | exact HB.out | apply below_alloc | apply pw_below_drewN | apply below_drew1 | refine below_set ?_ GE538.out) | exact HB.out)⟩⟩
    case rest =>
     clear HC8
     try clear c2
     try clear p2
     try clear c4
     try clear c4b0
     try clear c7
     try clear c9
     try clear c9b0
     try clear c9b1
     try clear hcz10_0
     try clear hcz10_1
     try clear hcz10_2
     try clear hcz10_3
     try clear hcz14_0
     try clear hcz14_1
     try clear hcz14_2
     try clear hcz14_3
     try clear hcz5_0
     try clear hcz5_1
     try clear hcz5_2
     try clear hcz5_3
     try clear hcz6_0
     try clear hcz6_1
     try clear hcz6_2
     try clear hcz6_3
     try clear hfz10_0
     try clear hfz10_1
     try clear hfz10_2
     try clear hfz10_3
     try clear hfz14_0
     try clear hfz14_1
     try clear hfz14_2
     try clear hfz14_3
     try clear hfz5_0
     try clear hfz5_1
     try clear hfz5_2
     try clear hfz5_3
     try clear hfz6_0
     try clear hfz6_1
     try clear hfz6_2
     try clear hfz6_3
     try clear p2
     obtain ⟨kq,x38_7,x39_7,x40_7,rfl,rfl,HA,HJ7,HO_38,BK538,HB⟩:=hcut
     cases kq with
     | zero => exact absurd HA.out (by simp [recall_names.j1])
     | succ kj7 =>
      have H:=HA.out
      clear HA
      simp only [recall_names.j1] at H
      have H':=Aside0.mk H
      clear H
      go_wp2
      go_loopg [3,40] kj7 (fun kq v3 v40 w' => ∃ (x3_3 : Int) (x40_3 : Int),v3 = .int .i64 x3_3 ∧ v40 = .int .i64 x40_3 ∧ Aside0 (recall_names.l0 kq x3_3 x38_7 x39_7 x40_3 = some r) ∧ Aside0 (kq ≤ kj7) ∧ Aside0 (Kd.R k101 101 w' w.heap.size (fun _ => True) u38 x38_7) ∧ Aside0 (w'.heap[gb538]? = some (.cells #[.int .i64 a0_0,.string a0_1,.string a0_2,.string a0_3] 51 (0,0))) ∧ Aside0 (Below w.heap.size w w'))
      case atStart => exact ⟨(0),(x40_7),(by first | rfl | (simp;done) | (simp [*];done)),(by first | rfl | (simp;done) | (simp [*];done)),H',⟨Nat.le_refl _⟩,⟨by (with_reducible repeat (first | apply Kd.R_alloc | apply Kd.R_drewN | apply Kd.R_drew));exact HO_38.out⟩,⟨by (with_reducible repeat (first | refine blk_drewN ?_ _ | refine blk_drew ?_ | refine blk_alloc ?_ _));exact BK538.out⟩,⟨by repeat (first | (with_reducible first | exact HB.out | apply below_alloc | apply pw_below_drewN | apply below_drew1 | refine below_set ?_ GE538.out) | exact HB.out)⟩⟩
      case round =>
       clear H'
       try clear c2
       try clear p2
       try clear c4
       try clear c4b0
       try clear c7
       try clear c9
       try clear c9b0
       try clear c9b1
       try clear hcz10_0
       try clear hcz10_1
       try clear hcz10_2
       try clear hcz10_3
       try clear hcz14_0
       try clear hcz14_1
       try clear hcz14_2
       try clear hcz14_3
       try clear hcz5_0
       try clear hcz5_1
       try clear hcz5_2
       try clear hcz5_3
       try clear hcz6_0
       try clear hcz6_1
       try clear hcz6_2
       try clear hcz6_3
       try clear hfz10_0
       try clear hfz10_1
       try clear hfz10_2
       try clear hfz10_3
       try clear hfz14_0
       try clear hfz14_1
       try clear hfz14_2
       try clear hfz14_3
       try clear hfz5_0
       try clear hfz5_1
       try clear hfz5_2
       try clear hfz5_3
       try clear hfz6_0
       try clear hfz6_1
       try clear hfz6_2
       try clear hfz6_3
       try clear p2
       obtain ⟨x3_3,x40_3,rfl,rfl,HA,HK3,HO_38,BK538,HB⟩:=hrel
       cases gk with
       | zero => exact absurd HA.out (by simp [recall_names.l0])
       | succ k3 =>
        have H:=HA.out
        clear HA
        simp only [recall_names.l0] at H
        by_cases c18 : x40_3 < x39_7
        ·rw [if_pos c18] at H
         have c18b0 : decide (x40_3 < x39_7) = true:=decide_eq_true c18
         clear c18
         by_cases c19 : 0 ≤ x40_3
         ·rw [if_pos c19] at H
          have c19b0 : decide (0 ≤ x40_3) = true:=decide_eq_true c19
          clear c19
          by_cases c20 : x40_3 < (x38_7.length : Int)
          ·rw [if_pos c20] at H
           have c20b0 : decide (x40_3 < (x38_7.length : Int)) = true:=decide_eq_true c20
           clear c20
           obtain ⟨bq21,hbq21⟩ : ∃ b_ : Bool,b_ = ((rd_T101 x38_7 x40_3).f1):=⟨_,rfl⟩
           replace H : (if bq21 = true then ((dimension_Name.f ((rd_T101 x38_7 x40_3).f0)).bind fun t547 => (if t547 = 0 then (recall_names.l0 k3 x3_3 x38_7 x39_7 (wrap64 (x40_3 + 1))) else (some t547))) else (if ((rd_T101 x38_7 x40_3).f0).toList = ([] : List UInt8) then (recall_names.l0 k3 x3_3 x38_7 x39_7 (wrap64 (x40_3 + 1))) else (recall_names.l0 k3 3 x38_7 x39_7 (wrap64 (x40_3 + 1))))) = some r:=by rw [← hbq21] at H;exact H
           have Nbq21:=Aside0.mk hbq21
           clear hbq21
           by_cases c22 : bq21 = true
           ·subst c22
            have H1 : ((dimension_Name.f ((rd_T101 x38_7 x40_3).f0)).bind fun t547 => (if t547 = 0 then (recall_names.l0 k3 x3_3 x38_7 x39_7 (wrap64 (x40_3 + 1))) else (some t547))) = some r:=by rw [if_pos rfl] at H;exact H
            clear H
            have H:=H1
            clear H1
            replace H:=Option.bind_eq_some_iff.mp H
            obtain ⟨t547,A230,H⟩:=H
            replace H : (if t547 = 0 then (recall_names.l0 k3 x3_3 x38_7 x39_7 (wrap64 (x40_3 + 1))) else (some t547)) = some r:=H
            have A23:=Aside0.mk A230
            clear A230
            by_cases c24 : t547 = 0
            ·rw [if_pos c24] at H
             have c24b0 : (t547 == 0) = true:=beq_iff_eq.mpr c24
             have c24b1 : (t547 != 0) = false:=bne_eq_false_iff_eq.mpr c24
             clear c24
             have H':=Aside0.mk H
             clear H
             obtain ⟨Ao25,co25,eo25⟩:=Kd.R_slice HO_38.out
             subst eo25
             have p545 : 0 ≤ (x40_3 : Int):=of_decide_eq_true (by first | (with_reducible assumption) | assumption)
             have q545 : x40_3 < (x38_7.length : Int):=of_decide_eq_true (by first | (with_reducible assumption) | assumption)
             obtain ⟨ad545,e545,hx545_0,hx545_1⟩:=at_T101 (Kd.R_reads' HO_38.out).2.2 x40_3 p545 q545
             (try rw [← Nbq21.out] at hx545_1)
             cases e545
             replace p545:=eq_true p545
             replace q545:=eq_true q545
             go_wp2_with (first | ((with_reducible refine gate_dst (N:=5) rfl ?_);refine box_event ?hg (N:=5) ?hd (cs:=#[.string (⟨#[]⟩ : ByteArray),.bool false]) (t:=101) ?hr ?_;(case hd => rfl);(case hg => rfl);(case hr => first | (go_simp;done) | (go_simp;rfl));intro gb546 hg w26 hbox hb;have n0_:=Aside0.mk (Kd.R_below (Kd.R_elderB (by (with_reducible repeat (first | apply Kd.R_alloc | apply Kd.R_drewN | apply Kd.R_drew));exact HO_38.out) gb546 (Nat.le_of_eq hg.symm)) hb);have n1_:=Aside0.mk (blk_below (g:=gb538) (o:=.cells #[.int .i64 a0_0,.string a0_1,.string a0_2,.string a0_3] 51 (0,0)) (by (with_reducible repeat (first | refine blk_drewN ?_ _ | refine blk_drew ?_ | refine blk_alloc ?_ _));exact BK538.out) hb);have n2_:=Aside0.mk (below_step (by repeat (first | (with_reducible first | exact HB.out | apply below_alloc | apply pw_below_drewN | apply below_drew1 | refine below_set ?_ GE538.out) | exact HB.out)) hb);have n3_:=Aside0.mk (hbox);have n4_:=Aside0.mk ((by rw [hg];exact (below_size (by repeat (first | (with_reducible first | exact HB.out | apply below_alloc | apply pw_below_drewN | apply below_drew1 | refine below_set ?_ GE538.out) | exact HB.out))) : w.heap.size ≤ gb546));have n5_:=Aside0.mk ((by rw [hg];exact (below_size (by repeat (first | (with_reducible first | exact HB.out | apply below_alloc | apply pw_below_drewN | apply below_drew1 | refine below_set ?_ GE538.out) | exact HB.out))) : w.heap.size ≤ gb546));have n6_:=Aside0.mk ((by rw [hg];exact Nat.ne_of_lt (blk_lt (g:=gb538) (o:=.cells #[.int .i64 a0_0,.string a0_1,.string a0_2,.string a0_3] 51 (0,0)) (by (with_reducible repeat (first | refine blk_drewN ?_ _ | refine blk_drew ?_ | refine blk_alloc ?_ _));exact BK538.out)) : gb538 ≠ gb546));have n7_:=Aside0.mk ((by rw [hg];exact Nat.ne_of_gt (blk_lt (g:=gb538) (o:=.cells #[.int .i64 a0_0,.string a0_1,.string a0_2,.string a0_3] 51 (0,0)) (by (with_reducible repeat (first | refine blk_drewN ?_ _ | refine blk_drew ?_ | refine blk_alloc ?_ _));exact BK538.out)) : gb546 ≠ gb538));clear HO_38;clear BK538;clear HB;have HO_38:=n0_;have BK538:=n1_;have HB:=n2_;have BK546:=n3_;have GW546:=n4_;have GE546:=n5_;have NB538_546:=n6_;have NB546_538:=n7_;clear n0_ n1_ n2_ n3_ n4_ n5_ n6_ n7_;clear hb hbox hg;have hnb27:=NB546_538.out;have hnc27:=NB538_546.out;have hcz28_0 : w26.cell? ⟨gb546,0,none⟩ = some (.string (⟨#[]⟩ : ByteArray)):=(blk_cell BK546.out 0).trans rfl;have hcz28_1 : w26.cell? ⟨gb546,1,none⟩ = some (.bool false):=(blk_cell BK546.out 1).trans rfl;have hfz28_0:=blk_frozen BK546.out 0;have hfz28_1:=blk_frozen BK546.out 1) | ((with_reducible refine gate_callee (f:=49) rfl ?_);refine goesL_ (some 48) rfl rfl Try.func49 (by kernel_rfl) rfl #[.string ((rd_T101 x38_7 x40_3).f0)] rfl (by (try simp only [List.map_toArray,List.map_cons,List.map_nil]);first | done | rfl | (simp only [List.length_drop,List.length_take];rfl)) ?_;(with_reducible refine (dimension_Name.calls ((rd_T101 x38_7 x40_3).f0) t547 _ A23.out).mono ?_);rintro e w29 ⟨rfl,hb⟩;refine ⟨_,rfl,?_⟩;have n0_:=Aside0.mk (Kd.R_below (by (with_reducible repeat (first | apply Kd.R_alloc | apply Kd.R_drewN | apply Kd.R_drew));exact (Kd.R_mono (Kd.R_far (p:=⟨gb546,1,none⟩) (Kd.R_far (p:=⟨gb546,0,none⟩) (Kd.R_mono HO_38.out (fun k_ hk => (⟨hk,hk.2⟩ : _ ∧ k_ ≠ gb546))) (fun _ hk => hk.2) (.string ((rd_T101 x38_7 x40_3).f0))) (fun _ hk => hk.2) (.bool true)) (fun _ h_ => h_.1))) hb);have n1_:=Aside0.mk (blk_below (g:=gb538) (o:=.cells #[.int .i64 a0_0,.string a0_1,.string a0_2,.string a0_3] 51 (0,0)) (by (with_reducible repeat (first | refine blk_drewN ?_ _ | refine blk_drew ?_ | refine blk_alloc ?_ _));refine blk_far ?_ NB538_546.out _;(with_reducible repeat (first | refine blk_drewN ?_ _ | refine blk_drew ?_ | refine blk_alloc ?_ _));refine blk_far ?_ NB538_546.out _;(with_reducible repeat (first | refine blk_drewN ?_ _ | refine blk_drew ?_ | refine blk_alloc ?_ _));exact BK538.out) hb);have n2_:=Aside0.mk (blk_below (g:=gb546) (o:=.cells #[.string ((rd_T101 x38_7 x40_3).f0),.bool true] 101 (0,0)) (by (with_reducible repeat (first | refine blk_drewN ?_ _ | refine blk_drew ?_ | refine blk_alloc ?_ _));refine blk_put (cs:=#[.string ((rd_T101 x38_7 x40_3).f0),.bool false]) ?_ 1 _ rfl;(with_reducible repeat (first | refine blk_drewN ?_ _ | refine blk_drew ?_ | refine blk_alloc ?_ _));refine blk_put (cs:=#[.string (⟨#[]⟩ : ByteArray),.bool false]) ?_ 0 _ rfl;(with_reducible repeat (first | refine blk_drewN ?_ _ | refine blk_drew ?_ | refine blk_alloc ?_ _));exact BK546.out) hb);have n3_:=Aside0.mk (below_step (by repeat (first | (with_reducible first | exact HB.out | apply below_alloc | apply pw_below_drewN | apply below_drew1 | refine below_set ?_ GE538.out | refine below_set ?_ GE546.out) | exact HB.out)) hb);clear HO_38;clear BK538;clear BK546;clear HB;have HO_38:=n0_;have BK538:=n1_;have BK546:=n2_;have HB:=n3_;clear n0_ n1_ n2_ n3_;(try clear hb);(try clear hb2);(try clear hk);(try clear hi)))
             go_roundg k3
             case measure => have:=HJ1.out;have:=HJ7.out;have:=HK3.out;omega
             case rel => exact ⟨(x3_3),(wrap64 (x40_3 + 1)),(by first | rfl | (simp;done) | (simp [*];done)),(by first | rfl | (simp;done) | (simp [*];done)),H',⟨by have:=HJ1.out;have:=HJ7.out;have:=HK3.out;omega⟩,⟨by (with_reducible repeat (first | apply Kd.R_alloc | apply Kd.R_drewN | apply Kd.R_drew));exact Kd.R_mono HO_38.out (fun _ hk => trivial)⟩,⟨by (with_reducible repeat (first | refine blk_drewN ?_ _ | refine blk_drew ?_ | refine blk_alloc ?_ _));exact BK538.out⟩,⟨by repeat (first | (with_reducible first | exact HB.out | apply below_alloc | apply pw_below_drewN | apply below_drew1 | refine below_set ?_ GE538.out | refine below_set ?_ GE546.out) | exact HB.out)⟩⟩
            ·rw [if_neg c24] at H
             have c24b0 : (t547 == 0) = false:=beq_eq_false_iff_ne.mpr c24
             have c24b1 : (t547 != 0) = true:=bne_iff_ne.mpr c24
             obtain rfl:=Option.some.inj H
             obtain ⟨Ao30,co30,eo30⟩:=Kd.R_slice HO_38.out
             subst eo30
             have p545 : 0 ≤ (x40_3 : Int):=of_decide_eq_true (by first | (with_reducible assumption) | assumption)
             have q545 : x40_3 < (x38_7.length : Int):=of_decide_eq_true (by first | (with_reducible assumption) | assumption)
             obtain ⟨ad545,e545,hx545_0,hx545_1⟩:=at_T101 (Kd.R_reads' HO_38.out).2.2 x40_3 p545 q545
             (try rw [← Nbq21.out] at hx545_1)
             cases e545
             replace p545:=eq_true p545
             replace q545:=eq_true q545
             go_wp2_with (first | ((with_reducible refine gate_dst (N:=5) rfl ?_);refine box_event ?hg (N:=5) ?hd (cs:=#[.string (⟨#[]⟩ : ByteArray),.bool false]) (t:=101) ?hr ?_;(case hd => rfl);(case hg => rfl);(case hr => first | (go_simp;done) | (go_simp;rfl));intro gb546 hg w31 hbox hb;have n0_:=Aside0.mk (Kd.R_below (Kd.R_elderB (by (with_reducible repeat (first | apply Kd.R_alloc | apply Kd.R_drewN | apply Kd.R_drew));exact HO_38.out) gb546 (Nat.le_of_eq hg.symm)) hb);have n1_:=Aside0.mk (blk_below (g:=gb538) (o:=.cells #[.int .i64 a0_0,.string a0_1,.string a0_2,.string a0_3] 51 (0,0)) (by (with_reducible repeat (first | refine blk_drewN ?_ _ | refine blk_drew ?_ | refine blk_alloc ?_ _));exact BK538.out) hb);have n2_:=Aside0.mk (below_step (by repeat (first | (with_reducible first | exact HB.out | apply below_alloc | apply pw_below_drewN | apply below_drew1 | refine below_set ?_ GE538.out) | exact HB.out)) hb);have n3_:=Aside0.mk (hbox);have n4_:=Aside0.mk ((by rw [hg];exact (below_size (by repeat (first | (with_reducible first | exact HB.out | apply below_alloc | apply pw_below_drewN | apply below_drew1 | refine below_set ?_ GE538.out) | exact HB.out))) : w.heap.size ≤ gb546));have n5_:=Aside0.mk ((by rw [hg];exact (below_size (by repeat (first | (with_reducible first | exact HB.out | apply below_alloc | apply pw_below_drewN | apply below_drew1 | refine below_set ?_ GE538.out) | exact HB.out))) : w.heap.size ≤ gb546));have n6_:=Aside0.mk ((by rw [hg];exact Nat.ne_of_lt (blk_lt (g:=gb538) (o:=.cells #[.int .i64 a0_0,.string a0_1,.string a0_2,.string a0_3] 51 (0,0)) (by (with_reducible repeat (first | refine blk_drewN ?_ _ | refine blk_drew ?_ | refine blk_alloc ?_ _));exact BK538.out)) : gb538 ≠ gb546));have n7_:=Aside0.mk ((by rw [hg];exact Nat.ne_of_gt (blk_lt (g:=gb538) (o:=.cells #[.int .i64 a0_0,.string a0_1,.string a0_2,.string a0_3] 51 (0,0)) (by (with_reducible repeat (first | refine blk_drewN ?_ _ | refine blk_drew ?_ | refine blk_alloc ?_ _));exact BK538.out)) : gb546 ≠ gb538));clear HO_38;clear BK538;clear HB;have HO_38:=n0_;have BK538:=n1_;have HB:=n2_;have BK546:=n3_;have GW546:=n4_;have GE546:=n5_;have NB538_546:=n6_;have NB546_538:=n7_;clear n0_ n1_ n2_ n3_ n4_ n5_ n6_ n7_;clear hb hbox hg;have hnb32:=NB546_538.out;have hnc32:=NB538_546.out;have hcz33_0 : w31.cell? ⟨gb546,0,none⟩ = some (.string (⟨#[]⟩ : ByteArray)):=(blk_cell BK546.out 0).trans rfl;have hcz33_1 : w31.cell? ⟨gb546,1,none⟩ = some (.bool false):=(blk_cell BK546.out 1).trans rfl;have hfz33_0:=blk_frozen BK546.out 0;have hfz33_1:=blk_frozen BK546.out 1) | ((with_reducible refine gate_callee (f:=49) rfl ?_);refine goesL_ (some 48) rfl rfl Try.func49 (by kernel_rfl) rfl #[.string ((rd_T101 x38_7 x40_3).f0)] rfl (by (try simp only [List.map_toArray,List.map_cons,List.map_nil]);first | done | rfl | (simp only [List.length_drop,List.length_take];rfl)) ?_;(with_reducible refine (dimension_Name.calls ((rd_T101 x38_7 x40_3).f0) t547 _ A23.out).mono ?_);rintro e w34 ⟨rfl,hb⟩;refine ⟨_,rfl,?_⟩;have n0_:=Aside0.mk (Kd.R_below (by (with_reducible repeat (first | apply Kd.R_alloc | apply Kd.R_drewN | apply Kd.R_drew));exact (Kd.R_mono (Kd.R_far (p:=⟨gb546,1,none⟩) (Kd.R_far (p:=⟨gb546,0,none⟩) (Kd.R_mono HO_38.out (fun k_ hk => (⟨hk,hk.2⟩ : _ ∧ k_ ≠ gb546))) (fun _ hk => hk.2) (.string ((rd_T101 x38_7 x40_3).f0))) (fun _ hk => hk.2) (.bool true)) (fun _ h_ => h_.1))) hb);have n1_:=Aside0.mk (blk_below (g:=gb538) (o:=.cells #[.int .i64 a0_0,.string a0_1,.string a0_2,.string a0_3] 51 (0,0)) (by (with_reducible repeat (first | refine blk_drewN ?_ _ | refine blk_drew ?_ | refine blk_alloc ?_ _));refine blk_far ?_ NB538_546.out _;(with_reducible repeat (first | refine blk_drewN ?_ _ | refine blk_drew ?_ | refine blk_alloc ?_ _));refine blk_far ?_ NB538_546.out _;(with_reducible repeat (first | refine blk_drewN ?_ _ | refine blk_drew ?_ | refine blk_alloc ?_ _));exact BK538.out) hb);have n2_:=Aside0.mk (blk_below (g:=gb546) (o:=.cells #[.string ((rd_T101 x38_7 x40_3).f0),.bool true] 101 (0,0)) (by (with_reducible repeat (first | refine blk_drewN ?_ _ | refine blk_drew ?_ | refine blk_alloc ?_ _));refine blk_put (cs:=#[.string ((rd_T101 x38_7 x40_3).f0),.bool false]) ?_ 1 _ rfl;(with_reducible repeat (first | refine blk_drewN ?_ _ | refine blk_drew ?_ | refine blk_alloc ?_ _));refine blk_put (cs:=#[.string (⟨#[]⟩ : ByteArray),.bool false]) ?_ 0 _ rfl;(with_reducible repeat (first | refine blk_drewN ?_ _ | refine blk_drew ?_ | refine blk_alloc ?_ _));exact BK546.out) hb);have n3_:=Aside0.mk (below_step (by repeat (first | (with_reducible first | exact HB.out | apply below_alloc | apply pw_below_drewN | apply below_drew1 | refine below_set ?_ GE538.out | refine below_set ?_ GE546.out) | exact HB.out)) hb);clear HO_38;clear BK538;clear BK546;clear HB;have HO_38:=n0_;have BK538:=n1_;have BK546:=n2_;have HB:=n3_;clear n0_ n1_ n2_ n3_;(try clear hb);(try clear hb2);(try clear hk);(try clear hi)))
             go_ret
             exact ⟨by first | rfl | (simp [errW_none,errW_some] <;> rfl) | (simp [*,errW_none,errW_some] <;> rfl),by repeat (first | (with_reducible first | exact HB.out | apply below_alloc | apply pw_below_drewN | apply below_drew1 | refine below_set ?_ GE538.out | refine below_set ?_ GE546.out) | exact HB.out)⟩
           ·replace c22:=Bool.eq_false_iff.mpr c22
            subst c22
            have H1 : (if ((rd_T101 x38_7 x40_3).f0).toList = ([] : List UInt8) then (recall_names.l0 k3 x3_3 x38_7 x39_7 (wrap64 (x40_3 + 1))) else (recall_names.l0 k3 3 x38_7 x39_7 (wrap64 (x40_3 + 1)))) = some r:=by rw [if_neg (show ¬ (false = true) by decide)] at H;exact H
            clear H
            have H:=H1
            clear H1
            by_cases c35 : ((rd_T101 x38_7 x40_3).f0).toList = ([] : List UInt8)
            ·rw [if_pos c35] at H
             have c35b0 : (((rd_T101 x38_7 x40_3).f0).toList == ([] : List UInt8)) = true:=beq_iff_eq.mpr c35
             have c35b1 : (((rd_T101 x38_7 x40_3).f0).toList != ([] : List UInt8)) = false:=bne_eq_false_iff_eq.mpr c35
             clear c35
             have H':=Aside0.mk H
             clear H
             obtain ⟨Ao36,co36,eo36⟩:=Kd.R_slice HO_38.out
             subst eo36
             have p545 : 0 ≤ (x40_3 : Int):=of_decide_eq_true (by first | (with_reducible assumption) | assumption)
             have q545 : x40_3 < (x38_7.length : Int):=of_decide_eq_true (by first | (with_reducible assumption) | assumption)
             obtain ⟨ad545,e545,hx545_0,hx545_1⟩:=at_T101 (Kd.R_reads' HO_38.out).2.2 x40_3 p545 q545
             (try rw [← Nbq21.out] at hx545_1)
             cases e545
             replace p545:=eq_true p545
             replace q545:=eq_true q545
             go_wp2_with (first | ((with_reducible refine gate_dst (N:=5) rfl ?_);refine box_event ?hg (N:=5) ?hd (cs:=#[.string (⟨#[]⟩ : ByteArray),.bool false]) (t:=101) ?hr ?_;(case hd => rfl);(case hg => rfl);(case hr => first | (go_simp;done) | (go_simp;rfl));intro gb546 hg w37 hbox hb;have n0_:=Aside0.mk (Kd.R_below (Kd.R_elderB (by (with_reducible repeat (first | apply Kd.R_alloc | apply Kd.R_drewN | apply Kd.R_drew));exact HO_38.out) gb546 (Nat.le_of_eq hg.symm)) hb);have n1_:=Aside0.mk (blk_below (g:=gb538) (o:=.cells #[.int .i64 a0_0,.string a0_1,.string a0_2,.string a0_3] 51 (0,0)) (by (with_reducible repeat (first | refine blk_drewN ?_ _ | refine blk_drew ?_ | refine blk_alloc ?_ _));exact BK538.out) hb);have n2_:=Aside0.mk (below_step (by repeat (first | (with_reducible first | exact HB.out | apply below_alloc | apply pw_below_drewN | apply below_drew1 | refine below_set ?_ GE538.out) | exact HB.out)) hb);have n3_:=Aside0.mk (hbox);have n4_:=Aside0.mk ((by rw [hg];exact (below_size (by repeat (first | (with_reducible first | exact HB.out | apply below_alloc | apply pw_below_drewN | apply below_drew1 | refine below_set ?_ GE538.out) | exact HB.out))) : w.heap.size ≤ gb546));have n5_:=Aside0.mk ((by rw [hg];exact (below_size (by repeat (first | (with_reducible first | exact HB.out | apply below_alloc | apply pw_below_drewN | apply below_drew1 | refine below_set ?_ GE538.out) | exact HB.out))) : w.heap.size ≤ gb546));have n6_:=Aside0.mk ((by rw [hg];exact Nat.ne_of_lt (blk_lt (g:=gb538) (o:=.cells #[.int .i64 a0_0,.string a0_1,.string a0_2,.string a0_3] 51 (0,0)) (by (with_reducible repeat (first | refine blk_drewN ?_ _ | refine blk_drew ?_ | refine blk_alloc ?_ _));exact BK538.out)) : gb538 ≠ gb546));have n7_:=Aside0.mk ((by rw [hg];exact Nat.ne_of_gt (blk_lt (g:=gb538) (o:=.cells #[.int .i64 a0_0,.string a0_1,.string a0_2,.string a0_3] 51 (0,0)) (by (with_reducible repeat (first | refine blk_drewN ?_ _ | refine blk_drew ?_ | refine blk_alloc ?_ _));exact BK538.out)) : gb546 ≠ gb538));clear HO_38;clear BK538;clear HB;have HO_38:=n0_;have BK538:=n1_;have HB:=n2_;have BK546:=n3_;have GW546:=n4_;have GE546:=n5_;have NB538_546:=n6_;have NB546_538:=n7_;clear n0_ n1_ n2_ n3_ n4_ n5_ n6_ n7_;clear hb hbox hg;have hnb38:=NB546_538.out;have hnc38:=NB538_546.out;have hcz39_0 : w37.cell? ⟨gb546,0,none⟩ = some (.string (⟨#[]⟩ : ByteArray)):=(blk_cell BK546.out 0).trans rfl;have hcz39_1 : w37.cell? ⟨gb546,1,none⟩ = some (.bool false):=(blk_cell BK546.out 1).trans rfl;have hfz39_0:=blk_frozen BK546.out 0;have hfz39_1:=blk_frozen BK546.out 1))
             go_roundg k3
             case measure => have:=HJ1.out;have:=HJ7.out;have:=HK3.out;omega
             case rel => exact ⟨(x3_3),(wrap64 (x40_3 + 1)),(by first | rfl | (simp;done) | (simp [*];done)),(by first | rfl | (simp;done) | (simp [*];done)),H',⟨by have:=HJ1.out;have:=HJ7.out;have:=HK3.out;omega⟩,⟨by (with_reducible repeat (first | apply Kd.R_alloc | apply Kd.R_drewN | apply Kd.R_drew));exact Kd.R_mono (Kd.R_far (p:=⟨gb546,1,none⟩) (Kd.R_far (p:=⟨gb546,0,none⟩) (Kd.R_mono HO_38.out (fun k_ hk => (⟨hk,hk.2⟩ : _ ∧ k_ ≠ gb546))) (fun _ hk => hk.2) (.string ((rd_T101 x38_7 x40_3).f0))) (fun _ hk => hk.2) (.bool false)) (fun _ hk => trivial)⟩,⟨by (with_reducible repeat (first | refine blk_drewN ?_ _ | refine blk_drew ?_ | refine blk_alloc ?_ _));refine blk_far ?_ NB538_546.out _;(with_reducible repeat (first | refine blk_drewN ?_ _ | refine blk_drew ?_ | refine blk_alloc ?_ _));refine blk_far ?_ NB538_546.out _;(with_reducible repeat (first | refine blk_drewN ?_ _ | refine blk_drew ?_ | refine blk_alloc ?_ _));exact BK538.out⟩,⟨by repeat (first | (with_reducible first | exact HB.out | apply below_alloc | apply pw_below_drewN | apply below_drew1 | refine below_set ?_ GE538.out | refine below_set ?_ GE546.out) | exact HB.out)⟩⟩
            ·rw [if_neg c35] at H
             have c35b0 : (((rd_T101 x38_7 x40_3).f0).toList == ([] : List UInt8)) = false:=beq_eq_false_iff_ne.mpr c35
             have c35b1 : (((rd_T101 x38_7 x40_3).f0).toList != ([] : List UInt8)) = true:=bne_iff_ne.mpr c35
             have H':=Aside0.mk H
             clear H
             obtain ⟨Ao40,co40,eo40⟩:=Kd.R_slice HO_38.out
             subst eo40
             have p545 : 0 ≤ (x40_3 : Int):=of_decide_eq_true (by first | (with_reducible assumption) | assumption)
             have q545 : x40_3 < (x38_7.length : Int):=of_decide_eq_true (by first | (with_reducible assumption) | assumption)
             obtain ⟨ad545,e545,hx545_0,hx545_1⟩:=at_T101 (Kd.R_reads' HO_38.out).2.2 x40_3 p545 q545
             (try rw [← Nbq21.out] at hx545_1)
             cases e545
             replace p545:=eq_true p545
             replace q545:=eq_true q545
             go_wp2_with (first | ((with_reducible refine gate_dst (N:=5) rfl ?_);refine box_event ?hg (N:=5) ?hd (cs:=#[.string (⟨#[]⟩ : ByteArray),.bool false]) (t:=101) ?hr ?_;(case hd => rfl);(case hg => rfl);(case hr => first | (go_simp;done) | (go_simp;rfl));intro gb546 hg w41 hbox hb;have n0_:=Aside0.mk (Kd.R_below (Kd.R_elderB (by (with_reducible repeat (first | apply Kd.R_alloc | apply Kd.R_drewN | apply Kd.R_drew));exact HO_38.out) gb546 (Nat.le_of_eq hg.symm)) hb);have n1_:=Aside0.mk (blk_below (g:=gb538) (o:=.cells #[.int .i64 a0_0,.string a0_1,.string a0_2,.string a0_3] 51 (0,0)) (by (with_reducible repeat (first | refine blk_drewN ?_ _ | refine blk_drew ?_ | refine blk_alloc ?_ _));exact BK538.out) hb);have n2_:=Aside0.mk (below_step (by repeat (first | (with_reducible first | exact HB.out | apply below_alloc | apply pw_below_drewN | apply below_drew1 | refine below_set ?_ GE538.out) | exact HB.out)) hb);have n3_:=Aside0.mk (hbox);have n4_:=Aside0.mk ((by rw [hg];exact (below_size (by repeat (first | (with_reducible first | exact HB.out | apply below_alloc | apply pw_below_drewN | apply below_drew1 | refine below_set ?_ GE538.out) | exact HB.out))) : w.heap.size ≤ gb546));have n5_:=Aside0.mk ((by rw [hg];exact (below_size (by repeat (first | (with_reducible first | exact HB.out | apply below_alloc | apply pw_below_drewN | apply below_drew1 | refine below_set ?_ GE538.out) | exact HB.out))) : w.heap.size ≤ gb546));have n6_:=Aside0.mk ((by rw [hg];exact Nat.ne_of_lt (blk_lt (g:=gb538) (o:=.cells #[.int .i64 a0_0,.string a0_1,.string a0_2,.string a0_3] 51 (0,0)) (by (with_reducible repeat (first | refine blk_drewN ?_ _ | refine blk_drew ?_ | refine blk_alloc ?_ _));exact BK538.out)) : gb538 ≠ gb546));have n7_:=Aside0.mk ((by rw [hg];exact Nat.ne_of_gt (blk_lt (g:=gb538) (o:=.cells #[.int .i64 a0_0,.string a0_1,.string a0_2,.string a0_3] 51 (0,0)) (by (with_reducible repeat (first | refine blk_drewN ?_ _ | refine blk_drew ?_ | refine blk_alloc ?_ _));exact BK538.out)) : gb546 ≠ gb538));clear HO_38;clear BK538;clear HB;have HO_38:=n0_;have BK538:=n1_;have HB:=n2_;have BK546:=n3_;have GW546:=n4_;have GE546:=n5_;have NB538_546:=n6_;have NB546_538:=n7_;clear n0_ n1_ n2_ n3_ n4_ n5_ n6_ n7_;clear hb hbox hg;have hnb42:=NB546_538.out;have hnc42:=NB538_546.out;have hcz43_0 : w41.cell? ⟨gb546,0,none⟩ = some (.string (⟨#[]⟩ : ByteArray)):=(blk_cell BK546.out 0).trans rfl;have hcz43_1 : w41.cell? ⟨gb546,1,none⟩ = some (.bool false):=(blk_cell BK546.out 1).trans rfl;have hfz43_0:=blk_frozen BK546.out 0;have hfz43_1:=blk_frozen BK546.out 1))
             go_roundg k3
             case measure => have:=HJ1.out;have:=HJ7.out;have:=HK3.out;omega
             case rel => exact ⟨(3),(wrap64 (x40_3 + 1)),(by first | rfl | (simp;done) | (simp [*];done)),(by first | rfl | (simp;done) | (simp [*];done)),H',⟨by have:=HJ1.out;have:=HJ7.out;have:=HK3.out;omega⟩,⟨by (with_reducible repeat (first | apply Kd.R_alloc | apply Kd.R_drewN | apply Kd.R_drew));exact Kd.R_mono (Kd.R_far (p:=⟨gb546,1,none⟩) (Kd.R_far (p:=⟨gb546,0,none⟩) (Kd.R_mono HO_38.out (fun k_ hk => (⟨hk,hk.2⟩ : _ ∧ k_ ≠ gb546))) (fun _ hk => hk.2) (.string ((rd_T101 x38_7 x40_3).f0))) (fun _ hk => hk.2) (.bool false)) (fun _ hk => trivial)⟩,⟨by (with_reducible repeat (first | refine blk_drewN ?_ _ | refine blk_drew ?_ | refine blk_alloc ?_ _));refine blk_far ?_ NB538_546.out _;(with_reducible repeat (first | refine blk_drewN ?_ _ | refine blk_drew ?_ | refine blk_alloc ?_ _));refine blk_far ?_ NB538_546.out _;(with_reducible repeat (first | refine blk_drewN ?_ _ | refine blk_drew ?_ | refine blk_alloc ?_ _));exact BK538.out⟩,⟨by repeat (first | (with_reducible first | exact HB.out | apply below_alloc | apply pw_below_drewN | apply below_drew1 | refine below_set ?_ GE538.out | refine below_set ?_ GE546.out) | exact HB.out)⟩⟩
          ·rw [if_neg c20] at H
           exact absurd H (by simp)
         ·rw [if_neg c19] at H
          exact absurd H (by simp)
        ·rw [if_neg c18] at H
         have c18b0 : decide (x40_3 < x39_7) = false:=decide_eq_false c18
         clear c18
         obtain rfl:=Option.some.inj H
         go_wp2
         go_ret
         exact ⟨by first | rfl | (simp [errW_none,errW_some] <;> rfl) | (simp [*,errW_none,errW_some] <;> rfl),by repeat (first | (with_reducible first | exact HB.out | apply below_alloc | apply pw_below_drewN | apply below_drew1 | refine below_set ?_ GE538.out) | exact HB.out)⟩
end Go.Proofs.Ytnmmdeonkpfccaa.Pr
set_option linter.unusedVariables false
namespace Go.Proofs.Ytnmmdeonkpfccaa.Pr
open Go.RowKit Go.Proofs.YtnmmdeonkpfccaaW.PrintWords Go.Proofs.YtnmmdeonkpfccaaW.PrintLast Go.Proofs.YtnmmdeonkpfccaaW.PrintMore
def nfold : Int → List (List UInt8 × Bool) → Int
 | form,[] => form
 | form,(q,u) :: r => if u = true then (if nameL q = 0 then nfold form r else nameL q) else (if q = [] then nfold form r else nfold 3 r)
def namesV (k : Int) (g p l : List UInt8) : Int:=if k < 0 ∨ 3 < k then 1 else nfold 0 [(g,k != 3),(p,k == 0 || k == 3),(l,k == 0)]
def namesX (x : S51) : Int:=namesV x.f0 x.f1.data.toList x.f2.data.toList x.f3.data.toList
theorem nfold_cons (form : Int) (q : List UInt8) (u : Bool) (r : List (List UInt8 × Bool)) : nfold form ((q,u) :: r) = if u = true then (if nameL q = 0 then nfold form r else nameL q) else (if q = [] then nfold form r else nfold 3 r):=rfl
theorem nfold_zero {form : Int} : ∀ {L : List (List UInt8 × Bool)},nfold form L = 0 → form = 0 ∧ ∀ x ∈ L,(x.2 = true → nameL x.1 = 0) ∧ (x.2 = false → x.1 = []):=by
 intro L
 induction L generalizing form with
 | nil => intro h;exact ⟨h,fun x hx => by cases hx⟩
 | cons x r ih =>
  obtain ⟨q,u⟩:=x
  intro h
  unfold nfold at h
  by_cases hu : u = true
  ·rw [if_pos hu] at h
   by_cases hq : nameL q = 0
   ·rw [if_pos hq] at h
    obtain ⟨h1,h2⟩:=ih h
    refine ⟨h1,fun y hy => ?_⟩
    rcases List.mem_cons.1 hy with rfl | hy
    ·exact ⟨fun _ => hq,fun he => by rw [hu] at he;cases he⟩
    ·exact h2 y hy
   ·rw [if_neg hq] at h;exact absurd h hq
  ·rw [if_neg hu] at h
   by_cases hq : q = []
   ·rw [if_pos hq] at h
    obtain ⟨h1,h2⟩:=ih h
    refine ⟨h1,fun y hy => ?_⟩
    rcases List.mem_cons.1 hy with rfl | hy
    ·exact ⟨fun he => absurd he hu,fun _ => hq⟩
    ·exact h2 y hy
   ·rw [if_neg hq] at h
    have:=(ih h).1
    cases this
theorem nameL_len {q : List UInt8} (h : nameL q = 0) : q.length ≤ 24:=by
 unfold nameL at h
 split at h
 ·cases h
 ·omega
theorem namesX_zero {x : S51} (h : namesX x = 0) : (x.f0 = 0 ∨ x.f0 = 1 ∨ x.f0 = 2 ∨ x.f0 = 3) ∧ x.f1.size ≤ 24 ∧ x.f2.size ≤ 24 ∧ x.f3.size ≤ 24:=by
 unfold namesX namesV at h
 split at h
 ·cases h
 ·rename_i hk
  have hz:=(nfold_zero h).2
  have hl : ∀ q : List UInt8,∀ u : Bool,(u = true → nameL q = 0) ∧ (u = false → q = []) → q.length ≤ 24:=by
   intro q u ⟨h1,h2⟩
   cases u with
   | true => exact nameL_len (h1 rfl)
   | false => rw [h2 rfl];simp
  refine ⟨by omega,?_,?_,?_⟩
  ·have:=hl _ _ (hz _ (.head _));rw [Array.length_toList] at this;exact this
  ·have:=hl _ _ (hz _ (.tail _ (.head _)));rw [Array.length_toList] at this;exact this
  ·have:=hl _ _ (hz _ (.tail _ (.tail _ (.head _))));rw [Array.length_toList] at this;exact this
theorem names_loop (L : List S101) : ∀ (d : Nat) (i : Nat) (form : Int),i + d = L.length → L.length ≤ 10 → ∀ k,d < k → recall_names.l0 k form L (L.length : Int) (i : Int) = some (nfold form ((L.drop i).map fun y => (y.f0.data.toList,y.f1))):=by
 intro d
 induction d with
 | zero =>
  intro i form hi hL k hk
  obtain ⟨k,rfl⟩ : ∃ m,k = m + 1:=⟨k - 1,by omega⟩
  simp only [recall_names.l0]
  rw [if_neg (by omega),List.drop_eq_nil_of_le (by omega)]
  rfl
 | succ d ih =>
  intro i form hi hL k hk
  obtain ⟨k,rfl⟩ : ∃ m,k = m + 1:=⟨k - 1,by omega⟩
  have hlt : i < L.length:=by omega
  have hrd : rd_T101 L (i : Int) = L[i]:=by unfold rd_T101;rw [Int.toNat_natCast,List.getD_eq_getElem?_getD,List.getElem?_eq_getElem hlt];rfl
  have hw : wrap64 ((i : Int) + 1) = ((i + 1 : Nat) : Int):=by unfold wrap64;omega
  simp only [recall_names.l0]
  rw [if_pos (by omega),if_pos (by omega),if_pos (by omega),hrd,hw,List.drop_eq_getElem_cons hlt,List.map_cons,ih (i + 1) form (by omega) hL k (by omega),ih (i + 1) 3 (by omega) hL k (by omega)]
  unfold dimension_Name.f
  simp only [Option.bind_some,ByteArray.toList_eq,nfold_cons]
  by_cases hu : (L[i]).f1 = true
  ·rw [if_pos hu,if_pos hu]
   split <;> rfl
  ·rw [if_neg hu,if_neg hu]
   split <;> rfl
theorem names_is (x : S51) : ∀ k,6 < k → recall_names.f k x.f0 x.f1 x.f2 x.f3 = some (namesX x):=by
 intro k hk
 obtain ⟨k,rfl⟩ : ∃ m,k = m + 1 + 1:=⟨k - 2,by omega⟩
 unfold recall_names.f namesX namesV
 by_cases h0 : x.f0 < 0
 ·rw [if_pos h0,if_pos (.inl h0)]
  simp only [recall_names.j0,if_true]
 ·rw [if_neg h0]
  by_cases h3 : x.f0 > 3
  ·rw [if_pos (.inr h3),decide_eq_true h3]
   simp only [recall_names.j0,if_true]
  ·rw [if_neg (by omega),decide_eq_false h3]
   simp only [recall_names.j0]
   rw [if_neg (by decide)]
   by_cases hz : x.f0 = 0
   ·rw [if_pos hz]
    simp only [Option.bind_some,recall_names.j1]
    have:=names_loop [(⟨x.f1,(x.f0 != 3)⟩ : S101),(⟨x.f2,true⟩ : S101),(⟨x.f3,(x.f0 == 0)⟩ : S101)] 3 0 0 rfl (by simp) k (by omega)
    rw [show ((0 : Nat) : Int) = 0 from rfl] at this
    rw [this,hz];rfl
   ·rw [if_neg hz]
    simp only [Option.bind_some,recall_names.j1]
    have:=names_loop [(⟨x.f1,(x.f0 != 3)⟩ : S101),(⟨x.f2,(x.f0 == 3)⟩ : S101),(⟨x.f3,(x.f0 == 0)⟩ : S101)] 3 0 0 rfl (by simp) k (by omega)
    rw [show ((0 : Nat) : Int) = 0 from rfl] at this
    rw [this]
    have e : (x.f0 == 0) = false:=beq_eq_false_iff_ne.mpr hz
    rw [e];rfl
end Go.Proofs.Ytnmmdeonkpfccaa.Pr
set_option linter.unusedVariables false
namespace Go.Proofs.Ytnmmdeonkpfccaa.Pr
open Go.RowKit Go.Proofs.YtnmmdeonkpfccaaW.PrintWords Go.Proofs.YtnmmdeonkpfccaaW.PrintLast Go.Proofs.YtnmmdeonkpfccaaW.PrintMore
open Go.Proofs.Ytnmmdeonkpfccaa.Rg
def fLots (L : List (List UInt8 × ByteArray)) : List UInt8 → Option Value:=fun q => (L.lookup q).map Value.string
def fSet (G : List (List UInt8)) : List UInt8 → Option Value:=fun q => if q ∈ G then some (.bool true) else none
theorem fSet_nil : fSet [] = fun _ => none:=by funext q;simp [fSet]
theorem fLots_put (L : List (List UInt8 × ByteArray)) (q : List UInt8) (s : ByteArray) : putF (fLots L) q (.string s) = fLots ((q,s) :: L):=by
 funext r
 unfold putF fLots
 rw [List.lookup_cons]
 by_cases h : r = q
 ·rw [if_pos h,h];simp
 ·rw [if_neg h]
  have : (r == q) = false:=beq_eq_false_iff_ne.mpr h
  rw [this]
theorem fSet_put (G : List (List UInt8)) (q : List UInt8) : putF (fSet G) q (.bool true) = fSet (q :: G):=by
 funext r
 unfold putF fSet
 by_cases h : r = q
 ·rw [if_pos h,if_pos (by rw [h];exact .head _)]
 ·rw [if_neg h]
  by_cases h2 : r ∈ G
  ·rw [if_pos h2,if_pos (.tail _ h2)]
  ·rw [if_neg h2,if_neg (by rw [List.mem_cons];rintro (e | e);exact h e;exact h2 e)]
def checkF : List (List UInt8 × ByteArray) → List (List UInt8) → List S51 → Int
 | _,_,[] => 0
 | L,G,x :: r =>
  if namesX x ≠ 0 then namesX x
  else if x.f0 = 0 then
   (if x.f2.data.toList ∈ G then 14 else match L.lookup x.f2.data.toList with
    | none => checkF ((x.f2.data.toList,x.f3) :: L) G r
    | some s => if s.data.toList = x.f3.data.toList then checkF ((x.f2.data.toList,x.f3) :: L) G r else 16)
  else if x.f0 = 3 then
   (if L.lookup x.f2.data.toList = none then 6 else if x.f2.data.toList ∈ G then 14 else checkF L (x.f2.data.toList :: G) r)
  else checkF L G r
theorem checkF_cons (L : List (List UInt8 × ByteArray)) (G : List (List UInt8)) (x : S51) (r : List S51) : checkF L G (x :: r) =
  if namesX x ≠ 0 then namesX x
  else if x.f0 = 0 then
   (if x.f2.data.toList ∈ G then 14 else match L.lookup x.f2.data.toList with
    | none => checkF ((x.f2.data.toList,x.f3) :: L) G r
    | some s => if s.data.toList = x.f3.data.toList then checkF ((x.f2.data.toList,x.f3) :: L) G r else 16)
  else if x.f0 = 3 then
   (if L.lookup x.f2.data.toList = none then 6 else if x.f2.data.toList ∈ G then 14 else checkF L (x.f2.data.toList :: G) r)
  else checkF L G r:=rfl
def checkV (l : List S51) : Int:=if 4096 < l.length then 5 else checkF [] [] l
def recall_Check.f (l : List S51) : Option Int:=some (checkV l)
theorem _root_.Go.Proofs.Ytnmmdeonkpfccaa.Rg.MapF.below {P : Program} {k : TypeId} {w w' : World} {b n : Nat} {f : List UInt8 → Option Value} (h : MapF P k w b n f) (hb : Below w.heap.size w w') : MapF P k w' b n f:=h.same (hb.block b h.lt)
theorem ev_box {wr w6 w8 : World} {gb : Nat} {t : TypeId} {z0 z1 z2 z3 v0 v1 v2 v3 : Value} (hg : gb = wr.heap.size) (hbox : w6.heap[gb]? = some (.cells #[z0,z1,z2,z3] t (0,0))) (hb : Below wr.heap.size wr w6)
  (hb8 : Below ((((w6.setCell ⟨gb,0,none⟩ v0).setCell ⟨gb,1,none⟩ v1).setCell ⟨gb,2,none⟩ v2).setCell ⟨gb,3,none⟩ v3).heap.size ((((w6.setCell ⟨gb,0,none⟩ v0).setCell ⟨gb,1,none⟩ v1).setCell ⟨gb,2,none⟩ v2).setCell ⟨gb,3,none⟩ v3) w8) :
  Below wr.heap.size wr w8 ∧ w8.heap[gb]? = some (.cells #[v0,v1,v2,v3] t (0,0)):=by
 have hle : wr.heap.size ≤ gb:=by omega
 have h4 : ((((w6.setCell ⟨gb,0,none⟩ v0).setCell ⟨gb,1,none⟩ v1).setCell ⟨gb,2,none⟩ v2).setCell ⟨gb,3,none⟩ v3).heap[gb]? = some (.cells #[v0,v1,v2,v3] t (0,0)):=by
  refine blk_put (cs:=#[v0,v1,v2,z3]) ?_ 3 _ rfl
  refine blk_put (cs:=#[v0,v1,z2,z3]) ?_ 2 _ rfl
  refine blk_put (cs:=#[v0,z1,z2,z3]) ?_ 1 _ rfl
  exact blk_put (cs:=#[z0,z1,z2,z3]) hbox 0 _ rfl
 have hbb : Below wr.heap.size wr ((((w6.setCell ⟨gb,0,none⟩ v0).setCell ⟨gb,1,none⟩ v1).setCell ⟨gb,2,none⟩ v2).setCell ⟨gb,3,none⟩ v3):=(((hb.setCell (p:=⟨gb,0,none⟩) hle _).setCell (p:=⟨gb,1,none⟩) hle _).setCell (p:=⟨gb,2,none⟩) hle _).setCell (p:=⟨gb,3,none⟩) hle _
 exact ⟨hbb.trans (hb8.mono hbb.size),(hb8.block _ (Array.getElem?_eq_some_iff.1 h4).1).trans h4⟩
set_option maxHeartbeats 1000000 in
set_option maxRecDepth 100000 in
theorem recall_Check.calls (A0 : Option Addr) (c0 : Nat) (l0 : List (S51)) (r : Int) (w : World) (hr0 : Kd.C k51 w A0 l0.length l0) (hc0 : l0.length ≤ c0) (h : recall_Check.f l0 = some r) :
  Calls Try.prog 16 #[.slice A0 l0.length c0] w fun e w' => e = .returned (.int .i64 r) ∧ Below w.heap.size w w':=by
 have hr : checkV l0 = r:=Option.some.inj h
 clear h
 by_cases h4 : 4096 < l0.length
 ·have e : r = 5:=by rw [← hr];unfold checkV;rw [if_pos h4]
  subst e
  have c1 : decide (4096 < (l0.length : Int)) = true:=decide_eq_true (by omega)
  have c2 : decide (4096 < l0.length) = true:=decide_eq_true h4
  clear hr hr0
  go_enter Try.func16,Try.ntmps16
  go_wp2
  go_ret
  exact ⟨rfl,Below.refl _ _⟩
 ·have c1 : decide (4096 < (l0.length : Int)) = false:=decide_eq_false (by omega)
  have c2 : decide (4096 < l0.length) = false:=decide_eq_false h4
  have HRR:=Aside0.mk (show checkF [] [] l0 = r from by rw [← hr];unfold checkV;rw [if_neg h4])
  have HR0:=Aside0.mk hr0
  have hu51:=Try.underlying51
  have hmm:=@run_makeMap Try.prog
  clear hr hr0
  go_enter Try.func16,Try.ntmps16
  go_wp2
  go_loopw [17] (fun vi wr => ∃ (k : Nat) (L : List (List UInt8 × ByteArray)) (G : List (List UInt8)),k ≤ l0.length ∧ vi = .int .i64 (k : Int) ∧ Aside0 (Below w.heap.size w wr) ∧ Aside0 (checkF L G (l0.drop k) = r) ∧ Aside0 (MapF Try.prog 9 wr w.heap.size k (fLots L)) ∧ Aside0 (MapF Try.prog 9 wr (w.heap.size + 1) k (fSet G))) (fun vi _ => l0.length - (intOf vi).toNat)
  case atStart => exact ⟨0,[],[],by omega,rfl,⟨((Below.refl _ w).alloc (Nat.le_refl _) _).alloc (by simp) _⟩,⟨HRR.out⟩,⟨(MapF.made w Try.prog 9).alloc _⟩,⟨by rw [fSet_nil];have:=MapF.made (w.alloc (.map #[] 0)) Try.prog 9;rwa [World.size_alloc] at this⟩⟩
  case round =>
   obtain ⟨k,L,G,hk,rfl,HB,HF,HL,HG⟩:=hrel
   by_cases hlt : k < l0.length
   ·obtain ⟨x,hx⟩ : ∃ x,x = l0[k]:=⟨_,rfl⟩
    have hrd : rd_T51 l0 (k : Int) = x:=by unfold rd_T51;rw [Int.toNat_natCast,List.getD_eq_getElem?_getD,List.getElem?_eq_getElem hlt,hx];rfl
    obtain ⟨ad,e1,hx0,hx1,hx2,hx3⟩:=at_T51 HR0.out (k : Int) (by omega) (by omega)
    cases e1
    rw [hrd,Int.toNat_natCast] at hx0 hx1 hx2 hx3
    replace hx0:=(HB.out.cell (World.block_lt_of_cell? w _ hx0)).trans hx0
    replace hx1:=(HB.out.cell (World.block_lt_of_cell? w _ hx1)).trans hx1
    replace hx2:=(HB.out.cell (World.block_lt_of_cell? w _ hx2)).trans hx2
    replace hx3:=(HB.out.cell (World.block_lt_of_cell? w _ hx3)).trans hx3
    have HF2:=Aside0.mk (show checkF L G (x :: l0.drop (k + 1)) = r from by rw [← HF.out,List.drop_eq_getElem_cons hlt,hx])
    have HN:=Aside0.mk (names_is x 7 (by omega))
    clear hx hrd
    by_cases hn : namesX x = 0
    ·obtain ⟨hkind,hs1,hs2,hs3⟩:=namesX_zero hn
     rw [hn] at HN
     have hm2 : x.f2.size ≤ maxLen:=by unfold maxLen;omega
     obtain ⟨p,hp⟩ : ∃ p,p = x.f2.data.toList:=⟨_,rfl⟩
     obtain ⟨lk,hlk⟩ : ∃ lk,lk = L.lookup p:=⟨_,rfl⟩
     obtain ⟨VV,hVV⟩ : ∃ VV : ByteArray,VV = lk.getD ⟨#[]⟩:=⟨_,rfl⟩
     obtain ⟨CC,hCC⟩ : ∃ CC,CC = lk.isSome:=⟨_,rfl⟩
     have HV:=Aside0.mk (show (fLots L x.f2.data.toList).getD (.string (⟨#[]⟩ : ByteArray)) = .string VV from by rw [← hp,hVV];unfold fLots;rw [← hlk];cases lk <;> rfl)
     have HC:=Aside0.mk (show (fLots L x.f2.data.toList).isSome = CC from by rw [← hp,hCC];unfold fLots;rw [← hlk];cases lk <;> rfl)
     obtain ⟨gn,hgn⟩ : ∃ gn,gn = decide (p ∈ G):=⟨_,rfl⟩
     have HGN:=Aside0.mk (show (fSet G x.f2.data.toList).getD (.bool false) = .bool gn from by rw [← hp,hgn];unfold fSet;by_cases hh : p ∈ G <;> simp [hh])
     have HF3:=Aside0.mk HF2.out
     by_cases k0 : x.f0 = 0
     ·rw [k0] at hx0 HN
      have HK:=Aside0.mk k0
      by_cases hg : p ∈ G
      ·have e : r = 14:=by rw [← HF2.out,checkF_cons,if_neg (by rw [hn];decide),if_pos k0,if_pos (by rw [← hp];exact hg)]
       subst e
       have hgt : gn = true:=by rw [hgn];exact decide_eq_true hg
       subst hgt
       clear hg hgn hp hlk hVV hCC k0 hn HF HF2 HF3
       go_wp2_with (first | ((with_reducible refine gate_dst (N:=6) rfl ?_);refine box_event ?hg (N:=6) ?hd (cs:=#[.int .i64 0,.string (⟨#[]⟩ : ByteArray),.string (⟨#[]⟩ : ByteArray),.string (⟨#[]⟩ : ByteArray)]) (t:=51) ?hr ?_;(case hd => rfl);(case hg => rfl);(case hr => first | (go_simp;done) | (go_simp;rfl));intro gb hg w6 hbox hb;have BK:=Aside0.mk hbox;have HB6:=Aside0.mk hb;have GB:=Aside0.mk hg;clear hg hbox hb;have hcz0 : w6.cell? ⟨gb,0,none⟩ = some (.int .i64 0):=(blk_cell BK.out 0).trans rfl;have hcz1 : w6.cell? ⟨gb,1,none⟩ = some (.string (⟨#[]⟩ : ByteArray)):=(blk_cell BK.out 1).trans rfl;have hcz2 : w6.cell? ⟨gb,2,none⟩ = some (.string (⟨#[]⟩ : ByteArray)):=(blk_cell BK.out 2).trans rfl;have hcz3 : w6.cell? ⟨gb,3,none⟩ = some (.string (⟨#[]⟩ : ByteArray)):=(blk_cell BK.out 3).trans rfl;have hfz0:=blk_frozen BK.out 0;have hfz1:=blk_frozen BK.out 1;have hfz2:=blk_frozen BK.out 2;have hfz3:=blk_frozen BK.out 3) | (go_at_call 43;(with_reducible refine (recall_names.calls 7 0 x.f1 x.f2 x.f3 _ _ HN.out).mono ?_);rintro e w8 ⟨rfl,hb8⟩;have HE:=Aside0.mk (ev_box GB.out BK.out HB6.out hb8);clear hb8 hcz0 hcz1 hcz2 hcz3 hfz0 hfz1 hfz2 hfz3 hx0 hx1 hx2 hx3 BK HB6;have HL8:=Aside0.mk (HL.out.below (HE.out.1.mono (Nat.le_refl _)));have HG8:=Aside0.mk (HG.out.below HE.out.1);have HB8:=Aside0.mk (HB.out.trans (HE.out.1.mono HB.out.size));clear HL HG HB;have hc0 : w8.cell? ⟨gb,0,none⟩ = some (.int .i64 0):=(blk_cell HE.out.2 0).trans rfl;have hc2 : w8.cell? ⟨gb,2,none⟩ = some (.string x.f2):=(blk_cell HE.out.2 2).trans rfl;have hc3 : w8.cell? ⟨gb,3,none⟩ = some (.string x.f3):=(blk_cell HE.out.2 3).trans rfl) | (at_lookup;refine wpList_lookF_ok rfl _ _ 71 rfl 9 9 Try.underlying9 Try.underlying71 (Try.zeroValue9 _) rfl HL8.out x.f2 rfl hm2 (.string VV) HV.out _ HC.out ?_) | (at_lookup;refine wpList_lookF rfl _ _ 49 rfl 9 4 Try.underlying9 Try.underlying49 (Try.zeroValue4 _) rfl HG8.out x.f2 rfl hm2 (.bool _) HGN.out ?_))
       go_ret
       exact ⟨rfl,HB8.out⟩
      ·have hgt : gn = false:=by rw [hgn];exact decide_eq_false hg
       subst hgt
       by_cases hbad : lk.isSome = true ∧ VV.data.toList ≠ x.f3.data.toList
       ·have e : r = 16:=by
         rw [← HF2.out,checkF_cons,if_neg (by rw [hn];decide),if_pos k0,if_neg (by rw [← hp];exact hg),← hp,← hlk]
         cases hl : lk with
         | none => rw [hl] at hbad;exact absurd hbad.1 (by decide)
         | some s => simp only;rw [if_neg (by rw [hVV,hl] at hbad;exact hbad.2)]
        subst e
        have hC1 : CC = true:=by rw [hCC];exact hbad.1
        subst hC1
        have hne : ¬ VV.toList = x.f3.toList:=by rw [ByteArray.toList_eq,ByteArray.toList_eq];exact hbad.2
        have hne1 : (VV.toList == x.f3.toList) = false:=beq_eq_false_iff_ne.mpr hne
        have hne2 : (VV.toList != x.f3.toList) = true:=bne_iff_ne.mpr hne
        have hne3 : decide (VV.toList = x.f3.toList) = false:=decide_eq_false hne
        clear hg hgn hp hlk hVV hCC k0 hn HF HF2 HF3 hbad
        go_wp2_with (first | ((with_reducible refine gate_dst (N:=6) rfl ?_);refine box_event ?hg (N:=6) ?hd (cs:=#[.int .i64 0,.string (⟨#[]⟩ : ByteArray),.string (⟨#[]⟩ : ByteArray),.string (⟨#[]⟩ : ByteArray)]) (t:=51) ?hr ?_;(case hd => rfl);(case hg => rfl);(case hr => first | (go_simp;done) | (go_simp;rfl));intro gb hg w6 hbox hb;have BK:=Aside0.mk hbox;have HB6:=Aside0.mk hb;have GB:=Aside0.mk hg;clear hg hbox hb;have hcz0 : w6.cell? ⟨gb,0,none⟩ = some (.int .i64 0):=(blk_cell BK.out 0).trans rfl;have hcz1 : w6.cell? ⟨gb,1,none⟩ = some (.string (⟨#[]⟩ : ByteArray)):=(blk_cell BK.out 1).trans rfl;have hcz2 : w6.cell? ⟨gb,2,none⟩ = some (.string (⟨#[]⟩ : ByteArray)):=(blk_cell BK.out 2).trans rfl;have hcz3 : w6.cell? ⟨gb,3,none⟩ = some (.string (⟨#[]⟩ : ByteArray)):=(blk_cell BK.out 3).trans rfl;have hfz0:=blk_frozen BK.out 0;have hfz1:=blk_frozen BK.out 1;have hfz2:=blk_frozen BK.out 2;have hfz3:=blk_frozen BK.out 3) | (go_at_call 43;(with_reducible refine (recall_names.calls 7 0 x.f1 x.f2 x.f3 _ _ HN.out).mono ?_);rintro e w8 ⟨rfl,hb8⟩;have HE:=Aside0.mk (ev_box GB.out BK.out HB6.out hb8);clear hb8 hcz0 hcz1 hcz2 hcz3 hfz0 hfz1 hfz2 hfz3 hx0 hx1 hx2 hx3 BK HB6;have HL8:=Aside0.mk (HL.out.below (HE.out.1.mono (Nat.le_refl _)));have HG8:=Aside0.mk (HG.out.below HE.out.1);have HB8:=Aside0.mk (HB.out.trans (HE.out.1.mono HB.out.size));clear HL HG HB;have hc0 : w8.cell? ⟨gb,0,none⟩ = some (.int .i64 0):=(blk_cell HE.out.2 0).trans rfl;have hc2 : w8.cell? ⟨gb,2,none⟩ = some (.string x.f2):=(blk_cell HE.out.2 2).trans rfl;have hc3 : w8.cell? ⟨gb,3,none⟩ = some (.string x.f3):=(blk_cell HE.out.2 3).trans rfl) | (at_lookup;refine wpList_lookF_ok rfl _ _ 71 rfl 9 9 Try.underlying9 Try.underlying71 (Try.zeroValue9 _) rfl HL8.out x.f2 rfl hm2 (.string VV) HV.out _ HC.out ?_) | (at_lookup;refine wpList_lookF rfl _ _ 49 rfl 9 4 Try.underlying9 Try.underlying49 (Try.zeroValue4 _) rfl HG8.out x.f2 rfl hm2 (.bool _) HGN.out ?_))
        go_ret
        exact ⟨rfl,HB8.out⟩
       ·have HF4:=Aside0.mk (show checkF ((p,x.f3) :: L) G (l0.drop (k + 1)) = r from by
         rw [← HF2.out,checkF_cons,if_neg (by rw [hn];decide),if_pos k0,if_neg (by rw [← hp];exact hg),← hp,← hlk]
         cases hl : lk with
         | none => rfl
         | some s =>
          simp only
          rw [if_pos (Classical.byContradiction fun hh => hbad ⟨by rw [hl];rfl,by rw [hVV,hl];exact hh⟩)])
        have HPP:=Aside0.mk hp
        by_cases hcs : lk.isSome = true
        ·have hC1 : CC = true:=by rw [hCC];exact hcs
         subst hC1
         have heq : VV.toList = x.f3.toList:=by rw [ByteArray.toList_eq,ByteArray.toList_eq];exact Classical.byContradiction fun hh => hbad ⟨hcs,hh⟩
         have hne1 : (VV.toList == x.f3.toList) = true:=beq_iff_eq.mpr heq
         have hne2 : (VV.toList != x.f3.toList) = false:=bne_eq_false_iff_eq.mpr heq
         have hne3 : decide (VV.toList = x.f3.toList) = true:=decide_eq_true heq
         clear hg hgn hp hlk hVV hCC k0 hn HF HF2 HF3 hbad heq hcs
         go_wp2_with (first | ((with_reducible refine gate_dst (N:=6) rfl ?_);refine box_event ?hg (N:=6) ?hd (cs:=#[.int .i64 0,.string (⟨#[]⟩ : ByteArray),.string (⟨#[]⟩ : ByteArray),.string (⟨#[]⟩ : ByteArray)]) (t:=51) ?hr ?_;(case hd => rfl);(case hg => rfl);(case hr => first | (go_simp;done) | (go_simp;rfl));intro gb hg w6 hbox hb;have BK:=Aside0.mk hbox;have HB6:=Aside0.mk hb;have GB:=Aside0.mk hg;clear hg hbox hb;have hcz0 : w6.cell? ⟨gb,0,none⟩ = some (.int .i64 0):=(blk_cell BK.out 0).trans rfl;have hcz1 : w6.cell? ⟨gb,1,none⟩ = some (.string (⟨#[]⟩ : ByteArray)):=(blk_cell BK.out 1).trans rfl;have hcz2 : w6.cell? ⟨gb,2,none⟩ = some (.string (⟨#[]⟩ : ByteArray)):=(blk_cell BK.out 2).trans rfl;have hcz3 : w6.cell? ⟨gb,3,none⟩ = some (.string (⟨#[]⟩ : ByteArray)):=(blk_cell BK.out 3).trans rfl;have hfz0:=blk_frozen BK.out 0;have hfz1:=blk_frozen BK.out 1;have hfz2:=blk_frozen BK.out 2;have hfz3:=blk_frozen BK.out 3) | (go_at_call 43;(with_reducible refine (recall_names.calls 7 0 x.f1 x.f2 x.f3 _ _ HN.out).mono ?_);rintro e w8 ⟨rfl,hb8⟩;have HE:=Aside0.mk (ev_box GB.out BK.out HB6.out hb8);clear hb8 hcz0 hcz1 hcz2 hcz3 hfz0 hfz1 hfz2 hfz3 hx0 hx1 hx2 hx3 BK HB6;have HL8:=Aside0.mk (HL.out.below (HE.out.1.mono (Nat.le_refl _)));have HG8:=Aside0.mk (HG.out.below HE.out.1);have HB8:=Aside0.mk (HB.out.trans (HE.out.1.mono HB.out.size));clear HL HG HB;have hc0 : w8.cell? ⟨gb,0,none⟩ = some (.int .i64 0):=(blk_cell HE.out.2 0).trans rfl;have hc2 : w8.cell? ⟨gb,2,none⟩ = some (.string x.f2):=(blk_cell HE.out.2 2).trans rfl;have hc3 : w8.cell? ⟨gb,3,none⟩ = some (.string x.f3):=(blk_cell HE.out.2 3).trans rfl) | (at_lookup;refine wpList_lookF_ok rfl _ _ 71 rfl 9 9 Try.underlying9 Try.underlying71 (Try.zeroValue9 _) rfl HL8.out x.f2 rfl hm2 (.string VV) HV.out _ HC.out ?_) | (at_lookup;refine wpList_lookF rfl _ _ 49 rfl 9 4 Try.underlying9 Try.underlying49 (Try.zeroValue4 _) rfl HG8.out x.f2 rfl hm2 (.bool _) HGN.out ?_) | (at_mapUpdate;refine wpList_storeF rfl _ _ _ 71 rfl 9 9 Try.underlying9 Try.underlying71 rfl HL8.out (by unfold maxLen;omega) x.f2 rfl hm2 (.string x.f3) rfl ?_;intro w9 hs9 hg9;have HS9:=Aside0.mk hs9;have HG9:=Aside0.mk hg9;clear hs9 hg9))
         go_roundw
         case rel => exact ⟨k + 1,_,_,by omega,by go_num,⟨HB8.out.grown HG9.out HB8.out.size (fun k e => by cases e;exact Nat.le_refl _)⟩,HF4,⟨by rw [HPP.out,← fLots_put];exact HS9.out⟩,⟨(HG8.out.kept HG9.out (by simp)).mono (Nat.le_succ _)⟩⟩
         case measure => (simp [intOf] <;> omega)
        ·have hC1 : CC = false:=by rw [hCC];exact Bool.eq_false_iff.mpr hcs
         subst hC1
         clear hg hgn hp hlk hVV hCC k0 hn HF HF2 HF3 hbad hcs
         go_wp2_with (first | ((with_reducible refine gate_dst (N:=6) rfl ?_);refine box_event ?hg (N:=6) ?hd (cs:=#[.int .i64 0,.string (⟨#[]⟩ : ByteArray),.string (⟨#[]⟩ : ByteArray),.string (⟨#[]⟩ : ByteArray)]) (t:=51) ?hr ?_;(case hd => rfl);(case hg => rfl);(case hr => first | (go_simp;done) | (go_simp;rfl));intro gb hg w6 hbox hb;have BK:=Aside0.mk hbox;have HB6:=Aside0.mk hb;have GB:=Aside0.mk hg;clear hg hbox hb;have hcz0 : w6.cell? ⟨gb,0,none⟩ = some (.int .i64 0):=(blk_cell BK.out 0).trans rfl;have hcz1 : w6.cell? ⟨gb,1,none⟩ = some (.string (⟨#[]⟩ : ByteArray)):=(blk_cell BK.out 1).trans rfl;have hcz2 : w6.cell? ⟨gb,2,none⟩ = some (.string (⟨#[]⟩ : ByteArray)):=(blk_cell BK.out 2).trans rfl;have hcz3 : w6.cell? ⟨gb,3,none⟩ = some (.string (⟨#[]⟩ : ByteArray)):=(blk_cell BK.out 3).trans rfl;have hfz0:=blk_frozen BK.out 0;have hfz1:=blk_frozen BK.out 1;have hfz2:=blk_frozen BK.out 2;have hfz3:=blk_frozen BK.out 3) | (go_at_call 43;(with_reducible refine (recall_names.calls 7 0 x.f1 x.f2 x.f3 _ _ HN.out).mono ?_);rintro e w8 ⟨rfl,hb8⟩;have HE:=Aside0.mk (ev_box GB.out BK.out HB6.out hb8);clear hb8 hcz0 hcz1 hcz2 hcz3 hfz0 hfz1 hfz2 hfz3 hx0 hx1 hx2 hx3 BK HB6;have HL8:=Aside0.mk (HL.out.below (HE.out.1.mono (Nat.le_refl _)));have HG8:=Aside0.mk (HG.out.below HE.out.1);have HB8:=Aside0.mk (HB.out.trans (HE.out.1.mono HB.out.size));clear HL HG HB;have hc0 : w8.cell? ⟨gb,0,none⟩ = some (.int .i64 0):=(blk_cell HE.out.2 0).trans rfl;have hc2 : w8.cell? ⟨gb,2,none⟩ = some (.string x.f2):=(blk_cell HE.out.2 2).trans rfl;have hc3 : w8.cell? ⟨gb,3,none⟩ = some (.string x.f3):=(blk_cell HE.out.2 3).trans rfl) | (at_lookup;refine wpList_lookF_ok rfl _ _ 71 rfl 9 9 Try.underlying9 Try.underlying71 (Try.zeroValue9 _) rfl HL8.out x.f2 rfl hm2 (.string VV) HV.out _ HC.out ?_) | (at_lookup;refine wpList_lookF rfl _ _ 49 rfl 9 4 Try.underlying9 Try.underlying49 (Try.zeroValue4 _) rfl HG8.out x.f2 rfl hm2 (.bool _) HGN.out ?_) | (at_mapUpdate;refine wpList_storeF rfl _ _ _ 71 rfl 9 9 Try.underlying9 Try.underlying71 rfl HL8.out (by unfold maxLen;omega) x.f2 rfl hm2 (.string x.f3) rfl ?_;intro w9 hs9 hg9;have HS9:=Aside0.mk hs9;have HG9:=Aside0.mk hg9;clear hs9 hg9))
         go_roundw
         case rel => exact ⟨k + 1,_,_,by omega,by go_num,⟨HB8.out.grown HG9.out HB8.out.size (fun k e => by cases e;exact Nat.le_refl _)⟩,HF4,⟨by rw [HPP.out,← fLots_put];exact HS9.out⟩,⟨(HG8.out.kept HG9.out (by simp)).mono (Nat.le_succ _)⟩⟩
         case measure => (simp [intOf] <;> omega)
     ·have k0b : (x.f0 == 0) = false:=beq_eq_false_iff_ne.mpr k0
      by_cases k3 : x.f0 = 3
      ·rw [k3] at hx0 HN
       by_cases hnn : lk = none
       ·have e : r = 6:=by rw [← HF2.out,checkF_cons,if_neg (by rw [hn];decide),if_neg k0,if_pos k3,if_pos (by rw [← hp,← hlk];exact hnn)]
        subst e
        have hC1 : CC = false:=by rw [hCC,hnn];rfl
        subst hC1
        clear hgn hp hlk hVV hCC k0 k3 k0b hn HF HF2 HF3 hnn
        go_wp2_with (first | ((with_reducible refine gate_dst (N:=6) rfl ?_);refine box_event ?hg (N:=6) ?hd (cs:=#[.int .i64 0,.string (⟨#[]⟩ : ByteArray),.string (⟨#[]⟩ : ByteArray),.string (⟨#[]⟩ : ByteArray)]) (t:=51) ?hr ?_;(case hd => rfl);(case hg => rfl);(case hr => first | (go_simp;done) | (go_simp;rfl));intro gb hg w6 hbox hb;have BK:=Aside0.mk hbox;have HB6:=Aside0.mk hb;have GB:=Aside0.mk hg;clear hg hbox hb;have hcz0 : w6.cell? ⟨gb,0,none⟩ = some (.int .i64 0):=(blk_cell BK.out 0).trans rfl;have hcz1 : w6.cell? ⟨gb,1,none⟩ = some (.string (⟨#[]⟩ : ByteArray)):=(blk_cell BK.out 1).trans rfl;have hcz2 : w6.cell? ⟨gb,2,none⟩ = some (.string (⟨#[]⟩ : ByteArray)):=(blk_cell BK.out 2).trans rfl;have hcz3 : w6.cell? ⟨gb,3,none⟩ = some (.string (⟨#[]⟩ : ByteArray)):=(blk_cell BK.out 3).trans rfl;have hfz0:=blk_frozen BK.out 0;have hfz1:=blk_frozen BK.out 1;have hfz2:=blk_frozen BK.out 2;have hfz3:=blk_frozen BK.out 3) | (go_at_call 43;(with_reducible refine (recall_names.calls 7 3 x.f1 x.f2 x.f3 _ _ HN.out).mono ?_);rintro e w8 ⟨rfl,hb8⟩;have HE:=Aside0.mk (ev_box GB.out BK.out HB6.out hb8);clear hb8 hcz0 hcz1 hcz2 hcz3 hfz0 hfz1 hfz2 hfz3 hx0 hx1 hx2 hx3 BK HB6;have HL8:=Aside0.mk (HL.out.below (HE.out.1.mono (Nat.le_refl _)));have HG8:=Aside0.mk (HG.out.below HE.out.1);have HB8:=Aside0.mk (HB.out.trans (HE.out.1.mono HB.out.size));clear HL HG HB;have hc0 : w8.cell? ⟨gb,0,none⟩ = some (.int .i64 3):=(blk_cell HE.out.2 0).trans rfl;have hc2 : w8.cell? ⟨gb,2,none⟩ = some (.string x.f2):=(blk_cell HE.out.2 2).trans rfl;have hc3 : w8.cell? ⟨gb,3,none⟩ = some (.string x.f3):=(blk_cell HE.out.2 3).trans rfl) | (at_lookup;refine wpList_lookF_ok rfl _ _ 71 rfl 9 9 Try.underlying9 Try.underlying71 (Try.zeroValue9 _) rfl HL8.out x.f2 rfl hm2 (.string VV) HV.out _ HC.out ?_) | (at_lookup;refine wpList_lookF rfl _ _ 49 rfl 9 4 Try.underlying9 Try.underlying49 (Try.zeroValue4 _) rfl HG8.out x.f2 rfl hm2 (.bool _) HGN.out ?_))
        go_ret
        exact ⟨rfl,HB8.out⟩
       ·have hC1 : CC = true:=by rw [hCC];cases hl : lk with | none => exact absurd hl hnn | some _ => rfl
        subst hC1
        by_cases hg : p ∈ G
        ·have e : r = 14:=by rw [← HF2.out,checkF_cons,if_neg (by rw [hn];decide),if_neg k0,if_pos k3,if_neg (by rw [← hp,← hlk];exact hnn),if_pos (by rw [← hp];exact hg)]
         subst e
         have hgt : gn = true:=by rw [hgn];exact decide_eq_true hg
         subst hgt
         clear hg hgn hp hlk hVV hCC k0 k3 k0b hn HF HF2 HF3 hnn
         go_wp2_with (first | ((with_reducible refine gate_dst (N:=6) rfl ?_);refine box_event ?hg (N:=6) ?hd (cs:=#[.int .i64 0,.string (⟨#[]⟩ : ByteArray),.string (⟨#[]⟩ : ByteArray),.string (⟨#[]⟩ : ByteArray)]) (t:=51) ?hr ?_;(case hd => rfl);(case hg => rfl);(case hr => first | (go_simp;done) | (go_simp;rfl));intro gb hg w6 hbox hb;have BK:=Aside0.mk hbox;have HB6:=Aside0.mk hb;have GB:=Aside0.mk hg;clear hg hbox hb;have hcz0 : w6.cell? ⟨gb,0,none⟩ = some (.int .i64 0):=(blk_cell BK.out 0).trans rfl;have hcz1 : w6.cell? ⟨gb,1,none⟩ = some (.string (⟨#[]⟩ : ByteArray)):=(blk_cell BK.out 1).trans rfl;have hcz2 : w6.cell? ⟨gb,2,none⟩ = some (.string (⟨#[]⟩ : ByteArray)):=(blk_cell BK.out 2).trans rfl;have hcz3 : w6.cell? ⟨gb,3,none⟩ = some (.string (⟨#[]⟩ : ByteArray)):=(blk_cell BK.out 3).trans rfl;have hfz0:=blk_frozen BK.out 0;have hfz1:=blk_frozen BK.out 1;have hfz2:=blk_frozen BK.out 2;have hfz3:=blk_frozen BK.out 3) | (go_at_call 43;(with_reducible refine (recall_names.calls 7 3 x.f1 x.f2 x.f3 _ _ HN.out).mono ?_);rintro e w8 ⟨rfl,hb8⟩;have HE:=Aside0.mk (ev_box GB.out BK.out HB6.out hb8);clear hb8 hcz0 hcz1 hcz2 hcz3 hfz0 hfz1 hfz2 hfz3 hx0 hx1 hx2 hx3 BK HB6;have HL8:=Aside0.mk (HL.out.below (HE.out.1.mono (Nat.le_refl _)));have HG8:=Aside0.mk (HG.out.below HE.out.1);have HB8:=Aside0.mk (HB.out.trans (HE.out.1.mono HB.out.size));clear HL HG HB;have hc0 : w8.cell? ⟨gb,0,none⟩ = some (.int .i64 3):=(blk_cell HE.out.2 0).trans rfl;have hc2 : w8.cell? ⟨gb,2,none⟩ = some (.string x.f2):=(blk_cell HE.out.2 2).trans rfl;have hc3 : w8.cell? ⟨gb,3,none⟩ = some (.string x.f3):=(blk_cell HE.out.2 3).trans rfl) | (at_lookup;refine wpList_lookF_ok rfl _ _ 71 rfl 9 9 Try.underlying9 Try.underlying71 (Try.zeroValue9 _) rfl HL8.out x.f2 rfl hm2 (.string VV) HV.out _ HC.out ?_) | (at_lookup;refine wpList_lookF rfl _ _ 49 rfl 9 4 Try.underlying9 Try.underlying49 (Try.zeroValue4 _) rfl HG8.out x.f2 rfl hm2 (.bool _) HGN.out ?_))
         go_ret
         exact ⟨rfl,HB8.out⟩
        ·have HF4:=Aside0.mk (show checkF L (p :: G) (l0.drop (k + 1)) = r from by rw [← HF2.out,checkF_cons,if_neg (by rw [hn];decide),if_neg k0,if_pos k3,if_neg (by rw [← hp,← hlk];exact hnn),if_neg (by rw [← hp];exact hg),← hp])
         have hgt : gn = false:=by rw [hgn];exact decide_eq_false hg
         subst hgt
         have HPP:=Aside0.mk hp
         clear hg hgn hp hlk hVV hCC k0 k3 k0b hn HF HF2 HF3 hnn
         go_wp2_with (first | ((with_reducible refine gate_dst (N:=6) rfl ?_);refine box_event ?hg (N:=6) ?hd (cs:=#[.int .i64 0,.string (⟨#[]⟩ : ByteArray),.string (⟨#[]⟩ : ByteArray),.string (⟨#[]⟩ : ByteArray)]) (t:=51) ?hr ?_;(case hd => rfl);(case hg => rfl);(case hr => first | (go_simp;done) | (go_simp;rfl));intro gb hg w6 hbox hb;have BK:=Aside0.mk hbox;have HB6:=Aside0.mk hb;have GB:=Aside0.mk hg;clear hg hbox hb;have hcz0 : w6.cell? ⟨gb,0,none⟩ = some (.int .i64 0):=(blk_cell BK.out 0).trans rfl;have hcz1 : w6.cell? ⟨gb,1,none⟩ = some (.string (⟨#[]⟩ : ByteArray)):=(blk_cell BK.out 1).trans rfl;have hcz2 : w6.cell? ⟨gb,2,none⟩ = some (.string (⟨#[]⟩ : ByteArray)):=(blk_cell BK.out 2).trans rfl;have hcz3 : w6.cell? ⟨gb,3,none⟩ = some (.string (⟨#[]⟩ : ByteArray)):=(blk_cell BK.out 3).trans rfl;have hfz0:=blk_frozen BK.out 0;have hfz1:=blk_frozen BK.out 1;have hfz2:=blk_frozen BK.out 2;have hfz3:=blk_frozen BK.out 3) | (go_at_call 43;(with_reducible refine (recall_names.calls 7 3 x.f1 x.f2 x.f3 _ _ HN.out).mono ?_);rintro e w8 ⟨rfl,hb8⟩;have HE:=Aside0.mk (ev_box GB.out BK.out HB6.out hb8);clear hb8 hcz0 hcz1 hcz2 hcz3 hfz0 hfz1 hfz2 hfz3 hx0 hx1 hx2 hx3 BK HB6;have HL8:=Aside0.mk (HL.out.below (HE.out.1.mono (Nat.le_refl _)));have HG8:=Aside0.mk (HG.out.below HE.out.1);have HB8:=Aside0.mk (HB.out.trans (HE.out.1.mono HB.out.size));clear HL HG HB;have hc0 : w8.cell? ⟨gb,0,none⟩ = some (.int .i64 3):=(blk_cell HE.out.2 0).trans rfl;have hc2 : w8.cell? ⟨gb,2,none⟩ = some (.string x.f2):=(blk_cell HE.out.2 2).trans rfl;have hc3 : w8.cell? ⟨gb,3,none⟩ = some (.string x.f3):=(blk_cell HE.out.2 3).trans rfl) | (at_lookup;refine wpList_lookF_ok rfl _ _ 71 rfl 9 9 Try.underlying9 Try.underlying71 (Try.zeroValue9 _) rfl HL8.out x.f2 rfl hm2 (.string VV) HV.out _ HC.out ?_) | (at_lookup;refine wpList_lookF rfl _ _ 49 rfl 9 4 Try.underlying9 Try.underlying49 (Try.zeroValue4 _) rfl HG8.out x.f2 rfl hm2 (.bool _) HGN.out ?_) | (at_mapUpdate;refine wpList_storeF rfl _ _ _ 49 rfl 9 4 Try.underlying9 Try.underlying49 rfl HG8.out (by unfold maxLen;omega) x.f2 rfl hm2 (.bool true) rfl ?_;intro w9 hs9 hg9;have HS9:=Aside0.mk hs9;have HG9:=Aside0.mk hg9;clear hs9 hg9))
         go_roundw
         case rel => exact ⟨k + 1,_,_,by omega,by go_num,⟨HB8.out.grown HG9.out HB8.out.size (fun k e => by cases e;exact Nat.le_succ _)⟩,HF4,⟨(HL8.out.kept HG9.out (by simp)).mono (Nat.le_succ _)⟩,⟨by rw [HPP.out,← fSet_put];exact HS9.out⟩⟩
         case measure => (simp [intOf] <;> omega)
      ·have k3b : (x.f0 == 3) = false:=beq_eq_false_iff_ne.mpr k3
       have HF4:=Aside0.mk (show checkF L G (l0.drop (k + 1)) = r from by rw [← HF2.out,checkF_cons,if_neg (by rw [hn];decide),if_neg k0,if_neg k3])
       clear hgn hp hlk hVV hCC k0 k3 hn HF HF2 HF3
       go_wp2_with (first | ((with_reducible refine gate_dst (N:=6) rfl ?_);refine box_event ?hg (N:=6) ?hd (cs:=#[.int .i64 0,.string (⟨#[]⟩ : ByteArray),.string (⟨#[]⟩ : ByteArray),.string (⟨#[]⟩ : ByteArray)]) (t:=51) ?hr ?_;(case hd => rfl);(case hg => rfl);(case hr => first | (go_simp;done) | (go_simp;rfl));intro gb hg w6 hbox hb;have BK:=Aside0.mk hbox;have HB6:=Aside0.mk hb;have GB:=Aside0.mk hg;clear hg hbox hb;have hcz0 : w6.cell? ⟨gb,0,none⟩ = some (.int .i64 0):=(blk_cell BK.out 0).trans rfl;have hcz1 : w6.cell? ⟨gb,1,none⟩ = some (.string (⟨#[]⟩ : ByteArray)):=(blk_cell BK.out 1).trans rfl;have hcz2 : w6.cell? ⟨gb,2,none⟩ = some (.string (⟨#[]⟩ : ByteArray)):=(blk_cell BK.out 2).trans rfl;have hcz3 : w6.cell? ⟨gb,3,none⟩ = some (.string (⟨#[]⟩ : ByteArray)):=(blk_cell BK.out 3).trans rfl;have hfz0:=blk_frozen BK.out 0;have hfz1:=blk_frozen BK.out 1;have hfz2:=blk_frozen BK.out 2;have hfz3:=blk_frozen BK.out 3) | (go_at_call 43;(with_reducible refine (recall_names.calls 7 x.f0 x.f1 x.f2 x.f3 _ _ HN.out).mono ?_);rintro e w8 ⟨rfl,hb8⟩;have HE:=Aside0.mk (ev_box GB.out BK.out HB6.out hb8);clear hb8 hcz0 hcz1 hcz2 hcz3 hfz0 hfz1 hfz2 hfz3 hx0 hx1 hx2 hx3 BK HB6;have HL8:=Aside0.mk (HL.out.below (HE.out.1.mono (Nat.le_refl _)));have HG8:=Aside0.mk (HG.out.below HE.out.1);have HB8:=Aside0.mk (HB.out.trans (HE.out.1.mono HB.out.size));clear HL HG HB;have hc0 : w8.cell? ⟨gb,0,none⟩ = some (.int .i64 x.f0):=(blk_cell HE.out.2 0).trans rfl;have hc2 : w8.cell? ⟨gb,2,none⟩ = some (.string x.f2):=(blk_cell HE.out.2 2).trans rfl;have hc3 : w8.cell? ⟨gb,3,none⟩ = some (.string x.f3):=(blk_cell HE.out.2 3).trans rfl) | (at_lookup;refine wpList_lookF_ok rfl _ _ 71 rfl 9 9 Try.underlying9 Try.underlying71 (Try.zeroValue9 _) rfl HL8.out x.f2 rfl hm2 (.string VV) HV.out _ HC.out ?_) | (at_lookup;refine wpList_lookF rfl _ _ 49 rfl 9 4 Try.underlying9 Try.underlying49 (Try.zeroValue4 _) rfl HG8.out x.f2 rfl hm2 (.bool _) HGN.out ?_))
       go_roundw
       case rel => exact ⟨k + 1,_,_,by omega,by go_num,HB8,HF4,⟨HL8.out.mono (Nat.le_succ _)⟩,⟨HG8.out.mono (Nat.le_succ _)⟩⟩
       case measure => (simp [intOf] <;> omega)
    ·have e : r = namesX x:=by rw [← HF2.out,checkF_cons,if_pos hn]
     subst e
     have hn1 : (namesX x != 0) = true:=bne_iff_ne.mpr hn
     have hn2 : (namesX x == 0) = false:=beq_eq_false_iff_ne.mpr hn
     go_wp2_with (first | ((with_reducible refine gate_dst (N:=6) rfl ?_);refine box_event ?hg (N:=6) ?hd (cs:=#[.int .i64 0,.string (⟨#[]⟩ : ByteArray),.string (⟨#[]⟩ : ByteArray),.string (⟨#[]⟩ : ByteArray)]) (t:=51) ?hr ?_;(case hd => rfl);(case hg => rfl);(case hr => first | (go_simp;done) | (go_simp;rfl));intro gb hg w6 hbox hb;have BK:=Aside0.mk hbox;have HB6:=Aside0.mk hb;have GB:=Aside0.mk hg;clear hg hbox hb;have hcz0 : w6.cell? ⟨gb,0,none⟩ = some (.int .i64 0):=(blk_cell BK.out 0).trans rfl;have hcz1 : w6.cell? ⟨gb,1,none⟩ = some (.string (⟨#[]⟩ : ByteArray)):=(blk_cell BK.out 1).trans rfl;have hcz2 : w6.cell? ⟨gb,2,none⟩ = some (.string (⟨#[]⟩ : ByteArray)):=(blk_cell BK.out 2).trans rfl;have hcz3 : w6.cell? ⟨gb,3,none⟩ = some (.string (⟨#[]⟩ : ByteArray)):=(blk_cell BK.out 3).trans rfl;have hfz0:=blk_frozen BK.out 0;have hfz1:=blk_frozen BK.out 1;have hfz2:=blk_frozen BK.out 2;have hfz3:=blk_frozen BK.out 3) | (go_at_call 43;(with_reducible refine (recall_names.calls 7 x.f0 x.f1 x.f2 x.f3 _ _ HN.out).mono ?_);rintro e w8 ⟨rfl,hb8⟩;have HE:=Aside0.mk (ev_box GB.out BK.out HB6.out hb8);clear hb8 hcz0 hcz1 hcz2 hcz3 hfz0 hfz1 hfz2 hfz3 hx0 hx1 hx2 hx3 BK HB6;have HL8:=Aside0.mk (HL.out.below (HE.out.1.mono (Nat.le_refl _)));have HG8:=Aside0.mk (HG.out.below HE.out.1);have HB8:=Aside0.mk (HB.out.trans (HE.out.1.mono HB.out.size));clear HL HG HB;have hc0 : w8.cell? ⟨gb,0,none⟩ = some (.int .i64 x.f0):=(blk_cell HE.out.2 0).trans rfl;have hc2 : w8.cell? ⟨gb,2,none⟩ = some (.string x.f2):=(blk_cell HE.out.2 2).trans rfl;have hc3 : w8.cell? ⟨gb,3,none⟩ = some (.string x.f3):=(blk_cell HE.out.2 3).trans rfl))
     go_ret
     exact ⟨rfl,HB8.out⟩
   ·obtain rfl : k = l0.length:=by omega
    have e : r = 0:=by rw [← HF.out,List.drop_eq_nil_of_le (Nat.le_refl _)];rfl
    subst e
    go_wp2
    go_ret
    exact ⟨rfl,HB.out⟩
end Go.Proofs.Ytnmmdeonkpfccaa.Pr
set_option linter.unusedVariables false
namespace Go.Proofs.Ytnmmdeonkpfccaa.Pr
open Go.RowKit Go.Shelf Go.Proofs.YtnmmdeonkpfccaaW.PrintWords Go.Proofs.YtnmmdeonkpfccaaW.PrintLast Go.Proofs.YtnmmdeonkpfccaaW.PrintMore
open Go.Proofs.Ytnmmdeonkpfccaa.Rg
attribute [local go_sem] Oper.semAt_some
def statesL (l : List S51) : List Int:=(List.range l.length).map fun i => (chkA l (l.length - 1 - i)).2
def statesV (l : List S51) : List Int × Int:=if checkV l ≠ 0 then ([],checkV l) else (statesL l,0)
def recall_States.f (l : List S51) : Option (List Int × Int):=some (statesV l)
theorem slice_lt {w : World} {A0 : Option Addr} {l : List S51} (h : Kd.C k51 w A0 l.length l) : ∀ ad,A0 = some ad → l ≠ [] → ad.block < w.heap.size:=by
 rintro ad rfl hne
 have hp : 0 < l.length:=by cases l with | nil => exact absurd rfl hne | cons _ _ => simp
 obtain ⟨ad',e,h0,_⟩:=at_T51 h 0 (Int.le_refl _) (by omega)
 cases e
 have:=World.block_lt_of_cell? w _ h0
 unfold Addr.add at this
 simpa using this
theorem check_zero {l : List S51} (h : checkV l = 0) : l.length ≤ 4096 ∧ ∀ x ∈ l,namesX x = 0:=by
 unfold checkV at h
 split at h
 ·cases h
 ·refine ⟨by omega,?_⟩
  have : ∀ (l : List S51) L G,checkF L G l = 0 → ∀ x ∈ l,namesX x = 0:=by
   intro l
   induction l with
   | nil => intro L G _ x hx;cases hx
   | cons y r ih =>
    intro L G h x hx
    rw [checkF_cons] at h
    by_cases hn : namesX y = 0
    ·rw [if_neg (by rw [hn];decide)] at h
     rcases List.mem_cons.1 hx with rfl | hx
     ·exact hn
     ·split at h
      ·split at h
       ·cases h
       ·split at h
        ·exact ih _ _ h x hx
        ·split at h
         ·exact ih _ _ h x hx
         ·cases h
      ·split at h
       ·split at h
        ·cases h
        ·split at h
         ·cases h
         ·exact ih _ _ h x hx
       ·exact ih _ _ h x hx
    ·rw [if_pos hn] at h;exact absurd h hn
  exact this l _ _ h
theorem made_ints (n : Nat) : madeCells #[Value.int .i64 0] n = ((List.replicate n (0 : Int)).map (Value.int .i64)).toArray:=by
 apply Array.ext
 ·simp [madeCells]
 ·intro i h1 h2
  simp [madeCells,Nat.mod_one]
theorem set_ints (xs : List Int) (i : Nat) (v : Int) : ((xs.map (Value.int .i64)).toArray).setIfInBounds i (.int .i64 v) = ((xs.set i v).map (Value.int .i64)).toArray:=by
 simp [List.map_set]
theorem R_of_blk {w0 W : World} {G : Nat} {xs : List Int} (h : W.heap[G]? = some (.cells ((xs.map (Value.int .i64)).toArray) 3)) (hG : w0.heap.size ≤ G) (hn : xs.length ≤ 4096) :
  Kd.R (Kd.int .i64) 3 W w0.heap.size (fun _ => True) (.slice (some ⟨G,0,none⟩) xs.length xs.length) xs:=by
 refine Kd.R_of_own (enc:=Value.int .i64) (h1:=fun _ => rfl) ?_ (fun _ _ => trivial)
 refine ⟨by simp [encs],.inr ⟨G,xs.length,_,rfl,hG,h,Nat.le_refl _,by unfold maxLen;omega,by simp,by simp [encs,List.take_of_length_le]⟩⟩
theorem statK_inj {l : List S51} {j k : Nat} (h : statK l j = statK l k) : j = k:=by have:=congrArg List.length h;simpa [statK] using this
theorem statK_next {l : List S51} {k k' : Nat} {pre : List (Int × Int × Int)} {x : Int × Int × Int} (hp : pre = statK l k) (h : pre ++ [x] = statK l k') : k' = k + 1 ∧ x = ((l.length : Int) - 1 - k,chkA l k):=by
 have hkk : k' = k + 1:=by
  have:=congrArg List.length h
  rw [hp,List.length_append] at this
  simp [statK] at this
  exact this.symm
 subst hkk
 rw [hp,statK_succ] at h
 have:=List.append_cancel_left h
 simp only [List.cons.injEq,and_true] at this
 exact ⟨rfl,this⟩
set_option maxRecDepth 100000 in
set_option maxHeartbeats 1000000 in
theorem States_ok (A0 : Option Addr) (c0 : Nat) (l : List (S51)) (w : World) (hr0 : Kd.C k51 w A0 l.length l) (hc0 : l.length ≤ c0) (hck : checkV l = 0) :
  Calls Try.prog 11 #[.slice A0 l.length c0] w fun e w' => ∃ v,e = .returned (.tuple #[v,.int .i64 0]) ∧ Kd.R (Kd.int .i64) 3 w' w.heap.size (fun _ => True) v (statesL l) ∧ Below w.heap.size w w':=by
 obtain ⟨hl,hnx⟩:=check_zero hck
 have hg : ∀ x ∈ l,x.f1.size ≤ 24:=fun x hx => (namesX_zero (hnx x hx)).2.1
 have hlt:=slice_lt hr0
 have HCK:=Aside0.mk (recall_Check.calls A0 c0 l 0 w hr0 hc0 (congrArg some hck))
 have HR0:=Aside0.mk hr0
 have hmk:=print_make_int (P:=Try.prog) 25 3 (.int .i64 0) 8 Try.underlying25 info3 rfl (by decide) (l.length : Int) (by omega) (by omega)
 have hf16 : Fence.wide.fn 16:=trivial
 have hf38 : Fence.wide.fn 38:=trivial
 have HG:=Aside0.mk hg
 have HLT:=Aside0.mk hlt
 clear hr0 hnx hg hlt hck
 refine (callsIn_wide (n:=3)).1 ?_
 refine callsIn_of_wp_marks Try.func11 rfl trivial ?_ rfl
 simp only [Try.ntmps11,List.size_toArray,List.length_cons,List.length_nil,Nat.reduceAdd,Nat.reduceSub,Array.replicate_succ,Array.replicate_zero,List.push_toArray,List.append_toArray,List.nil_append,List.cons_append]
 gi_wp2_with (first | ((first | refine ⟨fun h => absurd h (by decide),?_⟩ | skip);gi_at_call 16;refine (callsIn_wide.2 HCK.out).mono ?_;rintro e w1 ⟨rfl,hb1⟩;have HB1:=Aside0.mk hb1;clear hb1) | ((first | refine ⟨fun h => absurd h (by decide),?_⟩ | skip);gi_at_call 38;refine (states_in _ A0 c0 l.length _).mono ?_;rintro e w' ⟨rfl,rfl⟩))
 obtain ⟨Wl,hWl⟩ : ∃ Wl,(((w1.alloc (Obj.cells (madeCells #[Value.int .i64 0] l.length) 3)).alloc (Obj.cells #[Value.slice (some ⟨w1.heap.size,0,none⟩) l.length l.length] 25)).alloc (Obj.cells #[Value.slice A0 l.length c0] 22)) = Wl:=⟨_,rfl⟩
 have hs3 : Wl.heap.size = w1.heap.size + 3:=by rw [← hWl];simp
 have hb3 : Below w1.heap.size w1 Wl:=by rw [← hWl];exact (((Below.refl _ w1).alloc (Nat.le_refl _) _).alloc (by simp) _).alloc (by simp;omega) _
 have hG0 : Wl.heap[w1.heap.size]? = some (.cells ((List.replicate l.length (0 : Int)).map (Value.int .i64)).toArray 3):=by rw [← hWl,← made_ints];exact blk_alloc (blk_alloc (blk_new _ _) _) _
 have hO0 : Wl.heap[w1.heap.size + 1]? = some (.cells #[.slice (some ⟨w1.heap.size,0,none⟩) l.length l.length] 25):=by
  rw [← hWl]
  have:=blk_alloc (blk_new (w1.alloc (Obj.cells (madeCells #[Value.int .i64 0] l.length) 3)) (Obj.cells #[Value.slice (some ⟨w1.heap.size,0,none⟩) l.length l.length] 25)) (Obj.cells #[Value.slice A0 l.length c0] 22)
  rwa [World.size_alloc] at this
 have hL0 : Wl.cell? ⟨w1.heap.size + 2,0,none⟩ = some (.slice A0 l.length c0):=by
  rw [← hWl]
  have:=blk_new ((w1.alloc (Obj.cells (madeCells #[Value.int .i64 0] l.length) 3)).alloc (Obj.cells #[Value.slice (some ⟨w1.heap.size,0,none⟩) l.length l.length] 25)) (Obj.cells #[Value.slice A0 l.length c0] 22)
  rw [World.size_alloc,World.size_alloc] at this
  exact (blk_cell this 0).trans rfl
 rw [hWl]
 clear hWl hf16 hf38 hmk
 have hsz1:=HB1.out.size
 have hbw : Below w.heap.size w Wl:=HB1.out.trans (hb3.mono hsz1)
 refine rangeB2 (gf:=64) (lb:=#[.pointer (some ⟨w1.heap.size + 2,0,none⟩)]) rfl (enters_of Try.func64 (by kernel_rfl) rfl) (fun i => i = w1.heap.size) (fun i hi => by omega)
  (states_seq _ A0 c0 (w1.heap.size + 2) l Wl hl HG.out (Kd.C_below HR0.out hbw) (fun ad ha hne h => by have:=HLT.out ad ha hne;omega) (fun ad ha hne => by have:=HLT.out ad ha hne;omega) hL0 (fun h => by omega)) (fun _ => rfl)
  (fun pre Wr => ∃ (k : Nat) (out : List Int),k ≤ l.length ∧ pre = statK l k ∧ out.length = l.length ∧ (∀ j,l.length - k ≤ j → j < l.length → out[j]? = some (chkA l (l.length - 1 - j)).2) ∧ Wr.heap[w1.heap.size]? = some (.cells (out.map (Value.int .i64)).toArray 3) ∧ Wr.heap[w1.heap.size + 1]? = some (.cells #[.slice (some ⟨w1.heap.size,0,none⟩) l.length l.length] 25) ∧ Below w.heap.size w Wr)
  ?hI ⟨0,_,by omega,rfl,by simp,fun j h1 h2 => by omega,hG0,hO0,hbw⟩ ?round ?done
 case hI =>
  rintro pre Wr Wr' ⟨k,out,hk,hp,ho,hv,hg,hb,hB⟩ hsz hsz2 h1 h2 h3 h4
  exact ⟨k,out,hk,hp,ho,hv,(h4 _ (by omega)).trans hg,(h4 _ (by omega)).trans hb,below_reads hB (by omega) hsz2 h1 h2 h3 h4⟩
 case round =>
  rintro m pre ⟨i,a,s⟩ Wr hI hsz hpf
  have HI:=Aside0.mk hI
  clear hI hpf hG0 hO0 hL0 hb3 hbw
  simp only [encS,pairV]
  gi_wp2
  obtain ⟨k,out,hk,hp,ho,hv,hg,hb,hB⟩:=HI.out
  refine ⟨(KeepC.refl _ _).alloc _,⟨k,out,hk,hp,ho,hv,blk_alloc hg _,blk_alloc hb _,hB.alloc (by omega) _⟩,?_⟩
  clear k out hk hp ho hv hg hb hB
  rintro m2 pre2 W2 hone ⟨k,out,hk,hp,ho,hv,hg,hb,hB⟩ hsz2 ⟨k',hk',hpk⟩
  obtain ⟨rfl,hx⟩:=statK_next hp hpk
  simp only [Prod.mk.injEq] at hx
  obtain ⟨hi,hc⟩:=hx
  have hcs : s = (chkA l k).2:=by rw [← hc]
  have hbx : W2.heap[Wr.heap.size]? = some (.cells #[.int .i64 a,.int .i64 s] 65):=(hone.2.2.2.2 _ (by omega)).trans (blk_new _ _)
  have hc1 : W2.cell? ⟨Wr.heap.size,1,none⟩ = some (.int .i64 s):=(blk_cell hbx 1).trans rfl
  have hc2 : W2.cell? ⟨w1.heap.size + 1,0,none⟩ = some (.slice (some ⟨w1.heap.size,0,none⟩) l.length l.length):=(blk_cell hb 0).trans rfl
  have hi0 : 0 ≤ i:=by rw [hi];omega
  have hi1 : i < (l.length : Int):=by rw [hi];omega
  have hit : i.toNat = l.length - 1 - k:=by rw [hi];omega
  have hc3 : W2.cell? ⟨w1.heap.size,i.toNat,none⟩ = some (.int .i64 (out[i.toNat]?.getD 0)):=by
   rw [blk_cell hg]
   simp [List.getElem?_eq_getElem (show i.toNat < out.length by omega)]
  have hf3:=blk_frozen hg i.toNat
  have HG2:=Aside0.mk hg
  have HB2:=Aside0.mk hb
  have HV:=Aside0.mk hv
  have HP:=Aside0.mk hpk
  have HBB:=Aside0.mk hB
  have HIT:=Aside0.mk hit
  have HCS:=Aside0.mk hcs
  clear hg hb hv hpk hB hit hcs hi hc hp hbx hone HI
  gi_wp2
  refine ⟨KeepC.setCell (C:=fun i => i = w1.heap.size) (KeepC.refl _ _) (.inr rfl) _,k + 1,out.set i.toNat s,hk',HP.out,by rw [List.length_set,ho],fun j h1 h2 => ?_,blk_put HG2.out _ _ (set_ints _ _ _),(Below.heap_setCell _ _ _ _ (show w1.heap.size + 1 ≠ w1.heap.size by omega)).trans HB2.out,HBB.out.setCell (p:=⟨w1.heap.size,i.toNat,none⟩) (show w.heap.size ≤ w1.heap.size by omega) _⟩
  by_cases hj : j = i.toNat
  ·rw [hj,List.getElem?_set_self (by omega),HCS.out,HIT.out,show l.length - 1 - (l.length - 1 - k) = k by omega]
  ·rw [List.getElem?_set_ne (fun e => hj e.symm)]
   exact HV.out j (by have:=HIT.out;omega) h2
 case done =>
  rintro xs W' rfl ⟨k,out,hk,hp,ho,hv,hg,hb,hB⟩ hK hsz
  obtain rfl:=statK_inj hp
  have hc2 : W'.cell? ⟨w1.heap.size + 1,0,none⟩ = some (.slice (some ⟨w1.heap.size,0,none⟩) l.length l.length):=(blk_cell hb 0).trans rfl
  have hout : out = statesL l:=by
   apply List.ext_getElem?
   intro j
   by_cases hj : j < l.length
   ·rw [hv j (by omega) hj];simp [statesL,hj]
   ·rw [List.getElem?_eq_none (by omega),List.getElem?_eq_none (by simp [statesL];omega)]
  gi_wp2
  rw [hs3] at hK
  have hD:=(Array.getElem?_eq_some_iff.1 hK).1
  refine ⟨by simp,.inl ⟨_,_,rfl,run_takeDeferred hK,?_⟩⟩
  refine ⟨_,results_tmp2 (fn:=Try.f11) rfl _ _ _,_,rfl,?_,?_⟩
  ·rw [hout] at hg ho
   have:=R_of_blk (w0:=w) (W:=W'.putObj (w1.heap.size + 3) (.deferred none)) (G:=w1.heap.size) (xs:=statesL l) ((World.putObj_heap_other (by omega)).trans hg) (by omega) (by omega)
   rwa [ho] at this
  ·exact below_reads hB (Nat.le_refl _) (by simp) rfl rfl rfl (fun i hi => World.putObj_heap_other (by omega))
set_option maxRecDepth 100000 in
set_option maxHeartbeats 1000000 in
theorem recall_States.calls (A0 : Option Addr) (c0 : Nat) (l0 : List (S51)) (r1 : List Int) (r2 : Int) (w : World) (hr0 : Kd.C k51 w A0 l0.length l0) (hc0 : l0.length ≤ c0) (h : recall_States.f l0 = some (r1,r2)) :
  Calls Try.prog 11 #[.slice A0 l0.length c0] w fun e w' => ∃ v0_ : Value,e = .returned (.tuple #[v0_,.int .i64 r2]) ∧ Kd.R (Kd.int .i64) 3 w' w.heap.size (fun _ => True) v0_ r1 ∧ Below w.heap.size w w':=by
 have e:=Option.some.inj h
 clear h
 by_cases hck : checkV l0 = 0
 ·have hr : r1 = statesL l0 ∧ r2 = 0:=by unfold statesV at e;rw [if_neg (by rw [hck];decide)] at e;cases e;exact ⟨rfl,rfl⟩
  obtain ⟨rfl,rfl⟩:=hr
  exact States_ok A0 c0 l0 w hr0 hc0 hck
 ·obtain ⟨g,hg⟩ : ∃ g,g = checkV l0:=⟨_,rfl⟩
  have hr : r1 = [] ∧ r2 = g:=by unfold statesV at e;rw [if_pos hck] at e;cases e;exact ⟨rfl,hg.symm⟩
  obtain ⟨rfl,rfl⟩:=hr
  have HCK:=Aside0.mk (recall_Check.calls A0 c0 l0 r2 w hr0 hc0 (congrArg some hg.symm))
  rw [← hg] at hck
  have hg1 : (r2 != 0) = true:=bne_iff_ne.mpr hck
  have hg2 : (r2 == 0) = false:=beq_eq_false_iff_ne.mpr hck
  clear e hg hck hr0
  go_enter Try.func11,Try.ntmps11
  go_wp2_with (go_at_call 16;refine HCK.out.mono ?_;rintro e w1 ⟨rfl,hb1⟩;have HB1:=Aside0.mk hb1;clear hb1)
  go_ret2
  exact ⟨_,rfl,Kd.R_nil _ _ _ _ _,HB1.out⟩
end Go.Proofs.Ytnmmdeonkpfccaa.Pr
namespace Go.Proofs
open Go.Shelf
def Try.keys67_ren : Go.Shelf.Ren:=⟨fun | 7 => 67 | 10 => 86 | n => n,fun | 23 => 49 | 26 => 9 | 3 => 4 | 28 => 99 | 0 => 0 | 27 => 98 | 33 => 119 | 4 => 4 | n => n,fun | n => n⟩
theorem Try.keys67 : Go.Proofs.SlLaysZ.n7 Try.prog Try.keys67_ren:={
 mixed:=by kernel_rfl
 f7:=⟨Try.f67.name,by decide,Try.func67.trans (congrArg some (by kernel_rfl))⟩
 f10:=⟨Try.f86.name,by decide,Try.func86.trans (congrArg some (by kernel_rfl))⟩
 t0:=Try.underlying0
 a0:=Try.isAgg0
 z0:=Try.sizeOf0
 v0:=Try.zeroValue0
 t4:=Try.underlying4
 a4:=Try.isAgg4
 z4:=Try.sizeOf4
 v4:=Try.zeroValue4
 t23:=Try.underlying49
 a23:=Try.isAgg49
 z23:=Try.sizeOf49
 v23:=Try.zeroValue49
 t26:=Try.underlying9
 a26:=Try.isAgg9
 z26:=Try.sizeOf9
 v26:=Try.zeroValue9
 t27:=Try.underlying98
 a27:=Try.isAgg98
 z27:=Try.sizeOf98
 v27:=Try.zeroValue98
 t28:=Try.underlying99
 a28:=Try.isAgg99
 z28:=Try.sizeOf99
 v28:=Try.zeroValue99
 t33:=Try.underlying119
 a33:=Try.isAgg119
 z33:=Try.sizeOf119
 v33:=Try.zeroValue119 }
def Try.sorted66_ren : Go.Shelf.Ren:=⟨fun | 6 => 66 | 8 => 85 | 9 => 35 | 11 => 93 | 13 => 63 | 12 => 62 | 23 => 82 | 24 => 83 | 14 => 73 | 15 => 74 | 16 => 75 | 17 => 76 | 18 => 77 | 19 => 78 | 20 => 79 | 21 => 80 | 22 => 81 | 25 => 87 | 26 => 88 | 27 => 89 | 28 => 90 | 29 => 91 | 30 => 92 | 31 => 94 | n => n,fun | 26 => 9 | 28 => 99 | 24 => 33 | 0 => 0 | 3 => 3 | 37 => 90 | 48 => 115 | 50 => 117 | 4 => 4 | 40 => 107 | 39 => 106 | 45 => 112 | 5 => 5 | 9 => 9 | 51 => 120 | 55 => 124 | 57 => 127 | 58 => 128 | 33 => 119 | n => n,fun | n => n⟩
theorem Try.sorted66 : Go.Proofs.SlLaysZ.n6 Try.prog Try.sorted66_ren:={
 mixed:=by kernel_rfl
 f6:=⟨Try.f66.name,by decide,Try.func66.trans (congrArg some (by kernel_rfl))⟩
 f8:=⟨Try.f85.name,by decide,Try.func85.trans (congrArg some (by kernel_rfl))⟩
 f11:=⟨Try.f93.name,by decide,Try.func93.trans (congrArg some (by kernel_rfl))⟩
 t0:=Try.underlying0
 a0:=Try.isAgg0
 z0:=Try.sizeOf0
 v0:=Try.zeroValue0
 t24:=Try.underlying33
 a24:=Try.isAgg33
 z24:=Try.sizeOf33
 v24:=Try.zeroValue33
 t26:=Try.underlying9
 a26:=Try.isAgg9
 z26:=Try.sizeOf9
 v26:=Try.zeroValue9
 t28:=Try.underlying99
 a28:=Try.isAgg99
 z28:=Try.sizeOf99
 v28:=Try.zeroValue99
 i26:=by kernel_rfl }
def Try.sort35_ren : Go.Shelf.Ren:=⟨fun | 6 => 35 | 8 => 63 | 9 => 62 | 19 => 82 | 20 => 83 | 21 => 73 | 22 => 74 | 23 => 75 | 24 => 76 | 25 => 77 | 26 => 78 | 27 => 79 | 28 => 80 | 29 => 81 | 36 => 87 | 31 => 88 | 32 => 89 | 37 => 90 | 38 => 91 | 39 => 92 | 41 => 94 | n => n,fun | 27 => 33 | 29 => 9 | 3 => 3 | 32 => 90 | 26 => 33 | 0 => 0 | 44 => 115 | 46 => 117 | 4 => 4 | 36 => 107 | 35 => 106 | 41 => 112 | 5 => 5 | 9 => 9 | 53 => 120 | 57 => 124 | 63 => 127 | 64 => 128 | n => n,fun | n => n⟩
theorem Try.sort35 : Go.Proofs.SlLaysM.n6 Try.prog Try.sort35_ren:={
 mixed:=by kernel_rfl
 f6:=⟨Try.f35.name,by decide,Try.func35.trans (congrArg some (by kernel_rfl))⟩
 f8:=Try.func63.trans (congrArg some (by kernel_rfl))
 f9:=⟨Try.f62.name,by decide,Try.func62.trans (congrArg some (by kernel_rfl))⟩
 f19:=Try.func82.trans (congrArg some (by kernel_rfl))
 f20:=Try.func83.trans (congrArg some (by kernel_rfl))
 f21:=⟨Try.f73.name,by decide,Try.func73.trans (congrArg some (by kernel_rfl))⟩
 f22:=⟨Try.f74.name,by decide,Try.func74.trans (congrArg some (by kernel_rfl))⟩
 f23:=⟨Try.f75.name,by decide,Try.func75.trans (congrArg some (by kernel_rfl))⟩
 f24:=⟨Try.f76.name,by decide,Try.func76.trans (congrArg some (by kernel_rfl))⟩
 f25:=⟨Try.f77.name,by decide,Try.func77.trans (congrArg some (by kernel_rfl))⟩
 f26:=⟨Try.f78.name,by decide,Try.func78.trans (congrArg some (by kernel_rfl))⟩
 f27:=⟨Try.f79.name,by decide,Try.func79.trans (congrArg some (by kernel_rfl))⟩
 f28:=⟨Try.f80.name,by decide,Try.func80.trans (congrArg some (by kernel_rfl))⟩
 f29:=⟨Try.f81.name,by decide,Try.func81.trans (congrArg some (by kernel_rfl))⟩
 f31:=Try.func88.trans (congrArg some (by kernel_rfl))
 f32:=Try.func89.trans (congrArg some (by kernel_rfl))
 f36:=⟨Try.f87.name,by decide,Try.func87.trans (congrArg some (by kernel_rfl))⟩
 f37:=⟨Try.f90.name,by decide,Try.func90.trans (congrArg some (by kernel_rfl))⟩
 f38:=⟨Try.f91.name,by decide,Try.func91.trans (congrArg some (by kernel_rfl))⟩
 f39:=⟨Try.f92.name,by decide,Try.func92.trans (congrArg some (by kernel_rfl))⟩
 f41:=⟨Try.f94.name,by decide,Try.func94.trans (congrArg some (by kernel_rfl))⟩
 t0:=Try.underlying0
 a0:=Try.isAgg0
 z0:=Try.sizeOf0
 v0:=Try.zeroValue0
 t3:=Try.underlying3
 a3:=Try.isAgg3
 z3:=Try.sizeOf3
 v3:=Try.zeroValue3
 t4:=Try.underlying4
 a4:=Try.isAgg4
 z4:=Try.sizeOf4
 v4:=Try.zeroValue4
 t5:=Try.underlying5
 a5:=Try.isAgg5
 z5:=Try.sizeOf5
 v5:=Try.zeroValue5
 t9:=Try.underlying9
 a9:=Try.isAgg9
 z9:=Try.sizeOf9
 v9:=Try.zeroValue9
 t26:=Try.underlying33
 a26:=Try.isAgg33
 z26:=Try.sizeOf33
 v26:=Try.zeroValue33
 t27:=Try.underlying33
 a27:=Try.isAgg33
 z27:=Try.sizeOf33
 v27:=Try.zeroValue33
 t29:=Try.underlying9
 a29:=Try.isAgg9
 z29:=Try.sizeOf9
 v29:=Try.zeroValue9
 t32:=Try.underlying90
 a32:=Try.isAgg90
 z32:=Try.sizeOf90
 v32:=Try.zeroValue90
 t35:=Try.underlying106
 a35:=Try.isAgg106
 z35:=Try.sizeOf106
 v35:=Try.zeroValue106
 t36:=Try.underlying107
 a36:=Try.isAgg107
 z36:=Try.sizeOf107
 v36:=Try.zeroValue107
 t41:=Try.underlying112
 a41:=Try.isAgg112
 z41:=Try.sizeOf112
 v41:=Try.zeroValue112
 t44:=Try.underlying115
 a44:=Try.isAgg115
 z44:=Try.sizeOf115
 v44:=Try.zeroValue115
 t46:=Try.underlying117
 a46:=Try.isAgg117
 z46:=Try.sizeOf117
 v46:=Try.zeroValue117
 t53:=Try.underlying120
 a53:=Try.isAgg120
 z53:=Try.sizeOf120
 v53:=Try.zeroValue120
 t57:=Try.underlying124
 a57:=Try.isAgg124
 z57:=Try.sizeOf124
 v57:=Try.zeroValue124
 t63:=Try.underlying127
 a63:=Try.isAgg127
 z63:=Try.sizeOf127
 v63:=Try.zeroValue127
 t64:=Try.underlying128
 a64:=Try.isAgg128
 z64:=Try.sizeOf128
 v64:=Try.zeroValue128 }
def Try.del55_ren : Go.Shelf.Ren:=⟨fun | 5 => 55 | n => n,fun | 23 => 49 | 26 => 9 | 24 => 4 | 27 => 82 | 0 => 0 | 4 => 4 | n => n,fun | n => n⟩
theorem Try.del55 : Go.Proofs.SlLaysDf.n5 Try.prog Try.del55_ren:={
 mixed:=by kernel_rfl
 f5:=⟨Try.f55.name,by decide,Try.func55.trans (congrArg some (by kernel_rfl))⟩
 t0:=Try.underlying0
 a0:=Try.isAgg0
 z0:=Try.sizeOf0
 v0:=Try.zeroValue0
 t4:=Try.underlying4
 a4:=Try.isAgg4
 z4:=Try.sizeOf4
 v4:=Try.zeroValue4
 t23:=Try.underlying49
 a23:=Try.isAgg49
 z23:=Try.sizeOf49
 v23:=Try.zeroValue49
 a24:=Try.isAgg4
 z24:=Try.sizeOf4
 a26:=Try.isAgg9
 z26:=Try.sizeOf9
 t27:=Try.underlying82
 a27:=Try.isAgg82
 z27:=Try.sizeOf82
 v27:=Try.zeroValue82 }
def Try.cf29_ren : Go.Shelf.Ren:=⟨fun | 8 => 29 | 6 => 58 | n => n,fun | 22 => 22 | 23 => 51 | 25 => 53 | 4 => 4 | 3 => 3 | 0 => 0 | n => n,fun | n => n⟩
theorem Try.cf29 : Go.Proofs.SlLaysH0.n8 Try.prog Try.cf29_ren:={
 mixed:=by kernel_rfl
 f6:=⟨Try.f58.name,by decide,Try.func58.trans (congrArg some (by kernel_rfl))⟩
 f8:=⟨Try.f29.name,by decide,Try.func29.trans (congrArg some (by kernel_rfl))⟩
 t0:=Try.underlying0
 a0:=Try.isAgg0
 z0:=Try.sizeOf0
 v0:=Try.zeroValue0
 t3:=Try.underlying3
 a3:=Try.isAgg3
 z3:=Try.sizeOf3
 v3:=Try.zeroValue3
 t4:=Try.underlying4
 a4:=Try.isAgg4
 z4:=Try.sizeOf4
 v4:=Try.zeroValue4
 t22:=Try.underlying22
 a22:=Try.isAgg22
 z22:=Try.sizeOf22
 v22:=Try.zeroValue22
 t25:=Try.underlying53
 a25:=Try.isAgg53
 z25:=Try.sizeOf53
 v25:=Try.zeroValue53 }
def Try.clone31_ren : Go.Shelf.Ren:=⟨fun | 41 => 31 | n => n,fun | 22 => 22 | 23 => 51 | 4 => 4 | n => n,fun | n => n⟩
theorem Try.clone31 : Go.Proofs.SlLaysE0.n41 Try.prog Try.clone31_ren:={
 mixed:=by kernel_rfl
 f41:=⟨Try.f31.name,by decide,Try.func31.trans (congrArg some (by kernel_rfl))⟩
 t4:=Try.underlying4
 a4:=Try.isAgg4
 z4:=Try.sizeOf4
 v4:=Try.zeroValue4
 t22:=Try.underlying22
 a22:=Try.isAgg22
 z22:=Try.sizeOf22
 v22:=Try.zeroValue22 }
end Go.Proofs
set_option linter.unusedVariables false
namespace Go.Proofs
open Go.RowKit Go.Maps Go.Sort Go.Shelf
theorem Try.sorts66 (m : Nat) : AnyZ.SortsIn Try.prog Try.sorted66_ren Fence.wide m :=
  ⟨fun blk off cap ss W hH hblk hsz => callsIn_wide.2 (AnyM.slices_Sort_string Try.sort35 blk off cap ss W hH hblk hsz),
   fun p cap W => callsIn_wide.2 (AnyM.slices_Sort_string_none Try.sort35 p cap W)⟩
theorem Try.maps_Keys_67 (mb : Option Nat) (W : World) : CallsIn Fence.wide 5 Try.prog 67 #[.map mb] W fun e w' => e = .returned (.func (.func 86) #[] #[.pointer (some ⟨W.heap.size,0,none⟩)]) ∧ w' = W.alloc (.cells #[.map mb] 49) :=
  AnyZ.keys_in Try.keys67 Fence.wide 5 trivial rfl mb W
set_option maxHeartbeats 1000000 in
theorem Try.slices_Sorted_keys_66_67 {H : Type} (b nn : Nat) (D0 : DataW H) (R : Value → Option (DataW H × List MemPlace)) (w : World) (hown : w.ownsMap Try.prog 9 R b nn D0) (hmax : Maps.size D0 ≤ maxLen) (hbytes : Maps.size D0 * 16 ≤ 140737488355328) :
    CallsIn Fence.wide 5 Try.prog 66 #[.func (.func 86) #[] #[.pointer (some ⟨w.heap.size,0,none⟩)]] (w.alloc (.cells #[.map (some b)] 49)) fun e w' => ∃ (v : Value) (ss : List (List UInt8)),e = .returned v ∧ ss.Perm (strKeys D0) ∧
      w'.ownsRow (w.alloc (.cells #[.map (some b)] 49)).heap.size 9 1 v ss.length ((ss.mergeSort (fun x y => decide (x ≤ y))).map encStr) ∧ (v = .slice none 0 0 ↔ ss = []) ∧ Below (w.alloc (.cells #[.map (some b)] 49)).heap.size (w.alloc (.cells #[.map (some b)] 49)) w':=by
  have hbl:=hown.lt
  have hseq : SeqGives Fence.wide 2 Try.prog 86 #[.pointer (some ⟨w.heap.size,0,none⟩)] encStr (fun ss => ss.Perm (strKeys D0)) (Maps.size D0) (w.alloc (.cells #[.map (some b)] 49)) :=
    AnyZ.keys_gives (ρ:=Try.keys67_ren) { Try.keys67 with } Fence.wide _ trivial rfl (by omega) w.heap.size b nn D0 _ (by simp) (by simp) (by
      obtain ⟨es,clock,hb,Ft,hs,hD⟩:=hown
      exact ⟨es,clock,(Below.heap_alloc _ _ b hbl).trans hb,Ft,hs,hD⟩)
  exact AnyZ.sorted_in Try.sorted66 Fence.wide 5 trivial trivial trivial trivial rfl (by omega) (Try.sorts66 _) (enters_of Try.func35 (by kernel_rfl) rfl) 86 #[.pointer (some ⟨w.heap.size,0,none⟩)] trivial (enters_of Try.func86 (by kernel_rfl) rfl) _ _ hmax hbytes _ hseq
end Go.Proofs
namespace Go.Proofs.Ytnmmdeonkpfccaa.Pr
open Go.RowKit Go.Shelf Go.Sort Go.Proofs.YtnmmdeonkpfccaaW.PrintWords Go.Proofs.YtnmmdeonkpfccaaW.PrintLast Go.Proofs.YtnmmdeonkpfccaaW.PrintMore
open Go.Proofs.Ytnmmdeonkpfccaa.Rg
def ddup : List (List UInt8) → List (List UInt8)
  | [] => []
  | x :: r => if x ∈ ddup r then ddup r else x :: ddup r
theorem mem_ddup {x : List UInt8} : ∀ {S : List (List UInt8)},x ∈ ddup S ↔ x ∈ S
  | [] => Iff.rfl
  | y :: r => by
    unfold ddup
    split
    · rename_i h
      rw [mem_ddup,List.mem_cons]
      exact ⟨.inr,fun h1 => h1.elim (fun e => e ▸ mem_ddup.1 h) id⟩
    · rw [List.mem_cons,List.mem_cons,mem_ddup]
theorem nodup_ddup : ∀ S : List (List UInt8),(ddup S).Nodup
  | [] => List.Pairwise.nil
  | y :: r => by
    unfold ddup
    split
    · exact nodup_ddup r
    · rename_i h
      exact List.nodup_cons.2 ⟨h,nodup_ddup r⟩
def sortU (S : List (List UInt8)) : List (List UInt8):=(ddup S).mergeSort fun x y => decide (x ≤ y)
def strs (S : List (List UInt8)) : List ByteArray:=(sortU S).map fun q => ByteArray.mk q.toArray
theorem fSet_some (S : List (List UInt8)) (q : List UInt8) : (fSet S q).isSome = true ↔ q ∈ S:=by unfold fSet;split <;> simp [*]
theorem row_base {W : World} {b b' : Nat} {e : TypeId} {size : Nat} {v : Value} {n : Nat} {xs : List Value} (h : W.ownsRow b e size v n xs) (hb : b' ≤ b) : W.ownsRow b' e size v n xs :=
  ⟨h.1,h.2.elim .inl fun ⟨g,cap,cur,h1,h2,h3⟩ => .inr ⟨g,cap,cur,h1,Nat.le_trans hb h2,h3⟩⟩
theorem R_strs {w0 W : World} {v : Value} {ks : List (List UInt8)} (h : W.ownsRow w0.heap.size 9 1 v ks.length (ks.map encStr)) : Kd.R Kd.string 9 W w0.heap.size (fun _ => True) v (ks.map fun q => ByteArray.mk q.toArray):=by
  refine Kd.R_of_own (enc:=Value.string) (h1:=fun _ => rfl) ?_ (fun _ _ => trivial)
  rw [List.length_map]
  have : encs Value.string (ks.map fun q => ByteArray.mk q.toArray) = ks.map encStr:=by simp [encs,encStr]
  rw [this]
  exact h
theorem R_base {W : World} {b b' : Nat} {v : Value} {xs : List ByteArray} (h : Kd.R Kd.string 9 W b (fun _ => True) v xs) (hb : b' ≤ b) : Kd.R Kd.string 9 W b' (fun _ => True) v xs :=
  Kd.R_of_own (enc:=Value.string) (h1:=fun _ => rfl) (row_base (Kd.own_of_R (enc:=Value.string) (h1:=fun _ => rfl) h) hb) (fun _ _ => trivial)
set_option maxHeartbeats 1000000 in
set_option maxRecDepth 100000 in
theorem sorted_ok (b n : Nat) (S : List (List UInt8)) (w : World) (hm : MapF Try.prog 9 w b n (fSet S)) (hn : n ≤ 5000) :
    Calls Try.prog 40 #[.map (some b)] w fun e w' => ∃ v,e = .returned v ∧ Kd.R Kd.string 9 w' w.heap.size (fun _ => True) v (strs S) ∧ Below w.heap.size w w':=by
  obtain ⟨D,hown,ht,hnd,hks,hsz⟩:=hm.keys Try.underlying9
  have cS:=Try.slices_Sorted_keys_66_67 b n D RV w hown (by unfold maxLen;omega) (by omega)
  have cK:=Try.maps_Keys_67
  have hfK : Fence.wide.fn 67:=trivial
  have hfS : Fence.wide.fn 66:=trivial
  have HKS:=Aside0.mk hks
  have HND:=Aside0.mk hnd
  clear hks hnd hown ht
  refine (callsIn_wide (n:=6)).1 ?_
  refine callsIn_of_wp Try.func40 rfl trivial ?_ rfl
  simp only [Try.ntmps40,List.size_toArray,List.length_cons,List.length_nil,Nat.reduceAdd,Nat.reduceSub,Array.replicate_succ,Array.replicate_zero,List.push_toArray,List.append_toArray,List.nil_append,List.cons_append]
  gi_wp2_with (first
     | (gi_at_call 67;refine (cK _ _).mono ?_;rintro e w' ⟨rfl,rfl⟩)
     | (gi_at_call 66;refine cS.mono ?_;rintro e w' ⟨v,ss,rfl,hS,hrow,hnil,hb⟩;have HS:=Aside0.mk hS;have HRW:=Aside0.mk hrow;have HB:=Aside0.mk hb;clear hS hrow hnil hb))
  go_ret
  have hp : ss.Perm (ddup S):=by
    refine HS.out.trans ((List.perm_ext_iff_of_nodup HND.out (nodup_ddup S)).2 fun q => ?_)
    rw [HKS.out q,fSet_some,mem_ddup]
  have hb0 : Below w.heap.size w (w.alloc (.cells #[.map (some b)] 49)):=(Below.refl _ w).alloc (Nat.le_refl _) _
  refine ⟨_,rfl,?_,hb0.trans (HB.out.mono hb0.size)⟩
  have hr:=HRW.out
  unfold strs sortU
  rw [← mergeSort_of_perm hp]
  refine R_strs ?_
  rw [List.length_mergeSort]
  exact row_base hr (by simp)
end Go.Proofs.Ytnmmdeonkpfccaa.Pr
set_option linter.unusedVariables false
namespace Go.Proofs.Ytnmmdeonkpfccaa.Pr
open Go.RowKit Go.Shelf Go.Maps Go.Proofs.YtnmmdeonkpfccaaW.PrintWords Go.Proofs.YtnmmdeonkpfccaaW.PrintLast Go.Proofs.YtnmmdeonkpfccaaW.PrintMore
open Go.Proofs.Ytnmmdeonkpfccaa.Rg
attribute [local go_sem] Oper.semAt_some
def evK (l : List S51) (k : Nat) : S51:=l.getD (l.length - 1 - k) z51
def keptS (p : S51 → Int → Bool) (l : List S51) : Nat → List (List UInt8) × List (List UInt8)
 | 0 => ([],[])
 | k + 1 => if (evK l k).f0 = 3 ∨ (chkA l k).2 = 2 then ((keptS p l k).1,(evK l k).f2.data.toList :: (keptS p l k).2)
  else if (evK l k).f0 = 0 ∧ p (evK l k) (chkA l k).2 = true then ((evK l k).f2.data.toList :: (keptS p l k).1,(keptS p l k).2) else keptS p l k
def keptL (p : S51 → Int → Bool) (l : List S51) : List (List UInt8):=(keptS p l l.length).1.filter fun q => !decide (q ∈ (keptS p l l.length).2)
theorem fSet_drop (O N : List (List UInt8)) : dropF (fSet O) (fun q => decide (q ∈ N)) = fSet (O.filter fun q => !decide (q ∈ N)):=by
 funext q
 unfold dropF fSet
 by_cases h : q ∈ N
 ·rw [if_pos (decide_eq_true h),if_neg (by rw [List.mem_filter];rintro ⟨_,h2⟩;simp [h] at h2)]
 ·rw [if_neg (by simpa using h)]
  by_cases h2 : q ∈ O
  ·rw [if_pos h2,if_pos (List.mem_filter.2 ⟨h2,by simp [h]⟩)]
  ·rw [if_neg h2,if_neg (fun h3 => h2 (List.mem_filter.1 h3).1)]
set_option maxHeartbeats 1000000 in
theorem never72 (s : ByteArray) (hs : s.size ≤ maxLen) (val : Value) (Bn bn n : Nat) (N : List (List UInt8)) (W : World) (hb : W.cell? ⟨Bn,0,none⟩ = some (.map (some bn))) (hm : MapF Try.prog 9 W bn n (fSet N)) :
  Calls Try.prog 72 #[.string s,val,.pointer (some ⟨Bn,0,none⟩)] W fun e w' => e = .returned (.bool (decide (s.data.toList ∈ N))) ∧ w' = W:=by
 have HV:=Aside0.mk (show (fSet N s.data.toList).getD (.bool false) = .bool (decide (s.data.toList ∈ N)) from by unfold fSet;by_cases h : s.data.toList ∈ N <;> simp [h])
 go_enter Try.func72,Try.ntmps72
 go_wp2_with (at_lookup;refine wpList_lookF rfl _ _ 49 rfl 9 4 Try.underlying9 Try.underlying49 (Try.zeroValue4 _) rfl hm s rfl hs _ HV.out ?_)
 go_ret
 exact ⟨rfl,rfl⟩
set_option maxHeartbeats 1000000 in
theorem never56 (s : ByteArray) (hs : s.size ≤ maxLen) (val : Value) (Bn bn n : Nat) (N : List (List UInt8)) (W : World) (hb : W.cell? ⟨Bn,0,none⟩ = some (.map (some bn))) (hm : MapF Try.prog 9 W bn n (fSet N)) :
  Calls Try.prog 56 #[.string s,val,.pointer (some ⟨Bn,0,none⟩)] W fun e w' => e = .returned (.bool (decide (s.data.toList ∈ N))) ∧ w' = W:=by
 have HV:=Aside0.mk (show (fSet N s.data.toList).getD (.bool false) = .bool (decide (s.data.toList ∈ N)) from by unfold fSet;by_cases h : s.data.toList ∈ N <;> simp [h])
 go_enter Try.func56,Try.ntmps56
 go_wp2_with (at_lookup;refine wpList_lookF rfl _ _ 49 rfl 9 4 Try.underlying9 Try.underlying49 (Try.zeroValue4 _) rfl hm s rfl hs _ HV.out ?_)
 go_ret
 exact ⟨rfl,rfl⟩
theorem delete_ok (g : Nat) (eg : ∀ args w,(callFunc g args).run Try.prog w = .ok (.enter g args) w)
  (hgc : ∀ (s : ByteArray) (_ : s.size ≤ maxLen) (val : Value) (Bn bn n : Nat) (N : List (List UInt8)) (W : World) (_ : W.cell? ⟨Bn,0,none⟩ = some (.map (some bn))) (_ : MapF Try.prog 9 W bn n (fSet N)),
   Calls Try.prog g #[.string s,val,.pointer (some ⟨Bn,0,none⟩)] W fun e w' => e = .returned (.bool (decide (s.data.toList ∈ N))) ∧ w' = W)
  (b n Bn bn nn : Nat) (O N : List (List UInt8)) (w : World) (hO : MapF Try.prog 9 w b n (fSet O)) (hb : w.cell? ⟨Bn,0,none⟩ = some (.map (some bn))) (hN : MapF Try.prog 9 w bn nn (fSet N)) (hne : bn ≠ b) (hne2 : Bn ≠ b) :
  Calls Try.prog 55 #[.map (some b),.func (.func g) #[] #[.pointer (some ⟨Bn,0,none⟩)]] w fun e w' => e = .returned (.tuple #[]) ∧ MapF Try.prog 9 w' b n (fSet (O.filter fun q => !decide (q ∈ N))) ∧ w.grownBy w' (some b):=by
 obtain ⟨D,hown,ht⟩:=hO
 have hlt : Bn < w.heap.size:=World.block_lt_of_cell? w _ hb
 refine (AnyDf.maps_DeleteFunc Try.del55 (string_keyed Try.underlying9) RV (fun kl _ => match kl with | .string q => decide (q ∈ N) | _ => false) g #[.pointer (some ⟨Bn,0,none⟩)] b n D w eg hown ?_).mono ?_
 ·intro W key val kl yd yp hg hk _
  obtain ⟨x,rfl,rfl,hx⟩:=Maps.keyOf_str Try.underlying9 hk
  have hbW : W.cell? ⟨Bn,0,none⟩ = some (.map (some bn)):=(World.cell?_of_block (hg.block Bn hlt (by simpa using hne2))).trans hb
  have:=hgc ⟨x.toArray⟩ (by simpa [ByteArray.size] using hx) val Bn bn nn N W hbW (hN.kept hg (by simpa using hne))
  refine Calls.mono this ?_
  rintro e w' ⟨rfl,rfl⟩
  exact ⟨by simp,World.grownBy.refl _ _⟩
 ·rintro e w' ⟨rfl,h1,h2⟩
  refine ⟨rfl,⟨_,h1,?_⟩,h2⟩
  rw [← fSet_drop]
  exact ht.drop hown.isMap _ _ (fun q d => rfl)
def NearC (C : Nat → Prop) (X Y : World) : Prop:=X.os = Y.os ∧ X.tape = Y.tape ∧ X.output = Y.output ∧ KeepC C X Y
theorem NearC.refl (C : Nat → Prop) (X : World) : NearC C X X:=⟨rfl,rfl,rfl,KeepC.refl _ _⟩
theorem NearC.alloc {C : Nat → Prop} {X Y : World} (h : NearC C X Y) (o : Obj) : NearC C X (Y.alloc o):=⟨h.1,h.2.1,h.2.2.1,h.2.2.2.alloc o⟩
theorem NearC.grown {C : Nat → Prop} {M : Nat} {X Y Z : World} (h : NearC C X Y) (hg : Y.grownBy Z (some M)) (hM : C M) : NearC C X Z :=
 ⟨h.1.trans hg.os.symm,h.2.1.trans hg.tape.symm,h.2.2.1.trans hg.output.symm,h.2.2.2.grown hg (fun k e => by cases e;exact .inr hM)⟩
theorem NearC.below {C : Nat → Prop} {X Y Z : World} (h : NearC C X Y) (hb : Below Y.heap.size Y Z) : NearC C X Z:=⟨h.1.trans hb.os.symm,h.2.1.trans hb.tape.symm,h.2.2.1.trans hb.output.symm,h.2.2.2.of_below hb⟩
theorem NearC.setCell {C : Nat → Prop} {X Y : World} (h : NearC C X Y) {p : Addr} (hp : X.heap.size ≤ p.block ∨ C p.block) (u : Value) : NearC C X (Y.setCell p u):=⟨h.1,h.2.1,h.2.2.1,h.2.2.2.setCell hp u⟩
def Judges (fs : Nat) (lbs : Array Value) (p : S51 → Int → Bool) (w : World) : Prop:=∀ (W : World) (x : S51) (s : Int),Below w.heap.size w W → Calls Try.prog fs (#[evV x,.int .i64 s] ++ lbs) W fun e w' => e = .returned (.bool (p x s)) ∧ Below W.heap.size W w'
set_option maxRecDepth 100000 in
set_option maxHeartbeats 1000000 in
theorem kept_ok (A0 : Option Addr) (c0 : Nat) (l : List (S51)) (fs : Nat) (lbs : Array Value) (p : S51 → Int → Bool) (w : World) (hr0 : Kd.C k51 w A0 l.length l) (hl : l.length ≤ 4096) (hg : ∀ x ∈ l,x.f1.size ≤ 24) (hg2 : ∀ x ∈ l,x.f2.size ≤ 24)
  (eg : ∀ args w,(callFunc fs args).run Try.prog w = .ok (.enter fs args) w) (hj : Judges fs lbs p w) :
  Calls Try.prog 53 #[.slice A0 l.length c0,.func (.func fs) #[] lbs] w fun e w' => ∃ b,e = .returned (.map (some b)) ∧ w.heap.size ≤ b ∧ MapF Try.prog 9 w' b 4096 (fSet (keptL p l)) ∧ Below w.heap.size w w':=by
 have hlt:=slice_lt hr0
 have HR0:=Aside0.mk hr0
 have HG:=Aside0.mk hg
 have HG2:=Aside0.mk hg2
 have HLT:=Aside0.mk hlt
 have HJJ:=Aside0.mk hj
 have hmm:=@run_makeMap Try.prog
 have hf38 : Fence.wide.fn 38:=trivial
 have hf55 : Fence.wide.fn 55:=trivial
 clear hr0 hg hg2 hlt hj
 refine (callsIn_wide (n:=3)).1 ?_
 refine callsIn_of_wp_marks Try.func53 rfl trivial ?_ rfl
 simp only [Try.ntmps53,List.size_toArray,List.length_cons,List.length_nil,Nat.reduceAdd,Nat.reduceSub,Array.replicate_succ,Array.replicate_zero,List.push_toArray,List.append_toArray,List.nil_append,List.cons_append]
 obtain ⟨W6,hW6⟩ : ∃ W6,(((((w.alloc (Obj.cells #[Value.slice A0 l.length c0] 22)).alloc (Obj.cells #[Value.func (.func fs) #[] lbs] 80)).alloc (Obj.map #[] 0)).alloc (Obj.cells #[Value.map (some (w.heap.size + 2))] 49)).alloc (Obj.map #[] 0)).alloc (Obj.cells #[Value.map (some (w.heap.size + 4))] 49) = W6:=⟨_,rfl⟩
 have hs6 : W6.heap.size = w.heap.size + 6:=by rw [← hW6];simp
 have hb6 : Below w.heap.size w W6:=by rw [← hW6];exact ((((((Below.refl _ w).alloc (Nat.le_refl _) _).alloc (by simp) _).alloc (by simp;omega) _).alloc (by simp;omega) _).alloc (by simp;omega) _).alloc (by simp;omega) _
 have k0 : W6.heap[w.heap.size]? = some (.cells #[.slice A0 l.length c0] 22):=by rw [← hW6];exact blk_alloc (blk_alloc (blk_alloc (blk_alloc (blk_alloc (blk_new _ _) _) _) _) _) _
 have k1 : W6.heap[w.heap.size + 1]? = some (.cells #[.func (.func fs) #[] lbs] 80):=by
  rw [← hW6]
  have:=blk_new (w.alloc (Obj.cells #[Value.slice A0 l.length c0] 22)) (Obj.cells #[Value.func (.func fs) #[] lbs] 80)
  rw [World.size_alloc] at this
  exact blk_alloc (blk_alloc (blk_alloc (blk_alloc this _) _) _) _
 have k2 : MapF Try.prog 9 W6 (w.heap.size + 2) 0 (fSet []):=by
  rw [← hW6,fSet_nil]
  have:=MapF.made ((w.alloc (Obj.cells #[Value.slice A0 l.length c0] 22)).alloc (Obj.cells #[Value.func (.func fs) #[] lbs] 80)) Try.prog 9
  rw [World.size_alloc,World.size_alloc] at this
  exact ((this.alloc _).alloc _).alloc _
 have k3 : W6.heap[w.heap.size + 3]? = some (.cells #[.map (some (w.heap.size + 2))] 49):=by
  rw [← hW6]
  have:=blk_new (((w.alloc (Obj.cells #[Value.slice A0 l.length c0] 22)).alloc (Obj.cells #[Value.func (.func fs) #[] lbs] 80)).alloc (Obj.map #[] 0)) (Obj.cells #[Value.map (some (w.heap.size + 2))] 49)
  rw [World.size_alloc,World.size_alloc,World.size_alloc] at this
  exact blk_alloc (blk_alloc this _) _
 have k4 : MapF Try.prog 9 W6 (w.heap.size + 4) 0 (fSet []):=by
  rw [← hW6,fSet_nil]
  have:=MapF.made ((((w.alloc (Obj.cells #[Value.slice A0 l.length c0] 22)).alloc (Obj.cells #[Value.func (.func fs) #[] lbs] 80)).alloc (Obj.map #[] 0)).alloc (Obj.cells #[Value.map (some (w.heap.size + 2))] 49)) Try.prog 9
  rw [World.size_alloc,World.size_alloc,World.size_alloc,World.size_alloc] at this
  exact this.alloc _
 have k5 : W6.heap[w.heap.size + 5]? = some (.cells #[.map (some (w.heap.size + 4))] 49):=by
  rw [← hW6]
  have:=blk_new (((((w.alloc (Obj.cells #[Value.slice A0 l.length c0] 22)).alloc (Obj.cells #[Value.func (.func fs) #[] lbs] 80)).alloc (Obj.map #[] 0)).alloc (Obj.cells #[Value.map (some (w.heap.size + 2))] 49)).alloc (Obj.map #[] 0)) (Obj.cells #[Value.map (some (w.heap.size + 4))] 49)
  rw [World.size_alloc,World.size_alloc,World.size_alloc,World.size_alloc,World.size_alloc] at this
  exact this
 have hc60 : W6.cell? ⟨w.heap.size,0,none⟩ = some (.slice A0 l.length c0):=(blk_cell k0 0).trans rfl
 gi_wp2_with ((first | refine ⟨fun h => absurd h (by decide),?_⟩ | skip);gi_at_call 38;refine (states_in _ A0 c0 l.length _).mono ?_;rintro e w' ⟨rfl,rfl⟩)
 obtain ⟨Wl,hWl⟩ : ∃ Wl,W6.alloc (Obj.cells #[Value.slice A0 l.length c0] 22) = Wl:=⟨_,rfl⟩
 have hsl : Wl.heap.size = w.heap.size + 7:=by rw [← hWl];simp;omega
 have hbl : Below w.heap.size w Wl:=by rw [← hWl];exact hb6.alloc (by omega) _
 have hL0 : Wl.cell? ⟨w.heap.size + 6,0,none⟩ = some (.slice A0 l.length c0):=by
  rw [← hWl]
  have:=blk_new W6 (Obj.cells #[Value.slice A0 l.length c0] 22)
  rw [hs6] at this
  exact (blk_cell this 0).trans rfl
 have q0 : Wl.heap[w.heap.size]? = some (.cells #[.slice A0 l.length c0] 22):=by rw [← hWl];exact blk_alloc k0 _
 have q1 : Wl.heap[w.heap.size + 1]? = some (.cells #[.func (.func fs) #[] lbs] 80):=by rw [← hWl];exact blk_alloc k1 _
 have q2 : MapF Try.prog 9 Wl (w.heap.size + 2) 0 (fSet []):=by rw [← hWl];exact k2.alloc _
 have q3 : Wl.heap[w.heap.size + 3]? = some (.cells #[.map (some (w.heap.size + 2))] 49):=by rw [← hWl];exact blk_alloc k3 _
 have q4 : MapF Try.prog 9 Wl (w.heap.size + 4) 0 (fSet []):=by rw [← hWl];exact k4.alloc _
 have q5 : Wl.heap[w.heap.size + 5]? = some (.cells #[.map (some (w.heap.size + 4))] 49):=by rw [← hWl];exact blk_alloc k5 _
 rw [hWl]
 clear hWl hf38 hW6 hs6 hb6 k0 k1 k2 k3 k4 k5 hc60
 refine rangeB2 (gf:=64) (lb:=#[.pointer (some ⟨w.heap.size + 6,0,none⟩)]) rfl (enters_of Try.func64 (by kernel_rfl) rfl) (fun i => i = w.heap.size + 2 ∨ i = w.heap.size + 4) (fun i hi => by omega)
  (states_seq _ A0 c0 (w.heap.size + 6) l Wl hl HG.out (Kd.C_below HR0.out hbl) (fun ad ha hne h => by have:=HLT.out ad ha hne;omega) (fun ad ha hne => by have:=HLT.out ad ha hne;omega) hL0 (fun h => by omega)) (fun _ => rfl)
  (fun pre Wr => ∃ (k : Nat),k ≤ l.length ∧ pre = statK l k ∧ MapF Try.prog 9 Wr (w.heap.size + 2) k (fSet (keptS p l k).1) ∧ MapF Try.prog 9 Wr (w.heap.size + 4) k (fSet (keptS p l k).2) ∧
   (∀ i,(i = w.heap.size ∨ i = w.heap.size + 1 ∨ i = w.heap.size + 3 ∨ i = w.heap.size + 5) → Wr.heap[i]? = Wl.heap[i]?) ∧ Below w.heap.size w Wr)
  ?hI ⟨0,by omega,rfl,q2,q4,fun _ _ => rfl,hbl⟩ ?round ?done
 case hI =>
  rintro pre Wr Wr' ⟨k,hk,hp,hm1,hm2,hb,hB⟩ hsz hsz2 h1 h2 h3 h4
  exact ⟨k,hk,hp,hm1.same (h4 _ (by omega)),hm2.same (h4 _ (by omega)),fun i hi => (h4 i (by omega)).trans (hb i hi),below_reads hB (by omega) hsz2 h1 h2 h3 h4⟩
 case round =>
  rintro m pre ⟨i,a,s⟩ Wr hI hsz hpf
  have HI:=Aside0.mk hI
  have Q0:=Aside0.mk q0
  have Q1:=Aside0.mk q1
  have Q3:=Aside0.mk q3
  have Q5:=Aside0.mk q5
  clear hI hpf q0 q1 q2 q3 q4 q5 hL0 hbl
  simp only [encS,pairV]
  gi_wp2
  obtain ⟨k,hk,hp,hm1,hm2,hb,hB⟩:=HI.out
  refine ⟨(KeepC.refl _ _).alloc _,⟨k,hk,hp,hm1.alloc _,hm2.alloc _,fun i hi => (Below.heap_alloc _ _ _ (by omega)).trans (hb i hi),hB.alloc (by omega) _⟩,?_⟩
  clear k hk hp hm1 hm2 hb hB
  rintro m2 pre2 W2 hone ⟨k,hk,hp,hm1,hm2,hb,hB⟩ hsz2 ⟨k',hk',hpk⟩
  obtain ⟨rfl,hx⟩:=statK_next hp hpk
  simp only [Prod.mk.injEq] at hx
  obtain ⟨hi,hc⟩:=hx
  have hcs : s = (chkA l k).2:=by rw [← hc]
  have hbx : W2.heap[Wr.heap.size]? = some (.cells #[.int .i64 a,.int .i64 s] 65):=(hone.2.2.2.2 _ (by omega)).trans (blk_new _ _)
  have hszr : Wr.heap.size + 1 = W2.heap.size:=by rw [← hone.1];simp
  have hc1 : W2.cell? ⟨Wr.heap.size,1,none⟩ = some (.int .i64 s):=(blk_cell hbx 1).trans rfl
  have hl2 : W2.cell? ⟨w.heap.size,0,none⟩ = some (.slice A0 l.length c0):=(blk_cell ((hb _ (by omega)).trans Q0.out) 0).trans rfl
  have hi0 : 0 ≤ i:=by rw [hi];omega
  have hi1 : i < (l.length : Int):=by rw [hi];omega
  obtain ⟨x,hx⟩ : ∃ x,x = evK l k:=⟨_,rfl⟩
  have hrd : rd_T51 l i = x:=by unfold rd_T51;rw [hx,hi];unfold evK;congr 1;omega
  have hxm : x.f2.size ≤ 24:=by
   refine HG2.out x ?_
   rw [hx];unfold evK
   rw [List.getD_eq_getElem?_getD,List.getElem?_eq_getElem (by omega)]
   exact List.getElem_mem _
  have hxm2 : x.f2.size ≤ maxLen:=by unfold maxLen;omega
  obtain ⟨ad,e1,hx0,hx1,hx2,hx3⟩:=at_T51 HR0.out i hi0 hi1
  cases e1
  rw [hrd] at hx0 hx1 hx2 hx3
  replace hx0:=(hB.cell (World.block_lt_of_cell? w _ hx0)).trans hx0
  replace hx1:=(hB.cell (World.block_lt_of_cell? w _ hx1)).trans hx1
  replace hx2:=(hB.cell (World.block_lt_of_cell? w _ hx2)).trans hx2
  replace hx3:=(hB.cell (World.block_lt_of_cell? w _ hx3)).trans hx3
  have HM1:=Aside0.mk hm1
  have HM2:=Aside0.mk hm2
  have HBL:=Aside0.mk hb
  have HP:=Aside0.mk hpk
  have HBB:=Aside0.mk hB
  have HCS:=Aside0.mk hcs
  have HX:=Aside0.mk hx
  have HBX:=Aside0.mk hbx
  have HKS:=Aside0.mk (show keptS p l (k + 1) = if x.f0 = 3 ∨ s = 2 then ((keptS p l k).1,x.f2.data.toList :: (keptS p l k).2) else if x.f0 = 0 ∧ p x s = true then (x.f2.data.toList :: (keptS p l k).1,(keptS p l k).2) else keptS p l k from by rw [hcs,hx];rfl)
  clear hm1 hm2 hb hpk hB hcs hi hc hp hbx hone HI hx hrd
  have hBA : ∀ o : Obj,Below W2.heap.size W2 (W2.alloc o):=fun o => (Below.refl _ W2).alloc (Nat.le_refl _) o
  have hcA:=fun o : Obj => ((hBA o).cell (p:=⟨Wr.heap.size,1,none⟩) (show Wr.heap.size < _ by omega)).trans hc1
  have h3A:=fun o : Obj => ((hBA o).cell (p:=⟨w.heap.size + 1 + 1 + 1,0,none⟩) (show w.heap.size + 1 + 1 + 1 < _ by omega)).trans ((blk_cell ((HBL.out _ (by omega)).trans Q3.out) 0).trans rfl : W2.cell? ⟨w.heap.size + 1 + 1 + 1,0,none⟩ = some (.map (some (w.heap.size + 2))))
  have h5A:=fun o : Obj => ((hBA o).cell (p:=⟨w.heap.size + 1 + 1 + 1 + 1 + 1,0,none⟩) (show w.heap.size + 1 + 1 + 1 + 1 + 1 < _ by omega)).trans ((blk_cell ((HBL.out _ (by omega)).trans Q5.out) 0).trans rfl : W2.cell? ⟨w.heap.size + 1 + 1 + 1 + 1 + 1,0,none⟩ = some (.map (some (w.heap.size + 4))))
  have h1A:=fun o : Obj => ((hBA o).cell (p:=⟨w.heap.size + 1,0,none⟩) (show w.heap.size + 1 < _ by omega)).trans ((blk_cell ((HBL.out _ (by omega)).trans Q1.out) 0).trans rfl : W2.cell? ⟨w.heap.size + 1,0,none⟩ = some (.func (.func fs) #[] lbs))
  have FIN:=Aside0.mk (show ∀ W',NearC (fun i => i = w.heap.size + 2 ∨ i = w.heap.size + 4) W2 W' → MapF Try.prog 9 W' (w.heap.size + 2) (k + 1) (fSet (keptS p l (k + 1)).1) → MapF Try.prog 9 W' (w.heap.size + 4) (k + 1) (fSet (keptS p l (k + 1)).2) →
    KeepC (fun i => i = w.heap.size + 2 ∨ i = w.heap.size + 4) W2 W' ∧ ∃ k,k ≤ l.length ∧ pre2 ++ [(i,a,s)] = statK l k ∧ MapF Try.prog 9 W' (w.heap.size + 2) k (fSet (keptS p l k).1) ∧ MapF Try.prog 9 W' (w.heap.size + 4) k (fSet (keptS p l k).2) ∧
     (∀ i,(i = w.heap.size ∨ i = w.heap.size + 1 ∨ i = w.heap.size + 3 ∨ i = w.heap.size + 5) → W'.heap[i]? = Wl.heap[i]?) ∧ Below w.heap.size w W' from by
   intro W' hn h1 h2
   exact ⟨hn.2.2.2,k + 1,hk',HP.out,h1,h2,fun i hi => (hn.2.2.2.same i (by omega) (by omega)).trans (HBL.out i hi),below_reads HBB.out (Nat.le_refl _) hn.2.2.2.size hn.1 hn.2.1 hn.2.2.1 (fun i hi => hn.2.2.2.same i (by omega) (by omega))⟩)
  clear hBA
  by_cases k3 : x.f0 = 3
  ·rw [k3] at hx0
   have HK2:=Aside0.mk (HKS.out.trans (if_pos (.inl k3)))
   clear k3
   gi_wp2_with (gi_at_mapUpdate;refine wpListIn_storeF rfl _ _ _ 49 rfl 9 4 Try.underlying9 Try.underlying49 rfl (HM2.out.alloc _) (by unfold maxLen;omega) x.f2 rfl hxm2 (.bool true) rfl ?_;intro w8 hs8 hg8;have HS8:=Aside0.mk hs8;have HG8:=Aside0.mk hg8;clear hs8 hg8)
   exact FIN.out _ (((NearC.refl _ _).alloc _).grown HG8.out (.inr rfl)) (by rw [HK2.out];exact (((HM1.out.alloc _).kept HG8.out (by simp)).mono (Nat.le_succ _))) (by rw [HK2.out,← fSet_put];exact HS8.out)
  ·have k3b : (x.f0 == 3) = false:=beq_eq_false_iff_ne.mpr k3
   by_cases k2 : s = 2
   ·have HK2:=Aside0.mk (HKS.out.trans (if_pos (.inr k2)))
    rw [k2] at hc1 hcA
    clear k3 k2
    gi_wp2_with (gi_at_mapUpdate;refine wpListIn_storeF rfl _ _ _ 49 rfl 9 4 Try.underlying9 Try.underlying49 rfl (HM2.out.alloc _) (by unfold maxLen;omega) x.f2 rfl hxm2 (.bool true) rfl ?_;intro w8 hs8 hg8;have HS8:=Aside0.mk hs8;have HG8:=Aside0.mk hg8;clear hs8 hg8)
    exact FIN.out _ (((NearC.refl _ _).alloc _).grown HG8.out (.inr rfl)) (by rw [HK2.out];exact (((HM1.out.alloc _).kept HG8.out (by simp)).mono (Nat.le_succ _))) (by rw [HK2.out,← fSet_put];exact HS8.out)
   ·have k2b : (s == 2) = false:=beq_eq_false_iff_ne.mpr k2
    have HKN:=Aside0.mk (HKS.out.trans (if_neg (by rintro (h | h);exact k3 h;exact k2 h)))
    by_cases k0 : x.f0 = 0
    ·obtain ⟨r,hr⟩ : ∃ r,r = p x s:=⟨_,rfl⟩
     have HJ0:=Aside0.mk (show ∀ W,Below w.heap.size w W → Calls Try.prog fs (#[.agg #[.int .i64 0,.string x.f1,.string x.f2,.string x.f3],.int .i64 s] ++ lbs) W fun e w' => e = .returned (.bool r) ∧ Below W.heap.size W w' from fun W hW => by
      have:=HJJ.out W x s hW
      unfold evV at this
      rw [k0,← hr] at this
      exact this)
     rw [k0] at hx0
     have hff : Fence.wide.fn fs:=trivial
     cases r with
     | true =>
      have HK2:=Aside0.mk (HKN.out.trans (if_pos ⟨k0,hr.symm⟩))
      clear k3 k2 k0 hr HKN
      gi_wp2_with (first | ((first | refine ⟨fun h => absurd (show false = true from h) (by decide),?_⟩ | skip);gi_at_fn fs;refine (CallsIn.inRound _ (callsIn_wide.2 (HJ0.out _ (HBB.out.alloc (by omega) _)))).mono ?_;rintro e w9 ⟨rfl,hb9⟩;have HB9:=Aside0.mk hb9;have HM19:=Aside0.mk ((HM1.out.alloc (.cells #[.int .i64 0,.string x.f1,.string x.f2,.string x.f3] 51)).below hb9);have HM29:=Aside0.mk ((HM2.out.alloc (.cells #[.int .i64 0,.string x.f1,.string x.f2,.string x.f3] 51)).below hb9);have hx29 : w9.cell? ⟨W2.heap.size,2,none⟩ = some (.string x.f2):=(blk_cell (blk_below (blk_new W2 (.cells #[.int .i64 0,.string x.f1,.string x.f2,.string x.f3] 51)) hb9) 2).trans rfl;have hv39 : w9.cell? ⟨w.heap.size + 1 + 1 + 1,0,none⟩ = some (.map (some (w.heap.size + 2))):=(blk_cell (blk_below (blk_alloc ((HBL.out _ (by omega)).trans Q3.out) (.cells #[.int .i64 0,.string x.f1,.string x.f2,.string x.f3] 51)) hb9) 0).trans rfl;clear hb9) | (gi_at_mapUpdate;refine wpListIn_storeF rfl _ _ _ 49 rfl 9 4 Try.underlying9 Try.underlying49 rfl HM19.out (by unfold maxLen;omega) x.f2 rfl hxm2 (.bool true) rfl ?_;intro w8 hs8 hg8;have HS8:=Aside0.mk hs8;have HG8:=Aside0.mk hg8;clear hs8 hg8))
      exact FIN.out _ ((((NearC.refl _ _).alloc _).below HB9.out).grown HG8.out (.inl rfl)) (by rw [HK2.out,← fSet_put];exact HS8.out) (by rw [HK2.out];exact (HM29.out.kept HG8.out (by simp)).mono (Nat.le_succ _))
     | false =>
      have HK2:=Aside0.mk (HKN.out.trans (if_neg (by rintro ⟨_,h⟩;rw [← hr] at h;cases h)))
      clear k3 k2 k0 hr HKN
      gi_wp2_with (first | ((first | refine ⟨fun h => absurd (show false = true from h) (by decide),?_⟩ | skip);gi_at_fn fs;refine (CallsIn.inRound _ (callsIn_wide.2 (HJ0.out _ (HBB.out.alloc (by omega) _)))).mono ?_;rintro e w9 ⟨rfl,hb9⟩;have HB9:=Aside0.mk hb9;have HM19:=Aside0.mk ((HM1.out.alloc (.cells #[.int .i64 0,.string x.f1,.string x.f2,.string x.f3] 51)).below hb9);have HM29:=Aside0.mk ((HM2.out.alloc (.cells #[.int .i64 0,.string x.f1,.string x.f2,.string x.f3] 51)).below hb9);have hx29 : w9.cell? ⟨W2.heap.size,2,none⟩ = some (.string x.f2):=(blk_cell (blk_below (blk_new W2 (.cells #[.int .i64 0,.string x.f1,.string x.f2,.string x.f3] 51)) hb9) 2).trans rfl;have hv39 : w9.cell? ⟨w.heap.size + 1 + 1 + 1,0,none⟩ = some (.map (some (w.heap.size + 2))):=(blk_cell (blk_below (blk_alloc ((HBL.out _ (by omega)).trans Q3.out) (.cells #[.int .i64 0,.string x.f1,.string x.f2,.string x.f3] 51)) hb9) 0).trans rfl;clear hb9) | (gi_at_mapUpdate;refine wpListIn_storeF rfl _ _ _ 49 rfl 9 4 Try.underlying9 Try.underlying49 rfl HM19.out (by unfold maxLen;omega) x.f2 rfl hxm2 (.bool true) rfl ?_;intro w8 hs8 hg8;have HS8:=Aside0.mk hs8;have HG8:=Aside0.mk hg8;clear hs8 hg8))
      exact FIN.out _ (((NearC.refl _ _).alloc _).below HB9.out) (by rw [HK2.out];exact HM19.out.mono (Nat.le_succ _)) (by rw [HK2.out];exact HM29.out.mono (Nat.le_succ _))
    ·have k0b : (x.f0 == 0) = false:=beq_eq_false_iff_ne.mpr k0
     have HK2:=Aside0.mk (HKN.out.trans (if_neg (fun h => k0 h.1)))
     clear k3 k2 k0 HKN
     gi_wp2
     refine ⟨fun _ h => (by cases h),?_⟩
     gi_wp2
     exact FIN.out (W2.alloc (.cells #[.int .i64 x.f0,.string x.f1,.string x.f2,.string x.f3] 51)) ((NearC.refl _ _).alloc _) (by rw [HK2.out];exact (HM1.out.alloc _).mono (Nat.le_succ _)) (by rw [HK2.out];exact (HM2.out.alloc _).mono (Nat.le_succ _))
 case done =>
  rintro xs W' rfl ⟨k,hk,hp,hm1,hm2,hb,hB⟩ hK hsz
  obtain rfl:=statK_inj hp
  have hc3 : W'.cell? ⟨w.heap.size + 1 + 1 + 1,0,none⟩ = some (.map (some (w.heap.size + 2))):=(blk_cell ((hb _ (by omega)).trans q3) 0).trans rfl
  have hc5 : W'.cell? ⟨w.heap.size + 1 + 1 + 1 + 1 + 1,0,none⟩ = some (.map (some (w.heap.size + 4))):=(blk_cell ((hb _ (by omega)).trans q5) 0).trans rfl
  have hdel:=delete_ok 72 (enters_of Try.func72 (by kernel_rfl) rfl) never72 (w.heap.size + 2) l.length (w.heap.size + 1 + 1 + 1 + 1 + 1) (w.heap.size + 4) l.length _ _ W' hm1 hc5 hm2 (by omega) (by omega)
  rw [hsl] at hK
  have HDEL:=Aside0.mk hdel
  have HB:=Aside0.mk hB
  clear hdel hm1 hm2 hb hB q0 q1 q2 q3 q4 q5 hbl hL0 hp
  gi_wp2_with ((first | refine ⟨fun h => absurd h (by decide),?_⟩ | skip);gi_at_call 55;refine (callsIn_wide.2 HDEL.out).mono ?_;rintro e w9 ⟨rfl,hm9,hg9⟩;have HM9:=Aside0.mk hm9;have HG9:=Aside0.mk hg9;have hc39 : w9.cell? ⟨w.heap.size + 1 + 1 + 1,0,none⟩ = some (.map (some (w.heap.size + 2))):=(World.cell?_of_block (hg9.block (w.heap.size + 3) (by omega) (by simp))).trans hc3;clear hm9 hg9)
  have hK9 : w9.heap[w.heap.size + 7]? = some (.deferred (some [])):=(HG9.out.block (w.heap.size + 7) (by omega) (by simp)).trans hK
  have hD:=(Array.getElem?_eq_some_iff.1 hK9).1
  refine ⟨by simp,.inl ⟨_,_,rfl,run_takeDeferred hK9,?_⟩⟩
  refine ⟨_,results_tmp (fn:=Try.f53) rfl _ _ _,w.heap.size + 2,rfl,by omega,?_,?_⟩
  ·exact (HM9.out.same (World.putObj_heap_other (by omega))).mono hl
  ·exact below_reads (HB.out.grown HG9.out HB.out.size (fun k e => by cases e;omega)) (Nat.le_refl _) (by simp) rfl rfl rfl (fun i hi => World.putObj_heap_other (by omega))
end Go.Proofs.Ytnmmdeonkpfccaa.Pr
set_option linter.unusedVariables false
namespace Go.Proofs.Ytnmmdeonkpfccaa.Pr
open Go.RowKit Go.Shelf Go.Maps Go.Proofs.YtnmmdeonkpfccaaW.PrintWords Go.Proofs.YtnmmdeonkpfccaaW.PrintLast Go.Proofs.YtnmmdeonkpfccaaW.PrintMore
open Go.Proofs.Ytnmmdeonkpfccaa.Rg
set_option maxHeartbeats 1000000 in
theorem judges68 (w : World) : Judges 68 #[] (fun _ s => s == 3) w:=by
 intro W x s hW
 show Calls Try.prog 68 #[.agg #[.int .i64 x.f0,.string x.f1,.string x.f2,.string x.f3],.int .i64 s] W _
 go_enter Try.func68,Try.ntmps68
 go_wp2
 go_ret
 exact ⟨rfl,(Below.refl _ W).alloc (Nat.le_refl _) _⟩
def recL (l : List S51) : List (List UInt8):=keptL (fun _ s => s == 3) l
theorem recalled_ok (A0 : Option Addr) (c0 : Nat) (l : List (S51)) (w : World) (hr0 : Kd.C k51 w A0 l.length l) (hck : checkV l = 0) :
  Calls Try.prog 41 #[.slice A0 l.length c0] w fun e w' => ∃ b,e = .returned (.map (some b)) ∧ w.heap.size ≤ b ∧ MapF Try.prog 9 w' b 4096 (fSet (recL l)) ∧ Below w.heap.size w w':=by
 obtain ⟨hl,hnx⟩:=check_zero hck
 have hk:=kept_ok A0 c0 l 68 #[] (fun _ s => s == 3) w hr0 hl (fun x hx => (namesX_zero (hnx x hx)).2.1) (fun x hx => (namesX_zero (hnx x hx)).2.2.1) (enters_of Try.func68 (by kernel_rfl) rfl) (judges68 w)
 go_enter Try.func41,Try.ntmps41
 go_wp2_with (go_at_call 53;refine hk.mono ?_;rintro e w1 ⟨b,rfl,h1,h2,h3⟩)
 go_ret
 exact ⟨b,rfl,h1,h2,h3⟩
def partsV (l : List S51) : List ByteArray × Int:=if checkV l ≠ 0 then ([],checkV l) else (strs (recL l),0)
def recall_Parts.f (l : List S51) : Option (List ByteArray × Int):=some (partsV l)
set_option maxHeartbeats 1000000 in
set_option maxRecDepth 100000 in
theorem recall_Parts.calls (A0 : Option Addr) (c0 : Nat) (l0 : List (S51)) (r1 : List ByteArray) (r2 : Int) (w : World) (hr0 : Kd.C k51 w A0 l0.length l0) (hc0 : l0.length ≤ c0) (h : recall_Parts.f l0 = some (r1,r2)) :
  Calls Try.prog 14 #[.slice A0 l0.length c0] w fun e w' => ∃ v0_ : Value,e = .returned (.tuple #[v0_,.int .i64 r2]) ∧ Kd.R Kd.string 9 w' w.heap.size (fun _ => True) v0_ r1 ∧ Below w.heap.size w w':=by
 have e:=Option.some.inj h
 clear h
 have HR0:=Aside0.mk hr0
 by_cases hck : checkV l0 = 0
 ·have hr : r1 = strs (recL l0) ∧ r2 = 0:=by unfold partsV at e;rw [if_neg (by rw [hck];decide)] at e;cases e;exact ⟨rfl,rfl⟩
  obtain ⟨rfl,rfl⟩:=hr
  have HCK:=Aside0.mk (recall_Check.calls A0 c0 l0 0 w hr0 hc0 (congrArg some hck))
  have HH:=Aside0.mk hck
  clear e hck hr0
  go_enter Try.func14,Try.ntmps14
  go_wp2_with (first | (go_at_call 16;refine HCK.out.mono ?_;rintro e w1 ⟨rfl,hb1⟩;have HB1:=Aside0.mk hb1;clear hb1) | (go_at_call 41;refine (recalled_ok A0 c0 l0 _ (Kd.C_below HR0.out HB1.out) HH.out).mono ?_;rintro e w2 ⟨b,rfl,h1,h2,h3⟩;have H1:=Aside0.mk h1;have H2:=Aside0.mk h2;have H3:=Aside0.mk h3;clear h1 h2 h3) | (go_at_call 40;refine (sorted_ok b 4096 (recL l0) _ H2.out (by omega)).mono ?_;rintro e w3 ⟨v,rfl,h4,h5⟩;have H4:=Aside0.mk h4;have H5:=Aside0.mk h5;clear h4 h5))
  go_ret2
  have hb2:=HB1.out.trans (H3.out.mono HB1.out.size)
  exact ⟨_,rfl,R_base H4.out hb2.size,hb2.trans (H5.out.mono hb2.size)⟩
 ·obtain ⟨g,hg⟩ : ∃ g,g = checkV l0:=⟨_,rfl⟩
  have hr : r1 = [] ∧ r2 = g:=by unfold partsV at e;rw [if_pos hck] at e;cases e;exact ⟨rfl,hg.symm⟩
  obtain ⟨rfl,rfl⟩:=hr
  have HCK:=Aside0.mk (recall_Check.calls A0 c0 l0 r2 w hr0 hc0 (congrArg some hg.symm))
  rw [← hg] at hck
  have hg1 : (r2 != 0) = true:=bne_iff_ne.mpr hck
  have hg2 : (r2 == 0) = false:=beq_eq_false_iff_ne.mpr hck
  clear e hg hck hr0
  go_enter Try.func14,Try.ntmps14
  go_wp2_with (go_at_call 16;refine HCK.out.mono ?_;rintro e w1 ⟨rfl,hb1⟩;have HB1:=Aside0.mk hb1;clear hb1)
  go_ret2
  exact ⟨_,rfl,Kd.R_nil _ _ _ _ _,HB1.out⟩
def lotK (l : List S51) : Nat → List (List UInt8)
 | 0 => []
 | k + 1 => if (l.getD k z51).f0 = 0 ∧ (l.getD k z51).f2.data.toList ∈ recL l then (l.getD k z51).f3.data.toList :: lotK l k else lotK l k
def lotsV (l : List S51) : List ByteArray × Int:=if checkV l ≠ 0 then ([],checkV l) else (strs (lotK l l.length),0)
def recall_Lots.f (l : List S51) : Option (List ByteArray × Int):=some (lotsV l)
set_option maxHeartbeats 1000000 in
set_option maxRecDepth 100000 in
theorem recall_Lots.calls (A0 : Option Addr) (c0 : Nat) (l0 : List (S51)) (r1 : List ByteArray) (r2 : Int) (w : World) (hr0 : Kd.C k51 w A0 l0.length l0) (hc0 : l0.length ≤ c0) (h : recall_Lots.f l0 = some (r1,r2)) :
  Calls Try.prog 20 #[.slice A0 l0.length c0] w fun e w' => ∃ v0_ : Value,e = .returned (.tuple #[v0_,.int .i64 r2]) ∧ Kd.R Kd.string 9 w' w.heap.size (fun _ => True) v0_ r1 ∧ Below w.heap.size w w':=by
 have e:=Option.some.inj h
 clear h
 have HR0:=Aside0.mk hr0
 by_cases hck : checkV l0 = 0
 ·have hr : r1 = strs (lotK l0 l0.length) ∧ r2 = 0:=by unfold lotsV at e;rw [if_neg (by rw [hck];decide)] at e;cases e;exact ⟨rfl,rfl⟩
  obtain ⟨rfl,rfl⟩:=hr
  have HCK:=Aside0.mk (recall_Check.calls A0 c0 l0 0 w hr0 hc0 (congrArg some hck))
  have HH:=Aside0.mk hck
  obtain ⟨hl,hnx⟩:=check_zero hck
  have HNX:=Aside0.mk hnx
  have hu51:=Try.underlying51
  have hmm:=@run_makeMap Try.prog
  clear e hck hr0 hnx
  go_enter Try.func20,Try.ntmps20
  go_wp2_with (first | (go_at_call 16;refine HCK.out.mono ?_;rintro e w1 ⟨rfl,hb1⟩;have HB1:=Aside0.mk hb1;clear hb1) | (go_at_call 41;refine (recalled_ok A0 c0 l0 _ (Kd.C_below HR0.out HB1.out) HH.out).mono ?_;rintro e w2 ⟨b,rfl,h1,h2,h3⟩;have H1:=Aside0.mk h1;have H2:=Aside0.mk h2;have H3:=Aside0.mk h3;clear h1 h2 h3))
  have hsz2:=H3.out.size
  have hsz1:=HB1.out.size
  have hb2:=H2.out.lt
  have hb1:=H1.out
  go_loopw [19] (fun vi wr => ∃ (k : Nat),k ≤ l0.length ∧ vi = .int .i64 (k : Int) ∧ Aside0 (Below w.heap.size w wr) ∧ Aside0 (MapF Try.prog 9 wr b 4096 (fSet (recL l0))) ∧ Aside0 (MapF Try.prog 9 wr w2.heap.size k (fSet (lotK l0 k)))) (fun vi _ => l0.length - (intOf vi).toNat)
  case atStart => exact ⟨0,by omega,rfl,⟨(HB1.out.trans (H3.out.mono HB1.out.size)).alloc (by omega) _⟩,⟨H2.out.alloc _⟩,⟨by rw [show lotK l0 0 = [] from rfl,fSet_nil];exact MapF.made w2 Try.prog 9⟩⟩
  case round =>
   obtain ⟨k,hk,rfl,HB,HM,HL⟩:=hrel
   by_cases hlt : k < l0.length
   ·obtain ⟨x,hx⟩ : ∃ x,x = l0.getD k z51:=⟨_,rfl⟩
    have hxg : x = l0[k]:=by rw [hx,List.getD_eq_getElem?_getD,List.getElem?_eq_getElem hlt];rfl
    have hrd : rd_T51 l0 (k : Int) = x:=by unfold rd_T51;rw [Int.toNat_natCast,hx]
    obtain ⟨hkind,hs1,hs2,hs3⟩:=namesX_zero (HNX.out x (by rw [hxg];exact List.getElem_mem _))
    have hm2 : x.f2.size ≤ maxLen:=by unfold maxLen;omega
    have hm3 : x.f3.size ≤ maxLen:=by unfold maxLen;omega
    obtain ⟨ad,e1,hx0,hx1,hx2,hx3⟩:=at_T51 HR0.out (k : Int) (by omega) (by omega)
    cases e1
    rw [hrd,Int.toNat_natCast] at hx0 hx1 hx2 hx3
    replace hx0:=(HB.out.cell (World.block_lt_of_cell? w _ hx0)).trans hx0
    replace hx1:=(HB.out.cell (World.block_lt_of_cell? w _ hx1)).trans hx1
    replace hx2:=(HB.out.cell (World.block_lt_of_cell? w _ hx2)).trans hx2
    replace hx3:=(HB.out.cell (World.block_lt_of_cell? w _ hx3)).trans hx3
    have HLK:=Aside0.mk (show lotK l0 (k + 1) = if x.f0 = 0 ∧ x.f2.data.toList ∈ recL l0 then x.f3.data.toList :: lotK l0 k else lotK l0 k from by rw [hx];rfl)
    obtain ⟨gn,hgn⟩ : ∃ gn,gn = decide (x.f2.data.toList ∈ recL l0):=⟨_,rfl⟩
    have HGN:=Aside0.mk (show (fSet (recL l0) x.f2.data.toList).getD (.bool false) = .bool gn from by rw [hgn];unfold fSet;by_cases hh : x.f2.data.toList ∈ recL l0 <;> simp [hh])
    have hszr:=HB.out.size
    clear hx hrd hxg hs1 hs2 hs3 hkind
    by_cases k0 : x.f0 = 0
    ·rw [k0] at hx0
     cases gn with
     | true =>
      have HK2:=Aside0.mk (HLK.out.trans (if_pos ⟨k0,of_decide_eq_true hgn.symm⟩))
      clear k0 hgn HLK
      go_wp2_with (first | (at_lookup;refine wpList_unguard rfl rfl ?_;refine wpList_lookF rfl _ _ 49 rfl 9 4 Try.underlying9 Try.underlying49 (Try.zeroValue4 _) rfl (HM.out.alloc _) x.f2 rfl hm2 (.bool true) HGN.out ?_) | (at_mapUpdate;refine wpList_storeF rfl _ _ _ 49 rfl 9 4 Try.underlying9 Try.underlying49 rfl (HL.out.alloc _) (by unfold maxLen;omega) x.f3 rfl hm3 (.bool true) rfl ?_;intro w9 hs9 hg9;have HS9:=Aside0.mk hs9;have HG9:=Aside0.mk hg9;clear hs9 hg9))
      go_roundw
      case rel => exact ⟨k + 1,by omega,by go_num,⟨(HB.out.alloc hszr _).grown HG9.out (by simp;omega) (fun k e => by cases e;omega)⟩,⟨(HM.out.alloc _).kept HG9.out (by simp;omega)⟩,⟨by rw [HK2.out,← fSet_put];exact HS9.out⟩⟩
      case measure => (simp [intOf] <;> omega)
     | false =>
      have HK2:=Aside0.mk (HLK.out.trans (if_neg (by rintro ⟨_,h⟩;rw [decide_eq_true h] at hgn;cases hgn)))
      clear k0 hgn HLK
      go_wp2_with (first | (at_lookup;refine wpList_unguard rfl rfl ?_;refine wpList_lookF rfl _ _ 49 rfl 9 4 Try.underlying9 Try.underlying49 (Try.zeroValue4 _) rfl (HM.out.alloc _) x.f2 rfl hm2 (.bool false) HGN.out ?_))
      go_roundw
      case rel => exact ⟨k + 1,by omega,by go_num,⟨HB.out.alloc hszr _⟩,⟨HM.out.alloc _⟩,⟨by rw [HK2.out];exact (HL.out.alloc _).mono (Nat.le_succ _)⟩⟩
      case measure => (simp [intOf] <;> omega)
    ·have k0b : (x.f0 == 0) = false:=beq_eq_false_iff_ne.mpr k0
     have HK2:=Aside0.mk (HLK.out.trans (if_neg (fun h => k0 h.1)))
     clear k0 hgn HLK
     go_wp2
     go_roundw
     case rel => exact ⟨k + 1,by omega,by go_num,⟨HB.out.alloc hszr _⟩,⟨HM.out.alloc _⟩,⟨by rw [HK2.out];exact (HL.out.alloc _).mono (Nat.le_succ _)⟩⟩
     case measure => (simp [intOf] <;> omega)
   ·obtain rfl : k = l0.length:=by omega
    go_wp2_with (go_at_call 40;refine (sorted_ok w2.heap.size l0.length (lotK l0 l0.length) _ HL.out (by omega)).mono ?_;rintro e w3 ⟨v,rfl,h4,h5⟩;have H4:=Aside0.mk h4;have H5:=Aside0.mk h5;clear h4 h5)
    go_ret2
    exact ⟨_,rfl,R_base H4.out HB.out.size,HB.out.trans (H5.out.mono HB.out.size)⟩
 ·obtain ⟨g,hg⟩ : ∃ g,g = checkV l0:=⟨_,rfl⟩
  have hr : r1 = [] ∧ r2 = g:=by unfold lotsV at e;rw [if_pos hck] at e;cases e;exact ⟨rfl,hg.symm⟩
  obtain ⟨rfl,rfl⟩:=hr
  have HCK:=Aside0.mk (recall_Check.calls A0 c0 l0 r2 w hr0 hc0 (congrArg some hg.symm))
  rw [← hg] at hck
  have hg1 : (r2 != 0) = true:=bne_iff_ne.mpr hck
  have hg2 : (r2 == 0) = false:=beq_eq_false_iff_ne.mpr hck
  clear e hg hck hr0
  go_enter Try.func20,Try.ntmps20
  go_wp2_with (go_at_call 16;refine HCK.out.mono ?_;rintro e w1 ⟨rfl,hb1⟩;have HB1:=Aside0.mk hb1;clear hb1)
  go_ret2
  exact ⟨_,rfl,Kd.R_nil _ _ _ _ _,HB1.out⟩
end Go.Proofs.Ytnmmdeonkpfccaa.Pr
set_option linter.unusedVariables false
namespace Go.Proofs.Ytnmmdeonkpfccaa.Pr
open Go.RowKit Go.Shelf Go.Maps Go.Proofs.YtnmmdeonkpfccaaW.PrintWords Go.Proofs.YtnmmdeonkpfccaaW.PrintLast Go.Proofs.YtnmmdeonkpfccaaW.PrintMore
open Go.Proofs.Ytnmmdeonkpfccaa.Rg
instance inhS51 : Inhabited S51:=⟨z51⟩
def measP (s : ByteArray) (x : S51) : Bool:=x.f0 == 0 && decide (x.f2.data.toList = s.data.toList)
def evL (x : S51) : List Value:=[.int .i64 x.f0,.string x.f1,.string x.f2,.string x.f3]
set_option maxHeartbeats 1000000 in
set_option maxRecDepth 100000 in
theorem judges50 (g : ByteArray) (Bg : Nat) (w : World) (hb : w.cell? ⟨Bg,0,none⟩ = some (.string g)) : PredBelow Try.prog 50 #[.pointer (some ⟨Bg,0,none⟩)] (fun x => .agg (evL x).toArray) (measP g) w:=by
 intro W x hW
 show Calls Try.prog 50 #[.agg #[.int .i64 x.f0,.string x.f1,.string x.f2,.string x.f3],.pointer (some ⟨Bg,0,none⟩)] W _
 have hbl:=World.block_lt_of_cell? w _ hb
 have hbW : W.cell? ⟨Bg,0,none⟩ = some (.string g):=(hW.cell (p:=⟨Bg,0,none⟩) hbl).trans hb
 have hbB : ∀ o : Obj,(W.alloc o).cell? ⟨Bg,0,none⟩ = some (.string g):=fun o => (((Below.refl _ W).alloc (Nat.le_refl _) o).cell (p:=⟨Bg,0,none⟩) (Nat.lt_of_lt_of_le hbl hW.size)).trans hbW
 have HB:=Aside0.mk (show ∀ o : Obj,Below w.heap.size w (W.alloc o) from fun o => hW.alloc hW.size o)
 by_cases h0 : x.f0 = 0
 ·obtain ⟨r,hr⟩ : ∃ r,r = decide (x.f2.data.toList = g.data.toList):=⟨_,rfl⟩
  have hrr : measP g x = r:=by rw [hr];unfold measP;rw [h0];rfl
  rw [hrr]
  have he : (x.f2.toList == g.toList) = r:=by rw [hr,ByteArray.toList_eq,ByteArray.toList_eq];exact Bool.eq_iff_iff.2 (by simp)
  have he2 : decide (x.f2.toList = g.toList) = r:=by rw [hr,ByteArray.toList_eq,ByteArray.toList_eq]
  rw [h0]
  clear hr hrr h0
  go_enter Try.func50,Try.ntmps50
  go_wp2
  go_ret
  exact ⟨rfl,HB.out _⟩
 ·have h0b : (x.f0 == 0) = false:=beq_eq_false_iff_ne.mpr h0
  have hr : measP g x = false:=by unfold measP;rw [h0b];rfl
  rw [hr]
  clear h0
  go_enter Try.func50,Try.ntmps50
  go_wp2
  go_ret
  exact ⟨rfl,HB.out _⟩
set_option maxHeartbeats 1000000 in
set_option maxRecDepth 100000 in
theorem index_none (A0 : Option Addr) (c0 : Nat) (fv : Value) (w : World) : Calls Try.prog 58 #[.slice A0 0 c0,fv] w fun e w' => e = .returned (.int .i64 (-1)) ∧ Below w.heap.size w w':=by
 go_enter Try.func58,Try.ntmps58
 go_wp2
 go_loopw [8] (fun v wr => v = .int .i64 0 ∧ wr = w) (fun _ _ => 0)
 case atStart => exact ⟨rfl,rfl⟩
 case round =>
  obtain ⟨rfl,rfl⟩:=hrel
  go_wp2
  go_ret
  exact ⟨rfl,Below.refl _ _⟩
theorem has_ok (A0 : Option Addr) (c0 : Nat) (l : List S51) (g : ByteArray) (Bg : Nat) (w : World) (hr0 : Kd.C k51 w A0 l.length l) (hl : l.length ≤ 4096) (hb : w.cell? ⟨Bg,0,none⟩ = some (.string g)) :
  Calls Try.prog 29 #[.slice A0 l.length c0,.func (.func 50) #[] #[.pointer (some ⟨Bg,0,none⟩)]] w fun e w' => e = .returned (.bool (l.any (measP g))) ∧ Below w.heap.size w w':=by
 cases l with
 | nil =>
  show Calls Try.prog 29 #[.slice A0 0 c0,.func (.func 50) #[] #[.pointer (some ⟨Bg,0,none⟩)]] w _
  go_enter Try.func29,Try.ntmps29
  go_wp2_with (go_at_call 58;refine (index_none A0 c0 _ w).mono ?_;rintro e w1 ⟨rfl,hb1⟩)
  go_ret
  exact ⟨rfl,hb1⟩
 | cons y r =>
  obtain ⟨ad,e1,h0,_⟩:=at_T51 hr0 0 (Int.le_refl _) (by simp)
  subst e1
  obtain ⟨b,off,spot⟩:=ad
  have hs : spot = none:=by
   unfold World.cell? at h0
   split at h0
   ·split at h0
    ·cases h0
    ·rename_i hs
     simp [Addr.add] at hs
     exact hs
   ·cases h0
  subst hs
  have hblk : b < w.heap.size:=by
   have:=World.block_lt_of_cell? w _ h0
   simpa [Addr.add] using this
  have:=AnyQ.slices_ContainsFunc Try.cf29 4 Try.isAgg51 Try.sizeOf51 evL (fun _ => rfl) (measP g) 50 #[.pointer (some ⟨Bg,0,none⟩)] (enters_of Try.func50 (by kernel_rfl) rfl) b off (y :: r).length c0 (y :: r) w (judges50 g Bg w hb) (Nat.le_refl _) (by omega) hblk ?_
  ·rw [List.take_length] at this
   exact this
  ·intro j hj i v hv
   obtain ⟨ad,e,k0,k1,k2,k3⟩:=at_T51 hr0 (j : Int) (by omega) (by omega)
   cases e
   have hrd : rd_T51 (y :: r) (j : Int) = (y :: r)[j]!:=by unfold rd_T51;rw [Int.toNat_natCast,List.getD_eq_getElem?_getD,List.getElem!_eq_getElem?_getD];rfl
   have hadd : (Addr.add ⟨b,off,none⟩ ((j : Int).toNat * 4)) = ⟨b,off + j * 4,none⟩:=by
    rw [Int.toNat_natCast]
    unfold Addr.add
    split
    ·rename_i h;rw [h];rfl
    ·rfl
   rw [hadd,hrd] at k0 k1 k2 k3
   match i,hv with
   | 0,hv => cases hv;exact k0
   | 1,hv => cases hv;exact k1
   | 2,hv => cases hv;exact k2
   | 3,hv => cases hv;exact k3
end Go.Proofs.Ytnmmdeonkpfccaa.Pr
set_option linter.unusedVariables false
namespace Go.Proofs.Ytnmmdeonkpfccaa.Pr
open Go.RowKit Go.Shelf Go.Maps Go.Proofs.YtnmmdeonkpfccaaW.PrintWords Go.Proofs.YtnmmdeonkpfccaaW.PrintLast Go.Proofs.YtnmmdeonkpfccaaW.PrintMore
open Go.Proofs.Ytnmmdeonkpfccaa.Rg
attribute [local go_sem] Oper.semAt_some
def reasK (l : List S51) (g : ByteArray) : Nat → Int × Int
 | 0 => (0,0)
 | k + 1 => if (evK l k).f0 = 0 ∧ (evK l k).f2.data.toList = g.data.toList ∧ (chkA l k).2 = 3 then ((l.length : Int) - 1 - k,(chkA l k).1) else reasK l g k
def reasonV (l : List S51) (g : ByteArray) : Int × Int × Int :=
 if checkV l ≠ 0 then (0,0,checkV l) else if nameL g.data.toList ≠ 0 then (0,0,nameL g.data.toList)
 else if l.any (measP g) = false then (0,0,6) else if g.data.toList ∉ recL l then (0,0,14) else ((reasK l g l.length).1,(reasK l g l.length).2,0)
def recall_Reason.f (l : List S51) (g : ByteArray) : Option (Int × Int × Int):=some (reasonV l g)
theorem results_cct {fn : Func} {p q u : Tmp} (h : fn.results = #[.cell p 3,.cell q 3,.tmp u]) (tmps : Array Value) (w : World) {ap aq : Addr} {vp vq : Value} (hp : tmps[p]?.getD undef = .pointer (some ap)) (hq : tmps[q]?.getD undef = .pointer (some aq))
  (h1 : w.cell? ap = some vp) (h2 : w.cell? aq = some vq) : (results fn tmps).run Try.prog w = .ok (.tuple #[vp,vq,tmps.getD u undef]) w:=by
 have e : ∀ {a : Addr} {v : Value},w.cell? a = some v → (loadVar 3 a).run Try.prog w = .ok v w:=by
  intro a v hc
  simp [loadVar,Try.isAgg3,Sem.run_bind,Result.andThen,go_sem,hc]
 simp only [results,h]
 simp [Sem.run_bind,Result.andThen,hp,hq,asAddr,e h1,e h2]
theorem two_cells {w1 : World} {n : Nat} {z2 z3 : Value} (u v : Value) (C2 : w1.heap[n + 2]? = some (.cells #[z2] 3)) (C3 : w1.heap[n + 3]? = some (.cells #[z3] 3)) :
  ((w1.setCell ⟨n + 1 + 1,0,none⟩ u).setCell ⟨n + 1 + 1 + 1,0,none⟩ v).heap[n + 2]? = some (.cells #[u] 3) ∧ ((w1.setCell ⟨n + 1 + 1,0,none⟩ u).setCell ⟨n + 1 + 1 + 1,0,none⟩ v).heap[n + 3]? = some (.cells #[v] 3):=by
 refine ⟨?_,?_⟩
 ·rw [Below.heap_setCell _ _ _ _ (show n + 2 ≠ n + 1 + 1 + 1 by omega)]
  exact blk_put C2 0 u rfl
 ·refine blk_put (cs:=#[z3]) ?_ 0 v rfl
  rw [Below.heap_setCell _ _ _ _ (show n + 1 + 1 + 1 ≠ n + 1 + 1 by omega)]
  exact C3
theorem reason_world (A0 : Option Addr) (c0 : Nat) (l0 : List S51) (a1 : ByteArray) (w W4 : World) (hW4 : (((w.alloc (.cells #[.slice A0 l0.length c0] 22)).alloc (.cells #[.string a1] 9)).alloc (.cells #[.int .i64 0] 3)).alloc (.cells #[.int .i64 0] 3) = W4) :
  W4.heap.size = w.heap.size + 4 ∧ Below w.heap.size w W4 ∧ W4.heap[w.heap.size]? = some (.cells #[.slice A0 l0.length c0] 22) ∧ W4.heap[w.heap.size + 1]? = some (.cells #[.string a1] 9) ∧ W4.heap[w.heap.size + 2]? = some (.cells #[.int .i64 0] 3) ∧ W4.heap[w.heap.size + 3]? = some (.cells #[.int .i64 0] 3):=by
 subst hW4
 refine ⟨by simp,((((Below.refl _ w).alloc (Nat.le_refl _) _).alloc (by simp) _).alloc (by simp;omega) _).alloc (by simp;omega) _,blk_alloc (blk_alloc (blk_alloc (blk_new _ _) _) _) _,?_,?_,?_⟩
 ·have:=blk_new (w.alloc (.cells #[.slice A0 l0.length c0] 22)) (.cells #[.string a1] 9)
  rw [World.size_alloc] at this
  exact blk_alloc (blk_alloc this _) _
 ·have:=blk_new ((w.alloc (.cells #[.slice A0 l0.length c0] 22)).alloc (.cells #[.string a1] 9)) (.cells #[.int .i64 0] 3)
  rw [World.size_alloc,World.size_alloc] at this
  exact blk_alloc this _
 ·have:=blk_new (((w.alloc (.cells #[.slice A0 l0.length c0] 22)).alloc (.cells #[.string a1] 9)).alloc (.cells #[.int .i64 0] 3)) (.cells #[.int .i64 0] 3)
  rw [World.size_alloc,World.size_alloc,World.size_alloc] at this
  exact this
def RB (w : World) (A0 : Option Addr) (c0 len : Nat) (a1 : ByteArray) (z2 z3 : Value) (W : World) : Prop :=
 W.heap[w.heap.size]? = some (.cells #[.slice A0 len c0] 22) ∧ W.heap[w.heap.size + 1]? = some (.cells #[.string a1] 9) ∧ W.heap[w.heap.size + 2]? = some (.cells #[z2] 3) ∧ W.heap[w.heap.size + 3]? = some (.cells #[z3] 3) ∧ Below w.heap.size w W
theorem RB.below {w : World} {A0 : Option Addr} {c0 len : Nat} {a1 : ByteArray} {z2 z3 : Value} {W W' : World} (h : RB w A0 c0 len a1 z2 z3 W) (hb : Below W.heap.size W W') : RB w A0 c0 len a1 z2 z3 W' :=
 ⟨blk_below h.1 hb,blk_below h.2.1 hb,blk_below h.2.2.1 hb,blk_below h.2.2.2.1 hb,h.2.2.2.2.trans (hb.mono h.2.2.2.2.size)⟩
theorem RB.drew {w : World} {A0 : Option Addr} {c0 len : Nat} {a1 : ByteArray} {z2 z3 : Value} {W : World} (h : RB w A0 c0 len a1 z2 z3 W) : RB w A0 c0 len a1 z2 z3 W.drew:=⟨h.1,h.2.1,h.2.2.1,h.2.2.2.1,h.2.2.2.2.drew⟩
theorem RB.cells {w : World} {A0 : Option Addr} {c0 len : Nat} {a1 : ByteArray} {z2 z3 : Value} {W : World} (h : RB w A0 c0 len a1 z2 z3 W) :
  W.cell? ⟨w.heap.size,0,none⟩ = some (.slice A0 len c0) ∧ W.cell? ⟨w.heap.size + 1,0,none⟩ = some (.string a1) ∧ W.cell? ⟨w.heap.size + 1 + 1,0,none⟩ = some z2 ∧ W.frozen? ⟨w.heap.size + 1 + 1,0,none⟩ = false ∧
  W.cell? ⟨w.heap.size + 1 + 1 + 1,0,none⟩ = some z3 ∧ W.frozen? ⟨w.heap.size + 1 + 1 + 1,0,none⟩ = false ∧ (∀ u : Value,(W.setCell ⟨w.heap.size + 1 + 1,0,none⟩ u).cell? ⟨w.heap.size + 1 + 1 + 1,0,none⟩ = some z3):=by
 obtain ⟨h0,h1,h2,h3,_⟩:=h
 have e3 : W.cell? ⟨w.heap.size + 1 + 1 + 1,0,none⟩ = some z3:=(blk_cell h3 0).trans rfl
 exact ⟨(blk_cell h0 0).trans rfl,(blk_cell h1 0).trans rfl,(blk_cell h2 0).trans rfl,blk_frozen h2 0,e3,blk_frozen h3 0,fun u => (World.cell?_of_block (Below.heap_setCell _ _ _ _ (show w.heap.size + 1 + 1 + 1 ≠ w.heap.size + 1 + 1 by omega))).trans e3⟩
theorem RB.start (A0 : Option Addr) (c0 : Nat) (l0 : List S51) (a1 : ByteArray) (w W4 : World) (hW4 : (((w.alloc (.cells #[.slice A0 l0.length c0] 22)).alloc (.cells #[.string a1] 9)).alloc (.cells #[.int .i64 0] 3)).alloc (.cells #[.int .i64 0] 3) = W4) : RB w A0 c0 l0.length a1 (.int .i64 0) (.int .i64 0) W4:=by
 obtain ⟨_,hb4,q0,q1,q2,q3⟩:=reason_world A0 c0 l0 a1 w W4 hW4
 exact ⟨q0,q1,q2,q3,hb4⟩
theorem RB.zero {w : World} {A0 : Option Addr} {c0 len : Nat} {a1 : ByteArray} {z2 z3 : Value} {W : World} (h : RB w A0 c0 len a1 z2 z3 W) (u v : Value) :
  ((W.setCell ⟨w.heap.size + 1 + 1,0,none⟩ u).setCell ⟨w.heap.size + 1 + 1 + 1,0,none⟩ v).cell? ⟨w.heap.size + 1 + 1,0,none⟩ = some u ∧ ((W.setCell ⟨w.heap.size + 1 + 1,0,none⟩ u).setCell ⟨w.heap.size + 1 + 1 + 1,0,none⟩ v).cell? ⟨w.heap.size + 1 + 1 + 1,0,none⟩ = some v ∧
   Below w.heap.size w ((W.setCell ⟨w.heap.size + 1 + 1,0,none⟩ u).setCell ⟨w.heap.size + 1 + 1 + 1,0,none⟩ v):=by
 obtain ⟨t2,t3⟩:=two_cells u v h.2.2.1 h.2.2.2.1
 exact ⟨(blk_cell t2 0).trans rfl,(blk_cell t3 0).trans rfl,(h.2.2.2.2.setCell (p:=⟨w.heap.size + 1 + 1,0,none⟩) (show w.heap.size ≤ w.heap.size + 1 + 1 by omega) _).setCell (p:=⟨w.heap.size + 1 + 1 + 1,0,none⟩) (show w.heap.size ≤ w.heap.size + 1 + 1 + 1 by omega) _⟩
set_option maxHeartbeats 1000000 in
set_option maxRecDepth 100000 in
theorem Reason_err1 (A0 : Option Addr) (c0 : Nat) (l0 : List (S51)) (a1 : ByteArray) (g : Int) (w : World) (hr0 : Kd.C k51 w A0 l0.length l0) (hc0 : l0.length ≤ c0) (hg : checkV l0 = g) (hne : g ≠ 0) :
  Calls Try.prog 24 #[.slice A0 l0.length c0,.string a1] w fun e w' => e = .returned (.tuple #[.int .i64 0,.int .i64 0,.int .i64 g]) ∧ Below w.heap.size w w':=by
 obtain ⟨W4,hW4⟩ : ∃ W4,(((w.alloc (.cells #[.slice A0 l0.length c0] 22)).alloc (.cells #[.string a1] 9)).alloc (.cells #[.int .i64 0] 3)).alloc (.cells #[.int .i64 0] 3) = W4:=⟨_,rfl⟩
 have R0:=Aside0.mk (RB.start A0 c0 l0 a1 w W4 hW4)
 have k0:=R0.out.cells.1
 have HR0:=Aside0.mk hr0
 have HCK:=Aside0.mk (recall_Check.calls A0 c0 l0 g _ (Kd.C_below hr0 R0.out.2.2.2.2) hc0 (congrArg some hg))
 have hg1 : (g != 0) = true:=bne_iff_ne.mpr hne
 have hg2 : (g == 0) = false:=beq_eq_false_iff_ne.mpr hne
 clear hr0 hg hne
 go_enter Try.func24,Try.ntmps24
 go_wp2_with (go_at_call 16;refine HCK.out.mono ?_;rintro e w1 ⟨rfl,hb1⟩;have R1:=Aside0.mk (R0.out.below hb1);obtain ⟨u0,u1,u2,u3,u4,u5,u6⟩:=R1.out.cells;clear hb1 k0)
 obtain ⟨t2,t3,t4⟩:=R1.out.zero (.int .i64 0) (.int .i64 0)
 refine bodyPost_ret (results_cct rfl _ _ rfl rfl t2 t3) rfl ?_
 exact ⟨rfl,t4⟩
set_option maxHeartbeats 1000000 in
set_option maxRecDepth 100000 in
theorem Reason_err2 (A0 : Option Addr) (c0 : Nat) (l0 : List (S51)) (a1 : ByteArray) (g : Int) (w : World) (hr0 : Kd.C k51 w A0 l0.length l0) (hc0 : l0.length ≤ c0) (hck : checkV l0 = 0) (hg : nameL a1.data.toList = g) (hne : g ≠ 0) :
  Calls Try.prog 24 #[.slice A0 l0.length c0,.string a1] w fun e w' => e = .returned (.tuple #[.int .i64 0,.int .i64 0,.int .i64 g]) ∧ Below w.heap.size w w':=by
 obtain ⟨W4,hW4⟩ : ∃ W4,(((w.alloc (.cells #[.slice A0 l0.length c0] 22)).alloc (.cells #[.string a1] 9)).alloc (.cells #[.int .i64 0] 3)).alloc (.cells #[.int .i64 0] 3) = W4:=⟨_,rfl⟩
 have R0:=Aside0.mk (RB.start A0 c0 l0 a1 w W4 hW4)
 have k0:=R0.out.cells.1
 have HR0:=Aside0.mk hr0
 have HCK:=Aside0.mk (recall_Check.calls A0 c0 l0 0 _ (Kd.C_below hr0 R0.out.2.2.2.2) hc0 (congrArg some hck))
 have HN:=Aside0.mk (fun W => dimension_Name.calls a1 g W (congrArg some hg))
 have hg1 : (g != 0) = true:=bne_iff_ne.mpr hne
 have hg2 : (g == 0) = false:=beq_eq_false_iff_ne.mpr hne
 clear hr0 hg hne hck
 go_enter Try.func24,Try.ntmps24
 go_wp2_with (first | (go_at_call 16;refine HCK.out.mono ?_;rintro e w1 ⟨rfl,hb1⟩;have R1:=Aside0.mk (R0.out.below hb1);obtain ⟨u0,u1,u2,u3,u4,u5,u6⟩:=R1.out.cells;clear hb1 k0) | (go_at_call 49;refine (HN.out _).mono ?_;rintro e w2 ⟨rfl,hb2⟩;have R2:=Aside0.mk (R1.out.below hb2);clear u0 u1 u2 u3 u4 u5 u6;obtain ⟨u0,u1,u2,u3,u4,u5,u6⟩:=R2.out.cells;clear hb2))
 obtain ⟨t2,t3,t4⟩:=R2.out.zero (.int .i64 0) (.int .i64 0)
 refine bodyPost_ret (results_cct rfl _ _ rfl rfl t2 t3) rfl ?_
 exact ⟨rfl,t4⟩
set_option maxHeartbeats 1000000 in
set_option maxRecDepth 100000 in
theorem Reason_err3 (A0 : Option Addr) (c0 : Nat) (l0 : List (S51)) (a1 : ByteArray) (w : World) (hr0 : Kd.C k51 w A0 l0.length l0) (hc0 : l0.length ≤ c0) (hck : checkV l0 = 0) (hg : nameL a1.data.toList = 0) (hh : l0.any (measP a1) = false) :
  Calls Try.prog 24 #[.slice A0 l0.length c0,.string a1] w fun e w' => e = .returned (.tuple #[.int .i64 0,.int .i64 0,.int .i64 6]) ∧ Below w.heap.size w w':=by
 obtain ⟨W4,hW4⟩ : ∃ W4,(((w.alloc (.cells #[.slice A0 l0.length c0] 22)).alloc (.cells #[.string a1] 9)).alloc (.cells #[.int .i64 0] 3)).alloc (.cells #[.int .i64 0] 3) = W4:=⟨_,rfl⟩
 have R0:=Aside0.mk (RB.start A0 c0 l0 a1 w W4 hW4)
 have k0:=R0.out.cells.1
 have HR0:=Aside0.mk hr0
 have HCK:=Aside0.mk (recall_Check.calls A0 c0 l0 0 _ (Kd.C_below hr0 R0.out.2.2.2.2) hc0 (congrArg some hck))
 have HN:=Aside0.mk (fun W => dimension_Name.calls a1 0 W (congrArg some hg))
 have HHS:=Aside0.mk (fun W (hR : RB w A0 c0 l0.length a1 (.int .i64 0) (.int .i64 0) W) => has_ok A0 c0 l0 a1 (w.heap.size + 1) W (Kd.C_below hr0 hR.2.2.2.2) (check_zero hck).1 hR.cells.2.1)
 rw [hh] at HHS
 clear hr0 hg hck hh
 go_enter Try.func24,Try.ntmps24
 go_wp2_with (first | (go_at_call 16;refine HCK.out.mono ?_;rintro e w1 ⟨rfl,hb1⟩;have R1:=Aside0.mk (R0.out.below hb1);obtain ⟨u0,u1,u2,u3,u4,u5,u6⟩:=R1.out.cells;clear hb1 k0) | (go_at_call 49;refine (HN.out _).mono ?_;rintro e w2 ⟨rfl,hb2⟩;have R2:=Aside0.mk (R1.out.below hb2);clear u0 u1 u2 u3 u4 u5 u6;obtain ⟨u0,u1,u2,u3,u4,u5,u6⟩:=R2.out.cells;clear hb2) | (go_at_call 29;refine (HHS.out _ R2.out).mono ?_;rintro e w3 ⟨rfl,hb3⟩;have R3:=Aside0.mk (R2.out.below hb3);clear u0 u1 u2 u3 u4 u5 u6;obtain ⟨u0,u1,u2,u3,u4,u5,u6⟩:=R3.out.cells;clear hb3))
 obtain ⟨t2,t3,t4⟩:=R3.out.zero (.int .i64 0) (.int .i64 0)
 refine bodyPost_ret (results_cct rfl _ _ rfl rfl t2 t3) rfl ?_
 exact ⟨rfl,t4⟩
set_option maxHeartbeats 2000000 in
set_option maxRecDepth 100000 in
theorem Reason_err4 (A0 : Option Addr) (c0 : Nat) (l0 : List (S51)) (a1 : ByteArray) (w : World) (hr0 : Kd.C k51 w A0 l0.length l0) (hc0 : l0.length ≤ c0) (hck : checkV l0 = 0) (hg : nameL a1.data.toList = 0) (hh : l0.any (measP a1) = true) (hm : a1.data.toList ∉ recL l0) :
  Calls Try.prog 24 #[.slice A0 l0.length c0,.string a1] w fun e w' => e = .returned (.tuple #[.int .i64 0,.int .i64 0,.int .i64 14]) ∧ Below w.heap.size w w':=by
 obtain ⟨W4,hW4⟩ : ∃ W4,(((w.alloc (.cells #[.slice A0 l0.length c0] 22)).alloc (.cells #[.string a1] 9)).alloc (.cells #[.int .i64 0] 3)).alloc (.cells #[.int .i64 0] 3) = W4:=⟨_,rfl⟩
 have R0:=Aside0.mk (RB.start A0 c0 l0 a1 w W4 hW4)
 have k0:=R0.out.cells.1
 have HR0:=Aside0.mk hr0
 have HCK:=Aside0.mk (recall_Check.calls A0 c0 l0 0 _ (Kd.C_below hr0 R0.out.2.2.2.2) hc0 (congrArg some hck))
 have HN:=Aside0.mk (fun W => dimension_Name.calls a1 0 W (congrArg some hg))
 have HHS:=Aside0.mk (fun W (hR : RB w A0 c0 l0.length a1 (.int .i64 0) (.int .i64 0) W) => has_ok A0 c0 l0 a1 (w.heap.size + 1) W (Kd.C_below hr0 hR.2.2.2.2) (check_zero hck).1 hR.cells.2.1)
 rw [hh] at HHS
 have hm2 : a1.size ≤ maxLen:=by
  have:=nameL_len hg
  rw [Array.length_toList] at this
  unfold maxLen
  have h2 : a1.size = a1.data.size:=rfl
  omega
 have HLK:=Aside0.mk (fun (b : Nat) (W : World) (h2 : MapF Try.prog 9 W b 4096 (fSet (recL l0))) => (h2.look Try.underlying9 Try.underlying49 (Try.zeroValue4 W) hm2 false).trans (show _ = Result.ok (.bool false) W from by rw [if_neg (by decide)];unfold fSet;rw [if_neg hm];rfl))
 have HH:=Aside0.mk hck
 clear hr0 hg hck hh hm
 go_enter Try.func24,Try.ntmps24
 go_wp2_with (first | (go_at_call 16;refine HCK.out.mono ?_;rintro e w1 ⟨rfl,hb1⟩;have R1:=Aside0.mk (R0.out.below hb1);obtain ⟨u0,u1,u2,u3,u4,u5,u6⟩:=R1.out.cells;clear hb1 k0) | (go_at_call 49;refine (HN.out _).mono ?_;rintro e w2 ⟨rfl,hb2⟩;have R2:=Aside0.mk (R1.out.below hb2);clear u0 u1 u2 u3 u4 u5 u6;obtain ⟨u0,u1,u2,u3,u4,u5,u6⟩:=R2.out.cells;clear hb2) | (go_at_call 29;refine (HHS.out _ R2.out).mono ?_;rintro e w3 ⟨rfl,hb3⟩;have R3:=Aside0.mk (R2.out.below hb3);clear u0 u1 u2 u3 u4 u5 u6;obtain ⟨u0,u1,u2,u3,u4,u5,u6⟩:=R3.out.cells;clear hb3))
 go_region_with (go_at_call 41;refine (recalled_ok A0 c0 l0 _ (Kd.C_below HR0.out R3.out.drew.2.2.2.2) HH.out).mono ?_;rintro e w5 ⟨b,rfl,h1,h2,h3⟩;have R5:=Aside0.mk (R3.out.drew.below h3);clear u0 u1 u2 u3 u4 u5 u6;obtain ⟨u0,u1,u2,u3,u4,u5,u6⟩:=R5.out.cells;have hlk:=HLK.out b w5 h2;clear h1 h2 h3)
 all_goals
  go_wp2
  obtain ⟨t2,t3,t4⟩:=R5.out.zero (.int .i64 0) (.int .i64 0)
  refine bodyPost_ret (results_cct rfl _ _ rfl rfl t2 t3) rfl ?_
  exact ⟨rfl,t4⟩
end Go.Proofs.Ytnmmdeonkpfccaa.Pr
set_option linter.unusedVariables false
namespace Go.Proofs.Ytnmmdeonkpfccaa.Rg
open Go Go.RowKit
theorem oper_round {F : Fence} {n : Nat} {P : Program} {o : Oper} {a : Act} {w : World} {K : Act → World → Prop} {Q : Exit → Act → World → Prop} (l : Nat) (hro : F.round = none) (hnd : ∀ c,o.op ≠ .defer c) (h : o.wpIn F n P a w K Q) : o.wpIn (F.inRound l) n P a w K Q:=by
 unfold Oper.wpIn at *
 refine ⟨h.1,?_⟩
 have h2:=h.2
 rw [hro,Oper.semAt_none] at h2
 rw [Oper.semAt_eq _ _ _ hnd]
 generalize (execOp a.eval o).run P w = r at *
 cases r with
 | ok x w' => cases x <;> exact h2
 | halt x w' => cases x <;> exact h2
theorem wpAnyIn_round {F : Fence} {n : Nat} {P : Program} {md : Region.Mode} {ops : Array Oper} {Q : Exit → Act → World → Prop} (l : Nat) (hro : F.round = none) (hnd : ∀ (i : Nat) (o : Oper),ops[i]? = some o → ∀ c,o.op ≠ .defer c) :
  ∀ (fuel : Nat) (listed : Array Bool) (a : Act) (w : World),wpAnyIn F n P md ops Q fuel listed a w → wpAnyIn (F.inRound l) n P md ops Q fuel listed a w
 | 0,_,_,_,h => h
 | fuel + 1,listed,a,w,h => ⟨h.1,fun i hi => by
   have h2:=wpOpIn_mono (fun a' w' h' => wpAnyIn_round l hro hnd fuel _ a' w' h') (h.2 i hi)
   unfold wpOpIn at *
   split
   ·rename_i ho;simp only [ho] at h2;exact h2
   ·rename_i o ho
    simp only [ho] at h2
    split
    ·rename_i hw;simp only [hw,if_true] at h2;exact oper_round l hro (hnd i o ho) h2
    ·rename_i hw;simp only [hw] at h2;exact h2⟩
def noDefer (l : List Oper) : Bool:=l.all fun o => match o.op with | .defer _ => false | _ => true
theorem region_quiet_round {n : Nat} {P : Program} {r id : Nat} {Q : Exit → Act → World → Prop} {a : Act} {w : World} {l : List Oper} (hnd : noDefer l = true) (hm : P.follows .mixedOrders = true) (hB : Region.lexB .any l.toArray = true)
  (h : wpQuietIn Fence.wide n P l.toArray (fun w' => ∃ n,w' = w.drewN n) (fun a' => ∀ w',(∃ n,w' = w.drewN n) → Q .normal a' w') l a) : (Code.region id l.toArray true).wpIn (Fence.wide.inRound r) n P Q a w:=by
 simp only [Region.lexB,Bool.and_eq_true] at hB
 refine wpIn_region_any hm (wpAnyIn_round r rfl (fun i o ho c hc => ?_) _ _ _ _ (wpAnyIn_of_quiet (C:=fun w' => ∃ n,w' = w.drewN n) (Q:=fun a' => ∀ w',(∃ n,w' = w.drewN n) → Q .normal a' w') rfl (fun _ w' hw' h => h w' hw') _ _ _ _ ⟨1,rfl⟩ ?_))
 ·have hmem : o ∈ l:=by
   rw [List.getElem?_toArray] at ho
   exact List.mem_of_getElem? ho
  have:=(List.all_eq_true.1 hnd) o hmem
  rw [hc] at this
  cases this
 ·have:=wpAnyQIn_lex (F:=Fence.wide) (n:=n) (C:=fun w' => ∃ n,w' = w.drewN n) (md:=.any) hB.1 l 0 (Array.replicate l.toArray.size false) a (by simp) (by simpa using hB.2) h
  simpa using this
end Go.Proofs.Ytnmmdeonkpfccaa.Rg
set_option linter.unusedVariables false
namespace Go.Proofs.Ytnmmdeonkpfccaa.Pr
open Go.RowKit Go.Shelf Go.Maps Go.Proofs.YtnmmdeonkpfccaaW.PrintWords Go.Proofs.YtnmmdeonkpfccaaW.PrintLast Go.Proofs.YtnmmdeonkpfccaaW.PrintMore
open Go.Proofs.Ytnmmdeonkpfccaa.Rg
attribute [local go_sem] Oper.semAt_some
theorem RB.reads {w : World} {A0 : Option Addr} {c0 len : Nat} {a1 : ByteArray} {z2 z3 : Value} {W W' : World} {B : Nat} (h : RB w A0 c0 len a1 z2 z3 W) (hB : w.heap.size + 4 ≤ B) (hs : W.heap.size ≤ W'.heap.size) (h1 : W.os = W'.os) (h2 : W.tape = W'.tape) (h3 : W.output = W'.output) (h4 : ∀ i,i < B → W'.heap[i]? = W.heap[i]?) : RB w A0 c0 len a1 z2 z3 W' :=
 ⟨(h4 _ (by omega)).trans h.1,(h4 _ (by omega)).trans h.2.1,(h4 _ (by omega)).trans h.2.2.1,(h4 _ (by omega)).trans h.2.2.2.1,below_reads h.2.2.2.2 (by omega) hs h1 h2 h3 h4⟩
theorem RB.set {w : World} {A0 : Option Addr} {c0 len : Nat} {a1 : ByteArray} {z2 z3 : Value} {W : World} (h : RB w A0 c0 len a1 z2 z3 W) (u v : Value) :
  RB w A0 c0 len a1 u v ((W.setCell ⟨w.heap.size + 1 + 1,0,none⟩ u).setCell ⟨w.heap.size + 1 + 1 + 1,0,none⟩ v):=by
 obtain ⟨t2,t3⟩:=two_cells u v h.2.2.1 h.2.2.2.1
 refine ⟨?_,?_,t2,t3,(h.zero u v).2.2⟩
 ·rw [Below.heap_setCell _ _ _ _ (show w.heap.size ≠ w.heap.size + 1 + 1 + 1 by omega),Below.heap_setCell _ _ _ _ (show w.heap.size ≠ w.heap.size + 1 + 1 by omega)];exact h.1
 ·rw [Below.heap_setCell _ _ _ _ (show w.heap.size + 1 ≠ w.heap.size + 1 + 1 + 1 by omega),Below.heap_setCell _ _ _ _ (show w.heap.size + 1 ≠ w.heap.size + 1 + 1 by omega)];exact h.2.1
theorem RB.drewN {w : World} {A0 : Option Addr} {c0 len : Nat} {a1 : ByteArray} {z2 z3 : Value} {W : World} (h : RB w A0 c0 len a1 z2 z3 W) (n : Nat) : RB w A0 c0 len a1 z2 z3 (W.drewN n):=⟨h.1,h.2.1,h.2.2.1,h.2.2.2.1,pw_below_drewN h.2.2.2.2 n⟩
theorem wpIn_then {F : Fence} {n : Nat} {P : Program} {c : Code} {K : Act → World → Prop} {R : Exit → Act → World → Prop} {a : Act} {w : World} (h : c.wpIn F n P (Exit.then K (fun _ _ _ => False)) a w) : c.wpIn F n P (Exit.then K R) a w :=
 wpIn_mono h (fun e a w h => by cases e <;> first | exact h | exact h.elim)
set_option maxHeartbeats 4000000 in
set_option maxRecDepth 100000 in
theorem Reason_ok (A0 : Option Addr) (c0 : Nat) (l0 : List (S51)) (a1 : ByteArray) (w : World) (hr0 : Kd.C k51 w A0 l0.length l0) (hc0 : l0.length ≤ c0) (hck : checkV l0 = 0) (hg : nameL a1.data.toList = 0) (hh : l0.any (measP a1) = true) (hm : a1.data.toList ∈ recL l0) :
  Calls Try.prog 24 #[.slice A0 l0.length c0,.string a1] w fun e w' => e = .returned (.tuple #[.int .i64 (reasK l0 a1 l0.length).1,.int .i64 (reasK l0 a1 l0.length).2,.int .i64 0]) ∧ Below w.heap.size w w':=by
 obtain ⟨W4,hW4⟩ : ∃ W4,(((w.alloc (.cells #[.slice A0 l0.length c0] 22)).alloc (.cells #[.string a1] 9)).alloc (.cells #[.int .i64 0] 3)).alloc (.cells #[.int .i64 0] 3) = W4:=⟨_,rfl⟩
 have R0:=Aside0.mk (RB.start A0 c0 l0 a1 w W4 hW4)
 have k0:=R0.out.cells.1
 have HR0:=Aside0.mk hr0
 have HCK:=Aside0.mk (recall_Check.calls A0 c0 l0 0 _ (Kd.C_below hr0 R0.out.2.2.2.2) hc0 (congrArg some hck))
 have HN:=Aside0.mk (fun W => dimension_Name.calls a1 0 W (congrArg some hg))
 have HHS:=Aside0.mk (fun W (hR : RB w A0 c0 l0.length a1 (.int .i64 0) (.int .i64 0) W) => has_ok A0 c0 l0 a1 (w.heap.size + 1) W (Kd.C_below hr0 hR.2.2.2.2) (check_zero hck).1 hR.cells.2.1)
 rw [hh] at HHS
 have hm2 : a1.size ≤ maxLen:=by
  have:=nameL_len hg
  rw [Array.length_toList] at this
  unfold maxLen
  have h2 : a1.size = a1.data.size:=rfl
  omega
 obtain ⟨rr,hrr⟩ : ∃ rr,rr = true:=⟨_,rfl⟩
 have HRR:=Aside0.mk hrr
 have HLK:=Aside0.mk (fun (b : Nat) (W : World) (h2 : MapF Try.prog 9 W b 4096 (fSet (recL l0))) => (h2.look Try.underlying9 Try.underlying49 (Try.zeroValue4 W) hm2 false).trans (show _ = Result.ok (.bool rr) W from by rw [if_neg (by decide)];unfold fSet;rw [if_pos hm,hrr];rfl))
 have HH:=Aside0.mk hck
 obtain ⟨hl,hnx⟩:=check_zero hck
 have HG:=Aside0.mk (show ∀ x ∈ l0,x.f1.size ≤ 24 from fun x hx => (namesX_zero (hnx x hx)).2.1)
 have HLT:=Aside0.mk (slice_lt hr0)
 have hf16 : Fence.wide.fn 16:=trivial
 have hf49 : Fence.wide.fn 49:=trivial
 have hf29 : Fence.wide.fn 29:=trivial
 have hf41 : Fence.wide.fn 41:=trivial
 have hf38 : Fence.wide.fn 38:=trivial
 clear hr0 hg hck hh hm hnx hrr
 refine (callsIn_wide (n:=3)).1 ?_
 refine callsIn_of_wp_marks Try.func24 rfl trivial ?_ rfl
 simp only [Try.ntmps24,List.size_toArray,List.length_cons,List.length_nil,Nat.reduceAdd,Nat.reduceSub,Array.replicate_succ,Array.replicate_zero,List.push_toArray,List.append_toArray,List.nil_append,List.cons_append]
 gi_wp2_with (first | ((first | refine ⟨fun h => absurd h (by decide),?_⟩ | skip);gi_at_call 16;refine (callsIn_wide.2 HCK.out).mono ?_;rintro e w1 ⟨rfl,hb1⟩;have R1:=Aside0.mk (R0.out.below hb1);obtain ⟨u0,u1,u2,u3,u4,u5,u6⟩:=R1.out.cells;clear hb1 k0) | ((first | refine ⟨fun h => absurd h (by decide),?_⟩ | skip);gi_at_call 49;refine (callsIn_wide.2 (HN.out _)).mono ?_;rintro e w2 ⟨rfl,hb2⟩;have R2:=Aside0.mk (R1.out.below hb2);clear u0 u1 u2 u3 u4 u5 u6;obtain ⟨u0,u1,u2,u3,u4,u5,u6⟩:=R2.out.cells;clear hb2) | ((first | refine ⟨fun h => absurd h (by decide),?_⟩ | skip);gi_at_call 29;refine (callsIn_wide.2 (HHS.out _ R2.out)).mono ?_;rintro e w3 ⟨rfl,hb3⟩;have R3:=Aside0.mk (R2.out.below hb3);clear u0 u1 u2 u3 u4 u5 u6;obtain ⟨u0,u1,u2,u3,u4,u5,u6⟩:=R3.out.cells;clear hb3))
 refine wpIn_then ?_
 refine wpIn_wide.2 ?_
 go_region_with (go_at_call 41;refine (recalled_ok A0 c0 l0 _ (Kd.C_below HR0.out R3.out.drew.2.2.2.2) HH.out).mono ?_;rintro e w5 ⟨b,rfl,h1,h2,h3⟩;have R5:=Aside0.mk (R3.out.drew.below h3);clear u0 u1 u2 u3 u4 u5 u6;obtain ⟨u0,u1,u2,u3,u4,u5,u6⟩:=R5.out.cells;have hlk:=HLK.out b w5 h2;clear h1 h2 h3)
 all_goals clear hlk HLK HHS HN HCK
 all_goals obtain rfl:=HRR.out
 all_goals clear HRR
 all_goals gi_wp2_with ((first | refine ⟨fun h => absurd h (by decide),?_⟩ | skip);gi_at_call 38;refine (states_in _ A0 c0 l0.length _).mono ?_;rintro e w' ⟨rfl,rfl⟩)
 all_goals
  obtain ⟨Wl,hWl⟩ : ∃ Wl,w5.alloc (Obj.cells #[Value.slice A0 l0.length c0] 22) = Wl:=⟨_,rfl⟩
  have hb5:=R5.out.2.2.2.1
  have hsz5:=(Array.getElem?_eq_some_iff.1 hb5).1
  have hsl : Wl.heap.size = w5.heap.size + 1:=by rw [← hWl];simp
  have hbl : Below w5.heap.size w5 Wl:=by rw [← hWl];exact (Below.refl _ w5).alloc (Nat.le_refl _) _
  have RL:=Aside0.mk (R5.out.below hbl)
  have hL0 : Wl.cell? ⟨w5.heap.size,0,none⟩ = some (.slice A0 l0.length c0):=by
   rw [← hWl]
   exact (blk_cell (blk_new w5 (Obj.cells #[Value.slice A0 l0.length c0] 22)) 0).trans rfl
  rw [hWl]
  clear hWl hb5 u0 u1 u2 u3 u4 u5 u6 hf16 hf49 hf29 hf41 hf38
  refine rangeB2 (gf:=64) (lb:=#[.pointer (some ⟨w5.heap.size,0,none⟩)]) rfl (enters_of Try.func64 (by kernel_rfl) rfl) (fun i => i = w.heap.size + 2 ∨ i = w.heap.size + 3) (fun i hi => by omega)
   (states_seq _ A0 c0 w5.heap.size l0 Wl hl HG.out (Kd.C_below HR0.out RL.out.2.2.2.2) (fun ad ha hne h => by have:=HLT.out ad ha hne;omega) (fun ad ha hne => by have:=HLT.out ad ha hne;omega) hL0 (fun h => by omega)) (fun _ => rfl)
   (fun pre Wr => ∃ (k : Nat),k ≤ l0.length ∧ pre = statK l0 k ∧ RB w A0 c0 l0.length a1 (.int .i64 (reasK l0 a1 k).1) (.int .i64 (reasK l0 a1 k).2) Wr)
   ?hI ⟨0,by omega,rfl,RL.out⟩ ?round ?done
  case hI =>
   rintro pre Wr Wr' ⟨k,hk,hp,hr⟩ hsz hsz2 h1 h2 h3 h4
   exact ⟨k,hk,hp,hr.reads (by omega) hsz2 h1 h2 h3 h4⟩
  case round =>
   rintro m pre ⟨i,a,s⟩ Wr hI hsz hpf
   have HI:=Aside0.mk hI
   clear hI hpf hL0 hbl
   simp only [encS,pairV]
   gi_wp2
   obtain ⟨k,hk,hp,hr⟩:=HI.out
   refine ⟨(KeepC.refl _ _).alloc _,⟨k,hk,hp,hr.below ((Below.refl _ Wr).alloc (Nat.le_refl _) _)⟩,?_⟩
   clear k hk hp hr
   rintro m2 pre2 W2 hone ⟨k,hk,hp,hr⟩ hsz2 ⟨k',hk',hpk⟩
   obtain ⟨rfl,hx⟩:=statK_next hp hpk
   simp only [Prod.mk.injEq] at hx
   obtain ⟨hi,hc⟩:=hx
   have hcs : s = (chkA l0 k).2:=by rw [← hc]
   have hca : a = (chkA l0 k).1:=by rw [← hc]
   have hbx : W2.heap[Wr.heap.size]? = some (.cells #[.int .i64 a,.int .i64 s] 65):=(hone.2.2.2.2 _ (by omega)).trans (blk_new _ _)
   have hc0' : W2.cell? ⟨Wr.heap.size,0,none⟩ = some (.int .i64 a):=(blk_cell hbx 0).trans rfl
   have hc1 : W2.cell? ⟨Wr.heap.size,1,none⟩ = some (.int .i64 s):=(blk_cell hbx 1).trans rfl
   have hi0 : 0 ≤ i:=by rw [hi];omega
   have hi1 : i < (l0.length : Int):=by rw [hi];omega
   obtain ⟨x,hx⟩ : ∃ x,x = evK l0 k:=⟨_,rfl⟩
   have hrd : rd_T51 l0 i = x:=by unfold rd_T51;rw [hx,hi];unfold evK;congr 1;omega
   obtain ⟨ad,e1,hx0,hx1,hx2,hx3⟩:=at_T51 HR0.out i hi0 hi1
   have HA:=Aside0.mk e1
   rw [hrd] at hx0 hx1 hx2 hx3
   replace hx0:=(hr.2.2.2.2.cell (World.block_lt_of_cell? w _ hx0)).trans hx0
   replace hx2:=(hr.2.2.2.2.cell (World.block_lt_of_cell? w _ hx2)).trans hx2
   have HP:=Aside0.mk hpk
   have HR:=Aside0.mk hr
   obtain ⟨u0,u1,u2,u3,u4,u5,u6⟩:=HR.out.cells
   have HKS:=Aside0.mk (show reasK l0 a1 (k + 1) = if x.f0 = 0 ∧ x.f2.data.toList = a1.data.toList ∧ s = 3 then (i,a) else reasK l0 a1 k from by rw [hcs,hx,hi,hca];rfl)
   have FIN:=Aside0.mk (show ∀ W',RB w A0 c0 l0.length a1 (.int .i64 (reasK l0 a1 (k + 1)).1) (.int .i64 (reasK l0 a1 (k + 1)).2) W' → KeepC (fun i => i = w.heap.size + 2 ∨ i = w.heap.size + 3) W2 W' →
     KeepC (fun i => i = w.heap.size + 2 ∨ i = w.heap.size + 3) W2 W' ∧ ∃ k,k ≤ l0.length ∧ pre2 ++ [(i,a,s)] = statK l0 k ∧ RB w A0 c0 l0.length a1 (.int .i64 (reasK l0 a1 k).1) (.int .i64 (reasK l0 a1 k).2) W' from fun W' h1 h2 => ⟨h2,k + 1,hk',HP.out,h1⟩)
   clear hr hpk hcs hca hi hc hp hbx hone HI hx hrd hx1 hx3
   by_cases k0 : x.f0 = 0
   ·rw [k0] at hx0
    by_cases k2 : x.f2.data.toList = a1.data.toList
    ·have he : x.f2.toList = a1.toList:=by rw [ByteArray.toList_eq,ByteArray.toList_eq];exact k2
     have he1 : (x.f2.toList == a1.toList) = true:=beq_iff_eq.mpr he
     have he2 : decide (x.f2.toList = a1.toList) = true:=decide_eq_true he
     by_cases k3 : s = 3
     ·have HK2:=Aside0.mk (HKS.out.trans (if_pos ⟨k0,k2,k3⟩))
      rw [k3] at hc1
      clear k0 k2 k3 he
      gi_wp2
      refine region_quiet_round rfl (by kernel_rfl) (by kernel_rfl) ?_
      repeat (gi_big_quiet_step (fail))
      refine wpQuietIn_nil ?_
      intro _ hw'
      obtain ⟨nq,hw''⟩:=hw'
      subst hw''
      gi_wp2
      gi_region
      all_goals exact FIN.out _ (by rw [HK2.out];exact (HR.out.drewN _).set _ _) (KeepC.setCell (C:=fun i => i = w.heap.size + 2 ∨ i = w.heap.size + 3) (X:=W2) (p:=⟨w.heap.size + 1 + 1 + 1,0,none⟩) (KeepC.setCell (C:=fun i => i = w.heap.size + 2 ∨ i = w.heap.size + 3) (X:=W2) (Y:=W2.drewN (nq + 1)) (p:=⟨w.heap.size + 1 + 1,0,none⟩) ⟨Nat.le_refl _,fun _ _ _ => rfl⟩ (.inr (.inl rfl)) _) (.inr (.inr rfl)) _)
     ·have k3b : (s == 3) = false:=beq_eq_false_iff_ne.mpr k3
      have HK2:=Aside0.mk (HKS.out.trans (if_neg (fun h => k3 h.2.2)))
      clear k0 k2 k3 he
      gi_wp2
      refine region_quiet_round rfl (by kernel_rfl) (by kernel_rfl) ?_
      repeat (gi_big_quiet_step (fail))
      refine wpQuietIn_nil ?_
      intro _ hw'
      obtain ⟨nq,hw''⟩:=hw'
      subst hw''
      gi_wp2
      exact FIN.out _ (by rw [HK2.out];exact HR.out.drewN _) ⟨Nat.le_refl _,fun _ _ _ => rfl⟩
    ·have he : ¬ x.f2.toList = a1.toList:=by rw [ByteArray.toList_eq,ByteArray.toList_eq];exact k2
     have he1 : (x.f2.toList == a1.toList) = false:=beq_eq_false_iff_ne.mpr he
     have he2 : decide (x.f2.toList = a1.toList) = false:=decide_eq_false he
     have HK2:=Aside0.mk (HKS.out.trans (if_neg (fun h => k2 h.2.1)))
     clear k0 k2 he
     gi_wp2
     refine region_quiet_round rfl (by kernel_rfl) (by kernel_rfl) ?_
     repeat (gi_big_quiet_step (fail))
     refine wpQuietIn_nil ?_
     intro _ hw'
     obtain ⟨nq,hw''⟩:=hw'
     subst hw''
     gi_wp2
     exact FIN.out _ (by rw [HK2.out];exact HR.out.drewN _) ⟨Nat.le_refl _,fun _ _ _ => rfl⟩
   ·have k0b : (x.f0 == 0) = false:=beq_eq_false_iff_ne.mpr k0
    have HK2:=Aside0.mk (HKS.out.trans (if_neg (fun h => k0 h.1)))
    clear k0
    gi_wp2
    refine region_quiet_round rfl (by kernel_rfl) (by kernel_rfl) ?_
    repeat (gi_big_quiet_step (fail))
    refine wpQuietIn_nil ?_
    intro _ hw'
    obtain ⟨nq,hw''⟩:=hw'
    subst hw''
    gi_wp2
    exact FIN.out _ (by rw [HK2.out];exact HR.out.drewN _) ⟨Nat.le_refl _,fun _ _ _ => rfl⟩
  case done =>
   rintro xs W' rfl ⟨k,hk,hp,hr⟩ hK hsz
   obtain rfl:=statK_inj hp
   have HR:=Aside0.mk hr
   obtain ⟨u0,u1,u2,u3,u4,u5,u6⟩:=HR.out.cells
   clear hr hL0 hbl hp
   gi_wp2
   gi_region
   all_goals gi_wp2
   all_goals
    have hD:=(Array.getElem?_eq_some_iff.1 hK).1
    have hK2 : (((W'.setCell ⟨w.heap.size + 1 + 1,0,none⟩ (.int .i64 (reasK l0 a1 l0.length).1)).setCell ⟨w.heap.size + 1 + 1 + 1,0,none⟩ (.int .i64 (reasK l0 a1 l0.length).2)).drew).heap[Wl.heap.size]? = some (.deferred (some [])) :=
     (Below.heap_setCell _ _ _ _ (show Wl.heap.size ≠ w.heap.size + 1 + 1 + 1 by omega)).trans ((Below.heap_setCell _ _ _ _ (show Wl.heap.size ≠ w.heap.size + 1 + 1 by omega)).trans hK)
    have RF:=((HR.out.set (.int .i64 (reasK l0 a1 l0.length).1) (.int .i64 (reasK l0 a1 l0.length).2)).drew).reads (W':=((((W'.setCell ⟨w.heap.size + 1 + 1,0,none⟩ (.int .i64 (reasK l0 a1 l0.length).1)).setCell ⟨w.heap.size + 1 + 1 + 1,0,none⟩ (.int .i64 (reasK l0 a1 l0.length).2)).drew).putObj Wl.heap.size (.deferred none))) (B:=Wl.heap.size) (by omega) (by simp) rfl rfl rfl (fun i hi => World.putObj_heap_other (by omega))
    refine ⟨by simp,.inl ⟨_,_,rfl,run_takeDeferred hK2,?_⟩⟩
    obtain ⟨_,_,z2,_,z3,_,_⟩:=RF.cells
    exact ⟨_,results_cct (fn:=Try.f24) rfl _ _ rfl rfl z2 z3,rfl,RF.2.2.2.2⟩
theorem recall_Reason.calls (A0 : Option Addr) (c0 : Nat) (l0 : List (S51)) (a1 : ByteArray) (r1 : Int) (r2 : Int) (r3 : Int) (w : World) (hr0 : Kd.C k51 w A0 l0.length l0) (hc0 : l0.length ≤ c0) (h : recall_Reason.f l0 a1 = some (r1,r2,r3)) :
  Calls Try.prog 24 #[.slice A0 l0.length c0,.string a1] w fun e w' => e = .returned (.tuple #[.int .i64 r1,.int .i64 r2,.int .i64 r3]) ∧ Below w.heap.size w w':=by
 have e:=Option.some.inj h
 unfold reasonV at e
 split at e
 ·rename_i hg
  cases e
  exact Reason_err1 A0 c0 l0 a1 _ w hr0 hc0 rfl hg
 ·rename_i hg
  have hg0 : checkV l0 = 0:=Classical.byContradiction hg
  split at e
  ·rename_i hn
   cases e
   exact Reason_err2 A0 c0 l0 a1 _ w hr0 hc0 hg0 rfl hn
  ·rename_i hn
   have hn0 : nameL a1.data.toList = 0:=Classical.byContradiction hn
   split at e
   ·rename_i hh
    cases e
    exact Reason_err3 A0 c0 l0 a1 w hr0 hc0 hg0 hn0 hh
   ·rename_i hh
    have hh0 : l0.any (measP a1) = true:=by cases hb : l0.any (measP a1) with | true => rfl | false => exact absurd hb hh
    split at e
    ·rename_i hm
     cases e
     exact Reason_err4 A0 c0 l0 a1 w hr0 hc0 hg0 hn0 hh0 hm
    ·rename_i hm
     cases e
     exact Reason_ok A0 c0 l0 a1 w hr0 hc0 hg0 hn0 hh0 (Classical.byContradiction hm)
end Go.Proofs.Ytnmmdeonkpfccaa.Pr
