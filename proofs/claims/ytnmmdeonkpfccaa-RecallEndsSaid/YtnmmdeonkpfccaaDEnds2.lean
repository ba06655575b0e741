/- A part of the statement's proof. -/
import Derived.Test.YtnmmdeonkpfccaaDEnds1
import Derived.BigFrame
import Derived.RangeFuncNested
import Derived.RangeFuncBound
import Derived.RangeFuncCalls
import Derived.RangeFuncLeaves
import Derived.RangeFuncBox
import Derived.Shelf.Abstract
import Derived.WalkKit
import Derived.OwnWalkIn
import Derived.TacticsInMore
import Derived.LoopNIn
import Derived.LoopIn
import Derived.Lib.Hide
import Derived.Maps.OwnIn
import Derived.Sort.KeysCollected
import Derived.Lib.SlMapFilter
import Derived.RangeFuncSeq
import Derived.Maps.AppendAt
namespace Go.Proofs.Ytnmmdeonkpfccaa.Pr
open Go.RowKit Go.Proofs.YtnmmdeonkpfccaaW.PrintWords Go.Proofs.YtnmmdeonkpfccaaW.PrintLast Go.Proofs.YtnmmdeonkpfccaaW.PrintMore
attribute [local go_sem] max2_int min2_int max_two min_two max_three min_three max_four min_four
set_option linter.unusedVariables false
set_option linter.unusedSimpArgs false
mutual
def metrolabref53_Check.l0 : Nat → List (S67) → Int → Option (Int)
 | 0,_,_ => none
 | k + 1,x0,x3 => if x3 < (x0.length : Int) then (if 0 ≤ x3 then ((metrolabref53_form.f k ((rd_T67 x0 x3).f0) ((rd_T67 x0 x3).f1) ((rd_T67 x0 x3).f2) ((rd_T67 x0 x3).f3)).bind fun t126 => (if t126 = 0 then (if ((rd_T67 x0 x3).f0) = 0 then (if x3 ≤ (x0.length : Int) then ((metrolabref53_Withdrawn.f k (x0.take (x3 : Int).toNat) ((rd_T67 x0 x3).f2)).bind fun t131 => (metrolabref53_Check.j1 k x0 x3 t131 ((rd_T67 x0 x3).f0) ((rd_T67 x0 x3).f1) ((rd_T67 x0 x3).f2) ((rd_T67 x0 x3).f3))) else (none)) else (metrolabref53_Check.j1 k x0 x3 false ((rd_T67 x0 x3).f0) ((rd_T67 x0 x3).f1) ((rd_T67 x0 x3).f2) ((rd_T67 x0 x3).f3))) else (some t126))) else (none)) else (some 0)
def metrolabref53_Check.j1 : Nat → List (S67) → Int → Bool → Int → ByteArray → ByteArray → ByteArray → Option (Int)
 | 0,_,_,_,_,_,_,_ => none
 | k + 1,x0,x3,x35,x126000,x126001,x126002,x126003 => if x35 = true then (some 14) else (metrolabref53_Check.l1 k x0 x3 0 x126000 x126001 x126002 x126003)
def metrolabref53_Check.l1 : Nat → List (S67) → Int → Int → Int → ByteArray → ByteArray → ByteArray → Option (Int)
 | 0,_,_,_,_,_,_,_ => none
 | k + 1,x0,x3,x6,x126000,x126001,x126002,x126003 => if x6 < x3 then (if x126000 = 0 then (if 0 ≤ x6 then (if x6 < (x0.length : Int) then (if ((rd_T67 x0 x6).f0) = 0 then (if ((rd_T67 x0 x6).f2).toList = x126002.toList then (if ((rd_T67 x0 x6).f3).toList = x126003.toList then (metrolabref53_Check.l1 k x0 x3 (wrap64 (x6 + 1)) x126000 x126001 x126002 x126003) else (some 16)) else (metrolabref53_Check.l1 k x0 x3 (wrap64 (x6 + 1)) x126000 x126001 x126002 x126003)) else (metrolabref53_Check.l1 k x0 x3 (wrap64 (x6 + 1)) x126000 x126001 x126002 x126003)) else (none)) else (none)) else (metrolabref53_Check.l1 k x0 x3 (wrap64 (x6 + 1)) x126000 x126001 x126002 x126003)) else (if x126000 = 3 then (if 0 ≤ x3 then (if x3 ≤ (x0.length : Int) then ((metrolabref53_Measured.f k (x0.take (x3 : Int).toNat) x126002).bind fun t139 => (metrolabref53_Check.j3 k x0 x3 (!t139) x126000 x126001 x126002 x126003)) else (none)) else (none)) else (metrolabref53_Check.j3 k x0 x3 false x126000 x126001 x126002 x126003))
def metrolabref53_Check.j3 : Nat → List (S67) → Int → Bool → Int → ByteArray → ByteArray → ByteArray → Option (Int)
 | 0,_,_,_,_,_,_,_ => none
 | k + 1,x0,x3,x83,x126000,x126001,x126002,x126003 => if x83 = true then (some 6) else (if x126000 = 3 then (if 0 ≤ x3 then (if x3 ≤ (x0.length : Int) then ((metrolabref53_Withdrawn.f k (x0.take (x3 : Int).toNat) x126002).bind fun t144 => (if t144 = true then (some 14) else (metrolabref53_Check.l0 k x0 (wrap64 (x3 + 1))))) else (none)) else (none)) else (metrolabref53_Check.l0 k x0 (wrap64 (x3 + 1))))
end
def metrolabref53_Check.f (k : Nat) (l0 : List (S67)) : Option (Int):=if (l0.length : Int) > 4096 then (some 5) else (metrolabref53_Check.l0 k l0 0)
set_option maxHeartbeats 8000000 in
set_option maxRecDepth 100000 in
theorem metrolabref53_Check.calls (k : Nat) (A0 : Option Addr) (c0 : Nat) (l0 : List (S67)) (r : Int) (w : World) (hr0 : Kd.C k67 w A0 l0.length l0) (hc0 : l0.length ≤ c0) (h : metrolabref53_Check.f k l0 = some r) :
  Calls Try.prog 17 #[.slice A0 l0.length c0] w fun e w' => e = .returned (.int .i64 r) ∧ Below w.heap.size w w':=by
 have hu67:=Try.underlying67
 have HR0:=Aside0.mk hr0
 have HC0:=Aside0.mk hc0
 clear hr0 hc0
 have HB:=Aside0.mk (Below.refl w.heap.size w)
 have H : (if (l0.length : Int) > 4096 then (some 5) else (metrolabref53_Check.l0 k l0 0)) = some r:=h
 clear h
 by_cases c2 : (l0.length : Int) > 4096
 ·rw [if_pos c2] at H
  have c2b0 : decide (4096 < (l0.length : Int)) = true:=decide_eq_true c2
  have c2b1 : decide (4096 < l0.length) = true:=decide_eq_true (by omega)
  clear c2
  obtain rfl:=Option.some.inj H
  go_enter Try.func17,Try.ntmps17
  go_wp2
  repeat (go_quiet (fail);try go_wp2)
  go_ret
  exact ⟨by first | rfl | (simp [errW_none,errW_some] <;> rfl) | (simp [*,errW_none,errW_some] <;> rfl),by repeat (first | (with_reducible first | exact HB.out | apply below_alloc | apply pw_below_drewN | apply below_drew1) | exact HB.out)⟩
 ·rw [if_neg c2] at H
  have c2b0 : decide (4096 < (l0.length : Int)) = false:=decide_eq_false c2
  have c2b1 : decide (4096 < l0.length) = false:=decide_eq_false (by omega)
  clear c2
  have H':=Aside0.mk H
  clear H
  go_enter Try.func17,Try.ntmps17
  go_wp2
  repeat (go_quiet (fail);try go_wp2)
  go_loopg [3] k (fun kq v3 w' => ∃ (x3_1 : Int),v3 = .int .i64 x3_1 ∧ Aside0 (metrolabref53_Check.l0 kq l0 x3_1 = some r) ∧ Aside0 (kq ≤ k) ∧ Aside0 (Below w.heap.size w w'))
  case atStart => exact ⟨(0),(by first | rfl | (simp;done) | (simp [*];done)),H',⟨Nat.le_refl _⟩,⟨by repeat (first | (with_reducible first | exact HB.out | apply below_alloc | apply pw_below_drewN | apply below_drew1) | exact HB.out)⟩⟩
  case round =>
   clear H'
   try clear c1
   try clear c2
   try clear c2b0
   try clear c2b1
   try clear p2
   obtain ⟨x3_1,rfl,HA,HK1,HB⟩:=hrel
   cases gk with
   | zero => exact absurd HA.out (by simp [metrolabref53_Check.l0])
   | succ k1 =>
    have H:=HA.out
    clear HA
    simp only [metrolabref53_Check.l0] at H
    by_cases c3 : x3_1 < (l0.length : Int)
    ·rw [if_pos c3] at H
     have c3b0 : decide (x3_1 < (l0.length : Int)) = true:=decide_eq_true c3
     clear c3
     by_cases c4 : 0 ≤ x3_1
     ·rw [if_pos c4] at H
      have c4b0 : decide (0 ≤ x3_1) = true:=decide_eq_true c4
      clear c4
      replace H:=Option.bind_eq_some_iff.mp H
      obtain ⟨t126,A50,H⟩:=H
      replace H : (if t126 = 0 then (if ((rd_T67 l0 x3_1).f0) = 0 then (if x3_1 ≤ (l0.length : Int) then ((metrolabref53_Withdrawn.f k1 (l0.take (x3_1 : Int).toNat) ((rd_T67 l0 x3_1).f2)).bind fun t131 => (metrolabref53_Check.j1 k1 l0 x3_1 t131 ((rd_T67 l0 x3_1).f0) ((rd_T67 l0 x3_1).f1) ((rd_T67 l0 x3_1).f2) ((rd_T67 l0 x3_1).f3))) else (none)) else (metrolabref53_Check.j1 k1 l0 x3_1 false ((rd_T67 l0 x3_1).f0) ((rd_T67 l0 x3_1).f1) ((rd_T67 l0 x3_1).f2) ((rd_T67 l0 x3_1).f3))) else (some t126)) = some r:=H
      have A5:=Aside0.mk A50
      clear A50
      by_cases c6 : t126 = 0
      ·rw [if_pos c6] at H
       have c6b0 : (t126 == 0) = true:=beq_iff_eq.mpr c6
       have c6b1 : (t126 != 0) = false:=bne_eq_false_iff_eq.mpr c6
       clear c6
       have HC7:=Aside0.mk H
       clear H
       have p124 : 0 ≤ (x3_1 : Int):=of_decide_eq_true (by first | (with_reducible assumption) | assumption)
       have q124 : x3_1 < (l0.length : Int):=of_decide_eq_true (by first | (with_reducible assumption) | assumption)
       obtain ⟨ad124,e124,hx124_0,hx124_1,hx124_2,hx124_3⟩:=at_T67 HR0.out x3_1 p124 q124
       cases e124
       replace hx124_0:=(HB.out.cell (World.block_lt_of_cell? w _ hx124_0)).trans hx124_0
       replace hx124_1:=(HB.out.cell (World.block_lt_of_cell? w _ hx124_1)).trans hx124_1
       replace hx124_2:=(HB.out.cell (World.block_lt_of_cell? w _ hx124_2)).trans hx124_2
       replace hx124_3:=(HB.out.cell (World.block_lt_of_cell? w _ hx124_3)).trans hx124_3
       replace p124:=eq_true p124
       replace q124:=eq_true q124
       go_upto_region 10 with (first | ((with_reducible refine gate_dst (N:=4) rfl ?_);refine box_event ?hg (N:=4) ?hd (cs:=#[.int .i64 0,.string (⟨#[]⟩ : ByteArray),.string (⟨#[]⟩ : ByteArray),.string (⟨#[]⟩ : ByteArray)]) (t:=67) ?hr ?_;(case hd => rfl);(case hg => rfl);(case hr => first | (go_simp;done) | (go_simp;rfl));intro gb125 hg w8 hbox hb;have n0_:=Aside0.mk (below_step (by repeat (first | (with_reducible first | exact HB.out | apply below_alloc | apply pw_below_drewN | apply below_drew1) | exact HB.out)) hb);have n1_:=Aside0.mk (hbox);have n2_:=Aside0.mk ((by rw [hg];exact (below_size (by repeat (first | (with_reducible first | exact HB.out | apply below_alloc | apply pw_below_drewN | apply below_drew1) | exact HB.out))) : w.heap.size ≤ gb125));have n3_:=Aside0.mk ((by rw [hg];exact (below_size (by repeat (first | (with_reducible first | exact HB.out | apply below_alloc | apply pw_below_drewN | apply below_drew1) | exact HB.out))) : w.heap.size ≤ gb125));clear HB;have HB:=n0_;have BK125:=n1_;have GW125:=n2_;have GE125:=n3_;clear n0_ n1_ n2_ n3_;clear hb hbox hg;have hcz9_0 : w8.cell? ⟨gb125,0,none⟩ = some (.int .i64 0):=(blk_cell BK125.out 0).trans rfl;have hcz9_1 : w8.cell? ⟨gb125,1,none⟩ = some (.string (⟨#[]⟩ : ByteArray)):=(blk_cell BK125.out 1).trans rfl;have hcz9_2 : w8.cell? ⟨gb125,2,none⟩ = some (.string (⟨#[]⟩ : ByteArray)):=(blk_cell BK125.out 2).trans rfl;have hcz9_3 : w8.cell? ⟨gb125,3,none⟩ = some (.string (⟨#[]⟩ : ByteArray)):=(blk_cell BK125.out 3).trans rfl;have hfz9_0:=blk_frozen BK125.out 0;have hfz9_1:=blk_frozen BK125.out 1;have hfz9_2:=blk_frozen BK125.out 2;have hfz9_3:=blk_frozen BK125.out 3) | (go_at_call 44;(with_reducible refine (metrolabref53_form.calls k1 ((rd_T67 l0 x3_1).f0) ((rd_T67 l0 x3_1).f1) ((rd_T67 l0 x3_1).f2) ((rd_T67 l0 x3_1).f3) t126 _ A5.out).mono ?_);rintro e w10 ⟨rfl,hb⟩;have n0_:=Aside0.mk (blk_below (g:=gb125) (o:=.cells #[.int .i64 ((rd_T67 l0 x3_1).f0),.string ((rd_T67 l0 x3_1).f1),.string ((rd_T67 l0 x3_1).f2),.string ((rd_T67 l0 x3_1).f3)] 67 (0,0)) (by (with_reducible repeat (first | refine blk_drewN ?_ _ | refine blk_drew ?_ | refine blk_alloc ?_ _));refine blk_put (cs:=#[.int .i64 ((rd_T67 l0 x3_1).f0),.string ((rd_T67 l0 x3_1).f1),.string ((rd_T67 l0 x3_1).f2),.string (⟨#[]⟩ : ByteArray)]) ?_ 3 _ rfl;(with_reducible repeat (first | refine blk_drewN ?_ _ | refine blk_drew ?_ | refine blk_alloc ?_ _));refine blk_put (cs:=#[.int .i64 ((rd_T67 l0 x3_1).f0),.string ((rd_T67 l0 x3_1).f1),.string (⟨#[]⟩ : ByteArray),.string (⟨#[]⟩ : ByteArray)]) ?_ 2 _ rfl;(with_reducible repeat (first | refine blk_drewN ?_ _ | refine blk_drew ?_ | refine blk_alloc ?_ _));refine blk_put (cs:=#[.int .i64 ((rd_T67 l0 x3_1).f0),.string (⟨#[]⟩ : ByteArray),.string (⟨#[]⟩ : ByteArray),.string (⟨#[]⟩ : ByteArray)]) ?_ 1 _ rfl;(with_reducible repeat (first | refine blk_drewN ?_ _ | refine blk_drew ?_ | refine blk_alloc ?_ _));refine blk_put (cs:=#[.int .i64 0,.string (⟨#[]⟩ : ByteArray),.string (⟨#[]⟩ : ByteArray),.string (⟨#[]⟩ : ByteArray)]) ?_ 0 _ rfl;(with_reducible repeat (first | refine blk_drewN ?_ _ | refine blk_drew ?_ | refine blk_alloc ?_ _));exact BK125.out) hb);have n1_:=Aside0.mk (below_step (by repeat (first | (with_reducible first | exact HB.out | apply below_alloc | apply pw_below_drewN | apply below_drew1 | refine below_set ?_ GE125.out) | exact HB.out)) hb);clear BK125;clear HB;have BK125:=n0_;have HB:=n1_;clear n0_ n1_;(try clear hb);(try clear hb2);(try clear hk);(try clear hi)))
       repeat (go_quiet (first | ((with_reducible refine gate_dst (N:=4) rfl ?_);refine box_event ?hg (N:=4) ?hd (cs:=#[.int .i64 0,.string (⟨#[]⟩ : ByteArray),.string (⟨#[]⟩ : ByteArray),.string (⟨#[]⟩ : ByteArray)]) (t:=67) ?hr ?_;(case hd => rfl);(case hg => rfl);(case hr => first | (go_simp;done) | (go_simp;rfl));intro gb125 hg w8 hbox hb;have n0_:=Aside0.mk (below_step (by repeat (first | (with_reducible first | exact HB.out | apply below_alloc | apply pw_below_drewN | apply below_drew1) | exact HB.out)) hb);have n1_:=Aside0.mk (hbox);have n2_:=Aside0.mk ((by rw [hg];exact (below_size (by repeat (first | (with_reducible first | exact HB.out | apply below_alloc | apply pw_below_drewN | apply below_drew1) | exact HB.out))) : w.heap.size ≤ gb125));have n3_:=Aside0.mk ((by rw [hg];exact (below_size (by repeat (first | (with_reducible first | exact HB.out | apply below_alloc | apply pw_below_drewN | apply below_drew1) | exact HB.out))) : w.heap.size ≤ gb125));clear HB;have HB:=n0_;have BK125:=n1_;have GW125:=n2_;have GE125:=n3_;clear n0_ n1_ n2_ n3_;clear hb hbox hg;have hcz9_0 : w8.cell? ⟨gb125,0,none⟩ = some (.int .i64 0):=(blk_cell BK125.out 0).trans rfl;have hcz9_1 : w8.cell? ⟨gb125,1,none⟩ = some (.string (⟨#[]⟩ : ByteArray)):=(blk_cell BK125.out 1).trans rfl;have hcz9_2 : w8.cell? ⟨gb125,2,none⟩ = some (.string (⟨#[]⟩ : ByteArray)):=(blk_cell BK125.out 2).trans rfl;have hcz9_3 : w8.cell? ⟨gb125,3,none⟩ = some (.string (⟨#[]⟩ : ByteArray)):=(blk_cell BK125.out 3).trans rfl;have hfz9_0:=blk_frozen BK125.out 0;have hfz9_1:=blk_frozen BK125.out 1;have hfz9_2:=blk_frozen BK125.out 2;have hfz9_3:=blk_frozen BK125.out 3) | (go_at_call 44;(with_reducible refine (metrolabref53_form.calls k1 ((rd_T67 l0 x3_1).f0) ((rd_T67 l0 x3_1).f1) ((rd_T67 l0 x3_1).f2) ((rd_T67 l0 x3_1).f3) t126 _ A5.out).mono ?_);rintro e w10 ⟨rfl,hb⟩;have n0_:=Aside0.mk (blk_below (g:=gb125) (o:=.cells #[.int .i64 ((rd_T67 l0 x3_1).f0),.string ((rd_T67 l0 x3_1).f1),.string ((rd_T67 l0 x3_1).f2),.string ((rd_T67 l0 x3_1).f3)] 67 (0,0)) (by (with_reducible repeat (first | refine blk_drewN ?_ _ | refine blk_drew ?_ | refine blk_alloc ?_ _));refine blk_put (cs:=#[.int .i64 ((rd_T67 l0 x3_1).f0),.string ((rd_T67 l0 x3_1).f1),.string ((rd_T67 l0 x3_1).f2),.string (⟨#[]⟩ : ByteArray)]) ?_ 3 _ rfl;(with_reducible repeat (first | refine blk_drewN ?_ _ | refine blk_drew ?_ | refine blk_alloc ?_ _));refine blk_put (cs:=#[.int .i64 ((rd_T67 l0 x3_1).f0),.string ((rd_T67 l0 x3_1).f1),.string (⟨#[]⟩ : ByteArray),.string (⟨#[]⟩ : ByteArray)]) ?_ 2 _ rfl;(with_reducible repeat (first | refine blk_drewN ?_ _ | refine blk_drew ?_ | refine blk_alloc ?_ _));refine blk_put (cs:=#[.int .i64 ((rd_T67 l0 x3_1).f0),.string (⟨#[]⟩ : ByteArray),.string (⟨#[]⟩ : ByteArray),.string (⟨#[]⟩ : ByteArray)]) ?_ 1 _ rfl;(with_reducible repeat (first | refine blk_drewN ?_ _ | refine blk_drew ?_ | refine blk_alloc ?_ _));refine blk_put (cs:=#[.int .i64 0,.string (⟨#[]⟩ : ByteArray),.string (⟨#[]⟩ : ByteArray),.string (⟨#[]⟩ : ByteArray)]) ?_ 0 _ rfl;(with_reducible repeat (first | refine blk_drewN ?_ _ | refine blk_drew ?_ | refine blk_alloc ?_ _));exact BK125.out) hb);have n1_:=Aside0.mk (below_step (by repeat (first | (with_reducible first | exact HB.out | apply below_alloc | apply pw_below_drewN | apply below_drew1 | refine below_set ?_ GE125.out) | exact HB.out)) hb);clear BK125;clear HB;have BK125:=n0_;have HB:=n1_;clear n0_ n1_;(try clear hb);(try clear hb2);(try clear hk);(try clear hi)));go_upto_region 10 with (first | ((with_reducible refine gate_dst (N:=4) rfl ?_);refine box_event ?hg (N:=4) ?hd (cs:=#[.int .i64 0,.string (⟨#[]⟩ : ByteArray),.string (⟨#[]⟩ : ByteArray),.string (⟨#[]⟩ : ByteArray)]) (t:=67) ?hr ?_;(case hd => rfl);(case hg => rfl);(case hr => first | (go_simp;done) | (go_simp;rfl));intro gb125 hg w8 hbox hb;have n0_:=Aside0.mk (below_step (by repeat (first | (with_reducible first | exact HB.out | apply below_alloc | apply pw_below_drewN | apply below_drew1) | exact HB.out)) hb);have n1_:=Aside0.mk (hbox);have n2_:=Aside0.mk ((by rw [hg];exact (below_size (by repeat (first | (with_reducible first | exact HB.out | apply below_alloc | apply pw_below_drewN | apply below_drew1) | exact HB.out))) : w.heap.size ≤ gb125));have n3_:=Aside0.mk ((by rw [hg];exact (below_size (by repeat (first | (with_reducible first | exact HB.out | apply below_alloc | apply pw_below_drewN | apply below_drew1) | exact HB.out))) : w.heap.size ≤ gb125));clear HB;have HB:=n0_;have BK125:=n1_;have GW125:=n2_;have GE125:=n3_;clear n0_ n1_ n2_ n3_;clear hb hbox hg;have hcz9_0 : w8.cell? ⟨gb125,0,none⟩ = some (.int .i64 0):=(blk_cell BK125.out 0).trans rfl;have hcz9_1 : w8.cell? ⟨gb125,1,none⟩ = some (.string (⟨#[]⟩ : ByteArray)):=(blk_cell BK125.out 1).trans rfl;have hcz9_2 : w8.cell? ⟨gb125,2,none⟩ = some (.string (⟨#[]⟩ : ByteArray)):=(blk_cell BK125.out 2).trans rfl;have hcz9_3 : w8.cell? ⟨gb125,3,none⟩ = some (.string (⟨#[]⟩ : ByteArray)):=(blk_cell BK125.out 3).trans rfl;have hfz9_0:=blk_frozen BK125.out 0;have hfz9_1:=blk_frozen BK125.out 1;have hfz9_2:=blk_frozen BK125.out 2;have hfz9_3:=blk_frozen BK125.out 3) | (go_at_call 44;(with_reducible refine (metrolabref53_form.calls k1 ((rd_T67 l0 x3_1).f0) ((rd_T67 l0 x3_1).f1) ((rd_T67 l0 x3_1).f2) ((rd_T67 l0 x3_1).f3) t126 _ A5.out).mono ?_);rintro e w10 ⟨rfl,hb⟩;have n0_:=Aside0.mk (blk_below (g:=gb125) (o:=.cells #[.int .i64 ((rd_T67 l0 x3_1).f0),.string ((rd_T67 l0 x3_1).f1),.string ((rd_T67 l0 x3_1).f2),.string ((rd_T67 l0 x3_1).f3)] 67 (0,0)) (by (with_reducible repeat (first | refine blk_drewN ?_ _ | refine blk_drew ?_ | refine blk_alloc ?_ _));refine blk_put (cs:=#[.int .i64 ((rd_T67 l0 x3_1).f0),.string ((rd_T67 l0 x3_1).f1),.string ((rd_T67 l0 x3_1).f2),.string (⟨#[]⟩ : ByteArray)]) ?_ 3 _ rfl;(with_reducible repeat (first | refine blk_drewN ?_ _ | refine blk_drew ?_ | refine blk_alloc ?_ _));refine blk_put (cs:=#[.int .i64 ((rd_T67 l0 x3_1).f0),.string ((rd_T67 l0 x3_1).f1),.string (⟨#[]⟩ : ByteArray),.string (⟨#[]⟩ : ByteArray)]) ?_ 2 _ rfl;(with_reducible repeat (first | refine blk_drewN ?_ _ | refine blk_drew ?_ | refine blk_alloc ?_ _));refine blk_put (cs:=#[.int .i64 ((rd_T67 l0 x3_1).f0),.string (⟨#[]⟩ : ByteArray),.string (⟨#[]⟩ : ByteArray),.string (⟨#[]⟩ : ByteArray)]) ?_ 1 _ rfl;(with_reducible repeat (first | refine blk_drewN ?_ _ | refine blk_drew ?_ | refine blk_alloc ?_ _));refine blk_put (cs:=#[.int .i64 0,.string (⟨#[]⟩ : ByteArray),.string (⟨#[]⟩ : ByteArray),.string (⟨#[]⟩ : ByteArray)]) ?_ 0 _ rfl;(with_reducible repeat (first | refine blk_drewN ?_ _ | refine blk_drew ?_ | refine blk_alloc ?_ _));exact BK125.out) hb);have n1_:=Aside0.mk (below_step (by repeat (first | (with_reducible first | exact HB.out | apply below_alloc | apply pw_below_drewN | apply below_drew1 | refine below_set ?_ GE125.out) | exact HB.out)) hb);clear BK125;clear HB;have BK125:=n0_;have HB:=n1_;clear n0_ n1_;(try clear hb);(try clear hb2);(try clear hk);(try clear hi))))
       (try simp only [Act.put,List.setIfInBounds_toArray,List.set_cons_zero,List.set_cons_succ])
       go_cut [35] (fun v35 wc => ∃ (kq : Nat) (x35_6 : Bool),v35 = .bool x35_6 ∧ Aside0 (metrolabref53_Check.j1 kq l0 x3_1 x35_6 ((rd_T67 l0 x3_1).f0) ((rd_T67 l0 x3_1).f1) ((rd_T67 l0 x3_1).f2) ((rd_T67 l0 x3_1).f3) = some r) ∧ Aside0 (kq ≤ k1) ∧ Aside0 (wc.heap[gb125]? = some (.cells #[.int .i64 ((rd_T67 l0 x3_1).f0),.string ((rd_T67 l0 x3_1).f1),.string ((rd_T67 l0 x3_1).f2),.string ((rd_T67 l0 x3_1).f3)] 67 (0,0))) ∧ Aside0 (Below w.heap.size w wc))
       case first =>
        have H:=HC7.out
        clear HC7
        by_cases c11 : ((rd_T67 l0 x3_1).f0) = 0
        ·rw [if_pos c11] at H
         have c11b0 : (((rd_T67 l0 x3_1).f0) == 0) = true:=beq_iff_eq.mpr c11
         have c11b1 : (((rd_T67 l0 x3_1).f0) != 0) = false:=bne_eq_false_iff_eq.mpr c11
         clear c11
         (first | rw [c11b0] | (simp only [i64_w,i32_w];rw [c11b0]) | skip)
         have c12b0:=eq_true (of_decide_eq_true (by first | (with_reducible assumption) | assumption) : 0 ≤ x3_1)
         by_cases c13 : x3_1 ≤ (l0.length : Int)
         ·rw [if_pos c13] at H
          have c13b0:=eq_true c13
          have c13b1 : decide (x3_1 ≤ (l0.length : Int)) = true:=decide_eq_true c13
          clear c13
          obtain ⟨y127,hy127⟩ : ∃ y_ : List (S67),y_ = (l0.take (x3_1 : Int).toNat):=⟨_,rfl⟩
          replace H : ((metrolabref53_Withdrawn.f k1 y127 ((rd_T67 l0 x3_1).f2)).bind fun t131 => (metrolabref53_Check.j1 k1 l0 x3_1 t131 ((rd_T67 l0 x3_1).f0) ((rd_T67 l0 x3_1).f1) ((rd_T67 l0 x3_1).f2) ((rd_T67 l0 x3_1).f3))) = some r:=by first | (rw [hy127];with_reducible exact H) | (have H2_:=(Option.bind_some _ _).symm.trans H;rw [hy127];with_reducible exact H2_) | (have H2_:=(Option.bind_some _ _).symm.trans H;with_reducible exact H2_) | with_reducible exact H | (rw [hy127];exact H) | exact H
          have Ny127:=Aside0.mk hy127
          clear hy127
          replace H:=Option.bind_eq_some_iff.mp H
          obtain ⟨t131,A140,H⟩:=H
          replace H : (metrolabref53_Check.j1 k1 l0 x3_1 t131 ((rd_T67 l0 x3_1).f0) ((rd_T67 l0 x3_1).f1) ((rd_T67 l0 x3_1).f2) ((rd_T67 l0 x3_1).f3)) = some r:=H
          have A14:=Aside0.mk A140
          clear A140
          have H':=Aside0.mk H
          clear H
          have hcz15_0 : w10.cell? ⟨gb125,0,none⟩ = some (.int .i64 ((rd_T67 l0 x3_1).f0)):=(blk_cell BK125.out 0).trans rfl
          have hcz15_1 : w10.cell? ⟨gb125,1,none⟩ = some (.string ((rd_T67 l0 x3_1).f1)):=(blk_cell BK125.out 1).trans rfl
          have hcz15_2 : w10.cell? ⟨gb125,2,none⟩ = some (.string ((rd_T67 l0 x3_1).f2)):=(blk_cell BK125.out 2).trans rfl
          have hcz15_3 : w10.cell? ⟨gb125,3,none⟩ = some (.string ((rd_T67 l0 x3_1).f3)):=(blk_cell BK125.out 3).trans rfl
          have hfz15_0:=blk_frozen BK125.out 0
          have hfz15_1:=blk_frozen BK125.out 1
          have hfz15_2:=blk_frozen BK125.out 2
          have hfz15_3:=blk_frozen BK125.out 3
          have q16 : (x3_1 : Int) ≤ ((l0.length : Int) : Int):=of_decide_eq_true (by first | (with_reducible assumption) | assumption)
          obtain ⟨i016,hi016,_,hsz16,_⟩:=info_parts info67
          have hroom16 : l0.length ≤ c0:=HC0.out
          have hC16 : Kd.C k67 _ (some ad124) l0.length l0:=HR0.out
          have hcut16:=cut_to (P:=Try.prog) 31 67 .i64 Try.underlying31 hi016 (some ad124) l0.length c0 x3_1 (of_decide_eq_true (by first | (with_reducible assumption) | assumption)) q16 hroom16
          have hr16:=Kd.C_take (m:=(x3_1 : Int).toNat) hC16 (by omega)
          have hy16 : y127.length = (x3_1 : Int).toNat:=(by rw [Ny127.out,List.length_take];omega)
          rw [← Ny127.out] at hr16
          rw [← hy16] at hcut16
          have HR130:=Aside0.mk hr16
          have HC130:=Aside0.mk (show y127.length ≤ c0 from by omega)
          clear hr16 hC16 hroom16 hi016 hsz16
          have KY16:=Aside0.mk hy16
          clear hy16
          replace q16:=eq_true q16
          go_wp2_with (first | (go_at_call 45;(with_reducible refine (metrolabref53_Withdrawn.calls k1 _ _ y127 ((rd_T67 l0 x3_1).f2) t131 _ ?side1 ?side2 A14.out).mono ?_);(case side1 => repeat (first | exact (Kd.C_below HR130.out HB.out) | (with_reducible refine Kd.C_alloc ?_ _) | (with_reducible refine Kd.C_drewN ?_ _) | (with_reducible refine Kd.C_drew ?_)));(case side2 => exact HC130.out);rintro e w' ⟨rfl,⟨nd,rfl⟩⟩;(try first | exact ⟨rfl,_,World.drewN_drewN _ _ _⟩ | exact ⟨rfl,_,Eq.trans (World.drewN_drewN _ _ _) (congrArg (World.drewN _) (Nat.add_assoc _ _ _))⟩)))
          repeat (go_quiet (first | (go_at_call 45;(with_reducible refine (metrolabref53_Withdrawn.calls k1 _ _ y127 ((rd_T67 l0 x3_1).f2) t131 _ ?side1 ?side2 A14.out).mono ?_);(case side1 => repeat (first | exact (Kd.C_below HR130.out HB.out) | (with_reducible refine Kd.C_alloc ?_ _) | (with_reducible refine Kd.C_drewN ?_ _) | (with_reducible refine Kd.C_drew ?_)));(case side2 => exact HC130.out);rintro e w' ⟨rfl,⟨nd,rfl⟩⟩;(try first | exact ⟨rfl,_,World.drewN_drewN _ _ _⟩ | exact ⟨rfl,_,Eq.trans (World.drewN_drewN _ _ _) (congrArg (World.drewN _) (Nat.add_assoc _ _ _))⟩)));try go_wp2_with (first | (go_at_call 45;(with_reducible refine (metrolabref53_Withdrawn.calls k1 _ _ y127 ((rd_T67 l0 x3_1).f2) t131 _ ?side1 ?side2 A14.out).mono ?_);(case side1 => repeat (first | exact (Kd.C_below HR130.out HB.out) | (with_reducible refine Kd.C_alloc ?_ _) | (with_reducible refine Kd.C_drewN ?_ _) | (with_reducible refine Kd.C_drew ?_)));(case side2 => exact HC130.out);rintro e w' ⟨rfl,⟨nd,rfl⟩⟩;(try first | exact ⟨rfl,_,World.drewN_drewN _ _ _⟩ | exact ⟨rfl,_,Eq.trans (World.drewN_drewN _ _ _) (congrArg (World.drewN _) (Nat.add_assoc _ _ _))⟩))))
          go_meet
          case rel => exact ⟨_,(t131),(by first | rfl | (simp;done) | (simp [*];done)),H',⟨by have:=HK1.out;first | omega | exact Nat.le_refl _⟩,⟨by (with_reducible repeat (first | refine blk_drewN ?_ _ | refine blk_drew ?_ | refine blk_alloc ?_ _));exact BK125.out⟩,⟨by repeat (first | (with_reducible first | exact HB.out | apply below_alloc | apply pw_below_drewN | apply below_drew1 | refine below_set ?_ GE125.out) | exact HB.out)⟩⟩
         ·rw [if_neg c13] at H
          exact absurd H (by simp)
        ·rw [if_neg c11] at H
         have c11b0 : (((rd_T67 l0 x3_1).f0) == 0) = false:=beq_eq_false_iff_ne.mpr c11
         have c11b1 : (((rd_T67 l0 x3_1).f0) != 0) = true:=bne_iff_ne.mpr c11
         (first | rw [c11b0] | (simp only [i64_w,i32_w];rw [c11b0]) | skip)
         have H':=Aside0.mk H
         clear H
         have hcz17_0 : w10.cell? ⟨gb125,0,none⟩ = some (.int .i64 ((rd_T67 l0 x3_1).f0)):=(blk_cell BK125.out 0).trans rfl
         have hcz17_1 : w10.cell? ⟨gb125,1,none⟩ = some (.string ((rd_T67 l0 x3_1).f1)):=(blk_cell BK125.out 1).trans rfl
         have hcz17_2 : w10.cell? ⟨gb125,2,none⟩ = some (.string ((rd_T67 l0 x3_1).f2)):=(blk_cell BK125.out 2).trans rfl
         have hcz17_3 : w10.cell? ⟨gb125,3,none⟩ = some (.string ((rd_T67 l0 x3_1).f3)):=(blk_cell BK125.out 3).trans rfl
         have hfz17_0:=blk_frozen BK125.out 0
         have hfz17_1:=blk_frozen BK125.out 1
         have hfz17_2:=blk_frozen BK125.out 2
         have hfz17_3:=blk_frozen BK125.out 3
         go_wp2
         repeat (go_quiet (fail);try go_wp2)
         go_meet
         case rel => exact ⟨_,(false),(by first | rfl | (simp;done) | (simp [*];done)),H',⟨by have:=HK1.out;first | omega | exact Nat.le_refl _⟩,⟨by (with_reducible repeat (first | refine blk_drewN ?_ _ | refine blk_drew ?_ | refine blk_alloc ?_ _));exact BK125.out⟩,⟨by repeat (first | (with_reducible first | exact HB.out | apply below_alloc | apply pw_below_drewN | apply below_drew1 | refine below_set ?_ GE125.out) | exact HB.out)⟩⟩
       case rest =>
        clear HC7
        try clear c1
        try clear p1
        try clear q1
        try clear hx1
        try clear c2
        try clear c2b0
        try clear c2b1
        try clear p2
        try clear c3
        try clear c3b0
        try clear c4
        try clear c4b0
        try clear c6
        try clear c6b0
        try clear c6b1
        try clear c11
        try clear c11b0
        try clear c11b1
        try clear c12
        try clear c12b0
        try clear p12
        try clear q12
        try clear hx12
        try clear c13
        try clear c13b0
        try clear c13b1
        try clear q16
        try clear c17
        try clear hcz15_0
        try clear hcz15_1
        try clear hcz15_2
        try clear hcz15_3
        try clear hcz17_0
        try clear hcz17_1
        try clear hcz17_2
        try clear hcz17_3
        try clear hcz9_0
        try clear hcz9_1
        try clear hcz9_2
        try clear hcz9_3
        try clear hfz15_0
        try clear hfz15_1
        try clear hfz15_2
        try clear hfz15_3
        try clear hfz17_0
        try clear hfz17_1
        try clear hfz17_2
        try clear hfz17_3
        try clear hfz9_0
        try clear hfz9_1
        try clear hfz9_2
        try clear hfz9_3
        try clear hx124_0
        try clear hx124_1
        try clear hx124_2
        try clear hx124_3
        try clear p124
        try clear p2
        try clear q124
        try clear q16
        obtain ⟨kq,x35_6,rfl,HA,HJ6,BK125,HB⟩:=hcut
        cases kq with
        | zero => exact absurd HA.out (by simp [metrolabref53_Check.j1])
        | succ kj6 =>
         have H:=HA.out
         clear HA
         simp only [metrolabref53_Check.j1] at H
         by_cases c18 : x35_6 = true
         ·subst c18
          have H1 : (some 14) = some r:=by rw [if_pos rfl] at H;exact H
          clear H
          have H:=H1
          clear H1
          obtain rfl:=Option.some.inj H
          go_wp2
          repeat (go_quiet (fail);try go_wp2)
          go_ret
          exact ⟨by first | rfl | (simp [errW_none,errW_some] <;> rfl) | (simp [*,errW_none,errW_some] <;> rfl),by repeat (first | (with_reducible first | exact HB.out | apply below_alloc | apply pw_below_drewN | apply below_drew1 | refine below_set ?_ GE125.out) | exact HB.out)⟩
         ·replace c18:=Bool.eq_false_iff.mpr c18
          subst c18
          have H1 : (metrolabref53_Check.l1 kj6 l0 x3_1 0 ((rd_T67 l0 x3_1).f0) ((rd_T67 l0 x3_1).f1) ((rd_T67 l0 x3_1).f2) ((rd_T67 l0 x3_1).f3)) = some r:=by rw [if_neg (show ¬ (false = true) by decide)] at H;exact H
          clear H
          have H:=H1
          clear H1
          have H':=Aside0.mk H
          clear H
          go_wp2
          repeat (go_quiet (fail);try go_wp2)
          go_loopg [6] kj6 (fun kq v6 w' => ∃ (x6_3 : Int),v6 = .int .i64 x6_3 ∧ Aside0 (metrolabref53_Check.l1 kq l0 x3_1 x6_3 ((rd_T67 l0 x3_1).f0) ((rd_T67 l0 x3_1).f1) ((rd_T67 l0 x3_1).f2) ((rd_T67 l0 x3_1).f3) = some r) ∧ Aside0 (kq ≤ kj6) ∧ Aside0 (w'.heap[gb125]? = some (.cells #[.int .i64 ((rd_T67 l0 x3_1).f0),.string ((rd_T67 l0 x3_1).f1),.string ((rd_T67 l0 x3_1).f2),.string ((rd_T67 l0 x3_1).f3)] 67 (0,0))) ∧ Aside0 (Below w.heap.size w w'))
          case atStart => exact ⟨(0),(by first | rfl | (simp;done) | (simp [*];done)),H',⟨Nat.le_refl _⟩,⟨by (with_reducible repeat (first | refine blk_drewN ?_ _ | refine blk_drew ?_ | refine blk_alloc ?_ _));exact BK125.out⟩,⟨by repeat (first | (with_reducible first | exact HB.out | apply below_alloc | apply pw_below_drewN | apply below_drew1 | refine below_set ?_ GE125.out) | exact HB.out)⟩⟩
          case round =>
           clear H'
           try clear c1
           try clear p1
           try clear q1
           try clear hx1
           try clear c2
           try clear c2b0
           try clear c2b1
           try clear p2
           try clear c3
           try clear c3b0
           try clear c4
           try clear c4b0
           try clear c6
           try clear c6b0
           try clear c6b1
           try clear c11
           try clear c11b0
           try clear c11b1
           try clear c12
           try clear c12b0
           try clear p12
           try clear q12
           try clear hx12
           try clear c13
           try clear c13b0
           try clear c13b1
           try clear q16
           try clear c17
           try clear c18
           try clear hcz15_0
           try clear hcz15_1
           try clear hcz15_2
           try clear hcz15_3
           try clear hcz17_0
           try clear hcz17_1
           try clear hcz17_2
           try clear hcz17_3
           try clear hcz9_0
           try clear hcz9_1
           try clear hcz9_2
           try clear hcz9_3
           try clear hfz15_0
           try clear hfz15_1
           try clear hfz15_2
           try clear hfz15_3
           try clear hfz17_0
           try clear hfz17_1
           try clear hfz17_2
           try clear hfz17_3
           try clear hfz9_0
           try clear hfz9_1
           try clear hfz9_2
           try clear hfz9_3
           try clear hx124_0
           try clear hx124_1
           try clear hx124_2
           try clear hx124_3
           try clear p1
           try clear p12
           try clear p124
           try clear p2
           try clear q1
           try clear q12
           try clear q124
           try clear q16
           obtain ⟨x6_3,rfl,HA,HK3,BK125,HB⟩:=hrel
           cases gk with
           | zero => exact absurd HA.out (by simp [metrolabref53_Check.l1])
           | succ k3 =>
            have H:=HA.out
            clear HA
            simp only [metrolabref53_Check.l1] at H
            by_cases c19 : x6_3 < x3_1
            ·rw [if_pos c19] at H
             have c19b0 : decide (x6_3 < x3_1) = true:=decide_eq_true c19
             clear c19
             by_cases c20 : ((rd_T67 l0 x3_1).f0) = 0
             ·rw [if_pos c20] at H
              have c20b0 : (((rd_T67 l0 x3_1).f0) == 0) = true:=beq_iff_eq.mpr c20
              have c20b1 : (((rd_T67 l0 x3_1).f0) != 0) = false:=bne_eq_false_iff_eq.mpr c20
              clear c20
              by_cases c21 : 0 ≤ x6_3
              ·rw [if_pos c21] at H
               have c21b0 : decide (0 ≤ x6_3) = true:=decide_eq_true c21
               clear c21
               by_cases c22 : x6_3 < (l0.length : Int)
               ·rw [if_pos c22] at H
                have c22b0 : decide (x6_3 < (l0.length : Int)) = true:=decide_eq_true c22
                clear c22
                by_cases c23 : ((rd_T67 l0 x6_3).f0) = 0
                ·rw [if_pos c23] at H
                 have c23b0 : (((rd_T67 l0 x6_3).f0) == 0) = true:=beq_iff_eq.mpr c23
                 have c23b1 : (((rd_T67 l0 x6_3).f0) != 0) = false:=bne_eq_false_iff_eq.mpr c23
                 clear c23
                 by_cases c24 : ((rd_T67 l0 x6_3).f2).toList = ((rd_T67 l0 x3_1).f2).toList
                 ·rw [if_pos c24] at H
                  have c24b0 : (((rd_T67 l0 x6_3).f2).toList == ((rd_T67 l0 x3_1).f2).toList) = true:=beq_iff_eq.mpr c24
                  have c24b1 : (((rd_T67 l0 x6_3).f2).toList != ((rd_T67 l0 x3_1).f2).toList) = false:=bne_eq_false_iff_eq.mpr c24
                  clear c24
                  by_cases c25 : ((rd_T67 l0 x6_3).f3).toList = ((rd_T67 l0 x3_1).f3).toList
                  ·rw [if_pos c25] at H
                   have c25b0 : (((rd_T67 l0 x6_3).f3).toList == ((rd_T67 l0 x3_1).f3).toList) = true:=beq_iff_eq.mpr c25
                   have c25b1 : (((rd_T67 l0 x6_3).f3).toList != ((rd_T67 l0 x3_1).f3).toList) = false:=bne_eq_false_iff_eq.mpr c25
                   clear c25
                   have H':=Aside0.mk H
                   clear H
                   have hcz26_0 : wr.cell? ⟨gb125,0,none⟩ = some (.int .i64 ((rd_T67 l0 x3_1).f0)):=(blk_cell BK125.out 0).trans rfl
                   have hcz26_1 : wr.cell? ⟨gb125,1,none⟩ = some (.string ((rd_T67 l0 x3_1).f1)):=(blk_cell BK125.out 1).trans rfl
                   have hcz26_2 : wr.cell? ⟨gb125,2,none⟩ = some (.string ((rd_T67 l0 x3_1).f2)):=(blk_cell BK125.out 2).trans rfl
                   have hcz26_3 : wr.cell? ⟨gb125,3,none⟩ = some (.string ((rd_T67 l0 x3_1).f3)):=(blk_cell BK125.out 3).trans rfl
                   have hfz26_0:=blk_frozen BK125.out 0
                   have hfz26_1:=blk_frozen BK125.out 1
                   have hfz26_2:=blk_frozen BK125.out 2
                   have hfz26_3:=blk_frozen BK125.out 3
                   have p132 : 0 ≤ (x6_3 : Int):=of_decide_eq_true (by first | (with_reducible assumption) | assumption)
                   have q132 : x6_3 < (l0.length : Int):=of_decide_eq_true (by first | (with_reducible assumption) | assumption)
                   obtain ⟨ad132,e132,hx132_0,hx132_1,hx132_2,hx132_3⟩:=at_T67 HR0.out x6_3 p132 q132
                   obtain rfl : ad124 = ad132:=(by injection e132)
                   replace hx132_0:=(HB.out.cell (World.block_lt_of_cell? w _ hx132_0)).trans hx132_0
                   replace hx132_1:=(HB.out.cell (World.block_lt_of_cell? w _ hx132_1)).trans hx132_1
                   replace hx132_2:=(HB.out.cell (World.block_lt_of_cell? w _ hx132_2)).trans hx132_2
                   replace hx132_3:=(HB.out.cell (World.block_lt_of_cell? w _ hx132_3)).trans hx132_3
                   replace p132:=eq_true p132
                   replace q132:=eq_true q132
                   have p133 : 0 ≤ (x6_3 : Int):=of_decide_eq_true (by first | (with_reducible assumption) | assumption)
                   have q133 : x6_3 < (l0.length : Int):=of_decide_eq_true (by first | (with_reducible assumption) | assumption)
                   obtain ⟨ad133,e133,hx133_0,hx133_1,hx133_2,hx133_3⟩:=at_T67 HR0.out x6_3 p133 q133
                   obtain rfl : ad124 = ad133:=(by injection e133)
                   replace hx133_0:=(HB.out.cell (World.block_lt_of_cell? w _ hx133_0)).trans hx133_0
                   replace hx133_1:=(HB.out.cell (World.block_lt_of_cell? w _ hx133_1)).trans hx133_1
                   replace hx133_2:=(HB.out.cell (World.block_lt_of_cell? w _ hx133_2)).trans hx133_2
                   replace hx133_3:=(HB.out.cell (World.block_lt_of_cell? w _ hx133_3)).trans hx133_3
                   replace p133:=eq_true p133
                   replace q133:=eq_true q133
                   have p134 : 0 ≤ (x6_3 : Int):=of_decide_eq_true (by first | (with_reducible assumption) | assumption)
                   have q134 : x6_3 < (l0.length : Int):=of_decide_eq_true (by first | (with_reducible assumption) | assumption)
                   obtain ⟨ad134,e134,hx134_0,hx134_1,hx134_2,hx134_3⟩:=at_T67 HR0.out x6_3 p134 q134
                   obtain rfl : ad124 = ad134:=(by injection e134)
                   replace hx134_0:=(HB.out.cell (World.block_lt_of_cell? w _ hx134_0)).trans hx134_0
                   replace hx134_1:=(HB.out.cell (World.block_lt_of_cell? w _ hx134_1)).trans hx134_1
                   replace hx134_2:=(HB.out.cell (World.block_lt_of_cell? w _ hx134_2)).trans hx134_2
                   replace hx134_3:=(HB.out.cell (World.block_lt_of_cell? w _ hx134_3)).trans hx134_3
                   replace p134:=eq_true p134
                   replace q134:=eq_true q134
                   go_wp2
                   repeat (go_quiet (fail);try go_wp2)
                   go_roundg k3
                   case measure => have:=HK1.out;have:=HJ6.out;have:=HK3.out;omega
                   case rel => exact ⟨(wrap64 (x6_3 + 1)),(by first | rfl | (simp;done) | (simp [*];done)),H',⟨by have:=HK1.out;have:=HJ6.out;have:=HK3.out;omega⟩,⟨by (with_reducible repeat (first | refine blk_drewN ?_ _ | refine blk_drew ?_ | refine blk_alloc ?_ _));exact BK125.out⟩,⟨by repeat (first | (with_reducible first | exact HB.out | apply below_alloc | apply pw_below_drewN | apply below_drew1 | refine below_set ?_ GE125.out) | exact HB.out)⟩⟩
                  ·rw [if_neg c25] at H
                   have c25b0 : (((rd_T67 l0 x6_3).f3).toList == ((rd_T67 l0 x3_1).f3).toList) = false:=beq_eq_false_iff_ne.mpr c25
                   have c25b1 : (((rd_T67 l0 x6_3).f3).toList != ((rd_T67 l0 x3_1).f3).toList) = true:=bne_iff_ne.mpr c25
                   obtain rfl:=Option.some.inj H
                   have hcz27_0 : wr.cell? ⟨gb125,0,none⟩ = some (.int .i64 ((rd_T67 l0 x3_1).f0)):=(blk_cell BK125.out 0).trans rfl
                   have hcz27_1 : wr.cell? ⟨gb125,1,none⟩ = some (.string ((rd_T67 l0 x3_1).f1)):=(blk_cell BK125.out 1).trans rfl
                   have hcz27_2 : wr.cell? ⟨gb125,2,none⟩ = some (.string ((rd_T67 l0 x3_1).f2)):=(blk_cell BK125.out 2).trans rfl
                   have hcz27_3 : wr.cell? ⟨gb125,3,none⟩ = some (.string ((rd_T67 l0 x3_1).f3)):=(blk_cell BK125.out 3).trans rfl
                   have hfz27_0:=blk_frozen BK125.out 0
                   have hfz27_1:=blk_frozen BK125.out 1
                   have hfz27_2:=blk_frozen BK125.out 2
                   have hfz27_3:=blk_frozen BK125.out 3
                   have p132 : 0 ≤ (x6_3 : Int):=of_decide_eq_true (by first | (with_reducible assumption) | assumption)
                   have q132 : x6_3 < (l0.length : Int):=of_decide_eq_true (by first | (with_reducible assumption) | assumption)
                   obtain ⟨ad132,e132,hx132_0,hx132_1,hx132_2,hx132_3⟩:=at_T67 HR0.out x6_3 p132 q132
                   obtain rfl : ad124 = ad132:=(by injection e132)
                   replace hx132_0:=(HB.out.cell (World.block_lt_of_cell? w _ hx132_0)).trans hx132_0
                   replace hx132_1:=(HB.out.cell (World.block_lt_of_cell? w _ hx132_1)).trans hx132_1
                   replace hx132_2:=(HB.out.cell (World.block_lt_of_cell? w _ hx132_2)).trans hx132_2
                   replace hx132_3:=(HB.out.cell (World.block_lt_of_cell? w _ hx132_3)).trans hx132_3
                   replace p132:=eq_true p132
                   replace q132:=eq_true q132
                   have p133 : 0 ≤ (x6_3 : Int):=of_decide_eq_true (by first | (with_reducible assumption) | assumption)
                   have q133 : x6_3 < (l0.length : Int):=of_decide_eq_true (by first | (with_reducible assumption) | assumption)
                   obtain ⟨ad133,e133,hx133_0,hx133_1,hx133_2,hx133_3⟩:=at_T67 HR0.out x6_3 p133 q133
                   obtain rfl : ad124 = ad133:=(by injection e133)
                   replace hx133_0:=(HB.out.cell (World.block_lt_of_cell? w _ hx133_0)).trans hx133_0
                   replace hx133_1:=(HB.out.cell (World.block_lt_of_cell? w _ hx133_1)).trans hx133_1
                   replace hx133_2:=(HB.out.cell (World.block_lt_of_cell? w _ hx133_2)).trans hx133_2
                   replace hx133_3:=(HB.out.cell (World.block_lt_of_cell? w _ hx133_3)).trans hx133_3
                   replace p133:=eq_true p133
                   replace q133:=eq_true q133
                   have p134 : 0 ≤ (x6_3 : Int):=of_decide_eq_true (by first | (with_reducible assumption) | assumption)
                   have q134 : x6_3 < (l0.length : Int):=of_decide_eq_true (by first | (with_reducible assumption) | assumption)
                   obtain ⟨ad134,e134,hx134_0,hx134_1,hx134_2,hx134_3⟩:=at_T67 HR0.out x6_3 p134 q134
                   obtain rfl : ad124 = ad134:=(by injection e134)
                   replace hx134_0:=(HB.out.cell (World.block_lt_of_cell? w _ hx134_0)).trans hx134_0
                   replace hx134_1:=(HB.out.cell (World.block_lt_of_cell? w _ hx134_1)).trans hx134_1
                   replace hx134_2:=(HB.out.cell (World.block_lt_of_cell? w _ hx134_2)).trans hx134_2
                   replace hx134_3:=(HB.out.cell (World.block_lt_of_cell? w _ hx134_3)).trans hx134_3
                   replace p134:=eq_true p134
                   replace q134:=eq_true q134
                   go_wp2
                   repeat (go_quiet (fail);try go_wp2)
                   go_ret
                   exact ⟨by first | rfl | (simp [errW_none,errW_some] <;> rfl) | (simp [*,errW_none,errW_some] <;> rfl),by repeat (first | (with_reducible first | exact HB.out | apply below_alloc | apply pw_below_drewN | apply below_drew1 | refine below_set ?_ GE125.out) | exact HB.out)⟩
                 ·rw [if_neg c24] at H
                  have c24b0 : (((rd_T67 l0 x6_3).f2).toList == ((rd_T67 l0 x3_1).f2).toList) = false:=beq_eq_false_iff_ne.mpr c24
                  have c24b1 : (((rd_T67 l0 x6_3).f2).toList != ((rd_T67 l0 x3_1).f2).toList) = true:=bne_iff_ne.mpr c24
                  have H':=Aside0.mk H
                  clear H
                  have hcz28_0 : wr.cell? ⟨gb125,0,none⟩ = some (.int .i64 ((rd_T67 l0 x3_1).f0)):=(blk_cell BK125.out 0).trans rfl
                  have hcz28_1 : wr.cell? ⟨gb125,1,none⟩ = some (.string ((rd_T67 l0 x3_1).f1)):=(blk_cell BK125.out 1).trans rfl
                  have hcz28_2 : wr.cell? ⟨gb125,2,none⟩ = some (.string ((rd_T67 l0 x3_1).f2)):=(blk_cell BK125.out 2).trans rfl
                  have hcz28_3 : wr.cell? ⟨gb125,3,none⟩ = some (.string ((rd_T67 l0 x3_1).f3)):=(blk_cell BK125.out 3).trans rfl
                  have hfz28_0:=blk_frozen BK125.out 0
                  have hfz28_1:=blk_frozen BK125.out 1
                  have hfz28_2:=blk_frozen BK125.out 2
                  have hfz28_3:=blk_frozen BK125.out 3
                  have p132 : 0 ≤ (x6_3 : Int):=of_decide_eq_true (by first | (with_reducible assumption) | assumption)
                  have q132 : x6_3 < (l0.length : Int):=of_decide_eq_true (by first | (with_reducible assumption) | assumption)
                  obtain ⟨ad132,e132,hx132_0,hx132_1,hx132_2,hx132_3⟩:=at_T67 HR0.out x6_3 p132 q132
                  obtain rfl : ad124 = ad132:=(by injection e132)
                  replace hx132_0:=(HB.out.cell (World.block_lt_of_cell? w _ hx132_0)).trans hx132_0
                  replace hx132_1:=(HB.out.cell (World.block_lt_of_cell? w _ hx132_1)).trans hx132_1
                  replace hx132_2:=(HB.out.cell (World.block_lt_of_cell? w _ hx132_2)).trans hx132_2
                  replace hx132_3:=(HB.out.cell (World.block_lt_of_cell? w _ hx132_3)).trans hx132_3
                  replace p132:=eq_true p132
                  replace q132:=eq_true q132
                  have p133 : 0 ≤ (x6_3 : Int):=of_decide_eq_true (by first | (with_reducible assumption) | assumption)
                  have q133 : x6_3 < (l0.length : Int):=of_decide_eq_true (by first | (with_reducible assumption) | assumption)
                  obtain ⟨ad133,e133,hx133_0,hx133_1,hx133_2,hx133_3⟩:=at_T67 HR0.out x6_3 p133 q133
                  obtain rfl : ad124 = ad133:=(by injection e133)
                  replace hx133_0:=(HB.out.cell (World.block_lt_of_cell? w _ hx133_0)).trans hx133_0
                  replace hx133_1:=(HB.out.cell (World.block_lt_of_cell? w _ hx133_1)).trans hx133_1
                  replace hx133_2:=(HB.out.cell (World.block_lt_of_cell? w _ hx133_2)).trans hx133_2
                  replace hx133_3:=(HB.out.cell (World.block_lt_of_cell? w _ hx133_3)).trans hx133_3
                  replace p133:=eq_true p133
                  replace q133:=eq_true q133
                  go_wp2
                  repeat (go_quiet (fail);try go_wp2)
                  go_roundg k3
                  case measure => have:=HK1.out;have:=HJ6.out;have:=HK3.out;omega
                  case rel => exact ⟨(wrap64 (x6_3 + 1)),(by first | rfl | (simp;done) | (simp [*];done)),H',⟨by have:=HK1.out;have:=HJ6.out;have:=HK3.out;omega⟩,⟨by (with_reducible repeat (first | refine blk_drewN ?_ _ | refine blk_drew ?_ | refine blk_alloc ?_ _));exact BK125.out⟩,⟨by repeat (first | (with_reducible first | exact HB.out | apply below_alloc | apply pw_below_drewN | apply below_drew1 | refine below_set ?_ GE125.out) | exact HB.out)⟩⟩
                ·rw [if_neg c23] at H
                 have c23b0 : (((rd_T67 l0 x6_3).f0) == 0) = false:=beq_eq_false_iff_ne.mpr c23
                 have c23b1 : (((rd_T67 l0 x6_3).f0) != 0) = true:=bne_iff_ne.mpr c23
                 have H':=Aside0.mk H
                 clear H
                 have hcz29_0 : wr.cell? ⟨gb125,0,none⟩ = some (.int .i64 ((rd_T67 l0 x3_1).f0)):=(blk_cell BK125.out 0).trans rfl
                 have hcz29_1 : wr.cell? ⟨gb125,1,none⟩ = some (.string ((rd_T67 l0 x3_1).f1)):=(blk_cell BK125.out 1).trans rfl
                 have hcz29_2 : wr.cell? ⟨gb125,2,none⟩ = some (.string ((rd_T67 l0 x3_1).f2)):=(blk_cell BK125.out 2).trans rfl
                 have hcz29_3 : wr.cell? ⟨gb125,3,none⟩ = some (.string ((rd_T67 l0 x3_1).f3)):=(blk_cell BK125.out 3).trans rfl
                 have hfz29_0:=blk_frozen BK125.out 0
                 have hfz29_1:=blk_frozen BK125.out 1
                 have hfz29_2:=blk_frozen BK125.out 2
                 have hfz29_3:=blk_frozen BK125.out 3
                 have p132 : 0 ≤ (x6_3 : Int):=of_decide_eq_true (by first | (with_reducible assumption) | assumption)
                 have q132 : x6_3 < (l0.length : Int):=of_decide_eq_true (by first | (with_reducible assumption) | assumption)
                 obtain ⟨ad132,e132,hx132_0,hx132_1,hx132_2,hx132_3⟩:=at_T67 HR0.out x6_3 p132 q132
                 obtain rfl : ad124 = ad132:=(by injection e132)
                 replace hx132_0:=(HB.out.cell (World.block_lt_of_cell? w _ hx132_0)).trans hx132_0
                 replace hx132_1:=(HB.out.cell (World.block_lt_of_cell? w _ hx132_1)).trans hx132_1
                 replace hx132_2:=(HB.out.cell (World.block_lt_of_cell? w _ hx132_2)).trans hx132_2
                 replace hx132_3:=(HB.out.cell (World.block_lt_of_cell? w _ hx132_3)).trans hx132_3
                 replace p132:=eq_true p132
                 replace q132:=eq_true q132
                 go_wp2
                 repeat (go_quiet (fail);try go_wp2)
                 go_roundg k3
                 case measure => have:=HK1.out;have:=HJ6.out;have:=HK3.out;omega
                 case rel => exact ⟨(wrap64 (x6_3 + 1)),(by first | rfl | (simp;done) | (simp [*];done)),H',⟨by have:=HK1.out;have:=HJ6.out;have:=HK3.out;omega⟩,⟨by (with_reducible repeat (first | refine blk_drewN ?_ _ | refine blk_drew ?_ | refine blk_alloc ?_ _));exact BK125.out⟩,⟨by repeat (first | (with_reducible first | exact HB.out | apply below_alloc | apply pw_below_drewN | apply below_drew1 | refine below_set ?_ GE125.out) | exact HB.out)⟩⟩
               ·rw [if_neg c22] at H
                exact absurd H (by simp)
              ·rw [if_neg c21] at H
               exact absurd H (by simp)
             ·rw [if_neg c20] at H
              have c20b0 : (((rd_T67 l0 x3_1).f0) == 0) = false:=beq_eq_false_iff_ne.mpr c20
              have c20b1 : (((rd_T67 l0 x3_1).f0) != 0) = true:=bne_iff_ne.mpr c20
              have H':=Aside0.mk H
              clear H
              have hcz30_0 : wr.cell? ⟨gb125,0,none⟩ = some (.int .i64 ((rd_T67 l0 x3_1).f0)):=(blk_cell BK125.out 0).trans rfl
              have hcz30_1 : wr.cell? ⟨gb125,1,none⟩ = some (.string ((rd_T67 l0 x3_1).f1)):=(blk_cell BK125.out 1).trans rfl
              have hcz30_2 : wr.cell? ⟨gb125,2,none⟩ = some (.string ((rd_T67 l0 x3_1).f2)):=(blk_cell BK125.out 2).trans rfl
              have hcz30_3 : wr.cell? ⟨gb125,3,none⟩ = some (.string ((rd_T67 l0 x3_1).f3)):=(blk_cell BK125.out 3).trans rfl
              have hfz30_0:=blk_frozen BK125.out 0
              have hfz30_1:=blk_frozen BK125.out 1
              have hfz30_2:=blk_frozen BK125.out 2
              have hfz30_3:=blk_frozen BK125.out 3
              go_wp2
              repeat (go_quiet (fail);try go_wp2)
              go_roundg k3
              case measure => have:=HK1.out;have:=HJ6.out;have:=HK3.out;omega
              case rel => exact ⟨(wrap64 (x6_3 + 1)),(by first | rfl | (simp;done) | (simp [*];done)),H',⟨by have:=HK1.out;have:=HJ6.out;have:=HK3.out;omega⟩,⟨by (with_reducible repeat (first | refine blk_drewN ?_ _ | refine blk_drew ?_ | refine blk_alloc ?_ _));exact BK125.out⟩,⟨by repeat (first | (with_reducible first | exact HB.out | apply below_alloc | apply pw_below_drewN | apply below_drew1 | refine below_set ?_ GE125.out) | exact HB.out)⟩⟩
            ·rw [if_neg c19] at H
             have c19b0 : decide (x6_3 < x3_1) = false:=decide_eq_false c19
             clear c19
             have HC31:=Aside0.mk H
             clear H
             go_upto_region 17 with (fail)
             repeat (go_quiet (fail);go_upto_region 17 with (fail))
             go_cut [83] (fun v83 wc => ∃ (kq : Nat) (x83_30 : Bool),v83 = .bool x83_30 ∧ Aside0 (metrolabref53_Check.j3 kq l0 x3_1 x83_30 ((rd_T67 l0 x3_1).f0) ((rd_T67 l0 x3_1).f1) ((rd_T67 l0 x3_1).f2) ((rd_T67 l0 x3_1).f3) = some r) ∧ Aside0 (kq ≤ k3) ∧ Aside0 (wc.heap[gb125]? = some (.cells #[.int .i64 ((rd_T67 l0 x3_1).f0),.string ((rd_T67 l0 x3_1).f1),.string ((rd_T67 l0 x3_1).f2),.string ((rd_T67 l0 x3_1).f3)] 67 (0,0))) ∧ Aside0 (Below w.heap.size w wc))
             case first =>
              have H:=HC31.out
              clear HC31
              by_cases c32 : ((rd_T67 l0 x3_1).f0) = 3
              ·rw [if_pos c32] at H
               have c32b0 : (((rd_T67 l0 x3_1).f0) == 3) = true:=beq_iff_eq.mpr c32
               have c32b1 : (((rd_T67 l0 x3_1).f0) != 3) = false:=bne_eq_false_iff_eq.mpr c32
               clear c32
               (first | rw [c32b0] | (simp only [i64_w,i32_w];rw [c32b0]) | skip)
               by_cases c33 : 0 ≤ x3_1
               ·rw [if_pos c33] at H
                have c33b0:=eq_true c33
                have c33b1 : decide (0 ≤ x3_1) = true:=decide_eq_true c33
                clear c33
                by_cases c34 : x3_1 ≤ (l0.length : Int)
                ·rw [if_pos c34] at H
                 have c34b0:=eq_true c34
                 have c34b1 : decide (x3_1 ≤ (l0.length : Int)) = true:=decide_eq_true c34
                 clear c34
                 obtain ⟨y135,hy135⟩ : ∃ y_ : List (S67),y_ = (l0.take (x3_1 : Int).toNat):=⟨_,rfl⟩
                 replace H : ((metrolabref53_Measured.f k3 y135 ((rd_T67 l0 x3_1).f2)).bind fun t139 => (metrolabref53_Check.j3 k3 l0 x3_1 (!t139) ((rd_T67 l0 x3_1).f0) ((rd_T67 l0 x3_1).f1) ((rd_T67 l0 x3_1).f2) ((rd_T67 l0 x3_1).f3))) = some r:=by first | (rw [hy135];with_reducible exact H) | (have H2_:=(Option.bind_some _ _).symm.trans H;rw [hy135];with_reducible exact H2_) | (have H2_:=(Option.bind_some _ _).symm.trans H;with_reducible exact H2_) | with_reducible exact H | (rw [hy135];exact H) | exact H
                 have Ny135:=Aside0.mk hy135
                 clear hy135
                 replace H:=Option.bind_eq_some_iff.mp H
                 obtain ⟨t139,A350,H⟩:=H
                 replace H : (metrolabref53_Check.j3 k3 l0 x3_1 (!t139) ((rd_T67 l0 x3_1).f0) ((rd_T67 l0 x3_1).f1) ((rd_T67 l0 x3_1).f2) ((rd_T67 l0 x3_1).f3)) = some r:=H
                 have A35:=Aside0.mk A350
                 clear A350
                 have H':=Aside0.mk H
                 clear H
                 have hcz36_0 : wr.cell? ⟨gb125,0,none⟩ = some (.int .i64 ((rd_T67 l0 x3_1).f0)):=(blk_cell BK125.out 0).trans rfl
                 have hcz36_1 : wr.cell? ⟨gb125,1,none⟩ = some (.string ((rd_T67 l0 x3_1).f1)):=(blk_cell BK125.out 1).trans rfl
                 have hcz36_2 : wr.cell? ⟨gb125,2,none⟩ = some (.string ((rd_T67 l0 x3_1).f2)):=(blk_cell BK125.out 2).trans rfl
                 have hcz36_3 : wr.cell? ⟨gb125,3,none⟩ = some (.string ((rd_T67 l0 x3_1).f3)):=(blk_cell BK125.out 3).trans rfl
                 have hfz36_0:=blk_frozen BK125.out 0
                 have hfz36_1:=blk_frozen BK125.out 1
                 have hfz36_2:=blk_frozen BK125.out 2
                 have hfz36_3:=blk_frozen BK125.out 3
                 have q37 : (x3_1 : Int) ≤ ((l0.length : Int) : Int):=of_decide_eq_true (by first | (with_reducible assumption) | assumption)
                 obtain ⟨i037,hi037,_,hsz37,_⟩:=info_parts info67
                 have hroom37 : l0.length ≤ c0:=HC0.out
                 have hC37 : Kd.C k67 _ (some ad124) l0.length l0:=HR0.out
                 have hcut37:=cut_to (P:=Try.prog) 31 67 .i64 Try.underlying31 hi037 (some ad124) l0.length c0 x3_1 (of_decide_eq_true (by first | (with_reducible assumption) | assumption)) q37 hroom37
                 have hr37:=Kd.C_take (m:=(x3_1 : Int).toNat) hC37 (by omega)
                 have hy37 : y135.length = (x3_1 : Int).toNat:=(by rw [Ny135.out,List.length_take];omega)
                 rw [← Ny135.out] at hr37
                 rw [← hy37] at hcut37
                 have HR138:=Aside0.mk hr37
                 have HC138:=Aside0.mk (show y135.length ≤ c0 from by omega)
                 clear hr37 hC37 hroom37 hi037 hsz37
                 have KY37:=Aside0.mk hy37
                 clear hy37
                 replace q37:=eq_true q37
                 go_wp2_with (first | (go_at_call 46;(with_reducible refine (metrolabref53_Measured.calls k3 _ _ y135 ((rd_T67 l0 x3_1).f2) t139 _ ?side1 ?side2 A35.out).mono ?_);(case side1 => repeat (first | exact (Kd.C_below HR138.out HB.out) | (with_reducible refine Kd.C_alloc ?_ _) | (with_reducible refine Kd.C_drewN ?_ _) | (with_reducible refine Kd.C_drew ?_)));(case side2 => exact HC138.out);rintro e w' ⟨rfl,⟨nd,rfl⟩⟩;(try first | exact ⟨rfl,_,World.drewN_drewN _ _ _⟩ | exact ⟨rfl,_,Eq.trans (World.drewN_drewN _ _ _) (congrArg (World.drewN _) (Nat.add_assoc _ _ _))⟩)))
                 repeat (go_quiet (first | (go_at_call 46;(with_reducible refine (metrolabref53_Measured.calls k3 _ _ y135 ((rd_T67 l0 x3_1).f2) t139 _ ?side1 ?side2 A35.out).mono ?_);(case side1 => repeat (first | exact (Kd.C_below HR138.out HB.out) | (with_reducible refine Kd.C_alloc ?_ _) | (with_reducible refine Kd.C_drewN ?_ _) | (with_reducible refine Kd.C_drew ?_)));(case side2 => exact HC138.out);rintro e w' ⟨rfl,⟨nd,rfl⟩⟩;(try first | exact ⟨rfl,_,World.drewN_drewN _ _ _⟩ | exact ⟨rfl,_,Eq.trans (World.drewN_drewN _ _ _) (congrArg (World.drewN _) (Nat.add_assoc _ _ _))⟩)));try go_wp2_with (first | (go_at_call 46;(with_reducible refine (metrolabref53_Measured.calls k3 _ _ y135 ((rd_T67 l0 x3_1).f2) t139 _ ?side1 ?side2 A35.out).mono ?_);(case side1 => repeat (first | exact (Kd.C_below HR138.out HB.out) | (with_reducible refine Kd.C_alloc ?_ _) | (with_reducible refine Kd.C_drewN ?_ _) | (with_reducible refine Kd.C_drew ?_)));(case side2 => exact HC138.out);rintro e w' ⟨rfl,⟨nd,rfl⟩⟩;(try first | exact ⟨rfl,_,World.drewN_drewN _ _ _⟩ | exact ⟨rfl,_,Eq.trans (World.drewN_drewN _ _ _) (congrArg (World.drewN _) (Nat.add_assoc _ _ _))⟩))))
                 go_meet
                 case rel => exact ⟨_,(!t139),(by first | rfl | (simp;done) | (simp [*];done)),H',⟨by have:=HK1.out;have:=HJ6.out;have:=HK3.out;first | omega | exact Nat.le_refl _⟩,⟨by (with_reducible repeat (first | refine blk_drewN ?_ _ | refine blk_drew ?_ | refine blk_alloc ?_ _));exact BK125.out⟩,⟨by repeat (first | (with_reducible first | exact HB.out | apply below_alloc | apply pw_below_drewN | apply below_drew1 | refine below_set ?_ GE125.out) | exact HB.out)⟩⟩
                ·rw [if_neg c34] at H
                 exact absurd H (by simp)
               ·rw [if_neg c33] at H
                exact absurd H (by simp)
              ·rw [if_neg c32] at H
               have c32b0 : (((rd_T67 l0 x3_1).f0) == 3) = false:=beq_eq_false_iff_ne.mpr c32
               have c32b1 : (((rd_T67 l0 x3_1).f0) != 3) = true:=bne_iff_ne.mpr c32
               (first | rw [c32b0] | (simp only [i64_w,i32_w];rw [c32b0]) | skip)
               have H':=Aside0.mk H
               clear H
               have hcz38_0 : wr.cell? ⟨gb125,0,none⟩ = some (.int .i64 ((rd_T67 l0 x3_1).f0)):=(blk_cell BK125.out 0).trans rfl
               have hcz38_1 : wr.cell? ⟨gb125,1,none⟩ = some (.string ((rd_T67 l0 x3_1).f1)):=(blk_cell BK125.out 1).trans rfl
               have hcz38_2 : wr.cell? ⟨gb125,2,none⟩ = some (.string ((rd_T67 l0 x3_1).f2)):=(blk_cell BK125.out 2).trans rfl
               have hcz38_3 : wr.cell? ⟨gb125,3,none⟩ = some (.string ((rd_T67 l0 x3_1).f3)):=(blk_cell BK125.out 3).trans rfl
               have hfz38_0:=blk_frozen BK125.out 0
               have hfz38_1:=blk_frozen BK125.out 1
               have hfz38_2:=blk_frozen BK125.out 2
               have hfz38_3:=blk_frozen BK125.out 3
               go_wp2
               repeat (go_quiet (fail);try go_wp2)
               go_meet
               case rel => exact ⟨_,(false),(by first | rfl | (simp;done) | (simp [*];done)),H',⟨by have:=HK1.out;have:=HJ6.out;have:=HK3.out;first | omega | exact Nat.le_refl _⟩,⟨by (with_reducible repeat (first | refine blk_drewN ?_ _ | refine blk_drew ?_ | refine blk_alloc ?_ _));exact BK125.out⟩,⟨by repeat (first | (with_reducible first | exact HB.out | apply below_alloc | apply pw_below_drewN | apply below_drew1 | refine below_set ?_ GE125.out) | exact HB.out)⟩⟩
             case rest =>
              clear HC31
              try clear c1
              try clear p1
              try clear q1
              try clear hx1
              try clear c2
              try clear c2b0
              try clear c2b1
              try clear p2
              try clear c3
              try clear c3b0
              try clear q3
              try clear c4
              try clear c4b0
              try clear c6
              try clear c6b0
              try clear c6b1
              try clear p6
              try clear c11
              try clear c11b0
              try clear c11b1
              try clear c12
              try clear c12b0
              try clear p12
              try clear q12
              try clear hx12
              try clear c13
              try clear c13b0
              try clear c13b1
              try clear p13
              try clear q13
              try clear hx13
              try clear q16
              try clear c17
              try clear c18
              try clear c19
              try clear c19b0
              try clear c20
              try clear c20b0
              try clear c20b1
              try clear c21
              try clear c21b0
              try clear c22
              try clear c22b0
              try clear c23
              try clear c23b0
              try clear c23b1
              try clear c24
              try clear c24b0
              try clear c24b1
              try clear c25
              try clear c25b0
              try clear c25b1
              try clear c32
              try clear c32b0
              try clear c32b1
              try clear c33
              try clear c33b0
              try clear c33b1
              try clear c34
              try clear c34b0
              try clear c34b1
              try clear q37
              try clear hcz15_0
              try clear hcz15_1
              try clear hcz15_2
              try clear hcz15_3
              try clear hcz17_0
              try clear hcz17_1
              try clear hcz17_2
              try clear hcz17_3
              try clear hcz26_0
              try clear hcz26_1
              try clear hcz26_2
              try clear hcz26_3
              try clear hcz27_0
              try clear hcz27_1
              try clear hcz27_2
              try clear hcz27_3
              try clear hcz28_0
              try clear hcz28_1
              try clear hcz28_2
              try clear hcz28_3
              try clear hcz29_0
              try clear hcz29_1
              try clear hcz29_2
              try clear hcz29_3
              try clear hcz30_0
              try clear hcz30_1
              try clear hcz30_2
              try clear hcz30_3
              try clear hcz36_0
              try clear hcz36_1
              try clear hcz36_2
              try clear hcz36_3
              try clear hcz38_0
              try clear hcz38_1
              try clear hcz38_2
              try clear hcz38_3
              try clear hcz9_0
              try clear hcz9_1
              try clear hcz9_2
              try clear hcz9_3
              try clear hfz15_0
              try clear hfz15_1
              try clear hfz15_2
              try clear hfz15_3
              try clear hfz17_0
              try clear hfz17_1
              try clear hfz17_2
              try clear hfz17_3
              try clear hfz26_0
              try clear hfz26_1
              try clear hfz26_2
              try clear hfz26_3
              try clear hfz27_0
              try clear hfz27_1
              try clear hfz27_2
              try clear hfz27_3
              try clear hfz28_0
              try clear hfz28_1
              try clear hfz28_2
              try clear hfz28_3
              try clear hfz29_0
              try clear hfz29_1
              try clear hfz29_2
              try clear hfz29_3
              try clear hfz30_0
              try clear hfz30_1
              try clear hfz30_2
              try clear hfz30_3
              try clear hfz36_0
              try clear hfz36_1
              try clear hfz36_2
              try clear hfz36_3
              try clear hfz38_0
              try clear hfz38_1
              try clear hfz38_2
              try clear hfz38_3
              try clear hfz9_0
              try clear hfz9_1
              try clear hfz9_2
              try clear hfz9_3
              try clear hx124_0
              try clear hx124_1
              try clear hx124_2
              try clear hx124_3
              try clear hx132_0
              try clear hx132_1
              try clear hx132_2
              try clear hx132_3
              try clear hx133_0
              try clear hx133_1
              try clear hx133_2
              try clear hx133_3
              try clear hx134_0
              try clear hx134_1
              try clear hx134_2
              try clear hx134_3
              try clear p1
              try clear p12
              try clear p124
              try clear p132
              try clear p133
              try clear p134
              try clear p2
              try clear q1
              try clear q12
              try clear q124
              try clear q132
              try clear q133
              try clear q134
              try clear q16
              try clear q37
              obtain ⟨kq,x83_30,rfl,HA,HJ30,BK125,HB⟩:=hcut
              cases kq with
              | zero => exact absurd HA.out (by simp [metrolabref53_Check.j3])
              | succ kj30 =>
               have H:=HA.out
               clear HA
               simp only [metrolabref53_Check.j3] at H
               by_cases c39 : x83_30 = true
               ·subst c39
                have H1 : (some 6) = some r:=by rw [if_pos rfl] at H;exact H
                clear H
                have H:=H1
                clear H1
                obtain rfl:=Option.some.inj H
                go_wp2
                repeat (go_quiet (fail);try go_wp2)
                go_ret
                exact ⟨by first | rfl | (simp [errW_none,errW_some] <;> rfl) | (simp [*,errW_none,errW_some] <;> rfl),by repeat (first | (with_reducible first | exact HB.out | apply below_alloc | apply pw_below_drewN | apply below_drew1 | refine below_set ?_ GE125.out) | exact HB.out)⟩
               ·replace c39:=Bool.eq_false_iff.mpr c39
                subst c39
                have H1 : (if ((rd_T67 l0 x3_1).f0) = 3 then (if 0 ≤ x3_1 then (if x3_1 ≤ (l0.length : Int) then ((metrolabref53_Withdrawn.f kj30 (l0.take (x3_1 : Int).toNat) ((rd_T67 l0 x3_1).f2)).bind fun t144 => (if t144 = true then (some 14) else (metrolabref53_Check.l0 kj30 l0 (wrap64 (x3_1 + 1))))) else (none)) else (none)) else (metrolabref53_Check.l0 kj30 l0 (wrap64 (x3_1 + 1)))) = some r:=by rw [if_neg (show ¬ (false = true) by decide)] at H;exact H
                clear H
                have H:=H1
                clear H1
                by_cases c40 : ((rd_T67 l0 x3_1).f0) = 3
                ·rw [if_pos c40] at H
                 have c40b0 : (((rd_T67 l0 x3_1).f0) == 3) = true:=beq_iff_eq.mpr c40
                 have c40b1 : (((rd_T67 l0 x3_1).f0) != 3) = false:=bne_eq_false_iff_eq.mpr c40
                 clear c40
                 by_cases c41 : 0 ≤ x3_1
                 ·rw [if_pos c41] at H
                  have c41b0:=eq_true c41
                  have c41b1 : decide (0 ≤ x3_1) = true:=decide_eq_true c41
                  clear c41
                  by_cases c42 : x3_1 ≤ (l0.length : Int)
                  ·rw [if_pos c42] at H
                   have c42b0:=eq_true c42
                   have c42b1 : decide (x3_1 ≤ (l0.length : Int)) = true:=decide_eq_true c42
                   clear c42
                   obtain ⟨y140,hy140⟩ : ∃ y_ : List (S67),y_ = (l0.take (x3_1 : Int).toNat):=⟨_,rfl⟩
                   replace H : ((metrolabref53_Withdrawn.f kj30 y140 ((rd_T67 l0 x3_1).f2)).bind fun t144 => (if t144 = true then (some 14) else (metrolabref53_Check.l0 kj30 l0 (wrap64 (x3_1 + 1))))) = some r:=by first | (rw [hy140];with_reducible exact H) | (have H2_:=(Option.bind_some _ _).symm.trans H;rw [hy140];with_reducible exact H2_) | (have H2_:=(Option.bind_some _ _).symm.trans H;with_reducible exact H2_) | with_reducible exact H | (rw [hy140];exact H) | exact H
                   have Ny140:=Aside0.mk hy140
                   clear hy140
                   replace H:=Option.bind_eq_some_iff.mp H
                   obtain ⟨t144,A430,H⟩:=H
                   replace H : (if t144 = true then (some 14) else (metrolabref53_Check.l0 kj30 l0 (wrap64 (x3_1 + 1)))) = some r:=H
                   have A43:=Aside0.mk A430
                   clear A430
                   by_cases c44 : t144 = true
                   ·subst c44
                    have H1 : (some 14) = some r:=by rw [if_pos rfl] at H;exact H
                    clear H
                    have H:=H1
                    clear H1
                    obtain rfl:=Option.some.inj H
                    have hcz45_0 : wc.cell? ⟨gb125,0,none⟩ = some (.int .i64 ((rd_T67 l0 x3_1).f0)):=(blk_cell BK125.out 0).trans rfl
                    have hcz45_1 : wc.cell? ⟨gb125,1,none⟩ = some (.string ((rd_T67 l0 x3_1).f1)):=(blk_cell BK125.out 1).trans rfl
                    have hcz45_2 : wc.cell? ⟨gb125,2,none⟩ = some (.string ((rd_T67 l0 x3_1).f2)):=(blk_cell BK125.out 2).trans rfl
                    have hcz45_3 : wc.cell? ⟨gb125,3,none⟩ = some (.string ((rd_T67 l0 x3_1).f3)):=(blk_cell BK125.out 3).trans rfl
                    have hfz45_0:=blk_frozen BK125.out 0
                    have hfz45_1:=blk_frozen BK125.out 1
                    have hfz45_2:=blk_frozen BK125.out 2
                    have hfz45_3:=blk_frozen BK125.out 3
                    have q46 : (x3_1 : Int) ≤ ((l0.length : Int) : Int):=of_decide_eq_true (by first | (with_reducible assumption) | assumption)
                    obtain ⟨i046,hi046,_,hsz46,_⟩:=info_parts info67
                    have hroom46 : l0.length ≤ c0:=HC0.out
                    have hC46 : Kd.C k67 _ (some ad124) l0.length l0:=HR0.out
                    have hcut46:=cut_to (P:=Try.prog) 31 67 .i64 Try.underlying31 hi046 (some ad124) l0.length c0 x3_1 (of_decide_eq_true (by first | (with_reducible assumption) | assumption)) q46 hroom46
                    have hr46:=Kd.C_take (m:=(x3_1 : Int).toNat) hC46 (by omega)
                    have hy46 : y140.length = (x3_1 : Int).toNat:=(by rw [Ny140.out,List.length_take];omega)
                    rw [← Ny140.out] at hr46
                    rw [← hy46] at hcut46
                    have HR143:=Aside0.mk hr46
                    have HC143:=Aside0.mk (show y140.length ≤ c0 from by omega)
                    clear hr46 hC46 hroom46 hi046 hsz46
                    have KY46:=Aside0.mk hy46
                    clear hy46
                    replace q46:=eq_true q46
                    go_wp2_with (first | (go_at_call 45;(with_reducible refine (metrolabref53_Withdrawn.calls kj30 _ _ y140 ((rd_T67 l0 x3_1).f2) true _ ?side1 ?side2 A43.out).mono ?_);(case side1 => repeat (first | exact (Kd.C_below HR143.out HB.out) | (with_reducible refine Kd.C_alloc ?_ _) | (with_reducible refine Kd.C_drewN ?_ _) | (with_reducible refine Kd.C_drew ?_)));(case side2 => exact HC143.out);rintro e w' ⟨rfl,⟨nd,rfl⟩⟩;(try first | exact ⟨rfl,_,World.drewN_drewN _ _ _⟩ | exact ⟨rfl,_,Eq.trans (World.drewN_drewN _ _ _) (congrArg (World.drewN _) (Nat.add_assoc _ _ _))⟩)))
                    repeat (go_quiet (first | (go_at_call 45;(with_reducible refine (metrolabref53_Withdrawn.calls kj30 _ _ y140 ((rd_T67 l0 x3_1).f2) true _ ?side1 ?side2 A43.out).mono ?_);(case side1 => repeat (first | exact (Kd.C_below HR143.out HB.out) | (with_reducible refine Kd.C_alloc ?_ _) | (with_reducible refine Kd.C_drewN ?_ _) | (with_reducible refine Kd.C_drew ?_)));(case side2 => exact HC143.out);rintro e w' ⟨rfl,⟨nd,rfl⟩⟩;(try first | exact ⟨rfl,_,World.drewN_drewN _ _ _⟩ | exact ⟨rfl,_,Eq.trans (World.drewN_drewN _ _ _) (congrArg (World.drewN _) (Nat.add_assoc _ _ _))⟩)));try go_wp2_with (first | (go_at_call 45;(with_reducible refine (metrolabref53_Withdrawn.calls kj30 _ _ y140 ((rd_T67 l0 x3_1).f2) true _ ?side1 ?side2 A43.out).mono ?_);(case side1 => repeat (first | exact (Kd.C_below HR143.out HB.out) | (with_reducible refine Kd.C_alloc ?_ _) | (with_reducible refine Kd.C_drewN ?_ _) | (with_reducible refine Kd.C_drew ?_)));(case side2 => exact HC143.out);rintro e w' ⟨rfl,⟨nd,rfl⟩⟩;(try first | exact ⟨rfl,_,World.drewN_drewN _ _ _⟩ | exact ⟨rfl,_,Eq.trans (World.drewN_drewN _ _ _) (congrArg (World.drewN _) (Nat.add_assoc _ _ _))⟩))))
                    go_ret
                    exact ⟨by first | rfl | (simp [errW_none,errW_some] <;> rfl) | (simp [*,errW_none,errW_some] <;> rfl),by repeat (first | (with_reducible first | exact HB.out | apply below_alloc | apply pw_below_drewN | apply below_drew1 | refine below_set ?_ GE125.out) | exact HB.out)⟩
                   ·replace c44:=Bool.eq_false_iff.mpr c44
                    subst c44
                    have H1 : (metrolabref53_Check.l0 kj30 l0 (wrap64 (x3_1 + 1))) = some r:=by rw [if_neg (show ¬ (false = true) by decide)] at H;exact H
                    clear H
                    have H:=H1
                    clear H1
                    have H':=Aside0.mk H
                    clear H
                    have hcz47_0 : wc.cell? ⟨gb125,0,none⟩ = some (.int .i64 ((rd_T67 l0 x3_1).f0)):=(blk_cell BK125.out 0).trans rfl
                    have hcz47_1 : wc.cell? ⟨gb125,1,none⟩ = some (.string ((rd_T67 l0 x3_1).f1)):=(blk_cell BK125.out 1).trans rfl
                    have hcz47_2 : wc.cell? ⟨gb125,2,none⟩ = some (.string ((rd_T67 l0 x3_1).f2)):=(blk_cell BK125.out 2).trans rfl
                    have hcz47_3 : wc.cell? ⟨gb125,3,none⟩ = some (.string ((rd_T67 l0 x3_1).f3)):=(blk_cell BK125.out 3).trans rfl
                    have hfz47_0:=blk_frozen BK125.out 0
                    have hfz47_1:=blk_frozen BK125.out 1
                    have hfz47_2:=blk_frozen BK125.out 2
                    have hfz47_3:=blk_frozen BK125.out 3
                    have q48 : (x3_1 : Int) ≤ ((l0.length : Int) : Int):=of_decide_eq_true (by first | (with_reducible assumption) | assumption)
                    obtain ⟨i048,hi048,_,hsz48,_⟩:=info_parts info67
                    have hroom48 : l0.length ≤ c0:=HC0.out
                    have hC48 : Kd.C k67 _ (some ad124) l0.length l0:=HR0.out
                    have hcut48:=cut_to (P:=Try.prog) 31 67 .i64 Try.underlying31 hi048 (some ad124) l0.length c0 x3_1 (of_decide_eq_true (by first | (with_reducible assumption) | assumption)) q48 hroom48
                    have hr48:=Kd.C_take (m:=(x3_1 : Int).toNat) hC48 (by omega)
                    have hy48 : y140.length = (x3_1 : Int).toNat:=(by rw [Ny140.out,List.length_take];omega)
                    rw [← Ny140.out] at hr48
                    rw [← hy48] at hcut48
                    have HR143:=Aside0.mk hr48
                    have HC143:=Aside0.mk (show y140.length ≤ c0 from by omega)
                    clear hr48 hC48 hroom48 hi048 hsz48
                    have KY48:=Aside0.mk hy48
                    clear hy48
                    replace q48:=eq_true q48
                    go_wp2_with (first | (go_at_call 45;(with_reducible refine (metrolabref53_Withdrawn.calls kj30 _ _ y140 ((rd_T67 l0 x3_1).f2) false _ ?side1 ?side2 A43.out).mono ?_);(case side1 => repeat (first | exact (Kd.C_below HR143.out HB.out) | (with_reducible refine Kd.C_alloc ?_ _) | (with_reducible refine Kd.C_drewN ?_ _) | (with_reducible refine Kd.C_drew ?_)));(case side2 => exact HC143.out);rintro e w' ⟨rfl,⟨nd,rfl⟩⟩;(try first | exact ⟨rfl,_,World.drewN_drewN _ _ _⟩ | exact ⟨rfl,_,Eq.trans (World.drewN_drewN _ _ _) (congrArg (World.drewN _) (Nat.add_assoc _ _ _))⟩)))
                    repeat (go_quiet (first | (go_at_call 45;(with_reducible refine (metrolabref53_Withdrawn.calls kj30 _ _ y140 ((rd_T67 l0 x3_1).f2) false _ ?side1 ?side2 A43.out).mono ?_);(case side1 => repeat (first | exact (Kd.C_below HR143.out HB.out) | (with_reducible refine Kd.C_alloc ?_ _) | (with_reducible refine Kd.C_drewN ?_ _) | (with_reducible refine Kd.C_drew ?_)));(case side2 => exact HC143.out);rintro e w' ⟨rfl,⟨nd,rfl⟩⟩;(try first | exact ⟨rfl,_,World.drewN_drewN _ _ _⟩ | exact ⟨rfl,_,Eq.trans (World.drewN_drewN _ _ _) (congrArg (World.drewN _) (Nat.add_assoc _ _ _))⟩)));try go_wp2_with (first | (go_at_call 45;(with_reducible refine (metrolabref53_Withdrawn.calls kj30 _ _ y140 ((rd_T67 l0 x3_1).f2) false _ ?side1 ?side2 A43.out).mono ?_);(case side1 => repeat (first | exact (Kd.C_below HR143.out HB.out) | (with_reducible refine Kd.C_alloc ?_ _) | (with_reducible refine Kd.C_drewN ?_ _) | (with_reducible refine Kd.C_drew ?_)));(case side2 => exact HC143.out);rintro e w' ⟨rfl,⟨nd,rfl⟩⟩;(try first | exact ⟨rfl,_,World.drewN_drewN _ _ _⟩ | exact ⟨rfl,_,Eq.trans (World.drewN_drewN _ _ _) (congrArg (World.drewN _) (Nat.add_assoc _ _ _))⟩))))
                    go_roundg kj30
                    case measure => have:=HK1.out;have:=HJ6.out;have:=HK3.out;have:=HJ30.out;omega
                    case rel => exact ⟨(wrap64 (x3_1 + 1)),(by first | rfl | (simp;done) | (simp [*];done)),H',⟨by have:=HK1.out;have:=HJ6.out;have:=HK3.out;have:=HJ30.out;omega⟩,⟨by repeat (first | (with_reducible first | exact HB.out | apply below_alloc | apply pw_below_drewN | apply below_drew1 | refine below_set ?_ GE125.out) | exact HB.out)⟩⟩
                  ·rw [if_neg c42] at H
                   exact absurd H (by simp)
                 ·rw [if_neg c41] at H
                  exact absurd H (by simp)
                ·rw [if_neg c40] at H
                 have c40b0 : (((rd_T67 l0 x3_1).f0) == 3) = false:=beq_eq_false_iff_ne.mpr c40
                 have c40b1 : (((rd_T67 l0 x3_1).f0) != 3) = true:=bne_iff_ne.mpr c40
                 have H':=Aside0.mk H
                 clear H
                 have hcz49_0 : wc.cell? ⟨gb125,0,none⟩ = some (.int .i64 ((rd_T67 l0 x3_1).f0)):=(blk_cell BK125.out 0).trans rfl
                 have hcz49_1 : wc.cell? ⟨gb125,1,none⟩ = some (.string ((rd_T67 l0 x3_1).f1)):=(blk_cell BK125.out 1).trans rfl
                 have hcz49_2 : wc.cell? ⟨gb125,2,none⟩ = some (.string ((rd_T67 l0 x3_1).f2)):=(blk_cell BK125.out 2).trans rfl
                 have hcz49_3 : wc.cell? ⟨gb125,3,none⟩ = some (.string ((rd_T67 l0 x3_1).f3)):=(blk_cell BK125.out 3).trans rfl
                 have hfz49_0:=blk_frozen BK125.out 0
                 have hfz49_1:=blk_frozen BK125.out 1
                 have hfz49_2:=blk_frozen BK125.out 2
                 have hfz49_3:=blk_frozen BK125.out 3
                 go_wp2
                 repeat (go_quiet (fail);try go_wp2)
                 go_roundg kj30
                 case measure => have:=HK1.out;have:=HJ6.out;have:=HK3.out;have:=HJ30.out;omega
                 case rel => exact ⟨(wrap64 (x3_1 + 1)),(by first | rfl | (simp;done) | (simp [*];done)),H',⟨by have:=HK1.out;have:=HJ6.out;have:=HK3.out;have:=HJ30.out;omega⟩,⟨by repeat (first | (with_reducible first | exact HB.out | apply below_alloc | apply pw_below_drewN | apply below_drew1 | refine below_set ?_ GE125.out) | exact HB.out)⟩⟩
      ·rw [if_neg c6] at H
       have c6b0 : (t126 == 0) = false:=beq_eq_false_iff_ne.mpr c6
       have c6b1 : (t126 != 0) = true:=bne_iff_ne.mpr c6
       obtain rfl:=Option.some.inj H
       have p124 : 0 ≤ (x3_1 : Int):=of_decide_eq_true (by first | (with_reducible assumption) | assumption)
       have q124 : x3_1 < (l0.length : Int):=of_decide_eq_true (by first | (with_reducible assumption) | assumption)
       obtain ⟨ad124,e124,hx124_0,hx124_1,hx124_2,hx124_3⟩:=at_T67 HR0.out x3_1 p124 q124
       cases e124
       replace hx124_0:=(HB.out.cell (World.block_lt_of_cell? w _ hx124_0)).trans hx124_0
       replace hx124_1:=(HB.out.cell (World.block_lt_of_cell? w _ hx124_1)).trans hx124_1
       replace hx124_2:=(HB.out.cell (World.block_lt_of_cell? w _ hx124_2)).trans hx124_2
       replace hx124_3:=(HB.out.cell (World.block_lt_of_cell? w _ hx124_3)).trans hx124_3
       replace p124:=eq_true p124
       replace q124:=eq_true q124
       go_wp2_with (first | ((with_reducible refine gate_dst (N:=4) rfl ?_);refine box_event ?hg (N:=4) ?hd (cs:=#[.int .i64 0,.string (⟨#[]⟩ : ByteArray),.string (⟨#[]⟩ : ByteArray),.string (⟨#[]⟩ : ByteArray)]) (t:=67) ?hr ?_;(case hd => rfl);(case hg => rfl);(case hr => first | (go_simp;done) | (go_simp;rfl));intro gb125 hg w50 hbox hb;have n0_:=Aside0.mk (below_step (by repeat (first | (with_reducible first | exact HB.out | apply below_alloc | apply pw_below_drewN | apply below_drew1) | exact HB.out)) hb);have n1_:=Aside0.mk (hbox);have n2_:=Aside0.mk ((by rw [hg];exact (below_size (by repeat (first | (with_reducible first | exact HB.out | apply below_alloc | apply pw_below_drewN | apply below_drew1) | exact HB.out))) : w.heap.size ≤ gb125));have n3_:=Aside0.mk ((by rw [hg];exact (below_size (by repeat (first | (with_reducible first | exact HB.out | apply below_alloc | apply pw_below_drewN | apply below_drew1) | exact HB.out))) : w.heap.size ≤ gb125));clear HB;have HB:=n0_;have BK125:=n1_;have GW125:=n2_;have GE125:=n3_;clear n0_ n1_ n2_ n3_;clear hb hbox hg;have hcz51_0 : w50.cell? ⟨gb125,0,none⟩ = some (.int .i64 0):=(blk_cell BK125.out 0).trans rfl;have hcz51_1 : w50.cell? ⟨gb125,1,none⟩ = some (.string (⟨#[]⟩ : ByteArray)):=(blk_cell BK125.out 1).trans rfl;have hcz51_2 : w50.cell? ⟨gb125,2,none⟩ = some (.string (⟨#[]⟩ : ByteArray)):=(blk_cell BK125.out 2).trans rfl;have hcz51_3 : w50.cell? ⟨gb125,3,none⟩ = some (.string (⟨#[]⟩ : ByteArray)):=(blk_cell BK125.out 3).trans rfl;have hfz51_0:=blk_frozen BK125.out 0;have hfz51_1:=blk_frozen BK125.out 1;have hfz51_2:=blk_frozen BK125.out 2;have hfz51_3:=blk_frozen BK125.out 3) | (go_at_call 44;(with_reducible refine (metrolabref53_form.calls k1 ((rd_T67 l0 x3_1).f0) ((rd_T67 l0 x3_1).f1) ((rd_T67 l0 x3_1).f2) ((rd_T67 l0 x3_1).f3) t126 _ A5.out).mono ?_);rintro e w52 ⟨rfl,hb⟩;have n0_:=Aside0.mk (blk_below (g:=gb125) (o:=.cells #[.int .i64 ((rd_T67 l0 x3_1).f0),.string ((rd_T67 l0 x3_1).f1),.string ((rd_T67 l0 x3_1).f2),.string ((rd_T67 l0 x3_1).f3)] 67 (0,0)) (by (with_reducible repeat (first | refine blk_drewN ?_ _ | refine blk_drew ?_ | refine blk_alloc ?_ _));refine blk_put (cs:=#[.int .i64 ((rd_T67 l0 x3_1).f0),.string ((rd_T67 l0 x3_1).f1),.string ((rd_T67 l0 x3_1).f2),.string (⟨#[]⟩ : ByteArray)]) ?_ 3 _ rfl;(with_reducible repeat (first | refine blk_drewN ?_ _ | refine blk_drew ?_ | refine blk_alloc ?_ _));refine blk_put (cs:=#[.int .i64 ((rd_T67 l0 x3_1).f0),.string ((rd_T67 l0 x3_1).f1),.string (⟨#[]⟩ : ByteArray),.string (⟨#[]⟩ : ByteArray)]) ?_ 2 _ rfl;(with_reducible repeat (first | refine blk_drewN ?_ _ | refine blk_drew ?_ | refine blk_alloc ?_ _));refine blk_put (cs:=#[.int .i64 ((rd_T67 l0 x3_1).f0),.string (⟨#[]⟩ : ByteArray),.string (⟨#[]⟩ : ByteArray),.string (⟨#[]⟩ : ByteArray)]) ?_ 1 _ rfl;(with_reducible repeat (first | refine blk_drewN ?_ _ | refine blk_drew ?_ | refine blk_alloc ?_ _));refine blk_put (cs:=#[.int .i64 0,.string (⟨#[]⟩ : ByteArray),.string (⟨#[]⟩ : ByteArray),.string (⟨#[]⟩ : ByteArray)]) ?_ 0 _ rfl;(with_reducible repeat (first | refine blk_drewN ?_ _ | refine blk_drew ?_ | refine blk_alloc ?_ _));exact BK125.out) hb);have n1_:=Aside0.mk (below_step (by repeat (first | (with_reducible first | exact HB.out | apply below_alloc | apply pw_below_drewN | apply below_drew1 | refine below_set ?_ GE125.out) | exact HB.out)) hb);clear BK125;clear HB;have BK125:=n0_;have HB:=n1_;clear n0_ n1_;(try clear hb);(try clear hb2);(try clear hk);(try clear hi)))
       repeat (go_quiet (first | ((with_reducible refine gate_dst (N:=4) rfl ?_);refine box_event ?hg (N:=4) ?hd (cs:=#[.int .i64 0,.string (⟨#[]⟩ : ByteArray),.string (⟨#[]⟩ : ByteArray),.string (⟨#[]⟩ : ByteArray)]) (t:=67) ?hr ?_;(case hd => rfl);(case hg => rfl);(case hr => first | (go_simp;done) | (go_simp;rfl));intro gb125 hg w50 hbox hb;have n0_:=Aside0.mk (below_step (by repeat (first | (with_reducible first | exact HB.out | apply below_alloc | apply pw_below_drewN | apply below_drew1) | exact HB.out)) hb);have n1_:=Aside0.mk (hbox);have n2_:=Aside0.mk ((by rw [hg];exact (below_size (by repeat (first | (with_reducible first | exact HB.out | apply below_alloc | apply pw_below_drewN | apply below_drew1) | exact HB.out))) : w.heap.size ≤ gb125));have n3_:=Aside0.mk ((by rw [hg];exact (below_size (by repeat (first | (with_reducible first | exact HB.out | apply below_alloc | apply pw_below_drewN | apply below_drew1) | exact HB.out))) : w.heap.size ≤ gb125));clear HB;have HB:=n0_;have BK125:=n1_;have GW125:=n2_;have GE125:=n3_;clear n0_ n1_ n2_ n3_;clear hb hbox hg;have hcz51_0 : w50.cell? ⟨gb125,0,none⟩ = some (.int .i64 0):=(blk_cell BK125.out 0).trans rfl;have hcz51_1 : w50.cell? ⟨gb125,1,none⟩ = some (.string (⟨#[]⟩ : ByteArray)):=(blk_cell BK125.out 1).trans rfl;have hcz51_2 : w50.cell? ⟨gb125,2,none⟩ = some (.string (⟨#[]⟩ : ByteArray)):=(blk_cell BK125.out 2).trans rfl;have hcz51_3 : w50.cell? ⟨gb125,3,none⟩ = some (.string (⟨#[]⟩ : ByteArray)):=(blk_cell BK125.out 3).trans rfl;have hfz51_0:=blk_frozen BK125.out 0;have hfz51_1:=blk_frozen BK125.out 1;have hfz51_2:=blk_frozen BK125.out 2;have hfz51_3:=blk_frozen BK125.out 3) | (go_at_call 44;(with_reducible refine (metrolabref53_form.calls k1 ((rd_T67 l0 x3_1).f0) ((rd_T67 l0 x3_1).f1) ((rd_T67 l0 x3_1).f2) ((rd_T67 l0 x3_1).f3) t126 _ A5.out).mono ?_);rintro e w52 ⟨rfl,hb⟩;have n0_:=Aside0.mk (blk_below (g:=gb125) (o:=.cells #[.int .i64 ((rd_T67 l0 x3_1).f0),.string ((rd_T67 l0 x3_1).f1),.string ((rd_T67 l0 x3_1).f2),.string ((rd_T67 l0 x3_1).f3)] 67 (0,0)) (by (with_reducible repeat (first | refine blk_drewN ?_ _ | refine blk_drew ?_ | refine blk_alloc ?_ _));refine blk_put (cs:=#[.int .i64 ((rd_T67 l0 x3_1).f0),.string ((rd_T67 l0 x3_1).f1),.string ((rd_T67 l0 x3_1).f2),.string (⟨#[]⟩ : ByteArray)]) ?_ 3 _ rfl;(with_reducible repeat (first | refine blk_drewN ?_ _ | refine blk_drew ?_ | refine blk_alloc ?_ _));refine blk_put (cs:=#[.int .i64 ((rd_T67 l0 x3_1).f0),.string ((rd_T67 l0 x3_1).f1),.string (⟨#[]⟩ : ByteArray),.string (⟨#[]⟩ : ByteArray)]) ?_ 2 _ rfl;(with_reducible repeat (first | refine blk_drewN ?_ _ | refine blk_drew ?_ | refine blk_alloc ?_ _));refine blk_put (cs:=#[.int .i64 ((rd_T67 l0 x3_1).f0),.string (⟨#[]⟩ : ByteArray),.string (⟨#[]⟩ : ByteArray),.string (⟨#[]⟩ : ByteArray)]) ?_ 1 _ rfl;(with_reducible repeat (first | refine blk_drewN ?_ _ | refine blk_drew ?_ | refine blk_alloc ?_ _));refine blk_put (cs:=#[.int .i64 0,.string (⟨#[]⟩ : ByteArray),.string (⟨#[]⟩ : ByteArray),.string (⟨#[]⟩ : ByteArray)]) ?_ 0 _ rfl;(with_reducible repeat (first | refine blk_drewN ?_ _ | refine blk_drew ?_ | refine blk_alloc ?_ _));exact BK125.out) hb);have n1_:=Aside0.mk (below_step (by repeat (first | (with_reducible first | exact HB.out | apply below_alloc | apply pw_below_drewN | apply below_drew1 | refine below_set ?_ GE125.out) | exact HB.out)) hb);clear BK125;clear HB;have BK125:=n0_;have HB:=n1_;clear n0_ n1_;(try clear hb);(try clear hb2);(try clear hk);(try clear hi)));try go_wp2_with (first | ((with_reducible refine gate_dst (N:=4) rfl ?_);refine box_event ?hg (N:=4) ?hd (cs:=#[.int .i64 0,.string (⟨#[]⟩ : ByteArray),.string (⟨#[]⟩ : ByteArray),.string (⟨#[]⟩ : ByteArray)]) (t:=67) ?hr ?_;(case hd => rfl);(case hg => rfl);(case hr => first | (go_simp;done) | (go_simp;rfl));intro gb125 hg w50 hbox hb;have n0_:=Aside0.mk (below_step (by repeat (first | (with_reducible first | exact HB.out | apply below_alloc | apply pw_below_drewN | apply below_drew1) | exact HB.out)) hb);have n1_:=Aside0.mk (hbox);have n2_:=Aside0.mk ((by rw [hg];exact (below_size (by repeat (first | (with_reducible first | exact HB.out | apply below_alloc | apply pw_below_drewN | apply below_drew1) | exact HB.out))) : w.heap.size ≤ gb125));have n3_:=Aside0.mk ((by rw [hg];exact (below_size (by repeat (first | (with_reducible first | exact HB.out | apply below_alloc | apply pw_below_drewN | apply below_drew1) | exact HB.out))) : w.heap.size ≤ gb125));clear HB;have HB:=n0_;have BK125:=n1_;have GW125:=n2_;have GE125:=n3_;clear n0_ n1_ n2_ n3_;clear hb hbox hg;have hcz51_0 : w50.cell? ⟨gb125,0,none⟩ = some (.int .i64 0):=(blk_cell BK125.out 0).trans rfl;have hcz51_1 : w50.cell? ⟨gb125,1,none⟩ = some (.string (⟨#[]⟩ : ByteArray)):=(blk_cell BK125.out 1).trans rfl;have hcz51_2 : w50.cell? ⟨gb125,2,none⟩ = some (.string (⟨#[]⟩ : ByteArray)):=(blk_cell BK125.out 2).trans rfl;have hcz51_3 : w50.cell? ⟨gb125,3,none⟩ = some (.string (⟨#[]⟩ : ByteArray)):=(blk_cell BK125.out 3).trans rfl;have hfz51_0:=blk_frozen BK125.out 0;have hfz51_1:=blk_frozen BK125.out 1;have hfz51_2:=blk_frozen BK125.out 2;have hfz51_3:=blk_frozen BK125.out 3) | (go_at_call 44;(with_reducible refine (metrolabref53_form.calls k1 ((rd_T67 l0 x3_1).f0) ((rd_T67 l0 x3_1).f1) ((rd_T67 l0 x3_1).f2) ((rd_T67 l0 x3_1).f3) t126 _ A5.out).mono ?_);rintro e w52 ⟨rfl,hb⟩;have n0_:=Aside0.mk (blk_below (g:=gb125) (o:=.cells #[.int .i64 ((rd_T67 l0 x3_1).f0),.string ((rd_T67 l0 x3_1).f1),.string ((rd_T67 l0 x3_1).f2),.string ((rd_T67 l0 x3_1).f3)] 67 (0,0)) (by (with_reducible repeat (first | refine blk_drewN ?_ _ | refine blk_drew ?_ | refine blk_alloc ?_ _));refine blk_put (cs:=#[.int .i64 ((rd_T67 l0 x3_1).f0),.string ((rd_T67 l0 x3_1).f1),.string ((rd_T67 l0 x3_1).f2),.string (⟨#[]⟩ : ByteArray)]) ?_ 3 _ rfl;(with_reducible repeat (first | refine blk_drewN ?_ _ | refine blk_drew ?_ | refine blk_alloc ?_ _));refine blk_put (cs:=#[.int .i64 ((rd_T67 l0 x3_1).f0),.string ((rd_T67 l0 x3_1).f1),.string (⟨#[]⟩ : ByteArray),.string (⟨#[]⟩ : ByteArray)]) ?_ 2 _ rfl;(with_reducible repeat (first | refine blk_drewN ?_ _ | refine blk_drew ?_ | refine blk_alloc ?_ _));refine blk_put (cs:=#[.int .i64 ((rd_T67 l0 x3_1).f0),.string (⟨#[]⟩ : ByteArray),.string (⟨#[]⟩ : ByteArray),.string (⟨#[]⟩ : ByteArray)]) ?_ 1 _ rfl;(with_reducible repeat (first | refine blk_drewN ?_ _ | refine blk_drew ?_ | refine blk_alloc ?_ _));refine blk_put (cs:=#[.int .i64 0,.string (⟨#[]⟩ : ByteArray),.string (⟨#[]⟩ : ByteArray),.string (⟨#[]⟩ : ByteArray)]) ?_ 0 _ rfl;(with_reducible repeat (first | refine blk_drewN ?_ _ | refine blk_drew ?_ | refine blk_alloc ?_ _));exact BK125.out) hb);have n1_:=Aside0.mk (below_step (by repeat (first | (with_reducible first | exact HB.out | apply below_alloc | apply pw_below_drewN | apply below_drew1 | refine below_set ?_ GE125.out) | exact HB.out)) hb);clear BK125;clear HB;have BK125:=n0_;have HB:=n1_;clear n0_ n1_;(try clear hb);(try clear hb2);(try clear hk);(try clear hi))))
       go_ret
       exact ⟨by first | rfl | (simp [errW_none,errW_some] <;> rfl) | (simp [*,errW_none,errW_some] <;> rfl),by repeat (first | (with_reducible first | exact HB.out | apply below_alloc | apply pw_below_drewN | apply below_drew1 | refine below_set ?_ GE125.out) | exact HB.out)⟩
     ·rw [if_neg c4] at H
      exact absurd H (by simp)
    ·rw [if_neg c3] at H
     have c3b0 : decide (x3_1 < (l0.length : Int)) = false:=decide_eq_false c3
     clear c3
     obtain rfl:=Option.some.inj H
     go_wp2
     repeat (go_quiet (fail);try go_wp2)
     go_ret
     exact ⟨by first | rfl | (simp [errW_none,errW_some] <;> rfl) | (simp [*,errW_none,errW_some] <;> rfl),by repeat (first | (with_reducible first | exact HB.out | apply below_alloc | apply pw_below_drewN | apply below_drew1) | exact HB.out)⟩
end Go.Proofs.Ytnmmdeonkpfccaa.Pr
namespace Go.Proofs.Ytnmmdeonkpfccaa.Pr
open Go.RowKit Go.Proofs.YtnmmdeonkpfccaaW.PrintWords Go.Proofs.YtnmmdeonkpfccaaW.PrintLast Go.Proofs.YtnmmdeonkpfccaaW.PrintMore
attribute [local go_sem] max2_int min2_int max_two min_two max_three min_three max_four min_four
set_option linter.unusedVariables false
set_option linter.unusedSimpArgs false
mutual
def metrolabref53_Few.j0 : Nat → List (S67) → Bool → Option (Bool)
 | 0,_,_ => none
 | k + 1,x0,x16 => if x16 = true then (some false) else (metrolabref53_Few.l0 k x0 0)
def metrolabref53_Few.l0 : Nat → List (S67) → Int → Option (Bool)
 | 0,_,_ => none
 | k + 1,x0,x3 => if x3 < (x0.length : Int) then (if 0 ≤ x3 then (if (((rd_T67 x0 x3).f1).size : Int) > 60 then (some false) else (if (((rd_T67 x0 x3).f2).size : Int) > 60 then (some false) else (if (((rd_T67 x0 x3).f3).size : Int) > 60 then (some false) else (metrolabref53_Few.l0 k x0 (wrap64 (x3 + 1)))))) else (none)) else (some true)
end
def metrolabref53_Few.f (k : Nat) (l0 : List (S67)) : Option (Bool):=if (l0.length : Int) > 16 then (if (l0.length : Int) ≤ 4096 then (metrolabref53_Few.j0 k l0 true) else (metrolabref53_Few.j0 k l0 (decide ((l0.length : Int) > 8192)))) else (metrolabref53_Few.j0 k l0 (decide ((l0.length : Int) > 8192)))
set_option maxHeartbeats 8000000 in
set_option maxRecDepth 100000 in
theorem metrolabref53_Few.calls (k : Nat) (A0 : Option Addr) (c0 : Nat) (l0 : List (S67)) (r : Bool) (w : World) (hr0 : Kd.C k67 w A0 l0.length l0) (hc0 : l0.length ≤ c0) (h : metrolabref53_Few.f k l0 = some r) :
  Calls Try.prog 36 #[.slice A0 l0.length c0] w fun e w' => e = .returned (.bool r) ∧ Drawn0 w w':=by
 have HR0:=Aside0.mk hr0
 have HC0:=Aside0.mk hc0
 clear hr0 hc0
 have H : (if (l0.length : Int) > 16 then (if (l0.length : Int) ≤ 4096 then (metrolabref53_Few.j0 k l0 true) else (metrolabref53_Few.j0 k l0 (decide ((l0.length : Int) > 8192)))) else (metrolabref53_Few.j0 k l0 (decide ((l0.length : Int) > 8192)))) = some r:=h
 clear h
 have HC2:=Aside0.mk H
 clear H
 go_enter Try.func36,Try.ntmps36
 go_upto_region 1 with (fail)
 go_cut [16] (fun v16 wc => ∃ (kq : Nat) (x16_1 : Bool),v16 = .bool x16_1 ∧ Aside0 (metrolabref53_Few.j0 kq l0 x16_1 = some r) ∧ Aside0 (kq ≤ k) ∧ Drawn0 w wc)
 case first =>
  have H:=HC2.out
  clear HC2
  by_cases c3 : (l0.length : Int) > 16
  ·rw [if_pos c3] at H
   have c3b0 : decide (16 < (l0.length : Int)) = true:=decide_eq_true c3
   have c3b1 : decide (16 < l0.length) = true:=decide_eq_true (by omega)
   clear c3
   (first | rw [c3b0] | (simp only [i64_w,i32_w];rw [c3b0]) | skip)
   by_cases c4 : (l0.length : Int) ≤ 4096
   ·rw [if_pos c4] at H
    have c4b0 : decide ((l0.length : Int) ≤ 4096) = true:=decide_eq_true c4
    have c4b1 : decide (l0.length ≤ 4096) = true:=decide_eq_true (by omega)
    clear c4
    have H':=Aside0.mk H
    clear H
    go_wp2
    go_meet
    case rel => exact ⟨_,(true),(by first | rfl | (simp;done) | (simp [*];done)),H',⟨by first | omega | exact Nat.le_refl _⟩,by repeat (first | exact Drawn0.refl _ | apply Drawn0.step)⟩
   ·rw [if_neg c4] at H
    have c4b0 : decide ((l0.length : Int) ≤ 4096) = false:=decide_eq_false c4
    have c4b1 : decide (l0.length ≤ 4096) = false:=decide_eq_false (by omega)
    clear c4
    have H':=Aside0.mk H
    clear H
    go_wp2
    go_meet
    case rel => exact ⟨_,(decide ((l0.length : Int) > 8192)),(by first | rfl | (simp;done) | (simp [*];done)),H',⟨by first | omega | exact Nat.le_refl _⟩,by repeat (first | exact Drawn0.refl _ | apply Drawn0.step)⟩
  ·rw [if_neg c3] at H
   have c3b0 : decide (16 < (l0.length : Int)) = false:=decide_eq_false c3
   have c3b1 : decide (16 < l0.length) = false:=decide_eq_false (by omega)
   clear c3
   (first | rw [c3b0] | (simp only [i64_w,i32_w];rw [c3b0]) | skip)
   have H':=Aside0.mk H
   clear H
   go_wp2
   go_meet
   case rel => exact ⟨_,(decide ((l0.length : Int) > 8192)),(by first | rfl | (simp;done) | (simp [*];done)),H',⟨by first | omega | exact Nat.le_refl _⟩,by repeat (first | exact Drawn0.refl _ | apply Drawn0.step)⟩
 case rest =>
  clear HC2
  try clear p2
  try clear c3
  try clear c3b0
  try clear c3b1
  try clear c4
  try clear c4b0
  try clear c4b1
  obtain ⟨kq,x16_1,rfl,HA,HJ1,⟨mc1,rfl⟩⟩:=hcut
  cases kq with
  | zero => exact absurd HA.out (by simp [metrolabref53_Few.j0])
  | succ kj1 =>
   have H:=HA.out
   clear HA
   simp only [metrolabref53_Few.j0] at H
   by_cases c5 : x16_1 = true
   ·subst c5
    have H1 : (some false) = some r:=by rw [if_pos rfl] at H;exact H
    clear H
    have H:=H1
    clear H1
    obtain rfl:=Option.some.inj H
    go_wp2
    go_ret
    exact ⟨by first | rfl | (simp;done) | (simp [*];done),by repeat (first | exact Drawn0.refl _ | apply Drawn0.step)⟩
   ·replace c5:=Bool.eq_false_iff.mpr c5
    subst c5
    have H1 : (metrolabref53_Few.l0 kj1 l0 0) = some r:=by rw [if_neg (show ¬ (false = true) by decide)] at H;exact H
    clear H
    have H:=H1
    clear H1
    have H':=Aside0.mk H
    clear H
    go_wp2
    go_loopg [3] kj1 (fun kq v3 w' => ∃ (x3_2 : Int),v3 = .int .i64 x3_2 ∧ Aside0 (metrolabref53_Few.l0 kq l0 x3_2 = some r) ∧ Aside0 (kq ≤ kj1) ∧ Drawn0 w w')
    case atStart => exact ⟨(0),(by first | rfl | (simp;done) | (simp [*];done)),H',⟨Nat.le_refl _⟩,by repeat (first | exact Drawn0.refl _ | apply Drawn0.step)⟩
    case round =>
     clear H'
     try clear c1
     try clear p2
     try clear c3
     try clear c3b0
     try clear c3b1
     try clear c4
     try clear c4b0
     try clear c4b1
     try clear c5
     try clear p2
     obtain ⟨x3_2,rfl,HA,HK2,⟨m2,rfl⟩⟩:=hrel
     cases gk with
     | zero => exact absurd HA.out (by simp [metrolabref53_Few.l0])
     | succ k2 =>
      have H:=HA.out
      clear HA
      simp only [metrolabref53_Few.l0] at H
      by_cases c6 : x3_2 < (l0.length : Int)
      ·rw [if_pos c6] at H
       have c6b0 : decide (x3_2 < (l0.length : Int)) = true:=decide_eq_true c6
       clear c6
       by_cases c7 : 0 ≤ x3_2
       ·rw [if_pos c7] at H
        have c7b0 : decide (0 ≤ x3_2) = true:=decide_eq_true c7
        clear c7
        by_cases c8 : (((rd_T67 l0 x3_2).f1).size : Int) > 60
        ·rw [if_pos c8] at H
         have c8b0 : decide (60 < (((rd_T67 l0 x3_2).f1).size : Int)) = true:=decide_eq_true c8
         have c8b1 : decide (60 < ((rd_T67 l0 x3_2).f1).size) = true:=decide_eq_true (by omega)
         clear c8
         obtain rfl:=Option.some.inj H
         have p106 : 0 ≤ (x3_2 : Int):=of_decide_eq_true (by first | (with_reducible assumption) | assumption)
         have q106 : x3_2 < (l0.length : Int):=of_decide_eq_true (by first | (with_reducible assumption) | assumption)
         obtain ⟨ad106,e106,hx106_0,hx106_1,hx106_2,hx106_3⟩:=at_T67 HR0.out x3_2 p106 q106
         cases e106
         replace p106:=eq_true p106
         replace q106:=eq_true q106
         go_wp2
         go_ret
         exact ⟨by first | rfl | (simp;done) | (simp [*];done),by repeat (first | exact Drawn0.refl _ | apply Drawn0.step)⟩
        ·rw [if_neg c8] at H
         have c8b0 : decide (60 < (((rd_T67 l0 x3_2).f1).size : Int)) = false:=decide_eq_false c8
         have c8b1 : decide (60 < ((rd_T67 l0 x3_2).f1).size) = false:=decide_eq_false (by omega)
         clear c8
         by_cases c9 : (((rd_T67 l0 x3_2).f2).size : Int) > 60
         ·rw [if_pos c9] at H
          have c9b0 : decide (60 < (((rd_T67 l0 x3_2).f2).size : Int)) = true:=decide_eq_true c9
          have c9b1 : decide (60 < ((rd_T67 l0 x3_2).f2).size) = true:=decide_eq_true (by omega)
          clear c9
          obtain rfl:=Option.some.inj H
          have p106 : 0 ≤ (x3_2 : Int):=of_decide_eq_true (by first | (with_reducible assumption) | assumption)
          have q106 : x3_2 < (l0.length : Int):=of_decide_eq_true (by first | (with_reducible assumption) | assumption)
          obtain ⟨ad106,e106,hx106_0,hx106_1,hx106_2,hx106_3⟩:=at_T67 HR0.out x3_2 p106 q106
          cases e106
          replace p106:=eq_true p106
          replace q106:=eq_true q106
          have p107 : 0 ≤ (x3_2 : Int):=of_decide_eq_true (by first | (with_reducible assumption) | assumption)
          have q107 : x3_2 < (l0.length : Int):=of_decide_eq_true (by first | (with_reducible assumption) | assumption)
          obtain ⟨ad107,e107,hx107_0,hx107_1,hx107_2,hx107_3⟩:=at_T67 HR0.out x3_2 p107 q107
          obtain rfl : ad106 = ad107:=(by injection e107)
          replace p107:=eq_true p107
          replace q107:=eq_true q107
          go_wp2
          go_ret
          exact ⟨by first | rfl | (simp;done) | (simp [*];done),by repeat (first | exact Drawn0.refl _ | apply Drawn0.step)⟩
         ·rw [if_neg c9] at H
          have c9b0 : decide (60 < (((rd_T67 l0 x3_2).f2).size : Int)) = false:=decide_eq_false c9
          have c9b1 : decide (60 < ((rd_T67 l0 x3_2).f2).size) = false:=decide_eq_false (by omega)
          clear c9
          by_cases c10 : (((rd_T67 l0 x3_2).f3).size : Int) > 60
          ·rw [if_pos c10] at H
           have c10b0 : decide (60 < (((rd_T67 l0 x3_2).f3).size : Int)) = true:=decide_eq_true c10
           have c10b1 : decide (60 < ((rd_T67 l0 x3_2).f3).size) = true:=decide_eq_true (by omega)
           clear c10
           obtain rfl:=Option.some.inj H
           have p106 : 0 ≤ (x3_2 : Int):=of_decide_eq_true (by first | (with_reducible assumption) | assumption)
           have q106 : x3_2 < (l0.length : Int):=of_decide_eq_true (by first | (with_reducible assumption) | assumption)
           obtain ⟨ad106,e106,hx106_0,hx106_1,hx106_2,hx106_3⟩:=at_T67 HR0.out x3_2 p106 q106
           cases e106
           replace p106:=eq_true p106
           replace q106:=eq_true q106
           have p107 : 0 ≤ (x3_2 : Int):=of_decide_eq_true (by first | (with_reducible assumption) | assumption)
           have q107 : x3_2 < (l0.length : Int):=of_decide_eq_true (by first | (with_reducible assumption) | assumption)
           obtain ⟨ad107,e107,hx107_0,hx107_1,hx107_2,hx107_3⟩:=at_T67 HR0.out x3_2 p107 q107
           obtain rfl : ad106 = ad107:=(by injection e107)
           replace p107:=eq_true p107
           replace q107:=eq_true q107
           have p108 : 0 ≤ (x3_2 : Int):=of_decide_eq_true (by first | (with_reducible assumption) | assumption)
           have q108 : x3_2 < (l0.length : Int):=of_decide_eq_true (by first | (with_reducible assumption) | assumption)
           obtain ⟨ad108,e108,hx108_0,hx108_1,hx108_2,hx108_3⟩:=at_T67 HR0.out x3_2 p108 q108
           obtain rfl : ad106 = ad108:=(by injection e108)
           replace p108:=eq_true p108
           replace q108:=eq_true q108
           go_wp2
           go_ret
           exact ⟨by first | rfl | (simp;done) | (simp [*];done),by repeat (first | exact Drawn0.refl _ | apply Drawn0.step)⟩
          ·rw [if_neg c10] at H
           have c10b0 : decide (60 < (((rd_T67 l0 x3_2).f3).size : Int)) = false:=decide_eq_false c10
           have c10b1 : decide (60 < ((rd_T67 l0 x3_2).f3).size) = false:=decide_eq_false (by omega)
           clear c10
           have H':=Aside0.mk H
           clear H
           have p106 : 0 ≤ (x3_2 : Int):=of_decide_eq_true (by first | (with_reducible assumption) | assumption)
           have q106 : x3_2 < (l0.length : Int):=of_decide_eq_true (by first | (with_reducible assumption) | assumption)
           obtain ⟨ad106,e106,hx106_0,hx106_1,hx106_2,hx106_3⟩:=at_T67 HR0.out x3_2 p106 q106
           cases e106
           replace p106:=eq_true p106
           replace q106:=eq_true q106
           have p107 : 0 ≤ (x3_2 : Int):=of_decide_eq_true (by first | (with_reducible assumption) | assumption)
           have q107 : x3_2 < (l0.length : Int):=of_decide_eq_true (by first | (with_reducible assumption) | assumption)
           obtain ⟨ad107,e107,hx107_0,hx107_1,hx107_2,hx107_3⟩:=at_T67 HR0.out x3_2 p107 q107
           obtain rfl : ad106 = ad107:=(by injection e107)
           replace p107:=eq_true p107
           replace q107:=eq_true q107
           have p108 : 0 ≤ (x3_2 : Int):=of_decide_eq_true (by first | (with_reducible assumption) | assumption)
           have q108 : x3_2 < (l0.length : Int):=of_decide_eq_true (by first | (with_reducible assumption) | assumption)
           obtain ⟨ad108,e108,hx108_0,hx108_1,hx108_2,hx108_3⟩:=at_T67 HR0.out x3_2 p108 q108
           obtain rfl : ad106 = ad108:=(by injection e108)
           replace p108:=eq_true p108
           replace q108:=eq_true q108
           go_wp2
           go_roundg k2
           case measure => have:=HJ1.out;have:=HK2.out;omega
           case rel => exact ⟨(wrap64 (x3_2 + 1)),(by first | rfl | (simp;done) | (simp [*];done)),H',⟨by have:=HJ1.out;have:=HK2.out;omega⟩,by repeat (first | exact Drawn0.refl _ | apply Drawn0.step)⟩
       ·rw [if_neg c7] at H
        exact absurd H (by simp)
      ·rw [if_neg c6] at H
       have c6b0 : decide (x3_2 < (l0.length : Int)) = false:=decide_eq_false c6
       clear c6
       obtain rfl:=Option.some.inj H
       go_wp2
       go_ret
       exact ⟨by first | rfl | (simp;done) | (simp [*];done),by repeat (first | exact Drawn0.refl _ | apply Drawn0.step)⟩
end Go.Proofs.Ytnmmdeonkpfccaa.Pr
namespace Go.Proofs.Ytnmmdeonkpfccaa.Pr
open Go.RowKit Go.Proofs.YtnmmdeonkpfccaaW.PrintWords Go.Proofs.YtnmmdeonkpfccaaW.PrintLast Go.Proofs.YtnmmdeonkpfccaaW.PrintMore
attribute [local go_sem] max2_int min2_int max_two min_two max_three min_three max_four min_four
set_option linter.unusedVariables false
set_option linter.unusedSimpArgs false
def metrolablaw53_few.f (k : Nat) (l0 : List (S51)) (a1 : ByteArray) : Option (Bool):=(metrolablaw53_own.f k l0).bind fun t109 => ((metrolabref53_Few.f k t109).bind fun t112 => (if t112 = true then (some (decide ((a1.size : Int) ≤ 60))) else (some false)))
set_option maxHeartbeats 8000000 in
set_option maxRecDepth 100000 in
theorem metrolablaw53_few.calls (k : Nat) (A0 : Option Addr) (c0 : Nat) (l0 : List (S51)) (a1 : ByteArray) (r : Bool) (w : World) (hr0 : Kd.C k51 w A0 l0.length l0) (hc0 : l0.length ≤ c0) (h : metrolablaw53_few.f k l0 a1 = some r) :
  Calls Try.prog 9 #[.slice A0 l0.length c0,.string a1] w fun e w' => e = .returned (.bool r) ∧ Below w.heap.size w w':=by
 have HR0:=Aside0.mk hr0
 have HC0:=Aside0.mk hc0
 clear hr0 hc0
 have HB:=Aside0.mk (Below.refl w.heap.size w)
 have H : ((metrolablaw53_own.f k l0).bind fun t109 => ((metrolabref53_Few.f k t109).bind fun t112 => (if t112 = true then (some (decide ((a1.size : Int) ≤ 60))) else (some false)))) = some r:=h
 clear h
 replace H:=Option.bind_eq_some_iff.mp H
 obtain ⟨t109,A30,H⟩:=H
 replace H : ((metrolabref53_Few.f k t109).bind fun t112 => (if t112 = true then (some (decide ((a1.size : Int) ≤ 60))) else (some false))) = some r:=H
 have A3:=Aside0.mk A30
 clear A30
 replace H:=Option.bind_eq_some_iff.mp H
 obtain ⟨t112,A40,H⟩:=H
 replace H : (if t112 = true then (some (decide ((a1.size : Int) ≤ 60))) else (some false)) = some r:=H
 have A4:=Aside0.mk A40
 clear A40
 by_cases c5 : t112 = true
 ·subst c5
  have H1 : (some (decide ((a1.size : Int) ≤ 60))) = some r:=by rw [if_pos rfl] at H;exact H
  clear H
  have H:=H1
  clear H1
  obtain rfl:=Option.some.inj H
  go_enter Try.func9,Try.ntmps9
  go_wp2_with (first | ((with_reducible refine gate_callee (f:=13) rfl ?_);refine goesL_ (some 6) rfl rfl Try.func13 (by kernel_rfl) rfl #[.slice A0 l0.length c0] rfl (by (try simp only [List.map_toArray,List.map_cons,List.map_nil]);first | done | rfl | (simp only [List.length_drop,List.length_take];rfl)) ?_;(with_reducible refine (metrolablaw53_own.calls k _ _ l0 t109 _ ?side1 ?side2 A3.out).mono ?_);(case side1 => repeat (first | exact HR0.out | (with_reducible refine Kd.C_alloc ?_ _) | (with_reducible refine Kd.C_drewN ?_ _) | (with_reducible refine Kd.C_drew ?_)));(case side2 => exact HC0.out);rintro e w6 ⟨v110,rfl,ho0,hb⟩;refine ⟨_,rfl,?_⟩;have n0_:=Aside0.mk (Kd.R_lower ho0 (below_size (by repeat (first | (with_reducible first | exact HB.out | apply below_alloc | apply pw_below_drewN | apply below_drew1) | exact HB.out))));have n1_:=Aside0.mk (below_step (by repeat (first | (with_reducible first | exact HB.out | apply below_alloc | apply pw_below_drewN | apply below_drew1) | exact HB.out)) hb);clear HB;have HO111:=n0_;have HB:=n1_;clear n0_ n1_;(try clear hb);(try clear hb2);(try clear hk);(try clear hi);(try clear ho0);obtain ⟨Ao7,co7,eo7⟩:=Kd.R_slice HO111.out;subst eo7) | ((with_reducible refine gate_callee (f:=36) rfl ?_);refine goesL_ (some 7) rfl rfl Try.func36 (by kernel_rfl) rfl #[.slice Ao7 t109.length co7] rfl (by (try simp only [List.map_toArray,List.map_cons,List.map_nil]);first | done | rfl | (simp only [List.length_drop,List.length_take];rfl)) ?_;(with_reducible refine (metrolabref53_Few.calls k _ _ t109 true _ ?side1 ?side2 A4.out).mono ?_);(case side1 => repeat (first | exact (Kd.R_reads' HO111.out).2.2 | (with_reducible refine Kd.C_alloc ?_ _) | (with_reducible refine Kd.C_drewN ?_ _) | (with_reducible refine Kd.C_drew ?_)));(case side2 => exact (Kd.R_reads' HO111.out).2.1);rintro e w' ⟨rfl,⟨nd,rfl⟩⟩;refine ⟨_,rfl,?_⟩))
  go_ret
  exact ⟨by first | rfl | (simp [errW_none,errW_some] <;> rfl) | (simp [*,errW_none,errW_some] <;> rfl),by repeat (first | (with_reducible first | exact HB.out | apply below_alloc | apply pw_below_drewN | apply below_drew1) | exact HB.out)⟩
 ·replace c5:=Bool.eq_false_iff.mpr c5
  subst c5
  have H1 : (some false) = some r:=by rw [if_neg (show ¬ (false = true) by decide)] at H;exact H
  clear H
  have H:=H1
  clear H1
  obtain rfl:=Option.some.inj H
  go_enter Try.func9,Try.ntmps9
  go_wp2_with (first | ((with_reducible refine gate_callee (f:=13) rfl ?_);refine goesL_ (some 6) rfl rfl Try.func13 (by kernel_rfl) rfl #[.slice A0 l0.length c0] rfl (by (try simp only [List.map_toArray,List.map_cons,List.map_nil]);first | done | rfl | (simp only [List.length_drop,List.length_take];rfl)) ?_;(with_reducible refine (metrolablaw53_own.calls k _ _ l0 t109 _ ?side1 ?side2 A3.out).mono ?_);(case side1 => repeat (first | exact HR0.out | (with_reducible refine Kd.C_alloc ?_ _) | (with_reducible refine Kd.C_drewN ?_ _) | (with_reducible refine Kd.C_drew ?_)));(case side2 => exact HC0.out);rintro e w8 ⟨v110,rfl,ho0,hb⟩;refine ⟨_,rfl,?_⟩;have n0_:=Aside0.mk (Kd.R_lower ho0 (below_size (by repeat (first | (with_reducible first | exact HB.out | apply below_alloc | apply pw_below_drewN | apply below_drew1) | exact HB.out))));have n1_:=Aside0.mk (below_step (by repeat (first | (with_reducible first | exact HB.out | apply below_alloc | apply pw_below_drewN | apply below_drew1) | exact HB.out)) hb);clear HB;have HO111:=n0_;have HB:=n1_;clear n0_ n1_;(try clear hb);(try clear hb2);(try clear hk);(try clear hi);(try clear ho0);obtain ⟨Ao9,co9,eo9⟩:=Kd.R_slice HO111.out;subst eo9) | ((with_reducible refine gate_callee (f:=36) rfl ?_);refine goesL_ (some 7) rfl rfl Try.func36 (by kernel_rfl) rfl #[.slice Ao9 t109.length co9] rfl (by (try simp only [List.map_toArray,List.map_cons,List.map_nil]);first | done | rfl | (simp only [List.length_drop,List.length_take];rfl)) ?_;(with_reducible refine (metrolabref53_Few.calls k _ _ t109 false _ ?side1 ?side2 A4.out).mono ?_);(case side1 => repeat (first | exact (Kd.R_reads' HO111.out).2.2 | (with_reducible refine Kd.C_alloc ?_ _) | (with_reducible refine Kd.C_drewN ?_ _) | (with_reducible refine Kd.C_drew ?_)));(case side2 => exact (Kd.R_reads' HO111.out).2.1);rintro e w' ⟨rfl,⟨nd,rfl⟩⟩;refine ⟨_,rfl,?_⟩))
  go_ret
  exact ⟨by first | rfl | (simp [errW_none,errW_some] <;> rfl) | (simp [*,errW_none,errW_some] <;> rfl),by repeat (first | (with_reducible first | exact HB.out | apply below_alloc | apply pw_below_drewN | apply below_drew1) | exact HB.out)⟩
end Go.Proofs.Ytnmmdeonkpfccaa.Pr
namespace Go.Proofs.Ytnmmdeonkpfccaa.Pr
open Go.RowKit Go.Proofs.YtnmmdeonkpfccaaW.PrintWords Go.Proofs.YtnmmdeonkpfccaaW.PrintLast Go.Proofs.YtnmmdeonkpfccaaW.PrintMore
attribute [local go_sem] max2_int min2_int max_two min_two max_three min_three max_four min_four
set_option linter.unusedVariables false
set_option linter.unusedSimpArgs false
def metrolablaw53_right.f (k : Nat) (l0 : List (S51)) : Option (Bool):=if (l0.length : Int) ≤ 16 then ((metrolablaw53_few.f k l0 (⟨#[]⟩ : ByteArray)).bind fun t323 => (if t323 = true then ((metrolablaw53_own.f k l0).bind fun t324 => ((metrolabref53_Check.f k t324).bind fun t327 => (some (t327 == 0)))) else (some false))) else (some false)
set_option maxHeartbeats 8000000 in
set_option maxRecDepth 100000 in
theorem metrolablaw53_right.calls (k : Nat) (A0 : Option Addr) (c0 : Nat) (l0 : List (S51)) (r : Bool) (w : World) (hr0 : Kd.C k51 w A0 l0.length l0) (hc0 : l0.length ≤ c0) (h : metrolablaw53_right.f k l0 = some r) :
  Calls Try.prog 28 #[.slice A0 l0.length c0] w fun e w' => e = .returned (.bool r) ∧ Below w.heap.size w w':=by
 have HR0:=Aside0.mk hr0
 have HC0:=Aside0.mk hc0
 clear hr0 hc0
 have HB:=Aside0.mk (Below.refl w.heap.size w)
 have H : (if (l0.length : Int) ≤ 16 then ((metrolablaw53_few.f k l0 (⟨#[]⟩ : ByteArray)).bind fun t323 => (if t323 = true then ((metrolablaw53_own.f k l0).bind fun t324 => ((metrolabref53_Check.f k t324).bind fun t327 => (some (t327 == 0)))) else (some false))) else (some false)) = some r:=h
 clear h
 by_cases c2 : (l0.length : Int) ≤ 16
 ·rw [if_pos c2] at H
  have c2b0 : decide ((l0.length : Int) ≤ 16) = true:=decide_eq_true c2
  have c2b1 : decide (l0.length ≤ 16) = true:=decide_eq_true (by omega)
  clear c2
  replace H:=Option.bind_eq_some_iff.mp H
  obtain ⟨t323,A30,H⟩:=H
  replace H : (if t323 = true then ((metrolablaw53_own.f k l0).bind fun t324 => ((metrolabref53_Check.f k t324).bind fun t327 => (some (t327 == 0)))) else (some false)) = some r:=H
  have A3:=Aside0.mk A30
  clear A30
  by_cases c4 : t323 = true
  ·subst c4
   have H1 : ((metrolablaw53_own.f k l0).bind fun t324 => ((metrolabref53_Check.f k t324).bind fun t327 => (some (t327 == 0)))) = some r:=by rw [if_pos rfl] at H;exact H
   clear H
   have H:=H1
   clear H1
   replace H:=Option.bind_eq_some_iff.mp H
   obtain ⟨t324,A50,H⟩:=H
   replace H : ((metrolabref53_Check.f k t324).bind fun t327 => (some (t327 == 0))) = some r:=H
   have A5:=Aside0.mk A50
   clear A50
   replace H:=Option.bind_eq_some_iff.mp H
   obtain ⟨t327,A60,H⟩:=H
   replace H : (some (t327 == 0)) = some r:=H
   have A6:=Aside0.mk A60
   clear A60
   obtain rfl:=Option.some.inj H
   go_enter Try.func28,Try.ntmps28
   go_wp2_with (first | (go_at_call 9;(with_reducible refine (metrolablaw53_few.calls k _ _ l0 (⟨#[]⟩ : ByteArray) true _ ?side1 ?side2 A3.out).mono ?_);(case side1 => repeat (first | exact HR0.out | (with_reducible refine Kd.C_alloc ?_ _) | (with_reducible refine Kd.C_drewN ?_ _) | (with_reducible refine Kd.C_drew ?_)));(case side2 => exact HC0.out);rintro e w7 ⟨rfl,hb⟩;have n0_:=Aside0.mk (below_step (by repeat (first | (with_reducible first | exact HB.out | apply below_alloc | apply pw_below_drewN | apply below_drew1) | exact HB.out)) hb);clear HB;have HB:=n0_;clear n0_;(try clear hb);(try clear hb2);(try clear hk);(try clear hi)) | (go_at_call 13;(with_reducible refine (metrolablaw53_own.calls k _ _ l0 t324 _ ?side1 ?side2 A5.out).mono ?_);(case side1 => repeat (first | exact (Kd.C_below HR0.out HB.out) | (with_reducible refine Kd.C_alloc ?_ _) | (with_reducible refine Kd.C_drewN ?_ _) | (with_reducible refine Kd.C_drew ?_)));(case side2 => exact HC0.out);rintro e w8 ⟨v325,rfl,ho0,hb⟩;have n0_:=Aside0.mk (Kd.R_lower ho0 (below_size (by repeat (first | (with_reducible first | exact HB.out | apply below_alloc | apply pw_below_drewN | apply below_drew1) | exact HB.out))));have n1_:=Aside0.mk (below_step (by repeat (first | (with_reducible first | exact HB.out | apply below_alloc | apply pw_below_drewN | apply below_drew1) | exact HB.out)) hb);clear HB;have HO326:=n0_;have HB:=n1_;clear n0_ n1_;(try clear hb);(try clear hb2);(try clear hk);(try clear hi);(try clear ho0);obtain ⟨Ao9,co9,eo9⟩:=Kd.R_slice HO326.out;subst eo9) | (go_at_call 17;(with_reducible refine (metrolabref53_Check.calls k _ _ t324 t327 _ ?side1 ?side2 A6.out).mono ?_);(case side1 => repeat (first | exact (Kd.R_reads' HO326.out).2.2 | (with_reducible refine Kd.C_alloc ?_ _) | (with_reducible refine Kd.C_drewN ?_ _) | (with_reducible refine Kd.C_drew ?_)));(case side2 => exact (Kd.R_reads' HO326.out).2.1);rintro e w10 ⟨rfl,hb⟩;have n0_:=Aside0.mk (Kd.R_below (by (with_reducible repeat (first | apply Kd.R_alloc | apply Kd.R_drewN | apply Kd.R_drew));exact HO326.out) hb);have n1_:=Aside0.mk (below_step (by repeat (first | (with_reducible first | exact HB.out | apply below_alloc | apply pw_below_drewN | apply below_drew1) | exact HB.out)) hb);clear HO326;clear HB;have HO326:=n0_;have HB:=n1_;clear n0_ n1_;(try clear hb);(try clear hb2);(try clear hk);(try clear hi)))
   go_ret
   exact ⟨by first | rfl | (simp [errW_none,errW_some] <;> rfl) | (simp [*,errW_none,errW_some] <;> rfl),by repeat (first | (with_reducible first | exact HB.out | apply below_alloc | apply pw_below_drewN | apply below_drew1) | exact HB.out)⟩
  ·replace c4:=Bool.eq_false_iff.mpr c4
   subst c4
   have H1 : (some false) = some r:=by rw [if_neg (show ¬ (false = true) by decide)] at H;exact H
   clear H
   have H:=H1
   clear H1
   obtain rfl:=Option.some.inj H
   go_enter Try.func28,Try.ntmps28
   go_wp2_with (first | (go_at_call 9;(with_reducible refine (metrolablaw53_few.calls k _ _ l0 (⟨#[]⟩ : ByteArray) false _ ?side1 ?side2 A3.out).mono ?_);(case side1 => repeat (first | exact HR0.out | (with_reducible refine Kd.C_alloc ?_ _) | (with_reducible refine Kd.C_drewN ?_ _) | (with_reducible refine Kd.C_drew ?_)));(case side2 => exact HC0.out);rintro e w11 ⟨rfl,hb⟩;have n0_:=Aside0.mk (below_step (by repeat (first | (with_reducible first | exact HB.out | apply below_alloc | apply pw_below_drewN | apply below_drew1) | exact HB.out)) hb);clear HB;have HB:=n0_;clear n0_;(try clear hb);(try clear hb2);(try clear hk);(try clear hi)))
   go_ret
   exact ⟨by first | rfl | (simp [errW_none,errW_some] <;> rfl) | (simp [*,errW_none,errW_some] <;> rfl),by repeat (first | (with_reducible first | exact HB.out | apply below_alloc | apply pw_below_drewN | apply below_drew1) | exact HB.out)⟩
 ·rw [if_neg c2] at H
  have c2b0 : decide ((l0.length : Int) ≤ 16) = false:=decide_eq_false c2
  have c2b1 : decide (l0.length ≤ 16) = false:=decide_eq_false (by omega)
  clear c2
  obtain rfl:=Option.some.inj H
  go_enter Try.func28,Try.ntmps28
  go_wp2
  go_ret
  exact ⟨by first | rfl | (simp [errW_none,errW_some] <;> rfl) | (simp [*,errW_none,errW_some] <;> rfl),by repeat (first | (with_reducible first | exact HB.out | apply below_alloc | apply pw_below_drewN | apply below_drew1) | exact HB.out)⟩
end Go.Proofs.Ytnmmdeonkpfccaa.Pr
set_option linter.unusedVariables false
namespace Go.Proofs.Ytnmmdeonkpfccaa.Pr
theorem wpList_unguard {P : Program} {ops : Array Oper} {Q : Exit → Act → World → Prop} {a : Act} {w : World} {rest : List Oper} {o : Oper} {g : Tmp × Bool}
  (_hg : o.guard = some g) (hw : Region.wanted o (yielded ops a.tmps) = true)
  (h : wpList P ops Q ({ o with guard:=none } :: rest) a w) : wpList P ops Q (o :: rest) a w:=by
 unfold wpList at h ⊢
 rw [if_pos hw]
 rw [if_pos (by simp [Region.wanted])] at h
 exact h
end Go.Proofs.Ytnmmdeonkpfccaa.Pr
namespace Go.Proofs.Ytnmmdeonkpfccaa.Pr
open Go.RowKit Go.Proofs.YtnmmdeonkpfccaaW.PrintWords Go.Proofs.YtnmmdeonkpfccaaW.PrintLast Go.Proofs.YtnmmdeonkpfccaaW.PrintMore
attribute [local go_sem] max2_int min2_int max_two min_two max_three min_three max_four min_four
set_option linter.unusedVariables false
set_option linter.unusedSimpArgs false
def slices_Equal_int_int.l0 : Nat → List Int → List Int → Int → Int → Option (Bool)
 | 0,_,_,_,_ => none
 | k + 1,x0,x1,x12,x13 => if x13 < x12 then (if 0 ≤ x13 then (if x13 < (x0.length : Int) then (if x13 < (x1.length : Int) then (if (rd x0 x13) = (rd x1 x13) then (slices_Equal_int_int.l0 k x0 x1 x12 (wrap64 (x13 + 1))) else (some false)) else (none)) else (none)) else (none)) else (some true)
def slices_Equal_int_int.f (k : Nat) (l0 : List Int) (l1 : List Int) : Option (Bool):=if (l0.length : Int) = (l1.length : Int) then (slices_Equal_int_int.l0 k l0 l1 (l0.length : Int) 0) else (some false)
set_option maxHeartbeats 8000000 in
set_option maxRecDepth 100000 in
theorem slices_Equal_int_int.calls (k : Nat) (A0 : Option Addr) (c0 : Nat) (l0 : List Int) (A1 : Option Addr) (c1 : Nat) (l1 : List Int) (r : Bool) (w : World) (hr0 : Kd.C (Kd.int .i64) w A0 l0.length l0) (hc0 : l0.length ≤ c0) (hr1 : Kd.C (Kd.int .i64) w A1 l1.length l1) (hc1 : l1.length ≤ c1) (h : slices_Equal_int_int.f k l0 l1 = some r) :
  Calls Try.prog 18 #[.slice A0 l0.length c0,.slice A1 l1.length c1] w fun e w' => e = .returned (.bool r) ∧ Drawn0 w w':=by
 have HR0:=Aside0.mk hr0
 have HC0:=Aside0.mk hc0
 clear hr0 hc0
 have HR1:=Aside0.mk hr1
 have HC1:=Aside0.mk hc1
 clear hr1 hc1
 have H : (if (l0.length : Int) = (l1.length : Int) then (slices_Equal_int_int.l0 k l0 l1 (l0.length : Int) 0) else (some false)) = some r:=h
 clear h
 by_cases c3 : (l0.length : Int) = (l1.length : Int)
 ·rw [if_pos c3] at H
  have c3b0 : ((l0.length : Int) == (l1.length : Int)) = true:=beq_iff_eq.mpr c3
  have c3b1 : ((l0.length : Int) != (l1.length : Int)) = false:=bne_eq_false_iff_eq.mpr c3
  have c3b2 : (l0.length == l1.length) = true:=by first | simpa using c3 | (simp at c3 ⊢;omega)
  clear c3
  have H':=Aside0.mk H
  clear H
  go_enter Try.func18,Try.ntmps18
  go_wp2
  repeat (go_quiet (fail);try go_wp2)
  go_loopg [13] k (fun kq v13 w' => ∃ (x13_1 : Int),v13 = .int .i64 x13_1 ∧ Aside0 (slices_Equal_int_int.l0 kq l0 l1 (l0.length : Int) x13_1 = some r) ∧ Aside0 (kq ≤ k) ∧ Drawn0 w w')
  case atStart => exact ⟨(0),(by first | rfl | (simp;done) | (simp [*];done)),H',⟨Nat.le_refl _⟩,by repeat (first | exact Drawn0.refl _ | apply Drawn0.step)⟩
  case round =>
   clear H'
   try clear c1
   try clear p2
   try clear c3
   try clear c3b0
   try clear c3b1
   try clear c3b2
   obtain ⟨x13_1,rfl,HA,HK1,⟨m1,rfl⟩⟩:=hrel
   cases gk with
   | zero => exact absurd HA.out (by simp [slices_Equal_int_int.l0])
   | succ k1 =>
    have H:=HA.out
    clear HA
    simp only [slices_Equal_int_int.l0] at H
    by_cases c4 : x13_1 < (l0.length : Int)
    ·rw [if_pos c4] at H
     have c4b0 : decide (x13_1 < (l0.length : Int)) = true:=decide_eq_true c4
     clear c4
     by_cases c5 : 0 ≤ x13_1
     ·rw [if_pos c5] at H
      have c5b0 : decide (0 ≤ x13_1) = true:=decide_eq_true c5
      clear c5
      by_cases c6 : x13_1 < (l0.length : Int)
      ·rw [if_pos c6] at H
       have c6b0 : decide (x13_1 < (l0.length : Int)) = true:=decide_eq_true c6
       clear c6
       by_cases c7 : x13_1 < (l1.length : Int)
       ·rw [if_pos c7] at H
        have c7b0 : decide (x13_1 < (l1.length : Int)) = true:=decide_eq_true c7
        clear c7
        by_cases c8 : (rd l0 x13_1) = (rd l1 x13_1)
        ·rw [if_pos c8] at H
         have c8b0 : ((rd l0 x13_1) == (rd l1 x13_1)) = true:=beq_iff_eq.mpr c8
         have c8b1 : ((rd l0 x13_1) != (rd l1 x13_1)) = false:=bne_eq_false_iff_eq.mpr c8
         clear c8
         have H':=Aside0.mk H
         clear H
         have p192 : 0 ≤ (x13_1 : Int):=of_decide_eq_true (by first | (with_reducible assumption) | assumption)
         have q192 : x13_1 < (l0.length : Int):=of_decide_eq_true (by first | (with_reducible assumption) | assumption)
         obtain ⟨ad192,e192,hx192_0⟩:=Kd.at_int HR0.out x13_1 p192 q192
         cases e192
         replace p192:=eq_true p192
         replace q192:=eq_true q192
         have p193 : 0 ≤ (x13_1 : Int):=of_decide_eq_true (by first | (with_reducible assumption) | assumption)
         have q193 : x13_1 < (l1.length : Int):=of_decide_eq_true (by first | (with_reducible assumption) | assumption)
         obtain ⟨ad193,e193,hx193_0⟩:=Kd.at_int HR1.out x13_1 p193 q193
         cases e193
         replace p193:=eq_true p193
         replace q193:=eq_true q193
         go_wp2
         repeat (go_quiet (fail);try go_wp2)
         go_roundg k1
         case measure => have:=HK1.out;omega
         case rel => exact ⟨(wrap64 (x13_1 + 1)),(by first | rfl | (simp;done) | (simp [*];done)),H',⟨by have:=HK1.out;omega⟩,by repeat (first | exact Drawn0.refl _ | apply Drawn0.step)⟩
        ·rw [if_neg c8] at H
         have c8b0 : ((rd l0 x13_1) == (rd l1 x13_1)) = false:=beq_eq_false_iff_ne.mpr c8
         have c8b1 : ((rd l0 x13_1) != (rd l1 x13_1)) = true:=bne_iff_ne.mpr c8
         obtain rfl:=Option.some.inj H
         have p192 : 0 ≤ (x13_1 : Int):=of_decide_eq_true (by first | (with_reducible assumption) | assumption)
         have q192 : x13_1 < (l0.length : Int):=of_decide_eq_true (by first | (with_reducible assumption) | assumption)
         obtain ⟨ad192,e192,hx192_0⟩:=Kd.at_int HR0.out x13_1 p192 q192
         cases e192
         replace p192:=eq_true p192
         replace q192:=eq_true q192
         have p193 : 0 ≤ (x13_1 : Int):=of_decide_eq_true (by first | (with_reducible assumption) | assumption)
         have q193 : x13_1 < (l1.length : Int):=of_decide_eq_true (by first | (with_reducible assumption) | assumption)
         obtain ⟨ad193,e193,hx193_0⟩:=Kd.at_int HR1.out x13_1 p193 q193
         cases e193
         replace p193:=eq_true p193
         replace q193:=eq_true q193
         go_wp2
         repeat (go_quiet (fail);try go_wp2)
         go_ret
         exact ⟨by first | rfl | (simp;done) | (simp [*];done),by repeat (first | exact Drawn0.refl _ | apply Drawn0.step)⟩
       ·rw [if_neg c7] at H
        exact absurd H (by simp)
      ·rw [if_neg c6] at H
       exact absurd H (by simp)
     ·rw [if_neg c5] at H
      exact absurd H (by simp)
    ·rw [if_neg c4] at H
     have c4b0 : decide (x13_1 < (l0.length : Int)) = false:=decide_eq_false c4
     clear c4
     obtain rfl:=Option.some.inj H
     go_wp2
     repeat (go_quiet (fail);try go_wp2)
     go_ret
     exact ⟨by first | rfl | (simp;done) | (simp [*];done),by repeat (first | exact Drawn0.refl _ | apply Drawn0.step)⟩
 ·rw [if_neg c3] at H
  have c3b0 : ((l0.length : Int) == (l1.length : Int)) = false:=beq_eq_false_iff_ne.mpr c3
  have c3b1 : ((l0.length : Int) != (l1.length : Int)) = true:=bne_iff_ne.mpr c3
  have c3b2 : (l0.length == l1.length) = false:=by first | simpa using c3 | (simp at c3 ⊢;omega)
  obtain rfl:=Option.some.inj H
  go_enter Try.func18,Try.ntmps18
  go_wp2
  repeat (go_quiet (fail);try go_wp2)
  go_ret
  exact ⟨by first | rfl | (simp;done) | (simp [*];done),by repeat (first | exact Drawn0.refl _ | apply Drawn0.step)⟩
end Go.Proofs.Ytnmmdeonkpfccaa.Pr
namespace Go.Proofs.Ytnmmdeonkpfccaa.Pr
open Go.RowKit Go.Proofs.YtnmmdeonkpfccaaW.PrintWords Go.Proofs.YtnmmdeonkpfccaaW.PrintLast Go.Proofs.YtnmmdeonkpfccaaW.PrintMore
attribute [local go_sem] max2_int min2_int max_two min_two max_three min_three max_four min_four
set_option linter.unusedVariables false
set_option linter.unusedSimpArgs false
def slices_Equal_string_string.l0 : Nat → List ByteArray → List ByteArray → Int → Int → Option (Bool)
 | 0,_,_,_,_ => none
 | k + 1,x0,x1,x12,x13 => if x13 < x12 then (if 0 ≤ x13 then (if x13 < (x0.length : Int) then (if x13 < (x1.length : Int) then (if (rdOf ByteArray.empty x0 x13).toList = (rdOf ByteArray.empty x1 x13).toList then (slices_Equal_string_string.l0 k x0 x1 x12 (wrap64 (x13 + 1))) else (some false)) else (none)) else (none)) else (none)) else (some true)
def slices_Equal_string_string.f (k : Nat) (l0 : List ByteArray) (l1 : List ByteArray) : Option (Bool):=if (l0.length : Int) = (l1.length : Int) then (slices_Equal_string_string.l0 k l0 l1 (l0.length : Int) 0) else (some false)
set_option maxHeartbeats 8000000 in
set_option maxRecDepth 100000 in
theorem slices_Equal_string_string.calls (k : Nat) (A0 : Option Addr) (c0 : Nat) (l0 : List ByteArray) (A1 : Option Addr) (c1 : Nat) (l1 : List ByteArray) (r : Bool) (w : World) (hr0 : Kd.C Kd.string w A0 l0.length l0) (hc0 : l0.length ≤ c0) (hr1 : Kd.C Kd.string w A1 l1.length l1) (hc1 : l1.length ≤ c1) (h : slices_Equal_string_string.f k l0 l1 = some r) :
  Calls Try.prog 19 #[.slice A0 l0.length c0,.slice A1 l1.length c1] w fun e w' => e = .returned (.bool r) ∧ Drawn0 w w':=by
 have HR0:=Aside0.mk hr0
 have HC0:=Aside0.mk hc0
 clear hr0 hc0
 have HR1:=Aside0.mk hr1
 have HC1:=Aside0.mk hc1
 clear hr1 hc1
 have H : (if (l0.length : Int) = (l1.length : Int) then (slices_Equal_string_string.l0 k l0 l1 (l0.length : Int) 0) else (some false)) = some r:=h
 clear h
 by_cases c3 : (l0.length : Int) = (l1.length : Int)
 ·rw [if_pos c3] at H
  have c3b0 : ((l0.length : Int) == (l1.length : Int)) = true:=beq_iff_eq.mpr c3
  have c3b1 : ((l0.length : Int) != (l1.length : Int)) = false:=bne_eq_false_iff_eq.mpr c3
  have c3b2 : (l0.length == l1.length) = true:=by first | simpa using c3 | (simp at c3 ⊢;omega)
  clear c3
  have H':=Aside0.mk H
  clear H
  go_enter Try.func19,Try.ntmps19
  go_wp2
  repeat (go_quiet (fail);try go_wp2)
  go_loopg [13] k (fun kq v13 w' => ∃ (x13_1 : Int),v13 = .int .i64 x13_1 ∧ Aside0 (slices_Equal_string_string.l0 kq l0 l1 (l0.length : Int) x13_1 = some r) ∧ Aside0 (kq ≤ k) ∧ Drawn0 w w')
  case atStart => exact ⟨(0),(by first | rfl | (simp;done) | (simp [*];done)),H',⟨Nat.le_refl _⟩,by repeat (first | exact Drawn0.refl _ | apply Drawn0.step)⟩
  case round =>
   clear H'
   try clear c1
   try clear p2
   try clear c3
   try clear c3b0
   try clear c3b1
   try clear c3b2
   obtain ⟨x13_1,rfl,HA,HK1,⟨m1,rfl⟩⟩:=hrel
   cases gk with
   | zero => exact absurd HA.out (by simp [slices_Equal_string_string.l0])
   | succ k1 =>
    have H:=HA.out
    clear HA
    simp only [slices_Equal_string_string.l0] at H
    by_cases c4 : x13_1 < (l0.length : Int)
    ·rw [if_pos c4] at H
     have c4b0 : decide (x13_1 < (l0.length : Int)) = true:=decide_eq_true c4
     clear c4
     by_cases c5 : 0 ≤ x13_1
     ·rw [if_pos c5] at H
      have c5b0 : decide (0 ≤ x13_1) = true:=decide_eq_true c5
      clear c5
      by_cases c6 : x13_1 < (l0.length : Int)
      ·rw [if_pos c6] at H
       have c6b0 : decide (x13_1 < (l0.length : Int)) = true:=decide_eq_true c6
       clear c6
       by_cases c7 : x13_1 < (l1.length : Int)
       ·rw [if_pos c7] at H
        have c7b0 : decide (x13_1 < (l1.length : Int)) = true:=decide_eq_true c7
        clear c7
        by_cases c8 : (rdOf ByteArray.empty l0 x13_1).toList = (rdOf ByteArray.empty l1 x13_1).toList
        ·rw [if_pos c8] at H
         have c8b0 : ((rdOf ByteArray.empty l0 x13_1).toList == (rdOf ByteArray.empty l1 x13_1).toList) = true:=beq_iff_eq.mpr c8
         have c8b1 : ((rdOf ByteArray.empty l0 x13_1).toList != (rdOf ByteArray.empty l1 x13_1).toList) = false:=bne_eq_false_iff_eq.mpr c8
         clear c8
         have H':=Aside0.mk H
         clear H
         have p194 : 0 ≤ (x13_1 : Int):=of_decide_eq_true (by first | (with_reducible assumption) | assumption)
         have q194 : x13_1 < (l0.length : Int):=of_decide_eq_true (by first | (with_reducible assumption) | assumption)
         obtain ⟨ad194,e194,hx194_0⟩:=Kd.at_string HR0.out x13_1 p194 q194
         cases e194
         replace p194:=eq_true p194
         replace q194:=eq_true q194
         have p195 : 0 ≤ (x13_1 : Int):=of_decide_eq_true (by first | (with_reducible assumption) | assumption)
         have q195 : x13_1 < (l1.length : Int):=of_decide_eq_true (by first | (with_reducible assumption) | assumption)
         obtain ⟨ad195,e195,hx195_0⟩:=Kd.at_string HR1.out x13_1 p195 q195
         cases e195
         replace p195:=eq_true p195
         replace q195:=eq_true q195
         go_wp2
         repeat (go_quiet (fail);try go_wp2)
         go_roundg k1
         case measure => have:=HK1.out;omega
         case rel => exact ⟨(wrap64 (x13_1 + 1)),(by first | rfl | (simp;done) | (simp [*];done)),H',⟨by have:=HK1.out;omega⟩,by repeat (first | exact Drawn0.refl _ | apply Drawn0.step)⟩
        ·rw [if_neg c8] at H
         have c8b0 : ((rdOf ByteArray.empty l0 x13_1).toList == (rdOf ByteArray.empty l1 x13_1).toList) = false:=beq_eq_false_iff_ne.mpr c8
         have c8b1 : ((rdOf ByteArray.empty l0 x13_1).toList != (rdOf ByteArray.empty l1 x13_1).toList) = true:=bne_iff_ne.mpr c8
         obtain rfl:=Option.some.inj H
         have p194 : 0 ≤ (x13_1 : Int):=of_decide_eq_true (by first | (with_reducible assumption) | assumption)
         have q194 : x13_1 < (l0.length : Int):=of_decide_eq_true (by first | (with_reducible assumption) | assumption)
         obtain ⟨ad194,e194,hx194_0⟩:=Kd.at_string HR0.out x13_1 p194 q194
         cases e194
         replace p194:=eq_true p194
         replace q194:=eq_true q194
         have p195 : 0 ≤ (x13_1 : Int):=of_decide_eq_true (by first | (with_reducible assumption) | assumption)
         have q195 : x13_1 < (l1.length : Int):=of_decide_eq_true (by first | (with_reducible assumption) | assumption)
         obtain ⟨ad195,e195,hx195_0⟩:=Kd.at_string HR1.out x13_1 p195 q195
         cases e195
         replace p195:=eq_true p195
         replace q195:=eq_true q195
         go_wp2
         repeat (go_quiet (fail);try go_wp2)
         go_ret
         exact ⟨by first | rfl | (simp;done) | (simp [*];done),by repeat (first | exact Drawn0.refl _ | apply Drawn0.step)⟩
       ·rw [if_neg c7] at H
        exact absurd H (by simp)
      ·rw [if_neg c6] at H
       exact absurd H (by simp)
     ·rw [if_neg c5] at H
      exact absurd H (by simp)
    ·rw [if_neg c4] at H
     have c4b0 : decide (x13_1 < (l0.length : Int)) = false:=decide_eq_false c4
     clear c4
     obtain rfl:=Option.some.inj H
     go_wp2
     repeat (go_quiet (fail);try go_wp2)
     go_ret
     exact ⟨by first | rfl | (simp;done) | (simp [*];done),by repeat (first | exact Drawn0.refl _ | apply Drawn0.step)⟩
 ·rw [if_neg c3] at H
  have c3b0 : ((l0.length : Int) == (l1.length : Int)) = false:=beq_eq_false_iff_ne.mpr c3
  have c3b1 : ((l0.length : Int) != (l1.length : Int)) = true:=bne_iff_ne.mpr c3
  have c3b2 : (l0.length == l1.length) = false:=by first | simpa using c3 | (simp at c3 ⊢;omega)
  obtain rfl:=Option.some.inj H
  go_enter Try.func19,Try.ntmps19
  go_wp2
  repeat (go_quiet (fail);try go_wp2)
  go_ret
  exact ⟨by first | rfl | (simp;done) | (simp [*];done),by repeat (first | exact Drawn0.refl _ | apply Drawn0.step)⟩
end Go.Proofs.Ytnmmdeonkpfccaa.Pr
namespace Go.Proofs.Ytnmmdeonkpfccaa.Pr
open Go.RowKit Go.Proofs.YtnmmdeonkpfccaaW.PrintWords Go.Proofs.YtnmmdeonkpfccaaW.PrintLast Go.Proofs.YtnmmdeonkpfccaaW.PrintMore
attribute [local go_sem] max2_int min2_int max_two min_two max_three min_three max_four min_four
set_option linter.unusedVariables false
set_option linter.unusedSimpArgs false
def metrolablaw53_Seven.f  : Option ((List (S51))):=some (([(⟨0,(⟨#[103]⟩ : ByteArray),(⟨#[112,49]⟩ : ByteArray),(⟨#[88]⟩ : ByteArray)⟩ : S51),(⟨0,(⟨#[104]⟩ : ByteArray),(⟨#[112,50]⟩ : ByteArray),(⟨#[88]⟩ : ByteArray)⟩ : S51),(⟨1,(⟨#[103]⟩ : ByteArray),(⟨#[]⟩ : ByteArray),(⟨#[]⟩ : ByteArray)⟩ : S51),(⟨0,(⟨#[103]⟩ : ByteArray),(⟨#[112,49]⟩ : ByteArray),(⟨#[88]⟩ : ByteArray)⟩ : S51),(⟨0,(⟨#[103]⟩ : ByteArray),(⟨#[112,51]⟩ : ByteArray),(⟨#[89]⟩ : ByteArray)⟩ : S51),(⟨2,(⟨#[103]⟩ : ByteArray),(⟨#[]⟩ : ByteArray),(⟨#[]⟩ : ByteArray)⟩ : S51),(⟨2,(⟨#[104]⟩ : ByteArray),(⟨#[]⟩ : ByteArray),(⟨#[]⟩ : ByteArray)⟩ : S51)] : List (S51)))
set_option maxHeartbeats 8000000 in
set_option maxRecDepth 100000 in
theorem metrolablaw53_Seven.calls  (r : List (S51)) (w : World) (h : metrolablaw53_Seven.f  = some r) :
  Calls Try.prog 37 #[] w fun e w' => ∃ v0_ : Value,e = .returned (v0_) ∧ Kd.R k51 51 w' w.heap.size (fun _ => True) v0_ r ∧ Below w.heap.size w w':=by
 have hu51:=Try.underlying51
 have HB:=Aside0.mk (Below.refl w.heap.size w)
 have H : (some (([(⟨0,(⟨#[103]⟩ : ByteArray),(⟨#[112,49]⟩ : ByteArray),(⟨#[88]⟩ : ByteArray)⟩ : S51),(⟨0,(⟨#[104]⟩ : ByteArray),(⟨#[112,50]⟩ : ByteArray),(⟨#[88]⟩ : ByteArray)⟩ : S51),(⟨1,(⟨#[103]⟩ : ByteArray),(⟨#[]⟩ : ByteArray),(⟨#[]⟩ : ByteArray)⟩ : S51),(⟨0,(⟨#[103]⟩ : ByteArray),(⟨#[112,49]⟩ : ByteArray),(⟨#[88]⟩ : ByteArray)⟩ : S51),(⟨0,(⟨#[103]⟩ : ByteArray),(⟨#[112,51]⟩ : ByteArray),(⟨#[89]⟩ : ByteArray)⟩ : S51),(⟨2,(⟨#[103]⟩ : ByteArray),(⟨#[]⟩ : ByteArray),(⟨#[]⟩ : ByteArray)⟩ : S51),(⟨2,(⟨#[104]⟩ : ByteArray),(⟨#[]⟩ : ByteArray),(⟨#[]⟩ : ByteArray)⟩ : S51)] : List (S51)))) = some r:=h
 clear h
 obtain ⟨y535,hy535⟩ : ∃ y_ : List (S51),y_ = (([(⟨0,(⟨#[103]⟩ : ByteArray),(⟨#[112,49]⟩ : ByteArray),(⟨#[88]⟩ : ByteArray)⟩ : S51),(⟨0,(⟨#[104]⟩ : ByteArray),(⟨#[112,50]⟩ : ByteArray),(⟨#[88]⟩ : ByteArray)⟩ : S51),(⟨1,(⟨#[103]⟩ : ByteArray),(⟨#[]⟩ : ByteArray),(⟨#[]⟩ : ByteArray)⟩ : S51),(⟨0,(⟨#[103]⟩ : ByteArray),(⟨#[112,49]⟩ : ByteArray),(⟨#[88]⟩ : ByteArray)⟩ : S51),(⟨0,(⟨#[103]⟩ : ByteArray),(⟨#[112,51]⟩ : ByteArray),(⟨#[89]⟩ : ByteArray)⟩ : S51),(⟨2,(⟨#[103]⟩ : ByteArray),(⟨#[]⟩ : ByteArray),(⟨#[]⟩ : ByteArray)⟩ : S51),(⟨2,(⟨#[104]⟩ : ByteArray),(⟨#[]⟩ : ByteArray),(⟨#[]⟩ : ByteArray)⟩ : S51)] : List (S51))):=⟨_,rfl⟩
 replace H : (some y535) = some r:=by first | (rw [hy535];with_reducible exact H) | (have H2_:=(Option.bind_some _ _).symm.trans H;rw [hy535];with_reducible exact H2_) | (have H2_:=(Option.bind_some _ _).symm.trans H;with_reducible exact H2_) | with_reducible exact H | (rw [hy535];exact H) | exact H
 have Ny535:=Aside0.mk hy535
 clear hy535
 obtain rfl:=Option.some.inj H
 go_enter Try.func37,Try.ntmps37
 go_wp2_with (first | ((with_reducible refine gate_dst (N:=8) rfl ?_);(try refine wpList_unguard rfl rfl ?_);refine Kd.R_lit k51 _ 51 ?hg (N:=8) ?hd (xs:=([(⟨0,(⟨#[103]⟩ : ByteArray),(⟨#[112,49]⟩ : ByteArray),(⟨#[88]⟩ : ByteArray)⟩ : S51),(⟨0,(⟨#[104]⟩ : ByteArray),(⟨#[112,50]⟩ : ByteArray),(⟨#[88]⟩ : ByteArray)⟩ : S51),(⟨1,(⟨#[103]⟩ : ByteArray),(⟨#[]⟩ : ByteArray),(⟨#[]⟩ : ByteArray)⟩ : S51),(⟨0,(⟨#[103]⟩ : ByteArray),(⟨#[112,49]⟩ : ByteArray),(⟨#[88]⟩ : ByteArray)⟩ : S51),(⟨0,(⟨#[103]⟩ : ByteArray),(⟨#[112,51]⟩ : ByteArray),(⟨#[89]⟩ : ByteArray)⟩ : S51),(⟨2,(⟨#[103]⟩ : ByteArray),(⟨#[]⟩ : ByteArray),(⟨#[]⟩ : ByteArray)⟩ : S51),(⟨2,(⟨#[104]⟩ : ByteArray),(⟨#[]⟩ : ByteArray),(⟨#[]⟩ : ByteArray)⟩ : S51)] : List (S51))) (inner:=[.int .i64 0,.string (⟨#[103]⟩ : ByteArray),.string (⟨#[112,49]⟩ : ByteArray),.string (⟨#[88]⟩ : ByteArray),.int .i64 0,.string (⟨#[104]⟩ : ByteArray),.string (⟨#[112,50]⟩ : ByteArray),.string (⟨#[88]⟩ : ByteArray),.int .i64 1,.string (⟨#[103]⟩ : ByteArray),.string (⟨#[]⟩ : ByteArray),.string (⟨#[]⟩ : ByteArray),.int .i64 0,.string (⟨#[103]⟩ : ByteArray),.string (⟨#[112,49]⟩ : ByteArray),.string (⟨#[88]⟩ : ByteArray),.int .i64 0,.string (⟨#[103]⟩ : ByteArray),.string (⟨#[112,51]⟩ : ByteArray),.string (⟨#[89]⟩ : ByteArray),.int .i64 2,.string (⟨#[103]⟩ : ByteArray),.string (⟨#[]⟩ : ByteArray),.string (⟨#[]⟩ : ByteArray),.int .i64 2,.string (⟨#[104]⟩ : ByteArray),.string (⟨#[]⟩ : ByteArray),.string (⟨#[]⟩ : ByteArray)]) (ok:=fun _ => True) (okp:=fun _ => True) ?hr ?hp (fun _ hk => hk) trivial (Below.refl _ _) (Nat.le_refl _) (by simp) ?_;(case hd => rfl);(case hg => rfl);(case hr => first | (go_simp;done) | (go_simp;rfl));(case hp => exact (Reps.c4 (show Kd.M k51 _ _ _ (⟨0,(⟨#[103]⟩ : ByteArray),(⟨#[112,49]⟩ : ByteArray),(⟨#[88]⟩ : ByteArray)⟩ : S51) [.int .i64 0,.string (⟨#[103]⟩ : ByteArray),.string (⟨#[112,49]⟩ : ByteArray),.string (⟨#[88]⟩ : ByteArray)] from (k51_mkM _ _ _ (⟨0,(⟨#[103]⟩ : ByteArray),(⟨#[112,49]⟩ : ByteArray),(⟨#[88]⟩ : ByteArray)⟩ : S51) )) (Reps.c4 (show Kd.M k51 _ _ _ (⟨0,(⟨#[104]⟩ : ByteArray),(⟨#[112,50]⟩ : ByteArray),(⟨#[88]⟩ : ByteArray)⟩ : S51) [.int .i64 0,.string (⟨#[104]⟩ : ByteArray),.string (⟨#[112,50]⟩ : ByteArray),.string (⟨#[88]⟩ : ByteArray)] from (k51_mkM _ _ _ (⟨0,(⟨#[104]⟩ : ByteArray),(⟨#[112,50]⟩ : ByteArray),(⟨#[88]⟩ : ByteArray)⟩ : S51) )) (Reps.c4 (show Kd.M k51 _ _ _ (⟨1,(⟨#[103]⟩ : ByteArray),(⟨#[]⟩ : ByteArray),(⟨#[]⟩ : ByteArray)⟩ : S51) [.int .i64 1,.string (⟨#[103]⟩ : ByteArray),.string (⟨#[]⟩ : ByteArray),.string (⟨#[]⟩ : ByteArray)] from (k51_mkM _ _ _ (⟨1,(⟨#[103]⟩ : ByteArray),(⟨#[]⟩ : ByteArray),(⟨#[]⟩ : ByteArray)⟩ : S51) )) (Reps.c4 (show Kd.M k51 _ _ _ (⟨0,(⟨#[103]⟩ : ByteArray),(⟨#[112,49]⟩ : ByteArray),(⟨#[88]⟩ : ByteArray)⟩ : S51) [.int .i64 0,.string (⟨#[103]⟩ : ByteArray),.string (⟨#[112,49]⟩ : ByteArray),.string (⟨#[88]⟩ : ByteArray)] from (k51_mkM _ _ _ (⟨0,(⟨#[103]⟩ : ByteArray),(⟨#[112,49]⟩ : ByteArray),(⟨#[88]⟩ : ByteArray)⟩ : S51) )) (Reps.c4 (show Kd.M k51 _ _ _ (⟨0,(⟨#[103]⟩ : ByteArray),(⟨#[112,51]⟩ : ByteArray),(⟨#[89]⟩ : ByteArray)⟩ : S51) [.int .i64 0,.string (⟨#[103]⟩ : ByteArray),.string (⟨#[112,51]⟩ : ByteArray),.string (⟨#[89]⟩ : ByteArray)] from (k51_mkM _ _ _ (⟨0,(⟨#[103]⟩ : ByteArray),(⟨#[112,51]⟩ : ByteArray),(⟨#[89]⟩ : ByteArray)⟩ : S51) )) (Reps.c4 (show Kd.M k51 _ _ _ (⟨2,(⟨#[103]⟩ : ByteArray),(⟨#[]⟩ : ByteArray),(⟨#[]⟩ : ByteArray)⟩ : S51) [.int .i64 2,.string (⟨#[103]⟩ : ByteArray),.string (⟨#[]⟩ : ByteArray),.string (⟨#[]⟩ : ByteArray)] from (k51_mkM _ _ _ (⟨2,(⟨#[103]⟩ : ByteArray),(⟨#[]⟩ : ByteArray),(⟨#[]⟩ : ByteArray)⟩ : S51) )) (Reps.c4 (show Kd.M k51 _ _ _ (⟨2,(⟨#[104]⟩ : ByteArray),(⟨#[]⟩ : ByteArray),(⟨#[]⟩ : ByteArray)⟩ : S51) [.int .i64 2,.string (⟨#[104]⟩ : ByteArray),.string (⟨#[]⟩ : ByteArray),.string (⟨#[]⟩ : ByteArray)] from (k51_mkM _ _ _ (⟨2,(⟨#[104]⟩ : ByteArray),(⟨#[]⟩ : ByteArray),(⟨#[]⟩ : ByteArray)⟩ : S51) )) (Reps.none _ _)))))))));intro v536 w1 ho2 hb hg_ hnew_;clear hg_ hnew_;(first | rw [← Ny535.out] at ho2 | (simp only [Int.reduceToNat] at ho2;rw [← Ny535.out] at ho2));have n0_:=Aside0.mk (Kd.R_lower ho2 (below_size (by repeat (first | (with_reducible first | exact HB.out | apply below_alloc | apply pw_below_drewN | apply below_drew1) | exact HB.out))));have n1_:=Aside0.mk (below_step (by repeat (first | (with_reducible first | exact HB.out | apply below_alloc | apply pw_below_drewN | apply below_drew1) | exact HB.out)) hb);clear HB;have HO537:=n0_;have HB:=n1_;clear n0_ n1_;clear hb ho2))
 go_ret
 exact ⟨_,by first | rfl | (simp [errW_none,errW_some] <;> rfl) | (simp [*,errW_none,errW_some] <;> rfl),by (with_reducible repeat (first | apply Kd.R_alloc | apply Kd.R_drewN | apply Kd.R_drew));exact HO537.out,by repeat (first | (with_reducible first | exact HB.out | apply below_alloc | apply pw_below_drewN | apply below_drew1) | exact HB.out)⟩
end Go.Proofs.Ytnmmdeonkpfccaa.Pr
set_option linter.unusedVariables false
namespace Go.Proofs.Ytnmmdeonkpfccaa.Rg
open Go Go.RowKit
variable {P : Program}
structure KeepC (C : Nat → Prop) (W W' : World) : Prop where
 size : W.heap.size ≤ W'.heap.size
 same : ∀ i,i < W.heap.size → ¬ C i → W'.heap[i]? = W.heap[i]?
theorem KeepC.refl (C : Nat → Prop) (W : World) : KeepC C W W:=⟨Nat.le_refl _,fun _ _ _ => rfl⟩
theorem KeepC.trans {C : Nat → Prop} {X Y Z : World} (h : KeepC C X Y) (k : KeepC C Y Z) : KeepC C X Z :=
 ⟨Nat.le_trans h.size k.size,fun i hi hc => (k.same i (Nat.lt_of_lt_of_le hi h.size) hc).trans (h.same i hi hc)⟩
theorem KeepC.mono {C D : Nat → Prop} {W W' : World} (h : KeepC C W W') (hs : ∀ i,C i → D i) : KeepC D W W':=⟨h.size,fun i hi hd => h.same i hi fun hc => hd (hs i hc)⟩
theorem KeepC.alloc {C : Nat → Prop} {X Y : World} (h : KeepC C X Y) (o : Obj) : KeepC C X (Y.alloc o) :=
 h.trans ⟨by simp,fun i hi _ => Below.heap_alloc _ _ _ hi⟩
theorem KeepC.drew {C : Nat → Prop} {X Y : World} (h : KeepC C X Y) : KeepC C X Y.drew:=⟨h.size,h.same⟩
theorem KeepC.setCell {C : Nat → Prop} {X Y : World} (h : KeepC C X Y) {p : Addr} (hp : X.heap.size ≤ p.block ∨ C p.block) (u : Value) : KeepC C X (Y.setCell p u) :=
 ⟨by simpa [World.setCell] using h.size,fun i hi hc => (Below.heap_setCell _ _ _ _ (by rintro rfl;rcases hp with h1 | h1;omega;exact hc h1)).trans (h.same i hi hc)⟩
theorem KeepC.grown {C : Nat → Prop} {X Y Z : World} {row : Option Nat} (h : KeepC C X Y) (hg : Y.grownBy Z row) (hr : ∀ k,row = some k → X.heap.size ≤ k ∨ C k) : KeepC C X Z :=
 ⟨Nat.le_trans h.size hg.size,fun i hi hc => (hg.block i (Nat.lt_of_lt_of_le hi h.size) (fun e => by rcases hr i e.symm with h1 | h1;omega;exact hc h1)).trans (h.same i hi hc)⟩
theorem KeepC.of_below {C : Nat → Prop} {X Y Z : World} (h : KeepC C X Y) (hb : Below Y.heap.size Y Z) : KeepC C X Z :=
 ⟨Nat.le_trans h.size hb.size,fun i hi hc => (hb.block i (Nat.lt_of_lt_of_le hi h.size)).trans (h.same i hi hc)⟩
def ReadsTo {β : Type} (B : Nat) (J : β → World → Prop) : Prop:=∀ s W W',J s W → B ≤ W.heap.size → W.heap.size ≤ W'.heap.size → W.os = W'.os → W.tape = W'.tape → W.output = W'.output → (∀ i,i < B → W'.heap[i]? = W.heap[i]?) → J s W'
def SeqB {α : Type} (P : Program) (g : Nat) (lb : Array Value) (encs : α → Array Value) (C : Nat → Prop) (S Pf : List α → Prop) (w0 : World) : Prop :=
 ∀ (n l : Nat) (J : List α → World → Prop) (W : World),Below w0.heap.size w0 W → (∀ i,C i → i < W.heap.size) → ReadsTo W.heap.size J →
  (∀ m pre x W1,J pre W1 → W.heap.size ≤ W1.heap.size → Pf (pre ++ [x]) → YieldAt Fence.wide m P l (encs x) W1 fun e W' => e = .returned (.bool true) ∧ J (pre ++ [x]) W' ∧ KeepC C W1 W') →
  J [] W →
  CallsIn Fence.wide n P g (#[.func (.yield l) #[] #[]] ++ lb) W fun e W' => (∃ v,e = .returned v) ∧ W.heap.size ≤ W'.heap.size ∧ ∃ xs,S xs ∧ J xs W'
theorem YieldAt.inRound {F : Fence} {m : Nat} {l : Nat} {args : Array Value} {W : World} {R : Ending → World → Prop} (l' : Nat) (h : YieldAt F m P l args W R) : YieldAt (F.inRound l') m P l args W R:=h
def postB {β : Type} (C : Nat → Prop) (I : β → World → Prop) (s : β) (W : World) : Exit → Act → World → Prop
 | .normal,_,W' => KeepC C W W' ∧ I s W'
 | _,_,_ => False
theorem rangeB {α : Type} {n : Nat} {g : Operand} {ps : Array Tmp} {assign body : Code} {Q : Exit → Act → World → Prop} {a : Act} {w : World}
  {gf : Nat} {lb : Array Value} (hg : a.eval g = .func (.func gf) #[] lb) (eg : ∀ args w,(callFunc gf args).run P w = .ok (.enter gf args) w)
  {encs : α → Array Value} (C : Nat → Prop) (hC : ∀ i,C i → i < w.heap.size) {S Pf : List α → Prop} {w0 : World} (hb0 : Below w0.heap.size w0 w)
  (hseq : SeqB P gf lb encs (fun i => C i ∨ i = w.heap.size + 1) S Pf w0) (hps : ∀ x,(encs x).size = ps.size)
  (I : List α → World → Prop) (hI : ReadsTo w.heap.size I) (h0 : I [] w)
  (Ax : α → Act → World → Prop) (hAx : ∀ x a' W W',Ax x a' W → W.heap.size = W'.heap.size → W.os = W'.os → W.tape = W'.tape → W.output = W'.output → (∀ i,i ≠ w.heap.size + 1 → W'.heap[i]? = W.heap[i]?) → Ax x a' W')
  (hassign : ∀ (m : Nat) (pre : List α) (x : α) (W : World),I pre W → w.heap.size + 2 ≤ W.heap.size → Pf (pre ++ [x]) →
   assign.wpIn (Fence.wide.inRound (w.heap.size + 1)) m P (Exit.then (fun a' W' => KeepC C W W' ∧ I pre W' ∧ Ax x a' W') (fun _ _ _ => False)) { tmps:=(ps.zip (encs x)).foldl (fun t (p,v) => t.setIfInBounds p v) a.tmps,defers:=[] } W)
  (hbody : ∀ (m : Nat) (pre : List α) (x : α) (a' : Act) (W : World),I pre W → w.heap.size + 2 ≤ W.heap.size → Ax x a' W → Pf (pre ++ [x]) → body.wpIn (Fence.wide.inRound (w.heap.size + 1)) m P (postB C I (pre ++ [x]) W) a' W)
  (hdone : ∀ (xs : List α) (W : World),S xs → I xs W → W.heap[w.heap.size]? = some (.deferred (some [])) → w.heap.size + 2 ≤ W.heap.size → Q .normal { a with defers:={ target:=.collected w.heap.size,args:=#[] } :: a.defers } W) :
  (Code.rangeFunc g ps assign body).wpIn Fence.wide n P Q a w:=by
 refine wpIn_rangeFunc ?_
 intro fn hfn
 obtain ⟨rec,hrec⟩ : ∃ rec : LoopState → Option Code → Loop,rec = fun st pe => { state:=st,pending:=pe,fn,tmps:=a.tmps,params:=ps,assign,body,defers:=w.heap.size }:=⟨_,rfl⟩
 obtain ⟨W1,hW1⟩ : ∃ W1,(w.alloc (.deferred (some []))).alloc (.loop (rec .ready none)) = W1:=⟨_,rfl⟩
 have hsz1 : W1.heap.size = w.heap.size + 2:=by rw [← hW1];simp
 have hL1 : W1.heap[w.heap.size + 1]? = some (.loop (rec .ready none)):=by
  rw [← hW1];have:=World.alloc_heap_new (w.alloc (.deferred (some []))) (.loop (rec .ready none));rwa [World.size_alloc] at this
 have hK1 : W1.heap[w.heap.size]? = some (.deferred (some [])):=by
  rw [← hW1];exact (Below.heap_alloc _ _ _ (by simp)).trans (World.alloc_heap_new w _)
 have hbW : Below w.heap.size w W1:=by rw [← hW1];exact ((Below.refl _ w).alloc (Nat.le_refl _) _).alloc (by simp) _
 have hI1 : I [] W1:=hI [] w W1 h0 (Nat.le_refl _) hbW.size hbW.os.symm hbW.tape.symm hbW.output.symm hbW.block
 have hb1 : Below w0.heap.size w0 W1:=hb0.trans (hbW.mono hb0.size)
 refine ⟨w.heap.size + 1,[{ target:=.collected w.heap.size,args:=#[] }],W1,{ target:=.fn (.func gf) lb,args:=#[.func (.yield (w.heap.size + 1)) #[] #[]] },W1,gf,
  #[.func (.yield (w.heap.size + 1)) #[] #[]] ++ lb,W1,?_,?_,?_,?_,fun h => (by cases h),?_⟩
 ·rw [← hW1,hrec];exact run_enterLoop_outer _ _ _ _ _
 ·simp only [resolve,hg]
  simp [go_sem]
 ·intro f' _;trivial
 ·simp [invoke,go_sem,eg]
 ·refine (hseq (n - 1) (w.heap.size + 1) (fun pre W => I pre W ∧ W.heap[w.heap.size + 1]? = some (.loop (rec .ready none)) ∧ W.heap[w.heap.size]? = some (.deferred (some []))) W1 hb1
   (fun i hi => by rcases hi with h | rfl;have:=hC i h;omega;omega) ?_ ?_ ⟨hI1,hL1,hK1⟩).mono ?_
  ·rintro s W W' ⟨hi,hl,hk⟩ hB hsz ho ht hou hsame
   exact ⟨hI s W W' hi (by omega) hsz ho ht hou (fun i hi' => hsame i (by omega)),(hsame _ (by omega)).trans hl,(hsame _ (by omega)).trans hk⟩
  ·rintro m pre x W ⟨hi,hl,hk⟩ hB hlen
   have hlt : w.heap.size + 1 < W.heap.size:=(Array.getElem?_eq_some_iff.1 hl).1
   have hy:=run_yield (P:=P) (args:=encs x) hl (by rw [hrec];exact hps x)
   rw [hrec] at hy
   refine ⟨fn,_,assign,body,hy,roundIn_of_wpIn hfn (wpIn_mono (hassign m pre x W hi (by omega) hlen) ?_)⟩
   intro e a' W2 hp
   cases e with
   | normal =>
    obtain ⟨hkc2,hi2,hax2⟩:=hp
    have hl2 : W2.heap[w.heap.size + 1]? = some (.loop (rec .ready none)):=(hkc2.same _ (by omega) (fun h => by have:=hC _ h;omega)).trans hl
    have hlt2 : w.heap.size + 1 < W2.heap.size:=(Array.getElem?_eq_some_iff.1 hl2).1
    have hk2 : W2.heap[w.heap.size]? = some (.deferred (some [])):=(hkc2.same _ (by omega) (fun h => by have:=hC _ h;omega)).trans hk
    obtain ⟨W3,hW3⟩ : ∃ W3,W2.putObj (w.heap.size + 1) (.loop { rec .ready none with state:=.busy }) = W3:=⟨_,rfl⟩
    have hsz3 : W2.heap.size = W3.heap.size:=by rw [← hW3];simp
    have hot3 : ∀ i,i ≠ w.heap.size + 1 → W3.heap[i]? = W2.heap[i]?:=fun i hi => by rw [← hW3];exact World.putObj_heap_other hi
    have hl3 : W3.heap[w.heap.size + 1]? = some (.loop { rec .ready none with state:=.busy }):=by rw [← hW3];exact World.putObj_heap_same hlt2
    have hos : W2.os = W3.os ∧ W2.tape = W3.tape ∧ W2.output = W3.output:=by rw [← hW3];exact ⟨rfl,rfl,rfl⟩
    refine ⟨W3,by rw [← hW3];exact run_beginRound hl2 (by rw [hrec]),?_⟩
    have hi3 : I pre W3:=hI _ _ _ hi2 (by omega) (by omega) hos.1 hos.2.1 hos.2.2 (fun i hi => hot3 i (by omega))
    refine wpIn_mono (hbody m pre x a' W3 hi3 (by omega) (hAx _ _ _ _ hax2 hsz3 hos.1 hos.2.1 hos.2.2 hot3) hlen) ?_
    intro e a4 W4 hp4
    cases e with
    | normal =>
     obtain ⟨hkc4,hi4⟩:=hp4
     have hl4 : W4.heap[w.heap.size + 1]? = some (.loop { rec .ready none with state:=.busy }):=(hkc4.same _ (by omega) (fun h => by have:=hC _ h;omega)).trans hl3
     have hlt4 : w.heap.size + 1 < W4.heap.size:=(Array.getElem?_eq_some_iff.1 hl4).1
     have hk4 : W4.heap[w.heap.size]? = some (.deferred (some [])):=(hkc4.same _ (by omega) (fun h => by have:=hC _ h;omega)).trans ((hot3 _ (by omega)).trans hk2)
     refine ⟨_,_,run_endRound none hl4,rfl,⟨hI _ _ _ hi4 (by omega) (by simp) rfl rfl rfl (fun i hi => World.putObj_heap_other (by omega)),?_,(World.putObj_heap_other (by omega)).trans hk4⟩,?_⟩
     ·rw [World.putObj_heap_same hlt4,hrec];rfl
     ·refine ⟨by have:=hkc2.size;have:=hkc4.size;simp;omega,fun i hi hc => ?_⟩
      have hne : i ≠ w.heap.size + 1:=fun e => hc (.inr e)
      have hnC : ¬ C i:=fun h => hc (.inl h)
      rw [World.putObj_heap_other hne,hkc4.same i (by have:=hkc2.size;omega) hnC,hot3 i hne,hkc2.same i hi hnC]
    | ret => exact hp4.elim
    | exit _ => exact hp4.elim
    | goto _ => exact hp4.elim
    | panic _ => exact hp4.elim
    | outgrown => exact hp4.elim
   | ret => exact hp.elim
   | exit _ => exact hp.elim
   | goto _ => exact hp.elim
   | panic _ => exact hp.elim
   | outgrown => exact hp.elim
  ·rintro e W2 ⟨⟨v,rfl⟩,hsz,xs,hS,hi,hl,hk⟩
   have hlt : w.heap.size + 1 < W2.heap.size:=(Array.getElem?_eq_some_iff.1 hl).1
   refine ⟨none,_,by have:=run_endLoop (P:=P) hl (by rw [hrec];simp);rw [hrec] at this;exact this,?_⟩
   exact hdone xs _ hS (hI _ _ _ hi (by omega) (by simp) rfl rfl rfl (fun i hi => World.putObj_heap_other (by omega))) ((World.putObj_heap_other (by omega)).trans hk) (by simp;omega)
def ButOne (b : Nat) (W W' : World) : Prop:=W.heap.size = W'.heap.size ∧ W.os = W'.os ∧ W.tape = W'.tape ∧ W.output = W'.output ∧ ∀ i,i ≠ b → W'.heap[i]? = W.heap[i]?
theorem ButOne.trans {b : Nat} {X Y Z : World} (h : ButOne b X Y) (k : ButOne b Y Z) : ButOne b X Z:=⟨h.1.trans k.1,h.2.1.trans k.2.1,h.2.2.1.trans k.2.2.1,h.2.2.2.1.trans k.2.2.2.1,fun i hi => (k.2.2.2.2 i hi).trans (h.2.2.2.2 i hi)⟩
theorem rangeB2 {α : Type} {n : Nat} {g : Operand} {ps : Array Tmp} {assign body : Code} {Q : Exit → Act → World → Prop} {a : Act} {w : World}
  {gf : Nat} {lb : Array Value} (hg : a.eval g = .func (.func gf) #[] lb) (eg : ∀ args w,(callFunc gf args).run P w = .ok (.enter gf args) w)
  {encs : α → Array Value} (C : Nat → Prop) (hC : ∀ i,C i → i < w.heap.size) {S Pf : List α → Prop}
  (hseq : SeqB P gf lb encs (fun i => C i ∨ i = w.heap.size + 1) S Pf w) (hps : ∀ x,(encs x).size = ps.size)
  (I : List α → World → Prop) (hI : ReadsTo w.heap.size I) (h0 : I [] w)
  (hround : ∀ (m : Nat) (pre : List α) (x : α) (W : World),I pre W → w.heap.size + 2 ≤ W.heap.size → Pf (pre ++ [x]) →
   assign.wpIn (Fence.wide.inRound (w.heap.size + 1)) m P (Exit.then (fun a' W' => KeepC C W W' ∧ I pre W' ∧ ∀ m' pre' W2,ButOne (w.heap.size + 1) W' W2 → I pre' W2 → w.heap.size + 2 ≤ W2.heap.size → Pf (pre' ++ [x]) →
    body.wpIn (Fence.wide.inRound (w.heap.size + 1)) m' P (postB C I (pre' ++ [x]) W2) a' W2) (fun _ _ _ => False)) { tmps:=(ps.zip (encs x)).foldl (fun t (p,v) => t.setIfInBounds p v) a.tmps,defers:=[] } W)
  (hdone : ∀ (xs : List α) (W : World),S xs → I xs W → W.heap[w.heap.size]? = some (.deferred (some [])) → w.heap.size + 2 ≤ W.heap.size → Q .normal { a with defers:={ target:=.collected w.heap.size,args:=#[] } :: a.defers } W) :
  (Code.rangeFunc g ps assign body).wpIn Fence.wide n P Q a w :=
 rangeB hg eg C hC (Below.refl _ w) hseq hps I hI h0 (fun x a' W' => ∀ m' pre' W2,ButOne (w.heap.size + 1) W' W2 → I pre' W2 → w.heap.size + 2 ≤ W2.heap.size → Pf (pre' ++ [x]) →
    body.wpIn (Fence.wide.inRound (w.heap.size + 1)) m' P (postB C I (pre' ++ [x]) W2) a' W2)
  (fun _ _ _ _ h h1 h2 h3 h4 h5 m' pre' W2 hb => h m' pre' W2 (ButOne.trans ⟨h1,h2,h3,h4,h5⟩ hb)) hround
  (fun m pre x a' W hi hs hx hp => hx m pre W ⟨rfl,rfl,rfl,rfl,fun _ _ => rfl⟩ hi hs hp) hdone
theorem below_reads {B B' : Nat} {w W W' : World} (h : Below B w W) (hB : B ≤ B') (hs : W.heap.size ≤ W'.heap.size) (h1 : W.os = W'.os) (h2 : W.tape = W'.tape) (h3 : W.output = W'.output) (h4 : ∀ i,i < B' → W'.heap[i]? = W.heap[i]?) : Below B w W' :=
 ⟨h1.symm.trans h.os,h2.symm.trans h.tape,h3.symm.trans h.output,Nat.le_trans h.size hs,fun i hi => (h4 i (Nat.lt_of_lt_of_le hi hB)).trans (h.block i hi)⟩
def Near (M : Nat) (X Y : World) : Prop:=X.os = Y.os ∧ X.tape = Y.tape ∧ X.output = Y.output ∧ KeepC (fun i => i = M) X Y
theorem Near.refl (M : Nat) (X : World) : Near M X X:=⟨rfl,rfl,rfl,KeepC.refl _ _⟩
theorem Near.alloc {M : Nat} {X Y : World} (h : Near M X Y) (o : Obj) : Near M X (Y.alloc o):=⟨h.1,h.2.1,h.2.2.1,h.2.2.2.alloc o⟩
theorem Near.setCell {M : Nat} {X Y : World} (h : Near M X Y) {p : Addr} (hp : X.heap.size ≤ p.block) (u : Value) : Near M X (Y.setCell p u):=⟨h.1,h.2.1,h.2.2.1,h.2.2.2.setCell (.inl hp) u⟩
theorem Near.grown {M : Nat} {X Y Z : World} (h : Near M X Y) (hg : Y.grownBy Z (some M)) : Near M X Z :=
 ⟨h.1.trans hg.os.symm,h.2.1.trans hg.tape.symm,h.2.2.1.trans hg.output.symm,h.2.2.2.grown hg (fun k e => by cases e;exact .inr rfl)⟩
theorem Near.below {M : Nat} {X Y Z : World} (h : Near M X Y) (hb : Below Y.heap.size Y Z) : Near M X Z:=⟨h.1.trans hb.os.symm,h.2.1.trans hb.tape.symm,h.2.2.1.trans hb.output.symm,h.2.2.2.of_below hb⟩
end Go.Proofs.Ytnmmdeonkpfccaa.Rg
set_option linter.unusedVariables false
namespace Go.Proofs.Ytnmmdeonkpfccaa.Pr
open Go.RowKit Go.Shelf Go.Proofs.YtnmmdeonkpfccaaW.PrintWords Go.Proofs.YtnmmdeonkpfccaaW.PrintLast Go.Proofs.YtnmmdeonkpfccaaW.PrintMore
open Go.Proofs.Ytnmmdeonkpfccaa.Rg
attribute [local go_sem] Oper.semAt_some
def evV (x : S51) : Value:=.agg #[.int .i64 x.f0,.string x.f1,.string x.f2,.string x.f3]
def encIE (p : Int × S51) : Array Value:=#[.int .i64 p.1,evV p.2]
def backK (l : List S51) (k : Nat) : List (Int × S51):=(List.range k).map fun (j : Nat) => ((l.length : Int) - 1 - j,l.getD (l.length - 1 - j) z51)
theorem backK_succ (l : List S51) (k : Nat) : backK l (k + 1) = backK l k ++ [((l.length : Int) - 1 - k,l.getD (l.length - 1 - k) z51)]:=by simp [backK,List.range_succ]
theorem backK_len (l : List S51) (k : Nat) : (backK l k).length = k:=by simp [backK]
set_option maxRecDepth 100000 in
set_option maxHeartbeats 1000000 in
theorem back_seq (C : Nat → Prop) (A0 : Option Addr) (c0 B : Nat) (l : List S51) (w0 : World) (hl : l.length ≤ 4096) (hr0 : Kd.C k51 w0 A0 l.length l) (hA : ∀ ad,A0 = some ad → l ≠ [] → ¬ C ad.block) (hB : w0.cell? ⟨B,0,none⟩ = some (.slice A0 l.length c0)) (hCB : ¬ C B) :
  SeqB Try.prog 84 #[.pointer (some ⟨B,0,none⟩)] encIE C (fun xs => xs = backK l l.length) (fun ys => ∃ k,k ≤ l.length ∧ ys = backK l k) w0:=by
 intro n lp J W hW hC hJ hY h0
 show CallsIn Fence.wide n Try.prog 84 #[.func (.yield lp) #[] #[],.pointer (some ⟨B,0,none⟩)] W _
 have hsame0 : ∀ i,i < w0.heap.size → ¬ C i → W.heap[i]? = w0.heap[i]?:=fun i hi _ => hW.block i hi
 have hcB : W.cell? ⟨B,0,none⟩ = some (.slice A0 l.length c0):=(World.cell?_of_block (hW.block B (World.block_lt_of_cell? w0 _ hB))).trans hB
 have HR0:=Aside0.mk hr0
 have HB0:=Aside0.mk hB
 have hnb : (l.length : Int) ≤ 4096:=by omega
 clear hr0 hB
 refine callsIn_of_wp Try.func84 rfl trivial ?_ rfl
 simp only [Try.ntmps84,List.size_toArray,List.length_cons,List.length_nil,Nat.reduceAdd,Nat.reduceSub,Array.replicate_succ,Array.replicate_zero,List.push_toArray,List.append_toArray,List.nil_append,List.cons_append]
 gi_wp2
 gi_loopw [3] (fun v wr => ∃ (k : Nat) (z : Int),k ≤ l.length ∧ v = .int .i64 z ∧ Aside0 (z = (l.length : Int) - 1 - k) ∧ Aside0 (J (backK l k) wr) ∧ Aside0 (∀ i,i < w0.heap.size → ¬ C i → wr.heap[i]? = w0.heap[i]?) ∧ W.heap.size ≤ wr.heap.size) (fun v _ => (intOf v + 1).toNat)
 case atStart => exact ⟨0,(l.length : Int) - 1,by omega,rfl,⟨by omega⟩,⟨h0⟩,⟨hsame0⟩,Nat.le_refl _⟩
 case round =>
  obtain ⟨k,z,hk,rfl,HZ,HJ,HS,hsz⟩:=hrel
  by_cases hlt : k < l.length
  ·have hz0 : 0 ≤ z:=by rw [HZ.out];omega
   have hz1 : z < (l.length : Int):=by rw [HZ.out];omega
   obtain ⟨x,hx⟩ : ∃ x,x = l.getD (l.length - 1 - k) z51:=⟨_,rfl⟩
   have hrd : rd_T51 l z = x:=by unfold rd_T51;rw [hx,HZ.out];congr 1;omega
   obtain ⟨ad,e1,hx0,hx1,hx2,hx3⟩:=at_T51 HR0.out z hz0 hz1
   cases e1
   rw [hrd] at hx0 hx1 hx2 hx3
   have hnc : ¬ C (ad.add (z.toNat * 4)).block:=by
    have:=hA ad rfl (fun e => by rw [e] at hlt;simp at hlt)
    unfold Addr.add
    split
    ·exact this
    ·exact this
   have hst : ∀ {a : Addr} {v : Value},a.block = (ad.add (z.toNat * 4)).block → w0.cell? a = some v → wr.cell? a = some v:=fun {a v} hb h => by
    have hlt':=World.block_lt_of_cell? w0 _ h
    obtain ⟨b,o,s⟩:=a
    exact (World.cell?_of_block (HS.out b hlt' (by rw [show b = _ from hb];exact hnc))).trans h
   replace hx0:=hst (by rfl) hx0
   replace hx1:=hst (by rfl) hx1
   replace hx2:=hst (by rfl) hx2
   replace hx3:=hst (by rfl) hx3
   have hcb : wr.cell? ⟨B,0,none⟩ = some (.slice (some ad) l.length c0):=(World.cell?_of_block (HS.out B (World.block_lt_of_cell? w0 _ HB0.out) hCB)).trans HB0.out
   obtain ⟨fn,tmps,assign,body,hy,hR⟩:=hY (n - 1) (backK l k) (z,x) wr HJ.out hsz ⟨k + 1,hlt,by rw [backK_succ,← HZ.out,hx]⟩
   simp only [encIE,evV] at hy
   have HX:=Aside0.mk hx
   clear hx hrd hst hcB hsame0 hY
   gi_wp2
   refine ⟨fun h => absurd h (by decide),hR.mono ?_⟩
   rintro e W3 ⟨rfl,hJ3,hk3⟩
   have HJ3:=Aside0.mk hJ3
   have HK3:=Aside0.mk hk3
   clear hJ3 hk3 hx0 hx1 hx2 hx3 hcb
   gi_wp2
   go_roundw
   case rel => exact ⟨k + 1,z - 1,by omega,rfl,⟨by rw [HZ.out];omega⟩,⟨by rw [backK_succ,← HZ.out,← HX.out];exact HJ3.out⟩,⟨fun i hi hc => (HK3.out.same i (by have:=hW.size;omega) hc).trans (HS.out i hi hc)⟩,Nat.le_trans hsz HK3.out.size⟩
   case measure => simp [intOf];omega
  ·obtain rfl : k = l.length:=by omega
   have hz1 : z = -1:=by rw [HZ.out];omega
   subst hz1
   gi_wp2
   go_end0
   exact ⟨⟨_,rfl⟩,hsz,_,rfl,HJ.out⟩
set_option maxHeartbeats 1000000 in
theorem back_in (n : Nat) (A0 : Option Addr) (c0 k : Nat) (w : World) :
  CallsIn Fence.wide n Try.prog 65 #[.slice A0 k c0] w fun e w' => e = .returned (.func (.func 84) #[] #[.pointer (some ⟨w.heap.size,0,none⟩)]) ∧ w' = w.alloc (.cells #[.slice A0 k c0] 22):=by
 refine callsIn_of_wp Try.func65 rfl trivial ?_ rfl
 simp only [Try.ntmps65,List.size_toArray,List.length_cons,List.length_nil,Nat.reduceAdd,Nat.reduceSub,Array.replicate_succ,Array.replicate_zero,List.push_toArray,List.append_toArray,List.nil_append,List.cons_append]
 gi_wp2
 go_ret
 exact ⟨rfl,rfl⟩
theorem states_in (n : Nat) (A0 : Option Addr) (c0 k : Nat) (w : World) :
  CallsIn Fence.wide n Try.prog 38 #[.slice A0 k c0] w fun e w' => e = .returned (.func (.func 64) #[] #[.pointer (some ⟨w.heap.size,0,none⟩)]) ∧ w' = w.alloc (.cells #[.slice A0 k c0] 22):=by
 refine callsIn_of_wp Try.func38 rfl trivial ?_ rfl
 simp only [Try.ntmps38,List.size_toArray,List.length_cons,List.length_nil,Nat.reduceAdd,Nat.reduceSub,Array.replicate_succ,Array.replicate_zero,List.push_toArray,List.append_toArray,List.nil_append,List.cons_append]
 gi_wp2
 go_ret
 exact ⟨rfl,rfl⟩
end Go.Proofs.Ytnmmdeonkpfccaa.Pr
set_option linter.unusedVariables false
namespace Go.Proofs.Ytnmmdeonkpfccaa.Rg
open Go Go.RowKit Go.Maps
def RV (v : Value) : Option (DataW Value × List MemPlace):=some (.held v,[])
def heldOr (o : Option Value) (z : DataW Value) : DataW Value:=match o with | some v => .held v | none => z
def Tells (D : DataW Value) (f : List UInt8 → Option Value) : Prop:=∀ q,Maps.has D (.string q) = (f q).isSome ∧ ∀ z,D.atKey (.string q) z = heldOr (f q) z
def MapF (P : Program) (k : TypeId) (w : World) (b n : Nat) (f : List UInt8 → Option Value) : Prop:=∃ D : DataW Value,w.ownsMap P k RV b n D ∧ Tells D f
variable {P : Program} {k : TypeId} {w : World} {b n : Nat} {f : List UInt8 → Option Value}
theorem MapF.made (w : World) (P : Program) (k : TypeId) : MapF P k (w.alloc (.map #[] 0)) w.heap.size 0 (fun _ => none) :=
 ⟨_,World.ownsMap_made w P k RV,fun _ => ⟨rfl,fun _ => rfl⟩⟩
theorem MapF.kept {w' : World} {row : Option Nat} (h : MapF P k w b n f) (hg : w.grownBy w' row) (hne : some b ≠ row) : MapF P k w' b n f :=
 let ⟨D,h1,h2⟩:=h;⟨D,h1.kept hg hne,h2⟩
theorem MapF.alloc (h : MapF P k w b n f) (o : Obj) : MapF P k (w.alloc o) b n f:=let ⟨D,h1,h2⟩:=h;⟨D,h1.alloc o,h2⟩
theorem MapF.lt (h : MapF P k w b n f) : b < w.heap.size:=let ⟨_,h1,_⟩:=h;h1.lt
theorem MapF.mono (h : MapF P k w b n f) {n' : Nat} (hn : n ≤ n') : MapF P k w b n' f:=let ⟨D,h1,h2⟩:=h;⟨D,h1.mono hn,h2⟩
theorem MapF.same {w' : World} (h : MapF P k w b n f) (he : w'.heap[b]? = w.heap[b]?) : MapF P k w' b n f:=by
 obtain ⟨D,⟨es,clock,hb,F,hs,hD⟩,h2⟩:=h
 exact ⟨D,⟨es,clock,he.trans hb,F,hs,hD⟩,h2⟩
theorem MapF.setCell (h : MapF P k w b n f) {a : Addr} (ha : b ≠ a.block) (u : Value) : MapF P k (w.setCell a u) b n f:=let ⟨D,h1,h2⟩:=h;⟨D,h1.setCell ha u,h2⟩
theorem MapF.isMap (h : MapF P k w b n f) : ∃ es clock,w.heap[b]? = some (.map es clock):=let ⟨_,⟨es,c,hb,_⟩,_⟩:=h;⟨es,c,hb⟩
def putF (f : List UInt8 → Option Value) (q : List UInt8) (v : Value) : List UInt8 → Option Value:=fun r => if r = q then some v else f r
theorem keyS (q : List UInt8) : WideAt.IsKeyLit (.string q):=by unfold WideAt.IsKeyLit;exact trivial
theorem Tells.put {D : DataW Value} (hD : Maps.IsMap D) (h : Tells D f) (q : List UInt8) (v : Value) : Tells (D.put (.string q) (.held v)) (putF f q v):=fun r => by
 unfold putF
 by_cases e : r = q
 ·subst e
  rw [if_pos rfl]
  exact ⟨has_put_same hD (keyS r) _,fun z => atKey_put_same hD (keyS r) _ z⟩
 ·have hne : Lit.string r ≠ Lit.string q:=fun h => e (by cases h;rfl)
  rw [if_neg e]
  exact ⟨(has_put_other hne _).trans (h r).1,fun z => (atKey_put_other hne _ z).trans ((h r).2 z)⟩
theorem MapF.look (h : MapF P k w b n f) {t e : TypeId} (hk : P.underlying k = some .string) (ht : P.underlying t = some (.map k e)) {z : Value} (hz : (zeroValue e).run P w = .ok z w) {s : ByteArray} (hs : s.size ≤ maxLen) (c : Bool) :
  (Instr.lookup t (.map (some b)) (.string s) c).run P w = .ok (if c then .tuple #[(f s.data.toList).getD z,.bool (f s.data.toList).isSome] else (f s.data.toList).getD z) w:=by
 obtain ⟨D,h1,h2⟩:=h
 have hv : ∀ {v : Value} {ps : List MemPlace},RV v = some (D.atKey (.string s.data.toList) (.held z),ps) → v = (f s.data.toList).getD z:=by
  intro v ps hh
  have hh:=congrArg Prod.fst (Option.some.inj hh)
  rw [(h2 _).2] at hh
  cases hf : f s.data.toList with
  | none => rw [hf] at hh;cases hh;rfl
  | some u => rw [hf] at hh;cases hh;rfl
 cases c
 ·obtain ⟨v,ps,hrun,hr⟩:=h1.lookup (string_keyed hk) ht hz (zd:=.held z) (zp:=[]) rfl (WideMaps.keyOf_string_mk hk hs)
  rw [hrun,hv hr];rfl
 ·obtain ⟨v,ps,hrun,hr⟩:=h1.look_ok (string_keyed hk) ht hz (zd:=.held z) (zp:=[]) rfl (WideMaps.keyOf_string_mk hk hs)
  rw [hrun,hv hr,(h2 _).1];rfl
theorem MapF.store (h : MapF P k w b n f) {t e : TypeId} (hk : P.underlying k = some .string) (ht : P.underlying t = some (.map k e)) (hn : n < maxLen) {s : ByteArray} (hs : s.size ≤ maxLen) (v : Value) :
  ∃ w',(Instr.mapUpdate t (.map (some b)) (.string s) v).run P w = .ok () w' ∧ MapF P k w' b (n + 1) (putF f s.data.toList v) ∧ w.grownBy w' (some b):=by
 obtain ⟨D,h1,h2⟩:=h
 obtain ⟨w',r1,r2,r3⟩:=h1.update (string_keyed hk) ht hn (WideMaps.keyOf_string_mk hk hs) (val:=v) (d:=.held v) (ps:=[]) rfl
 exact ⟨w',r1,⟨_,r2,h2.put h1.isMap _ _⟩,r3⟩
section
variable {ops : Array Oper} {rest : List Oper} {o : Oper} {a : Act} {Q : Exit → Act → World → Prop}
theorem wpList_lookF (hg : o.guard = none) (m x : Operand) (t : TypeId) (hop : o.op = Op.lookup t m x false) (k e : TypeId) (hk : P.underlying k = some .string) (ht : P.underlying t = some (.map k e)) {z : Value} (hz : (zeroValue e).run P w = .ok z w)
  (hm : a.eval m = .map (some b)) (hown : MapF P k w b n f) (s : ByteArray) (hx : a.eval x = .string s) (hs : s.size ≤ maxLen) (v : Value) (hv : (f s.data.toList).getD z = v)
  (hK : wpList P ops Q rest (a.put o.dst v) w) : wpList P ops Q (o :: rest) a w:=by
 refine wpList_plain hg fun K' hK' => ?_
 have hrun:=hown.look hk ht hz hs false
 rw [if_neg (by decide),hv] at hrun
 unfold Oper.wp
 simp [execOp,hop,hm,hx,hrun,Result.andThen]
 exact hK' _ _ hK
theorem wpList_lookF_ok (hg : o.guard = none) (m x : Operand) (t : TypeId) (hop : o.op = Op.lookup t m x true) (k e : TypeId) (hk : P.underlying k = some .string) (ht : P.underlying t = some (.map k e)) {z : Value} (hz : (zeroValue e).run P w = .ok z w)
  (hm : a.eval m = .map (some b)) (hown : MapF P k w b n f) (s : ByteArray) (hx : a.eval x = .string s) (hs : s.size ≤ maxLen) (v : Value) (hv : (f s.data.toList).getD z = v) (c : Bool) (hc : (f s.data.toList).isSome = c)
  (hK : wpList P ops Q rest (a.put o.dst (.tuple #[v,.bool c])) w) : wpList P ops Q (o :: rest) a w:=by
 refine wpList_plain hg fun K' hK' => ?_
 have hrun:=hown.look hk ht hz hs true
 rw [if_pos rfl,hv,hc] at hrun
 unfold Oper.wp
 simp [execOp,hop,hm,hx,hrun,Result.andThen]
 exact hK' _ _ hK
theorem wpList_storeF (hg : o.guard = none) (m x v : Operand) (t : TypeId) (hop : o.op = Op.mapUpdate t m x v) (k e : TypeId) (hk : P.underlying k = some .string) (ht : P.underlying t = some (.map k e))
  (hm : a.eval m = .map (some b)) (hown : MapF P k w b n f) (hn : n < maxLen) (s : ByteArray) (hx : a.eval x = .string s) (hs : s.size ≤ maxLen) (u : Value) (hv : a.eval v = u)
  (hK : ∀ w',MapF P k w' b (n + 1) (putF f s.data.toList u) → w.grownBy w' (some b) → wpList P ops Q rest (a.put o.dst undef) w') : wpList P ops Q (o :: rest) a w:=by
 refine wpList_plain hg fun K' hK' => ?_
 obtain ⟨w',hrun,r1,r2⟩:=hown.store hk ht hn hs u
 unfold Oper.wp
 simp [execOp,hop,hm,hx,hv,hrun,Result.andThen]
 exact hK' _ _ (hK w' r1 r2)
variable {F : Fence} {nF : Nat}
theorem wpListIn_lookF_ok (hg : o.guard = none) (m x : Operand) (t : TypeId) (hop : o.op = Op.lookup t m x true) (k e : TypeId) (hk : P.underlying k = some .string) (ht : P.underlying t = some (.map k e)) {z : Value} (hz : (zeroValue e).run P w = .ok z w)
  (hm : a.eval m = .map (some b)) (hown : MapF P k w b n f) (s : ByteArray) (hx : a.eval x = .string s) (hs : s.size ≤ maxLen) (v : Value) (hv : (f s.data.toList).getD z = v) (c : Bool) (hc : (f s.data.toList).isSome = c)
  (hK : wpListIn F nF P ops Q rest (a.put o.dst (.tuple #[v,.bool c])) w) : wpListIn F nF P ops Q (o :: rest) a w:=by
 refine wpListIn_plain hg fun K' hK' => ?_
 have hrun:=hown.look hk ht hz hs true
 rw [if_pos rfl,hv,hc] at hrun
 unfold Oper.wpIn
 refine ⟨by simp [Oper.about,hop],?_⟩
 rw [Oper.semAt_plain F _ _ (by rw [hop];intro c hc';cases hc')]
 simp [execOp,hop,hm,hx,hrun,Result.andThen]
 exact hK' _ _ hK
theorem wpListIn_storeF (hg : o.guard = none) (m x v : Operand) (t : TypeId) (hop : o.op = Op.mapUpdate t m x v) (k e : TypeId) (hk : P.underlying k = some .string) (ht : P.underlying t = some (.map k e))
  (hm : a.eval m = .map (some b)) (hown : MapF P k w b n f) (hn : n < maxLen) (s : ByteArray) (hx : a.eval x = .string s) (hs : s.size ≤ maxLen) (u : Value) (hv : a.eval v = u)
  (hK : ∀ w',MapF P k w' b (n + 1) (putF f s.data.toList u) → w.grownBy w' (some b) → wpListIn F nF P ops Q rest (a.put o.dst undef) w') : wpListIn F nF P ops Q (o :: rest) a w:=by
 refine wpListIn_plain hg fun K' hK' => ?_
 obtain ⟨w',hrun,r1,r2⟩:=hown.store hk ht hn hs u
 unfold Oper.wpIn
 refine ⟨by simp [Oper.about,hop],?_⟩
 rw [Oper.semAt_plain F _ _ (by rw [hop];intro c hc';cases hc')]
 simp [execOp,hop,hm,hx,hv,hrun,Result.andThen]
 exact hK' _ _ (hK w' r1 r2)
end
theorem MapF.keys (h : MapF P k w b n f) (hk : P.underlying k = some .string) : ∃ D : DataW Value,w.ownsMap P k RV b n D ∧ Tells D f ∧ (strKeys D).Nodup ∧ (∀ q,q ∈ strKeys D ↔ (f q).isSome = true) ∧ Maps.size D ≤ n:=by
 obtain ⟨D,h1,h2⟩:=h
 refine ⟨D,h1,h2,?_,?_,h1.size_le⟩
 ·obtain ⟨es,hD,hpw,_⟩:=h1.entries (string_keyed hk)
  obtain ⟨es',hD',hko⟩:=h1.keysOf
  obtain rfl : es = es':=by rw [hD] at hD';simpa using hD'
  subst hD
  show (es.map fun p => strOf p.1).Nodup
  refine List.pairwise_map.2 (hpw.imp_of_mem fun {p q} hp' hq' hne e => hne ?_)
  obtain ⟨v,hv⟩:=hko p hp'
  obtain ⟨u,hu⟩:=hko q hq'
  obtain ⟨x,_,hx,_⟩:=Maps.keyOf_str hk hv
  obtain ⟨y,_,hy,_⟩:=Maps.keyOf_str hk hu
  rw [hx,hy] at e ⊢
  exact congrArg _ e
 ·intro q
  rw [← (h2 q).1]
  obtain ⟨es,hD,hko⟩:=h1.keysOf
  subst hD
  rw [has_eq,List.any_eq_true]
  show q ∈ es.map (fun p => strOf p.1) ↔ _
  rw [List.mem_map]
  constructor
  ·rintro ⟨p,hp,rfl⟩
   obtain ⟨v,hv⟩:=hko p hp
   obtain ⟨x,_,hx,_⟩:=Maps.keyOf_str hk hv
   exact ⟨p,hp,by rw [hx];exact WideAt.sameKey_self (keyS _)⟩
  ·rintro ⟨p,hp,hs⟩
   have:=(WideAt.sameKey_iff (b:=.string q) (keyS q)).1 hs
   exact ⟨p,hp,by rw [this];rfl⟩
def dropF (f : List UInt8 → Option Value) (p : List UInt8 → Bool) : List UInt8 → Option Value:=fun q => if p q then none else f q
theorem Tells.drop {D : DataW Value} (hD : Maps.IsMap D) (h : Tells D f) (pd : Lit → DataW Value → Bool) (p : List UInt8 → Bool) (hp : ∀ q d,pd (.string q) d = p q) : Tells (Lib.deleteFuncD pd D) (dropF f p):=fun q => by
 obtain ⟨es,rfl⟩:=hD
 have hs : ∀ x : Lit × DataW Value,x.1.sameKey (.string q) = true → x.1 = .string q:=fun x hx => (WideAt.sameKey_iff (b:=.string q) (keyS q)).1 hx
 unfold dropF
 cases hq : p q with
 | true =>
  rw [if_pos rfl]
  have hnone : has (Lib.deleteFuncD pd (.map es)) (.string q) = false:=by
   show (es.filter fun p => !pd p.1 p.2).any (fun p => p.1.sameKey (.string q)) = false
   rw [List.any_eq_false]
   intro x hx hxs
   have h2:=(List.mem_filter.1 hx).2
   rw [hs x hxs,hp,hq] at h2
   cases h2
  exact ⟨hnone,fun z => atKey_of_not_has hnone z⟩
 | false =>
  rw [if_neg (by decide)]
  have hkeep : ∀ x : Lit × DataW Value,x.1.sameKey (.string q) = true → (!pd x.1 x.2) = true:=fun x hx => by rw [hs x hx,hp,hq];rfl
  refine ⟨Eq.trans ?_ (h q).1,fun z => Eq.trans ?_ ((h q).2 z)⟩
  ·exact any_filter_keep hkeep es
  ·have:=find_filter_keep (f:=fun p : Lit × DataW Value => p.1.sameKey (.string q)) (g:=fun p => !pd p.1 p.2) hkeep es
   simp only [DataW.atKey,Lib.deleteFuncD]
   rw [this]
end Go.Proofs.Ytnmmdeonkpfccaa.Rg
set_option linter.unusedVariables false
namespace Go.Proofs.Ytnmmdeonkpfccaa.Rg
open Go Go.RowKit
theorem wpListIn_yield {F : Fence} {nF : Nat} {P : Program} {ops : Array Oper} {rest : List Oper} {o : Oper} {a : Act} {Q : Exit → Act → World → Prop} {w : World} (hg : o.guard = none) (hF : ∀ f,F.fn f) (hd : F.depth.isSome = true → 1 ≤ nF)
  (x y z : Operand) (ts : Array TypeId) (hop : o.op = Op.call { callee:=.value x,args:=#[y,z],argTypes:=ts }) (lp : Nat) (hx : a.eval x = .func (.yield lp) #[] #[]) (u v : Value) (hy : a.eval y = u) (hz : a.eval z = v)
  {R : Ending → World → Prop} (hY : YieldAt F (nF - 1) P lp #[u,v] w R) (hK : ∀ e w',R e w' → ∃ b,e = .returned b ∧ wpListIn F nF P ops Q rest (a.put o.dst b) w') : wpListIn F nF P ops Q (o :: rest) a w:=by
 refine wpListIn_plain hg fun K' hK' => ?_
 obtain ⟨fn,tmps,assign,body,hrun,hR⟩:=hY
 unfold Oper.wpIn
 refine ⟨fun f _ => hF f,?_⟩
 rw [Oper.semAt_plain F _ _ (by rw [hop];intro c hc';cases hc')]
 have he : (execOp a.eval o).run P w = .ok (.round lp fn tmps assign body) w:=by
  simp [execOp,hop,resolve,invoke,hx,hy,hz,hrun,Deferred.ofValue]
 rw [he,Oper.uponIn_round]
 refine ⟨hd,hR.mono ?_⟩
 intro e w' hr
 obtain ⟨b,rfl,hk⟩:=hK e w' hr
 exact hK' _ _ hk
theorem gate_callv {F : Fence} {nF : Nat} {P : Program} {ops : Array Oper} {rest : List Oper} {o : Oper} {a : Act} {Q : Exit → Act → World → Prop} {w : World} {x y z : Operand} {ts : Array TypeId}
  (_ : o.op = Op.call { callee:=Callee.value x,args:=#[y,z],argTypes:=ts }) (h : wpListIn F nF P ops Q (o :: rest) a w) : wpListIn F nF P ops Q (o :: rest) a w:=h
end Go.Proofs.Ytnmmdeonkpfccaa.Rg
set_option linter.unusedVariables false
namespace Go.Proofs.Ytnmmdeonkpfccaa.Pr
open Go.RowKit Go.Shelf Go.Proofs.YtnmmdeonkpfccaaW.PrintWords Go.Proofs.YtnmmdeonkpfccaaW.PrintLast Go.Proofs.YtnmmdeonkpfccaaW.PrintMore
open Go.Proofs.Ytnmmdeonkpfccaa.Rg
attribute [local go_sem] Oper.semAt_some
def lastA (l : List S51) : Nat → List (List UInt8 × Int × Int)
 | 0 => []
 | k + 1 => if (l.getD (l.length - 1 - k) z51).f0 = 1 then ((l.getD (l.length - 1 - k) z51).f1.data.toList,(l.length : Int) - 1 - k,2) :: lastA l k
  else if (l.getD (l.length - 1 - k) z51).f0 = 2 then ((l.getD (l.length - 1 - k) z51).f1.data.toList,(l.length : Int) - 1 - k,3) :: lastA l k else lastA l k
def chkA (l : List S51) (k : Nat) : Int × Int:=if (l.getD (l.length - 1 - k) z51).f0 = 0 then ((lastA l k).lookup (l.getD (l.length - 1 - k) z51).f1.data.toList).getD (-1,1) else (-1,0)
def statK (l : List S51) (k : Nat) : List (Int × Int × Int):=(List.range k).map fun (j : Nat) => ((l.length : Int) - 1 - j,chkA l j)
theorem statK_succ (l : List S51) (k : Nat) : statK l (k + 1) = statK l k ++ [((l.length : Int) - 1 - k,chkA l k)]:=by simp [statK,List.range_succ]
def pairV (p : Int × Int) : Value:=.agg #[.int .i64 p.1,.int .i64 p.2]
def encS (p : Int × Int × Int) : Array Value:=#[.int .i64 p.1,pairV p.2]
def fLast (A : List (List UInt8 × Int × Int)) : List UInt8 → Option Value:=fun q => (A.lookup q).map pairV
theorem fLast_put (A : List (List UInt8 × Int × Int)) (q : List UInt8) (p : Int × Int) : putF (fLast A) q (pairV p) = fLast ((q,p) :: A):=by
 funext r
 unfold putF fLast
 rw [List.lookup_cons]
 by_cases h : r = q
 ·rw [if_pos h,h];simp
 ·rw [if_neg h]
  have : (r == q) = false:=beq_eq_false_iff_ne.mpr h
  rw [this]
theorem backK_inj {l : List S51} {j k : Nat} (h : backK l j = backK l k) : j = k:=by have:=congrArg List.length h;rwa [backK_len,backK_len] at this
set_option maxRecDepth 100000 in
set_option maxHeartbeats 1000000 in
theorem states_seq (C : Nat → Prop) (A0 : Option Addr) (c0 B : Nat) (l : List S51) (w0 : World) (hl : l.length ≤ 4096) (hg : ∀ x ∈ l,x.f1.size ≤ 24) (hr0 : Kd.C k51 w0 A0 l.length l) (hA : ∀ ad,A0 = some ad → l ≠ [] → ¬ C ad.block) (hAl : ∀ ad,A0 = some ad → l ≠ [] → ad.block < w0.heap.size) (hB : w0.cell? ⟨B,0,none⟩ = some (.slice A0 l.length c0)) (hCB : ¬ C B) :
  SeqB Try.prog 64 #[.pointer (some ⟨B,0,none⟩)] encS C (fun xs => xs = statK l l.length) (fun ys => ∃ k,k ≤ l.length ∧ ys = statK l k) w0:=by
 intro n lp J W hW hC hJ hY h0
 show CallsIn Fence.wide n Try.prog 64 #[.func (.yield lp) #[] #[],.pointer (some ⟨B,0,none⟩)] W _
 have hBl:=World.block_lt_of_cell? w0 _ hB
 have hcB : W.cell? ⟨B,0,none⟩ = some (.slice A0 l.length c0):=(World.cell?_of_block (hW.block B hBl)).trans hB
 have hBW : B < W.heap.size:=Nat.lt_of_lt_of_le hBl hW.size
 have HR0:=Aside0.mk hr0
 have hmm:=@run_makeMap Try.prog
 have hb3 : Below W.heap.size W (((W.alloc (Obj.cells #[Value.func (.yield lp) #[] #[]] 91)).alloc (Obj.map #[] 0)).alloc (Obj.cells #[Value.map (some (W.heap.size + 1))] 92)):=(((Below.refl _ W).alloc (Nat.le_refl _) _).alloc (by simp) _).alloc (by simp;omega) _
 have hc3 : (((W.alloc (Obj.cells #[Value.func (.yield lp) #[] #[]] 91)).alloc (Obj.map #[] 0)).alloc (Obj.cells #[Value.map (some (W.heap.size + 1))] 92)).cell? ⟨B,0,none⟩ = some (.slice A0 l.length c0):=(hb3.cell (p:=⟨B,0,none⟩) hBW).trans hcB
 have hf65 : Fence.wide.fn 65:=trivial
 clear hr0 hB
 refine callsIn_of_wp_marks Try.func64 rfl trivial ?_ rfl
 simp only [Try.ntmps64,List.size_toArray,List.length_cons,List.length_nil,Nat.reduceAdd,Nat.reduceSub,Array.replicate_succ,Array.replicate_zero,List.push_toArray,List.append_toArray,List.nil_append,List.cons_append]
 gi_wp2_with (refine ⟨fun h => absurd h (by decide),?_⟩;gi_at_call 65;refine (back_in _ A0 c0 l.length _).mono ?_;rintro e w' ⟨rfl,rfl⟩)
 obtain ⟨Wl,hWl⟩ : ∃ Wl,((((W.alloc (Obj.cells #[Value.func (.yield lp) #[] #[]] 91)).alloc (Obj.map #[] 0)).alloc (Obj.cells #[Value.map (some (W.heap.size + 1))] 92)).alloc (Obj.cells #[Value.slice A0 l.length c0] 22)) = Wl:=⟨_,rfl⟩
 have hs4 : Wl.heap.size = W.heap.size + 4:=by rw [← hWl];simp
 have hb4 : Below W.heap.size W Wl:=by rw [← hWl];exact hb3.alloc (by simp;omega) _
 have hy0 : Wl.heap[W.heap.size]? = some (.cells #[.func (.yield lp) #[] #[]] 91):=by rw [← hWl];exact blk_alloc (blk_alloc (blk_alloc (blk_new _ _) _) _) _
 have hm0 : MapF Try.prog 9 Wl (W.heap.size + 1) 0 (fLast []):=by
  rw [← hWl]
  have:=((MapF.made (W.alloc (Obj.cells #[Value.func (.yield lp) #[] #[]] 91)) Try.prog 9).alloc (Obj.cells #[Value.map (some (W.heap.size + 1))] 92)).alloc (Obj.cells #[Value.slice A0 l.length c0] 22)
  rwa [World.size_alloc] at this
 have hp0 : Wl.heap[W.heap.size + 2]? = some (.cells #[.map (some (W.heap.size + 1))] 92):=by
  rw [← hWl]
  have:=blk_alloc (blk_new ((W.alloc (Obj.cells #[Value.func (.yield lp) #[] #[]] 91)).alloc (Obj.map #[] 0)) (Obj.cells #[Value.map (some (W.heap.size + 1))] 92)) (Obj.cells #[Value.slice A0 l.length c0] 22)
  rwa [World.size_alloc,World.size_alloc] at this
 have hq0 : Wl.cell? ⟨W.heap.size + 3,0,none⟩ = some (.slice A0 l.length c0):=by
  rw [← hWl]
  have:=blk_new (((W.alloc (Obj.cells #[Value.func (.yield lp) #[] #[]] 91)).alloc (Obj.map #[] 0)).alloc (Obj.cells #[Value.map (some (W.heap.size + 1))] 92)) (Obj.cells #[Value.slice A0 l.length c0] 22)
  rw [World.size_alloc,World.size_alloc,World.size_alloc] at this
  exact (blk_cell this 0).trans rfl
 rw [hWl]
 clear hWl hb3 hc3 hf65
 have hb0l : Below w0.heap.size w0 Wl:=hW.trans (hb4.mono hW.size)
 refine rangeB (gf:=84) (lb:=#[.pointer (some ⟨W.heap.size + 3,0,none⟩)]) rfl (enters_of Try.func84 (by kernel_rfl) rfl) (fun i => C i ∨ i = W.heap.size + 1) (fun i hi => by rcases hi with h | rfl;have:=hC i h;omega;omega) (Below.refl _ Wl)
  (back_seq _ A0 c0 (W.heap.size + 3) l Wl hl (Kd.C_below HR0.out hb0l) (fun ad ha hne h => by
   have h1:=hA ad ha hne;have h2:=hAl ad ha hne;have h3:=hW.size
   rcases h with (h | h) | h;exact h1 h;omega;omega) hq0 (fun h => by rcases h with (h | h) | h;have:=hC _ h;omega;omega;omega)) (fun _ => rfl)
  (fun pre Wr => ∃ k,k ≤ l.length ∧ pre = backK l k ∧ J (statK l k) Wr ∧ MapF Try.prog 9 Wr (W.heap.size + 1) k (fLast (lastA l k)) ∧ Wr.heap[W.heap.size]? = some (.cells #[.func (.yield lp) #[] #[]] 91) ∧ Wr.heap[W.heap.size + 2]? = some (.cells #[.map (some (W.heap.size + 1))] 92))
  ?hI ⟨0,by omega,rfl,hJ _ _ _ h0 (Nat.le_refl _) hb4.size hb4.os.symm hb4.tape.symm hb4.output.symm hb4.block,hm0,hy0,hp0⟩
  (fun x a' Wr => ∃ gx,Wl.heap.size + 2 ≤ gx ∧ Wr.heap[gx]? = some (.cells #[.int .i64 x.2.f0,.string x.2.f1,.string x.2.f2,.string x.2.f3] 51) ∧ a' = { tmps:=#[.func (.yield lp) #[] #[],.pointer (some ⟨B,0,none⟩),.pointer (some ⟨W.heap.size,0,none⟩),.pointer (some ⟨W.heap.size + 1 + 1,0,none⟩),.int .i64 x.1,.pointer (some ⟨gx,0,none⟩),undef,undef,undef,.map (some (W.heap.size + 1)),.slice A0 l.length c0,.func (.func 84) #[] #[.pointer (some ⟨W.heap.size + 1 + 1 + 1,0,none⟩)],.int .i64 x.1,evV x.2,undef,undef,undef,undef,undef,undef,undef,undef,undef,undef,undef,undef,undef,undef,undef,undef,undef,undef,undef,undef,undef,undef,undef,undef,undef,undef,undef,undef,undef,undef,undef,undef,undef,undef],defers:=[] })
  ?hAx ?assign ?body ?done
 case hI =>
  rintro pre Wr Wr' ⟨k,hk,hp,hj,hm,hy,hpp⟩ hsz hsz2 ho ht hou hs
  exact ⟨k,hk,hp,hJ _ _ _ hj (by omega) hsz2 ho ht hou (fun i hi => hs i (by omega)),hm.same (hs _ (by omega)),(hs _ (by omega)).trans hy,(hs _ (by omega)).trans hpp⟩
 case hAx =>
  rintro x a' Wr Wr' ⟨gx,h1,h2,h3⟩ hsz ho ht hou hs
  exact ⟨gx,h1,(hs _ (by omega)).trans h2,h3⟩
 case assign =>
  rintro m pre ⟨i,x⟩ Wr ⟨k,hk,hp,hj,hm,hy,hpp⟩ hsz hpf
  have HJ:=Aside0.mk hj
  have HM:=Aside0.mk hm
  have HY:=Aside0.mk hy
  have HP:=Aside0.mk hpp
  have HPR:=Aside0.mk hp
  have HJR:=Aside0.mk hJ
  clear hj hm hy hpp hp hpf hb4 hy0 hm0 hp0 hq0 hb0l hW hY hJ hC h0
  simp only [encIE,evV]
  gi_wp2
  exact ⟨(KeepC.refl _ _).alloc _,⟨k,hk,HPR.out,HJR.out _ _ _ HJ.out (by omega) (by simp) rfl rfl rfl (fun j hj => Below.heap_alloc _ _ _ (by omega)),HM.out.alloc _,blk_alloc HY.out _,blk_alloc HP.out _⟩,Wr.heap.size,by omega,blk_new _ _,rfl⟩
 case body =>
  rintro m pre ⟨i,x⟩ a' Wr ⟨k,hk,hp,hj,hm,hy,hpp⟩ hsz ⟨gx,hgx,hbx,rfl⟩ ⟨k',hk',hpk⟩
  have hkk : k' = k + 1:=by
   have:=congrArg List.length hpk
   rw [hp,List.length_append,backK_len,backK_len] at this
   simpa using this.symm
  subst hkk
  rw [hp,backK_succ] at hpk
  have hix:=List.append_cancel_left hpk
  simp only [List.cons.injEq,Prod.mk.injEq,and_true] at hix
  obtain ⟨hi,hx⟩:=hix
  have hxm : x.f1.size ≤ 24:=by
   refine hg x ?_
   rw [hx,List.getD_eq_getElem?_getD,List.getElem?_eq_getElem (by omega)]
   exact List.getElem_mem _
  have hxm2 : x.f1.size ≤ maxLen:=by unfold maxLen;omega
  have hlx:=(Array.getElem?_eq_some_iff.1 hbx).1
  have hch : chkA l k = if x.f0 = 0 then ((lastA l k).lookup x.f1.data.toList).getD (-1,1) else (-1,0):=by unfold chkA;rw [← hx]
  have hla : lastA l (k + 1) = if x.f0 = 1 then (x.f1.data.toList,i,2) :: lastA l k else if x.f0 = 2 then (x.f1.data.toList,i,3) :: lastA l k else lastA l k:=by rw [hi,hx];rfl
  have hst : statK l (k + 1) = statK l k ++ [(i,chkA l k)]:=by rw [statK_succ,hi]
  have HCH:=Aside0.mk hch
  have HLA:=Aside0.mk hla
  have HST:=Aside0.mk hst
  have HJ:=Aside0.mk hj
  have HM:=Aside0.mk hm
  have HY:=Aside0.mk hy
  have HP:=Aside0.mk hpp
  have HPR:=Aside0.mk (show pre ++ [(i,x)] = backK l (k + 1) from by rw [backK_succ,hp,hi,hx])
  have HJR:=Aside0.mk hJ
  have HYR:=Aside0.mk hY
  have HX:=Aside0.mk hbx
  have HCC:=Aside0.mk hC
  have hcy : Wr.cell? ⟨W.heap.size,0,none⟩ = some (.func (.yield lp) #[] #[]):=(blk_cell hy 0).trans rfl
  have hcp : Wr.cell? ⟨W.heap.size + 1 + 1,0,none⟩ = some (.map (some (W.heap.size + 1))):=(blk_cell hpp 0).trans rfl
  have hcx0 : Wr.cell? ⟨gx,0,none⟩ = some (.int .i64 x.f0):=(blk_cell hbx 0).trans rfl
  have hcx1 : Wr.cell? ⟨gx,1,none⟩ = some (.string x.f1):=(blk_cell hbx 1).trans rfl
  have hsz' : W.heap.size + 6 ≤ Wr.heap.size:=by omega
  have hBA : ∀ o : Obj,Below Wr.heap.size Wr (Wr.alloc o):=fun o => (Below.refl _ Wr).alloc (Nat.le_refl _) o
  have hcy1:=fun o : Obj => ((hBA o).cell (p:=⟨W.heap.size,0,none⟩) (show W.heap.size < _ by omega)).trans hcy
  have hcp1:=fun o : Obj => ((hBA o).cell (p:=⟨W.heap.size + 1 + 1,0,none⟩) (show W.heap.size + 1 + 1 < _ by omega)).trans hcp
  have hcx01:=fun o : Obj => ((hBA o).cell (p:=⟨gx,0,none⟩) hlx).trans hcx0
  have hcx11:=fun o : Obj => ((hBA o).cell (p:=⟨gx,1,none⟩) hlx).trans hcx1
  clear hch hla hst hj hm hy hpp hi hp hpk hJ hY hbx hC h0 hb4 hy0 hm0 hp0 hq0 hb0l hW hx hg
  have HYZ:=Aside0.mk (show ∀ (at_ st : Int),chkA l k = (at_,st) → ∀ r m W1,J (statK l k) W1 → W.heap.size ≤ W1.heap.size → YieldAt (Fence.wide.inRound r) m Try.prog lp #[.int .i64 i,.agg #[.int .i64 at_,.int .i64 st]] W1 (fun e W' => e = .returned (.bool true) ∧ J (statK l (k + 1)) W' ∧ KeepC C W1 W') from by
   intro at_ st hc r m W1 hj hs
   have:=HYR.out m (statK l k) (i,chkA l k) W1 hj hs ⟨k + 1,hk',HST.out.symm⟩
   rw [← HST.out,hc] at this
   exact this)
  clear HYR
  have HJN:=Aside0.mk (show ∀ Wc,Near (W.heap.size + 1) Wr Wc → J (statK l k) Wc from fun Wc hn => HJR.out _ _ _ HJ.out (by omega) hn.2.2.2.size hn.1 hn.2.1 hn.2.2.1 (fun j hj => hn.2.2.2.same j (by omega) (by omega)))
  have HSN:=Aside0.mk (show ∀ Wc,Near (W.heap.size + 1) Wr Wc → W.heap.size ≤ Wc.heap.size from fun Wc hn => Nat.le_trans (by omega) hn.2.2.2.size)
  have FIN:=Aside0.mk (show ∀ Wc w',Near (W.heap.size + 1) Wr Wc → MapF Try.prog 9 Wc (W.heap.size + 1) (k + 1) (fLast (lastA l (k + 1))) → J (statK l (k + 1)) w' → KeepC C Wc w' →
    KeepC (fun i => C i ∨ i = W.heap.size + 1) Wr w' ∧ (∃ k,k ≤ l.length ∧ pre ++ [(i,x)] = backK l k ∧ J (statK l k) w' ∧ MapF Try.prog 9 w' (W.heap.size + 1) k (fLast (lastA l k)) ∧ w'.heap[W.heap.size]? = some (.cells #[.func (.yield lp) #[] #[]] 91) ∧ w'.heap[W.heap.size + 2]? = some (.cells #[.map (some (W.heap.size + 1))] 92)) from by
   intro Wc w' hn hm hj hk
   have hc : ∀ i,W.heap.size ≤ i → ¬ C i:=fun i hi hh => by have:=HCC.out i hh;omega
   have hz:=hn.2.2.2.size
   refine ⟨(hn.2.2.2.mono fun i h => .inr h).trans (hk.mono fun i h => .inl h),k + 1,hk',HPR.out,hj,hm.same (hk.same _ (by omega) (hc _ (by omega))),?_,?_⟩
   ·exact (hk.same _ (by omega) (hc _ (by omega))).trans ((hn.2.2.2.same _ (by omega) (by omega)).trans HY.out)
   ·exact (hk.same _ (by omega) (hc _ (by omega))).trans ((hn.2.2.2.same _ (by omega) (by omega)).trans HP.out))
  by_cases k1 : x.f0 = 1
  ·rw [k1] at hcx0 hcx01
   have HYO:=Aside0.mk (HYZ.out (-1) 0 (HCH.out.trans (if_neg (by omega))))
   have HL2:=Aside0.mk (HLA.out.trans (if_pos k1))
   clear k1
   gi_wp2_with (first | ((gi_at_mapUpdate;refine wpListIn_storeF rfl _ _ _ 92 rfl 9 65 Try.underlying9 Try.underlying92 rfl (HM.out.alloc _) (by unfold maxLen;omega) x.f1 rfl hxm2 (pairV (i,2)) rfl ?_;intro w8 hs8 hg8;have HS8:=Aside0.mk hs8;have HN8:=Aside0.mk (((Near.refl (W.heap.size + 1) Wr).alloc _).grown hg8);have hcy8 : w8.cell? ⟨W.heap.size,0,none⟩ = some (.func (.yield lp) #[] #[]):=(World.cell?_of_block (HN8.out.2.2.2.same W.heap.size (by omega) (by omega))).trans hcy;have hcc8:=blk_grown (blk_new Wr (.cells #[.int .i64 (-1),.int .i64 0] 65)) hg8 (by simp;omega);have hcc80 : w8.cell? ⟨Wr.heap.size,0,none⟩ = some (.int .i64 (-1)):=(blk_cell hcc8 0).trans rfl;have hcc81 : w8.cell? ⟨Wr.heap.size,1,none⟩ = some (.int .i64 0):=(blk_cell hcc8 1).trans rfl;clear hs8 hg8 hcc8)) | ((with_reducible refine gate_callv (x:=.tmp 43) (y:=.tmp 44) (z:=.tmp 45) rfl ?_);refine wpListIn_yield rfl (fun _ => trivial) (fun h => absurd (show false = true from h) (by decide)) (.tmp 43) (.tmp 44) (.tmp 45) _ rfl lp rfl _ _ rfl rfl (HYO.out _ _ _ (HJN.out _ HN8.out) (HSN.out _ HN8.out)) ?_;rintro e w9 ⟨rfl,hj9,hk9⟩;refine ⟨_,rfl,?_⟩;have HJ9:=Aside0.mk hj9;have HK9:=Aside0.mk hk9;clear hj9 hk9))
   exact FIN.out _ _ HN8.out (by rw [HL2.out,← fLast_put];exact HS8.out) HJ9.out HK9.out
  ·have k1b : (x.f0 == 1) = false:=beq_eq_false_iff_ne.mpr k1
   by_cases k2 : x.f0 = 2
   ·rw [k2] at hcx0 hcx01
    have HYO:=Aside0.mk (HYZ.out (-1) 0 (HCH.out.trans (if_neg (by omega))))
    have HL2:=Aside0.mk (HLA.out.trans ((if_neg k1).trans (if_pos k2)))
    clear k1 k1b k2
    gi_wp2_with (first | ((gi_at_mapUpdate;refine wpListIn_storeF rfl _ _ _ 92 rfl 9 65 Try.underlying9 Try.underlying92 rfl (HM.out.alloc _) (by unfold maxLen;omega) x.f1 rfl hxm2 (pairV (i,3)) rfl ?_;intro w8 hs8 hg8;have HS8:=Aside0.mk hs8;have HN8:=Aside0.mk (((Near.refl (W.heap.size + 1) Wr).alloc _).grown hg8);have hcy8 : w8.cell? ⟨W.heap.size,0,none⟩ = some (.func (.yield lp) #[] #[]):=(World.cell?_of_block (HN8.out.2.2.2.same W.heap.size (by omega) (by omega))).trans hcy;have hcc8:=blk_grown (blk_new Wr (.cells #[.int .i64 (-1),.int .i64 0] 65)) hg8 (by simp;omega);have hcc80 : w8.cell? ⟨Wr.heap.size,0,none⟩ = some (.int .i64 (-1)):=(blk_cell hcc8 0).trans rfl;have hcc81 : w8.cell? ⟨Wr.heap.size,1,none⟩ = some (.int .i64 0):=(blk_cell hcc8 1).trans rfl;clear hs8 hg8 hcc8)) | ((with_reducible refine gate_callv (x:=.tmp 43) (y:=.tmp 44) (z:=.tmp 45) rfl ?_);refine wpListIn_yield rfl (fun _ => trivial) (fun h => absurd (show false = true from h) (by decide)) (.tmp 43) (.tmp 44) (.tmp 45) _ rfl lp rfl _ _ rfl rfl (HYO.out _ _ _ (HJN.out _ HN8.out) (HSN.out _ HN8.out)) ?_;rintro e w9 ⟨rfl,hj9,hk9⟩;refine ⟨_,rfl,?_⟩;have HJ9:=Aside0.mk hj9;have HK9:=Aside0.mk hk9;clear hj9 hk9))
    exact FIN.out _ _ HN8.out (by rw [HL2.out,← fLast_put];exact HS8.out) HJ9.out HK9.out
   ·have k2b : (x.f0 == 2) = false:=beq_eq_false_iff_ne.mpr k2
    have HL2:=Aside0.mk (HLA.out.trans ((if_neg k1).trans (if_neg k2)))
    by_cases k0 : x.f0 = 0
    ·rw [k0] at hcx0 hcx01
     obtain ⟨lk,hlk⟩ : ∃ lk,lk = (lastA l k).lookup x.f1.data.toList:=⟨_,rfl⟩
     have HC0:=Aside0.mk (show chkA l k = lk.getD (-1,1) from by rw [HCH.out,if_pos k0,hlk])
     have hcy2:=fun o o' : Obj => (((hBA o).alloc (by simp) o').cell (p:=⟨W.heap.size,0,none⟩) (show W.heap.size < _ by omega)).trans hcy
     cases lk with
     | none =>
      have HV:=Aside0.mk (show (fLast (lastA l k) x.f1.data.toList).getD (.agg #[.int .i64 0,.int .i64 0]) = .agg #[.int .i64 0,.int .i64 0] from by unfold fLast;rw [← hlk];rfl)
      have HC:=Aside0.mk (show (fLast (lastA l k) x.f1.data.toList).isSome = false from by unfold fLast;rw [← hlk];rfl)
      have HYO:=Aside0.mk (HYZ.out (-1) 1 HC0.out)
      clear k0 k1 k2 hlk
      gi_wp2_with (first | (gi_at_lookup;refine wpListIn_lookF_ok rfl _ _ 92 rfl 9 65 Try.underlying9 Try.underlying92 (Try.zeroValue65 _) rfl (HM.out.alloc _) x.f1 rfl hxm2 _ HV.out _ HC.out ?_) | ((with_reducible refine gate_callv (x:=.tmp 43) (y:=.tmp 44) (z:=.tmp 45) rfl ?_);refine wpListIn_yield rfl (fun _ => trivial) (fun h => absurd (show false = true from h) (by decide)) (.tmp 43) (.tmp 44) (.tmp 45) _ rfl lp rfl _ _ rfl rfl (HYO.out _ _ _ (HJN.out _ (((Near.refl _ _).alloc _).alloc _)) (HSN.out _ (((Near.refl _ _).alloc _).alloc _))) ?_;rintro e w9 ⟨rfl,hj9,hk9⟩;refine ⟨_,rfl,?_⟩;have HJ9:=Aside0.mk hj9;have HK9:=Aside0.mk hk9;clear hj9 hk9))
      exact FIN.out _ _ (((Near.refl _ _).alloc _).alloc _) (by rw [HL2.out];exact ((HM.out.alloc _).alloc _).mono (Nat.le_succ _)) HJ9.out HK9.out
     | some p =>
      obtain ⟨pa,ps⟩:=p
      have HV:=Aside0.mk (show (fLast (lastA l k) x.f1.data.toList).getD (.agg #[.int .i64 0,.int .i64 0]) = .agg #[.int .i64 pa,.int .i64 ps] from by unfold fLast;rw [← hlk];rfl)
      have HC:=Aside0.mk (show (fLast (lastA l k) x.f1.data.toList).isSome = true from by unfold fLast;rw [← hlk];rfl)
      have HYO:=Aside0.mk (HYZ.out pa ps HC0.out)
      clear k0 k1 k2 hlk
      gi_wp2_with (first | (gi_at_lookup;refine wpListIn_lookF_ok rfl _ _ 92 rfl 9 65 Try.underlying9 Try.underlying92 (Try.zeroValue65 _) rfl (HM.out.alloc _) x.f1 rfl hxm2 _ HV.out _ HC.out ?_) | ((with_reducible refine gate_callv (x:=.tmp 43) (y:=.tmp 44) (z:=.tmp 45) rfl ?_);refine wpListIn_yield rfl (fun _ => trivial) (fun h => absurd (show false = true from h) (by decide)) (.tmp 43) (.tmp 44) (.tmp 45) _ rfl lp rfl _ _ rfl rfl (HYO.out _ _ _ (HJN.out _ (((Near.refl _ _).alloc _).alloc _)) (HSN.out _ (((Near.refl _ _).alloc _).alloc _))) ?_;rintro e w9 ⟨rfl,hj9,hk9⟩;refine ⟨_,rfl,?_⟩;have HJ9:=Aside0.mk hj9;have HK9:=Aside0.mk hk9;clear hj9 hk9))
      exact FIN.out _ _ (((Near.refl _ _).alloc _).alloc _) (by rw [HL2.out];exact ((HM.out.alloc _).alloc _).mono (Nat.le_succ _)) HJ9.out HK9.out
    ·have k0b : (x.f0 == 0) = false:=beq_eq_false_iff_ne.mpr k0
     have HYO:=Aside0.mk (HYZ.out (-1) 0 (HCH.out.trans (if_neg k0)))
     clear k0 k1 k2
     gi_wp2_with ((with_reducible refine gate_callv (x:=.tmp 43) (y:=.tmp 44) (z:=.tmp 45) rfl ?_);refine wpListIn_yield rfl (fun _ => trivial) (fun h => absurd (show false = true from h) (by decide)) (.tmp 43) (.tmp 44) (.tmp 45) _ rfl lp rfl _ _ rfl rfl (HYO.out _ _ _ (HJN.out _ ((Near.refl _ _).alloc _)) (HSN.out _ ((Near.refl _ _).alloc _))) ?_;rintro e w9 ⟨rfl,hj9,hk9⟩;refine ⟨_,rfl,?_⟩;have HJ9:=Aside0.mk hj9;have HK9:=Aside0.mk hk9;clear hj9 hk9)
     exact FIN.out _ _ ((Near.refl _ _).alloc _) (by rw [HL2.out];exact (HM.out.alloc _).mono (Nat.le_succ _)) HJ9.out HK9.out
 case done =>
  rintro xs W' rfl ⟨k,hk,hp,hj,_,_,_⟩ hK hsz
  obtain rfl:=backK_inj hp
  gi_wp2
  rw [hs4] at hK
  have hD:=(Array.getElem?_eq_some_iff.1 hK).1
  refine ⟨by simp,.inl ⟨_,_,rfl,run_takeDeferred hK,?_⟩⟩
  exact ⟨_,results_none rfl _ _ _,⟨_,rfl⟩,by simp;omega,hJ _ _ _ hj (by omega) (by simp) rfl rfl rfl (fun i hi => World.putObj_heap_other (by omega))⟩
end Go.Proofs.Ytnmmdeonkpfccaa.Pr
namespace Go.Proofs.Ytnmmdeonkpfccaa.Pr
open Go.RowKit Go.Proofs.YtnmmdeonkpfccaaW.PrintWords Go.Proofs.YtnmmdeonkpfccaaW.PrintLast Go.Proofs.YtnmmdeonkpfccaaW.PrintMore
attribute [local go_sem] max2_int min2_int max_two min_two max_three min_three max_four min_four
set_option linter.unusedVariables false
set_option linter.unusedSimpArgs false
def dimension_letter.f (a0 : Int) : Option (Bool):=if a0 ≥ 65 then (if a0 ≤ 90 then (some true) else (if a0 ≥ 97 then (some (decide (a0 ≤ 122))) else (some false))) else (if a0 ≥ 97 then (some (decide (a0 ≤ 122))) else (some false))
set_option maxHeartbeats 8000000 in
set_option maxRecDepth 100000 in
theorem dimension_letter.calls (a0 : Int) (r : Bool) (w : World) (h : dimension_letter.f a0 = some r) :
  Calls Try.prog 70 #[.int .u8 a0] w fun e w' => e = .returned (.bool r) ∧ Drawn0 w w':=by
 have H : (if a0 ≥ 65 then (if a0 ≤ 90 then (some true) else (if a0 ≥ 97 then (some (decide (a0 ≤ 122))) else (some false))) else (if a0 ≥ 97 then (some (decide (a0 ≤ 122))) else (some false))) = some r:=h
 clear h
 by_cases c2 : a0 ≥ 65
 ·rw [if_pos c2] at H
  have c2b0 : decide (65 ≤ a0) = true:=decide_eq_true c2
  clear c2
  by_cases c3 : a0 ≤ 90
  ·rw [if_pos c3] at H
   have c3b0 : decide (a0 ≤ 90) = true:=decide_eq_true c3
   clear c3
   obtain rfl:=Option.some.inj H
   go_enter Try.func70,Try.ntmps70
   go_wp2
   go_ret
   exact ⟨by first | rfl | (simp;done) | (simp [*];done),by repeat (first | exact Drawn0.refl _ | apply Drawn0.step)⟩
  ·rw [if_neg c3] at H
   have c3b0 : decide (a0 ≤ 90) = false:=decide_eq_false c3
   clear c3
   by_cases c4 : a0 ≥ 97
   ·rw [if_pos c4] at H
    have c4b0 : decide (97 ≤ a0) = true:=decide_eq_true c4
    clear c4
    obtain rfl:=Option.some.inj H
    go_enter Try.func70,Try.ntmps70
    go_wp2
    go_ret
    exact ⟨by first | rfl | (simp;done) | (simp [*];done),by repeat (first | exact Drawn0.refl _ | apply Drawn0.step)⟩
   ·rw [if_neg c4] at H
    have c4b0 : decide (97 ≤ a0) = false:=decide_eq_false c4
    clear c4
    obtain rfl:=Option.some.inj H
    go_enter Try.func70,Try.ntmps70
    go_wp2
    go_ret
    exact ⟨by first | rfl | (simp;done) | (simp [*];done),by repeat (first | exact Drawn0.refl _ | apply Drawn0.step)⟩
 ·rw [if_neg c2] at H
  have c2b0 : decide (65 ≤ a0) = false:=decide_eq_false c2
  clear c2
  by_cases c5 : a0 ≥ 97
  ·rw [if_pos c5] at H
   have c5b0 : decide (97 ≤ a0) = true:=decide_eq_true c5
   clear c5
   obtain rfl:=Option.some.inj H
   go_enter Try.func70,Try.ntmps70
   go_wp2
   go_ret
   exact ⟨by first | rfl | (simp;done) | (simp [*];done),by repeat (first | exact Drawn0.refl _ | apply Drawn0.step)⟩
  ·rw [if_neg c5] at H
   have c5b0 : decide (97 ≤ a0) = false:=decide_eq_false c5
   clear c5
   obtain rfl:=Option.some.inj H
   go_enter Try.func70,Try.ntmps70
   go_wp2
   go_ret
   exact ⟨by first | rfl | (simp;done) | (simp [*];done),by repeat (first | exact Drawn0.refl _ | apply Drawn0.step)⟩
end Go.Proofs.Ytnmmdeonkpfccaa.Pr
