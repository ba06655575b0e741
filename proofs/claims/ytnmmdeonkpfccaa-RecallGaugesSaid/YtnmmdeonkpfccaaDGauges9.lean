/- A part of the statement's proof. -/
import Derived.Test.YtnmmdeonkpfccaaDGauges2
import Derived.Test.YtnmmdeonkpfccaaDGauges7
import Derived.Test.YtnmmdeonkpfccaaDGauges8
namespace Go.Proofs.Ytnmmdeonkpfccaa.Pr
open Go.RowKit Go.Proofs.YtnmmdeonkpfccaaW.PrintWords Go.Proofs.YtnmmdeonkpfccaaW.PrintLast Go.Proofs.YtnmmdeonkpfccaaW.PrintMore
attribute [local go_sem] max2_int min2_int max_two min_two max_three min_three max_four min_four
set_option linter.unusedVariables false
set_option linter.unusedSimpArgs false
mutual
def metrolabref53_Check.l0 : Nat → List (S67) → Int → Option (Int)
 | 0,_,_ => none
 | k + 1,x0,x3 => if x3 < (x0.length : Int) then (if 0 ≤ x3 then ((metrolabref53_form.f k ((rd_T67 x0 x3).f0) ((rd_T67 x0 x3).f1) ((rd_T67 x0 x3).f2) ((rd_T67 x0 x3).f3)).bind fun t126 => (if t126 = 0 then (if ((rd_T67 x0 x3).f0) = 0 then (if x3 ≤ (x0.length : Int) then ((metrolabref53_Withdrawn.f k (x0.take (x3 : Int).toNat) ((rd_T67 x0 x3).f2)).bind fun t131 => (metrolabref53_Check.j1 k x0 x3 t131 ((rd_T67 x0 x3).f0) ((rd_T67 x0 x3).f1) ((rd_T67 x0 x3).f2) ((rd_T67 x0 x3).f3))) else (none)) else (metrolabref53_Check.j1 k x0 x3 false ((rd_T67 x0 x3).f0) ((rd_T67 x0 x3).f1) ((rd_T67 x0 x3).f2) ((rd_T67 x0 x3).f3))) else (some t126))) else (none)) else (some 0)
def metrolabref53_Check.j1 : Nat → List (S67) → Int → Bool → Int → ByteArray → ByteArray → ByteArray → Option (Int)
 | 0,_,_,_,_,_,_,_ => none
 | k + 1,x0,x3,x35,x126000,x126001,x126002,x126003 => if x35 = true then (some 14) else (metrolabref53_Check.l1 k x0 x3 0 x126000 x126001 x126002 x126003)
def metrolabref53_Check.l1 : Nat → List (S67) → Int → Int → Int → ByteArray → ByteArray → ByteArray → Option (Int)
 | 0,_,_,_,_,_,_,_ => none
 | k + 1,x0,x3,x6,x126000,x126001,x126002,x126003 => if x6 < x3 then (if x126000 = 0 then (if 0 ≤ x6 then (if x6 < (x0.length : Int) then (if ((rd_T67 x0 x6).f0) = 0 then (if ((rd_T67 x0 x6).f2).toList = x126002.toList then (if ((rd_T67 x0 x6).f3).toList = x126003.toList then (metrolabref53_Check.l1 k x0 x3 (wrap64 (x6 + 1)) x126000 x126001 x126002 x126003) else (some 16)) else (metrolabref53_Check.l1 k x0 x3 (wrap64 (x6 + 1)) x126000 x126001 x126002 x126003)) else (metrolabref53_Check.l1 k x0 x3 (wrap64 (x6 + 1)) x126000 x126001 x126002 x126003)) else (none)) else (none)) else (metrolabref53_Check.l1 k x0 x3 (wrap64 (x6 + 1)) x126000 x126001 x126002 x126003)) else (if x126000 = 3 then (if 0 ≤ x3 then (if x3 ≤ (x0.length : Int) then ((metrolabref53_Measured.f k (x0.take (x3 : Int).toNat) x126002).bind fun t139 => (metrolabref53_Check.j3 k x0 x3 (!t139) x126000 x126001 x126002 x126003)) else (none)) else (none)) else (metrolabref53_Check.j3 k x0 x3 false x126000 x126001 x126002 x126003))
def metrolabref53_Check.j3 : Nat → List (S67) → Int → Bool → Int → ByteArray → ByteArray → ByteArray → Option (Int)
 | 0,_,_,_,_,_,_,_ => none
 | k + 1,x0,x3,x83,x126000,x126001,x126002,x126003 => if x83 = true then (some 6) else (if x126000 = 3 then (if 0 ≤ x3 then (if x3 ≤ (x0.length : Int) then ((metrolabref53_Withdrawn.f k (x0.take (x3 : Int).toNat) x126002).bind fun t144 => (if t144 = true then (some 14) else (metrolabref53_Check.l0 k x0 (wrap64 (x3 + 1))))) else (none)) else (none)) else (metrolabref53_Check.l0 k x0 (wrap64 (x3 + 1))))
end
def metrolabref53_Check.f (k : Nat) (l0 : List (S67)) : Option (Int):=if (l0.length : Int) > 4096 then (some 5) else (metrolabref53_Check.l0 k l0 0)
set_option maxHeartbeats 8000000 in
set_option maxRecDepth 100000 in
theorem metrolabref53_Check.calls (k : Nat) (A0 : Option Addr) (c0 : Nat) (l0 : List (S67)) (r : Int) (w : World) (hr0 : Kd.C k67 w A0 l0.length l0) (hc0 : l0.length ≤ c0) (h : metrolabref53_Check.f k l0 = some r) :
  Calls Try.prog 17 #[.slice A0 l0.length c0] w fun e w' => e = .returned (.int .i64 r) ∧ Below w.heap.size w w':=by
 have hu67:=Try.underlying67
 have HR0:=Aside0.mk hr0
 have HC0:=Aside0.mk hc0
 clear hr0 hc0
 have HB:=Aside0.mk (Below.refl w.heap.size w)
 have H : (if (l0.length : Int) > 4096 then (some 5) else (metrolabref53_Check.l0 k l0 0)) = some r:=h
 clear h
 by_cases c2 : (l0.length : Int) > 4096
 ·rw [if_pos c2] at H
  have c2b0 : decide (4096 < (l0.length : Int)) = true:=decide_eq_true c2
  have c2b1 : decide (4096 < l0.length) = true:=decide_eq_true (by omega)
  clear c2
  obtain rfl:=Option.some.inj H
  go_enter Try.func17,Try.ntmps17
  go_wp2
  repeat (go_quiet (fail);try go_wp2)
  go_ret
  exact ⟨by first | rfl | (simp [errW_none,errW_some] <;> rfl) | (simp [*,errW_none,errW_some] <;> rfl),by repeat (first | (with_reducible first | exact HB.out | apply below_alloc | apply pw_below_drewN | apply below_drew1) | exact HB.out)⟩
 ·rw [if_neg c2] at H
  have c2b0 : decide (4096 < (l0.length : Int)) = false:=decide_eq_false c2
  have c2b1 : decide (4096 < l0.length) = false:=decide_eq_false (by omega)
  clear c2
  have H':=Aside0.mk H
  clear H
  go_enter Try.func17,Try.ntmps17
  go_wp2
  repeat (go_quiet (fail);try go_wp2)
  go_loopg [3] k (fun kq v3 w' => ∃ (x3_1 : Int),v3 = .int .i64 x3_1 ∧ Aside0 (metrolabref53_Check.l0 kq l0 x3_1 = some r) ∧ Aside0 (kq ≤ k) ∧ Aside0 (Below w.heap.size w w'))
  case atStart => exact ⟨(0),(by first | rfl | (simp;done) | (simp [*];done)),H',⟨Nat.le_refl _⟩,⟨by repeat (first | (with_reducible first | exact HB.out | apply below_alloc | apply pw_below_drewN | apply below_drew1) | exact HB.out)⟩⟩
  case round =>
   clear H'
   try clear c1
   try clear c2
   try clear c2b0
   try clear c2b1
   try clear p2
   obtain ⟨x3_1,rfl,HA,HK1,HB⟩:=hrel
   cases gk with
   | zero => exact absurd HA.out (by simp [metrolabref53_Check.l0])
   | succ k1 =>
    have H:=HA.out
    clear HA
    simp only [metrolabref53_Check.l0] at H
    by_cases c3 : x3_1 < (l0.length : Int)
    ·rw [if_pos c3] at H
     have c3b0 : decide (x3_1 < (l0.length : Int)) = true:=decide_eq_true c3
     clear c3
     by_cases c4 : 0 ≤ x3_1
     ·rw [if_pos c4] at H
      have c4b0 : decide (0 ≤ x3_1) = true:=decide_eq_true c4
      clear c4
      replace H:=Option.bind_eq_some_iff.mp H
      obtain ⟨t126,A50,H⟩:=H
      replace H : (if t126 = 0 then (if ((rd_T67 l0 x3_1).f0) = 0 then (if x3_1 ≤ (l0.length : Int) then ((metrolabref53_Withdrawn.f k1 (l0.take (x3_1 : Int).toNat) ((rd_T67 l0 x3_1).f2)).bind fun t131 => (metrolabref53_Check.j1 k1 l0 x3_1 t131 ((rd_T67 l0 x3_1).f0) ((rd_T67 l0 x3_1).f1) ((rd_T67 l0 x3_1).f2) ((rd_T67 l0 x3_1).f3))) else (none)) else (metrolabref53_Check.j1 k1 l0 x3_1 false ((rd_T67 l0 x3_1).f0) ((rd_T67 l0 x3_1).f1) ((rd_T67 l0 x3_1).f2) ((rd_T67 l0 x3_1).f3))) else (some t126)) = some r:=H
      have A5:=Aside0.mk A50
      clear A50
      by_cases c6 : t126 = 0
      ·rw [if_pos c6] at H
       have c6b0 : (t126 == 0) = true:=beq_iff_eq.mpr c6
       have c6b1 : (t126 != 0) = false:=bne_eq_false_iff_eq.mpr c6
       clear c6
       have HC7:=Aside0.mk H
       clear H
       have p124 : 0 ≤ (x3_1 : Int):=of_decide_eq_true (by first | (with_reducible assumption) | assumption)
       have q124 : x3_1 < (l0.length : Int):=of_decide_eq_true (by first | (with_reducible assumption) | assumption)
       obtain ⟨ad124,e124,hx124_0,hx124_1,hx124_2,hx124_3⟩:=at_T67 HR0.out x3_1 p124 q124
       cases e124
       replace hx124_0:=(HB.out.cell (World.block_lt_of_cell? w _ hx124_0)).trans hx124_0
       replace hx124_1:=(HB.out.cell (World.block_lt_of_cell? w _ hx124_1)).trans hx124_1
       replace hx124_2:=(HB.out.cell (World.block_lt_of_cell? w _ hx124_2)).trans hx124_2
       replace hx124_3:=(HB.out.cell (World.block_lt_of_cell? w _ hx124_3)).trans hx124_3
       replace p124:=eq_true p124
       replace q124:=eq_true q124
       go_upto_region 10 with (first | ((with_reducible refine gate_dst (N:=4) rfl ?_);refine box_event ?hg (N:=4) ?hd (cs:=#[.int .i64 0,.string (⟨#[]⟩ : ByteArray),.string (⟨#[]⟩ : ByteArray),.string (⟨#[]⟩ : ByteArray)]) (t:=67) ?hr ?_;(case hd => rfl);(case hg => rfl);(case hr => first | (go_simp;done) | (go_simp;rfl));intro gb125 hg w8 hbox hb;have n0_:=Aside0.mk (below_step (by repeat (first | (with_reducible first | exact HB.out | apply below_alloc | apply pw_below_drewN | apply below_drew1) | exact HB.out)) hb);have n1_:=Aside0.mk (hbox);have n2_:=Aside0.mk ((by rw [hg];exact (below_size (by repeat (first | (with_reducible first | exact HB.out | apply below_alloc | apply pw_below_drewN | apply below_drew1) | exact HB.out))) : w.heap.size ≤ gb125));have n3_:=Aside0.mk ((by rw [hg];exact (below_size (by repeat (first | (with_reducible first | exact HB.out | apply below_alloc | apply pw_below_drewN | apply below_drew1) | exact HB.out))) : w.heap.size ≤ gb125));clear HB;have HB:=n0_;have BK125:=n1_;have GW125:=n2_;have GE125:=n3_;clear n0_ n1_ n2_ n3_;clear hb hbox hg;have hcz9_0 : w8.cell? ⟨gb125,0,none⟩ = some (.int .i64 0):=(blk_cell BK125.out 0).trans rfl;have hcz9_1 : w8.cell? ⟨gb125,1,none⟩ = some (.string (⟨#[]⟩ : ByteArray)):=(blk_cell BK125.out 1).trans rfl;have hcz9_2 : w8.cell? ⟨gb125,2,none⟩ = some (.string (⟨#[]⟩ : ByteArray)):=(blk_cell BK125.out 2).trans rfl;have hcz9_3 : w8.cell? ⟨gb125,3,none⟩ = some (.string (⟨#[]⟩ : ByteArray)):=(blk_cell BK125.out 3).trans rfl;have hfz9_0:=blk_frozen BK125.out 0;have hfz9_1:=blk_frozen BK125.out 1;have hfz9_2:=blk_frozen BK125.out 2;have hfz9_3:=blk_frozen BK125.out 3) | (go_at_call 44;(with_reducible refine (metrolabref53_form.calls k1 ((rd_T67 l0 x3_1).f0) ((rd_T67 l0 x3_1).f1) ((rd_T67 l0 x3_1).f2) ((rd_T67 l0 x3_1).f3) t126 _ A5.out).mono ?_);rintro e w10 ⟨rfl,hb⟩;have n0_:=Aside0.mk (blk_below (g:=gb125) (o:=.cells #[.int .i64 ((rd_T67 l0 x3_1).f0),.string ((rd_T67 l0 x3_1).f1),.string ((rd_T67 l0 x3_1).f2),.string ((rd_T67 l0 x3_1).f3)] 67 (0,0)) (by (with_reducible repeat (first | refine blk_drewN ?_ _ | refine blk_drew ?_ | refine blk_alloc ?_ _));refine blk_put (cs:=#[.int .i64 ((rd_T67 l0 x3_1).f0),.string ((rd_T67 l0 x3_1).f1),.string ((rd_T67 l0 x3_1).f2),.string (⟨#[]⟩ : ByteArray)]) ?_ 3 _ rfl;(with_reducible repeat (first | refine blk_drewN ?_ _ | refine blk_drew ?_ | refine blk_alloc ?_ _));refine blk_put (cs:=#[.int .i64 ((rd_T67 l0 x3_1).f0),.string ((rd_T67 l0 x3_1).f1),.string (⟨#[]⟩ : ByteArray),.string (⟨#[]⟩ : ByteArray)]) ?_ 2 _ rfl;(with_reducible repeat (first | refine blk_drewN ?_ _ | refine blk_drew ?_ | refine blk_alloc ?_ _));refine blk_put (cs:=#[.int .i64 ((rd_T67 l0 x3_1).f0),.string (⟨#[]⟩ : ByteArray),.string (⟨#[]⟩ : ByteArray),.string (⟨#[]⟩ : ByteArray)]) ?_ 1 _ rfl;(with_reducible repeat (first | refine blk_drewN ?_ _ | refine blk_drew ?_ | refine blk_alloc ?_ _));refine blk_put (cs:=#[.int .i64 0,.string (⟨#[]⟩ : ByteArray),.string (⟨#[]⟩ : ByteArray),.string (⟨#[]⟩ : ByteArray)]) ?_ 0 _ rfl;(with_reducible repeat (first | refine blk_drewN ?_ _ | refine blk_drew ?_ | refine blk_alloc ?_ _));exact BK125.out) hb);have n1_:=Aside0.mk (below_step (by repeat (first | (with_reducible first | exact HB.out | apply below_alloc | apply pw_below_drewN | apply below_drew1 | refine below_set ?_ GE125.out) | exact HB.out)) hb);clear BK125;clear HB;have BK125:=n0_;have HB:=n1_;clear n0_ n1_;(try clear hb);(try clear hb2);(try clear hk);(try clear hi)))
       repeat (go_quiet (first | ((with_reducible refine gate_dst (N:=4) rfl ?_);refine box_event ?hg (N:=4) ?hd (cs:=#[.int .i64 0,.string (⟨#[]⟩ : ByteArray),.string (⟨#[]⟩ : ByteArray),.string (⟨#[]⟩ : ByteArray)]) (t:=67) ?hr ?_;(case hd => rfl);(case hg => rfl);(case hr => first | (go_simp;done) | (go_simp;rfl));intro gb125 hg w8 hbox hb;have n0_:=Aside0.mk (below_step (by repeat (first | (with_reducible first | exact HB.out | apply below_alloc | apply pw_below_drewN | apply below_drew1) | exact HB.out)) hb);have n1_:=Aside0.mk (hbox);have n2_:=Aside0.mk ((by rw [hg];exact (below_size (by repeat (first | (with_reducible first | exact HB.out | apply below_alloc | apply pw_below_drewN | apply below_drew1) | exact HB.out))) : w.heap.size ≤ gb125));have n3_:=Aside0.mk ((by rw [hg];exact (below_size (by repeat (first | (with_reducible first | exact HB.out | apply below_alloc | apply pw_below_drewN | apply below_drew1) | exact HB.out))) : w.heap.size ≤ gb125));clear HB;have HB:=n0_;have BK125:=n1_;have GW125:=n2_;have GE125:=n3_;clear n0_ n1_ n2_ n3_;clear hb hbox hg;have hcz9_0 : w8.cell? ⟨gb125,0,none⟩ = some (.int .i64 0):=(blk_cell BK125.out 0).trans rfl;have hcz9_1 : w8.cell? ⟨gb125,1,none⟩ = some (.string (⟨#[]⟩ : ByteArray)):=(blk_cell BK125.out 1).trans rfl;have hcz9_2 : w8.cell? ⟨gb125,2,none⟩ = some (.string (⟨#[]⟩ : ByteArray)):=(blk_cell BK125.out 2).trans rfl;have hcz9_3 : w8.cell? ⟨gb125,3,none⟩ = some (.string (⟨#[]⟩ : ByteArray)):=(blk_cell BK125.out 3).trans rfl;have hfz9_0:=blk_frozen BK125.out 0;have hfz9_1:=blk_frozen BK125.out 1;have hfz9_2:=blk_frozen BK125.out 2;have hfz9_3:=blk_frozen BK125.out 3) | (go_at_call 44;(with_reducible refine (metrolabref53_form.calls k1 ((rd_T67 l0 x3_1).f0) ((rd_T67 l0 x3_1).f1) ((rd_T67 l0 x3_1).f2) ((rd_T67 l0 x3_1).f3) t126 _ A5.out).mono ?_);rintro e w10 ⟨rfl,hb⟩;have n0_:=Aside0.mk (blk_below (g:=gb125) (o:=.cells #[.int .i64 ((rd_T67 l0 x3_1).f0),.string ((rd_T67 l0 x3_1).f1),.string ((rd_T67 l0 x3_1).f2),.string ((rd_T67 l0 x3_1).f3)] 67 (0,0)) (by (with_reducible repeat (first | refine blk_drewN ?_ _ | refine blk_drew ?_ | refine blk_alloc ?_ _));refine blk_put (cs:=#[.int .i64 ((rd_T67 l0 x3_1).f0),.string ((rd_T67 l0 x3_1).f1),.string ((rd_T67 l0 x3_1).f2),.string (⟨#[]⟩ : ByteArray)]) ?_ 3 _ rfl;(with_reducible repeat (first | refine blk_drewN ?_ _ | refine blk_drew ?_ | refine blk_alloc ?_ _));refine blk_put (cs:=#[.int .i64 ((rd_T67 l0 x3_1).f0),.string ((rd_T67 l0 x3_1).f1),.string (⟨#[]⟩ : ByteArray),.string (⟨#[]⟩ : ByteArray)]) ?_ 2 _ rfl;(with_reducible repeat (first | refine blk_drewN ?_ _ | refine blk_drew ?_ | refine blk_alloc ?_ _));refine blk_put (cs:=#[.int .i64 ((rd_T67 l0 x3_1).f0),.string (⟨#[]⟩ : ByteArray),.string (⟨#[]⟩ : ByteArray),.string (⟨#[]⟩ : ByteArray)]) ?_ 1 _ rfl;(with_reducible repeat (first | refine blk_drewN ?_ _ | refine blk_drew ?_ | refine blk_alloc ?_ _));refine blk_put (cs:=#[.int .i64 0,.string (⟨#[]⟩ : ByteArray),.string (⟨#[]⟩ : ByteArray),.string (⟨#[]⟩ : ByteArray)]) ?_ 0 _ rfl;(with_reducible repeat (first | refine blk_drewN ?_ _ | refine blk_drew ?_ | refine blk_alloc ?_ _));exact BK125.out) hb);have n1_:=Aside0.mk (below_step (by repeat (first | (with_reducible first | exact HB.out | apply below_alloc | apply pw_below_drewN | apply below_drew1 | refine below_set ?_ GE125.out) | exact HB.out)) hb);clear BK125;clear HB;have BK125:=n0_;have HB:=n1_;clear n0_ n1_;(try clear hb);(try clear hb2);(try clear hk);(try clear hi)));go_upto_region 10 with (first | ((with_reducible refine gate_dst (N:=4) rfl ?_);refine box_event ?hg (N:=4) ?hd (cs:=#[.int .i64 0,.string (⟨#[]⟩ : ByteArray),.string (⟨#[]⟩ : ByteArray),.string (⟨#[]⟩ : ByteArray)]) (t:=67) ?hr ?_;(case hd => rfl);(case hg => rfl);(case hr => first | (go_simp;done) | (go_simp;rfl));intro gb125 hg w8 hbox hb;have n0_:=Aside0.mk (below_step (by repeat (first | (with_reducible first | exact HB.out | apply below_alloc | apply pw_below_drewN | apply below_drew1) | exact HB.out)) hb);have n1_:=Aside0.mk (hbox);have n2_:=Aside0.mk ((by rw [hg];exact (below_size (by repeat (first | (with_reducible first | exact HB.out | apply below_alloc | apply pw_below_drewN | apply below_drew1) | exact HB.out))) : w.heap.size ≤ gb125));have n3_:=Aside0.mk ((by rw [hg];exact (below_size (by repeat (first | (with_reducible first | exact HB.out | apply below_alloc | apply pw_below_drewN | apply below_drew1) | exact HB.out))) : w.heap.size ≤ gb125));clear HB;have HB:=n0_;have BK125:=n1_;have GW125:=n2_;have GE125:=n3_;clear n0_ n1_ n2_ n3_;clear hb hbox hg;have hcz9_0 : w8.cell? ⟨gb125,0,none⟩ = some (.int .i64 0):=(blk_cell BK125.out 0).trans rfl;have hcz9_1 : w8.cell? ⟨gb125,1,none⟩ = some (.string (⟨#[]⟩ : ByteArray)):=(blk_cell BK125.out 1).trans rfl;have hcz9_2 : w8.cell? ⟨gb125,2,none⟩ = some (.string (⟨#[]⟩ : ByteArray)):=(blk_cell BK125.out 2).trans rfl;have hcz9_3 : w8.cell? ⟨gb125,3,none⟩ = some (.string (⟨#[]⟩ : ByteArray)):=(blk_cell BK125.out 3).trans rfl;have hfz9_0:=blk_frozen BK125.out 0;have hfz9_1:=blk_frozen BK125.out 1;have hfz9_2:=blk_frozen BK125.out 2;have hfz9_3:=blk_frozen BK125.out 3) | (go_at_call 44;(with_reducible refine (metrolabref53_form.calls k1 ((rd_T67 l0 x3_1).f0) ((rd_T67 l0 x3_1).f1) ((rd_T67 l0 x3_1).f2) ((rd_T67 l0 x3_1).f3) t126 _ A5.out).mono ?_);rintro e w10 ⟨rfl,hb⟩;have n0_:=Aside0.mk (blk_below (g:=gb125) (o:=.cells #[.int .i64 ((rd_T67 l0 x3_1).f0),.string ((rd_T67 l0 x3_1).f1),.string ((rd_T67 l0 x3_1).f2),.string ((rd_T67 l0 x3_1).f3)] 67 (0,0)) (by (with_reducible repeat (first | refine blk_drewN ?_ _ | refine blk_drew ?_ | refine blk_alloc ?_ _));refine blk_put (cs:=#[.int .i64 ((rd_T67 l0 x3_1).f0),.string ((rd_T67 l0 x3_1).f1),.string ((rd_T67 l0 x3_1).f2),.string (⟨#[]⟩ : ByteArray)]) ?_ 3 _ rfl;(with_reducible repeat (first | refine blk_drewN ?_ _ | refine blk_drew ?_ | refine blk_alloc ?_ _));refine blk_put (cs:=#[.int .i64 ((rd_T67 l0 x3_1).f0),.string ((rd_T67 l0 x3_1).f1),.string (⟨#[]⟩ : ByteArray),.string (⟨#[]⟩ : ByteArray)]) ?_ 2 _ rfl;(with_reducible repeat (first | refine blk_drewN ?_ _ | refine blk_drew ?_ | refine blk_alloc ?_ _));refine blk_put (cs:=#[.int .i64 ((rd_T67 l0 x3_1).f0),.string (⟨#[]⟩ : ByteArray),.string (⟨#[]⟩ : ByteArray),.string (⟨#[]⟩ : ByteArray)]) ?_ 1 _ rfl;(with_reducible repeat (first | refine blk_drewN ?_ _ | refine blk_drew ?_ | refine blk_alloc ?_ _));refine blk_put (cs:=#[.int .i64 0,.string (⟨#[]⟩ : ByteArray),.string (⟨#[]⟩ : ByteArray),.string (⟨#[]⟩ : ByteArray)]) ?_ 0 _ rfl;(with_reducible repeat (first | refine blk_drewN ?_ _ | refine blk_drew ?_ | refine blk_alloc ?_ _));exact BK125.out) hb);have n1_:=Aside0.mk (below_step (by repeat (first | (with_reducible first | exact HB.out | apply below_alloc | apply pw_below_drewN | apply below_drew1 | refine below_set ?_ GE125.out) | exact HB.out)) hb);clear BK125;clear HB;have BK125:=n0_;have HB:=n1_;clear n0_ n1_;(try clear hb);(try clear hb2);(try clear hk);(try clear hi))))
       (try simp only [Act.put,List.setIfInBounds_toArray,List.set_cons_zero,List.set_cons_succ])
       go_cut [35] (fun v35 wc => ∃ (kq : Nat) (x35_6 : Bool),v35 = .bool x35_6 ∧ Aside0 (metrolabref53_Check.j1 kq l0 x3_1 x35_6 ((rd_T67 l0 x3_1).f0) ((rd_T67 l0 x3_1).f1) ((rd_T67 l0 x3_1).f2) ((rd_T67 l0 x3_1).f3) = some r) ∧ Aside0 (kq ≤ k1) ∧ Aside0 (wc.heap[gb125]? = some (.cells #[.int .i64 ((rd_T67 l0 x3_1).f0),.string ((rd_T67 l0 x3_1).f1),.string ((rd_T67 l0 x3_1).f2),.string ((rd_T67 l0 x3_1).f3)] 67 (0,0))) ∧ Aside0 (Below w.heap.size w wc))
       case first =>
        have H:=HC7.out
        clear HC7
        by_cases c11 : ((rd_T67 l0 x3_1).f0) = 0
        ·rw [if_pos c11] at H
         have c11b0 : (((rd_T67 l0 x3_1).f0) == 0) = true:=beq_iff_eq.mpr c11
         have c11b1 : (((rd_T67 l0 x3_1).f0) != 0) = false:=bne_eq_false_iff_eq.mpr c11
         clear c11
         (first | rw [c11b0] | (simp only [i64_w,i32_w];rw [c11b0]) | skip)
         have c12b0:=eq_true (of_decide_eq_true (by first | (with_reducible assumption) | assumption) : 0 ≤ x3_1)
         by_cases c13 : x3_1 ≤ (l0.length : Int)
         ·rw [if_pos c13] at H
          have c13b0:=eq_true c13
          have c13b1 : decide (x3_1 ≤ (l0.length : Int)) = true:=decide_eq_true c13
          clear c13
          obtain ⟨y127,hy127⟩ : ∃ y_ : List (S67),y_ = (l0.take (x3_1 : Int).toNat):=⟨_,rfl⟩
          replace H : ((metrolabref53_Withdrawn.f k1 y127 ((rd_T67 l0 x3_1).f2)).bind fun t131 => (metrolabref53_Check.j1 k1 l0 x3_1 t131 ((rd_T67 l0 x3_1).f0) ((rd_T67 l0 x3_1).f1) ((rd_T67 l0 x3_1).f2) ((rd_T67 l0 x3_1).f3))) = some r:=by first | (rw [hy127];with_reducible exact H) | (have H2_:=(Option.bind_some _ _).symm.trans H;rw [hy127];with_reducible exact H2_) | (have H2_:=(Option.bind_some _ _).symm.trans H;with_reducible exact H2_) | with_reducible exact H | (rw [hy127];exact H) | exact H
          have Ny127:=Aside0.mk hy127
          clear hy127
          replace H:=Option.bind_eq_some_iff.mp H
          obtain ⟨t131,A140,H⟩:=H
          replace H : (metrolabref53_Check.j1 k1 l0 x3_1 t131 ((rd_T67 l0 x3_1).f0) ((rd_T67 l0 x3_1).f1) ((rd_T67 l0 x3_1).f2) ((rd_T67 l0 x3_1).f3)) = some r:=H
          have A14:=Aside0.mk A140
          clear A140
          have H':=Aside0.mk H
          clear H
          have hcz15_0 : w10.cell? ⟨gb125,0,none⟩ = some (.int .i64 ((rd_T67 l0 x3_1).f0)):=(blk_cell BK125.out 0).trans rfl
          have hcz15_1 : w10.cell? ⟨gb125,1,none⟩ = some (.string ((rd_T67 l0 x3_1).f1)):=(blk_cell BK125.out 1).trans rfl
          have hcz15_2 : w10.cell? ⟨gb125,2,none⟩ = some (.string ((rd_T67 l0 x3_1).f2)):=(blk_cell BK125.out 2).trans rfl
          have hcz15_3 : w10.cell? ⟨gb125,3,none⟩ = some (.string ((rd_T67 l0 x3_1).f3)):=(blk_cell BK125.out 3).trans rfl
          have hfz15_0:=blk_frozen BK125.out 0
          have hfz15_1:=blk_frozen BK125.out 1
          have hfz15_2:=blk_frozen BK125.out 2
          have hfz15_3:=blk_frozen BK125.out 3
          have q16 : (x3_1 : Int) ≤ ((l0.length : Int) : Int):=of_decide_eq_true (by first | (with_reducible assumption) | assumption)
          obtain ⟨i016,hi016,_,hsz16,_⟩:=info_parts info67
          have hroom16 : l0.length ≤ c0:=HC0.out
          have hC16 : Kd.C k67 _ (some ad124) l0.length l0:=HR0.out
          have hcut16:=cut_to (P:=Try.prog) 31 67 .i64 Try.underlying31 hi016 (some ad124) l0.length c0 x3_1 (of_decide_eq_true (by first | (with_reducible assumption) | assumption)) q16 hroom16
          have hr16:=Kd.C_take (m:=(x3_1 : Int).toNat) hC16 (by omega)
          have hy16 : y127.length = (x3_1 : Int).toNat:=(by rw [Ny127.out,List.length_take];omega)
          rw [← Ny127.out] at hr16
          rw [← hy16] at hcut16
          have HR130:=Aside0.mk hr16
          have HC130:=Aside0.mk (show y127.length ≤ c0 from by omega)
          clear hr16 hC16 hroom16 hi016 hsz16
          have KY16:=Aside0.mk hy16
          clear hy16
          replace q16:=eq_true q16
          go_wp2_with (first | (go_at_call 45;(with_reducible refine (metrolabref53_Withdrawn.calls k1 _ _ y127 ((rd_T67 l0 x3_1).f2) t131 _ ?side1 ?side2 A14.out).mono ?_);(case side1 => repeat (first | exact (Kd.C_below HR130.out HB.out) | (with_reducible refine Kd.C_alloc ?_ _) | (with_reducible refine Kd.C_drewN ?_ _) | (with_reducible refine Kd.C_drew ?_)));(case side2 => exact HC130.out);rintro e w' ⟨rfl,⟨nd,rfl⟩⟩;(try first | exact ⟨rfl,_,World.drewN_drewN _ _ _⟩ | exact ⟨rfl,_,Eq.trans (World.drewN_drewN _ _ _) (congrArg (World.drewN _) (Nat.add_assoc _ _ _))⟩)))
          repeat (go_quiet (first | (go_at_call 45;(with_reducible refine (metrolabref53_Withdrawn.calls k1 _ _ y127 ((rd_T67 l0 x3_1).f2) t131 _ ?side1 ?side2 A14.out).mono ?_);(case side1 => repeat (first | exact (Kd.C_below HR130.out HB.out) | (with_reducible refine Kd.C_alloc ?_ _) | (with_reducible refine Kd.C_drewN ?_ _) | (with_reducible refine Kd.C_drew ?_)));(case side2 => exact HC130.out);rintro e w' ⟨rfl,⟨nd,rfl⟩⟩;(try first | exact ⟨rfl,_,World.drewN_drewN _ _ _⟩ | exact ⟨rfl,_,Eq.trans (World.drewN_drewN _ _ _) (congrArg (World.drewN _) (Nat.add_assoc _ _ _))⟩)));try go_wp2_with (first | (go_at_call 45;(with_reducible refine (metrolabref53_Withdrawn.calls k1 _ _ y127 ((rd_T67 l0 x3_1).f2) t131 _ ?side1 ?side2 A14.out).mono ?_);(case side1 => repeat (first | exact (Kd.C_below HR130.out HB.out) | (with_reducible refine Kd.C_alloc ?_ _) | (with_reducible refine Kd.C_drewN ?_ _) | (with_reducible refine Kd.C_drew ?_)));(case side2 => exact HC130.out);rintro e w' ⟨rfl,⟨nd,rfl⟩⟩;(try first | exact ⟨rfl,_,World.drewN_drewN _ _ _⟩ | exact ⟨rfl,_,Eq.trans (World.drewN_drewN _ _ _) (congrArg (World.drewN _) (Nat.add_assoc _ _ _))⟩))))
          go_meet
          case rel => exact ⟨_,(t131),(by first | rfl | (simp;done) | (simp [*];done)),H',⟨by have:=HK1.out;first | omega | exact Nat.le_refl _⟩,⟨by (with_reducible repeat (first | refine blk_drewN ?_ _ | refine blk_drew ?_ | refine blk_alloc ?_ _));exact BK125.out⟩,⟨by repeat (first | (with_reducible first | exact HB.out | apply below_alloc | apply pw_below_drewN | apply below_drew1 | refine below_set ?_ GE125.out) | exact HB.out)⟩⟩
         ·rw [if_neg c13] at H
          exact absurd H (by simp)
        ·rw [if_neg c11] at H
         have c11b0 : (((rd_T67 l0 x3_1).f0) == 0) = false:=beq_eq_false_iff_ne.mpr c11
         have c11b1 : (((rd_T67 l0 x3_1).f0) != 0) = true:=bne_iff_ne.mpr c11
         (first | rw [c11b0] | (simp only [i64_w,i32_w];rw [c11b0]) | skip)
         have H':=Aside0.mk H
         clear H
         have hcz17_0 : w10.cell? ⟨gb125,0,none⟩ = some (.int .i64 ((rd_T67 l0 x3_1).f0)):=(blk_cell BK125.out 0).trans rfl
         have hcz17_1 : w10.cell? ⟨gb125,1,none⟩ = some (.string ((rd_T67 l0 x3_1).f1)):=(blk_cell BK125.out 1).trans rfl
         have hcz17_2 : w10.cell? ⟨gb125,2,none⟩ = some (.string ((rd_T67 l0 x3_1).f2)):=(blk_cell BK125.out 2).trans rfl
         have hcz17_3 : w10.cell? ⟨gb125,3,none⟩ = some (.string ((rd_T67 l0 x3_1).f3)):=(blk_cell BK125.out 3).trans rfl
         have hfz17_0:=blk_frozen BK125.out 0
         have hfz17_1:=blk_frozen BK125.out 1
         have hfz17_2:=blk_frozen BK125.out 2
         have hfz17_3:=blk_frozen BK125.out 3
         go_wp2
         repeat (go_quiet (fail);try go_wp2)
         go_meet
         case rel => exact ⟨_,(false),(by first | rfl | (simp;done) | (simp [*];done)),H',⟨by have:=HK1.out;first | omega | exact Nat.le_refl _⟩,⟨by (with_reducible repeat (first | refine blk_drewN ?_ _ | refine blk_drew ?_ | refine blk_alloc ?_ _));exact BK125.out⟩,⟨by repeat (first | (with_reducible first | exact HB.out | apply below_alloc | apply pw_below_drewN | apply below_drew1 | refine below_set ?_ GE125.out) | exact HB.out)⟩⟩
       case rest =>
        clear HC7
        try clear c1
        try clear p1
        try clear q1
        try clear hx1
        try clear c2
        try clear c2b0
        try clear c2b1
        try clear p2
        try clear c3
        try clear c3b0
        try clear c4
        try clear c4b0
        try clear c6
        try clear c6b0
        try clear c6b1
        try clear c11
        try clear c11b0
        try clear c11b1
        try clear c12
        try clear c12b0
        try clear p12
        try clear q12
        try clear hx12
        try clear c13
        try clear c13b0
        try clear c13b1
        try clear q16
        try clear c17
        try clear hcz15_0
        try clear hcz15_1
        try clear hcz15_2
        try clear hcz15_3
        try clear hcz17_0
        try clear hcz17_1
        try clear hcz17_2
        try clear hcz17_3
        try clear hcz9_0
        try clear hcz9_1
        try clear hcz9_2
        try clear hcz9_3
        try clear hfz15_0
        try clear hfz15_1
        try clear hfz15_2
        try clear hfz15_3
        try clear hfz17_0
        try clear hfz17_1
        try clear hfz17_2
        try clear hfz17_3
        try clear hfz9_0
        try clear hfz9_1
        try clear hfz9_2
        try clear hfz9_3
        try clear hx124_0
        try clear hx124_1
        try clear hx124_2
        try clear hx124_3
        try clear p124
        try clear p2
        try clear q124
        try clear q16
        obtain ⟨kq,x35_6,rfl,HA,HJ6,BK125,HB⟩:=hcut
        cases kq with
        | zero => exact absurd HA.out (by simp [metrolabref53_Check.j1])
        | succ kj6 =>
         have H:=HA.out
         clear HA
         simp only [metrolabref53_Check.j1] at H
         by_cases c18 : x35_6 = true
         ·subst c18
          have H1 : (some 14) = some r:=by rw [if_pos rfl] at H;exact H
          clear H
          have H:=H1
          clear H1
          obtain rfl:=Option.some.inj H
          go_wp2
          repeat (go_quiet (fail);try go_wp2)
          go_ret
          exact ⟨by first | rfl | (simp [errW_none,errW_some] <;> rfl) | (simp [*,errW_none,errW_some] <;> rfl),by repeat (first | (with_reducible first | exact HB.out | apply below_alloc | apply pw_below_drewN | apply below_drew1 | refine below_set ?_ GE125.out) | exact HB.out)⟩
         ·replace c18:=Bool.eq_false_iff.mpr c18
          subst c18
          have H1 : (metrolabref53_Check.l1 kj6 l0 x3_1 0 ((rd_T67 l0 x3_1).f0) ((rd_T67 l0 x3_1).f1) ((rd_T67 l0 x3_1).f2) ((rd_T67 l0 x3_1).f3)) = some r:=by rw [if_neg (show ¬ (false = true) by decide)] at H;exact H
          clear H
          have H:=H1
          clear H1
          have H':=Aside0.mk H
          clear H
          go_wp2
          repeat (go_quiet (fail);try go_wp2)
          go_loopg [6] kj6 (fun kq v6 w' => ∃ (x6_3 : Int),v6 = .int .i64 x6_3 ∧ Aside0 (metrolabref53_Check.l1 kq l0 x3_1 x6_3 ((rd_T67 l0 x3_1).f0) ((rd_T67 l0 x3_1).f1) ((rd_T67 l0 x3_1).f2) ((rd_T67 l0 x3_1).f3) = some r) ∧ Aside0 (kq ≤ kj6) ∧ Aside0 (w'.heap[gb125]? = some (.cells #[.int .i64 ((rd_T67 l0 x3_1).f0),.string ((rd_T67 l0 x3_1).f1),.string ((rd_T67 l0 x3_1).f2),.string ((rd_T67 l0 x3_1).f3)] 67 (0,0))) ∧ Aside0 (Below w.heap.size w w'))
          case atStart => exact ⟨(0),(by first | rfl | (simp;done) | (simp [*];done)),H',⟨Nat.le_refl _⟩,⟨by (with_reducible repeat (first | refine blk_drewN ?_ _ | refine blk_drew ?_ | refine blk_alloc ?_ _));exact BK125.out⟩,⟨by repeat (first | (with_reducible first | exact HB.out | apply below_alloc | apply pw_below_drewN | apply below_drew1 | refine below_set ?_ GE125.out) | exact HB.out)⟩⟩
          case round =>
           clear H'
           try clear c1
           try clear p1
           try clear q1
           try clear hx1
           try clear c2
           try clear c2b0
           try clear c2b1
           try clear p2
           try clear c3
           try clear c3b0
           try clear c4
           try clear c4b0
           try clear c6
           try clear c6b0
           try clear c6b1
           try clear c11
           try clear c11b0
           try clear c11b1
           try clear c12
           try clear c12b0
           try clear p12
           try clear q12
           try clear hx12
           try clear c13
           try clear c13b0
           try clear c13b1
           try clear q16
           try clear c17
           try clear c18
           try clear hcz15_0
           try clear hcz15_1
           try clear hcz15_2
           try clear hcz15_3
           try clear hcz17_0
           try clear hcz17_1
           try clear hcz17_2
           try clear hcz17_3
           try clear hcz9_0
           try clear hcz9_1
           try clear hcz9_2
           try clear hcz9_3
           try clear hfz15_0
           try clear hfz15_1
           try clear hfz15_2
           try clear hfz15_3
           try clear hfz17_0
           try clear hfz17_1
           try clear hfz17_2
           try clear hfz17_3
           try clear hfz9_0
           try clear hfz9_1
           try clear hfz9_2
           try clear hfz9_3
           try clear hx124_0
           try clear hx124_1
           try clear hx124_2
           try clear hx124_3
           try clear p1
           try clear p12
           try clear p124
           try clear p2
           try clear q1
           try clear q12
           try clear q124
           try clear q16
           obtain ⟨x6_3,rfl,HA,HK3,BK125,HB⟩:=hrel
           cases gk with
           | zero => exact absurd HA.out (by simp [metrolabref53_Check.l1])
           | succ k3 =>
            have H:=HA.out
            clear HA
            simp only [metrolabref53_Check.l1] at H
            by_cases c19 : x6_3 < x3_1
            ·rw [if_pos c19] at H
             have c19b0 : decide (x6_3 < x3_1) = true:=decide_eq_true c19
             clear c19
             by_cases c20 : ((rd_T67 l0 x3_1).f0) = 0
             ·rw [if_pos c20] at H
              have c20b0 : (((rd_T67 l0 x3_1).f0) == 0) = true:=beq_iff_eq.mpr c20
              have c20b1 : (((rd_T67 l0 x3_1).f0) != 0) = false:=bne_eq_false_iff_eq.mpr c20
              clear c20
              by_cases c21 : 0 ≤ x6_3
              ·rw [if_pos c21] at H
               have c21b0 : decide (0 ≤ x6_3) = true:=decide_eq_true c21
               clear c21
               by_cases c22 : x6_3 < (l0.length : Int)
               ·rw [if_pos c22] at H
                have c22b0 : decide (x6_3 < (l0.length : Int)) = true:=decide_eq_true c22
                clear c22
                by_cases c23 : ((rd_T67 l0 x6_3).f0) = 0
                ·rw [if_pos c23] at H
                 have c23b0 : (((rd_T67 l0 x6_3).f0) == 0) = true:=beq_iff_eq.mpr c23
                 have c23b1 : (((rd_T67 l0 x6_3).f0) != 0) = false:=bne_eq_false_iff_eq.mpr c23
                 clear c23
                 by_cases c24 : ((rd_T67 l0 x6_3).f2).toList = ((rd_T67 l0 x3_1).f2).toList
                 ·rw [if_pos c24] at H
                  have c24b0 : (((rd_T67 l0 x6_3).f2).toList == ((rd_T67 l0 x3_1).f2).toList) = true:=beq_iff_eq.mpr c24
                  have c24b1 : (((rd_T67 l0 x6_3).f2).toList != ((rd_T67 l0 x3_1).f2).toList) = false:=bne_eq_false_iff_eq.mpr c24
                  clear c24
                  by_cases c25 : ((rd_T67 l0 x6_3).f3).toList = ((rd_T67 l0 x3_1).f3).toList
                  ·rw [if_pos c25] at H
                   have c25b0 : (((rd_T67 l0 x6_3).f3).toList == ((rd_T67 l0 x3_1).f3).toList) = true:=beq_iff_eq.mpr c25
                   have c25b1 : (((rd_T67 l0 x6_3).f3).toList != ((rd_T67 l0 x3_1).f3).toList) = false:=bne_eq_false_iff_eq.mpr c25
                   clear c25
                   have H':=Aside0.mk H
                   clear H
                   have hcz26_0 : wr.cell? ⟨gb125,0,none⟩ = some (.int .i64 ((rd_T67 l0 x3_1).f0)):=(blk_cell BK125.out 0).trans rfl
                   have hcz26_1 : wr.cell? ⟨gb125,1,none⟩ = some (.string ((rd_T67 l0 x3_1).f1)):=(blk_cell BK125.out 1).trans rfl
                   have hcz26_2 : wr.cell? ⟨gb125,2,none⟩ = some (.string ((rd_T67 l0 x3_1).f2)):=(blk_cell BK125.out 2).trans rfl
                   have hcz26_3 : wr.cell? ⟨gb125,3,none⟩ = some (.string ((rd_T67 l0 x3_1).f3)):=(blk_cell BK125.out 3).trans rfl
                   have hfz26_0:=blk_frozen BK125.out 0
                   have hfz26_1:=blk_frozen BK125.out 1
                   have hfz26_2:=blk_frozen BK125.out 2
                   have hfz26_3:=blk_frozen BK125.out 3
                   have p132 : 0 ≤ (x6_3 : Int):=of_decide_eq_true (by first | (with_reducible assumption) | assumption)
                   have q132 : x6_3 < (l0.length : Int):=of_decide_eq_true (by first | (with_reducible assumption) | assumption)
                   obtain ⟨ad132,e132,hx132_0,hx132_1,hx132_2,hx132_3⟩:=at_T67 HR0.out x6_3 p132 q132
                   obtain rfl : ad124 = ad132:=(by injection e132)
                   replace hx132_0:=(HB.out.cell (World.block_lt_of_cell? w _ hx132_0)).trans hx132_0
                   replace hx132_1:=(HB.out.cell (World.block_lt_of_cell? w _ hx132_1)).trans hx132_1
                   replace hx132_2:=(HB.out.cell (World.block_lt_of_cell? w _ hx132_2)).trans hx132_2
                   replace hx132_3:=(HB.out.cell (World.block_lt_of_cell? w _ hx132_3)).trans hx132_3
                   replace p132:=eq_true p132
                   replace q132:=eq_true q132
                   have p133 : 0 ≤ (x6_3 : Int):=of_decide_eq_true (by first | (with_reducible assumption) | assumption)
                   have q133 : x6_3 < (l0.length : Int):=of_decide_eq_true (by first | (with_reducible assumption) | assumption)
                   obtain ⟨ad133,e133,hx133_0,hx133_1,hx133_2,hx133_3⟩:=at_T67 HR0.out x6_3 p133 q133
                   obtain rfl : ad124 = ad133:=(by injection e133)
                   replace hx133_0:=(HB.out.cell (World.block_lt_of_cell? w _ hx133_0)).trans hx133_0
                   replace hx133_1:=(HB.out.cell (World.block_lt_of_cell? w _ hx133_1)).trans hx133_1
                   replace hx133_2:=(HB.out.cell (World.block_lt_of_cell? w _ hx133_2)).trans hx133_2
                   replace hx133_3:=(HB.out.cell (World.block_lt_of_cell? w _ hx133_3)).trans hx133_3
                   replace p133:=eq_true p133
                   replace q133:=eq_true q133
                   have p134 : 0 ≤ (x6_3 : Int):=of_decide_eq_true (by first | (with_reducible assumption) | assumption)
                   have q134 : x6_3 < (l0.length : Int):=of_decide_eq_true (by first | (with_reducible assumption) | assumption)
                   obtain ⟨ad134,e134,hx134_0,hx134_1,hx134_2,hx134_3⟩:=at_T67 HR0.out x6_3 p134 q134
                   obtain rfl : ad124 = ad134:=(by injection e134)
                   replace hx134_0:=(HB.out.cell (World.block_lt_of_cell? w _ hx134_0)).trans hx134_0
                   replace hx134_1:=(HB.out.cell (World.block_lt_of_cell? w _ hx134_1)).trans hx134_1
                   replace hx134_2:=(HB.out.cell (World.block_lt_of_cell? w _ hx134_2)).trans hx134_2
                   replace hx134_3:=(HB.out.cell (World.block_lt_of_cell? w _ hx134_3)).trans hx134_3
                   replace p134:=eq_true p134
                   replace q134:=eq_true q134
                   go_wp2
                   repeat (go_quiet (fail);try go_wp2)
                   go_roundg k3
                   case measure => have:=HK1.out;have:=HJ6.out;have:=HK3.out;omega
                   case rel => exact ⟨(wrap64 (x6_3 + 1)),(by first | rfl | (simp;done) | (simp [*];done)),H',⟨by have:=HK1.out;have:=HJ6.out;have:=HK3.out;omega⟩,⟨by (with_reducible repeat (first | refine blk_drewN ?_ _ | refine blk_drew ?_ | refine blk_alloc ?_ _));exact BK125.out⟩,⟨by repeat (first | (with_reducible first | exact HB.out | apply below_alloc | apply pw_below_drewN | apply below_drew1 | refine below_set ?_ GE125.out) | exact HB.out)⟩⟩
                  ·rw [if_neg c25] at H
                   have c25b0 : (((rd_T67 l0 x6_3).f3).toList == ((rd_T67 l0 x3_1).f3).toList) = false:=beq_eq_false_iff_ne.mpr c25
                   have c25b1 : (((rd_T67 l0 x6_3).f3).toList != ((rd_T67 l0 x3_1).f3).toList) = true:=bne_iff_ne.mpr c25
                   obtain rfl:=Option.some.inj H
                   have hcz27_0 : wr.cell? ⟨gb125,0,none⟩ = some (.int .i64 ((rd_T67 l0 x3_1).f0)):=(blk_cell BK125.out 0).trans rfl
                   have hcz27_1 : wr.cell? ⟨gb125,1,none⟩ = some (.string ((rd_T67 l0 x3_1).f1)):=(blk_cell BK125.out 1).trans rfl
                   have hcz27_2 : wr.cell? ⟨gb125,2,none⟩ = some (.string ((rd_T67 l0 x3_1).f2)):=(blk_cell BK125.out 2).trans rfl
                   have hcz27_3 : wr.cell? ⟨gb125,3,none⟩ = some (.string ((rd_T67 l0 x3_1).f3)):=(blk_cell BK125.out 3).trans rfl
                   have hfz27_0:=blk_frozen BK125.out 0
                   have hfz27_1:=blk_frozen BK125.out 1
                   have hfz27_2:=blk_frozen BK125.out 2
                   have hfz27_3:=blk_frozen BK125.out 3
                   have p132 : 0 ≤ (x6_3 : Int):=of_decide_eq_true (by first | (with_reducible assumption) | assumption)
                   have q132 : x6_3 < (l0.length : Int):=of_decide_eq_true (by first | (with_reducible assumption) | assumption)
                   obtain ⟨ad132,e132,hx132_0,hx132_1,hx132_2,hx132_3⟩:=at_T67 HR0.out x6_3 p132 q132
                   obtain rfl : ad124 = ad132:=(by injection e132)
                   replace hx132_0:=(HB.out.cell (World.block_lt_of_cell? w _ hx132_0)).trans hx132_0
                   replace hx132_1:=(HB.out.cell (World.block_lt_of_cell? w _ hx132_1)).trans hx132_1
                   replace hx132_2:=(HB.out.cell (World.block_lt_of_cell? w _ hx132_2)).trans hx132_2
                   replace hx132_3:=(HB.out.cell (World.block_lt_of_cell? w _ hx132_3)).trans hx132_3
                   replace p132:=eq_true p132
                   replace q132:=eq_true q132
                   have p133 : 0 ≤ (x6_3 : Int):=of_decide_eq_true (by first | (with_reducible assumption) | assumption)
                   have q133 : x6_3 < (l0.length : Int):=of_decide_eq_true (by first | (with_reducible assumption) | assumption)
                   obtain ⟨ad133,e133,hx133_0,hx133_1,hx133_2,hx133_3⟩:=at_T67 HR0.out x6_3 p133 q133
                   obtain rfl : ad124 = ad133:=(by injection e133)
                   replace hx133_0:=(HB.out.cell (World.block_lt_of_cell? w _ hx133_0)).trans hx133_0
                   replace hx133_1:=(HB.out.cell (World.block_lt_of_cell? w _ hx133_1)).trans hx133_1
                   replace hx133_2:=(HB.out.cell (World.block_lt_of_cell? w _ hx133_2)).trans hx133_2
                   replace hx133_3:=(HB.out.cell (World.block_lt_of_cell? w _ hx133_3)).trans hx133_3
                   replace p133:=eq_true p133
                   replace q133:=eq_true q133
                   have p134 : 0 ≤ (x6_3 : Int):=of_decide_eq_true (by first | (with_reducible assumption) | assumption)
                   have q134 : x6_3 < (l0.length : Int):=of_decide_eq_true (by first | (with_reducible assumption) | assumption)
                   obtain ⟨ad134,e134,hx134_0,hx134_1,hx134_2,hx134_3⟩:=at_T67 HR0.out x6_3 p134 q134
                   obtain rfl : ad124 = ad134:=(by injection e134)
                   replace hx134_0:=(HB.out.cell (World.block_lt_of_cell? w _ hx134_0)).trans hx134_0
                   replace hx134_1:=(HB.out.cell (World.block_lt_of_cell? w _ hx134_1)).trans hx134_1
                   replace hx134_2:=(HB.out.cell (World.block_lt_of_cell? w _ hx134_2)).trans hx134_2
                   replace hx134_3:=(HB.out.cell (World.block_lt_of_cell? w _ hx134_3)).trans hx134_3
                   replace p134:=eq_true p134
                   replace q134:=eq_true q134
                   go_wp2
                   repeat (go_quiet (fail);try go_wp2)
                   go_ret
                   exact ⟨by first | rfl | (simp [errW_none,errW_some] <;> rfl) | (simp [*,errW_none,errW_some] <;> rfl),by repeat (first | (with_reducible first | exact HB.out | apply below_alloc | apply pw_below_drewN | apply below_drew1 | refine below_set ?_ GE125.out) | exact HB.out)⟩
                 ·rw [if_neg c24] at H
                  have c24b0 : (((rd_T67 l0 x6_3).f2).toList == ((rd_T67 l0 x3_1).f2).toList) = false:=beq_eq_false_iff_ne.mpr c24
                  have c24b1 : (((rd_T67 l0 x6_3).f2).toList != ((rd_T67 l0 x3_1).f2).toList) = true:=bne_iff_ne.mpr c24
                  have H':=Aside0.mk H
                  clear H
                  have hcz28_0 : wr.cell? ⟨gb125,0,none⟩ = some (.int .i64 ((rd_T67 l0 x3_1).f0)):=(blk_cell BK125.out 0).trans rfl
                  have hcz28_1 : wr.cell? ⟨gb125,1,none⟩ = some (.string ((rd_T67 l0 x3_1).f1)):=(blk_cell BK125.out 1).trans rfl
                  have hcz28_2 : wr.cell? ⟨gb125,2,none⟩ = some (.string ((rd_T67 l0 x3_1).f2)):=(blk_cell BK125.out 2).trans rfl
                  have hcz28_3 : wr.cell? ⟨gb125,3,none⟩ = some (.string ((rd_T67 l0 x3_1).f3)):=(blk_cell BK125.out 3).trans rfl
                  have hfz28_0:=blk_frozen BK125.out 0
                  have hfz28_1:=blk_frozen BK125.out 1
                  have hfz28_2:=blk_frozen BK125.out 2
                  have hfz28_3:=blk_frozen BK125.out 3
                  have p132 : 0 ≤ (x6_3 : Int):=of_decide_eq_true (by first | (with_reducible assumption) | assumption)
                  have q132 : x6_3 < (l0.length : Int):=of_decide_eq_true (by first | (with_reducible assumption) | assumption)
                  obtain ⟨ad132,e132,hx132_0,hx132_1,hx132_2,hx132_3⟩:=at_T67 HR0.out x6_3 p132 q132
                  obtain rfl : ad124 = ad132:=(by injection e132)
                  replace hx132_0:=(HB.out.cell (World.block_lt_of_cell? w _ hx132_0)).trans hx132_0
                  replace hx132_1:=(HB.out.cell (World.block_lt_of_cell? w _ hx132_1)).trans hx132_1
                  replace hx132_2:=(HB.out.cell (World.block_lt_of_cell? w _ hx132_2)).trans hx132_2
                  replace hx132_3:=(HB.out.cell (World.block_lt_of_cell? w _ hx132_3)).trans hx132_3
                  replace p132:=eq_true p132
                  replace q132:=eq_true q132
                  have p133 : 0 ≤ (x6_3 : Int):=of_decide_eq_true (by first | (with_reducible assumption) | assumption)
                  have q133 : x6_3 < (l0.length : Int):=of_decide_eq_true (by first | (with_reducible assumption) | assumption)
                  obtain ⟨ad133,e133,hx133_0,hx133_1,hx133_2,hx133_3⟩:=at_T67 HR0.out x6_3 p133 q133
                  obtain rfl : ad124 = ad133:=(by injection e133)
                  replace hx133_0:=(HB.out.cell (World.block_lt_of_cell? w _ hx133_0)).trans hx133_0
                  replace hx133_1:=(HB.out.cell (World.block_lt_of_cell? w _ hx133_1)).trans hx133_1
                  replace hx133_2:=(HB.out.cell (World.block_lt_of_cell? w _ hx133_2)).trans hx133_2
                  replace hx133_3:=(HB.out.cell (World.block_lt_of_cell? w _ hx133_3)).trans hx133_3
                  replace p133:=eq_true p133
                  replace q133:=eq_true q133
                  go_wp2
                  repeat (go_quiet (fail);try go_wp2)
                  go_roundg k3
                  case measure => have:=HK1.out;have:=HJ6.out;have:=HK3.out;omega
                  case rel => exact ⟨(wrap64 (x6_3 + 1)),(by first | rfl | (simp;done) | (simp [*];done)),H',⟨by have:=HK1.out;have:=HJ6.out;have:=HK3.out;omega⟩,⟨by (with_reducible repeat (first | refine blk_drewN ?_ _ | refine blk_drew ?_ | refine blk_alloc ?_ _));exact BK125.out⟩,⟨by repeat (first | (with_reducible first | exact HB.out | apply below_alloc | apply pw_below_drewN | apply below_drew1 | refine below_set ?_ GE125.out) | exact HB.out)⟩⟩
                ·rw [if_neg c23] at H
                 have c23b0 : (((rd_T67 l0 x6_3).f0) == 0) = false:=beq_eq_false_iff_ne.mpr c23
                 have c23b1 : (((rd_T67 l0 x6_3).f0) != 0) = true:=bne_iff_ne.mpr c23
                 have H':=Aside0.mk H
                 clear H
                 have hcz29_0 : wr.cell? ⟨gb125,0,none⟩ = some (.int .i64 ((rd_T67 l0 x3_1).f0)):=(blk_cell BK125.out 0).trans rfl
                 have hcz29_1 : wr.cell? ⟨gb125,1,none⟩ = some (.string ((rd_T67 l0 x3_1).f1)):=(blk_cell BK125.out 1).trans rfl
                 have hcz29_2 : wr.cell? ⟨gb125,2,none⟩ = some (.string ((rd_T67 l0 x3_1).f2)):=(blk_cell BK125.out 2).trans rfl
                 have hcz29_3 : wr.cell? ⟨gb125,3,none⟩ = some (.string ((rd_T67 l0 x3_1).f3)):=(blk_cell BK125.out 3).trans rfl
                 have hfz29_0:=blk_frozen BK125.out 0
                 have hfz29_1:=blk_frozen BK125.out 1
                 have hfz29_2:=blk_frozen BK125.out 2
                 have hfz29_3:=blk_frozen BK125.out 3
                 have p132 : 0 ≤ (x6_3 : Int):=of_decide_eq_true (by first | (with_reducible assumption) | assumption)
                 have q132 : x6_3 < (l0.length : Int):=of_decide_eq_true (by first | (with_reducible assumption) | assumption)
                 obtain ⟨ad132,e132,hx132_0,hx132_1,hx132_2,hx132_3⟩:=at_T67 HR0.out x6_3 p132 q132
                 obtain rfl : ad124 = ad132:=(by injection e132)
                 replace hx132_0:=(HB.out.cell (World.block_lt_of_cell? w _ hx132_0)).trans hx132_0
                 replace hx132_1:=(HB.out.cell (World.block_lt_of_cell? w _ hx132_1)).trans hx132_1
                 replace hx132_2:=(HB.out.cell (World.block_lt_of_cell? w _ hx132_2)).trans hx132_2
                 replace hx132_3:=(HB.out.cell (World.block_lt_of_cell? w _ hx132_3)).trans hx132_3
                 replace p132:=eq_true p132
                 replace q132:=eq_true q132
                 go_wp2
                 repeat (go_quiet (fail);try go_wp2)
                 go_roundg k3
                 case measure => have:=HK1.out;have:=HJ6.out;have:=HK3.out;omega
                 case rel => exact ⟨(wrap64 (x6_3 + 1)),(by first | rfl | (simp;done) | (simp [*];done)),H',⟨by have:=HK1.out;have:=HJ6.out;have:=HK3.out;omega⟩,⟨by (with_reducible repeat (first | refine blk_drewN ?_ _ | refine blk_drew ?_ | refine blk_alloc ?_ _));exact BK125.out⟩,⟨by repeat (first | (with_reducible first | exact HB.out | apply below_alloc | apply pw_below_drewN | apply below_drew1 | refine below_set ?_ GE125.out) | exact HB.out)⟩⟩
               ·rw [if_neg c22] at H
                exact absurd H (by simp)
              ·rw [if_neg c21] at H
               exact absurd H (by simp)
             ·rw [if_neg c20] at H
              have c20b0 : (((rd_T67 l0 x3_1).f0) == 0) = false:=beq_eq_false_iff_ne.mpr c20
              have c20b1 : (((rd_T67 l0 x3_1).f0) != 0) = true:=bne_iff_ne.mpr c20
              have H':=Aside0.mk H
              clear H
              have hcz30_0 : wr.cell? ⟨gb125,0,none⟩ = some (.int .i64 ((rd_T67 l0 x3_1).f0)):=(blk_cell BK125.out 0).trans rfl
              have hcz30_1 : wr.cell? ⟨gb125,1,none⟩ = some (.string ((rd_T67 l0 x3_1).f1)):=(blk_cell BK125.out 1).trans rfl
              have hcz30_2 : wr.cell? ⟨gb125,2,none⟩ = some (.string ((rd_T67 l0 x3_1).f2)):=(blk_cell BK125.out 2).trans rfl
              have hcz30_3 : wr.cell? ⟨gb125,3,none⟩ = some (.string ((rd_T67 l0 x3_1).f3)):=(blk_cell BK125.out 3).trans rfl
              have hfz30_0:=blk_frozen BK125.out 0
              have hfz30_1:=blk_frozen BK125.out 1
              have hfz30_2:=blk_frozen BK125.out 2
              have hfz30_3:=blk_frozen BK125.out 3
              go_wp2
              repeat (go_quiet (fail);try go_wp2)
              go_roundg k3
              case measure => have:=HK1.out;have:=HJ6.out;have:=HK3.out;omega
              case rel => exact ⟨(wrap64 (x6_3 + 1)),(by first | rfl | (simp;done) | (simp [*];done)),H',⟨by have:=HK1.out;have:=HJ6.out;have:=HK3.out;omega⟩,⟨by (with_reducible repeat (first | refine blk_drewN ?_ _ | refine blk_drew ?_ | refine blk_alloc ?_ _));exact BK125.out⟩,⟨by repeat (first | (with_reducible first | exact HB.out | apply below_alloc | apply pw_below_drewN | apply below_drew1 | refine below_set ?_ GE125.out) | exact HB.out)⟩⟩
            ·rw [if_neg c19] at H
             have c19b0 : decide (x6_3 < x3_1) = false:=decide_eq_false c19
             clear c19
             have HC31:=Aside0.mk H
             clear H
             go_upto_region 17 with (fail)
             repeat (go_quiet (fail);go_upto_region 17 with (fail))
             go_cut [83] (fun v83 wc => ∃ (kq : Nat) (x83_30 : Bool),v83 = .bool x83_30 ∧ Aside0 (metrolabref53_Check.j3 kq l0 x3_1 x83_30 ((rd_T67 l0 x3_1).f0) ((rd_T67 l0 x3_1).f1) ((rd_T67 l0 x3_1).f2) ((rd_T67 l0 x3_1).f3) = some r) ∧ Aside0 (kq ≤ k3) ∧ Aside0 (wc.heap[gb125]? = some (.cells #[.int .i64 ((rd_T67 l0 x3_1).f0),.string ((rd_T67 l0 x3_1).f1),.string ((rd_T67 l0 x3_1).f2),.string ((rd_T67 l0 x3_1).f3)] 67 (0,0))) ∧ Aside0 (Below w.heap.size w wc))
             case first =>
              have H:=HC31.out
              clear HC31
              by_cases c32 : ((rd_T67 l0 x3_1).f0) = 3
              ·rw [if_pos c32] at H
               have c32b0 : (((rd_T67 l0 x3_1).f0) == 3) = true:=beq_iff_eq.mpr c32
               have c32b1 : (((rd_T67 l0 x3_1).f0) != 3) = false:=bne_eq_false_iff_eq.mpr c32
               clear c32
               (first | rw [c32b0] | (simp only [i64_w,i32_w];rw [c32b0]) | skip)
               by_cases c33 : 0 ≤ x3_1
               ·rw [if_pos c33] at H
                have c33b0:=eq_true c33
                have c33b1 : decide (0 ≤ x3_1) = true:=decide_eq_true c33
                clear c33
                by_cases c34 : x3_1 ≤ (l0.length : Int)
                ·rw [if_pos c34] at H
                 have c34b0:=eq_true c34
                 have c34b1 : decide (x3_1 ≤ (l0.length : Int)) = true:=decide_eq_true c34
                 clear c34
                 obtain ⟨y135,hy135⟩ : ∃ y_ : List (S67),y_ = (l0.take (x3_1 : Int).toNat):=⟨_,rfl⟩
                 replace H : ((metrolabref53_Measured.f k3 y135 ((rd_T67 l0 x3_1).f2)).bind fun t139 => (metrolabref53_Check.j3 k3 l0 x3_1 (!t139) ((rd_T67 l0 x3_1).f0) ((rd_T67 l0 x3_1).f1) ((rd_T67 l0 x3_1).f2) ((rd_T67 l0 x3_1).f3))) = some r:=by first | (rw [hy135];with_reducible exact H) | (have H2_:=(Option.bind_some _ _).symm.trans H;rw [hy135];with_reducible exact H2_) | (have H2_:=(Option.bind_some _ _).symm.trans H;with_reducible exact H2_) | with_reducible exact H | (rw [hy135];exact H) | exact H
                 have Ny135:=Aside0.mk hy135
                 clear hy135
                 replace H:=Option.bind_eq_some_iff.mp H
                 obtain ⟨t139,A350,H⟩:=H
                 replace H : (metrolabref53_Check.j3 k3 l0 x3_1 (!t139) ((rd_T67 l0 x3_1).f0) ((rd_T67 l0 x3_1).f1) ((rd_T67 l0 x3_1).f2) ((rd_T67 l0 x3_1).f3)) = some r:=H
                 have A35:=Aside0.mk A350
                 clear A350
                 have H':=Aside0.mk H
                 clear H
                 have hcz36_0 : wr.cell? ⟨gb125,0,none⟩ = some (.int .i64 ((rd_T67 l0 x3_1).f0)):=(blk_cell BK125.out 0).trans rfl
                 have hcz36_1 : wr.cell? ⟨gb125,1,none⟩ = some (.string ((rd_T67 l0 x3_1).f1)):=(blk_cell BK125.out 1).trans rfl
                 have hcz36_2 : wr.cell? ⟨gb125,2,none⟩ = some (.string ((rd_T67 l0 x3_1).f2)):=(blk_cell BK125.out 2).trans rfl
                 have hcz36_3 : wr.cell? ⟨gb125,3,none⟩ = some (.string ((rd_T67 l0 x3_1).f3)):=(blk_cell BK125.out 3).trans rfl
                 have hfz36_0:=blk_frozen BK125.out 0
                 have hfz36_1:=blk_frozen BK125.out 1
                 have hfz36_2:=blk_frozen BK125.out 2
                 have hfz36_3:=blk_frozen BK125.out 3
                 have q37 : (x3_1 : Int) ≤ ((l0.length : Int) : Int):=of_decide_eq_true (by first | (with_reducible assumption) | assumption)
                 obtain ⟨i037,hi037,_,hsz37,_⟩:=info_parts info67
                 have hroom37 : l0.length ≤ c0:=HC0.out
                 have hC37 : Kd.C k67 _ (some ad124) l0.length l0:=HR0.out
                 have hcut37:=cut_to (P:=Try.prog) 31 67 .i64 Try.underlying31 hi037 (some ad124) l0.length c0 x3_1 (of_decide_eq_true (by first | (with_reducible assumption) | assumption)) q37 hroom37
                 have hr37:=Kd.C_take (m:=(x3_1 : Int).toNat) hC37 (by omega)
                 have hy37 : y135.length = (x3_1 : Int).toNat:=(by rw [Ny135.out,List.length_take];omega)
                 rw [← Ny135.out] at hr37
                 rw [← hy37] at hcut37
                 have HR138:=Aside0.mk hr37
                 have HC138:=Aside0.mk (show y135.length ≤ c0 from by omega)
                 clear hr37 hC37 hroom37 hi037 hsz37
                 have KY37:=Aside0.mk hy37
                 clear hy37
                 replace q37:=eq_true q37
                 go_wp2_with (first | (go_at_call 46;(with_reducible refine (metrolabref53_Measured.calls k3 _ _ y135 ((rd_T67 l0 x3_1).f2) t139 _ ?side1 ?side2 A35.out).mono ?_);(case side1 => repeat (first | exact (Kd.C_below HR138.out HB.out) | (with_reducible refine Kd.C_alloc ?_ _) | (with_reducible refine Kd.C_drewN ?_ _) | (with_reducible refine Kd.C_drew ?_)));(case side2 => exact HC138.out);rintro e w' ⟨rfl,⟨nd,rfl⟩⟩;(try first | exact ⟨rfl,_,World.drewN_drewN _ _ _⟩ | exact ⟨rfl,_,Eq.trans (World.drewN_drewN _ _ _) (congrArg (World.drewN _) (Nat.add_assoc _ _ _))⟩)))
                 repeat (go_quiet (first | (go_at_call 46;(with_reducible refine (metrolabref53_Measured.calls k3 _ _ y135 ((rd_T67 l0 x3_1).f2) t139 _ ?side1 ?side2 A35.out).mono ?_);(case side1 => repeat (first | exact (Kd.C_below HR138.out HB.out) | (with_reducible refine Kd.C_alloc ?_ _) | (with_reducible refine Kd.C_drewN ?_ _) | (with_reducible refine Kd.C_drew ?_)));(case side2 => exact HC138.out);rintro e w' ⟨rfl,⟨nd,rfl⟩⟩;(try first | exact ⟨rfl,_,World.drewN_drewN _ _ _⟩ | exact ⟨rfl,_,Eq.trans (World.drewN_drewN _ _ _) (congrArg (World.drewN _) (Nat.add_assoc _ _ _))⟩)));try go_wp2_with (first | (go_at_call 46;(with_reducible refine (metrolabref53_Measured.calls k3 _ _ y135 ((rd_T67 l0 x3_1).f2) t139 _ ?side1 ?side2 A35.out).mono ?_);(case side1 => repeat (first | exact (Kd.C_below HR138.out HB.out) | (with_reducible refine Kd.C_alloc ?_ _) | (with_reducible refine Kd.C_drewN ?_ _) | (with_reducible refine Kd.C_drew ?_)));(case side2 => exact HC138.out);rintro e w' ⟨rfl,⟨nd,rfl⟩⟩;(try first | exact ⟨rfl,_,World.drewN_drewN _ _ _⟩ | exact ⟨rfl,_,Eq.trans (World.drewN_drewN _ _ _) (congrArg (World.drewN _) (Nat.add_assoc _ _ _))⟩))))
                 go_meet
                 case rel => exact ⟨_,(!t139),(by first | rfl | (simp;done) | (simp [*];done)),H',⟨by have:=HK1.out;have:=HJ6.out;have:=HK3.out;first | omega | exact Nat.le_refl _⟩,⟨by (with_reducible repeat (first | refine blk_drewN ?_ _ | refine blk_drew ?_ | refine blk_alloc ?_ _));exact BK125.out⟩,⟨by repeat (first | (with_reducible first | exact HB.out | apply below_alloc | apply pw_below_drewN | apply below_drew1 | refine below_set ?_ GE125.out) | exact HB.out)⟩⟩
                ·rw [if_neg c34] at H
                 exact absurd H (by simp)
               ·rw [if_neg c33] at H
                exact absurd H (by simp)
              ·rw [if_neg c32] at H
               have c32b0 : (((rd_T67 l0 x3_1).f0) == 3) = false:=beq_eq_false_iff_ne.mpr c32
               have c32b1 : (((rd_T67 l0 x3_1).f0) != 3) = true:=bne_iff_ne.mpr c32
               (first | rw [c32b0] | (simp only [i64_w,i32_w];rw [c32b0]) | skip)
               have H':=Aside0.mk H
               clear H
               have hcz38_0 : wr.cell? ⟨gb125,0,none⟩ = some (.int .i64 ((rd_T67 l0 x3_1).f0)):=(blk_cell BK125.out 0).trans rfl
               have hcz38_1 : wr.cell? ⟨gb125,1,none⟩ = some (.string ((rd_T67 l0 x3_1).f1)):=(blk_cell BK125.out 1).trans rfl
               have hcz38_2 : wr.cell? ⟨gb125,2,none⟩ = some (.string ((rd_T67 l0 x3_1).f2)):=(blk_cell BK125.out 2).trans rfl
               have hcz38_3 : wr.cell? ⟨gb125,3,none⟩ = some (.string ((rd_T67 l0 x3_1).f3)):=(blk_cell BK125.out 3).trans rfl
               have hfz38_0:=blk_frozen BK125.out 0
               have hfz38_1:=blk_frozen BK125.out 1
               have hfz38_2:=blk_frozen BK125.out 2
               have hfz38_3:=blk_frozen BK125.out 3
               go_wp2
               repeat (go_quiet (fail);try go_wp2)
               go_meet
               case rel => exact ⟨_,(false),(by first | rfl | (simp;done) | (simp [*];done)),H',⟨by have:=HK1.out;have:=HJ6.out;have:=HK3.out;first | omega | exact Nat.le_refl _⟩,⟨by (with_reducible repeat (first | refine blk_drewN ?_ _ | refine blk_drew ?_ | refine blk_alloc ?_ _));exact BK125.out⟩,⟨by repeat (first | (with_reducible first | exact HB.out | apply below_alloc | apply pw_below_drewN | apply below_drew1 | refine below_set ?_ GE125.out) | exact HB.out)⟩⟩
             case rest =>
              clear HC31
              try clear c1
              try clear p1
              try clear q1
              try clear hx1
              try clear c2
              try clear c2b0
              try clear c2b1
              try clear p2
              try clear c3
              try clear c3b0
              try clear q3
              try clear c4
              try clear c4b0
              try clear c6
              try clear c6b0
              try clear c6b1
              try clear p6
              try clear c11
              try clear c11b0
              try clear c11b1
              try clear c12
              try clear c12b0
              try clear p12
              try clear q12
              try clear hx12
              try clear c13
              try clear c13b0
              try clear c13b1
              try clear p13
              try clear q13
              try clear hx13
              try clear q16
              try clear c17
              try clear c18
              try clear c19
              try clear c19b0
              try clear c20
              try clear c20b0
              try clear c20b1
              try clear c21
              try clear c21b0
              try clear c22
              try clear c22b0
              try clear c23
              try clear c23b0
              try clear c23b1
              try clear c24
              try clear c24b0
              try clear c24b1
              try clear c25
              try clear c25b0
              try clear c25b1
              try clear c32
              try clear c32b0
              try clear c32b1
              try clear c33
              try clear c33b0
              try clear c33b1
              try clear c34
              try clear c34b0
              try clear c34b1
              try clear q37
              try clear hcz15_0
              try clear hcz15_1
              try clear hcz15_2
              try clear hcz15_3
              try clear hcz17_0
              try clear hcz17_1
              try clear hcz17_2
              try clear hcz17_3
              try clear hcz26_0
              try clear hcz26_1
              try clear hcz26_2
              try clear hcz26_3
              try clear hcz27_0
              try clear hcz27_1
              try clear hcz27_2
              try clear hcz27_3
              try clear hcz28_0
              try clear hcz28_1
              try clear hcz28_2
              try clear hcz28_3
              try clear hcz29_0
              try clear hcz29_1
              try clear hcz29_2
              try clear hcz29_3
              try clear hcz30_0
              try clear hcz30_1
              try clear hcz30_2
              try clear hcz30_3
              try clear hcz36_0
              try clear hcz36_1
              try clear hcz36_2
              try clear hcz36_3
              try clear hcz38_0
              try clear hcz38_1
              try clear hcz38_2
              try clear hcz38_3
              try clear hcz9_0
              try clear hcz9_1
              try clear hcz9_2
              try clear hcz9_3
              try clear hfz15_0
              try clear hfz15_1
              try clear hfz15_2
              try clear hfz15_3
              try clear hfz17_0
              try clear hfz17_1
              try clear hfz17_2
              try clear hfz17_3
              try clear hfz26_0
              try clear hfz26_1
              try clear hfz26_2
              try clear hfz26_3
              try clear hfz27_0
              try clear hfz27_1
              try clear hfz27_2
              try clear hfz27_3
              try clear hfz28_0
              try clear hfz28_1
              try clear hfz28_2
              try clear hfz28_3
              try clear hfz29_0
              try clear hfz29_1
              try clear hfz29_2
              try clear hfz29_3
              try clear hfz30_0
              try clear hfz30_1
              try clear hfz30_2
              try clear hfz30_3
              try clear hfz36_0
              try clear hfz36_1
              try clear hfz36_2
              try clear hfz36_3
              try clear hfz38_0
              try clear hfz38_1
              try clear hfz38_2
              try clear hfz38_3
              try clear hfz9_0
              try clear hfz9_1
              try clear hfz9_2
              try clear hfz9_3
              try clear hx124_0
              try clear hx124_1
              try clear hx124_2
              try clear hx124_3
              try clear hx132_0
              try clear hx132_1
              try clear hx132_2
              try clear hx132_3
              try clear hx133_0
              try clear hx133_1
              try clear hx133_2
              try clear hx133_3
              try clear hx134_0
              try clear hx134_1
              try clear hx134_2
              try clear hx134_3
              try clear p1
              try clear p12
              try clear p124
              try clear p132
              try clear p133
              try clear p134
              try clear p2
              try clear q1
              try clear q12
              try clear q124
              try clear q132
              try clear q133
              try clear q134
              try clear q16
              try clear q37
              obtain ⟨kq,x83_30,rfl,HA,HJ30,BK125,HB⟩:=hcut
              cases kq with
              | zero => exact absurd HA.out (by simp [metrolabref53_Check.j3])
              | succ kj30 =>
               have H:=HA.out
               clear HA
               simp only [metrolabref53_Check.j3] at H
               by_cases c39 : x83_30 = true
               ·subst c39
                have H1 : (some 6) = some r:=by rw [if_pos rfl] at H;exact H
                clear H
                have H:=H1
                clear H1
                obtain rfl:=Option.some.inj H
                go_wp2
                repeat (go_quiet (fail);try go_wp2)
                go_ret
                exact ⟨by first | rfl | (simp [errW_none,errW_some] <;> rfl) | (simp [*,errW_none,errW_some] <;> rfl),by repeat (first | (with_reducible first | exact HB.out | apply below_alloc | apply pw_below_drewN | apply below_drew1 | refine below_set ?_ GE125.out) | exact HB.out)⟩
               ·replace c39:=Bool.eq_false_iff.mpr c39
                subst c39
                have H1 : (if ((rd_T67 l0 x3_1).f0) = 3 then (if 0 ≤ x3_1 then (if x3_1 ≤ (l0.length : Int) then ((metrolabref53_Withdrawn.f kj30 (l0.take (x3_1 : Int).toNat) ((rd_T67 l0 x3_1).f2)).bind fun t144 => (if t144 = true then (some 14) else (metrolabref53_Check.l0 kj30 l0 (wrap64 (x3_1 + 1))))) else (none)) else (none)) else (metrolabref53_Check.l0 kj30 l0 (wrap64 (x3_1 + 1)))) = some r:=by rw [if_neg (show ¬ (false = true) by decide)] at H;exact H
                clear H
                have H:=H1
                clear H1
                by_cases c40 : ((rd_T67 l0 x3_1).f0) = 3
                ·rw [if_pos c40] at H
                 have c40b0 : (((rd_T67 l0 x3_1).f0) == 3) = true:=beq_iff_eq.mpr c40
                 have c40b1 : (((rd_T67 l0 x3_1).f0) != 3) = false:=bne_eq_false_iff_eq.mpr c40
                 clear c40
                 by_cases c41 : 0 ≤ x3_1
                 ·rw [if_pos c41] at H
                  have c41b0:=eq_true c41
                  have c41b1 : decide (0 ≤ x3_1) = true:=decide_eq_true c41
                  clear c41
                  by_cases c42 : x3_1 ≤ (l0.length : Int)
                  ·rw [if_pos c42] at H
                   have c42b0:=eq_true c42
                   have c42b1 : decide (x3_1 ≤ (l0.length : Int)) = true:=decide_eq_true c42
                   clear c42
                   obtain ⟨y140,hy140⟩ : ∃ y_ : List (S67),y_ = (l0.take (x3_1 : Int).toNat):=⟨_,rfl⟩
                   replace H : ((metrolabref53_Withdrawn.f kj30 y140 ((rd_T67 l0 x3_1).f2)).bind fun t144 => (if t144 = true then (some 14) else (metrolabref53_Check.l0 kj30 l0 (wrap64 (x3_1 + 1))))) = some r:=by first | (rw [hy140];with_reducible exact H) | (have H2_:=(Option.bind_some _ _).symm.trans H;rw [hy140];with_reducible exact H2_) | (have H2_:=(Option.bind_some _ _).symm.trans H;with_reducible exact H2_) | with_reducible exact H | (rw [hy140];exact H) | exact H
                   have Ny140:=Aside0.mk hy140
                   clear hy140
                   replace H:=Option.bind_eq_some_iff.mp H
                   obtain ⟨t144,A430,H⟩:=H
                   replace H : (if t144 = true then (some 14) else (metrolabref53_Check.l0 kj30 l0 (wrap64 (x3_1 + 1)))) = some r:=H
                   have A43:=Aside0.mk A430
                   clear A430
                   by_cases c44 : t144 = true
                   ·subst c44
                    have H1 : (some 14) = some r:=by rw [if_pos rfl] at H;exact H
                    clear H
                    have H:=H1
                    clear H1
                    obtain rfl:=Option.some.inj H
                    have hcz45_0 : wc.cell? ⟨gb125,0,none⟩ = some (.int .i64 ((rd_T67 l0 x3_1).f0)):=(blk_cell BK125.out 0).trans rfl
                    have hcz45_1 : wc.cell? ⟨gb125,1,none⟩ = some (.string ((rd_T67 l0 x3_1).f1)):=(blk_cell BK125.out 1).trans rfl
                    have hcz45_2 : wc.cell? ⟨gb125,2,none⟩ = some (.string ((rd_T67 l0 x3_1).f2)):=(blk_cell BK125.out 2).trans rfl
                    have hcz45_3 : wc.cell? ⟨gb125,3,none⟩ = some (.string ((rd_T67 l0 x3_1).f3)):=(blk_cell BK125.out 3).trans rfl
                    have hfz45_0:=blk_frozen BK125.out 0
                    have hfz45_1:=blk_frozen BK125.out 1
                    have hfz45_2:=blk_frozen BK125.out 2
                    have hfz45_3:=blk_frozen BK125.out 3
                    have q46 : (x3_1 : Int) ≤ ((l0.length : Int) : Int):=of_decide_eq_true (by first | (with_reducible assumption) | assumption)
                    obtain ⟨i046,hi046,_,hsz46,_⟩:=info_parts info67
                    have hroom46 : l0.length ≤ c0:=HC0.out
                    have hC46 : Kd.C k67 _ (some ad124) l0.length l0:=HR0.out
                    have hcut46:=cut_to (P:=Try.prog) 31 67 .i64 Try.underlying31 hi046 (some ad124) l0.length c0 x3_1 (of_decide_eq_true (by first | (with_reducible assumption) | assumption)) q46 hroom46
                    have hr46:=Kd.C_take (m:=(x3_1 : Int).toNat) hC46 (by omega)
                    have hy46 : y140.length = (x3_1 : Int).toNat:=(by rw [Ny140.out,List.length_take];omega)
                    rw [← Ny140.out] at hr46
                    rw [← hy46] at hcut46
                    have HR143:=Aside0.mk hr46
                    have HC143:=Aside0.mk (show y140.length ≤ c0 from by omega)
                    clear hr46 hC46 hroom46 hi046 hsz46
                    have KY46:=Aside0.mk hy46
                    clear hy46
                    replace q46:=eq_true q46
                    go_wp2_with (first | (go_at_call 45;(with_reducible refine (metrolabref53_Withdrawn.calls kj30 _ _ y140 ((rd_T67 l0 x3_1).f2) true _ ?side1 ?side2 A43.out).mono ?_);(case side1 => repeat (first | exact (Kd.C_below HR143.out HB.out) | (with_reducible refine Kd.C_alloc ?_ _) | (with_reducible refine Kd.C_drewN ?_ _) | (with_reducible refine Kd.C_drew ?_)));(case side2 => exact HC143.out);rintro e w' ⟨rfl,⟨nd,rfl⟩⟩;(try first | exact ⟨rfl,_,World.drewN_drewN _ _ _⟩ | exact ⟨rfl,_,Eq.trans (World.drewN_drewN _ _ _) (congrArg (World.drewN _) (Nat.add_assoc _ _ _))⟩)))
                    repeat (go_quiet (first | (go_at_call 45;(with_reducible refine (metrolabref53_Withdrawn.calls kj30 _ _ y140 ((rd_T67 l0 x3_1).f2) true _ ?side1 ?side2 A43.out).mono ?_);(case side1 => repeat (first | exact (Kd.C_below HR143.out HB.out) | (with_reducible refine Kd.C_alloc ?_ _) | (with_reducible refine Kd.C_drewN ?_ _) | (with_reducible refine Kd.C_drew ?_)));(case side2 => exact HC143.out);rintro e w' ⟨rfl,⟨nd,rfl⟩⟩;(try first | exact ⟨rfl,_,World.drewN_drewN _ _ _⟩ | exact ⟨rfl,_,Eq.trans (World.drewN_drewN _ _ _) (congrArg (World.drewN _) (Nat.add_assoc _ _ _))⟩)));try go_wp2_with (first | (go_at_call 45;(with_reducible refine (metrolabref53_Withdrawn.calls kj30 _ _ y140 ((rd_T67 l0 x3_1).f2) true _ ?side1 ?side2 A43.out).mono ?_);(case side1 => repeat (first | exact (Kd.C_below HR143.out HB.out) | (with_reducible refine Kd.C_alloc ?_ _) | (with_reducible refine Kd.C_drewN ?_ _) | (with_reducible refine Kd.C_drew ?_)));(case side2 => exact HC143.out);rintro e w' ⟨rfl,⟨nd,rfl⟩⟩;(try first | exact ⟨rfl,_,World.drewN_drewN _ _ _⟩ | exact ⟨rfl,_,Eq.trans (World.drewN_drewN _ _ _) (congrArg (World.drewN _) (Nat.add_assoc _ _ _))⟩))))
                    go_ret
                    exact ⟨by first | rfl | (simp [errW_none,errW_some] <;> rfl) | (simp [*,errW_none,errW_some] <;> rfl),by repeat (first | (with_reducible first | exact HB.out | apply below_alloc | apply pw_below_drewN | apply below_drew1 | refine below_set ?_ GE125.out) | exact HB.out)⟩
                   ·replace c44:=Bool.eq_false_iff.mpr c44
                    subst c44
                    have H1 : (metrolabref53_Check.l0 kj30 l0 (wrap64 (x3_1 + 1))) = some r:=by rw [if_neg (show ¬ (false = true) by decide)] at H;exact H
                    clear H
                    have H:=H1
                    clear H1
                    have H':=Aside0.mk H
                    clear H
                    have hcz47_0 : wc.cell? ⟨gb125,0,none⟩ = some (.int .i64 ((rd_T67 l0 x3_1).f0)):=(blk_cell BK125.out 0).trans rfl
                    have hcz47_1 : wc.cell? ⟨gb125,1,none⟩ = some (.string ((rd_T67 l0 x3_1).f1)):=(blk_cell BK125.out 1).trans rfl
                    have hcz47_2 : wc.cell? ⟨gb125,2,none⟩ = some (.string ((rd_T67 l0 x3_1).f2)):=(blk_cell BK125.out 2).trans rfl
                    have hcz47_3 : wc.cell? ⟨gb125,3,none⟩ = some (.string ((rd_T67 l0 x3_1).f3)):=(blk_cell BK125.out 3).trans rfl
                    have hfz47_0:=blk_frozen BK125.out 0
                    have hfz47_1:=blk_frozen BK125.out 1
                    have hfz47_2:=blk_frozen BK125.out 2
                    have hfz47_3:=blk_frozen BK125.out 3
                    have q48 : (x3_1 : Int) ≤ ((l0.length : Int) : Int):=of_decide_eq_true (by first | (with_reducible assumption) | assumption)
                    obtain ⟨i048,hi048,_,hsz48,_⟩:=info_parts info67
                    have hroom48 : l0.length ≤ c0:=HC0.out
                    have hC48 : Kd.C k67 _ (some ad124) l0.length l0:=HR0.out
                    have hcut48:=cut_to (P:=Try.prog) 31 67 .i64 Try.underlying31 hi048 (some ad124) l0.length c0 x3_1 (of_decide_eq_true (by first | (with_reducible assumption) | assumption)) q48 hroom48
                    have hr48:=Kd.C_take (m:=(x3_1 : Int).toNat) hC48 (by omega)
                    have hy48 : y140.length = (x3_1 : Int).toNat:=(by rw [Ny140.out,List.length_take];omega)
                    rw [← Ny140.out] at hr48
                    rw [← hy48] at hcut48
                    have HR143:=Aside0.mk hr48
                    have HC143:=Aside0.mk (show y140.length ≤ c0 from by omega)
                    clear hr48 hC48 hroom48 hi048 hsz48
                    have KY48:=Aside0.mk hy48
                    clear hy48
                    replace q48:=eq_true q48
                    go_wp2_with (first | (go_at_call 45;(with_reducible refine (metrolabref53_Withdrawn.calls kj30 _ _ y140 ((rd_T67 l0 x3_1).f2) false _ ?side1 ?side2 A43.out).mono ?_);(case side1 => repeat (first | exact (Kd.C_below HR143.out HB.out) | (with_reducible refine Kd.C_alloc ?_ _) | (with_reducible refine Kd.C_drewN ?_ _) | (with_reducible refine Kd.C_drew ?_)));(case side2 => exact HC143.out);rintro e w' ⟨rfl,⟨nd,rfl⟩⟩;(try first | exact ⟨rfl,_,World.drewN_drewN _ _ _⟩ | exact ⟨rfl,_,Eq.trans (World.drewN_drewN _ _ _) (congrArg (World.drewN _) (Nat.add_assoc _ _ _))⟩)))
                    repeat (go_quiet (first | (go_at_call 45;(with_reducible refine (metrolabref53_Withdrawn.calls kj30 _ _ y140 ((rd_T67 l0 x3_1).f2) false _ ?side1 ?side2 A43.out).mono ?_);(case side1 => repeat (first | exact (Kd.C_below HR143.out HB.out) | (with_reducible refine Kd.C_alloc ?_ _) | (with_reducible refine Kd.C_drewN ?_ _) | (with_reducible refine Kd.C_drew ?_)));(case side2 => exact HC143.out);rintro e w' ⟨rfl,⟨nd,rfl⟩⟩;(try first | exact ⟨rfl,_,World.drewN_drewN _ _ _⟩ | exact ⟨rfl,_,Eq.trans (World.drewN_drewN _ _ _) (congrArg (World.drewN _) (Nat.add_assoc _ _ _))⟩)));try go_wp2_with (first | (go_at_call 45;(with_reducible refine (metrolabref53_Withdrawn.calls kj30 _ _ y140 ((rd_T67 l0 x3_1).f2) false _ ?side1 ?side2 A43.out).mono ?_);(case side1 => repeat (first | exact (Kd.C_below HR143.out HB.out) | (with_reducible refine Kd.C_alloc ?_ _) | (with_reducible refine Kd.C_drewN ?_ _) | (with_reducible refine Kd.C_drew ?_)));(case side2 => exact HC143.out);rintro e w' ⟨rfl,⟨nd,rfl⟩⟩;(try first | exact ⟨rfl,_,World.drewN_drewN _ _ _⟩ | exact ⟨rfl,_,Eq.trans (World.drewN_drewN _ _ _) (congrArg (World.drewN _) (Nat.add_assoc _ _ _))⟩))))
                    go_roundg kj30
                    case measure => have:=HK1.out;have:=HJ6.out;have:=HK3.out;have:=HJ30.out;omega
                    case rel => exact ⟨(wrap64 (x3_1 + 1)),(by first | rfl | (simp;done) | (simp [*];done)),H',⟨by have:=HK1.out;have:=HJ6.out;have:=HK3.out;have:=HJ30.out;omega⟩,⟨by repeat (first | (with_reducible first | exact HB.out | apply below_alloc | apply pw_below_drewN | apply below_drew1 | refine below_set ?_ GE125.out) | exact HB.out)⟩⟩
                  ·rw [if_neg c42] at H
                   exact absurd H (by simp)
                 ·rw [if_neg c41] at H
                  exact absurd H (by simp)
                ·rw [if_neg c40] at H
                 have c40b0 : (((rd_T67 l0 x3_1).f0) == 3) = false:=beq_eq_false_iff_ne.mpr c40
                 have c40b1 : (((rd_T67 l0 x3_1).f0) != 3) = true:=bne_iff_ne.mpr c40
                 have H':=Aside0.mk H
                 clear H
                 have hcz49_0 : wc.cell? ⟨gb125,0,none⟩ = some (.int .i64 ((rd_T67 l0 x3_1).f0)):=(blk_cell BK125.out 0).trans rfl
                 have hcz49_1 : wc.cell? ⟨gb125,1,none⟩ = some (.string ((rd_T67 l0 x3_1).f1)):=(blk_cell BK125.out 1).trans rfl
                 have hcz49_2 : wc.cell? ⟨gb125,2,none⟩ = some (.string ((rd_T67 l0 x3_1).f2)):=(blk_cell BK125.out 2).trans rfl
                 have hcz49_3 : wc.cell? ⟨gb125,3,none⟩ = some (.string ((rd_T67 l0 x3_1).f3)):=(blk_cell BK125.out 3).trans rfl
                 have hfz49_0:=blk_frozen BK125.out 0
                 have hfz49_1:=blk_frozen BK125.out 1
                 have hfz49_2:=blk_frozen BK125.out 2
                 have hfz49_3:=blk_frozen BK125.out 3
                 go_wp2
                 repeat (go_quiet (fail);try go_wp2)
                 go_roundg kj30
                 case measure => have:=HK1.out;have:=HJ6.out;have:=HK3.out;have:=HJ30.out;omega
                 case rel => exact ⟨(wrap64 (x3_1 + 1)),(by first | rfl | (simp;done) | (simp [*];done)),H',⟨by have:=HK1.out;have:=HJ6.out;have:=HK3.out;have:=HJ30.out;omega⟩,⟨by repeat (first | (with_reducible first | exact HB.out | apply below_alloc | apply pw_below_drewN | apply below_drew1 | refine below_set ?_ GE125.out) | exact HB.out)⟩⟩
      ·rw [if_neg c6] at H
       have c6b0 : (t126 == 0) = false:=beq_eq_false_iff_ne.mpr c6
       have c6b1 : (t126 != 0) = true:=bne_iff_ne.mpr c6
       obtain rfl:=Option.some.inj H
       have p124 : 0 ≤ (x3_1 : Int):=of_decide_eq_true (by first | (with_reducible assumption) | assumption)
       have q124 : x3_1 < (l0.length : Int):=of_decide_eq_true (by first | (with_reducible assumption) | assumption)
       obtain ⟨ad124,e124,hx124_0,hx124_1,hx124_2,hx124_3⟩:=at_T67 HR0.out x3_1 p124 q124
       cases e124
       replace hx124_0:=(HB.out.cell (World.block_lt_of_cell? w _ hx124_0)).trans hx124_0
       replace hx124_1:=(HB.out.cell (World.block_lt_of_cell? w _ hx124_1)).trans hx124_1
       replace hx124_2:=(HB.out.cell (World.block_lt_of_cell? w _ hx124_2)).trans hx124_2
       replace hx124_3:=(HB.out.cell (World.block_lt_of_cell? w _ hx124_3)).trans hx124_3
       replace p124:=eq_true p124
       replace q124:=eq_true q124
       go_wp2_with (first | ((with_reducible refine gate_dst (N:=4) rfl ?_);refine box_event ?hg (N:=4) ?hd (cs:=#[.int .i64 0,.string (⟨#[]⟩ : ByteArray),.string (⟨#[]⟩ : ByteArray),.string (⟨#[]⟩ : ByteArray)]) (t:=67) ?hr ?_;(case hd => rfl);(case hg => rfl);(case hr => first | (go_simp;done) | (go_simp;rfl));intro gb125 hg w50 hbox hb;have n0_:=Aside0.mk (below_step (by repeat (first | (with_reducible first | exact HB.out | apply below_alloc | apply pw_below_drewN | apply below_drew1) | exact HB.out)) hb);have n1_:=Aside0.mk (hbox);have n2_:=Aside0.mk ((by rw [hg];exact (below_size (by repeat (first | (with_reducible first | exact HB.out | apply below_alloc | apply pw_below_drewN | apply below_drew1) | exact HB.out))) : w.heap.size ≤ gb125));have n3_:=Aside0.mk ((by rw [hg];exact (below_size (by repeat (first | (with_reducible first | exact HB.out | apply below_alloc | apply pw_below_drewN | apply below_drew1) | exact HB.out))) : w.heap.size ≤ gb125));clear HB;have HB:=n0_;have BK125:=n1_;have GW125:=n2_;have GE125:=n3_;clear n0_ n1_ n2_ n3_;clear hb hbox hg;have hcz51_0 : w50.cell? ⟨gb125,0,none⟩ = some (.int .i64 0):=(blk_cell BK125.out 0).trans rfl;have hcz51_1 : w50.cell? ⟨gb125,1,none⟩ = some (.string (⟨#[]⟩ : ByteArray)):=(blk_cell BK125.out 1).trans rfl;have hcz51_2 : w50.cell? ⟨gb125,2,none⟩ = some (.string (⟨#[]⟩ : ByteArray)):=(blk_cell BK125.out 2).trans rfl;have hcz51_3 : w50.cell? ⟨gb125,3,none⟩ = some (.string (⟨#[]⟩ : ByteArray)):=(blk_cell BK125.out 3).trans rfl;have hfz51_0:=blk_frozen BK125.out 0;have hfz51_1:=blk_frozen BK125.out 1;have hfz51_2:=blk_frozen BK125.out 2;have hfz51_3:=blk_frozen BK125.out 3) | (go_at_call 44;(with_reducible refine (metrolabref53_form.calls k1 ((rd_T67 l0 x3_1).f0) ((rd_T67 l0 x3_1).f1) ((rd_T67 l0 x3_1).f2) ((rd_T67 l0 x3_1).f3) t126 _ A5.out).mono ?_);rintro e w52 ⟨rfl,hb⟩;have n0_:=Aside0.mk (blk_below (g:=gb125) (o:=.cells #[.int .i64 ((rd_T67 l0 x3_1).f0),.string ((rd_T67 l0 x3_1).f1),.string ((rd_T67 l0 x3_1).f2),.string ((rd_T67 l0 x3_1).f3)] 67 (0,0)) (by (with_reducible repeat (first | refine blk_drewN ?_ _ | refine blk_drew ?_ | refine blk_alloc ?_ _));refine blk_put (cs:=#[.int .i64 ((rd_T67 l0 x3_1).f0),.string ((rd_T67 l0 x3_1).f1),.string ((rd_T67 l0 x3_1).f2),.string (⟨#[]⟩ : ByteArray)]) ?_ 3 _ rfl;(with_reducible repeat (first | refine blk_drewN ?_ _ | refine blk_drew ?_ | refine blk_alloc ?_ _));refine blk_put (cs:=#[.int .i64 ((rd_T67 l0 x3_1).f0),.string ((rd_T67 l0 x3_1).f1),.string (⟨#[]⟩ : ByteArray),.string (⟨#[]⟩ : ByteArray)]) ?_ 2 _ rfl;(with_reducible repeat (first | refine blk_drewN ?_ _ | refine blk_drew ?_ | refine blk_alloc ?_ _));refine blk_put (cs:=#[.int .i64 ((rd_T67 l0 x3_1).f0),.string (⟨#[]⟩ : ByteArray),.string (⟨#[]⟩ : ByteArray),.string (⟨#[]⟩ : ByteArray)]) ?_ 1 _ rfl;(with_reducible repeat (first | refine blk_drewN ?_ _ | refine blk_drew ?_ | refine blk_alloc ?_ _));refine blk_put (cs:=#[.int .i64 0,.string (⟨#[]⟩ : ByteArray),.string (⟨#[]⟩ : ByteArray),.string (⟨#[]⟩ : ByteArray)]) ?_ 0 _ rfl;(with_reducible repeat (first | refine blk_drewN ?_ _ | refine blk_drew ?_ | refine blk_alloc ?_ _));exact BK125.out) hb);have n1_:=Aside0.mk (below_step (by repeat (first | (with_reducible first | exact HB.out | apply below_alloc | apply pw_below_drewN | apply below_drew1 | refine below_set ?_ GE125.out) | exact HB.out)) hb);clear BK125;clear HB;have BK125:=n0_;have HB:=n1_;clear n0_ n1_;(try clear hb);(try clear hb2);(try clear hk);(try clear hi)))
       repeat (go_quiet (first | ((with_reducible refine gate_dst (N:=4) rfl ?_);refine box_event ?hg (N:=4) ?hd (cs:=#[.int .i64 0,.string (⟨#[]⟩ : ByteArray),.string (⟨#[]⟩ : ByteArray),.string (⟨#[]⟩ : ByteArray)]) (t:=67) ?hr ?_;(case hd => rfl);(case hg => rfl);(case hr => first | (go_simp;done) | (go_simp;rfl));intro gb125 hg w50 hbox hb;have n0_:=Aside0.mk (below_step (by repeat (first | (with_reducible first | exact HB.out | apply below_alloc | apply pw_below_drewN | apply below_drew1) | exact HB.out)) hb);have n1_:=Aside0.mk (hbox);have n2_:=Aside0.mk ((by rw [hg];exact (below_size (by repeat (first | (with_reducible first | exact HB.out | apply below_alloc | apply pw_below_drewN | apply below_drew1) | exact HB.out))) : w.heap.size ≤ gb125));have n3_:=Aside0.mk ((by rw [hg];exact (below_size (by repeat (first | (with_reducible first | exact HB.out | apply below_alloc | apply pw_below_drewN | apply below_drew1) | exact HB.out))) : w.heap.size ≤ gb125));clear HB;have HB:=n0_;have BK125:=n1_;have GW125:=n2_;have GE125:=n3_;clear n0_ n1_ n2_ n3_;clear hb hbox hg;have hcz51_0 : w50.cell? ⟨gb125,0,none⟩ = some (.int .i64 0):=(blk_cell BK125.out 0).trans rfl;have hcz51_1 : w50.cell? ⟨gb125,1,none⟩ = some (.string (⟨#[]⟩ : ByteArray)):=(blk_cell BK125.out 1).trans rfl;have hcz51_2 : w50.cell? ⟨gb125,2,none⟩ = some (.string (⟨#[]⟩ : ByteArray)):=(blk_cell BK125.out 2).trans rfl;have hcz51_3 : w50.cell? ⟨gb125,3,none⟩ = some (.string (⟨#[]⟩ : ByteArray)):=(blk_cell BK125.out 3).trans rfl;have hfz51_0:=blk_frozen BK125.out 0;have hfz51_1:=blk_frozen BK125.out 1;have hfz51_2:=blk_frozen BK125.out 2;have hfz51_3:=blk_frozen BK125.out 3) | (go_at_call 44;(with_reducible refine (metrolabref53_form.calls k1 ((rd_T67 l0 x3_1).f0) ((rd_T67 l0 x3_1).f1) ((rd_T67 l0 x3_1).f2) ((rd_T67 l0 x3_1).f3) t126 _ A5.out).mono ?_);rintro e w52 ⟨rfl,hb⟩;have n0_:=Aside0.mk (blk_below (g:=gb125) (o:=.cells #[.int .i64 ((rd_T67 l0 x3_1).f0),.string ((rd_T67 l0 x3_1).f1),.string ((rd_T67 l0 x3_1).f2),.string ((rd_T67 l0 x3_1).f3)] 67 (0,0)) (by (with_reducible repeat (first | refine blk_drewN ?_ _ | refine blk_drew ?_ | refine blk_alloc ?_ _));refine blk_put (cs:=#[.int .i64 ((rd_T67 l0 x3_1).f0),.string ((rd_T67 l0 x3_1).f1),.string ((rd_T67 l0 x3_1).f2),.string (⟨#[]⟩ : ByteArray)]) ?_ 3 _ rfl;(with_reducible repeat (first | refine blk_drewN ?_ _ | refine blk_drew ?_ | refine blk_alloc ?_ _));refine blk_put (cs:=#[.int .i64 ((rd_T67 l0 x3_1).f0),.string ((rd_T67 l0 x3_1).f1),.string (⟨#[]⟩ : ByteArray),.string (⟨#[]⟩ : ByteArray)]) ?_ 2 _ rfl;(with_reducible repeat (first | refine blk_drewN ?_ _ | refine blk_drew ?_ | refine blk_alloc ?_ _));refine blk_put (cs:=#[.int .i64 ((rd_T67 l0 x3_1).f0),.string (⟨#[]⟩ : ByteArray),.string (⟨#[]⟩ : ByteArray),.string (⟨#[]⟩ : ByteArray)]) ?_ 1 _ rfl;(with_reducible repeat (first | refine blk_drewN ?_ _ | refine blk_drew ?_ | refine blk_alloc ?_ _));refine blk_put (cs:=#[.int .i64 0,.string (⟨#[]⟩ : ByteArray),.string (⟨#[]⟩ : ByteArray),.string (⟨#[]⟩ : ByteArray)]) ?_ 0 _ rfl;(with_reducible repeat (first | refine blk_drewN ?_ _ | refine blk_drew ?_ | refine blk_alloc ?_ _));exact BK125.out) hb);have n1_:=Aside0.mk (below_step (by repeat (first | (with_reducible first | exact HB.out | apply below_alloc | apply pw_below_drewN | apply below_drew1 | refine below_set ?_ GE125.out) | exact HB.out)) hb);clear BK125;clear HB;have BK125:=n0_;have HB:=n1_;clear n0_ n1_;(try clear hb);(try clear hb2);(try clear hk);(try clear hi)));try go_wp2_with (first | ((with_reducible refine gate_dst (N:=4) rfl ?_);refine box_event ?hg (N:=4) ?hd (cs:=#[.int .i64 0,.string (⟨#[]⟩ : ByteArray),.string (⟨#[]⟩ : ByteArray),.string (⟨#[]⟩ : ByteArray)]) (t:=67) ?hr ?_;(case hd => rfl);(case hg => rfl);(case hr => first | (go_simp;done) | (go_simp;rfl));intro gb125 hg w50 hbox hb;have n0_:=Aside0.mk (below_step (by repeat (first | (with_reducible first | exact HB.out | apply below_alloc | apply pw_below_drewN | apply below_drew1) | exact HB.out)) hb);have n1_:=Aside0.mk (hbox);have n2_:=Aside0.mk ((by rw [hg];exact (below_size (by repeat (first | (with_reducible first | exact HB.out | apply below_alloc | apply pw_below_drewN | apply below_drew1) | exact HB.out))) : w.heap.size ≤ gb125));have n3_:=Aside0.mk ((by rw [hg];exact (below_size (by repeat (first | (with_reducible first | exact HB.out | apply below_alloc | apply pw_below_drewN | apply below_drew1) | exact HB.out))) : w.heap.size ≤ gb125));clear HB;have HB:=n0_;have BK125:=n1_;have GW125:=n2_;have GE125:=n3_;clear n0_ n1_ n2_ n3_;clear hb hbox hg;have hcz51_0 : w50.cell? ⟨gb125,0,none⟩ = some (.int .i64 0):=(blk_cell BK125.out 0).trans rfl;have hcz51_1 : w50.cell? ⟨gb125,1,none⟩ = some (.string (⟨#[]⟩ : ByteArray)):=(blk_cell BK125.out 1).trans rfl;have hcz51_2 : w50.cell? ⟨gb125,2,none⟩ = some (.string (⟨#[]⟩ : ByteArray)):=(blk_cell BK125.out 2).trans rfl;have hcz51_3 : w50.cell? ⟨gb125,3,none⟩ = some (.string (⟨#[]⟩ : ByteArray)):=(blk_cell BK125.out 3).trans rfl;have hfz51_0:=blk_frozen BK125.out 0;have hfz51_1:=blk_frozen BK125.out 1;have hfz51_2:=blk_frozen BK125.out 2;have hfz51_3:=blk_frozen BK125.out 3) | (go_at_call 44;(with_reducible refine (metrolabref53_form.calls k1 ((rd_T67 l0 x3_1).f0) ((rd_T67 l0 x3_1).f1) ((rd_T67 l0 x3_1).f2) ((rd_T67 l0 x3_1).f3) t126 _ A5.out).mono ?_);rintro e w52 ⟨rfl,hb⟩;have n0_:=Aside0.mk (blk_below (g:=gb125) (o:=.cells #[.int .i64 ((rd_T67 l0 x3_1).f0),.string ((rd_T67 l0 x3_1).f1),.string ((rd_T67 l0 x3_1).f2),.string ((rd_T67 l0 x3_1).f3)] 67 (0,0)) (by (with_reducible repeat (first | refine blk_drewN ?_ _ | refine blk_drew ?_ | refine blk_alloc ?_ _));refine blk_put (cs:=#[.int .i64 ((rd_T67 l0 x3_1).f0),.string ((rd_T67 l0 x3_1).f1),.string ((rd_T67 l0 x3_1).f2),.string (⟨#[]⟩ : ByteArray)]) ?_ 3 _ rfl;(with_reducible repeat (first | refine blk_drewN ?_ _ | refine blk_drew ?_ | refine blk_alloc ?_ _));refine blk_put (cs:=#[.int .i64 ((rd_T67 l0 x3_1).f0),.string ((rd_T67 l0 x3_1).f1),.string (⟨#[]⟩ : ByteArray),.string (⟨#[]⟩ : ByteArray)]) ?_ 2 _ rfl;(with_reducible repeat (first | refine blk_drewN ?_ _ | refine blk_drew ?_ | refine blk_alloc ?_ _));refine blk_put (cs:=#[.int .i64 ((rd_T67 l0 x3_1).f0),.string (⟨#[]⟩ : ByteArray),.string (⟨#[]⟩ : ByteArray),.string (⟨#[]⟩ : ByteArray)]) ?_ 1 _ rfl;(with_reducible repeat (first | refine blk_drewN ?_ _ | refine blk_drew ?_ | refine blk_alloc ?_ _));refine blk_put (cs:=#[.int .i64 0,.string (⟨#[]⟩ : ByteArray),.string (⟨#[]⟩ : ByteArray),.string (⟨#[]⟩ : ByteArray)]) ?_ 0 _ rfl;(with_reducible repeat (first | refine blk_drewN ?_ _ | refine blk_drew ?_ | refine blk_alloc ?_ _));exact BK125.out) hb);have n1_:=Aside0.mk (below_step (by repeat (first | (with_reducible first | exact HB.out | apply below_alloc | apply pw_below_drewN | apply below_drew1 | refine below_set ?_ GE125.out) | exact HB.out)) hb);clear BK125;clear HB;have BK125:=n0_;have HB:=n1_;clear n0_ n1_;(try clear hb);(try clear hb2);(try clear hk);(try clear hi))))
       go_ret
       exact ⟨by first | rfl | (simp [errW_none,errW_some] <;> rfl) | (simp [*,errW_none,errW_some] <;> rfl),by repeat (first | (with_reducible first | exact HB.out | apply below_alloc | apply pw_below_drewN | apply below_drew1 | refine below_set ?_ GE125.out) | exact HB.out)⟩
     ·rw [if_neg c4] at H
      exact absurd H (by simp)
    ·rw [if_neg c3] at H
     have c3b0 : decide (x3_1 < (l0.length : Int)) = false:=decide_eq_false c3
     clear c3
     obtain rfl:=Option.some.inj H
     go_wp2
     repeat (go_quiet (fail);try go_wp2)
     go_ret
     exact ⟨by first | rfl | (simp [errW_none,errW_some] <;> rfl) | (simp [*,errW_none,errW_some] <;> rfl),by repeat (first | (with_reducible first | exact HB.out | apply below_alloc | apply pw_below_drewN | apply below_drew1) | exact HB.out)⟩
end Go.Proofs.Ytnmmdeonkpfccaa.Pr
