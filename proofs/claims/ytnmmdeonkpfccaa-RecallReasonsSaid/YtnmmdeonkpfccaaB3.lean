/- A part of the statement's proof. -/
import Derived.Test.YtnmmdeonkpfccaaB1
import Derived.Test.YtnmmdeonkpfccaaB2
import Derived.Maps.OwnIn
import Derived.Sort.KeysCollected
import Derived.Lib.SlMapFilter
namespace Go.Proofs.Ytnmmdeonkpfccaa.Pr
open Go.RowKit Go.Proofs.YtnmmdeonkpfccaaW.PrintWords Go.Proofs.YtnmmdeonkpfccaaW.PrintLast Go.Proofs.YtnmmdeonkpfccaaW.PrintMore
attribute [local go_sem] max2_int min2_int max_two min_two max_three min_three max_four min_four
set_option linter.unusedVariables false
set_option linter.unusedSimpArgs false

/-! ### metrolabref53_Check: function 17 -/
mutual
def metrolabref53_Check.l0 : Nat → List (S67) → Int → Option (Int)
 | 0,_,_ => none
 | k + 1,x0,x3 => if x3 < (x0.length : Int) then (if 0 ≤ x3 then ((metrolabref53_form.f k ((rd_T67 x0 x3).f0) ((rd_T67 x0 x3).f1) ((rd_T67 x0 x3).f2) ((rd_T67 x0 x3).f3)).bind fun t126 => (if t126 = 0 then (if ((rd_T67 x0 x3).f0) = 0 then (if x3 ≤ (x0.length : Int) then ((metrolabref53_Withdrawn.f k (x0.take (x3 : Int).toNat) ((rd_T67 x0 x3).f2)).bind fun t131 => (metrolabref53_Check.j1 k x0 x3 t131 ((rd_T67 x0 x3).f0) ((rd_T67 x0 x3).f1) ((rd_T67 x0 x3).f2) ((rd_T67 x0 x3).f3))) else (none)) else (metrolabref53_Check.j1 k x0 x3 false ((rd_T67 x0 x3).f0) ((rd_T67 x0 x3).f1) ((rd_T67 x0 x3).f2) ((rd_T67 x0 x3).f3))) else (some t126))) else (none)) else (some 0)
def metrolabref53_Check.j1 : Nat → List (S67) → Int → Bool → Int → ByteArray → ByteArray → ByteArray → Option (Int)
 | 0,_,_,_,_,_,_,_ => none
 | k + 1,x0,x3,x35,x126000,x126001,x126002,x126003 => if x35 = true then (some 14) else (metrolabref53_Check.l1 k x0 x3 0 x126000 x126001 x126002 x126003)
def metrolabref53_Check.l1 : Nat → List (S67) → Int → Int → Int → ByteArray → ByteArray → ByteArray → Option (Int)
 | 0,_,_,_,_,_,_,_ => none
 | k + 1,x0,x3,x6,x126000,x126001,x126002,x126003 => if x6 < x3 then (if x126000 = 0 then (if 0 ≤ x6 then (if x6 < (x0.length : Int) then (if ((rd_T67 x0 x6).f0) = 0 then (if ((rd_T67 x0 x6).f2).toList = x126002.toList then (if ((rd_T67 x0 x6).f3).toList = x126003.toList then (metrolabref53_Check.l1 k x0 x3 (wrap64 (x6 + 1)) x126000 x126001 x126002 x126003) else (some 16)) else (metrolabref53_Check.l1 k x0 x3 (wrap64 (x6 + 1)) x126000 x126001 x126002 x126003)) else (metrolabref53_Check.l1 k x0 x3 (wrap64 (x6 + 1)) x126000 x126001 x126002 x126003)) else (none)) else (none)) else (metrolabref53_Check.l1 k x0 x3 (wrap64 (x6 + 1)) x126000 x126001 x126002 x126003)) else (if x126000 = 3 then (if 0 ≤ x3 then (if x3 ≤ (x0.length : Int) then ((metrolabref53_Measured.f k (x0.take (x3 : Int).toNat) x126002).bind fun t139 => (metrolabref53_Check.j3 k x0 x3 (!t139) x126000 x126001 x126002 x126003)) else (none)) else (none)) else (metrolabref53_Check.j3 k x0 x3 false x126000 x126001 x126002 x126003))
def metrolabref53_Check.j3 : Nat → List (S67) → Int → Bool → Int → ByteArray → ByteArray → ByteArray → Option (Int)
 | 0,_,_,_,_,_,_,_ => none
 | k + 1,x0,x3,x83,x126000,x126001,x126002,x126003 => if x83 = true then (some 6) else (if x126000 = 3 then (if 0 ≤ x3 then (if x3 ≤ (x0.length : Int) then ((metrolabref53_Withdrawn.f k (x0.take (x3 : Int).toNat) x126002).bind fun t144 => (if t144 = true then (some 14) else (metrolabref53_Check.l0 k x0 (wrap64 (x3 + 1))))) else (none)) else (none)) else (metrolabref53_Check.l0 k x0 (wrap64 (x3 + 1))))
end
def metrolabref53_Check.f (k : Nat) (l0 : List (S67)) : Option (Int):=if (l0.length : Int) > 4096 then (some 5) else (metrolabref53_Check.l0 k l0 0)
theorem metrolabref53_Check.mono_l : ∀ k,(∀ y0 y1,LeO (metrolabref53_Check.l0 k y0 y1) (metrolabref53_Check.l0 (k + 1) y0 y1)) ∧ (∀ y0 y1 y2 y3 y4 y5 y6,LeO (metrolabref53_Check.j1 k y0 y1 y2 y3 y4 y5 y6) (metrolabref53_Check.j1 (k + 1) y0 y1 y2 y3 y4 y5 y6)) ∧ (∀ y0 y1 y2 y3 y4 y5 y6,LeO (metrolabref53_Check.l1 k y0 y1 y2 y3 y4 y5 y6) (metrolabref53_Check.l1 (k + 1) y0 y1 y2 y3 y4 y5 y6)) ∧ (∀ y0 y1 y2 y3 y4 y5 y6,LeO (metrolabref53_Check.j3 k y0 y1 y2 y3 y4 y5 y6) (metrolabref53_Check.j3 (k + 1) y0 y1 y2 y3 y4 y5 y6))
 | 0 => ⟨fun _ _ r h => by simp [metrolabref53_Check.l0] at h,fun _ _ _ _ _ _ _ r h => by simp [metrolabref53_Check.j1] at h,fun _ _ _ _ _ _ _ r h => by simp [metrolabref53_Check.l1] at h,fun _ _ _ _ _ _ _ r h => by simp [metrolabref53_Check.j3] at h⟩
 | k + 1 => by
  obtain ⟨ih0,ih1,ih2,ih3⟩:=metrolabref53_Check.mono_l k
  refine ⟨?_,?_,?_,?_⟩
  ·intro y0 y1
   unfold metrolabref53_Check.l0
   repeat' first
   | (with_reducible exact ih0 _ _)
   | (with_reducible exact ih1 _ _ _ _ _ _ _)
   | (with_reducible exact ih2 _ _ _ _ _ _ _)
   | (with_reducible exact ih3 _ _ _ _ _ _ _)
   | (with_reducible exact metrolabref53_Measured.mono _ _ _)
   | (with_reducible exact metrolabref53_Withdrawn.mono _ _ _)
   | (with_reducible exact metrolabref53_form.mono _ _ _ _ _)
   | (with_reducible exact LeO.refl _)
   | (with_reducible exact LeO.none _)
   | (with_reducible refine LeO.ite ?_ ?_)
   | (with_reducible refine LeO.bind ?_ (fun _ => ?_))
   | exact ih0 _ _
   | exact ih1 _ _ _ _ _ _ _
   | exact ih2 _ _ _ _ _ _ _
   | exact ih3 _ _ _ _ _ _ _
   | exact metrolabref53_Measured.mono _ _ _
   | exact metrolabref53_Withdrawn.mono _ _ _
   | exact metrolabref53_form.mono _ _ _ _ _
   | exact LeO.none _
   | refine LeO.ite ?_ ?_
   | refine LeO.bind ?_ (fun _ => ?_)
  ·intro y0 y1 y2 y3 y4 y5 y6
   unfold metrolabref53_Check.j1
   repeat' first
   | (with_reducible exact ih0 _ _)
   | (with_reducible exact ih1 _ _ _ _ _ _ _)
   | (with_reducible exact ih2 _ _ _ _ _ _ _)
   | (with_reducible exact ih3 _ _ _ _ _ _ _)
   | (with_reducible exact metrolabref53_Measured.mono _ _ _)
   | (with_reducible exact metrolabref53_Withdrawn.mono _ _ _)
   | (with_reducible exact metrolabref53_form.mono _ _ _ _ _)
   | (with_reducible exact LeO.refl _)
   | (with_reducible exact LeO.none _)
   | (with_reducible refine LeO.ite ?_ ?_)
   | (with_reducible refine LeO.bind ?_ (fun _ => ?_))
   | exact ih0 _ _
   | exact ih1 _ _ _ _ _ _ _
   | exact ih2 _ _ _ _ _ _ _
   | exact ih3 _ _ _ _ _ _ _
   | exact metrolabref53_Measured.mono _ _ _
   | exact metrolabref53_Withdrawn.mono _ _ _
   | exact metrolabref53_form.mono _ _ _ _ _
   | exact LeO.none _
   | refine LeO.ite ?_ ?_
   | refine LeO.bind ?_ (fun _ => ?_)
  ·intro y0 y1 y2 y3 y4 y5 y6
   unfold metrolabref53_Check.l1
   repeat' first
   | (with_reducible exact ih0 _ _)
   | (with_reducible exact ih1 _ _ _ _ _ _ _)
   | (with_reducible exact ih2 _ _ _ _ _ _ _)
   | (with_reducible exact ih3 _ _ _ _ _ _ _)
   | (with_reducible exact metrolabref53_Measured.mono _ _ _)
   | (with_reducible exact metrolabref53_Withdrawn.mono _ _ _)
   | (with_reducible exact metrolabref53_form.mono _ _ _ _ _)
   | (with_reducible exact LeO.refl _)
   | (with_reducible exact LeO.none _)
   | (with_reducible refine LeO.ite ?_ ?_)
   | (with_reducible refine LeO.bind ?_ (fun _ => ?_))
   | exact ih0 _ _
   | exact ih1 _ _ _ _ _ _ _
   | exact ih2 _ _ _ _ _ _ _
   | exact ih3 _ _ _ _ _ _ _
   | exact metrolabref53_Measured.mono _ _ _
   | exact metrolabref53_Withdrawn.mono _ _ _
   | exact metrolabref53_form.mono _ _ _ _ _
   | exact LeO.none _
   | refine LeO.ite ?_ ?_
   | refine LeO.bind ?_ (fun _ => ?_)
  ·intro y0 y1 y2 y3 y4 y5 y6
   unfold metrolabref53_Check.j3
   repeat' first
   | (with_reducible exact ih0 _ _)
   | (with_reducible exact ih1 _ _ _ _ _ _ _)
   | (with_reducible exact ih2 _ _ _ _ _ _ _)
   | (with_reducible exact ih3 _ _ _ _ _ _ _)
   | (with_reducible exact metrolabref53_Measured.mono _ _ _)
   | (with_reducible exact metrolabref53_Withdrawn.mono _ _ _)
   | (with_reducible exact metrolabref53_form.mono _ _ _ _ _)
   | (with_reducible exact LeO.refl _)
   | (with_reducible exact LeO.none _)
   | (with_reducible refine LeO.ite ?_ ?_)
   | (with_reducible refine LeO.bind ?_ (fun _ => ?_))
   | exact ih0 _ _
   | exact ih1 _ _ _ _ _ _ _
   | exact ih2 _ _ _ _ _ _ _
   | exact ih3 _ _ _ _ _ _ _
   | exact metrolabref53_Measured.mono _ _ _
   | exact metrolabref53_Withdrawn.mono _ _ _
   | exact metrolabref53_form.mono _ _ _ _ _
   | exact LeO.none _
   | refine LeO.ite ?_ ?_
   | refine LeO.bind ?_ (fun _ => ?_)
theorem metrolabref53_Check.mono : ∀ a0 k,LeO (metrolabref53_Check.f k a0) (metrolabref53_Check.f (k + 1) a0):=by
 intro a0 k
 obtain ⟨ih0,ih1,ih2,ih3⟩:=metrolabref53_Check.mono_l k
 unfold metrolabref53_Check.f
 repeat' first
   | (with_reducible exact ih0 _ _)
   | (with_reducible exact ih1 _ _ _ _ _ _ _)
   | (with_reducible exact ih2 _ _ _ _ _ _ _)
   | (with_reducible exact ih3 _ _ _ _ _ _ _)
   | (with_reducible exact metrolabref53_Measured.mono _ _ _)
   | (with_reducible exact metrolabref53_Withdrawn.mono _ _ _)
   | (with_reducible exact metrolabref53_form.mono _ _ _ _ _)
   | (with_reducible exact LeO.refl _)
   | (with_reducible exact LeO.none _)
   | (with_reducible refine LeO.ite ?_ ?_)
   | (with_reducible refine LeO.bind ?_ (fun _ => ?_))
   | exact ih0 _ _
   | exact ih1 _ _ _ _ _ _ _
   | exact ih2 _ _ _ _ _ _ _
   | exact ih3 _ _ _ _ _ _ _
   | exact metrolabref53_Measured.mono _ _ _
   | exact metrolabref53_Withdrawn.mono _ _ _
   | exact metrolabref53_form.mono _ _ _ _ _
   | exact LeO.none _
   | refine LeO.ite ?_ ?_
   | refine LeO.bind ?_ (fun _ => ?_)
set_option maxHeartbeats 8000000 in
set_option maxRecDepth 100000 in
theorem metrolabref53_Check.calls (k : Nat) (A0 : Option Addr) (c0 : Nat) (l0 : List (S67)) (r : Int) (w : World) (hr0 : Kd.C k67 w A0 l0.length l0) (hc0 : l0.length ≤ c0) (h : metrolabref53_Check.f k l0 = some r) :
  Calls Try.prog 17 #[.slice A0 l0.length c0] w fun e w' => e = .returned (.int .i64 r) ∧ Below w.heap.size w w':=by
 have hu67:=Try.underlying67
 have HR0:=Aside0.mk hr0
 have HC0:=Aside0.mk hc0
 clear hr0 hc0
 have HB:=Aside0.mk (Below.refl w.heap.size w)
 have H : (if (l0.length : Int) > 4096 then (some 5) else (metrolabref53_Check.l0 k l0 0)) = some r:=h
 clear h
 by_cases c2 : (l0.length : Int) > 4096
 ·rw [if_pos c2] at H
  have c2b0 : decide (4096 < (l0.length : Int)) = true:=decide_eq_true c2
  have c2b1 : decide (4096 < l0.length) = true:=decide_eq_true (by omega)
  clear c2
  obtain rfl:=Option.some.inj H
  go_enter Try.func17,Try.ntmps17
  go_wp2
  repeat (go_quiet (fail);try go_wp2)
  go_ret
  exact ⟨by first | rfl | (simp [errW_none,errW_some] <;> rfl) | (simp [*,errW_none,errW_some] <;> rfl),by repeat (first | (with_reducible first | exact HB.out | apply below_alloc | apply pw_below_drewN | apply below_drew1) | exact HB.out)⟩
 ·rw [if_neg c2] at H
  have c2b0 : decide (4096 < (l0.length : Int)) = false:=decide_eq_false c2
  have c2b1 : decide (4096 < l0.length) = false:=decide_eq_false (by omega)
  clear c2
  have H':=Aside0.mk H
  clear H
  go_enter Try.func17,Try.ntmps17
  go_wp2
  repeat (go_quiet (fail);try go_wp2)
  go_loopg [3] k (fun kq v3 w' => ∃ (x3_1 : Int),v3 = .int .i64 x3_1 ∧ Aside0 (metrolabref53_Check.l0 kq l0 x3_1 = some r) ∧ Aside0 (kq ≤ k) ∧ Aside0 (Below w.heap.size w w'))
  case atStart => exact ⟨(0),(by first | rfl | (simp;done) | (simp [*];done)),H',⟨Nat.le_refl _⟩,⟨by repeat (first | (with_reducible first | exact HB.out | apply below_alloc | apply pw_below_drewN | apply below_drew1) | exact HB.out)⟩⟩
  case round =>
   clear H'
   try clear c1
   try clear c2
   try clear c2b0
   try clear c2b1
   try clear p2
   obtain ⟨x3_1,rfl,HA,HK1,HB⟩:=hrel
   cases gk with
   | zero => exact absurd HA.out (by simp [metrolabref53_Check.l0])
   | succ k1 =>
    have H:=HA.out
    clear HA
    simp only [metrolabref53_Check.l0] at H
    by_cases c3 : x3_1 < (l0.length : Int)
    ·rw [if_pos c3] at H
     have c3b0 : decide (x3_1 < (l0.length : Int)) = true:=decide_eq_true c3
     clear c3
     by_cases c4 : 0 ≤ x3_1
     ·rw [if_pos c4] at H
      have c4b0 : decide (0 ≤ x3_1) = true:=decide_eq_true c4
      clear c4
      replace H:=Option.bind_eq_some_iff.mp H
      obtain ⟨t126,A50,H⟩:=H
      replace H : (if t126 = 0 then (if ((rd_T67 l0 x3_1).f0) = 0 then (if x3_1 ≤ (l0.length : Int) then ((metrolabref53_Withdrawn.f k1 (l0.take (x3_1 : Int).toNat) ((rd_T67 l0 x3_1).f2)).bind fun t131 => (metrolabref53_Check.j1 k1 l0 x3_1 t131 ((rd_T67 l0 x3_1).f0) ((rd_T67 l0 x3_1).f1) ((rd_T67 l0 x3_1).f2) ((rd_T67 l0 x3_1).f3))) else (none)) else (metrolabref53_Check.j1 k1 l0 x3_1 false ((rd_T67 l0 x3_1).f0) ((rd_T67 l0 x3_1).f1) ((rd_T67 l0 x3_1).f2) ((rd_T67 l0 x3_1).f3))) else (some t126)) = some r:=H
      have A5:=Aside0.mk A50
      clear A50
      by_cases c6 : t126 = 0
      ·rw [if_pos c6] at H
       have c6b0 : (t126 == 0) = true:=beq_iff_eq.mpr c6
       have c6b1 : (t126 != 0) = false:=bne_eq_false_iff_eq.mpr c6
       clear c6
       have HC7:=Aside0.mk H
       clear H
       have p124 : 0 ≤ (x3_1 : Int):=of_decide_eq_true (by first | (with_reducible assumption) | assumption)
       have q124 : x3_1 < (l0.length : Int):=of_decide_eq_true (by first | (with_reducible assumption) | assumption)
       obtain ⟨ad124,e124,hx124_0,hx124_1,hx124_2,hx124_3⟩:=at_T67 HR0.out x3_1 p124 q124
       cases e124
       replace hx124_0:=(HB.out.cell (World.block_lt_of_cell? w _ hx124_0)).trans hx124_0
       replace hx124_1:=(HB.out.cell (World.block_lt_of_cell? w _ hx124_1)).trans hx124_1
       replace hx124_2:=(HB.out.cell (World.block_lt_of_cell? w _ hx124_2)).trans hx124_2
       replace hx124_3:=(HB.out.cell (World.block_lt_of_cell? w _ hx124_3)).trans hx124_3
       replace p124:=eq_true p124
       replace q124:=eq_true q124
       go_upto_region 10 with (first | ((with_reducible refine gate_dst (N:=4) rfl ?_);refine box_event ?hg (N:=4) ?hd (cs:=#[.int .i64 0,.string (⟨#[]⟩ : ByteArray),.string (⟨#[]⟩ : ByteArray),.string (⟨#[]⟩ : ByteArray)]) (t:=67) ?hr ?_;(case hd => rfl);(case hg => rfl);(case hr => first | (go_simp;done) | (go_simp;rfl));intro gb125 hg w8 hbox hb;have n0_:=Aside0.mk (below_step (by repeat (first | (with_reducible first | exact HB.out | apply below_alloc | apply pw_below_drewN | apply below_drew1) | exact HB.out)) hb);have n1_:=Aside0.mk (hbox);have n2_:=Aside0.mk ((by rw [hg];exact (below_size (by repeat (first | (with_reducible first | exact HB.out | apply below_alloc | apply pw_below_drewN | apply below_drew1) | exact HB.out))) : w.heap.size ≤ gb125));have n3_:=Aside0.mk ((by rw [hg];exact (below_size (by repeat (first | (with_reducible first | exact HB.out | apply below_alloc | apply pw_below_drewN | apply below_drew1) | exact HB.out))) : w.heap.size ≤ gb125));clear HB;have HB:=n0_;have BK125:=n1_;have GW125:=n2_;have GE125:=n3_;clear n0_ n1_ n2_ n3_;clear hb hbox hg;have hcz9_0 : w8.cell? ⟨gb125,0,none⟩ = some (.int .i64 0):=(blk_cell BK125.out 0).trans rfl;have hcz9_1 : w8.cell? ⟨gb125,1,none⟩ = some (.string (⟨#[]⟩ : ByteArray)):=(blk_cell BK125.out 1).trans rfl;have hcz9_2 : w8.cell? ⟨gb125,2,none⟩ = some (.string (⟨#[]⟩ : ByteArray)):=(blk_cell BK125.out 2).trans rfl;have hcz9_3 : w8.cell? ⟨gb125,3,none⟩ = some (.string (⟨#[]⟩ : ByteArray)):=(blk_cell BK125.out 3).trans rfl;have hfz9_0:=blk_frozen BK125.out 0;have hfz9_1:=blk_frozen BK125.out 1;have hfz9_2:=blk_frozen BK125.out 2;have hfz9_3:=blk_frozen BK125.out 3) | (go_at_call 44;(with_reducible refine (metrolabref53_form.calls k1 ((rd_T67 l0 x3_1).f0) ((rd_T67 l0 x3_1).f1) ((rd_T67 l0 x3_1).f2) ((rd_T67 l0 x3_1).f3) t126 _ A5.out).mono ?_);rintro e w10 ⟨rfl,hb⟩;have n0_:=Aside0.mk (blk_below (g:=gb125) (o:=.cells #[.int .i64 ((rd_T67 l0 x3_1).f0),.string ((rd_T67 l0 x3_1).f1),.string ((rd_T67 l0 x3_1).f2),.string ((rd_T67 l0 x3_1).f3)] 67 (0,0)) (by (with_reducible repeat (first | refine blk_drewN ?_ _ | refine blk_drew ?_ | refine blk_alloc ?_ _));refine blk_put (cs:=#[.int .i64 ((rd_T67 l0 x3_1).f0),.string ((rd_T67 l0 x3_1).f1),.string ((rd_T67 l0 x3_1).f2),.string (⟨#[]⟩ : ByteArray)]) ?_ 3 _ rfl;(with_reducible repeat (first | refine blk_drewN ?_ _ | refine blk_drew ?_ | refine blk_alloc ?_ _));refine blk_put (cs:=#[.int .i64 ((rd_T67 l0 x3_1).f0),.string ((rd_T67 l0 x3_1).f1),.string (⟨#[]⟩ : ByteArray),.string (⟨#[]⟩ : ByteArray)]) ?_ 2 _ rfl;(with_reducible repeat (first | refine blk_drewN ?_ _ | refine blk_drew ?_ | refine blk_alloc ?_ _));refine blk_put (cs:=#[.int .i64 ((rd_T67 l0 x3_1).f0),.string (⟨#[]⟩ : ByteArray),.string (⟨#[]⟩ : ByteArray),.string (⟨#[]⟩ : ByteArray)]) ?_ 1 _ rfl;(with_reducible repeat (first | refine blk_drewN ?_ _ | refine blk_drew ?_ | refine blk_alloc ?_ _));refine blk_put (cs:=#[.int .i64 0,.string (⟨#[]⟩ : ByteArray),.string (⟨#[]⟩ : ByteArray),.string (⟨#[]⟩ : ByteArray)]) ?_ 0 _ rfl;(with_reducible repeat (first | refine blk_drewN ?_ _ | refine blk_drew ?_ | refine blk_alloc ?_ _));exact BK125.out) hb);have n1_:=Aside0.mk (below_step (by repeat (first | (with_reducible first | exact HB.out | apply below_alloc | apply pw_below_drewN | apply below_drew1 | refine below_set ?_ GE125.out) | exact HB.out)) hb);clear BK125;clear HB;have BK125:=n0_;have HB:=n1_;clear n0_ n1_;(try clear hb);(try clear hb2);(try clear hk);(try clear hi)))
       repeat (go_quiet (first | ((with_reducible refine gate_dst (N:=4) rfl ?_);refine box_event ?hg (N:=4) ?hd (cs:=#[.int .i64 0,.string (⟨#[]⟩ : ByteArray),.string (⟨#[]⟩ : ByteArray),.string (⟨#[]⟩ : ByteArray)]) (t:=67) ?hr ?_;(case hd => rfl);(case hg => rfl);(case hr => first | (go_simp;done) | (go_simp;rfl));intro gb125 hg w8 hbox hb;have n0_:=Aside0.mk (below_step (by repeat (first | (with_reducible first | exact HB.out | apply below_alloc | apply pw_below_drewN | apply below_drew1) | exact HB.out)) hb);have n1_:=Aside0.mk (hbox);have n2_:=Aside0.mk ((by rw [hg];exact (below_size (by repeat (first | (with_reducible first | exact HB.out | apply below_alloc | apply pw_below_drewN | apply below_drew1) | exact HB.out))) : w.heap.size ≤ gb125));have n3_:=Aside0.mk ((by rw [hg];exact (below_size (by repeat (first | (with_reducible first | exact HB.out | apply below_alloc | apply pw_below_drewN | apply below_drew1) | exact HB.out))) : w.heap.size ≤ gb125));clear HB;have HB:=n0_;have BK125:=n1_;have GW125:=n2_;have GE125:=n3_;clear n0_ n1_ n2_ n3_;clear hb hbox hg;have hcz9_0 : w8.cell? ⟨gb125,0,none⟩ = some (.int .i64 0):=(blk_cell BK125.out 0).trans rfl;have hcz9_1 : w8.cell? ⟨gb125,1,none⟩ = some (.string (⟨#[]⟩ : ByteArray)):=(blk_cell BK125.out 1).trans rfl;have hcz9_2 : w8.cell? ⟨gb125,2,none⟩ = some (.string (⟨#[]⟩ : ByteArray)):=(blk_cell BK125.out 2).trans rfl;have hcz9_3 : w8.cell? ⟨gb125,3,none⟩ = some (.string (⟨#[]⟩ : ByteArray)):=(blk_cell BK125.out 3).trans rfl;have hfz9_0:=blk_frozen BK125.out 0;have hfz9_1:=blk_frozen BK125.out 1;have hfz9_2:=blk_frozen BK125.out 2;have hfz9_3:=blk_frozen BK125.out 3) | (go_at_call 44;(with_reducible refine (metrolabref53_form.calls k1 ((rd_T67 l0 x3_1).f0) ((rd_T67 l0 x3_1).f1) ((rd_T67 l0 x3_1).f2) ((rd_T67 l0 x3_1).f3) t126 _ A5.out).mono ?_);rintro e w10 ⟨rfl,hb⟩;have n0_:=Aside0.mk (blk_below (g:=gb125) (o:=.cells #[.int .i64 ((rd_T67 l0 x3_1).f0),.string ((rd_T67 l0 x3_1).f1),.string ((rd_T67 l0 x3_1).f2),.string ((rd_T67 l0 x3_1).f3)] 67 (0,0)) (by (with_reducible repeat (first | refine blk_drewN ?_ _ | refine blk_drew ?_ | refine blk_alloc ?_ _));refine blk_put (cs:=#[.int .i64 ((rd_T67 l0 x3_1).f0),.string ((rd_T67 l0 x3_1).f1),.string ((rd_T67 l0 x3_1).f2),.string (⟨#[]⟩ : ByteArray)]) ?_ 3 _ rfl;(with_reducible repeat (first | refine blk_drewN ?_ _ | refine blk_drew ?_ | refine blk_alloc ?_ _));refine blk_put (cs:=#[.int .i64 ((rd_T67 l0 x3_1).f0),.string ((rd_T67 l0 x3_1).f1),.string (⟨#[]⟩ : ByteArray),.string (⟨#[]⟩ : ByteArray)]) ?_ 2 _ rfl;(with_reducible repeat (first | refine blk_drewN ?_ _ | refine blk_drew ?_ | refine blk_alloc ?_ _));refine blk_put (cs:=#[.int .i64 ((rd_T67 l0 x3_1).f0),.string (⟨#[]⟩ : ByteArray),.string (⟨#[]⟩ : ByteArray),.string (⟨#[]⟩ : ByteArray)]) ?_ 1 _ rfl;(with_reducible repeat (first | refine blk_drewN ?_ _ | refine blk_drew ?_ | refine blk_alloc ?_ _));refine blk_put (cs:=#[.int .i64 0,.string (⟨#[]⟩ : ByteArray),.string (⟨#[]⟩ : ByteArray),.string (⟨#[]⟩ : ByteArray)]) ?_ 0 _ rfl;(with_reducible repeat (first | refine blk_drewN ?_ _ | refine blk_drew ?_ | refine blk_alloc ?_ _));exact BK125.out) hb);have n1_:=Aside0.mk (below_step (by repeat (first | (with_reducible first | exact HB.out | apply below_alloc | apply pw_below_drewN | apply below_drew1 | refine below_set ?_ GE125.out) | exact HB.out)) hb);clear BK125;clear HB;have BK125:=n0_;have HB:=n1_;clear n0_ n1_;(try clear hb);(try clear hb2);(try clear hk);(try clear hi)));go_upto_region 10 with (first | ((with_reducible refine gate_dst (N:=4) rfl ?_);refine box_event ?hg (N:=4) ?hd (cs:=#[.int .i64 0,.string (⟨#[]⟩ : ByteArray),.string (⟨#[]⟩ : ByteArray),.string (⟨#[]⟩ : ByteArray)]) (t:=67) ?hr ?_;(case hd => rfl);(case hg => rfl);(case hr => first | (go_simp;done) | (go_simp;rfl));intro gb125 hg w8 hbox hb;have n0_:=Aside0.mk (below_step (by repeat (first | (with_reducible first | exact HB.out | apply below_alloc | apply pw_below_drewN | apply below_drew1) | exact HB.out)) hb);have n1_:=Aside0.mk (hbox);have n2_:=Aside0.mk ((by rw [hg];exact (below_size (by repeat (first | (with_reducible first | exact HB.out | apply below_alloc | apply pw_below_drewN | apply below_drew1) | exact HB.out))) : w.heap.size ≤ gb125));have n3_:=Aside0.mk ((by rw [hg];exact (below_size (by repeat (first | (with_reducible first | exact HB.out | apply below_alloc | apply pw_below_drewN | apply below_drew1) | exact HB.out))) : w.heap.size ≤ gb125));clear HB;have HB:=n0_;have BK125:=n1_;have GW125:=n2_;have GE125:=n3_;clear n0_ n1_ n2_ n3_;clear hb hbox hg;have hcz9_0 : w8.cell? ⟨gb125,0,none⟩ = some (.int .i64 0):=(blk_cell BK125.out 0).trans rfl;have hcz9_1 : w8.cell? ⟨gb125,1,none⟩ = some (.string (⟨#[]⟩ : ByteArray)):=(blk_cell BK125.out 1).trans rfl;have hcz9_2 : w8.cell? ⟨gb125,2,none⟩ = some (.string (⟨#[]⟩ : ByteArray)):=(blk_cell BK125.out 2).trans rfl;have hcz9_3 : w8.cell? ⟨gb125,3,none⟩ = some (.string (⟨#[]⟩ : ByteArray)):=(blk_cell BK125.out 3).trans rfl;have hfz9_0:=blk_frozen BK125.out 0;have hfz9_1:=blk_frozen BK125.out 1;have hfz9_2:=blk_frozen BK125.out 2;have hfz9_3:=blk_frozen BK125.out 3) | (go_at_call 44;(with_reducible refine (metrolabref53_form.calls k1 ((rd_T67 l0 x3_1).f0) ((rd_T67 l0 x3_1).f1) ((rd_T67 l0 x3_1).f2) ((rd_T67 l0 x3_1).f3) t126 _ A5.out).mono ?_);rintro e w10 ⟨rfl,hb⟩;have n0_:=Aside0.mk (blk_below (g:=gb125) (o:=.cells #[.int .i64 ((rd_T67 l0 x3_1).f0),.string ((rd_T67 l0 x3_1).f1),.string ((rd_T67 l0 x3_1).f2),.string ((rd_T67 l0 x3_1).f3)] 67 (0,0)) (by (with_reducible repeat (first | refine blk_drewN ?_ _ | refine blk_drew ?_ | refine blk_alloc ?_ _));refine blk_put (cs:=#[.int .i64 ((rd_T67 l0 x3_1).f0),.string ((rd_T67 l0 x3_1).f1),.string ((rd_T67 l0 x3_1).f2),.string (⟨#[]⟩ : ByteArray)]) ?_ 3 _ rfl;(with_reducible repeat (first | refine blk_drewN ?_ _ | refine blk_drew ?_ | refine blk_alloc ?_ _));refine blk_put (cs:=#[.int .i64 ((rd_T67 l0 x3_1).f0),.string ((rd_T67 l0 x3_1).f1),.string (⟨#[]⟩ : ByteArray),.string (⟨#[]⟩ : ByteArray)]) ?_ 2 _ rfl;(with_reducible repeat (first | refine blk_drewN ?_ _ | refine blk_drew ?_ | refine blk_alloc ?_ _));refine blk_put (cs:=#[.int .i64 ((rd_T67 l0 x3_1).f0),.string (⟨#[]⟩ : ByteArray),.string (⟨#[]⟩ : ByteArray),.string (⟨#[]⟩ : ByteArray)]) ?_ 1 _ rfl;(with_reducible repeat (first | refine blk_drewN ?_ _ | refine blk_drew ?_ | refine blk_alloc ?_ _));refine blk_put (cs:=#[.int .i64 0,.string (⟨#[]⟩ : ByteArray),.string (⟨#[]⟩ : ByteArray),.string (⟨#[]⟩ : ByteArray)]) ?_ 0 _ rfl;(with_reducible repeat (first | refine blk_drewN ?_ _ | refine blk_drew ?_ | refine blk_alloc ?_ _));exact BK125.out) hb);have n1_:=Aside0.mk (below_step (by repeat (first | (with_reducible first | exact HB.out | apply below_alloc | apply pw_below_drewN | apply below_drew1 | refine below_set ?_ GE125.out) | exact HB.out)) hb);clear BK125;clear HB;have BK125:=n0_;have HB:=n1_;clear n0_ n1_;(try clear hb);(try clear hb2);(try clear hk);(try clear hi))))
       (try simp only [Act.put,List.setIfInBounds_toArray,List.set_cons_zero,List.set_cons_succ])
       go_cut [35] (fun v35 wc => ∃ (kq : Nat) (x35_6 : Bool),v35 = .bool x35_6 ∧ Aside0 (metrolabref53_Check.j1 kq l0 x3_1 x35_6 ((rd_T67 l0 x3_1).f0) ((rd_T67 l0 x3_1).f1) ((rd_T67 l0 x3_1).f2) ((rd_T67 l0 x3_1).f3) = some r) ∧ Aside0 (kq ≤ k1) ∧ Aside0 (wc.heap[gb125]? = some (.cells #[.int .i64 ((rd_T67 l0 x3_1).f0),.string ((rd_T67 l0 x3_1).f1),.string ((rd_T67 l0 x3_1).f2),.string ((rd_T67 l0 x3_1).f3)] 67 (0,0))) ∧ Aside0 (Below w.heap.size w wc))
       case first =>
        have H:=HC7.out
        clear HC7
        by_cases c11 : ((rd_T67 l0 x3_1).f0) = 0
        ·rw [if_pos c11] at H
         have c11b0 : (((rd_T67 l0 x3_1).f0) == 0) = true:=beq_iff_eq.mpr c11
         have c11b1 : (((rd_T67 l0 x3_1).f0) != 0) = false:=bne_eq_false_iff_eq.mpr c11
         clear c11
         (first | rw [c11b0] | (simp only [i64_w,i32_w];rw [c11b0]) | skip)
         have c12b0:=eq_true (of_decide_eq_true (by first | (with_reducible assumption) | assumption) : 0 ≤ x3_1)
         by_cases c13 : x3_1 ≤ (l0.length : Int)
         ·rw [if_pos c13] at H
          have c13b0:=eq_true c13
          have c13b1 : decide (x3_1 ≤ (l0.length : Int)) = true:=decide_eq_true c13
          clear c13
          obtain ⟨y127,hy127⟩ : ∃ y_ : List (S67),y_ = (l0.take (x3_1 : Int).toNat):=⟨_,rfl⟩
          replace H : ((metrolabref53_Withdrawn.f k1 y127 ((rd_T67 l0 x3_1).f2)).bind fun t131 => (metrolabref53_Check.j1 k1 l0 x3_1 t131 ((rd_T67 l0 x3_1).f0) ((rd_T67 l0 x3_1).f1) ((rd_T67 l0 x3_1).f2) ((rd_T67 l0 x3_1).f3))) = some r:=by first | (rw [hy127];with_reducible exact H) | (have H2_:=(Option.bind_some _ _).symm.trans H;rw [hy127];with_reducible exact H2_) | (have H2_:=(Option.bind_some _ _).symm.trans H;with_reducible exact H2_) | with_reducible exact H | (rw [hy127];exact H) | exact H
          have Ny127:=Aside0.mk hy127
          clear hy127
          replace H:=Option.bind_eq_some_iff.mp H
          obtain ⟨t131,A140,H⟩:=H
          replace H : (metrolabref53_Check.j1 k1 l0 x3_1 t131 ((rd_T67 l0 x3_1).f0) ((rd_T67 l0 x3_1).f1) ((rd_T67 l0 x3_1).f2) ((rd_T67 l0 x3_1).f3)) = some r:=H
          have A14:=Aside0.mk A140
          clear A140
          have H':=Aside0.mk H
          clear H
          have hcz15_0 : w10.cell? ⟨gb125,0,none⟩ = some (.int .i64 ((rd_T67 l0 x3_1).f0)):=(blk_cell BK125.out 0).trans rfl
          have hcz15_1 : w10.cell? ⟨gb125,1,none⟩ = some (.string ((rd_T67 l0 x3_1).f1)):=(blk_cell BK125.out 1).trans rfl
          have hcz15_2 : w10.cell? ⟨gb125,2,none⟩ = some (.string ((rd_T67 l0 x3_1).f2)):=(blk_cell BK125.out 2).trans rfl
          have hcz15_3 : w10.cell? ⟨gb125,3,none⟩ = some (.string ((rd_T67 l0 x3_1).f3)):=(blk_cell BK125.out 3).trans rfl
          have hfz15_0:=blk_frozen BK125.out 0
          have hfz15_1:=blk_frozen BK125.out 1
          have hfz15_2:=blk_frozen BK125.out 2
          have hfz15_3:=blk_frozen BK125.out 3
          have q16 : (x3_1 : Int) ≤ ((l0.length : Int) : Int):=of_decide_eq_true (by first | (with_reducible assumption) | assumption)
          obtain ⟨i016,hi016,_,hsz16,_⟩:=info_parts info67
          have hroom16 : l0.length ≤ c0:=HC0.out
          have hC16 : Kd.C k67 _ (some ad124) l0.length l0:=HR0.out
          have hcut16:=cut_to (P:=Try.prog) 31 67 .i64 Try.underlying31 hi016 (some ad124) l0.length c0 x3_1 (of_decide_eq_true (by first | (with_reducible assumption) | assumption)) q16 hroom16
          have hr16:=Kd.C_take (m:=(x3_1 : Int).toNat) hC16 (by omega)
          have hy16 : y127.length = (x3_1 : Int).toNat:=(by rw [Ny127.out,List.length_take];omega)
          rw [← Ny127.out] at hr16
          rw [← hy16] at hcut16
          have HR130:=Aside0.mk hr16
          have HC130:=Aside0.mk (show y127.length ≤ c0 from by omega)
          clear hr16 hC16 hroom16 hi016 hsz16
          have KY16:=Aside0.mk hy16
          clear hy16
          replace q16:=eq_true q16
          go_wp2_with (first | (go_at_call 45;(with_reducible refine (metrolabref53_Withdrawn.calls k1 _ _ y127 ((rd_T67 l0 x3_1).f2) t131 _ ?side1 ?side2 A14.out).mono ?_);(case side1 => repeat (first | exact (Kd.C_below HR130.out HB.out) | (with_reducible refine Kd.C_alloc ?_ _) | (with_reducible refine Kd.C_drewN ?_ _) | (with_reducible refine Kd.C_drew ?_)));(case side2 => exact HC130.out);rintro e w' ⟨rfl,⟨nd,rfl⟩⟩;(try first | exact ⟨rfl,_,World.drewN_drewN _ _ _⟩ | exact ⟨rfl,_,Eq.trans (World.drewN_drewN _ _ _) (congrArg (World.drewN _) (Nat.add_assoc _ _ _))⟩)))
          repeat (go_quiet (first | (go_at_call 45;(with_reducible refine (metrolabref53_Withdrawn.calls k1 _ _ y127 ((rd_T67 l0 x3_1).f2) t131 _ ?side1 ?side2 A14.out).mono ?_);(case side1 => repeat (first | exact (Kd.C_below HR130.out HB.out) | (with_reducible refine Kd.C_alloc ?_ _) | (with_reducible refine Kd.C_drewN ?_ _) | (with_reducible refine Kd.C_drew ?_)));(case side2 => exact HC130.out);rintro e w' ⟨rfl,⟨nd,rfl⟩⟩;(try first | exact ⟨rfl,_,World.drewN_drewN _ _ _⟩ | exact ⟨rfl,_,Eq.trans (World.drewN_drewN _ _ _) (congrArg (World.drewN _) (Nat.add_assoc _ _ _))⟩)));try go_wp2_with (first | (go_at_call 45;(with_reducible refine (metrolabref53_Withdrawn.calls k1 _ _ y127 ((rd_T67 l0 x3_1).f2) t131 _ ?side1 ?side2 A14.out).mono ?_);(case side1 => repeat (first | exact (Kd.C_below HR130.out HB.out) | (with_reducible refine Kd.C_alloc ?_ _) | (with_reducible refine Kd.C_drewN ?_ _) | (with_reducible refine Kd.C_drew ?_)));(case side2 => exact HC130.out);rintro e w' ⟨rfl,⟨nd,rfl⟩⟩;(try first | exact ⟨rfl,_,World.drewN_drewN _ _ _⟩ | exact ⟨rfl,_,Eq.trans (World.drewN_drewN _ _ _) (congrArg (World.drewN _) (Nat.add_assoc _ _ _))⟩))))
          go_meet
          case rel => exact ⟨_,(t131),(by first | rfl | (simp;done) | (simp [*];done)),H',⟨by have:=HK1.out;first | omega | exact Nat.le_refl _⟩,⟨by (with_reducible repeat (first | refine blk_drewN ?_ _ | refine blk_drew ?_ | refine blk_alloc ?_ _));exact BK125.out⟩,⟨by repeat (first | (with_reducible first | exact HB.out | apply below_alloc | apply pw_below_drewN | apply below_drew1 | refine below_set ?_ GE125.out) | exact HB.out)⟩⟩
         ·rw [if_neg c13] at H
          exact absurd H (by simp)
        ·rw [if_neg c11] at H
         have c11b0 : (((rd_T67 l0 x3_1).f0) == 0) = false:=beq_eq_false_iff_ne.mpr c11
         have c11b1 : (((rd_T67 l0 x3_1).f0) != 0) = true:=bne_iff_ne.mpr c11
         (first | rw [c11b0] | (simp only [i64_w,i32_w];rw [c11b0]) | skip)
         have H':=Aside0.mk H
         clear H
         have hcz17_0 : w10.cell? ⟨gb125,0,none⟩ = some (.int .i64 ((rd_T67 l0 x3_1).f0)):=(blk_cell BK125.out 0).trans rfl
         have hcz17_1 : w10.cell? ⟨gb125,1,none⟩ = some (.string ((rd_T67 l0 x3_1).f1)):=(blk_cell BK125.out 1).trans rfl
         have hcz17_2 : w10.cell? ⟨gb125,2,none⟩ = some (.string ((rd_T67 l0 x3_1).f2)):=(blk_cell BK125.out 2).trans rfl
         have hcz17_3 : w10.cell? ⟨gb125,3,none⟩ = some (.string ((rd_T67 l0 x3_1).f3)):=(blk_cell BK125.out 3).trans rfl
         have hfz17_0:=blk_frozen BK125.out 0
         have hfz17_1:=blk_frozen BK125.out 1
         have hfz17_2:=blk_frozen BK125.out 2
         have hfz17_3:=blk_frozen BK125.out 3
         go_wp2
         repeat (go_quiet (fail);try go_wp2)
         go_meet
         case rel => exact ⟨_,(false),(by first | rfl | (simp;done) | (simp [*];done)),H',⟨by have:=HK1.out;first | omega | exact Nat.le_refl _⟩,⟨by (with_reducible repeat (first | refine blk_drewN ?_ _ | refine blk_drew ?_ | refine blk_alloc ?_ _));exact BK125.out⟩,⟨by repeat (first | (with_reducible first | exact HB.out | apply below_alloc | apply pw_below_drewN | apply below_drew1 | refine below_set ?_ GE125.out) | exact HB.out)⟩⟩
       case rest =>
        clear HC7
        try clear c1
        try clear p1
        try clear q1
        try clear hx1
        try clear c2
        try clear c2b0
        try clear c2b1
        try clear p2
        try clear c3
        try clear c3b0
        try clear c4
        try clear c4b0
        try clear c6
        try clear c6b0
        try clear c6b1
        try clear c11
        try clear c11b0
        try clear c11b1
        try clear c12
        try clear c12b0
        try clear p12
        try clear q12
        try clear hx12
        try clear c13
        try clear c13b0
        try clear c13b1
        try clear q16
        try clear c17
        try clear hcz15_0
        try clear hcz15_1
        try clear hcz15_2
        try clear hcz15_3
        try clear hcz17_0
        try clear hcz17_1
        try clear hcz17_2
        try clear hcz17_3
        try clear hcz9_0
        try clear hcz9_1
        try clear hcz9_2
        try clear hcz9_3
        try clear hfz15_0
        try clear hfz15_1
        try clear hfz15_2
        try clear hfz15_3
        try clear hfz17_0
        try clear hfz17_1
        try clear hfz17_2
        try clear hfz17_3
        try clear hfz9_0
        try clear hfz9_1
        try clear hfz9_2
        try clear hfz9_3
        try clear hx124_0
        try clear hx124_1
        try clear hx124_2
        try clear hx124_3
        try clear p124
        try clear p2
        try clear q124
        try clear q16
        obtain ⟨kq,x35_6,rfl,HA,HJ6,BK125,HB⟩:=hcut
        cases kq with
        | zero => exact absurd HA.out (by simp [metrolabref53_Check.j1])
        | succ kj6 =>
         have H:=HA.out
         clear HA
         simp only [metrolabref53_Check.j1] at H
         by_cases c18 : x35_6 = true
         ·subst c18
          have H1 : (some 14) = some r:=by rw [if_pos rfl] at H;exact H
          clear H
          have H:=H1
          clear H1
          obtain rfl:=Option.some.inj H
          go_wp2
          repeat (go_quiet (fail);try go_wp2)
          go_ret
          exact ⟨by first | rfl | (simp [errW_none,errW_some] <;> rfl) | (simp [*,errW_none,errW_some] <;> rfl),by repeat (first | (with_reducible first | exact HB.out | apply below_alloc | apply pw_below_drewN | apply below_drew1 | refine below_set ?_ GE125.out) | exact HB.out)⟩
         ·replace c18:=Bool.eq_false_iff.mpr c18
          subst c18
          have H1 : (metrolabref53_Check.l1 kj6 l0 x3_1 0 ((rd_T67 l0 x3_1).f0) ((rd_T67 l0 x3_1).f1) ((rd_T67 l0 x3_1).f2) ((rd_T67 l0 x3_1).f3)) = some r:=by rw [if_neg (show ¬ (false = true) by decide)] at H;exact H
          clear H
          have H:=H1
          clear H1
          have H':=Aside0.mk H
          clear H
          go_wp2
          repeat (go_quiet (fail);try go_wp2)
          go_loopg [6] kj6 (fun kq v6 w' => ∃ (x6_3 : Int),v6 = .int .i64 x6_3 ∧ Aside0 (metrolabref53_Check.l1 kq l0 x3_1 x6_3 ((rd_T67 l0 x3_1).f0) ((rd_T67 l0 x3_1).f1) ((rd_T67 l0 x3_1).f2) ((rd_T67 l0 x3_1).f3) = some r) ∧ Aside0 (kq ≤ kj6) ∧ Aside0 (w'.heap[gb125]? = some (.cells #[.int .i64 ((rd_T67 l0 x3_1).f0),.string ((rd_T67 l0 x3_1).f1),.string ((rd_T67 l0 x3_1).f2),.string ((rd_T67 l0 x3_1).f3)] 67 (0,0))) ∧ Aside0 (Below w.heap.size w w'))
          case atStart => exact ⟨(0),(by first | rfl | (simp;done) | (simp [*];done)),H',⟨Nat.le_refl _⟩,⟨by (with_reducible repeat (first | refine blk_drewN ?_ _ | refine blk_drew ?_ | refine blk_alloc ?_ _));exact BK125.out⟩,⟨by repeat (first | (with_reducible first | exact HB.out | apply below_alloc | apply pw_below_drewN | apply below_drew1 | refine below_set ?_ GE125.out) | exact HB.out)⟩⟩
          case round =>
           clear H'
           try clear c1
           try clear p1
           try clear q1
           try clear hx1
           try clear c2
           try clear c2b0
           try clear c2b1
           try clear p2
           try clear c3
           try clear c3b0
           try clear c4
           try clear c4b0
           try clear c6
           try clear c6b0
           try clear c6b1
           try clear c11
           try clear c11b0
           try clear c11b1
           try clear c12
           try clear c12b0
           try clear p12
           try clear q12
           try clear hx12
           try clear c13
           try clear c13b0
           try clear c13b1
           try clear q16
           try clear c17
           try clear c18
           try clear hcz15_0
           try clear hcz15_1
           try clear hcz15_2
           try clear hcz15_3
           try clear hcz17_0
           try clear hcz17_1
           try clear hcz17_2
           try clear hcz17_3
           try clear hcz9_0
           try clear hcz9_1
           try clear hcz9_2
           try clear hcz9_3
           try clear hfz15_0
           try clear hfz15_1
           try clear hfz15_2
           try clear hfz15_3
           try clear hfz17_0
           try clear hfz17_1
           try clear hfz17_2
           try clear hfz17_3
           try clear hfz9_0
           try clear hfz9_1
           try clear hfz9_2
           try clear hfz9_3
           try clear hx124_0
           try clear hx124_1
           try clear hx124_2
           try clear hx124_3
           try clear p1
           try clear p12
           try clear p124
           try clear p2
           try clear q1
           try clear q12
           try clear q124
           try clear q16
           obtain ⟨x6_3,rfl,HA,HK3,BK125,HB⟩:=hrel
           cases gk with
           | zero => exact absurd HA.out (by simp [metrolabref53_Check.l1])
           | succ k3 =>
            have H:=HA.out
            clear HA
            simp only [metrolabref53_Check.l1] at H
            by_cases c19 : x6_3 < x3_1
            ·rw [if_pos c19] at H
             have c19b0 : decide (x6_3 < x3_1) = true:=decide_eq_true c19
             clear c19
             by_cases c20 : ((rd_T67 l0 x3_1).f0) = 0
             ·rw [if_pos c20] at H
              have c20b0 : (((rd_T67 l0 x3_1).f0) == 0) = true:=beq_iff_eq.mpr c20
              have c20b1 : (((rd_T67 l0 x3_1).f0) != 0) = false:=bne_eq_false_iff_eq.mpr c20
              clear c20
              by_cases c21 : 0 ≤ x6_3
              ·rw [if_pos c21] at H
               have c21b0 : decide (0 ≤ x6_3) = true:=decide_eq_true c21
               clear c21
               by_cases c22 : x6_3 < (l0.length : Int)
               ·rw [if_pos c22] at H
                have c22b0 : decide (x6_3 < (l0.length : Int)) = true:=decide_eq_true c22
                clear c22
                by_cases c23 : ((rd_T67 l0 x6_3).f0) = 0
                ·rw [if_pos c23] at H
                 have c23b0 : (((rd_T67 l0 x6_3).f0) == 0) = true:=beq_iff_eq.mpr c23
                 have c23b1 : (((rd_T67 l0 x6_3).f0) != 0) = false:=bne_eq_false_iff_eq.mpr c23
                 clear c23
                 by_cases c24 : ((rd_T67 l0 x6_3).f2).toList = ((rd_T67 l0 x3_1).f2).toList
                 ·rw [if_pos c24] at H
                  have c24b0 : (((rd_T67 l0 x6_3).f2).toList == ((rd_T67 l0 x3_1).f2).toList) = true:=beq_iff_eq.mpr c24
                  have c24b1 : (((rd_T67 l0 x6_3).f2).toList != ((rd_T67 l0 x3_1).f2).toList) = false:=bne_eq_false_iff_eq.mpr c24
                  clear c24
                  by_cases c25 : ((rd_T67 l0 x6_3).f3).toList = ((rd_T67 l0 x3_1).f3).toList
                  ·rw [if_pos c25] at H
                   have c25b0 : (((rd_T67 l0 x6_3).f3).toList == ((rd_T67 l0 x3_1).f3).toList) = true:=beq_iff_eq.mpr c25
                   have c25b1 : (((rd_T67 l0 x6_3).f3).toList != ((rd_T67 l0 x3_1).f3).toList) = false:=bne_eq_false_iff_eq.mpr c25
                   clear c25
                   have H':=Aside0.mk H
                   clear H
                   have hcz26_0 : wr.cell? ⟨gb125,0,none⟩ = some (.int .i64 ((rd_T67 l0 x3_1).f0)):=(blk_cell BK125.out 0).trans rfl
                   have hcz26_1 : wr.cell? ⟨gb125,1,none⟩ = some (.string ((rd_T67 l0 x3_1).f1)):=(blk_cell BK125.out 1).trans rfl
                   have hcz26_2 : wr.cell? ⟨gb125,2,none⟩ = some (.string ((rd_T67 l0 x3_1).f2)):=(blk_cell BK125.out 2).trans rfl
                   have hcz26_3 : wr.cell? ⟨gb125,3,none⟩ = some (.string ((rd_T67 l0 x3_1).f3)):=(blk_cell BK125.out 3).trans rfl
                   have hfz26_0:=blk_frozen BK125.out 0
                   have hfz26_1:=blk_frozen BK125.out 1
                   have hfz26_2:=blk_frozen BK125.out 2
                   have hfz26_3:=blk_frozen BK125.out 3
                   have p132 : 0 ≤ (x6_3 : Int):=of_decide_eq_true (by first | (with_reducible assumption) | assumption)
                   have q132 : x6_3 < (l0.length : Int):=of_decide_eq_true (by first | (with_reducible assumption) | assumption)
                   obtain ⟨ad132,e132,hx132_0,hx132_1,hx132_2,hx132_3⟩:=at_T67 HR0.out x6_3 p132 q132
                   obtain rfl : ad124 = ad132:=(by injection e132)
                   replace hx132_0:=(HB.out.cell (World.block_lt_of_cell? w _ hx132_0)).trans hx132_0
                   replace hx132_1:=(HB.out.cell (World.block_lt_of_cell? w _ hx132_1)).trans hx132_1
                   replace hx132_2:=(HB.out.cell (World.block_lt_of_cell? w _ hx132_2)).trans hx132_2
                   replace hx132_3:=(HB.out.cell (World.block_lt_of_cell? w _ hx132_3)).trans hx132_3
                   replace p132:=eq_true p132
                   replace q132:=eq_true q132
                   have p133 : 0 ≤ (x6_3 : Int):=of_decide_eq_true (by first | (with_reducible assumption) | assumption)
                   have q133 : x6_3 < (l0.length : Int):=of_decide_eq_true (by first | (with_reducible assumption) | assumption)
                   obtain ⟨ad133,e133,hx133_0,hx133_1,hx133_2,hx133_3⟩:=at_T67 HR0.out x6_3 p133 q133
                   obtain rfl : ad124 = ad133:=(by injection e133)
                   replace hx133_0:=(HB.out.cell (World.block_lt_of_cell? w _ hx133_0)).trans hx133_0
                   replace hx133_1:=(HB.out.cell (World.block_lt_of_cell? w _ hx133_1)).trans hx133_1
                   replace hx133_2:=(HB.out.cell (World.block_lt_of_cell? w _ hx133_2)).trans hx133_2
                   replace hx133_3:=(HB.out.cell (World.block_lt_of_cell? w _ hx133_3)).trans hx133_3
                   replace p133:=eq_true p133
                   replace q133:=eq_true q133
                   have p134 : 0 ≤ (x6_3 : Int):=of_decide_eq_true (by first | (with_reducible assumption) | assumption)
                   have q134 : x6_3 < (l0.length : Int):=of_decide_eq_true (by first | (with_reducible assumption) | assumption)
                   obtain ⟨ad134,e134,hx134_0,hx134_1,hx134_2,hx134_3⟩:=at_T67 HR0.out x6_3 p134 q134
                   obtain rfl : ad124 = ad134:=(by injection e134)
                   replace hx134_0:=(HB.out.cell (World.block_lt_of_cell? w _ hx134_0)).trans hx134_0
                   replace hx134_1:=(HB.out.cell (World.block_lt_of_cell? w _ hx134_1)).trans hx134_1
                   replace hx134_2:=(HB.out.cell (World.block_lt_of_cell? w _ hx134_2)).trans hx134_2
                   replace hx134_3:=(HB.out.cell (World.block_lt_of_cell? w _ hx134_3)).trans hx134_3
                   replace p134:=eq_true p134
                   replace q134:=eq_true q134
                   go_wp2
                   repeat (go_quiet (fail);try go_wp2)
                   go_roundg k3
                   case measure => have:=HK1.out;have:=HJ6.out;have:=HK3.out;omega
                   case rel => exact ⟨(wrap64 (x6_3 + 1)),(by first | rfl | (simp;done) | (simp [*];done)),H',⟨by have:=HK1.out;have:=HJ6.out;have:=HK3.out;omega⟩,⟨by (with_reducible repeat (first | refine blk_drewN ?_ _ | refine blk_drew ?_ | refine blk_alloc ?_ _));exact BK125.out⟩,⟨by repeat (first | (with_reducible first | exact HB.out | apply below_alloc | apply pw_below_drewN | apply below_drew1 | refine below_set ?_ GE125.out) | exact HB.out)⟩⟩
                  ·rw [if_neg c25] at H
                   have c25b0 : (((rd_T67 l0 x6_3).f3).toList == ((rd_T67 l0 x3_1).f3).toList) = false:=beq_eq_false_iff_ne.mpr c25
                   have c25b1 : (((rd_T67 l0 x6_3).f3).toList != ((rd_T67 l0 x3_1).f3).toList) = true:=bne_iff_ne.mpr c25
                   obtain rfl:=Option.some.inj H
                   have hcz27_0 : wr.cell? ⟨gb125,0,none⟩ = some (.int .i64 ((rd_T67 l0 x3_1).f0)):=(blk_cell BK125.out 0).trans rfl
                   have hcz27_1 : wr.cell? ⟨gb125,1,none⟩ = some (.string ((rd_T67 l0 x3_1).f1)):=(blk_cell BK125.out 1).trans rfl
                   have hcz27_2 : wr.cell? ⟨gb125,2,none⟩ = some (.string ((rd_T67 l0 x3_1).f2)):=(blk_cell BK125.out 2).trans rfl
                   have hcz27_3 : wr.cell? ⟨gb125,3,none⟩ = some (.string ((rd_T67 l0 x3_1).f3)):=(blk_cell BK125.out 3).trans rfl
                   have hfz27_0:=blk_frozen BK125.out 0
                   have hfz27_1:=blk_frozen BK125.out 1
                   have hfz27_2:=blk_frozen BK125.out 2
                   have hfz27_3:=blk_frozen BK125.out 3
                   have p132 : 0 ≤ (x6_3 : Int):=of_decide_eq_true (by first | (with_reducible assumption) | assumption)
                   have q132 : x6_3 < (l0.length : Int):=of_decide_eq_true (by first | (with_reducible assumption) | assumption)
                   obtain ⟨ad132,e132,hx132_0,hx132_1,hx132_2,hx132_3⟩:=at_T67 HR0.out x6_3 p132 q132
                   obtain rfl : ad124 = ad132:=(by injection e132)
                   replace hx132_0:=(HB.out.cell (World.block_lt_of_cell? w _ hx132_0)).trans hx132_0
                   replace hx132_1:=(HB.out.cell (World.block_lt_of_cell? w _ hx132_1)).trans hx132_1
                   replace hx132_2:=(HB.out.cell (World.block_lt_of_cell? w _ hx132_2)).trans hx132_2
                   replace hx132_3:=(HB.out.cell (World.block_lt_of_cell? w _ hx132_3)).trans hx132_3
                   replace p132:=eq_true p132
                   replace q132:=eq_true q132
                   have p133 : 0 ≤ (x6_3 : Int):=of_decide_eq_true (by first | (with_reducible assumption) | assumption)
                   have q133 : x6_3 < (l0.length : Int):=of_decide_eq_true (by first | (with_reducible assumption) | assumption)
                   obtain ⟨ad133,e133,hx133_0,hx133_1,hx133_2,hx133_3⟩:=at_T67 HR0.out x6_3 p133 q133
                   obtain rfl : ad124 = ad133:=(by injection e133)
                   replace hx133_0:=(HB.out.cell (World.block_lt_of_cell? w _ hx133_0)).trans hx133_0
                   replace hx133_1:=(HB.out.cell (World.block_lt_of_cell? w _ hx133_1)).trans hx133_1
                   replace hx133_2:=(HB.out.cell (World.block_lt_of_cell? w _ hx133_2)).trans hx133_2
                   replace hx133_3:=(HB.out.cell (World.block_lt_of_cell? w _ hx133_3)).trans hx133_3
                   replace p133:=eq_true p133
                   replace q133:=eq_true q133
                   have p134 : 0 ≤ (x6_3 : Int):=of_decide_eq_true (by first | (with_reducible assumption) | assumption)
                   have q134 : x6_3 < (l0.length : Int):=of_decide_eq_true (by first | (with_reducible assumption) | assumption)
                   obtain ⟨ad134,e134,hx134_0,hx134_1,hx134_2,hx134_3⟩:=at_T67 HR0.out x6_3 p134 q134
                   obtain rfl : ad124 = ad134:=(by injection e134)
                   replace hx134_0:=(HB.out.cell (World.block_lt_of_cell? w _ hx134_0)).trans hx134_0
                   replace hx134_1:=(HB.out.cell (World.block_lt_of_cell? w _ hx134_1)).trans hx134_1
                   replace hx134_2:=(HB.out.cell (World.block_lt_of_cell? w _ hx134_2)).trans hx134_2
                   replace hx134_3:=(HB.out.cell (World.block_lt_of_cell? w _ hx134_3)).trans hx134_3
                   replace p134:=eq_true p134
                   replace q134:=eq_true q134
                   go_wp2
                   repeat (go_quiet (fail);try go_wp2)
                   go_ret
                   exact ⟨by first | rfl | (simp [errW_none,errW_some] <;> rfl) | (simp [*,errW_none,errW_some] <;> rfl),by repeat (first | (with_reducible first | exact HB.out | apply below_alloc | apply pw_below_drewN | apply below_drew1 | refine below_set ?_ GE125.out) | exact HB.out)⟩
                 ·rw [if_neg c24] at H
                  have c24b0 : (((rd_T67 l0 x6_3).f2).toList == ((rd_T67 l0 x3_1).f2).toList) = false:=beq_eq_false_iff_ne.mpr c24
                  have c24b1 : (((rd_T67 l0 x6_3).f2).toList != ((rd_T67 l0 x3_1).f2).toList) = true:=bne_iff_ne.mpr c24
                  have H':=Aside0.mk H
                  clear H
                  have hcz28_0 : wr.cell? ⟨gb125,0,none⟩ = some (.int .i64 ((rd_T67 l0 x3_1).f0)):=(blk_cell BK125.out 0).trans rfl
                  have hcz28_1 : wr.cell? ⟨gb125,1,none⟩ = some (.string ((rd_T67 l0 x3_1).f1)):=(blk_cell BK125.out 1).trans rfl
                  have hcz28_2 : wr.cell? ⟨gb125,2,none⟩ = some (.string ((rd_T67 l0 x3_1).f2)):=(blk_cell BK125.out 2).trans rfl
                  have hcz28_3 : wr.cell? ⟨gb125,3,none⟩ = some (.string ((rd_T67 l0 x3_1).f3)):=(blk_cell BK125.out 3).trans rfl
                  have hfz28_0:=blk_frozen BK125.out 0
                  have hfz28_1:=blk_frozen BK125.out 1
                  have hfz28_2:=blk_frozen BK125.out 2
                  have hfz28_3:=blk_frozen BK125.out 3
                  have p132 : 0 ≤ (x6_3 : Int):=of_decide_eq_true (by first | (with_reducible assumption) | assumption)
                  have q132 : x6_3 < (l0.length : Int):=of_decide_eq_true (by first | (with_reducible assumption) | assumption)
                  obtain ⟨ad132,e132,hx132_0,hx132_1,hx132_2,hx132_3⟩:=at_T67 HR0.out x6_3 p132 q132
                  obtain rfl : ad124 = ad132:=(by injection e132)
                  replace hx132_0:=(HB.out.cell (World.block_lt_of_cell? w _ hx132_0)).trans hx132_0
                  replace hx132_1:=(HB.out.cell (World.block_lt_of_cell? w _ hx132_1)).trans hx132_1
                  replace hx132_2:=(HB.out.cell (World.block_lt_of_cell? w _ hx132_2)).trans hx132_2
                  replace hx132_3:=(HB.out.cell (World.block_lt_of_cell? w _ hx132_3)).trans hx132_3
                  replace p132:=eq_true p132
                  replace q132:=eq_true q132
                  have p133 : 0 ≤ (x6_3 : Int):=of_decide_eq_true (by first | (with_reducible assumption) | assumption)
                  have q133 : x6_3 < (l0.length : Int):=of_decide_eq_true (by first | (with_reducible assumption) | assumption)
                  obtain ⟨ad133,e133,hx133_0,hx133_1,hx133_2,hx133_3⟩:=at_T67 HR0.out x6_3 p133 q133
                  obtain rfl : ad124 = ad133:=(by injection e133)
                  replace hx133_0:=(HB.out.cell (World.block_lt_of_cell? w _ hx133_0)).trans hx133_0
                  replace hx133_1:=(HB.out.cell (World.block_lt_of_cell? w _ hx133_1)).trans hx133_1
                  replace hx133_2:=(HB.out.cell (World.block_lt_of_cell? w _ hx133_2)).trans hx133_2
                  replace hx133_3:=(HB.out.cell (World.block_lt_of_cell? w _ hx133_3)).trans hx133_3
                  replace p133:=eq_true p133
                  replace q133:=eq_true q133
                  go_wp2
                  repeat (go_quiet (fail);try go_wp2)
                  go_roundg k3
                  case measure => have:=HK1.out;have:=HJ6.out;have:=HK3.out;omega
                  case rel => exact ⟨(wrap64 (x6_3 + 1)),(by first | rfl | (simp;done) | (simp [*];done)),H',⟨by have:=HK1.out;have:=HJ6.out;have:=HK3.out;omega⟩,⟨by (with_reducible repeat (first | refine blk_drewN ?_ _ | refine blk_drew ?_ | refine blk_alloc ?_ _));exact BK125.out⟩,⟨by repeat (first | (with_reducible first | exact HB.out | apply below_alloc | apply pw_below_drewN | apply below_drew1 | refine below_set ?_ GE125.out) | exact HB.out)⟩⟩
                ·rw [if_neg c23] at H
                 have c23b0 : (((rd_T67 l0 x6_3).f0) == 0) = false:=beq_eq_false_iff_ne.mpr c23
                 have c23b1 : (((rd_T67 l0 x6_3).f0) != 0) = true:=bne_iff_ne.mpr c23
                 have H':=Aside0.mk H
                 clear H
                 have hcz29_0 : wr.cell? ⟨gb125,0,none⟩ = some (.int .i64 ((rd_T67 l0 x3_1).f0)):=(blk_cell BK125.out 0).trans rfl
                 have hcz29_1 : wr.cell? ⟨gb125,1,none⟩ = some (.string ((rd_T67 l0 x3_1).f1)):=(blk_cell BK125.out 1).trans rfl
                 have hcz29_2 : wr.cell? ⟨gb125,2,none⟩ = some (.string ((rd_T67 l0 x3_1).f2)):=(blk_cell BK125.out 2).trans rfl
                 have hcz29_3 : wr.cell? ⟨gb125,3,none⟩ = some (.string ((rd_T67 l0 x3_1).f3)):=(blk_cell BK125.out 3).trans rfl
                 have hfz29_0:=blk_frozen BK125.out 0
                 have hfz29_1:=blk_frozen BK125.out 1
                 have hfz29_2:=blk_frozen BK125.out 2
                 have hfz29_3:=blk_frozen BK125.out 3
                 have p132 : 0 ≤ (x6_3 : Int):=of_decide_eq_true (by first | (with_reducible assumption) | assumption)
                 have q132 : x6_3 < (l0.length : Int):=of_decide_eq_true (by first | (with_reducible assumption) | assumption)
                 obtain ⟨ad132,e132,hx132_0,hx132_1,hx132_2,hx132_3⟩:=at_T67 HR0.out x6_3 p132 q132
                 obtain rfl : ad124 = ad132:=(by injection e132)
                 replace hx132_0:=(HB.out.cell (World.block_lt_of_cell? w _ hx132_0)).trans hx132_0
                 replace hx132_1:=(HB.out.cell (World.block_lt_of_cell? w _ hx132_1)).trans hx132_1
                 replace hx132_2:=(HB.out.cell (World.block_lt_of_cell? w _ hx132_2)).trans hx132_2
                 replace hx132_3:=(HB.out.cell (World.block_lt_of_cell? w _ hx132_3)).trans hx132_3
                 replace p132:=eq_true p132
                 replace q132:=eq_true q132
                 go_wp2
                 repeat (go_quiet (fail);try go_wp2)
                 go_roundg k3
                 case measure => have:=HK1.out;have:=HJ6.out;have:=HK3.out;omega
                 case rel => exact ⟨(wrap64 (x6_3 + 1)),(by first | rfl | (simp;done) | (simp [*];done)),H',⟨by have:=HK1.out;have:=HJ6.out;have:=HK3.out;omega⟩,⟨by (with_reducible repeat (first | refine blk_drewN ?_ _ | refine blk_drew ?_ | refine blk_alloc ?_ _));exact BK125.out⟩,⟨by repeat (first | (with_reducible first | exact HB.out | apply below_alloc | apply pw_below_drewN | apply below_drew1 | refine below_set ?_ GE125.out) | exact HB.out)⟩⟩
               ·rw [if_neg c22] at H
                exact absurd H (by simp)
              ·rw [if_neg c21] at H
               exact absurd H (by simp)
             ·rw [if_neg c20] at H
              have c20b0 : (((rd_T67 l0 x3_1).f0) == 0) = false:=beq_eq_false_iff_ne.mpr c20
              have c20b1 : (((rd_T67 l0 x3_1).f0) != 0) = true:=bne_iff_ne.mpr c20
              have H':=Aside0.mk H
              clear H
              have hcz30_0 : wr.cell? ⟨gb125,0,none⟩ = some (.int .i64 ((rd_T67 l0 x3_1).f0)):=(blk_cell BK125.out 0).trans rfl
              have hcz30_1 : wr.cell? ⟨gb125,1,none⟩ = some (.string ((rd_T67 l0 x3_1).f1)):=(blk_cell BK125.out 1).trans rfl
              have hcz30_2 : wr.cell? ⟨gb125,2,none⟩ = some (.string ((rd_T67 l0 x3_1).f2)):=(blk_cell BK125.out 2).trans rfl
              have hcz30_3 : wr.cell? ⟨gb125,3,none⟩ = some (.string ((rd_T67 l0 x3_1).f3)):=(blk_cell BK125.out 3).trans rfl
              have hfz30_0:=blk_frozen BK125.out 0
              have hfz30_1:=blk_frozen BK125.out 1
              have hfz30_2:=blk_frozen BK125.out 2
              have hfz30_3:=blk_frozen BK125.out 3
              go_wp2
              repeat (go_quiet (fail);try go_wp2)
              go_roundg k3
              case measure => have:=HK1.out;have:=HJ6.out;have:=HK3.out;omega
              case rel => exact ⟨(wrap64 (x6_3 + 1)),(by first | rfl | (simp;done) | (simp [*];done)),H',⟨by have:=HK1.out;have:=HJ6.out;have:=HK3.out;omega⟩,⟨by (with_reducible repeat (first | refine blk_drewN ?_ _ | refine blk_drew ?_ | refine blk_alloc ?_ _));exact BK125.out⟩,⟨by repeat (first | (with_reducible first | exact HB.out | apply below_alloc | apply pw_below_drewN | apply below_drew1 | refine below_set ?_ GE125.out) | exact HB.out)⟩⟩
            ·rw [if_neg c19] at H
             have c19b0 : decide (x6_3 < x3_1) = false:=decide_eq_false c19
             clear c19
             have HC31:=Aside0.mk H
             clear H
             go_upto_region 17 with (fail)
             repeat (go_quiet (fail);go_upto_region 17 with (fail))
             go_cut [83] (fun v83 wc => ∃ (kq : Nat) (x83_30 : Bool),v83 = .bool x83_30 ∧ Aside0 (metrolabref53_Check.j3 kq l0 x3_1 x83_30 ((rd_T67 l0 x3_1).f0) ((rd_T67 l0 x3_1).f1) ((rd_T67 l0 x3_1).f2) ((rd_T67 l0 x3_1).f3) = some r) ∧ Aside0 (kq ≤ k3) ∧ Aside0 (wc.heap[gb125]? = some (.cells #[.int .i64 ((rd_T67 l0 x3_1).f0),.string ((rd_T67 l0 x3_1).f1),.string ((rd_T67 l0 x3_1).f2),.string ((rd_T67 l0 x3_1).f3)] 67 (0,0))) ∧ Aside0 (Below w.heap.size w wc))
             case first =>
              have H:=HC31.out
              clear HC31
              by_cases c32 : ((rd_T67 l0 x3_1).f0) = 3
              ·rw [if_pos c32] at H
               have c32b0 : (((rd_T67 l0 x3_1).f0) == 3) = true:=beq_iff_eq.mpr c32
               have c32b1 : (((rd_T67 l0 x3_1).f0) != 3) = false:=bne_eq_false_iff_eq.mpr c32
               clear c32
               (first | rw [c32b0] | (simp only [i64_w,i32_w];rw [c32b0]) | skip)
               by_cases c33 : 0 ≤ x3_1
               ·rw [if_pos c33] at H
                have c33b0:=eq_true c33
                have c33b1 : decide (0 ≤ x3_1) = true:=decide_eq_true c33
                clear c33
                by_cases c34 : x3_1 ≤ (l0.length : Int)
                ·rw [if_pos c34] at H
                 have c34b0:=eq_true c34
                 have c34b1 : decide (x3_1 ≤ (l0.length : Int)) = true:=decide_eq_true c34
                 clear c34
                 obtain ⟨y135,hy135⟩ : ∃ y_ : List (S67),y_ = (l0.take (x3_1 : Int).toNat):=⟨_,rfl⟩
                 replace H : ((metrolabref53_Measured.f k3 y135 ((rd_T67 l0 x3_1).f2)).bind fun t139 => (metrolabref53_Check.j3 k3 l0 x3_1 (!t139) ((rd_T67 l0 x3_1).f0) ((rd_T67 l0 x3_1).f1) ((rd_T67 l0 x3_1).f2) ((rd_T67 l0 x3_1).f3))) = some r:=by first | (rw [hy135];with_reducible exact H) | (have H2_:=(Option.bind_some _ _).symm.trans H;rw [hy135];with_reducible exact H2_) | (have H2_:=(Option.bind_some _ _).symm.trans H;with_reducible exact H2_) | with_reducible exact H | (rw [hy135];exact H) | exact H
                 have Ny135:=Aside0.mk hy135
                 clear hy135
                 replace H:=Option.bind_eq_some_iff.mp H
                 obtain ⟨t139,A350,H⟩:=H
                 replace H : (metrolabref53_Check.j3 k3 l0 x3_1 (!t139) ((rd_T67 l0 x3_1).f0) ((rd_T67 l0 x3_1).f1) ((rd_T67 l0 x3_1).f2) ((rd_T67 l0 x3_1).f3)) = some r:=H
                 have A35:=Aside0.mk A350
                 clear A350
                 have H':=Aside0.mk H
                 clear H
                 have hcz36_0 : wr.cell? ⟨gb125,0,none⟩ = some (.int .i64 ((rd_T67 l0 x3_1).f0)):=(blk_cell BK125.out 0).trans rfl
                 have hcz36_1 : wr.cell? ⟨gb125,1,none⟩ = some (.string ((rd_T67 l0 x3_1).f1)):=(blk_cell BK125.out 1).trans rfl
                 have hcz36_2 : wr.cell? ⟨gb125,2,none⟩ = some (.string ((rd_T67 l0 x3_1).f2)):=(blk_cell BK125.out 2).trans rfl
                 have hcz36_3 : wr.cell? ⟨gb125,3,none⟩ = some (.string ((rd_T67 l0 x3_1).f3)):=(blk_cell BK125.out 3).trans rfl
                 have hfz36_0:=blk_frozen BK125.out 0
                 have hfz36_1:=blk_frozen BK125.out 1
                 have hfz36_2:=blk_frozen BK125.out 2
                 have hfz36_3:=blk_frozen BK125.out 3
                 have q37 : (x3_1 : Int) ≤ ((l0.length : Int) : Int):=of_decide_eq_true (by first | (with_reducible assumption) | assumption)
                 obtain ⟨i037,hi037,_,hsz37,_⟩:=info_parts info67
                 have hroom37 : l0.length ≤ c0:=HC0.out
                 have hC37 : Kd.C k67 _ (some ad124) l0.length l0:=HR0.out
                 have hcut37:=cut_to (P:=Try.prog) 31 67 .i64 Try.underlying31 hi037 (some ad124) l0.length c0 x3_1 (of_decide_eq_true (by first | (with_reducible assumption) | assumption)) q37 hroom37
                 have hr37:=Kd.C_take (m:=(x3_1 : Int).toNat) hC37 (by omega)
                 have hy37 : y135.length = (x3_1 : Int).toNat:=(by rw [Ny135.out,List.length_take];omega)
                 rw [← Ny135.out] at hr37
                 rw [← hy37] at hcut37
                 have HR138:=Aside0.mk hr37
                 have HC138:=Aside0.mk (show y135.length ≤ c0 from by omega)
                 clear hr37 hC37 hroom37 hi037 hsz37
                 have KY37:=Aside0.mk hy37
                 clear hy37
                 replace q37:=eq_true q37
                 go_wp2_with (first | (go_at_call 46;(with_reducible refine (metrolabref53_Measured.calls k3 _ _ y135 ((rd_T67 l0 x3_1).f2) t139 _ ?side1 ?side2 A35.out).mono ?_);(case side1 => repeat (first | exact (Kd.C_below HR138.out HB.out) | (with_reducible refine Kd.C_alloc ?_ _) | (with_reducible refine Kd.C_drewN ?_ _) | (with_reducible refine Kd.C_drew ?_)));(case side2 => exact HC138.out);rintro e w' ⟨rfl,⟨nd,rfl⟩⟩;(try first | exact ⟨rfl,_,World.drewN_drewN _ _ _⟩ | exact ⟨rfl,_,Eq.trans (World.drewN_drewN _ _ _) (congrArg (World.drewN _) (Nat.add_assoc _ _ _))⟩)))
                 repeat (go_quiet (first | (go_at_call 46;(with_reducible refine (metrolabref53_Measured.calls k3 _ _ y135 ((rd_T67 l0 x3_1).f2) t139 _ ?side1 ?side2 A35.out).mono ?_);(case side1 => repeat (first | exact (Kd.C_below HR138.out HB.out) | (with_reducible refine Kd.C_alloc ?_ _) | (with_reducible refine Kd.C_drewN ?_ _) | (with_reducible refine Kd.C_drew ?_)));(case side2 => exact HC138.out);rintro e w' ⟨rfl,⟨nd,rfl⟩⟩;(try first | exact ⟨rfl,_,World.drewN_drewN _ _ _⟩ | exact ⟨rfl,_,Eq.trans (World.drewN_drewN _ _ _) (congrArg (World.drewN _) (Nat.add_assoc _ _ _))⟩)));try go_wp2_with (first | (go_at_call 46;(with_reducible refine (metrolabref53_Measured.calls k3 _ _ y135 ((rd_T67 l0 x3_1).f2) t139 _ ?side1 ?side2 A35.out).mono ?_);(case side1 => repeat (first | exact (Kd.C_below HR138.out HB.out) | (with_reducible refine Kd.C_alloc ?_ _) | (with_reducible refine Kd.C_drewN ?_ _) | (with_reducible refine Kd.C_drew ?_)));(case side2 => exact HC138.out);rintro e w' ⟨rfl,⟨nd,rfl⟩⟩;(try first | exact ⟨rfl,_,World.drewN_drewN _ _ _⟩ | exact ⟨rfl,_,Eq.trans (World.drewN_drewN _ _ _) (congrArg (World.drewN _) (Nat.add_assoc _ _ _))⟩))))
                 go_meet
                 case rel => exact ⟨_,(!t139),(by first | rfl | (simp;done) | (simp [*];done)),H',⟨by have:=HK1.out;have:=HJ6.out;have:=HK3.out;first | omega | exact Nat.le_refl _⟩,⟨by (with_reducible repeat (first | refine blk_drewN ?_ _ | refine blk_drew ?_ | refine blk_alloc ?_ _));exact BK125.out⟩,⟨by repeat (first | (with_reducible first | exact HB.out | apply below_alloc | apply pw_below_drewN | apply below_drew1 | refine below_set ?_ GE125.out) | exact HB.out)⟩⟩
                ·rw [if_neg c34] at H
                 exact absurd H (by simp)
               ·rw [if_neg c33] at H
                exact absurd H (by simp)
              ·rw [if_neg c32] at H
               have c32b0 : (((rd_T67 l0 x3_1).f0) == 3) = false:=beq_eq_false_iff_ne.mpr c32
               have c32b1 : (((rd_T67 l0 x3_1).f0) != 3) = true:=bne_iff_ne.mpr c32
               (first | rw [c32b0] | (simp only [i64_w,i32_w];rw [c32b0]) | skip)
               have H':=Aside0.mk H
               clear H
               have hcz38_0 : wr.cell? ⟨gb125,0,none⟩ = some (.int .i64 ((rd_T67 l0 x3_1).f0)):=(blk_cell BK125.out 0).trans rfl
               have hcz38_1 : wr.cell? ⟨gb125,1,none⟩ = some (.string ((rd_T67 l0 x3_1).f1)):=(blk_cell BK125.out 1).trans rfl
               have hcz38_2 : wr.cell? ⟨gb125,2,none⟩ = some (.string ((rd_T67 l0 x3_1).f2)):=(blk_cell BK125.out 2).trans rfl
               have hcz38_3 : wr.cell? ⟨gb125,3,none⟩ = some (.string ((rd_T67 l0 x3_1).f3)):=(blk_cell BK125.out 3).trans rfl
               have hfz38_0:=blk_frozen BK125.out 0
               have hfz38_1:=blk_frozen BK125.out 1
               have hfz38_2:=blk_frozen BK125.out 2
               have hfz38_3:=blk_frozen BK125.out 3
               go_wp2
               repeat (go_quiet (fail);try go_wp2)
               go_meet
               case rel => exact ⟨_,(false),(by first | rfl | (simp;done) | (simp [*];done)),H',⟨by have:=HK1.out;have:=HJ6.out;have:=HK3.out;first | omega | exact Nat.le_refl _⟩,⟨by (with_reducible repeat (first | refine blk_drewN ?_ _ | refine blk_drew ?_ | refine blk_alloc ?_ _));exact BK125.out⟩,⟨by repeat (first | (with_reducible first | exact HB.out | apply below_alloc | apply pw_below_drewN | apply below_drew1 | refine below_set ?_ GE125.out) | exact HB.out)⟩⟩
             case rest =>
              clear HC31
              try clear c1
              try clear p1
              try clear q1
              try clear hx1
              try clear c2
              try clear c2b0
              try clear c2b1
              try clear p2
              try clear c3
              try clear c3b0
              try clear q3
              try clear c4
              try clear c4b0
              try clear c6
              try clear c6b0
              try clear c6b1
              try clear p6
              try clear c11
              try clear c11b0
              try clear c11b1
              try clear c12
              try clear c12b0
              try clear p12
              try clear q12
              try clear hx12
              try clear c13
              try clear c13b0
              try clear c13b1
              try clear p13
              try clear q13
              try clear hx13
              try clear q16
              try clear c17
              try clear c18
              try clear c19
              try clear c19b0
              try clear c20
              try clear c20b0
              try clear c20b1
              try clear c21
              try clear c21b0
              try clear c22
              try clear c22b0
              try clear c23
              try clear c23b0
              try clear c23b1
              try clear c24
              try clear c24b0
              try clear c24b1
              try clear c25
              try clear c25b0
              try clear c25b1
              try clear c32
              try clear c32b0
              try clear c32b1
              try clear c33
              try clear c33b0
              try clear c33b1
              try clear c34
              try clear c34b0
              try clear c34b1
              try clear q37
              try clear hcz15_0
              try clear hcz15_1
              try clear hcz15_2
              try clear hcz15_3
              try clear hcz17_0
              try clear hcz17_1
              try clear hcz17_2
              try clear hcz17_3
              try clear hcz26_0
              try clear hcz26_1
              try clear hcz26_2
              try clear hcz26_3
              try clear hcz27_0
              try clear hcz27_1
              try clear hcz27_2
              try clear hcz27_3
              try clear hcz28_0
              try clear hcz28_1
              try clear hcz28_2
              try clear hcz28_3
              try clear hcz29_0
              try clear hcz29_1
              try clear hcz29_2
              try clear hcz29_3
              try clear hcz30_0
              try clear hcz30_1
              try clear hcz30_2
              try clear hcz30_3
              try clear hcz36_0
              try clear hcz36_1
              try clear hcz36_2
              try clear hcz36_3
              try clear hcz38_0
              try clear hcz38_1
              try clear hcz38_2
              try clear hcz38_3
              try clear hcz9_0
              try clear hcz9_1
              try clear hcz9_2
              try clear hcz9_3
              try clear hfz15_0
              try clear hfz15_1
              try clear hfz15_2
              try clear hfz15_3
              try clear hfz17_0
              try clear hfz17_1
              try clear hfz17_2
              try clear hfz17_3
              try clear hfz26_0
              try clear hfz26_1
              try clear hfz26_2
              try clear hfz26_3
              try clear hfz27_0
              try clear hfz27_1
              try clear hfz27_2
              try clear hfz27_3
              try clear hfz28_0
              try clear hfz28_1
              try clear hfz28_2
              try clear hfz28_3
              try clear hfz29_0
              try clear hfz29_1
              try clear hfz29_2
              try clear hfz29_3
              try clear hfz30_0
              try clear hfz30_1
              try clear hfz30_2
              try clear hfz30_3
              try clear hfz36_0
              try clear hfz36_1
              try clear hfz36_2
              try clear hfz36_3
              try clear hfz38_0
              try clear hfz38_1
              try clear hfz38_2
              try clear hfz38_3
              try clear hfz9_0
              try clear hfz9_1
              try clear hfz9_2
              try clear hfz9_3
              try clear hx124_0
              try clear hx124_1
              try clear hx124_2
              try clear hx124_3
              try clear hx132_0
              try clear hx132_1
              try clear hx132_2
              try clear hx132_3
              try clear hx133_0
              try clear hx133_1
              try clear hx133_2
              try clear hx133_3
              try clear hx134_0
              try clear hx134_1
              try clear hx134_2
              try clear hx134_3
              try clear p1
              try clear p12
              try clear p124
              try clear p132
              try clear p133
              try clear p134
              try clear p2
              try clear q1
              try clear q12
              try clear q124
              try clear q132
              try clear q133
              try clear q134
              try clear q16
              try clear q37
              obtain ⟨kq,x83_30,rfl,HA,HJ30,BK125,HB⟩:=hcut
              cases kq with
              | zero => exact absurd HA.out (by simp [metrolabref53_Check.j3])
              | succ kj30 =>
               have H:=HA.out
               clear HA
               simp only [metrolabref53_Check.j3] at H
               by_cases c39 : x83_30 = true
               ·subst c39
                have H1 : (some 6) = some r:=by rw [if_pos rfl] at H;exact H
                clear H
                have H:=H1
                clear H1
                obtain rfl:=Option.some.inj H
                go_wp2
                repeat (go_quiet (fail);try go_wp2)
                go_ret
                exact ⟨by first | rfl | (simp [errW_none,errW_some] <;> rfl) | (simp [*,errW_none,errW_some] <;> rfl),by repeat (first | (with_reducible first | exact HB.out | apply below_alloc | apply pw_below_drewN | apply below_drew1 | refine below_set ?_ GE125.out) | exact HB.out)⟩
               ·replace c39:=Bool.eq_false_iff.mpr c39
                subst c39
                have H1 : (if ((rd_T67 l0 x3_1).f0) = 3 then (if 0 ≤ x3_1 then (if x3_1 ≤ (l0.length : Int) then ((metrolabref53_Withdrawn.f kj30 (l0.take (x3_1 : Int).toNat) ((rd_T67 l0 x3_1).f2)).bind fun t144 => (if t144 = true then (some 14) else (metrolabref53_Check.l0 kj30 l0 (wrap64 (x3_1 + 1))))) else (none)) else (none)) else (metrolabref53_Check.l0 kj30 l0 (wrap64 (x3_1 + 1)))) = some r:=by rw [if_neg (show ¬ (false = true) by decide)] at H;exact H
                clear H
                have H:=H1
                clear H1
                by_cases c40 : ((rd_T67 l0 x3_1).f0) = 3
                ·rw [if_pos c40] at H
                 have c40b0 : (((rd_T67 l0 x3_1).f0) == 3) = true:=beq_iff_eq.mpr c40
                 have c40b1 : (((rd_T67 l0 x3_1).f0) != 3) = false:=bne_eq_false_iff_eq.mpr c40
                 clear c40
                 by_cases c41 : 0 ≤ x3_1
                 ·rw [if_pos c41] at H
                  have c41b0:=eq_true c41
                  have c41b1 : decide (0 ≤ x3_1) = true:=decide_eq_true c41
                  clear c41
                  by_cases c42 : x3_1 ≤ (l0.length : Int)
                  ·rw [if_pos c42] at H
                   have c42b0:=eq_true c42
                   have c42b1 : decide (x3_1 ≤ (l0.length : Int)) = true:=decide_eq_true c42
                   clear c42
                   obtain ⟨y140,hy140⟩ : ∃ y_ : List (S67),y_ = (l0.take (x3_1 : Int).toNat):=⟨_,rfl⟩
                   replace H : ((metrolabref53_Withdrawn.f kj30 y140 ((rd_T67 l0 x3_1).f2)).bind fun t144 => (if t144 = true then (some 14) else (metrolabref53_Check.l0 kj30 l0 (wrap64 (x3_1 + 1))))) = some r:=by first | (rw [hy140];with_reducible exact H) | (have H2_:=(Option.bind_some _ _).symm.trans H;rw [hy140];with_reducible exact H2_) | (have H2_:=(Option.bind_some _ _).symm.trans H;with_reducible exact H2_) | with_reducible exact H | (rw [hy140];exact H) | exact H
                   have Ny140:=Aside0.mk hy140
                   clear hy140
                   replace H:=Option.bind_eq_some_iff.mp H
                   obtain ⟨t144,A430,H⟩:=H
                   replace H : (if t144 = true then (some 14) else (metrolabref53_Check.l0 kj30 l0 (wrap64 (x3_1 + 1)))) = some r:=H
                   have A43:=Aside0.mk A430
                   clear A430
                   by_cases c44 : t144 = true
                   ·subst c44
                    have H1 : (some 14) = some r:=by rw [if_pos rfl] at H;exact H
                    clear H
                    have H:=H1
                    clear H1
                    obtain rfl:=Option.some.inj H
                    have hcz45_0 : wc.cell? ⟨gb125,0,none⟩ = some (.int .i64 ((rd_T67 l0 x3_1).f0)):=(blk_cell BK125.out 0).trans rfl
                    have hcz45_1 : wc.cell? ⟨gb125,1,none⟩ = some (.string ((rd_T67 l0 x3_1).f1)):=(blk_cell BK125.out 1).trans rfl
                    have hcz45_2 : wc.cell? ⟨gb125,2,none⟩ = some (.string ((rd_T67 l0 x3_1).f2)):=(blk_cell BK125.out 2).trans rfl
                    have hcz45_3 : wc.cell? ⟨gb125,3,none⟩ = some (.string ((rd_T67 l0 x3_1).f3)):=(blk_cell BK125.out 3).trans rfl
                    have hfz45_0:=blk_frozen BK125.out 0
                    have hfz45_1:=blk_frozen BK125.out 1
                    have hfz45_2:=blk_frozen BK125.out 2
                    have hfz45_3:=blk_frozen BK125.out 3
                    have q46 : (x3_1 : Int) ≤ ((l0.length : Int) : Int):=of_decide_eq_true (by first | (with_reducible assumption) | assumption)
                    obtain ⟨i046,hi046,_,hsz46,_⟩:=info_parts info67
                    have hroom46 : l0.length ≤ c0:=HC0.out
                    have hC46 : Kd.C k67 _ (some ad124) l0.length l0:=HR0.out
                    have hcut46:=cut_to (P:=Try.prog) 31 67 .i64 Try.underlying31 hi046 (some ad124) l0.length c0 x3_1 (of_decide_eq_true (by first | (with_reducible assumption) | assumption)) q46 hroom46
                    have hr46:=Kd.C_take (m:=(x3_1 : Int).toNat) hC46 (by omega)
                    have hy46 : y140.length = (x3_1 : Int).toNat:=(by rw [Ny140.out,List.length_take];omega)
                    rw [← Ny140.out] at hr46
                    rw [← hy46] at hcut46
                    have HR143:=Aside0.mk hr46
                    have HC143:=Aside0.mk (show y140.length ≤ c0 from by omega)
                    clear hr46 hC46 hroom46 hi046 hsz46
                    have KY46:=Aside0.mk hy46
                    clear hy46
                    replace q46:=eq_true q46
                    go_wp2_with (first | (go_at_call 45;(with_reducible refine (metrolabref53_Withdrawn.calls kj30 _ _ y140 ((rd_T67 l0 x3_1).f2) true _ ?side1 ?side2 A43.out).mono ?_);(case side1 => repeat (first | exact (Kd.C_below HR143.out HB.out) | (with_reducible refine Kd.C_alloc ?_ _) | (with_reducible refine Kd.C_drewN ?_ _) | (with_reducible refine Kd.C_drew ?_)));(case side2 => exact HC143.out);rintro e w' ⟨rfl,⟨nd,rfl⟩⟩;(try first | exact ⟨rfl,_,World.drewN_drewN _ _ _⟩ | exact ⟨rfl,_,Eq.trans (World.drewN_drewN _ _ _) (congrArg (World.drewN _) (Nat.add_assoc _ _ _))⟩)))
                    repeat (go_quiet (first | (go_at_call 45;(with_reducible refine (metrolabref53_Withdrawn.calls kj30 _ _ y140 ((rd_T67 l0 x3_1).f2) true _ ?side1 ?side2 A43.out).mono ?_);(case side1 => repeat (first | exact (Kd.C_below HR143.out HB.out) | (with_reducible refine Kd.C_alloc ?_ _) | (with_reducible refine Kd.C_drewN ?_ _) | (with_reducible refine Kd.C_drew ?_)));(case side2 => exact HC143.out);rintro e w' ⟨rfl,⟨nd,rfl⟩⟩;(try first | exact ⟨rfl,_,World.drewN_drewN _ _ _⟩ | exact ⟨rfl,_,Eq.trans (World.drewN_drewN _ _ _) (congrArg (World.drewN _) (Nat.add_assoc _ _ _))⟩)));try go_wp2_with (first | (go_at_call 45;(with_reducible refine (metrolabref53_Withdrawn.calls kj30 _ _ y140 ((rd_T67 l0 x3_1).f2) true _ ?side1 ?side2 A43.out).mono ?_);(case side1 => repeat (first | exact (Kd.C_below HR143.out HB.out) | (with_reducible refine Kd.C_alloc ?_ _) | (with_reducible refine Kd.C_drewN ?_ _) | (with_reducible refine Kd.C_drew ?_)));(case side2 => exact HC143.out);rintro e w' ⟨rfl,⟨nd,rfl⟩⟩;(try first | exact ⟨rfl,_,World.drewN_drewN _ _ _⟩ | exact ⟨rfl,_,Eq.trans (World.drewN_drewN _ _ _) (congrArg (World.drewN _) (Nat.add_assoc _ _ _))⟩))))
                    go_ret
                    exact ⟨by first | rfl | (simp [errW_none,errW_some] <;> rfl) | (simp [*,errW_none,errW_some] <;> rfl),by repeat (first | (with_reducible first | exact HB.out | apply below_alloc | apply pw_below_drewN | apply below_drew1 | refine below_set ?_ GE125.out) | exact HB.out)⟩
                   ·replace c44:=Bool.eq_false_iff.mpr c44
                    subst c44
                    have H1 : (metrolabref53_Check.l0 kj30 l0 (wrap64 (x3_1 + 1))) = some r:=by rw [if_neg (show ¬ (false = true) by decide)] at H;exact H
                    clear H
                    have H:=H1
                    clear H1
                    have H':=Aside0.mk H
                    clear H
                    have hcz47_0 : wc.cell? ⟨gb125,0,none⟩ = some (.int .i64 ((rd_T67 l0 x3_1).f0)):=(blk_cell BK125.out 0).trans rfl
                    have hcz47_1 : wc.cell? ⟨gb125,1,none⟩ = some (.string ((rd_T67 l0 x3_1).f1)):=(blk_cell BK125.out 1).trans rfl
                    have hcz47_2 : wc.cell? ⟨gb125,2,none⟩ = some (.string ((rd_T67 l0 x3_1).f2)):=(blk_cell BK125.out 2).trans rfl
                    have hcz47_3 : wc.cell? ⟨gb125,3,none⟩ = some (.string ((rd_T67 l0 x3_1).f3)):=(blk_cell BK125.out 3).trans rfl
                    have hfz47_0:=blk_frozen BK125.out 0
                    have hfz47_1:=blk_frozen BK125.out 1
                    have hfz47_2:=blk_frozen BK125.out 2
                    have hfz47_3:=blk_frozen BK125.out 3
                    have q48 : (x3_1 : Int) ≤ ((l0.length : Int) : Int):=of_decide_eq_true (by first | (with_reducible assumption) | assumption)
                    obtain ⟨i048,hi048,_,hsz48,_⟩:=info_parts info67
                    have hroom48 : l0.length ≤ c0:=HC0.out
                    have hC48 : Kd.C k67 _ (some ad124) l0.length l0:=HR0.out
                    have hcut48:=cut_to (P:=Try.prog) 31 67 .i64 Try.underlying31 hi048 (some ad124) l0.length c0 x3_1 (of_decide_eq_true (by first | (with_reducible assumption) | assumption)) q48 hroom48
                    have hr48:=Kd.C_take (m:=(x3_1 : Int).toNat) hC48 (by omega)
                    have hy48 : y140.length = (x3_1 : Int).toNat:=(by rw [Ny140.out,List.length_take];omega)
                    rw [← Ny140.out] at hr48
                    rw [← hy48] at hcut48
                    have HR143:=Aside0.mk hr48
                    have HC143:=Aside0.mk (show y140.length ≤ c0 from by omega)
                    clear hr48 hC48 hroom48 hi048 hsz48
                    have KY48:=Aside0.mk hy48
                    clear hy48
                    replace q48:=eq_true q48
                    go_wp2_with (first | (go_at_call 45;(with_reducible refine (metrolabref53_Withdrawn.calls kj30 _ _ y140 ((rd_T67 l0 x3_1).f2) false _ ?side1 ?side2 A43.out).mono ?_);(case side1 => repeat (first | exact (Kd.C_below HR143.out HB.out) | (with_reducible refine Kd.C_alloc ?_ _) | (with_reducible refine Kd.C_drewN ?_ _) | (with_reducible refine Kd.C_drew ?_)));(case side2 => exact HC143.out);rintro e w' ⟨rfl,⟨nd,rfl⟩⟩;(try first | exact ⟨rfl,_,World.drewN_drewN _ _ _⟩ | exact ⟨rfl,_,Eq.trans (World.drewN_drewN _ _ _) (congrArg (World.drewN _) (Nat.add_assoc _ _ _))⟩)))
                    repeat (go_quiet (first | (go_at_call 45;(with_reducible refine (metrolabref53_Withdrawn.calls kj30 _ _ y140 ((rd_T67 l0 x3_1).f2) false _ ?side1 ?side2 A43.out).mono ?_);(case side1 => repeat (first | exact (Kd.C_below HR143.out HB.out) | (with_reducible refine Kd.C_alloc ?_ _) | (with_reducible refine Kd.C_drewN ?_ _) | (with_reducible refine Kd.C_drew ?_)));(case side2 => exact HC143.out);rintro e w' ⟨rfl,⟨nd,rfl⟩⟩;(try first | exact ⟨rfl,_,World.drewN_drewN _ _ _⟩ | exact ⟨rfl,_,Eq.trans (World.drewN_drewN _ _ _) (congrArg (World.drewN _) (Nat.add_assoc _ _ _))⟩)));try go_wp2_with (first | (go_at_call 45;(with_reducible refine (metrolabref53_Withdrawn.calls kj30 _ _ y140 ((rd_T67 l0 x3_1).f2) false _ ?side1 ?side2 A43.out).mono ?_);(case side1 => repeat (first | exact (Kd.C_below HR143.out HB.out) | (with_reducible refine Kd.C_alloc ?_ _) | (with_reducible refine Kd.C_drewN ?_ _) | (with_reducible refine Kd.C_drew ?_)));(case side2 => exact HC143.out);rintro e w' ⟨rfl,⟨nd,rfl⟩⟩;(try first | exact ⟨rfl,_,World.drewN_drewN _ _ _⟩ | exact ⟨rfl,_,Eq.trans (World.drewN_drewN _ _ _) (congrArg (World.drewN _) (Nat.add_assoc _ _ _))⟩))))
                    go_roundg kj30
                    case measure => have:=HK1.out;have:=HJ6.out;have:=HK3.out;have:=HJ30.out;omega
                    case rel => exact ⟨(wrap64 (x3_1 + 1)),(by first | rfl | (simp;done) | (simp [*];done)),H',⟨by have:=HK1.out;have:=HJ6.out;have:=HK3.out;have:=HJ30.out;omega⟩,⟨by repeat (first | (with_reducible first | exact HB.out | apply below_alloc | apply pw_below_drewN | apply below_drew1 | refine below_set ?_ GE125.out) | exact HB.out)⟩⟩
                  ·rw [if_neg c42] at H
                   exact absurd H (by simp)
                 ·rw [if_neg c41] at H
                  exact absurd H (by simp)
                ·rw [if_neg c40] at H
                 have c40b0 : (((rd_T67 l0 x3_1).f0) == 3) = false:=beq_eq_false_iff_ne.mpr c40
                 have c40b1 : (((rd_T67 l0 x3_1).f0) != 3) = true:=bne_iff_ne.mpr c40
                 have H':=Aside0.mk H
                 clear H
                 have hcz49_0 : wc.cell? ⟨gb125,0,none⟩ = some (.int .i64 ((rd_T67 l0 x3_1).f0)):=(blk_cell BK125.out 0).trans rfl
                 have hcz49_1 : wc.cell? ⟨gb125,1,none⟩ = some (.string ((rd_T67 l0 x3_1).f1)):=(blk_cell BK125.out 1).trans rfl
                 have hcz49_2 : wc.cell? ⟨gb125,2,none⟩ = some (.string ((rd_T67 l0 x3_1).f2)):=(blk_cell BK125.out 2).trans rfl
                 have hcz49_3 : wc.cell? ⟨gb125,3,none⟩ = some (.string ((rd_T67 l0 x3_1).f3)):=(blk_cell BK125.out 3).trans rfl
                 have hfz49_0:=blk_frozen BK125.out 0
                 have hfz49_1:=blk_frozen BK125.out 1
                 have hfz49_2:=blk_frozen BK125.out 2
                 have hfz49_3:=blk_frozen BK125.out 3
                 go_wp2
                 repeat (go_quiet (fail);try go_wp2)
                 go_roundg kj30
                 case measure => have:=HK1.out;have:=HJ6.out;have:=HK3.out;have:=HJ30.out;omega
                 case rel => exact ⟨(wrap64 (x3_1 + 1)),(by first | rfl | (simp;done) | (simp [*];done)),H',⟨by have:=HK1.out;have:=HJ6.out;have:=HK3.out;have:=HJ30.out;omega⟩,⟨by repeat (first | (with_reducible first | exact HB.out | apply below_alloc | apply pw_below_drewN | apply below_drew1 | refine below_set ?_ GE125.out) | exact HB.out)⟩⟩
      ·rw [if_neg c6] at H
       have c6b0 : (t126 == 0) = false:=beq_eq_false_iff_ne.mpr c6
       have c6b1 : (t126 != 0) = true:=bne_iff_ne.mpr c6
       obtain rfl:=Option.some.inj H
       have p124 : 0 ≤ (x3_1 : Int):=of_decide_eq_true (by first | (with_reducible assumption) | assumption)
       have q124 : x3_1 < (l0.length : Int):=of_decide_eq_true (by first | (with_reducible assumption) | assumption)
       obtain ⟨ad124,e124,hx124_0,hx124_1,hx124_2,hx124_3⟩:=at_T67 HR0.out x3_1 p124 q124
       cases e124
       replace hx124_0:=(HB.out.cell (World.block_lt_of_cell? w _ hx124_0)).trans hx124_0
       replace hx124_1:=(HB.out.cell (World.block_lt_of_cell? w _ hx124_1)).trans hx124_1
       replace hx124_2:=(HB.out.cell (World.block_lt_of_cell? w _ hx124_2)).trans hx124_2
       replace hx124_3:=(HB.out.cell (World.block_lt_of_cell? w _ hx124_3)).trans hx124_3
       replace p124:=eq_true p124
       replace q124:=eq_true q124
       go_wp2_with (first | ((with_reducible refine gate_dst (N:=4) rfl ?_);refine box_event ?hg (N:=4) ?hd (cs:=#[.int .i64 0,.string (⟨#[]⟩ : ByteArray),.string (⟨#[]⟩ : ByteArray),.string (⟨#[]⟩ : ByteArray)]) (t:=67) ?hr ?_;(case hd => rfl);(case hg => rfl);(case hr => first | (go_simp;done) | (go_simp;rfl));intro gb125 hg w50 hbox hb;have n0_:=Aside0.mk (below_step (by repeat (first | (with_reducible first | exact HB.out | apply below_alloc | apply pw_below_drewN | apply below_drew1) | exact HB.out)) hb);have n1_:=Aside0.mk (hbox);have n2_:=Aside0.mk ((by rw [hg];exact (below_size (by repeat (first | (with_reducible first | exact HB.out | apply below_alloc | apply pw_below_drewN | apply below_drew1) | exact HB.out))) : w.heap.size ≤ gb125));have n3_:=Aside0.mk ((by rw [hg];exact (below_size (by repeat (first | (with_reducible first | exact HB.out | apply below_alloc | apply pw_below_drewN | apply below_drew1) | exact HB.out))) : w.heap.size ≤ gb125));clear HB;have HB:=n0_;have BK125:=n1_;have GW125:=n2_;have GE125:=n3_;clear n0_ n1_ n2_ n3_;clear hb hbox hg;have hcz51_0 : w50.cell? ⟨gb125,0,none⟩ = some (.int .i64 0):=(blk_cell BK125.out 0).trans rfl;have hcz51_1 : w50.cell? ⟨gb125,1,none⟩ = some (.string (⟨#[]⟩ : ByteArray)):=(blk_cell BK125.out 1).trans rfl;have hcz51_2 : w50.cell? ⟨gb125,2,none⟩ = some (.string (⟨#[]⟩ : ByteArray)):=(blk_cell BK125.out 2).trans rfl;have hcz51_3 : w50.cell? ⟨gb125,3,none⟩ = some (.string (⟨#[]⟩ : ByteArray)):=(blk_cell BK125.out 3).trans rfl;have hfz51_0:=blk_frozen BK125.out 0;have hfz51_1:=blk_frozen BK125.out 1;have hfz51_2:=blk_frozen BK125.out 2;have hfz51_3:=blk_frozen BK125.out 3) | (go_at_call 44;(with_reducible refine (metrolabref53_form.calls k1 ((rd_T67 l0 x3_1).f0) ((rd_T67 l0 x3_1).f1) ((rd_T67 l0 x3_1).f2) ((rd_T67 l0 x3_1).f3) t126 _ A5.out).mono ?_);rintro e w52 ⟨rfl,hb⟩;have n0_:=Aside0.mk (blk_below (g:=gb125) (o:=.cells #[.int .i64 ((rd_T67 l0 x3_1).f0),.string ((rd_T67 l0 x3_1).f1),.string ((rd_T67 l0 x3_1).f2),.string ((rd_T67 l0 x3_1).f3)] 67 (0,0)) (by (with_reducible repeat (first | refine blk_drewN ?_ _ | refine blk_drew ?_ | refine blk_alloc ?_ _));refine blk_put (cs:=#[.int .i64 ((rd_T67 l0 x3_1).f0),.string ((rd_T67 l0 x3_1).f1),.string ((rd_T67 l0 x3_1).f2),.string (⟨#[]⟩ : ByteArray)]) ?_ 3 _ rfl;(with_reducible repeat (first | refine blk_drewN ?_ _ | refine blk_drew ?_ | refine blk_alloc ?_ _));refine blk_put (cs:=#[.int .i64 ((rd_T67 l0 x3_1).f0),.string ((rd_T67 l0 x3_1).f1),.string (⟨#[]⟩ : ByteArray),.string (⟨#[]⟩ : ByteArray)]) ?_ 2 _ rfl;(with_reducible repeat (first | refine blk_drewN ?_ _ | refine blk_drew ?_ | refine blk_alloc ?_ _));refine blk_put (cs:=#[.int .i64 ((rd_T67 l0 x3_1).f0),.string (⟨#[]⟩ : ByteArray),.string (⟨#[]⟩ : ByteArray),.string (⟨#[]⟩ : ByteArray)]) ?_ 1 _ rfl;(with_reducible repeat (first | refine blk_drewN ?_ _ | refine blk_drew ?_ | refine blk_alloc ?_ _));refine blk_put (cs:=#[.int .i64 0,.string (⟨#[]⟩ : ByteArray),.string (⟨#[]⟩ : ByteArray),.string (⟨#[]⟩ : ByteArray)]) ?_ 0 _ rfl;(with_reducible repeat (first | refine blk_drewN ?_ _ | refine blk_drew ?_ | refine blk_alloc ?_ _));exact BK125.out) hb);have n1_:=Aside0.mk (below_step (by repeat (first | (with_reducible first | exact HB.out | apply below_alloc | apply pw_below_drewN | apply below_drew1 | refine below_set ?_ GE125.out) | exact HB.out)) hb);clear BK125;clear HB;have BK125:=n0_;have HB:=n1_;clear n0_ n1_;(try clear hb);(try clear hb2);(try clear hk);(try clear hi)))
       repeat (go_quiet (first | ((with_reducible refine gate_dst (N:=4) rfl ?_);refine box_event ?hg (N:=4) ?hd (cs:=#[.int .i64 0,.string (⟨#[]⟩ : ByteArray),.string (⟨#[]⟩ : ByteArray),.string (⟨#[]⟩ : ByteArray)]) (t:=67) ?hr ?_;(case hd => rfl);(case hg => rfl);(case hr => first | (go_simp;done) | (go_simp;rfl));intro gb125 hg w50 hbox hb;have n0_:=Aside0.mk (below_step (by repeat (first | (with_reducible first | exact HB.out | apply below_alloc | apply pw_below_drewN | apply below_drew1) | exact HB.out)) hb);have n1_:=Aside0.mk (hbox);have n2_:=Aside0.mk ((by rw [hg];exact (below_size (by repeat (first | (with_reducible first | exact HB.out | apply below_alloc | apply pw_below_drewN | apply below_drew1) | exact HB.out))) : w.heap.size ≤ gb125));have n3_:=Aside0.mk ((by rw [hg];exact (below_size (by repeat (first | (with_reducible first | exact HB.out | apply below_alloc | apply pw_below_drewN | apply below_drew1) | exact HB.out))) : w.heap.size ≤ gb125));clear HB;have HB:=n0_;have BK125:=n1_;have GW125:=n2_;have GE125:=n3_;clear n0_ n1_ n2_ n3_;clear hb hbox hg;have hcz51_0 : w50.cell? ⟨gb125,0,none⟩ = some (.int .i64 0):=(blk_cell BK125.out 0).trans rfl;have hcz51_1 : w50.cell? ⟨gb125,1,none⟩ = some (.string (⟨#[]⟩ : ByteArray)):=(blk_cell BK125.out 1).trans rfl;have hcz51_2 : w50.cell? ⟨gb125,2,none⟩ = some (.string (⟨#[]⟩ : ByteArray)):=(blk_cell BK125.out 2).trans rfl;have hcz51_3 : w50.cell? ⟨gb125,3,none⟩ = some (.string (⟨#[]⟩ : ByteArray)):=(blk_cell BK125.out 3).trans rfl;have hfz51_0:=blk_frozen BK125.out 0;have hfz51_1:=blk_frozen BK125.out 1;have hfz51_2:=blk_frozen BK125.out 2;have hfz51_3:=blk_frozen BK125.out 3) | (go_at_call 44;(with_reducible refine (metrolabref53_form.calls k1 ((rd_T67 l0 x3_1).f0) ((rd_T67 l0 x3_1).f1) ((rd_T67 l0 x3_1).f2) ((rd_T67 l0 x3_1).f3) t126 _ A5.out).mono ?_);rintro e w52 ⟨rfl,hb⟩;have n0_:=Aside0.mk (blk_below (g:=gb125) (o:=.cells #[.int .i64 ((rd_T67 l0 x3_1).f0),.string ((rd_T67 l0 x3_1).f1),.string ((rd_T67 l0 x3_1).f2),.string ((rd_T67 l0 x3_1).f3)] 67 (0,0)) (by (with_reducible repeat (first | refine blk_drewN ?_ _ | refine blk_drew ?_ | refine blk_alloc ?_ _));refine blk_put (cs:=#[.int .i64 ((rd_T67 l0 x3_1).f0),.string ((rd_T67 l0 x3_1).f1),.string ((rd_T67 l0 x3_1).f2),.string (⟨#[]⟩ : ByteArray)]) ?_ 3 _ rfl;(with_reducible repeat (first | refine blk_drewN ?_ _ | refine blk_drew ?_ | refine blk_alloc ?_ _));refine blk_put (cs:=#[.int .i64 ((rd_T67 l0 x3_1).f0),.string ((rd_T67 l0 x3_1).f1),.string (⟨#[]⟩ : ByteArray),.string (⟨#[]⟩ : ByteArray)]) ?_ 2 _ rfl;(with_reducible repeat (first | refine blk_drewN ?_ _ | refine blk_drew ?_ | refine blk_alloc ?_ _));refine blk_put (cs:=#[.int .i64 ((rd_T67 l0 x3_1).f0),.string (⟨#[]⟩ : ByteArray),.string (⟨#[]⟩ : ByteArray),.string (⟨#[]⟩ : ByteArray)]) ?_ 1 _ rfl;(with_reducible repeat (first | refine blk_drewN ?_ _ | refine blk_drew ?_ | refine blk_alloc ?_ _));refine blk_put (cs:=#[.int .i64 0,.string (⟨#[]⟩ : ByteArray),.string (⟨#[]⟩ : ByteArray),.string (⟨#[]⟩ : ByteArray)]) ?_ 0 _ rfl;(with_reducible repeat (first | refine blk_drewN ?_ _ | refine blk_drew ?_ | refine blk_alloc ?_ _));exact BK125.out) hb);have n1_:=Aside0.mk (below_step (by repeat (first | (with_reducible first | exact HB.out | apply below_alloc | apply pw_below_drewN | apply below_drew1 | refine below_set ?_ GE125.out) | exact HB.out)) hb);clear BK125;clear HB;have BK125:=n0_;have HB:=n1_;clear n0_ n1_;(try clear hb);(try clear hb2);(try clear hk);(try clear hi)));try go_wp2_with (first | ((with_reducible refine gate_dst (N:=4) rfl ?_);refine box_event ?hg (N:=4) ?hd (cs:=#[.int .i64 0,.string (⟨#[]⟩ : ByteArray),.string (⟨#[]⟩ : ByteArray),.string (⟨#[]⟩ : ByteArray)]) (t:=67) ?hr ?_;(case hd => rfl);(case hg => rfl);(case hr => first | (go_simp;done) | (go_simp;rfl));intro gb125 hg w50 hbox hb;have n0_:=Aside0.mk (below_step (by repeat (first | (with_reducible first | exact HB.out | apply below_alloc | apply pw_below_drewN | apply below_drew1) | exact HB.out)) hb);have n1_:=Aside0.mk (hbox);have n2_:=Aside0.mk ((by rw [hg];exact (below_size (by repeat (first | (with_reducible first | exact HB.out | apply below_alloc | apply pw_below_drewN | apply below_drew1) | exact HB.out))) : w.heap.size ≤ gb125));have n3_:=Aside0.mk ((by rw [hg];exact (below_size (by repeat (first | (with_reducible first | exact HB.out | apply below_alloc | apply pw_below_drewN | apply below_drew1) | exact HB.out))) : w.heap.size ≤ gb125));clear HB;have HB:=n0_;have BK125:=n1_;have GW125:=n2_;have GE125:=n3_;clear n0_ n1_ n2_ n3_;clear hb hbox hg;have hcz51_0 : w50.cell? ⟨gb125,0,none⟩ = some (.int .i64 0):=(blk_cell BK125.out 0).trans rfl;have hcz51_1 : w50.cell? ⟨gb125,1,none⟩ = some (.string (⟨#[]⟩ : ByteArray)):=(blk_cell BK125.out 1).trans rfl;have hcz51_2 : w50.cell? ⟨gb125,2,none⟩ = some (.string (⟨#[]⟩ : ByteArray)):=(blk_cell BK125.out 2).trans rfl;have hcz51_3 : w50.cell? ⟨gb125,3,none⟩ = some (.string (⟨#[]⟩ : ByteArray)):=(blk_cell BK125.out 3).trans rfl;have hfz51_0:=blk_frozen BK125.out 0;have hfz51_1:=blk_frozen BK125.out 1;have hfz51_2:=blk_frozen BK125.out 2;have hfz51_3:=blk_frozen BK125.out 3) | (go_at_call 44;(with_reducible refine (metrolabref53_form.calls k1 ((rd_T67 l0 x3_1).f0) ((rd_T67 l0 x3_1).f1) ((rd_T67 l0 x3_1).f2) ((rd_T67 l0 x3_1).f3) t126 _ A5.out).mono ?_);rintro e w52 ⟨rfl,hb⟩;have n0_:=Aside0.mk (blk_below (g:=gb125) (o:=.cells #[.int .i64 ((rd_T67 l0 x3_1).f0),.string ((rd_T67 l0 x3_1).f1),.string ((rd_T67 l0 x3_1).f2),.string ((rd_T67 l0 x3_1).f3)] 67 (0,0)) (by (with_reducible repeat (first | refine blk_drewN ?_ _ | refine blk_drew ?_ | refine blk_alloc ?_ _));refine blk_put (cs:=#[.int .i64 ((rd_T67 l0 x3_1).f0),.string ((rd_T67 l0 x3_1).f1),.string ((rd_T67 l0 x3_1).f2),.string (⟨#[]⟩ : ByteArray)]) ?_ 3 _ rfl;(with_reducible repeat (first | refine blk_drewN ?_ _ | refine blk_drew ?_ | refine blk_alloc ?_ _));refine blk_put (cs:=#[.int .i64 ((rd_T67 l0 x3_1).f0),.string ((rd_T67 l0 x3_1).f1),.string (⟨#[]⟩ : ByteArray),.string (⟨#[]⟩ : ByteArray)]) ?_ 2 _ rfl;(with_reducible repeat (first | refine blk_drewN ?_ _ | refine blk_drew ?_ | refine blk_alloc ?_ _));refine blk_put (cs:=#[.int .i64 ((rd_T67 l0 x3_1).f0),.string (⟨#[]⟩ : ByteArray),.string (⟨#[]⟩ : ByteArray),.string (⟨#[]⟩ : ByteArray)]) ?_ 1 _ rfl;(with_reducible repeat (first | refine blk_drewN ?_ _ | refine blk_drew ?_ | refine blk_alloc ?_ _));refine blk_put (cs:=#[.int .i64 0,.string (⟨#[]⟩ : ByteArray),.string (⟨#[]⟩ : ByteArray),.string (⟨#[]⟩ : ByteArray)]) ?_ 0 _ rfl;(with_reducible repeat (first | refine blk_drewN ?_ _ | refine blk_drew ?_ | refine blk_alloc ?_ _));exact BK125.out) hb);have n1_:=Aside0.mk (below_step (by repeat (first | (with_reducible first | exact HB.out | apply below_alloc | apply pw_below_drewN | apply below_drew1 | refine below_set ?_ GE125.out) | exact HB.out)) hb);clear BK125;clear HB;have BK125:=n0_;have HB:=n1_;clear n0_ n1_;(try clear hb);(try clear hb2);(try clear hk);(try clear hi))))
       go_ret
       exact ⟨by first | rfl | (simp [errW_none,errW_some] <;> rfl) | (simp [*,errW_none,errW_some] <;> rfl),by repeat (first | (with_reducible first | exact HB.out | apply below_alloc | apply pw_below_drewN | apply below_drew1 | refine below_set ?_ GE125.out) | exact HB.out)⟩
     ·rw [if_neg c4] at H
      exact absurd H (by simp)
    ·rw [if_neg c3] at H
     have c3b0 : decide (x3_1 < (l0.length : Int)) = false:=decide_eq_false c3
     clear c3
     obtain rfl:=Option.some.inj H
     go_wp2
     repeat (go_quiet (fail);try go_wp2)
     go_ret
     exact ⟨by first | rfl | (simp [errW_none,errW_some] <;> rfl) | (simp [*,errW_none,errW_some] <;> rfl),by repeat (first | (with_reducible first | exact HB.out | apply below_alloc | apply pw_below_drewN | apply below_drew1) | exact HB.out)⟩

end Go.Proofs.Ytnmmdeonkpfccaa.Pr
/- Maps keyed by strings, told as functions from keys to values; a look-up, a store, a deletion, the keys. -/
set_option linter.unusedVariables false
namespace Go.Proofs.Ytnmmdeonkpfccaa.Rg
open Go Go.RowKit Go.Maps

/-- Every value reads as itself. -/
def RV (v : Value) : Option (DataW Value × List MemPlace):=some (.held v,[])
def heldOr (o : Option Value) (z : DataW Value) : DataW Value:=match o with | some v => .held v | none => z
/-- The datum holds the function. -/
def Tells (D : DataW Value) (f : List UInt8 → Option Value) : Prop:=∀ q,Maps.has D (.string q) = (f q).isSome ∧ ∀ z,D.atKey (.string q) z = heldOr (f q) z
/-- BLOCK b IS A MAP KEYED BY STRINGS THAT HOLDS f, with at most n entries. -/
def MapF (P : Program) (k : TypeId) (w : World) (b n : Nat) (f : List UInt8 → Option Value) : Prop:=∃ D : DataW Value,w.ownsMap P k RV b n D ∧ Tells D f

variable {P : Program} {k : TypeId} {w : World} {b n : Nat} {f : List UInt8 → Option Value}

theorem MapF.made (w : World) (P : Program) (k : TypeId) : MapF P k (w.alloc (.map #[] 0)) w.heap.size 0 (fun _ => none) :=
 ⟨_,World.ownsMap_made w P k RV,fun _ => ⟨rfl,fun _ => rfl⟩⟩
theorem MapF.kept {w' : World} {row : Option Nat} (h : MapF P k w b n f) (hg : w.grownBy w' row) (hne : some b ≠ row) : MapF P k w' b n f :=
 let ⟨D,h1,h2⟩:=h;⟨D,h1.kept hg hne,h2⟩
theorem MapF.alloc (h : MapF P k w b n f) (o : Obj) : MapF P k (w.alloc o) b n f:=let ⟨D,h1,h2⟩:=h;⟨D,h1.alloc o,h2⟩
theorem MapF.lt (h : MapF P k w b n f) : b < w.heap.size:=let ⟨_,h1,_⟩:=h;h1.lt
theorem MapF.mono (h : MapF P k w b n f) {n' : Nat} (hn : n ≤ n') : MapF P k w b n' f:=let ⟨D,h1,h2⟩:=h;⟨D,h1.mono hn,h2⟩
theorem MapF.same {w' : World} (h : MapF P k w b n f) (he : w'.heap[b]? = w.heap[b]?) : MapF P k w' b n f:=by
 obtain ⟨D,⟨es,clock,hb,F,hs,hD⟩,h2⟩:=h
 exact ⟨D,⟨es,clock,he.trans hb,F,hs,hD⟩,h2⟩
theorem MapF.setCell (h : MapF P k w b n f) {a : Addr} (ha : b ≠ a.block) (u : Value) : MapF P k (w.setCell a u) b n f:=let ⟨D,h1,h2⟩:=h;⟨D,h1.setCell ha u,h2⟩
theorem MapF.isMap (h : MapF P k w b n f) : ∃ es clock,w.heap[b]? = some (.map es clock):=let ⟨_,⟨es,c,hb,_⟩,_⟩:=h;⟨es,c,hb⟩

def putF (f : List UInt8 → Option Value) (q : List UInt8) (v : Value) : List UInt8 → Option Value:=fun r => if r = q then some v else f r

theorem keyS (q : List UInt8) : WideAt.IsKeyLit (.string q):=by unfold WideAt.IsKeyLit;exact trivial
theorem Tells.put {D : DataW Value} (hD : Maps.IsMap D) (h : Tells D f) (q : List UInt8) (v : Value) : Tells (D.put (.string q) (.held v)) (putF f q v):=fun r => by
 unfold putF
 by_cases e : r = q
 ·subst e
  rw [if_pos rfl]
  exact ⟨has_put_same hD (keyS r) _,fun z => atKey_put_same hD (keyS r) _ z⟩
 ·have hne : Lit.string r ≠ Lit.string q:=fun h => e (by cases h;rfl)
  rw [if_neg e]
  exact ⟨(has_put_other hne _).trans (h r).1,fun z => (atKey_put_other hne _ z).trans ((h r).2 z)⟩

theorem MapF.look (h : MapF P k w b n f) {t e : TypeId} (hk : P.underlying k = some .string) (ht : P.underlying t = some (.map k e)) {z : Value} (hz : (zeroValue e).run P w = .ok z w) {s : ByteArray} (hs : s.size ≤ maxLen) (c : Bool) :
  (Instr.lookup t (.map (some b)) (.string s) c).run P w = .ok (if c then .tuple #[(f s.data.toList).getD z,.bool (f s.data.toList).isSome] else (f s.data.toList).getD z) w:=by
 obtain ⟨D,h1,h2⟩:=h
 have hv : ∀ {v : Value} {ps : List MemPlace},RV v = some (D.atKey (.string s.data.toList) (.held z),ps) → v = (f s.data.toList).getD z:=by
  intro v ps hh
  have hh:=congrArg Prod.fst (Option.some.inj hh)
  rw [(h2 _).2] at hh
  cases hf : f s.data.toList with
  | none => rw [hf] at hh;cases hh;rfl
  | some u => rw [hf] at hh;cases hh;rfl
 cases c
 ·obtain ⟨v,ps,hrun,hr⟩:=h1.lookup (string_keyed hk) ht hz (zd:=.held z) (zp:=[]) rfl (WideMaps.keyOf_string_mk hk hs)
  rw [hrun,hv hr];rfl
 ·obtain ⟨v,ps,hrun,hr⟩:=h1.look_ok (string_keyed hk) ht hz (zd:=.held z) (zp:=[]) rfl (WideMaps.keyOf_string_mk hk hs)
  rw [hrun,hv hr,(h2 _).1];rfl

theorem MapF.store (h : MapF P k w b n f) {t e : TypeId} (hk : P.underlying k = some .string) (ht : P.underlying t = some (.map k e)) (hn : n < maxLen) {s : ByteArray} (hs : s.size ≤ maxLen) (v : Value) :
  ∃ w',(Instr.mapUpdate t (.map (some b)) (.string s) v).run P w = .ok () w' ∧ MapF P k w' b (n + 1) (putF f s.data.toList v) ∧ w.grownBy w' (some b):=by
 obtain ⟨D,h1,h2⟩:=h
 obtain ⟨w',r1,r2,r3⟩:=h1.update (string_keyed hk) ht hn (WideMaps.keyOf_string_mk hk hs) (val:=v) (d:=.held v) (ps:=[]) rfl
 exact ⟨w',r1,⟨_,r2,h2.put h1.isMap _ _⟩,r3⟩

section
variable {ops : Array Oper} {rest : List Oper} {o : Oper} {a : Act} {Q : Exit → Act → World → Prop}
/-- 'm[k]' at the operation. v: what comes. -/
theorem wpList_lookF (hg : o.guard = none) (m x : Operand) (t : TypeId) (hop : o.op = Op.lookup t m x false) (k e : TypeId) (hk : P.underlying k = some .string) (ht : P.underlying t = some (.map k e)) {z : Value} (hz : (zeroValue e).run P w = .ok z w)
  (hm : a.eval m = .map (some b)) (hown : MapF P k w b n f) (s : ByteArray) (hx : a.eval x = .string s) (hs : s.size ≤ maxLen) (v : Value) (hv : (f s.data.toList).getD z = v)
  (hK : wpList P ops Q rest (a.put o.dst v) w) : wpList P ops Q (o :: rest) a w:=by
 refine wpList_plain hg fun K' hK' => ?_
 have hrun:=hown.look hk ht hz hs false
 rw [if_neg (by decide),hv] at hrun
 unfold Oper.wp
 simp [execOp,hop,hm,hx,hrun,Result.andThen]
 exact hK' _ _ hK
/-- 'v, ok := m[k]' at the operation. -/
theorem wpList_lookF_ok (hg : o.guard = none) (m x : Operand) (t : TypeId) (hop : o.op = Op.lookup t m x true) (k e : TypeId) (hk : P.underlying k = some .string) (ht : P.underlying t = some (.map k e)) {z : Value} (hz : (zeroValue e).run P w = .ok z w)
  (hm : a.eval m = .map (some b)) (hown : MapF P k w b n f) (s : ByteArray) (hx : a.eval x = .string s) (hs : s.size ≤ maxLen) (v : Value) (hv : (f s.data.toList).getD z = v) (c : Bool) (hc : (f s.data.toList).isSome = c)
  (hK : wpList P ops Q rest (a.put o.dst (.tuple #[v,.bool c])) w) : wpList P ops Q (o :: rest) a w:=by
 refine wpList_plain hg fun K' hK' => ?_
 have hrun:=hown.look hk ht hz hs true
 rw [if_pos rfl,hv,hc] at hrun
 unfold Oper.wp
 simp [execOp,hop,hm,hx,hrun,Result.andThen]
 exact hK' _ _ hK
/-- 'm[k] = v' at the operation. -/
theorem wpList_storeF (hg : o.guard = none) (m x v : Operand) (t : TypeId) (hop : o.op = Op.mapUpdate t m x v) (k e : TypeId) (hk : P.underlying k = some .string) (ht : P.underlying t = some (.map k e))
  (hm : a.eval m = .map (some b)) (hown : MapF P k w b n f) (hn : n < maxLen) (s : ByteArray) (hx : a.eval x = .string s) (hs : s.size ≤ maxLen) (u : Value) (hv : a.eval v = u)
  (hK : ∀ w',MapF P k w' b (n + 1) (putF f s.data.toList u) → w.grownBy w' (some b) → wpList P ops Q rest (a.put o.dst undef) w') : wpList P ops Q (o :: rest) a w:=by
 refine wpList_plain hg fun K' hK' => ?_
 obtain ⟨w',hrun,r1,r2⟩:=hown.store hk ht hn hs u
 unfold Oper.wp
 simp [execOp,hop,hm,hx,hv,hrun,Result.andThen]
 exact hK' _ _ (hK w' r1 r2)
variable {F : Fence} {nF : Nat}
theorem wpListIn_lookF (hg : o.guard = none) (m x : Operand) (t : TypeId) (hop : o.op = Op.lookup t m x false) (k e : TypeId) (hk : P.underlying k = some .string) (ht : P.underlying t = some (.map k e)) {z : Value} (hz : (zeroValue e).run P w = .ok z w)
  (hm : a.eval m = .map (some b)) (hown : MapF P k w b n f) (s : ByteArray) (hx : a.eval x = .string s) (hs : s.size ≤ maxLen) (v : Value) (hv : (f s.data.toList).getD z = v)
  (hK : wpListIn F nF P ops Q rest (a.put o.dst v) w) : wpListIn F nF P ops Q (o :: rest) a w:=by
 refine wpListIn_plain hg fun K' hK' => ?_
 have hrun:=hown.look hk ht hz hs false
 rw [if_neg (by decide),hv] at hrun
 unfold Oper.wpIn
 refine ⟨by simp [Oper.about,hop],?_⟩
 rw [Oper.semAt_plain F _ _ (by rw [hop];intro c hc';cases hc')]
 simp [execOp,hop,hm,hx,hrun,Result.andThen]
 exact hK' _ _ hK
theorem wpListIn_lookF_ok (hg : o.guard = none) (m x : Operand) (t : TypeId) (hop : o.op = Op.lookup t m x true) (k e : TypeId) (hk : P.underlying k = some .string) (ht : P.underlying t = some (.map k e)) {z : Value} (hz : (zeroValue e).run P w = .ok z w)
  (hm : a.eval m = .map (some b)) (hown : MapF P k w b n f) (s : ByteArray) (hx : a.eval x = .string s) (hs : s.size ≤ maxLen) (v : Value) (hv : (f s.data.toList).getD z = v) (c : Bool) (hc : (f s.data.toList).isSome = c)
  (hK : wpListIn F nF P ops Q rest (a.put o.dst (.tuple #[v,.bool c])) w) : wpListIn F nF P ops Q (o :: rest) a w:=by
 refine wpListIn_plain hg fun K' hK' => ?_
 have hrun:=hown.look hk ht hz hs true
 rw [if_pos rfl,hv,hc] at hrun
 unfold Oper.wpIn
 refine ⟨by simp [Oper.about,hop],?_⟩
 rw [Oper.semAt_plain F _ _ (by rw [hop];intro c hc';cases hc')]
 simp [execOp,hop,hm,hx,hrun,Result.andThen]
 exact hK' _ _ hK
theorem wpListIn_storeF (hg : o.guard = none) (m x v : Operand) (t : TypeId) (hop : o.op = Op.mapUpdate t m x v) (k e : TypeId) (hk : P.underlying k = some .string) (ht : P.underlying t = some (.map k e))
  (hm : a.eval m = .map (some b)) (hown : MapF P k w b n f) (hn : n < maxLen) (s : ByteArray) (hx : a.eval x = .string s) (hs : s.size ≤ maxLen) (u : Value) (hv : a.eval v = u)
  (hK : ∀ w',MapF P k w' b (n + 1) (putF f s.data.toList u) → w.grownBy w' (some b) → wpListIn F nF P ops Q rest (a.put o.dst undef) w') : wpListIn F nF P ops Q (o :: rest) a w:=by
 refine wpListIn_plain hg fun K' hK' => ?_
 obtain ⟨w',hrun,r1,r2⟩:=hown.store hk ht hn hs u
 unfold Oper.wpIn
 refine ⟨by simp [Oper.about,hop],?_⟩
 rw [Oper.semAt_plain F _ _ (by rw [hop];intro c hc';cases hc')]
 simp [execOp,hop,hm,hx,hv,hrun,Result.andThen]
 exact hK' _ _ (hK w' r1 r2)
end

/-- The keys: each once. -/
theorem MapF.keys (h : MapF P k w b n f) (hk : P.underlying k = some .string) : ∃ D : DataW Value,w.ownsMap P k RV b n D ∧ Tells D f ∧ (strKeys D).Nodup ∧ (∀ q,q ∈ strKeys D ↔ (f q).isSome = true) ∧ Maps.size D ≤ n:=by
 obtain ⟨D,h1,h2⟩:=h
 refine ⟨D,h1,h2,?_,?_,h1.size_le⟩
 ·obtain ⟨es,hD,hpw,_⟩:=h1.entries (string_keyed hk)
  obtain ⟨es',hD',hko⟩:=h1.keysOf
  obtain rfl : es = es':=by rw [hD] at hD';simpa using hD'
  subst hD
  show (es.map fun p => strOf p.1).Nodup
  refine List.pairwise_map.2 (hpw.imp_of_mem fun {p q} hp' hq' hne e => hne ?_)
  obtain ⟨v,hv⟩:=hko p hp'
  obtain ⟨u,hu⟩:=hko q hq'
  obtain ⟨x,_,hx,_⟩:=Maps.keyOf_str hk hv
  obtain ⟨y,_,hy,_⟩:=Maps.keyOf_str hk hu
  rw [hx,hy] at e ⊢
  exact congrArg _ e
 ·intro q
  rw [← (h2 q).1]
  obtain ⟨es,hD,hko⟩:=h1.keysOf
  subst hD
  rw [has_eq,List.any_eq_true]
  show q ∈ es.map (fun p => strOf p.1) ↔ _
  rw [List.mem_map]
  constructor
  ·rintro ⟨p,hp,rfl⟩
   obtain ⟨v,hv⟩:=hko p hp
   obtain ⟨x,_,hx,_⟩:=Maps.keyOf_str hk hv
   exact ⟨p,hp,by rw [hx];exact WideAt.sameKey_self (keyS _)⟩
  ·rintro ⟨p,hp,hs⟩
   have:=(WideAt.sameKey_iff (b:=.string q) (keyS q)).1 hs
   exact ⟨p,hp,by rw [this];rfl⟩

/-- What is left when the keys that a predicate names are struck. -/
def dropF (f : List UInt8 → Option Value) (p : List UInt8 → Bool) : List UInt8 → Option Value:=fun q => if p q then none else f q
theorem Tells.drop {D : DataW Value} (hD : Maps.IsMap D) (h : Tells D f) (pd : Lit → DataW Value → Bool) (p : List UInt8 → Bool) (hp : ∀ q d,pd (.string q) d = p q) : Tells (Lib.deleteFuncD pd D) (dropF f p):=fun q => by
 obtain ⟨es,rfl⟩:=hD
 have hs : ∀ x : Lit × DataW Value,x.1.sameKey (.string q) = true → x.1 = .string q:=fun x hx => (WideAt.sameKey_iff (b:=.string q) (keyS q)).1 hx
 unfold dropF
 cases hq : p q with
 | true =>
  rw [if_pos rfl]
  have hnone : has (Lib.deleteFuncD pd (.map es)) (.string q) = false:=by
   show (es.filter fun p => !pd p.1 p.2).any (fun p => p.1.sameKey (.string q)) = false
   rw [List.any_eq_false]
   intro x hx hxs
   have h2:=(List.mem_filter.1 hx).2
   rw [hs x hxs,hp,hq] at h2
   cases h2
  exact ⟨hnone,fun z => atKey_of_not_has hnone z⟩
 | false =>
  rw [if_neg (by decide)]
  have hkeep : ∀ x : Lit × DataW Value,x.1.sameKey (.string q) = true → (!pd x.1 x.2) = true:=fun x hx => by rw [hs x hx,hp,hq];rfl
  refine ⟨Eq.trans ?_ (h q).1,fun z => Eq.trans ?_ ((h q).2 z)⟩
  ·exact any_filter_keep hkeep es
  ·have:=find_filter_keep (f:=fun p : Lit × DataW Value => p.1.sameKey (.string q)) (g:=fun p => !pd p.1 p.2) hkeep es
   simp only [DataW.atKey,Lib.deleteFuncD]
   rw [this]
end Go.Proofs.Ytnmmdeonkpfccaa.Rg
/- The contract of recall.Check. -/
set_option linter.unusedVariables false
namespace Go.Proofs.Ytnmmdeonkpfccaa.Pr
open Go.RowKit Go.Proofs.YtnmmdeonkpfccaaW.PrintWords Go.Proofs.YtnmmdeonkpfccaaW.PrintLast Go.Proofs.YtnmmdeonkpfccaaW.PrintMore
open Go.Proofs.Ytnmmdeonkpfccaa.Rg

def fLots (L : List (List UInt8 × ByteArray)) : List UInt8 → Option Value:=fun q => (L.lookup q).map Value.string
def fSet (G : List (List UInt8)) : List UInt8 → Option Value:=fun q => if q ∈ G then some (.bool true) else none
theorem fLots_nil : fLots [] = fun _ => none:=rfl
theorem fSet_nil : fSet [] = fun _ => none:=by funext q;simp [fSet]
theorem fLots_put (L : List (List UInt8 × ByteArray)) (q : List UInt8) (s : ByteArray) : putF (fLots L) q (.string s) = fLots ((q,s) :: L):=by
 funext r
 unfold putF fLots
 rw [List.lookup_cons]
 by_cases h : r = q
 ·rw [if_pos h,h];simp
 ·rw [if_neg h]
  have : (r == q) = false:=beq_eq_false_iff_ne.mpr h
  rw [this]
theorem fSet_put (G : List (List UInt8)) (q : List UInt8) : putF (fSet G) q (.bool true) = fSet (q :: G):=by
 funext r
 unfold putF fSet
 by_cases h : r = q
 ·rw [if_pos h,if_pos (by rw [h];exact .head _)]
 ·rw [if_neg h]
  by_cases h2 : r ∈ G
  ·rw [if_pos h2,if_pos (.tail _ h2)]
  ·rw [if_neg h2,if_neg (by rw [List.mem_cons];rintro (e | e);exact h e;exact h2 e)]

/-- The error of a log, from some lots of parts and some withdrawn parts on. -/
def checkF : List (List UInt8 × ByteArray) → List (List UInt8) → List S51 → Int
 | _,_,[] => 0
 | L,G,x :: r =>
  if namesX x ≠ 0 then namesX x
  else if x.f0 = 0 then
   (if x.f2.data.toList ∈ G then 14 else match L.lookup x.f2.data.toList with
    | none => checkF ((x.f2.data.toList,x.f3) :: L) G r
    | some s => if s.data.toList = x.f3.data.toList then checkF ((x.f2.data.toList,x.f3) :: L) G r else 16)
  else if x.f0 = 3 then
   (if L.lookup x.f2.data.toList = none then 6 else if x.f2.data.toList ∈ G then 14 else checkF L (x.f2.data.toList :: G) r)
  else checkF L G r
theorem checkF_cons (L : List (List UInt8 × ByteArray)) (G : List (List UInt8)) (x : S51) (r : List S51) : checkF L G (x :: r) =
  if namesX x ≠ 0 then namesX x
  else if x.f0 = 0 then
   (if x.f2.data.toList ∈ G then 14 else match L.lookup x.f2.data.toList with
    | none => checkF ((x.f2.data.toList,x.f3) :: L) G r
    | some s => if s.data.toList = x.f3.data.toList then checkF ((x.f2.data.toList,x.f3) :: L) G r else 16)
  else if x.f0 = 3 then
   (if L.lookup x.f2.data.toList = none then 6 else if x.f2.data.toList ∈ G then 14 else checkF L (x.f2.data.toList :: G) r)
  else checkF L G r:=rfl
def checkV (l : List S51) : Int:=if 4096 < l.length then 5 else checkF [] [] l
def recall_Check.f (l : List S51) : Option Int:=some (checkV l)

theorem _root_.Go.Proofs.Ytnmmdeonkpfccaa.Rg.MapF.below {P : Program} {k : TypeId} {w w' : World} {b n : Nat} {f : List UInt8 → Option Value} (h : MapF P k w b n f) (hb : Below w.heap.size w w') : MapF P k w' b n f:=h.same (hb.block b h.lt)

/-- A struct laid in a box of its own, and a call behind it. -/
theorem ev_box {wr w6 w8 : World} {gb : Nat} {t : TypeId} {z0 z1 z2 z3 v0 v1 v2 v3 : Value} (hg : gb = wr.heap.size) (hbox : w6.heap[gb]? = some (.cells #[z0,z1,z2,z3] t (0,0))) (hb : Below wr.heap.size wr w6)
  (hb8 : Below ((((w6.setCell ⟨gb,0,none⟩ v0).setCell ⟨gb,1,none⟩ v1).setCell ⟨gb,2,none⟩ v2).setCell ⟨gb,3,none⟩ v3).heap.size ((((w6.setCell ⟨gb,0,none⟩ v0).setCell ⟨gb,1,none⟩ v1).setCell ⟨gb,2,none⟩ v2).setCell ⟨gb,3,none⟩ v3) w8) :
  Below wr.heap.size wr w8 ∧ w8.heap[gb]? = some (.cells #[v0,v1,v2,v3] t (0,0)):=by
 have hle : wr.heap.size ≤ gb:=by omega
 have h4 : ((((w6.setCell ⟨gb,0,none⟩ v0).setCell ⟨gb,1,none⟩ v1).setCell ⟨gb,2,none⟩ v2).setCell ⟨gb,3,none⟩ v3).heap[gb]? = some (.cells #[v0,v1,v2,v3] t (0,0)):=by
  refine blk_put (cs:=#[v0,v1,v2,z3]) ?_ 3 _ rfl
  refine blk_put (cs:=#[v0,v1,z2,z3]) ?_ 2 _ rfl
  refine blk_put (cs:=#[v0,z1,z2,z3]) ?_ 1 _ rfl
  exact blk_put (cs:=#[z0,z1,z2,z3]) hbox 0 _ rfl
 have hbb : Below wr.heap.size wr ((((w6.setCell ⟨gb,0,none⟩ v0).setCell ⟨gb,1,none⟩ v1).setCell ⟨gb,2,none⟩ v2).setCell ⟨gb,3,none⟩ v3):=(((hb.setCell (p:=⟨gb,0,none⟩) hle _).setCell (p:=⟨gb,1,none⟩) hle _).setCell (p:=⟨gb,2,none⟩) hle _).setCell (p:=⟨gb,3,none⟩) hle _
 exact ⟨hbb.trans (hb8.mono hbb.size),(hb8.block _ (Array.getElem?_eq_some_iff.1 h4).1).trans h4⟩

set_option maxHeartbeats 1000000 in
set_option maxRecDepth 100000 in
theorem recall_Check.calls (A0 : Option Addr) (c0 : Nat) (l0 : List (S51)) (r : Int) (w : World) (hr0 : Kd.C k51 w A0 l0.length l0) (hc0 : l0.length ≤ c0) (h : recall_Check.f l0 = some r) :
  Calls Try.prog 16 #[.slice A0 l0.length c0] w fun e w' => e = .returned (.int .i64 r) ∧ Below w.heap.size w w':=by
 have hr : checkV l0 = r:=Option.some.inj h
 clear h
 by_cases h4 : 4096 < l0.length
 ·have e : r = 5:=by rw [← hr];unfold checkV;rw [if_pos h4]
  subst e
  have c1 : decide (4096 < (l0.length : Int)) = true:=decide_eq_true (by omega)
  have c2 : decide (4096 < l0.length) = true:=decide_eq_true h4
  clear hr hr0
  go_enter Try.func16,Try.ntmps16
  go_wp2
  go_ret
  exact ⟨rfl,Below.refl _ _⟩
 ·have c1 : decide (4096 < (l0.length : Int)) = false:=decide_eq_false (by omega)
  have c2 : decide (4096 < l0.length) = false:=decide_eq_false h4
  have HRR:=Aside0.mk (show checkF [] [] l0 = r from by rw [← hr];unfold checkV;rw [if_neg h4])
  have HR0:=Aside0.mk hr0
  have hu51:=Try.underlying51
  have hmm:=@run_makeMap Try.prog
  clear hr hr0
  go_enter Try.func16,Try.ntmps16
  go_wp2
  go_loopw [17] (fun vi wr => ∃ (k : Nat) (L : List (List UInt8 × ByteArray)) (G : List (List UInt8)),k ≤ l0.length ∧ vi = .int .i64 (k : Int) ∧ Aside0 (Below w.heap.size w wr) ∧ Aside0 (checkF L G (l0.drop k) = r) ∧ Aside0 (MapF Try.prog 9 wr w.heap.size k (fLots L)) ∧ Aside0 (MapF Try.prog 9 wr (w.heap.size + 1) k (fSet G))) (fun vi _ => l0.length - (intOf vi).toNat)
  case atStart => exact ⟨0,[],[],by omega,rfl,⟨((Below.refl _ w).alloc (Nat.le_refl _) _).alloc (by simp) _⟩,⟨HRR.out⟩,⟨(MapF.made w Try.prog 9).alloc _⟩,⟨by rw [fSet_nil];have:=MapF.made (w.alloc (.map #[] 0)) Try.prog 9;rwa [World.size_alloc] at this⟩⟩
  case round =>
   obtain ⟨k,L,G,hk,rfl,HB,HF,HL,HG⟩:=hrel
   by_cases hlt : k < l0.length
   ·obtain ⟨x,hx⟩ : ∃ x,x = l0[k]:=⟨_,rfl⟩
    have hrd : rd_T51 l0 (k : Int) = x:=by unfold rd_T51;rw [Int.toNat_natCast,List.getD_eq_getElem?_getD,List.getElem?_eq_getElem hlt,hx];rfl
    obtain ⟨ad,e1,hx0,hx1,hx2,hx3⟩:=at_T51 HR0.out (k : Int) (by omega) (by omega)
    cases e1
    rw [hrd,Int.toNat_natCast] at hx0 hx1 hx2 hx3
    replace hx0:=(HB.out.cell (World.block_lt_of_cell? w _ hx0)).trans hx0
    replace hx1:=(HB.out.cell (World.block_lt_of_cell? w _ hx1)).trans hx1
    replace hx2:=(HB.out.cell (World.block_lt_of_cell? w _ hx2)).trans hx2
    replace hx3:=(HB.out.cell (World.block_lt_of_cell? w _ hx3)).trans hx3
    have HF2:=Aside0.mk (show checkF L G (x :: l0.drop (k + 1)) = r from by rw [← HF.out,List.drop_eq_getElem_cons hlt,hx])
    have HN:=Aside0.mk (names_is x 7 (by omega))
    clear hx hrd
    by_cases hn : namesX x = 0
    ·obtain ⟨hkind,hs1,hs2,hs3⟩:=namesX_zero hn
     rw [hn] at HN
     have hm2 : x.f2.size ≤ maxLen:=by unfold maxLen;omega
     obtain ⟨p,hp⟩ : ∃ p,p = x.f2.data.toList:=⟨_,rfl⟩
     obtain ⟨lk,hlk⟩ : ∃ lk,lk = L.lookup p:=⟨_,rfl⟩
     obtain ⟨VV,hVV⟩ : ∃ VV : ByteArray,VV = lk.getD ⟨#[]⟩:=⟨_,rfl⟩
     obtain ⟨CC,hCC⟩ : ∃ CC,CC = lk.isSome:=⟨_,rfl⟩
     have HV:=Aside0.mk (show (fLots L x.f2.data.toList).getD (.string (⟨#[]⟩ : ByteArray)) = .string VV from by rw [← hp,hVV];unfold fLots;rw [← hlk];cases lk <;> rfl)
     have HC:=Aside0.mk (show (fLots L x.f2.data.toList).isSome = CC from by rw [← hp,hCC];unfold fLots;rw [← hlk];cases lk <;> rfl)
     obtain ⟨gn,hgn⟩ : ∃ gn,gn = decide (p ∈ G):=⟨_,rfl⟩
     have HGN:=Aside0.mk (show (fSet G x.f2.data.toList).getD (.bool false) = .bool gn from by rw [← hp,hgn];unfold fSet;by_cases hh : p ∈ G <;> simp [hh])
     have HF3:=Aside0.mk HF2.out
     by_cases k0 : x.f0 = 0
     ·rw [k0] at hx0 HN
      have HK:=Aside0.mk k0
      by_cases hg : p ∈ G
      ·have e : r = 14:=by rw [← HF2.out,checkF_cons,if_neg (by rw [hn];decide),if_pos k0,if_pos (by rw [← hp];exact hg)]
       subst e
       have hgt : gn = true:=by rw [hgn];exact decide_eq_true hg
       subst hgt
       clear hg hgn hp hlk hVV hCC k0 hn HF HF2 HF3
       go_wp2_with (first | ((with_reducible refine gate_dst (N:=6) rfl ?_);refine box_event ?hg (N:=6) ?hd (cs:=#[.int .i64 0,.string (⟨#[]⟩ : ByteArray),.string (⟨#[]⟩ : ByteArray),.string (⟨#[]⟩ : ByteArray)]) (t:=51) ?hr ?_;(case hd => rfl);(case hg => rfl);(case hr => first | (go_simp;done) | (go_simp;rfl));intro gb hg w6 hbox hb;have BK:=Aside0.mk hbox;have HB6:=Aside0.mk hb;have GB:=Aside0.mk hg;clear hg hbox hb;have hcz0 : w6.cell? ⟨gb,0,none⟩ = some (.int .i64 0):=(blk_cell BK.out 0).trans rfl;have hcz1 : w6.cell? ⟨gb,1,none⟩ = some (.string (⟨#[]⟩ : ByteArray)):=(blk_cell BK.out 1).trans rfl;have hcz2 : w6.cell? ⟨gb,2,none⟩ = some (.string (⟨#[]⟩ : ByteArray)):=(blk_cell BK.out 2).trans rfl;have hcz3 : w6.cell? ⟨gb,3,none⟩ = some (.string (⟨#[]⟩ : ByteArray)):=(blk_cell BK.out 3).trans rfl;have hfz0:=blk_frozen BK.out 0;have hfz1:=blk_frozen BK.out 1;have hfz2:=blk_frozen BK.out 2;have hfz3:=blk_frozen BK.out 3) | (go_at_call 43;(with_reducible refine (recall_names.calls 7 0 x.f1 x.f2 x.f3 _ _ HN.out).mono ?_);rintro e w8 ⟨rfl,hb8⟩;have HE:=Aside0.mk (ev_box GB.out BK.out HB6.out hb8);clear hb8 hcz0 hcz1 hcz2 hcz3 hfz0 hfz1 hfz2 hfz3 hx0 hx1 hx2 hx3 BK HB6;have HL8:=Aside0.mk (HL.out.below (HE.out.1.mono (Nat.le_refl _)));have HG8:=Aside0.mk (HG.out.below HE.out.1);have HB8:=Aside0.mk (HB.out.trans (HE.out.1.mono HB.out.size));clear HL HG HB;have hc0 : w8.cell? ⟨gb,0,none⟩ = some (.int .i64 0):=(blk_cell HE.out.2 0).trans rfl;have hc2 : w8.cell? ⟨gb,2,none⟩ = some (.string x.f2):=(blk_cell HE.out.2 2).trans rfl;have hc3 : w8.cell? ⟨gb,3,none⟩ = some (.string x.f3):=(blk_cell HE.out.2 3).trans rfl) | (at_lookup;refine wpList_lookF_ok rfl _ _ 71 rfl 9 9 Try.underlying9 Try.underlying71 (Try.zeroValue9 _) rfl HL8.out x.f2 rfl hm2 (.string VV) HV.out _ HC.out ?_) | (at_lookup;refine wpList_lookF rfl _ _ 49 rfl 9 4 Try.underlying9 Try.underlying49 (Try.zeroValue4 _) rfl HG8.out x.f2 rfl hm2 (.bool _) HGN.out ?_))
       go_ret
       exact ⟨rfl,HB8.out⟩
      ·have hgt : gn = false:=by rw [hgn];exact decide_eq_false hg
       subst hgt
       by_cases hbad : lk.isSome = true ∧ VV.data.toList ≠ x.f3.data.toList
       ·have e : r = 16:=by
         rw [← HF2.out,checkF_cons,if_neg (by rw [hn];decide),if_pos k0,if_neg (by rw [← hp];exact hg),← hp,← hlk]
         cases hl : lk with
         | none => rw [hl] at hbad;exact absurd hbad.1 (by decide)
         | some s => simp only;rw [if_neg (by rw [hVV,hl] at hbad;exact hbad.2)]
        subst e
        have hC1 : CC = true:=by rw [hCC];exact hbad.1
        subst hC1
        have hne : ¬ VV.toList = x.f3.toList:=by rw [ByteArray.toList_eq,ByteArray.toList_eq];exact hbad.2
        have hne1 : (VV.toList == x.f3.toList) = false:=beq_eq_false_iff_ne.mpr hne
        have hne2 : (VV.toList != x.f3.toList) = true:=bne_iff_ne.mpr hne
        have hne3 : decide (VV.toList = x.f3.toList) = false:=decide_eq_false hne
        clear hg hgn hp hlk hVV hCC k0 hn HF HF2 HF3 hbad
        go_wp2_with (first | ((with_reducible refine gate_dst (N:=6) rfl ?_);refine box_event ?hg (N:=6) ?hd (cs:=#[.int .i64 0,.string (⟨#[]⟩ : ByteArray),.string (⟨#[]⟩ : ByteArray),.string (⟨#[]⟩ : ByteArray)]) (t:=51) ?hr ?_;(case hd => rfl);(case hg => rfl);(case hr => first | (go_simp;done) | (go_simp;rfl));intro gb hg w6 hbox hb;have BK:=Aside0.mk hbox;have HB6:=Aside0.mk hb;have GB:=Aside0.mk hg;clear hg hbox hb;have hcz0 : w6.cell? ⟨gb,0,none⟩ = some (.int .i64 0):=(blk_cell BK.out 0).trans rfl;have hcz1 : w6.cell? ⟨gb,1,none⟩ = some (.string (⟨#[]⟩ : ByteArray)):=(blk_cell BK.out 1).trans rfl;have hcz2 : w6.cell? ⟨gb,2,none⟩ = some (.string (⟨#[]⟩ : ByteArray)):=(blk_cell BK.out 2).trans rfl;have hcz3 : w6.cell? ⟨gb,3,none⟩ = some (.string (⟨#[]⟩ : ByteArray)):=(blk_cell BK.out 3).trans rfl;have hfz0:=blk_frozen BK.out 0;have hfz1:=blk_frozen BK.out 1;have hfz2:=blk_frozen BK.out 2;have hfz3:=blk_frozen BK.out 3) | (go_at_call 43;(with_reducible refine (recall_names.calls 7 0 x.f1 x.f2 x.f3 _ _ HN.out).mono ?_);rintro e w8 ⟨rfl,hb8⟩;have HE:=Aside0.mk (ev_box GB.out BK.out HB6.out hb8);clear hb8 hcz0 hcz1 hcz2 hcz3 hfz0 hfz1 hfz2 hfz3 hx0 hx1 hx2 hx3 BK HB6;have HL8:=Aside0.mk (HL.out.below (HE.out.1.mono (Nat.le_refl _)));have HG8:=Aside0.mk (HG.out.below HE.out.1);have HB8:=Aside0.mk (HB.out.trans (HE.out.1.mono HB.out.size));clear HL HG HB;have hc0 : w8.cell? ⟨gb,0,none⟩ = some (.int .i64 0):=(blk_cell HE.out.2 0).trans rfl;have hc2 : w8.cell? ⟨gb,2,none⟩ = some (.string x.f2):=(blk_cell HE.out.2 2).trans rfl;have hc3 : w8.cell? ⟨gb,3,none⟩ = some (.string x.f3):=(blk_cell HE.out.2 3).trans rfl) | (at_lookup;refine wpList_lookF_ok rfl _ _ 71 rfl 9 9 Try.underlying9 Try.underlying71 (Try.zeroValue9 _) rfl HL8.out x.f2 rfl hm2 (.string VV) HV.out _ HC.out ?_) | (at_lookup;refine wpList_lookF rfl _ _ 49 rfl 9 4 Try.underlying9 Try.underlying49 (Try.zeroValue4 _) rfl HG8.out x.f2 rfl hm2 (.bool _) HGN.out ?_))
        go_ret
        exact ⟨rfl,HB8.out⟩
       ·have HF4:=Aside0.mk (show checkF ((p,x.f3) :: L) G (l0.drop (k + 1)) = r from by
         rw [← HF2.out,checkF_cons,if_neg (by rw [hn];decide),if_pos k0,if_neg (by rw [← hp];exact hg),← hp,← hlk]
         cases hl : lk with
         | none => rfl
         | some s =>
          simp only
          rw [if_pos (Classical.byContradiction fun hh => hbad ⟨by rw [hl];rfl,by rw [hVV,hl];exact hh⟩)])
        have HPP:=Aside0.mk hp
        by_cases hcs : lk.isSome = true
        ·have hC1 : CC = true:=by rw [hCC];exact hcs
         subst hC1
         have heq : VV.toList = x.f3.toList:=by rw [ByteArray.toList_eq,ByteArray.toList_eq];exact Classical.byContradiction fun hh => hbad ⟨hcs,hh⟩
         have hne1 : (VV.toList == x.f3.toList) = true:=beq_iff_eq.mpr heq
         have hne2 : (VV.toList != x.f3.toList) = false:=bne_eq_false_iff_eq.mpr heq
         have hne3 : decide (VV.toList = x.f3.toList) = true:=decide_eq_true heq
         clear hg hgn hp hlk hVV hCC k0 hn HF HF2 HF3 hbad heq hcs
         go_wp2_with (first | ((with_reducible refine gate_dst (N:=6) rfl ?_);refine box_event ?hg (N:=6) ?hd (cs:=#[.int .i64 0,.string (⟨#[]⟩ : ByteArray),.string (⟨#[]⟩ : ByteArray),.string (⟨#[]⟩ : ByteArray)]) (t:=51) ?hr ?_;(case hd => rfl);(case hg => rfl);(case hr => first | (go_simp;done) | (go_simp;rfl));intro gb hg w6 hbox hb;have BK:=Aside0.mk hbox;have HB6:=Aside0.mk hb;have GB:=Aside0.mk hg;clear hg hbox hb;have hcz0 : w6.cell? ⟨gb,0,none⟩ = some (.int .i64 0):=(blk_cell BK.out 0).trans rfl;have hcz1 : w6.cell? ⟨gb,1,none⟩ = some (.string (⟨#[]⟩ : ByteArray)):=(blk_cell BK.out 1).trans rfl;have hcz2 : w6.cell? ⟨gb,2,none⟩ = some (.string (⟨#[]⟩ : ByteArray)):=(blk_cell BK.out 2).trans rfl;have hcz3 : w6.cell? ⟨gb,3,none⟩ = some (.string (⟨#[]⟩ : ByteArray)):=(blk_cell BK.out 3).trans rfl;have hfz0:=blk_frozen BK.out 0;have hfz1:=blk_frozen BK.out 1;have hfz2:=blk_frozen BK.out 2;have hfz3:=blk_frozen BK.out 3) | (go_at_call 43;(with_reducible refine (recall_names.calls 7 0 x.f1 x.f2 x.f3 _ _ HN.out).mono ?_);rintro e w8 ⟨rfl,hb8⟩;have HE:=Aside0.mk (ev_box GB.out BK.out HB6.out hb8);clear hb8 hcz0 hcz1 hcz2 hcz3 hfz0 hfz1 hfz2 hfz3 hx0 hx1 hx2 hx3 BK HB6;have HL8:=Aside0.mk (HL.out.below (HE.out.1.mono (Nat.le_refl _)));have HG8:=Aside0.mk (HG.out.below HE.out.1);have HB8:=Aside0.mk (HB.out.trans (HE.out.1.mono HB.out.size));clear HL HG HB;have hc0 : w8.cell? ⟨gb,0,none⟩ = some (.int .i64 0):=(blk_cell HE.out.2 0).trans rfl;have hc2 : w8.cell? ⟨gb,2,none⟩ = some (.string x.f2):=(blk_cell HE.out.2 2).trans rfl;have hc3 : w8.cell? ⟨gb,3,none⟩ = some (.string x.f3):=(blk_cell HE.out.2 3).trans rfl) | (at_lookup;refine wpList_lookF_ok rfl _ _ 71 rfl 9 9 Try.underlying9 Try.underlying71 (Try.zeroValue9 _) rfl HL8.out x.f2 rfl hm2 (.string VV) HV.out _ HC.out ?_) | (at_lookup;refine wpList_lookF rfl _ _ 49 rfl 9 4 Try.underlying9 Try.underlying49 (Try.zeroValue4 _) rfl HG8.out x.f2 rfl hm2 (.bool _) HGN.out ?_) | (at_mapUpdate;refine wpList_storeF rfl _ _ _ 71 rfl 9 9 Try.underlying9 Try.underlying71 rfl HL8.out (by unfold maxLen;omega) x.f2 rfl hm2 (.string x.f3) rfl ?_;intro w9 hs9 hg9;have HS9:=Aside0.mk hs9;have HG9:=Aside0.mk hg9;clear hs9 hg9))
         go_roundw
         case rel => exact ⟨k + 1,_,_,by omega,by go_num,⟨HB8.out.grown HG9.out HB8.out.size (fun k e => by cases e;exact Nat.le_refl _)⟩,HF4,⟨by rw [HPP.out,← fLots_put];exact HS9.out⟩,⟨(HG8.out.kept HG9.out (by simp)).mono (Nat.le_succ _)⟩⟩
         case measure => (simp [intOf] <;> omega)
        ·have hC1 : CC = false:=by rw [hCC];exact Bool.eq_false_iff.mpr hcs
         subst hC1
         clear hg hgn hp hlk hVV hCC k0 hn HF HF2 HF3 hbad hcs
         go_wp2_with (first | ((with_reducible refine gate_dst (N:=6) rfl ?_);refine box_event ?hg (N:=6) ?hd (cs:=#[.int .i64 0,.string (⟨#[]⟩ : ByteArray),.string (⟨#[]⟩ : ByteArray),.string (⟨#[]⟩ : ByteArray)]) (t:=51) ?hr ?_;(case hd => rfl);(case hg => rfl);(case hr => first | (go_simp;done) | (go_simp;rfl));intro gb hg w6 hbox hb;have BK:=Aside0.mk hbox;have HB6:=Aside0.mk hb;have GB:=Aside0.mk hg;clear hg hbox hb;have hcz0 : w6.cell? ⟨gb,0,none⟩ = some (.int .i64 0):=(blk_cell BK.out 0).trans rfl;have hcz1 : w6.cell? ⟨gb,1,none⟩ = some (.string (⟨#[]⟩ : ByteArray)):=(blk_cell BK.out 1).trans rfl;have hcz2 : w6.cell? ⟨gb,2,none⟩ = some (.string (⟨#[]⟩ : ByteArray)):=(blk_cell BK.out 2).trans rfl;have hcz3 : w6.cell? ⟨gb,3,none⟩ = some (.string (⟨#[]⟩ : ByteArray)):=(blk_cell BK.out 3).trans rfl;have hfz0:=blk_frozen BK.out 0;have hfz1:=blk_frozen BK.out 1;have hfz2:=blk_frozen BK.out 2;have hfz3:=blk_frozen BK.out 3) | (go_at_call 43;(with_reducible refine (recall_names.calls 7 0 x.f1 x.f2 x.f3 _ _ HN.out).mono ?_);rintro e w8 ⟨rfl,hb8⟩;have HE:=Aside0.mk (ev_box GB.out BK.out HB6.out hb8);clear hb8 hcz0 hcz1 hcz2 hcz3 hfz0 hfz1 hfz2 hfz3 hx0 hx1 hx2 hx3 BK HB6;have HL8:=Aside0.mk (HL.out.below (HE.out.1.mono (Nat.le_refl _)));have HG8:=Aside0.mk (HG.out.below HE.out.1);have HB8:=Aside0.mk (HB.out.trans (HE.out.1.mono HB.out.size));clear HL HG HB;have hc0 : w8.cell? ⟨gb,0,none⟩ = some (.int .i64 0):=(blk_cell HE.out.2 0).trans rfl;have hc2 : w8.cell? ⟨gb,2,none⟩ = some (.string x.f2):=(blk_cell HE.out.2 2).trans rfl;have hc3 : w8.cell? ⟨gb,3,none⟩ = some (.string x.f3):=(blk_cell HE.out.2 3).trans rfl) | (at_lookup;refine wpList_lookF_ok rfl _ _ 71 rfl 9 9 Try.underlying9 Try.underlying71 (Try.zeroValue9 _) rfl HL8.out x.f2 rfl hm2 (.string VV) HV.out _ HC.out ?_) | (at_lookup;refine wpList_lookF rfl _ _ 49 rfl 9 4 Try.underlying9 Try.underlying49 (Try.zeroValue4 _) rfl HG8.out x.f2 rfl hm2 (.bool _) HGN.out ?_) | (at_mapUpdate;refine wpList_storeF rfl _ _ _ 71 rfl 9 9 Try.underlying9 Try.underlying71 rfl HL8.out (by unfold maxLen;omega) x.f2 rfl hm2 (.string x.f3) rfl ?_;intro w9 hs9 hg9;have HS9:=Aside0.mk hs9;have HG9:=Aside0.mk hg9;clear hs9 hg9))
         go_roundw
         case rel => exact ⟨k + 1,_,_,by omega,by go_num,⟨HB8.out.grown HG9.out HB8.out.size (fun k e => by cases e;exact Nat.le_refl _)⟩,HF4,⟨by rw [HPP.out,← fLots_put];exact HS9.out⟩,⟨(HG8.out.kept HG9.out (by simp)).mono (Nat.le_succ _)⟩⟩
         case measure => (simp [intOf] <;> omega)
     ·have k0b : (x.f0 == 0) = false:=beq_eq_false_iff_ne.mpr k0
      by_cases k3 : x.f0 = 3
      ·rw [k3] at hx0 HN
       by_cases hnn : lk = none
       ·have e : r = 6:=by rw [← HF2.out,checkF_cons,if_neg (by rw [hn];decide),if_neg k0,if_pos k3,if_pos (by rw [← hp,← hlk];exact hnn)]
        subst e
        have hC1 : CC = false:=by rw [hCC,hnn];rfl
        subst hC1
        clear hgn hp hlk hVV hCC k0 k3 k0b hn HF HF2 HF3 hnn
        go_wp2_with (first | ((with_reducible refine gate_dst (N:=6) rfl ?_);refine box_event ?hg (N:=6) ?hd (cs:=#[.int .i64 0,.string (⟨#[]⟩ : ByteArray),.string (⟨#[]⟩ : ByteArray),.string (⟨#[]⟩ : ByteArray)]) (t:=51) ?hr ?_;(case hd => rfl);(case hg => rfl);(case hr => first | (go_simp;done) | (go_simp;rfl));intro gb hg w6 hbox hb;have BK:=Aside0.mk hbox;have HB6:=Aside0.mk hb;have GB:=Aside0.mk hg;clear hg hbox hb;have hcz0 : w6.cell? ⟨gb,0,none⟩ = some (.int .i64 0):=(blk_cell BK.out 0).trans rfl;have hcz1 : w6.cell? ⟨gb,1,none⟩ = some (.string (⟨#[]⟩ : ByteArray)):=(blk_cell BK.out 1).trans rfl;have hcz2 : w6.cell? ⟨gb,2,none⟩ = some (.string (⟨#[]⟩ : ByteArray)):=(blk_cell BK.out 2).trans rfl;have hcz3 : w6.cell? ⟨gb,3,none⟩ = some (.string (⟨#[]⟩ : ByteArray)):=(blk_cell BK.out 3).trans rfl;have hfz0:=blk_frozen BK.out 0;have hfz1:=blk_frozen BK.out 1;have hfz2:=blk_frozen BK.out 2;have hfz3:=blk_frozen BK.out 3) | (go_at_call 43;(with_reducible refine (recall_names.calls 7 3 x.f1 x.f2 x.f3 _ _ HN.out).mono ?_);rintro e w8 ⟨rfl,hb8⟩;have HE:=Aside0.mk (ev_box GB.out BK.out HB6.out hb8);clear hb8 hcz0 hcz1 hcz2 hcz3 hfz0 hfz1 hfz2 hfz3 hx0 hx1 hx2 hx3 BK HB6;have HL8:=Aside0.mk (HL.out.below (HE.out.1.mono (Nat.le_refl _)));have HG8:=Aside0.mk (HG.out.below HE.out.1);have HB8:=Aside0.mk (HB.out.trans (HE.out.1.mono HB.out.size));clear HL HG HB;have hc0 : w8.cell? ⟨gb,0,none⟩ = some (.int .i64 3):=(blk_cell HE.out.2 0).trans rfl;have hc2 : w8.cell? ⟨gb,2,none⟩ = some (.string x.f2):=(blk_cell HE.out.2 2).trans rfl;have hc3 : w8.cell? ⟨gb,3,none⟩ = some (.string x.f3):=(blk_cell HE.out.2 3).trans rfl) | (at_lookup;refine wpList_lookF_ok rfl _ _ 71 rfl 9 9 Try.underlying9 Try.underlying71 (Try.zeroValue9 _) rfl HL8.out x.f2 rfl hm2 (.string VV) HV.out _ HC.out ?_) | (at_lookup;refine wpList_lookF rfl _ _ 49 rfl 9 4 Try.underlying9 Try.underlying49 (Try.zeroValue4 _) rfl HG8.out x.f2 rfl hm2 (.bool _) HGN.out ?_))
        go_ret
        exact ⟨rfl,HB8.out⟩
       ·have hC1 : CC = true:=by rw [hCC];cases hl : lk with | none => exact absurd hl hnn | some _ => rfl
        subst hC1
        by_cases hg : p ∈ G
        ·have e : r = 14:=by rw [← HF2.out,checkF_cons,if_neg (by rw [hn];decide),if_neg k0,if_pos k3,if_neg (by rw [← hp,← hlk];exact hnn),if_pos (by rw [← hp];exact hg)]
         subst e
         have hgt : gn = true:=by rw [hgn];exact decide_eq_true hg
         subst hgt
         clear hg hgn hp hlk hVV hCC k0 k3 k0b hn HF HF2 HF3 hnn
         go_wp2_with (first | ((with_reducible refine gate_dst (N:=6) rfl ?_);refine box_event ?hg (N:=6) ?hd (cs:=#[.int .i64 0,.string (⟨#[]⟩ : ByteArray),.string (⟨#[]⟩ : ByteArray),.string (⟨#[]⟩ : ByteArray)]) (t:=51) ?hr ?_;(case hd => rfl);(case hg => rfl);(case hr => first | (go_simp;done) | (go_simp;rfl));intro gb hg w6 hbox hb;have BK:=Aside0.mk hbox;have HB6:=Aside0.mk hb;have GB:=Aside0.mk hg;clear hg hbox hb;have hcz0 : w6.cell? ⟨gb,0,none⟩ = some (.int .i64 0):=(blk_cell BK.out 0).trans rfl;have hcz1 : w6.cell? ⟨gb,1,none⟩ = some (.string (⟨#[]⟩ : ByteArray)):=(blk_cell BK.out 1).trans rfl;have hcz2 : w6.cell? ⟨gb,2,none⟩ = some (.string (⟨#[]⟩ : ByteArray)):=(blk_cell BK.out 2).trans rfl;have hcz3 : w6.cell? ⟨gb,3,none⟩ = some (.string (⟨#[]⟩ : ByteArray)):=(blk_cell BK.out 3).trans rfl;have hfz0:=blk_frozen BK.out 0;have hfz1:=blk_frozen BK.out 1;have hfz2:=blk_frozen BK.out 2;have hfz3:=blk_frozen BK.out 3) | (go_at_call 43;(with_reducible refine (recall_names.calls 7 3 x.f1 x.f2 x.f3 _ _ HN.out).mono ?_);rintro e w8 ⟨rfl,hb8⟩;have HE:=Aside0.mk (ev_box GB.out BK.out HB6.out hb8);clear hb8 hcz0 hcz1 hcz2 hcz3 hfz0 hfz1 hfz2 hfz3 hx0 hx1 hx2 hx3 BK HB6;have HL8:=Aside0.mk (HL.out.below (HE.out.1.mono (Nat.le_refl _)));have HG8:=Aside0.mk (HG.out.below HE.out.1);have HB8:=Aside0.mk (HB.out.trans (HE.out.1.mono HB.out.size));clear HL HG HB;have hc0 : w8.cell? ⟨gb,0,none⟩ = some (.int .i64 3):=(blk_cell HE.out.2 0).trans rfl;have hc2 : w8.cell? ⟨gb,2,none⟩ = some (.string x.f2):=(blk_cell HE.out.2 2).trans rfl;have hc3 : w8.cell? ⟨gb,3,none⟩ = some (.string x.f3):=(blk_cell HE.out.2 3).trans rfl) | (at_lookup;refine wpList_lookF_ok rfl _ _ 71 rfl 9 9 Try.underlying9 Try.underlying71 (Try.zeroValue9 _) rfl HL8.out x.f2 rfl hm2 (.string VV) HV.out _ HC.out ?_) | (at_lookup;refine wpList_lookF rfl _ _ 49 rfl 9 4 Try.underlying9 Try.underlying49 (Try.zeroValue4 _) rfl HG8.out x.f2 rfl hm2 (.bool _) HGN.out ?_))
         go_ret
         exact ⟨rfl,HB8.out⟩
        ·have HF4:=Aside0.mk (show checkF L (p :: G) (l0.drop (k + 1)) = r from by rw [← HF2.out,checkF_cons,if_neg (by rw [hn];decide),if_neg k0,if_pos k3,if_neg (by rw [← hp,← hlk];exact hnn),if_neg (by rw [← hp];exact hg),← hp])
         have hgt : gn = false:=by rw [hgn];exact decide_eq_false hg
         subst hgt
         have HPP:=Aside0.mk hp
         clear hg hgn hp hlk hVV hCC k0 k3 k0b hn HF HF2 HF3 hnn
         go_wp2_with (first | ((with_reducible refine gate_dst (N:=6) rfl ?_);refine box_event ?hg (N:=6) ?hd (cs:=#[.int .i64 0,.string (⟨#[]⟩ : ByteArray),.string (⟨#[]⟩ : ByteArray),.string (⟨#[]⟩ : ByteArray)]) (t:=51) ?hr ?_;(case hd => rfl);(case hg => rfl);(case hr => first | (go_simp;done) | (go_simp;rfl));intro gb hg w6 hbox hb;have BK:=Aside0.mk hbox;have HB6:=Aside0.mk hb;have GB:=Aside0.mk hg;clear hg hbox hb;have hcz0 : w6.cell? ⟨gb,0,none⟩ = some (.int .i64 0):=(blk_cell BK.out 0).trans rfl;have hcz1 : w6.cell? ⟨gb,1,none⟩ = some (.string (⟨#[]⟩ : ByteArray)):=(blk_cell BK.out 1).trans rfl;have hcz2 : w6.cell? ⟨gb,2,none⟩ = some (.string (⟨#[]⟩ : ByteArray)):=(blk_cell BK.out 2).trans rfl;have hcz3 : w6.cell? ⟨gb,3,none⟩ = some (.string (⟨#[]⟩ : ByteArray)):=(blk_cell BK.out 3).trans rfl;have hfz0:=blk_frozen BK.out 0;have hfz1:=blk_frozen BK.out 1;have hfz2:=blk_frozen BK.out 2;have hfz3:=blk_frozen BK.out 3) | (go_at_call 43;(with_reducible refine (recall_names.calls 7 3 x.f1 x.f2 x.f3 _ _ HN.out).mono ?_);rintro e w8 ⟨rfl,hb8⟩;have HE:=Aside0.mk (ev_box GB.out BK.out HB6.out hb8);clear hb8 hcz0 hcz1 hcz2 hcz3 hfz0 hfz1 hfz2 hfz3 hx0 hx1 hx2 hx3 BK HB6;have HL8:=Aside0.mk (HL.out.below (HE.out.1.mono (Nat.le_refl _)));have HG8:=Aside0.mk (HG.out.below HE.out.1);have HB8:=Aside0.mk (HB.out.trans (HE.out.1.mono HB.out.size));clear HL HG HB;have hc0 : w8.cell? ⟨gb,0,none⟩ = some (.int .i64 3):=(blk_cell HE.out.2 0).trans rfl;have hc2 : w8.cell? ⟨gb,2,none⟩ = some (.string x.f2):=(blk_cell HE.out.2 2).trans rfl;have hc3 : w8.cell? ⟨gb,3,none⟩ = some (.string x.f3):=(blk_cell HE.out.2 3).trans rfl) | (at_lookup;refine wpList_lookF_ok rfl _ _ 71 rfl 9 9 Try.underlying9 Try.underlying71 (Try.zeroValue9 _) rfl HL8.out x.f2 rfl hm2 (.string VV) HV.out _ HC.out ?_) | (at_lookup;refine wpList_lookF rfl _ _ 49 rfl 9 4 Try.underlying9 Try.underlying49 (Try.zeroValue4 _) rfl HG8.out x.f2 rfl hm2 (.bool _) HGN.out ?_) | (at_mapUpdate;refine wpList_storeF rfl _ _ _ 49 rfl 9 4 Try.underlying9 Try.underlying49 rfl HG8.out (by unfold maxLen;omega) x.f2 rfl hm2 (.bool true) rfl ?_;intro w9 hs9 hg9;have HS9:=Aside0.mk hs9;have HG9:=Aside0.mk hg9;clear hs9 hg9))
         go_roundw
         case rel => exact ⟨k + 1,_,_,by omega,by go_num,⟨HB8.out.grown HG9.out HB8.out.size (fun k e => by cases e;exact Nat.le_succ _)⟩,HF4,⟨(HL8.out.kept HG9.out (by simp)).mono (Nat.le_succ _)⟩,⟨by rw [HPP.out,← fSet_put];exact HS9.out⟩⟩
         case measure => (simp [intOf] <;> omega)
      ·have k3b : (x.f0 == 3) = false:=beq_eq_false_iff_ne.mpr k3
       have HF4:=Aside0.mk (show checkF L G (l0.drop (k + 1)) = r from by rw [← HF2.out,checkF_cons,if_neg (by rw [hn];decide),if_neg k0,if_neg k3])
       clear hgn hp hlk hVV hCC k0 k3 hn HF HF2 HF3
       go_wp2_with (first | ((with_reducible refine gate_dst (N:=6) rfl ?_);refine box_event ?hg (N:=6) ?hd (cs:=#[.int .i64 0,.string (⟨#[]⟩ : ByteArray),.string (⟨#[]⟩ : ByteArray),.string (⟨#[]⟩ : ByteArray)]) (t:=51) ?hr ?_;(case hd => rfl);(case hg => rfl);(case hr => first | (go_simp;done) | (go_simp;rfl));intro gb hg w6 hbox hb;have BK:=Aside0.mk hbox;have HB6:=Aside0.mk hb;have GB:=Aside0.mk hg;clear hg hbox hb;have hcz0 : w6.cell? ⟨gb,0,none⟩ = some (.int .i64 0):=(blk_cell BK.out 0).trans rfl;have hcz1 : w6.cell? ⟨gb,1,none⟩ = some (.string (⟨#[]⟩ : ByteArray)):=(blk_cell BK.out 1).trans rfl;have hcz2 : w6.cell? ⟨gb,2,none⟩ = some (.string (⟨#[]⟩ : ByteArray)):=(blk_cell BK.out 2).trans rfl;have hcz3 : w6.cell? ⟨gb,3,none⟩ = some (.string (⟨#[]⟩ : ByteArray)):=(blk_cell BK.out 3).trans rfl;have hfz0:=blk_frozen BK.out 0;have hfz1:=blk_frozen BK.out 1;have hfz2:=blk_frozen BK.out 2;have hfz3:=blk_frozen BK.out 3) | (go_at_call 43;(with_reducible refine (recall_names.calls 7 x.f0 x.f1 x.f2 x.f3 _ _ HN.out).mono ?_);rintro e w8 ⟨rfl,hb8⟩;have HE:=Aside0.mk (ev_box GB.out BK.out HB6.out hb8);clear hb8 hcz0 hcz1 hcz2 hcz3 hfz0 hfz1 hfz2 hfz3 hx0 hx1 hx2 hx3 BK HB6;have HL8:=Aside0.mk (HL.out.below (HE.out.1.mono (Nat.le_refl _)));have HG8:=Aside0.mk (HG.out.below HE.out.1);have HB8:=Aside0.mk (HB.out.trans (HE.out.1.mono HB.out.size));clear HL HG HB;have hc0 : w8.cell? ⟨gb,0,none⟩ = some (.int .i64 x.f0):=(blk_cell HE.out.2 0).trans rfl;have hc2 : w8.cell? ⟨gb,2,none⟩ = some (.string x.f2):=(blk_cell HE.out.2 2).trans rfl;have hc3 : w8.cell? ⟨gb,3,none⟩ = some (.string x.f3):=(blk_cell HE.out.2 3).trans rfl) | (at_lookup;refine wpList_lookF_ok rfl _ _ 71 rfl 9 9 Try.underlying9 Try.underlying71 (Try.zeroValue9 _) rfl HL8.out x.f2 rfl hm2 (.string VV) HV.out _ HC.out ?_) | (at_lookup;refine wpList_lookF rfl _ _ 49 rfl 9 4 Try.underlying9 Try.underlying49 (Try.zeroValue4 _) rfl HG8.out x.f2 rfl hm2 (.bool _) HGN.out ?_))
       go_roundw
       case rel => exact ⟨k + 1,_,_,by omega,by go_num,HB8,HF4,⟨HL8.out.mono (Nat.le_succ _)⟩,⟨HG8.out.mono (Nat.le_succ _)⟩⟩
       case measure => (simp [intOf] <;> omega)
    ·have e : r = namesX x:=by rw [← HF2.out,checkF_cons,if_pos hn]
     subst e
     have hn1 : (namesX x != 0) = true:=bne_iff_ne.mpr hn
     have hn2 : (namesX x == 0) = false:=beq_eq_false_iff_ne.mpr hn
     go_wp2_with (first | ((with_reducible refine gate_dst (N:=6) rfl ?_);refine box_event ?hg (N:=6) ?hd (cs:=#[.int .i64 0,.string (⟨#[]⟩ : ByteArray),.string (⟨#[]⟩ : ByteArray),.string (⟨#[]⟩ : ByteArray)]) (t:=51) ?hr ?_;(case hd => rfl);(case hg => rfl);(case hr => first | (go_simp;done) | (go_simp;rfl));intro gb hg w6 hbox hb;have BK:=Aside0.mk hbox;have HB6:=Aside0.mk hb;have GB:=Aside0.mk hg;clear hg hbox hb;have hcz0 : w6.cell? ⟨gb,0,none⟩ = some (.int .i64 0):=(blk_cell BK.out 0).trans rfl;have hcz1 : w6.cell? ⟨gb,1,none⟩ = some (.string (⟨#[]⟩ : ByteArray)):=(blk_cell BK.out 1).trans rfl;have hcz2 : w6.cell? ⟨gb,2,none⟩ = some (.string (⟨#[]⟩ : ByteArray)):=(blk_cell BK.out 2).trans rfl;have hcz3 : w6.cell? ⟨gb,3,none⟩ = some (.string (⟨#[]⟩ : ByteArray)):=(blk_cell BK.out 3).trans rfl;have hfz0:=blk_frozen BK.out 0;have hfz1:=blk_frozen BK.out 1;have hfz2:=blk_frozen BK.out 2;have hfz3:=blk_frozen BK.out 3) | (go_at_call 43;(with_reducible refine (recall_names.calls 7 x.f0 x.f1 x.f2 x.f3 _ _ HN.out).mono ?_);rintro e w8 ⟨rfl,hb8⟩;have HE:=Aside0.mk (ev_box GB.out BK.out HB6.out hb8);clear hb8 hcz0 hcz1 hcz2 hcz3 hfz0 hfz1 hfz2 hfz3 hx0 hx1 hx2 hx3 BK HB6;have HL8:=Aside0.mk (HL.out.below (HE.out.1.mono (Nat.le_refl _)));have HG8:=Aside0.mk (HG.out.below HE.out.1);have HB8:=Aside0.mk (HB.out.trans (HE.out.1.mono HB.out.size));clear HL HG HB;have hc0 : w8.cell? ⟨gb,0,none⟩ = some (.int .i64 x.f0):=(blk_cell HE.out.2 0).trans rfl;have hc2 : w8.cell? ⟨gb,2,none⟩ = some (.string x.f2):=(blk_cell HE.out.2 2).trans rfl;have hc3 : w8.cell? ⟨gb,3,none⟩ = some (.string x.f3):=(blk_cell HE.out.2 3).trans rfl))
     go_ret
     exact ⟨rfl,HB8.out⟩
   ·obtain rfl : k = l0.length:=by omega
    have e : r = 0:=by rw [← HF.out,List.drop_eq_nil_of_le (Nat.le_refl _)];rfl
    subst e
    go_wp2
    go_ret
    exact ⟨rfl,HB.out⟩

end Go.Proofs.Ytnmmdeonkpfccaa.Pr
/- The plain laws: the check of a log, on both sides. -/
set_option linter.unusedVariables false
namespace Go.Proofs.Ytnmmdeonkpfccaa.Pr
open Go.RowKit Go.Proofs.YtnmmdeonkpfccaaW.PrintWords Go.Proofs.YtnmmdeonkpfccaaW.PrintLast Go.Proofs.YtnmmdeonkpfccaaW.PrintMore

theorem bt_of_nf {b : Bool} (h : ¬ b = false) : b = true:=by cases b <;> simp_all
theorem nil_iff (s : ByteArray) : s.toList = ([] : List UInt8) ↔ s.data.toList = []:=by rw [ByteArray.toList_eq]
def nzE (u : Bool) (q : List UInt8) : Int:=if u = true then nameL q else 0
theorem form_j1 (x : S51) (g p t : Bool) : Ev (fun k => metrolabref53_form.j1 k g p t x.f0 x.f1 x.f2 x.f3) (nfold 0 [(x.f1.data.toList,g),(x.f2.data.toList,p),(x.f3.data.toList,t)]):=by
 refine Ev.step (f:=fun k => _) (fun k => by simp only [metrolabref53_form.j1];exact rfl) ?_
 simp only [nil_iff]
 by_cases h1 : nzE g x.f1.data.toList = 0
 ·refine Ev.bind (named_ev x.f1 g) ?_
  rw [show (if g = true then nameL x.f1.data.toList else 0) = 0 from h1]
  simp only [if_true]
  by_cases h2 : nzE p x.f2.data.toList = 0
  ·refine Ev.bind (named_ev x.f2 p) ?_
   rw [show (if p = true then nameL x.f2.data.toList else 0) = 0 from h2]
   simp only [if_true]
   by_cases h3 : nzE t x.f3.data.toList = 0
   ·refine Ev.bind (named_ev x.f3 t) ?_
    rw [show (if t = true then nameL x.f3.data.toList else 0) = 0 from h3]
    simp only [if_true]
    unfold nzE at h1 h2 h3
    cases g <;> cases p <;> cases t <;> simp_all [nfold] <;> (repeat' split) <;> first | exact Ev.now _ | simp_all
   ·refine Ev.bind (named_ev x.f3 t) ?_
    simp only [if_neg (show ¬ (if t = true then nameL x.f3.data.toList else 0) = 0 from h3)]
    have e : nfold 0 [(x.f1.data.toList,g),(x.f2.data.toList,p),(x.f3.data.toList,t)] = (if t = true then nameL x.f3.data.toList else 0):=by
     unfold nzE at h1 h2 h3
     cases g <;> cases p <;> cases t <;> simp_all [nfold] <;> (repeat' split) <;> rfl
    rw [e];exact Ev.now _
  ·refine Ev.bind (named_ev x.f2 p) ?_
   simp only [if_neg (show ¬ (if p = true then nameL x.f2.data.toList else 0) = 0 from h2)]
   have e : nfold 0 [(x.f1.data.toList,g),(x.f2.data.toList,p),(x.f3.data.toList,t)] = (if p = true then nameL x.f2.data.toList else 0):=by
    unfold nzE at h1 h2
    cases g <;> cases p <;> simp_all [nfold] <;> (repeat' split) <;> rfl
   rw [e];exact Ev.now _
 ·refine Ev.bind (named_ev x.f1 g) ?_
  simp only [if_neg (show ¬ (if g = true then nameL x.f1.data.toList else 0) = 0 from h1)]
  have e : nfold 0 [(x.f1.data.toList,g),(x.f2.data.toList,p),(x.f3.data.toList,t)] = (if g = true then nameL x.f1.data.toList else 0):=by
   unfold nzE at h1
   cases g <;> simp_all [nfold]
  rw [e];exact Ev.now _
theorem form_ev (x : S51) : Ev (fun k => metrolabref53_form.f k x.f0 x.f1 x.f2 x.f3) (namesX x):=by
 unfold metrolabref53_form.f namesX namesV
 by_cases h1 : x.f0 < 0
 ·simp only [if_pos h1];rw [if_pos (.inl h1)]
  exact Ev.const fun k => by simp only [metrolabref53_form.j0];rw [if_pos True.intro]
 ·simp only [if_neg h1]
  by_cases h2 : x.f0 > 3
  ·rw [if_pos (.inr h2)]
   refine Ev.const fun k => ?_
   rw [decide_eq_true h2]
   simp only [metrolabref53_form.j0];rw [if_pos True.intro]
  ·rw [if_neg (by omega)]
   have hd : decide (x.f0 > 3) = false:=decide_eq_false h2
   simp only [hd]
   by_cases h0 : x.f0 = 0
   ·refine Ev.step (f:=fun k => metrolabref53_form.j1 k (x.f0 != 3) true (x.f0 == 0) x.f0 x.f1 x.f2 x.f3) (fun k => by simp only [metrolabref53_form.j0];rw [if_neg (by decide),if_pos h0]) ?_
    rw [show (x.f0 == 0 || x.f0 == 3) = true by rw [h0];rfl]
    exact form_j1 x _ _ _
   ·refine Ev.step (f:=fun k => metrolabref53_form.j1 k (x.f0 != 3) (x.f0 == 3) (x.f0 == 0) x.f0 x.f1 x.f2 x.f3) (fun k => by simp only [metrolabref53_form.j0];rw [if_neg (by decide),if_neg h0]) ?_
    rw [show (x.f0 == 0 || x.f0 == 3) = (x.f0 == 3) by rw [beq_eq_false_iff_ne.2 h0];rfl]
    exact form_j1 x _ _ _

/-- A part was withdrawn; was measured. -/
def wdP (q : List UInt8) (x : S51) : Bool:=decide (x.f0 = 3 ∧ x.f2.data.toList = q)
def msP (q : List UInt8) (x : S51) : Bool:=decide (x.f0 = 0 ∧ x.f2.data.toList = q)
def coP (q s : List UInt8) (x : S51) : Bool:=decide (x.f0 = 0 ∧ x.f2.data.toList = q ∧ x.f3.data.toList ≠ s)
theorem str_eq (a b : ByteArray) : a.toList = b.toList ↔ a.data.toList = b.data.toList:=by rw [ByteArray.toList_eq,ByteArray.toList_eq]
theorem withdrawn_go (l : List S51) (hn : l.length ≤ 2513169434915) (a : ByteArray) : ∀ (d i : Nat),i ≤ l.length → l.length - i = d → Ev (fun k => metrolabref53_Withdrawn.l0 k (rl l) a (i : Int)) ((l.drop i).any (wdP a.data.toList)):=by
 intro d
 induction d with
 | zero =>
  intro i hi hd
  obtain rfl : i = l.length:=by omega
  refine Ev.const fun k => ?_
  simp only [metrolabref53_Withdrawn.l0]
  rw [if_neg (by rw [rl_len];omega),List.drop_length];rfl
 | succ d ih =>
  intro i hi hd
  obtain ⟨x,hx,hdr⟩:=drop_at (show i < l.length by omega)
  rw [hdr,List.any_cons]
  by_cases h : x.f0 = 3 ∧ x.f2.data.toList = a.data.toList
  ·rw [show wdP a.data.toList x = true from decide_eq_true h,Bool.true_or]
   refine Ev.const fun k => ?_
   simp only [metrolabref53_Withdrawn.l0]
   rw [if_pos (by rw [rl_len];omega),if_pos (by omega),rd67_at hx,if_pos h.1,if_pos ((str_eq _ _).2 h.2)]
  ·rw [show wdP a.data.toList x = false from decide_eq_false h,Bool.false_or]
   refine Ev.step (f:=fun k => metrolabref53_Withdrawn.l0 k (rl l) a ((i + 1 : Nat) : Int)) (fun k => ?_) (ih (i + 1) (by omega) (by omega))
   simp only [metrolabref53_Withdrawn.l0]
   rw [if_pos (by rw [rl_len];omega),if_pos (by omega),rd67_at hx,wrap_nat (by omega)]
   by_cases h1 : (to67 x).f0 = 3
   ·rw [if_pos h1,if_neg (fun e => h ⟨h1,(str_eq _ _).1 e⟩)]
   ·rw [if_neg h1]
theorem withdrawn_ev (l : List S51) (hn : l.length ≤ 2513169434915) (a : ByteArray) : Ev (fun k => metrolabref53_Withdrawn.f k (rl l) a) (l.any (wdP a.data.toList)):=withdrawn_go l hn a l.length 0 (by omega) (by omega)
theorem measured_go (l : List S51) (hn : l.length ≤ 2513169434915) (a : ByteArray) : ∀ (d i : Nat),i ≤ l.length → l.length - i = d → Ev (fun k => metrolabref53_Measured.l0 k (rl l) a (i : Int)) ((l.drop i).any (msP a.data.toList)):=by
 intro d
 induction d with
 | zero =>
  intro i hi hd
  obtain rfl : i = l.length:=by omega
  refine Ev.const fun k => ?_
  simp only [metrolabref53_Measured.l0]
  rw [if_neg (by rw [rl_len];omega),List.drop_length];rfl
 | succ d ih =>
  intro i hi hd
  obtain ⟨x,hx,hdr⟩:=drop_at (show i < l.length by omega)
  rw [hdr,List.any_cons]
  by_cases h : x.f0 = 0 ∧ x.f2.data.toList = a.data.toList
  ·rw [show msP a.data.toList x = true from decide_eq_true h,Bool.true_or]
   refine Ev.const fun k => ?_
   simp only [metrolabref53_Measured.l0]
   rw [if_pos (by rw [rl_len];omega),if_pos (by omega),rd67_at hx,if_pos h.1,if_pos ((str_eq _ _).2 h.2)]
  ·rw [show msP a.data.toList x = false from decide_eq_false h,Bool.false_or]
   refine Ev.step (f:=fun k => metrolabref53_Measured.l0 k (rl l) a ((i + 1 : Nat) : Int)) (fun k => ?_) (ih (i + 1) (by omega) (by omega))
   simp only [metrolabref53_Measured.l0]
   rw [if_pos (by rw [rl_len];omega),if_pos (by omega),rd67_at hx,wrap_nat (by omega)]
   by_cases h1 : (to67 x).f0 = 0
   ·rw [if_pos h1,if_neg (fun e => h ⟨h1,(str_eq _ _).1 e⟩)]
   ·rw [if_neg h1]
theorem measured_ev (l : List S51) (hn : l.length ≤ 2513169434915) (a : ByteArray) : Ev (fun k => metrolabref53_Measured.f k (rl l) a) (l.any (msP a.data.toList)):=measured_go l hn a l.length 0 (by omega) (by omega)

/-- The reference's check: what is read, and what is left. -/
def refF : List S51 → List S51 → Int
 | _,[] => 0
 | pre,x :: r => if namesX x ≠ 0 then namesX x else if x.f0 = 0 ∧ pre.any (wdP x.f2.data.toList) = true then 14
  else if x.f0 = 0 ∧ pre.any (coP x.f2.data.toList x.f3.data.toList) = true then 16
  else if x.f0 = 3 ∧ pre.any (msP x.f2.data.toList) = false then 6 else if x.f0 = 3 ∧ pre.any (wdP x.f2.data.toList) = true then 14 else refF (pre ++ [x]) r
theorem check_rec (l : List S51) (hn : l.length ≤ 2513169434915) : ∀ (d i : Nat),i ≤ l.length → l.length - i = d → Ev (fun k => metrolabref53_Check.l0 k (rl l) (i : Int)) (refF (l.take i) (l.drop i)):=by
 intro d
 induction d with
 | zero =>
  intro i hi hd
  obtain rfl : i = l.length:=by omega
  refine Ev.const fun k => ?_
  simp only [metrolabref53_Check.l0]
  rw [if_neg (by rw [rl_len];omega),List.drop_length];rfl
 | succ d ih =>
  intro i hi hd
  obtain ⟨x,hx,hdr⟩:=drop_at (show i < l.length by omega)
  have hih:=ih (i + 1) (by omega) (by omega)
  have etk : l.take (i + 1) = l.take i ++ [x]:=by rw [List.take_add_one,hx];rfl
  rw [etk] at hih
  have htk : (rl l).take ((i : Int)).toNat = rl (l.take i):=by rw [Int.toNat_natCast];unfold rl;rw [List.map_take]
  have hlt : (l.take i).length ≤ 2513169434915:=by rw [List.length_take];omega
  have hil : (i : Int) ≤ ((rl l).length : Int):=by rw [rl_len];omega
  rw [hdr]
  refine Ev.step (f:=fun k => _) (fun k => by simp only [metrolabref53_Check.l0];rw [if_pos (by rw [rl_len];omega),if_pos (by omega),rd67_at hx]) ?_
  refine Ev.bind (form_ev x) ?_
  by_cases hx0 : namesX x = 0
  rotate_left
  ·simp only [if_neg hx0,refF,if_pos hx0];exact Ev.now _
  simp only [if_pos hx0,refF,if_neg (show ¬ namesX x ≠ 0 from fun h => h hx0)]
  -- the tail behind the conflicts
  have hj3 : Ev (fun k => metrolabref53_Check.j3 k (rl l) (i : Int) false x.f0 x.f1 x.f2 x.f3) (if x.f0 = 3 ∧ (l.take i).any (wdP x.f2.data.toList) = true then 14 else refF (l.take i ++ [x]) (l.drop (i + 1))):=by
   by_cases h3 : x.f0 = 3
   ·refine Ev.step (f:=fun k => _) (fun k => by simp only [metrolabref53_Check.j3];rw [if_neg (by decide),if_pos h3,if_pos (by omega),if_pos hil,htk]) ?_
    refine Ev.bind (withdrawn_ev _ hlt _) ?_
    by_cases hw : (l.take i).any (wdP x.f2.data.toList) = true
    ·rw [if_pos ⟨h3,hw⟩];simp only [if_pos hw];exact Ev.now _
    ·rw [if_neg (fun h => hw h.2)];simp only [if_neg hw];rw [wrap_nat (by omega)];exact hih
   ·rw [if_neg (fun h => h3 h.1)]
    refine Ev.step (f:=fun k => metrolabref53_Check.l0 k (rl l) ((i + 1 : Nat) : Int)) (fun k => by simp only [metrolabref53_Check.j3];rw [if_neg (by decide),if_neg h3,wrap_nat (by omega)]) hih
  have hl1e : Ev (fun k => metrolabref53_Check.l1 k (rl l) (i : Int) (i : Int) x.f0 x.f1 x.f2 x.f3) (if x.f0 = 3 ∧ (l.take i).any (msP x.f2.data.toList) = false then 6 else if x.f0 = 3 ∧ (l.take i).any (wdP x.f2.data.toList) = true then 14 else refF (l.take i ++ [x]) (l.drop (i + 1))):=by
   by_cases h3 : x.f0 = 3
   ·refine Ev.step (f:=fun k => _) (fun k => by simp only [metrolabref53_Check.l1];rw [if_neg (by omega),if_pos h3,if_pos (by omega),if_pos hil,htk]) ?_
    refine Ev.bind (measured_ev _ hlt _) ?_
    by_cases hw : (l.take i).any (msP x.f2.data.toList) = false
    ·rw [if_pos ⟨h3,hw⟩,hw]
     exact Ev.const fun k => by simp only [metrolabref53_Check.j3,Bool.not_false];rw [if_pos True.intro]
    ·rw [if_neg (fun h => hw h.2),bt_of_nf hw];exact hj3
   ·rw [if_neg (fun h => h3 h.1)]
    exact Ev.step (f:=fun k => metrolabref53_Check.j3 k (rl l) (i : Int) false x.f0 x.f1 x.f2 x.f3) (fun k => by simp only [metrolabref53_Check.l1];rw [if_neg (by omega),if_neg h3]) hj3
  have hl1 : ∀ (e j : Nat),j ≤ i → i - j = e → Ev (fun k => metrolabref53_Check.l1 k (rl l) (i : Int) (j : Int) x.f0 x.f1 x.f2 x.f3) (if x.f0 = 0 ∧ ((l.take i).drop j).any (coP x.f2.data.toList x.f3.data.toList) = true then 16 else if x.f0 = 3 ∧ (l.take i).any (msP x.f2.data.toList) = false then 6 else if x.f0 = 3 ∧ (l.take i).any (wdP x.f2.data.toList) = true then 14 else refF (l.take i ++ [x]) (l.drop (i + 1))):=by
   intro e
   induction e with
   | zero =>
    intro j hj he
    obtain rfl : j = i:=by omega
    rw [show (l.take j).drop j = [] from List.drop_eq_nil_of_le (by rw [List.length_take];omega)]
    rw [if_neg (by intro h;cases h.2)]
    exact hl1e
   | succ e ih2 =>
    intro j hj he
    obtain ⟨y,hy,hdy⟩:=drop_at (l:=l.take i) (i:=j) (by rw [List.length_take];omega)
    have hy2 : l[j]? = some y:=by rw [List.getElem?_take,if_pos (by omega)] at hy;exact hy
    have hih2:=ih2 (j + 1) (by omega) (by omega)
    rw [hdy,List.any_cons]
    by_cases h0 : x.f0 = 0
    ·by_cases hc : y.f0 = 0 ∧ y.f2.data.toList = x.f2.data.toList ∧ y.f3.data.toList ≠ x.f3.data.toList
     ·rw [show coP x.f2.data.toList x.f3.data.toList y = true from decide_eq_true hc,Bool.true_or,if_pos ⟨h0,rfl⟩]
      refine Ev.const fun k => ?_
      simp only [metrolabref53_Check.l1]
      rw [if_pos (by omega),if_pos h0,if_pos (by omega),if_pos (by rw [rl_len];omega),rd67_at hy2,if_pos hc.1,if_pos ((str_eq _ _).2 hc.2.1),if_neg (fun e => hc.2.2 ((str_eq _ _).1 e))]
     ·rw [show coP x.f2.data.toList x.f3.data.toList y = false from decide_eq_false hc,Bool.false_or]
      refine Ev.step (f:=fun k => metrolabref53_Check.l1 k (rl l) (i : Int) ((j + 1 : Nat) : Int) x.f0 x.f1 x.f2 x.f3) (fun k => ?_) hih2
      simp only [metrolabref53_Check.l1]
      rw [if_pos (by omega),if_pos h0,if_pos (by omega),if_pos (by rw [rl_len];omega),rd67_at hy2,wrap_nat (by omega)]
      by_cases c1 : (to67 y).f0 = 0
      ·rw [if_pos c1]
       by_cases c2 : (to67 y).f2.toList = x.f2.toList
       ·rw [if_pos c2]
        by_cases c3 : (to67 y).f3.toList = x.f3.toList
        ·rw [if_pos c3]
        ·exact absurd ⟨c1,(str_eq _ _).1 c2,fun e => c3 ((str_eq _ _).2 e)⟩ hc
       ·rw [if_neg c2]
      ·rw [if_neg c1]
    ·rw [if_neg (fun h => h0 h.1)]
     rw [if_neg (fun h => h0 h.1)] at hih2
     refine Ev.step (f:=fun k => metrolabref53_Check.l1 k (rl l) (i : Int) ((j + 1 : Nat) : Int) x.f0 x.f1 x.f2 x.f3) (fun k => ?_) hih2
     simp only [metrolabref53_Check.l1]
     rw [if_pos (by omega),if_neg h0,wrap_nat (by omega)]
  have hl10:=hl1 i 0 (by omega) (by omega)
  rw [List.drop_zero] at hl10
  have hj1 : Ev (fun k => metrolabref53_Check.j1 k (rl l) (i : Int) false x.f0 x.f1 x.f2 x.f3) _:=Ev.step (f:=fun k => metrolabref53_Check.l1 k (rl l) (i : Int) ((0 : Nat) : Int) x.f0 x.f1 x.f2 x.f3) (fun k => by simp only [metrolabref53_Check.j1];rw [if_neg (by decide)];rfl) hl10
  by_cases h0 : x.f0 = 0
  ·simp only [if_pos h0,if_pos hil]
   rw [htk]
   refine Ev.bind (withdrawn_ev _ hlt _) ?_
   by_cases hw : (l.take i).any (wdP x.f2.data.toList) = true
   ·rw [if_pos ⟨h0,hw⟩,hw]
    exact Ev.const fun k => by simp only [metrolabref53_Check.j1];rw [if_pos True.intro]
   ·rw [if_neg (fun h => hw h.2),Bool.eq_false_iff.2 hw]
    rw [Bool.eq_false_iff.2 hw] at hj1
    exact hj1
  ·simp only [if_neg h0]
   rw [if_neg (fun h => h0 h.1)]
   exact hj1
theorem refCheck_ev (l : List S51) (hn : l.length ≤ 2513169434915) : Ev (fun k => metrolabref53_Check.f k (rl l)) (if 4096 < l.length then 5 else refF [] l):=by
 unfold metrolabref53_Check.f
 by_cases h : 4096 < l.length
 ·rw [if_pos h];simp only [if_pos (show ((rl l).length : Int) > 4096 by rw [rl_len];omega)];exact Ev.now _
 ·rw [if_neg h];simp only [if_neg (show ¬ ((rl l).length : Int) > 4096 by rw [rl_len];omega)]
  exact check_rec l hn l.length 0 (by omega) (by omega)

theorem check_same : ∀ (r pre : List S51) (L : List (List UInt8 × ByteArray)) (G : List (List UInt8)),
  (∀ q,q ∈ G ↔ pre.any (wdP q) = true) → (∀ q,L.lookup q = none ↔ pre.any (msP q) = false) → (∀ q s,L.lookup q = some s → ∀ y ∈ pre,y.f0 = 0 → y.f2.data.toList = q → y.f3.data.toList = s.data.toList) →
  checkF L G r = refF pre r:=by
 intro r
 induction r with
 | nil => intro pre L G h1 h2 h3;unfold checkF refF;rfl
 | cons x r ih =>
  intro pre L G h1 h2 h3
  unfold checkF refF
  by_cases hx : namesX x = 0
  rotate_left
  ·rw [if_pos hx,if_pos hx]
  rw [if_neg (show ¬ namesX x ≠ 0 from fun h => h hx),if_neg (show ¬ namesX x ≠ 0 from fun h => h hx)]
  by_cases h0 : x.f0 = 0
  ·have n3 : ¬ x.f0 = 3:=by omega
   rw [if_pos h0]
   by_cases hg : x.f2.data.toList ∈ G
   ·rw [if_pos hg,if_pos ⟨h0,(h1 _).1 hg⟩]
   ·rw [if_neg hg,if_neg (fun h => hg ((h1 _).2 h.2))]
    have hpush : ∀ (hc : pre.any (coP x.f2.data.toList x.f3.data.toList) = false),checkF ((x.f2.data.toList,x.f3) :: L) G r = refF (pre ++ [x]) r:=by
     intro hc
     refine ih _ _ _ (fun q => ?_) (fun q => ?_) (fun q s hs y hy y0 yq => ?_)
     ·rw [h1,List.any_append]
      have : [x].any (wdP q) = false:=by rw [List.any_cons,List.any_nil,Bool.or_false];exact decide_eq_false (fun h => n3 h.1)
      rw [this,Bool.or_false]
     ·rw [List.lookup_cons,List.any_append]
      by_cases e : q = x.f2.data.toList
      ·have e1 : (q == x.f2.data.toList) = true:=by rw [e];exact beq_self_eq_true _
       rw [e1]
       have : [x].any (msP q) = true:=by rw [List.any_cons];rw [show msP q x = true from decide_eq_true ⟨h0,e.symm⟩];rfl
       rw [this,Bool.or_true];simp
      ·have e1 : (q == x.f2.data.toList) = false:=beq_eq_false_iff_ne.2 e
       rw [e1]
       have : [x].any (msP q) = false:=by rw [List.any_cons,List.any_nil,Bool.or_false];exact decide_eq_false (fun h => e h.2.symm)
       rw [this,Bool.or_false];exact h2 q
     ·rw [List.lookup_cons] at hs
      by_cases e : q = x.f2.data.toList
      ·have e1 : (q == x.f2.data.toList) = true:=by rw [e];exact beq_self_eq_true _
       rw [e1] at hs
       obtain rfl:=Option.some.inj hs
       rcases List.mem_append.1 hy with hy | hy
       ·have:=List.any_eq_false.1 hc y hy
        exact Classical.byContradiction fun hne => this (decide_eq_true ⟨y0,yq.trans e,hne⟩)
       ·obtain rfl:=List.mem_singleton.1 hy;rfl
      ·have e1 : (q == x.f2.data.toList) = false:=beq_eq_false_iff_ne.2 e
       rw [e1] at hs
       rcases List.mem_append.1 hy with hy | hy
       ·exact h3 q s hs y hy y0 yq
       ·obtain rfl:=List.mem_singleton.1 hy;exact absurd yq.symm e
    cases hL : L.lookup x.f2.data.toList with
    | none =>
     have hc : pre.any (coP x.f2.data.toList x.f3.data.toList) = false:=by
      rw [List.any_eq_false]
      intro y hy hh
      have hh:=of_decide_eq_true hh
      exact List.any_eq_false.1 ((h2 _).1 hL) y hy (decide_eq_true ⟨hh.1,hh.2.1⟩)
     show checkF _ _ _ = _
     rw [if_neg (by rw [hc];intro h;cases h.2),if_neg (fun h => n3 h.1),if_neg (fun h => n3 h.1)]
     exact hpush hc
    | some s =>
     show (if s.data.toList = x.f3.data.toList then _ else _) = _
     by_cases hs : s.data.toList = x.f3.data.toList
     ·rw [if_pos hs]
      have hc : pre.any (coP x.f2.data.toList x.f3.data.toList) = false:=by
       rw [List.any_eq_false]
       intro y hy hh
       have hh:=of_decide_eq_true hh
       exact hh.2.2 ((h3 _ s hL y hy hh.1 hh.2.1).trans hs)
      rw [if_neg (by rw [hc];intro h;cases h.2),if_neg (fun h => n3 h.1),if_neg (fun h => n3 h.1)]
      exact hpush hc
     ·rw [if_neg hs]
      have hm : pre.any (msP x.f2.data.toList) = true:=bt_of_nf fun h => by rw [(h2 _).2 h] at hL;cases hL
      obtain ⟨y,hy,hyy⟩:=List.any_eq_true.1 hm
      have hyy:=of_decide_eq_true hyy
      rw [if_pos ⟨h0,List.any_eq_true.2 ⟨y,hy,decide_eq_true ⟨hyy.1,hyy.2,fun e => hs ((h3 _ s hL y hy hyy.1 hyy.2).symm.trans e)⟩⟩⟩]
  ·rw [if_neg h0,if_neg (show ¬ (x.f0 = 0 ∧ pre.any (wdP x.f2.data.toList) = true) from fun h => h0 h.1),if_neg (show ¬ (x.f0 = 0 ∧ pre.any (coP x.f2.data.toList x.f3.data.toList) = true) from fun h => h0 h.1)]
   by_cases n3 : x.f0 = 3
   ·rw [if_pos n3]
    by_cases hl : L.lookup x.f2.data.toList = none
    ·rw [if_pos hl,if_pos ⟨n3,(h2 _).1 hl⟩]
    ·rw [if_neg hl,if_neg (show ¬ (x.f0 = 3 ∧ pre.any (msP x.f2.data.toList) = false) from fun h => hl ((h2 _).2 h.2))]
     by_cases hg : x.f2.data.toList ∈ G
     ·rw [if_pos hg,if_pos ⟨n3,(h1 _).1 hg⟩]
     ·rw [if_neg hg,if_neg (fun h => hg ((h1 _).2 h.2))]
      refine ih _ _ _ (fun q => ?_) (fun q => ?_) (fun q s hs y hy y0 yq => ?_)
      ·rw [List.mem_cons,h1,List.any_append,Bool.or_eq_true]
       have : ([x].any (wdP q) = true) ↔ q = x.f2.data.toList:=by
        rw [List.any_cons,List.any_nil,Bool.or_false]
        unfold wdP
        rw [decide_eq_true_iff]
        exact ⟨fun h => h.2.symm,fun h => ⟨n3,h.symm⟩⟩
       rw [this];exact Or.comm
      ·rw [List.any_append]
       have : [x].any (msP q) = false:=by rw [List.any_cons,List.any_nil,Bool.or_false];exact decide_eq_false (fun h => h0 h.1)
       rw [this,Bool.or_false];exact h2 q
      ·rcases List.mem_append.1 hy with hy | hy
       ·exact h3 q s hs y hy y0 yq
       ·obtain rfl:=List.mem_singleton.1 hy;exact absurd y0 h0
   ·rw [if_neg n3,if_neg (fun h => n3 h.1),if_neg (fun h => n3 h.1)]
    refine ih _ _ _ (fun q => ?_) (fun q => ?_) (fun q s hs y hy y0 yq => ?_)
    ·rw [h1,List.any_append]
     have : [x].any (wdP q) = false:=by rw [List.any_cons,List.any_nil,Bool.or_false];exact decide_eq_false (fun h => n3 h.1)
     rw [this,Bool.or_false]
    ·rw [List.any_append]
     have : [x].any (msP q) = false:=by rw [List.any_cons,List.any_nil,Bool.or_false];exact decide_eq_false (fun h => h0 h.1)
     rw [this,Bool.or_false];exact h2 q
    ·rcases List.mem_append.1 hy with hy | hy
     ·exact h3 q s hs y hy y0 yq
     ·obtain rfl:=List.mem_singleton.1 hy;exact absurd y0 h0
theorem check_ev (l : List S51) (hn : l.length ≤ 2513169434915) : Ev (fun k => metrolabref53_Check.f k (rl l)) (checkV l):=by
 have h:=refCheck_ev l hn
 unfold checkV
 rw [check_same l [] [] [] (fun q => by simp) (fun q => by simp) (fun q s h => by simp at h)]
 exact h
end Go.Proofs.Ytnmmdeonkpfccaa.Pr
