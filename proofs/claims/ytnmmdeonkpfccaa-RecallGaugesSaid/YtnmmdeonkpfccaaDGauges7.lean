/- A part of the statement's proof. -/
import Derived.Test.YtnmmdeonkpfccaaDGauges2
import Derived.Test.YtnmmdeonkpfccaaDGauges6
namespace Go.Proofs.Ytnmmdeonkpfccaa.Pr
open Go.RowKit Go.Proofs.YtnmmdeonkpfccaaW.PrintWords Go.Proofs.YtnmmdeonkpfccaaW.PrintLast Go.Proofs.YtnmmdeonkpfccaaW.PrintMore
attribute [local go_sem] max2_int min2_int max_two min_two max_three min_three max_four min_four
set_option linter.unusedVariables false
set_option linter.unusedSimpArgs false
mutual
def metrolabref53_form.j0 : Nat → Bool → Int → ByteArray → ByteArray → ByteArray → Option (Int)
 | 0,_,_,_,_,_ => none
 | k + 1,x16,x117000,x117001,x117002,x117003 => if x16 = true then (some 1) else (if x117000 = 0 then (metrolabref53_form.j1 k (x117000 != 3) true (x117000 == 0) x117000 x117001 x117002 x117003) else (metrolabref53_form.j1 k (x117000 != 3) (x117000 == 3) (x117000 == 0) x117000 x117001 x117002 x117003))
def metrolabref53_form.j1 : Nat → Bool → Bool → Bool → Int → ByteArray → ByteArray → ByteArray → Option (Int)
 | 0,_,_,_,_,_,_,_ => none
 | k + 1,x3,x4,x5,x117000,x117001,x117002,x117003 => (metrolabref53_named.f k x117001 x3).bind fun t117 => (if t117 = 0 then ((metrolabref53_named.f k x117002 x4).bind fun t118 => (if t118 = 0 then ((metrolabref53_named.f k x117003 x5).bind fun t119 => (if t119 = 0 then (if x3 = true then (if x4 = true then (if x5 = true then (some 0) else (if x117003.toList = ([] : List UInt8) then (some 0) else (some 3))) else (if x117002.toList = ([] : List UInt8) then (if x5 = true then (some 0) else (if x117003.toList = ([] : List UInt8) then (some 0) else (some 3))) else (some 3))) else (if x117001.toList = ([] : List UInt8) then (if x4 = true then (if x5 = true then (some 0) else (if x117003.toList = ([] : List UInt8) then (some 0) else (some 3))) else (if x117002.toList = ([] : List UInt8) then (if x5 = true then (some 0) else (if x117003.toList = ([] : List UInt8) then (some 0) else (some 3))) else (some 3))) else (some 3))) else (some t119))) else (some t118))) else (some t117))
end
def metrolabref53_form.f (k : Nat) (a0_0 : Int) (a0_1 : ByteArray) (a0_2 : ByteArray) (a0_3 : ByteArray) : Option (Int):=if a0_0 < 0 then (metrolabref53_form.j0 k true a0_0 a0_1 a0_2 a0_3) else (metrolabref53_form.j0 k (decide (a0_0 > 3)) a0_0 a0_1 a0_2 a0_3)
set_option maxHeartbeats 8000000 in
set_option maxRecDepth 100000 in
theorem metrolabref53_form.calls (k : Nat) (a0_0 : Int) (a0_1 : ByteArray) (a0_2 : ByteArray) (a0_3 : ByteArray) (r : Int) (w : World) (h : metrolabref53_form.f k a0_0 a0_1 a0_2 a0_3 = some r) :
  Calls Try.prog 44 #[.agg #[.int .i64 a0_0,.string a0_1,.string a0_2,.string a0_3]] w fun e w' => e = .returned (.int .i64 r) ∧ Below w.heap.size w w':=by
 have hu67:=Try.underlying67
 have HB:=Aside0.mk (Below.refl w.heap.size w)
 have H : (if a0_0 < 0 then (metrolabref53_form.j0 k true a0_0 a0_1 a0_2 a0_3) else (metrolabref53_form.j0 k (decide (a0_0 > 3)) a0_0 a0_1 a0_2 a0_3)) = some r:=h
 clear h
 have HC2:=Aside0.mk H
 clear H
 go_enter Try.func44,Try.ntmps44
 go_upto_region 1 with (first | ((with_reducible refine gate_dst (N:=1) rfl ?_);refine box_event ?hg (N:=1) ?hd (cs:=#[.int .i64 a0_0,.string a0_1,.string a0_2,.string a0_3]) (t:=67) ?hr ?_;(case hd => rfl);(case hg => rfl);(case hr => first | (go_simp;done) | (go_simp;rfl));intro gb116 hg w3 hbox hb;have n0_:=Aside0.mk (below_step (by repeat (first | (with_reducible first | exact HB.out | apply below_alloc | apply pw_below_drewN | apply below_drew1) | exact HB.out)) hb);have n1_:=Aside0.mk (hbox);have n2_:=Aside0.mk ((by rw [hg];exact (below_size (by repeat (first | (with_reducible first | exact HB.out | apply below_alloc | apply pw_below_drewN | apply below_drew1) | exact HB.out))) : w.heap.size ≤ gb116));have n3_:=Aside0.mk ((by rw [hg];exact (below_size (by repeat (first | (with_reducible first | exact HB.out | apply below_alloc | apply pw_below_drewN | apply below_drew1) | exact HB.out))) : w.heap.size ≤ gb116));clear HB;have HB:=n0_;have BK116:=n1_;have GW116:=n2_;have GE116:=n3_;clear n0_ n1_ n2_ n3_;clear hb hbox hg))
 repeat (go_quiet (first | ((with_reducible refine gate_dst (N:=1) rfl ?_);refine box_event ?hg (N:=1) ?hd (cs:=#[.int .i64 a0_0,.string a0_1,.string a0_2,.string a0_3]) (t:=67) ?hr ?_;(case hd => rfl);(case hg => rfl);(case hr => first | (go_simp;done) | (go_simp;rfl));intro gb116 hg w3 hbox hb;have n0_:=Aside0.mk (below_step (by repeat (first | (with_reducible first | exact HB.out | apply below_alloc | apply pw_below_drewN | apply below_drew1) | exact HB.out)) hb);have n1_:=Aside0.mk (hbox);have n2_:=Aside0.mk ((by rw [hg];exact (below_size (by repeat (first | (with_reducible first | exact HB.out | apply below_alloc | apply pw_below_drewN | apply below_drew1) | exact HB.out))) : w.heap.size ≤ gb116));have n3_:=Aside0.mk ((by rw [hg];exact (below_size (by repeat (first | (with_reducible first | exact HB.out | apply below_alloc | apply pw_below_drewN | apply below_drew1) | exact HB.out))) : w.heap.size ≤ gb116));clear HB;have HB:=n0_;have BK116:=n1_;have GW116:=n2_;have GE116:=n3_;clear n0_ n1_ n2_ n3_;clear hb hbox hg));go_upto_region 1 with (first | ((with_reducible refine gate_dst (N:=1) rfl ?_);refine box_event ?hg (N:=1) ?hd (cs:=#[.int .i64 a0_0,.string a0_1,.string a0_2,.string a0_3]) (t:=67) ?hr ?_;(case hd => rfl);(case hg => rfl);(case hr => first | (go_simp;done) | (go_simp;rfl));intro gb116 hg w3 hbox hb;have n0_:=Aside0.mk (below_step (by repeat (first | (with_reducible first | exact HB.out | apply below_alloc | apply pw_below_drewN | apply below_drew1) | exact HB.out)) hb);have n1_:=Aside0.mk (hbox);have n2_:=Aside0.mk ((by rw [hg];exact (below_size (by repeat (first | (with_reducible first | exact HB.out | apply below_alloc | apply pw_below_drewN | apply below_drew1) | exact HB.out))) : w.heap.size ≤ gb116));have n3_:=Aside0.mk ((by rw [hg];exact (below_size (by repeat (first | (with_reducible first | exact HB.out | apply below_alloc | apply pw_below_drewN | apply below_drew1) | exact HB.out))) : w.heap.size ≤ gb116));clear HB;have HB:=n0_;have BK116:=n1_;have GW116:=n2_;have GE116:=n3_;clear n0_ n1_ n2_ n3_;clear hb hbox hg)))
 (try simp only [Act.put,List.setIfInBounds_toArray,List.set_cons_zero,List.set_cons_succ])
 go_cut [16] (fun v16 wc => ∃ (kq : Nat) (x16_1 : Bool),v16 = .bool x16_1 ∧ Aside0 (metrolabref53_form.j0 kq x16_1 a0_0 a0_1 a0_2 a0_3 = some r) ∧ Aside0 (kq ≤ k) ∧ Aside0 (wc.heap[gb116]? = some (.cells #[.int .i64 a0_0,.string a0_1,.string a0_2,.string a0_3] 67 (0,0))) ∧ Aside0 (Below w.heap.size w wc))
 case first =>
  have H:=HC2.out
  clear HC2
  by_cases c4 : a0_0 < 0
  ·rw [if_pos c4] at H
   have c4b0 : decide (a0_0 < 0) = true:=decide_eq_true c4
   clear c4
   (first | rw [c4b0] | (simp only [i64_w,i32_w];rw [c4b0]) | skip)
   have H':=Aside0.mk H
   clear H
   have hcz5_0 : w3.cell? ⟨gb116,0,none⟩ = some (.int .i64 a0_0):=(blk_cell BK116.out 0).trans rfl
   have hcz5_1 : w3.cell? ⟨gb116,1,none⟩ = some (.string a0_1):=(blk_cell BK116.out 1).trans rfl
   have hcz5_2 : w3.cell? ⟨gb116,2,none⟩ = some (.string a0_2):=(blk_cell BK116.out 2).trans rfl
   have hcz5_3 : w3.cell? ⟨gb116,3,none⟩ = some (.string a0_3):=(blk_cell BK116.out 3).trans rfl
   have hfz5_0:=blk_frozen BK116.out 0
   have hfz5_1:=blk_frozen BK116.out 1
   have hfz5_2:=blk_frozen BK116.out 2
   have hfz5_3:=blk_frozen BK116.out 3
   go_wp2
   repeat (go_quiet (fail);try go_wp2)
   go_meet
   case rel => exact ⟨_,(true),(by first | rfl | (simp;done) | (simp [*];done)),H',⟨by first | omega | exact Nat.le_refl _⟩,⟨by (with_reducible repeat (first | refine blk_drewN ?_ _ | refine blk_drew ?_ | refine blk_alloc ?_ _));exact BK116.out⟩,⟨by repeat (first | (with_reducible first | exact HB.out | apply below_alloc | apply pw_below_drewN | apply below_drew1 | refine below_set ?_ GE116.out) | exact HB.out)⟩⟩
  ·rw [if_neg c4] at H
   have c4b0 : decide (a0_0 < 0) = false:=decide_eq_false c4
   clear c4
   (first | rw [c4b0] | (simp only [i64_w,i32_w];rw [c4b0]) | skip)
   have H':=Aside0.mk H
   clear H
   have hcz6_0 : w3.cell? ⟨gb116,0,none⟩ = some (.int .i64 a0_0):=(blk_cell BK116.out 0).trans rfl
   have hcz6_1 : w3.cell? ⟨gb116,1,none⟩ = some (.string a0_1):=(blk_cell BK116.out 1).trans rfl
   have hcz6_2 : w3.cell? ⟨gb116,2,none⟩ = some (.string a0_2):=(blk_cell BK116.out 2).trans rfl
   have hcz6_3 : w3.cell? ⟨gb116,3,none⟩ = some (.string a0_3):=(blk_cell BK116.out 3).trans rfl
   have hfz6_0:=blk_frozen BK116.out 0
   have hfz6_1:=blk_frozen BK116.out 1
   have hfz6_2:=blk_frozen BK116.out 2
   have hfz6_3:=blk_frozen BK116.out 3
   go_wp2
   repeat (go_quiet (fail);try go_wp2)
   go_meet
   case rel => exact ⟨_,(decide (a0_0 > 3)),(by first | rfl | (simp;done) | (simp [*];done)),H',⟨by first | omega | exact Nat.le_refl _⟩,⟨by (with_reducible repeat (first | refine blk_drewN ?_ _ | refine blk_drew ?_ | refine blk_alloc ?_ _));exact BK116.out⟩,⟨by repeat (first | (with_reducible first | exact HB.out | apply below_alloc | apply pw_below_drewN | apply below_drew1 | refine below_set ?_ GE116.out) | exact HB.out)⟩⟩
 case rest =>
  clear HC2
  try clear p2
  try clear c4
  try clear c4b0
  try clear hcz5_0
  try clear hcz5_1
  try clear hcz5_2
  try clear hcz5_3
  try clear hcz6_0
  try clear hcz6_1
  try clear hcz6_2
  try clear hcz6_3
  try clear hfz5_0
  try clear hfz5_1
  try clear hfz5_2
  try clear hfz5_3
  try clear hfz6_0
  try clear hfz6_1
  try clear hfz6_2
  try clear hfz6_3
  obtain ⟨kq,x16_1,rfl,HA,HJ1,BK116,HB⟩:=hcut
  cases kq with
  | zero => exact absurd HA.out (by simp [metrolabref53_form.j0])
  | succ kj1 =>
   have H:=HA.out
   clear HA
   simp only [metrolabref53_form.j0] at H
   by_cases c7 : x16_1 = true
   ·subst c7
    have H1 : (some 1) = some r:=by rw [if_pos rfl] at H;exact H
    clear H
    have H:=H1
    clear H1
    obtain rfl:=Option.some.inj H
    go_wp2
    repeat (go_quiet (fail);try go_wp2)
    go_ret
    exact ⟨by first | rfl | (simp [errW_none,errW_some] <;> rfl) | (simp [*,errW_none,errW_some] <;> rfl),by repeat (first | (with_reducible first | exact HB.out | apply below_alloc | apply pw_below_drewN | apply below_drew1 | refine below_set ?_ GE116.out) | exact HB.out)⟩
   ·replace c7:=Bool.eq_false_iff.mpr c7
    subst c7
    have H1 : (if a0_0 = 0 then (metrolabref53_form.j1 kj1 (a0_0 != 3) true (a0_0 == 0) a0_0 a0_1 a0_2 a0_3) else (metrolabref53_form.j1 kj1 (a0_0 != 3) (a0_0 == 3) (a0_0 == 0) a0_0 a0_1 a0_2 a0_3)) = some r:=by rw [if_neg (show ¬ (false = true) by decide)] at H;exact H
    clear H
    have H:=H1
    clear H1
    have HC8:=Aside0.mk H
    clear H
    go_upto_region 3 with (fail)
    repeat (go_quiet (fail);go_upto_region 3 with (fail))
    go_cut [3,4,5] (fun v3 v4 v5 wc => ∃ (kq : Nat) (x3_7 : Bool) (x4_7 : Bool) (x5_7 : Bool),v3 = .bool x3_7 ∧ v4 = .bool x4_7 ∧ v5 = .bool x5_7 ∧ Aside0 (metrolabref53_form.j1 kq x3_7 x4_7 x5_7 a0_0 a0_1 a0_2 a0_3 = some r) ∧ Aside0 (kq ≤ kj1) ∧ Aside0 (wc.heap[gb116]? = some (.cells #[.int .i64 a0_0,.string a0_1,.string a0_2,.string a0_3] 67 (0,0))) ∧ Aside0 (Below w.heap.size w wc))
    case first =>
     have H:=HC8.out
     clear HC8
     by_cases c9 : a0_0 = 0
     ·rw [if_pos c9] at H
      have c9b0 : (a0_0 == 0) = true:=beq_iff_eq.mpr c9
      have c9b1 : (a0_0 != 0) = false:=bne_eq_false_iff_eq.mpr c9
      clear c9
      (first | rw [c9b0] | (simp only [i64_w,i32_w];rw [c9b0]) | skip)
      have H':=Aside0.mk H
      clear H
      have hcz10_0 : wc.cell? ⟨gb116,0,none⟩ = some (.int .i64 a0_0):=(blk_cell BK116.out 0).trans rfl
      have hcz10_1 : wc.cell? ⟨gb116,1,none⟩ = some (.string a0_1):=(blk_cell BK116.out 1).trans rfl
      have hcz10_2 : wc.cell? ⟨gb116,2,none⟩ = some (.string a0_2):=(blk_cell BK116.out 2).trans rfl
      have hcz10_3 : wc.cell? ⟨gb116,3,none⟩ = some (.string a0_3):=(blk_cell BK116.out 3).trans rfl
      have hfz10_0:=blk_frozen BK116.out 0
      have hfz10_1:=blk_frozen BK116.out 1
      have hfz10_2:=blk_frozen BK116.out 2
      have hfz10_3:=blk_frozen BK116.out 3
      go_wp2
      repeat (go_quiet (fail);try go_wp2)
      go_meet
      case rel => exact ⟨_,((a0_0 != 3)),(true),((a0_0 == 0)),(by first | rfl | (simp;done) | (simp [*];done)),(by first | rfl | (simp;done) | (simp [*];done)),(by first | rfl | (simp;done) | (simp [*];done)),H',⟨by have:=HJ1.out;first | omega | exact Nat.le_refl _⟩,⟨by (with_reducible repeat (first | refine blk_drewN ?_ _ | refine blk_drew ?_ | refine blk_alloc ?_ _));exact BK116.out⟩,⟨by repeat (first | (with_reducible first | exact HB.out | apply below_alloc | apply pw_below_drewN | apply below_drew1 | refine below_set ?_ GE116.out) | exact HB.out)⟩⟩
     ·rw [if_neg c9] at H
      have c9b0 : (a0_0 == 0) = false:=beq_eq_false_iff_ne.mpr c9
      have c9b1 : (a0_0 != 0) = true:=bne_iff_ne.mpr c9
      (first | rw [c9b0] | (simp only [i64_w,i32_w];rw [c9b0]) | skip)
      have H':=Aside0.mk H
      clear H
      have hcz11_0 : wc.cell? ⟨gb116,0,none⟩ = some (.int .i64 a0_0):=(blk_cell BK116.out 0).trans rfl
      have hcz11_1 : wc.cell? ⟨gb116,1,none⟩ = some (.string a0_1):=(blk_cell BK116.out 1).trans rfl
      have hcz11_2 : wc.cell? ⟨gb116,2,none⟩ = some (.string a0_2):=(blk_cell BK116.out 2).trans rfl
      have hcz11_3 : wc.cell? ⟨gb116,3,none⟩ = some (.string a0_3):=(blk_cell BK116.out 3).trans rfl
      have hfz11_0:=blk_frozen BK116.out 0
      have hfz11_1:=blk_frozen BK116.out 1
      have hfz11_2:=blk_frozen BK116.out 2
      have hfz11_3:=blk_frozen BK116.out 3
      go_wp2
      repeat (go_quiet (fail);try go_wp2)
      go_meet
      case rel => exact ⟨_,((a0_0 != 3)),((a0_0 == 3)),((a0_0 == 0)),(by first | rfl | (simp;done) | (simp [*];done)),(by first | rfl | (simp;done) | (simp [*];done)),(by first | rfl | (simp;done) | (simp [*];done)),H',⟨by have:=HJ1.out;first | omega | exact Nat.le_refl _⟩,⟨by (with_reducible repeat (first | refine blk_drewN ?_ _ | refine blk_drew ?_ | refine blk_alloc ?_ _));exact BK116.out⟩,⟨by repeat (first | (with_reducible first | exact HB.out | apply below_alloc | apply pw_below_drewN | apply below_drew1 | refine below_set ?_ GE116.out) | exact HB.out)⟩⟩
    case rest =>
     clear HC8
     try clear p2
     try clear c4
     try clear c4b0
     try clear c7
     try clear c9
     try clear c9b0
     try clear c9b1
     try clear hcz10_0
     try clear hcz10_1
     try clear hcz10_2
     try clear hcz10_3
     try clear hcz11_0
     try clear hcz11_1
     try clear hcz11_2
     try clear hcz11_3
     try clear hcz5_0
     try clear hcz5_1
     try clear hcz5_2
     try clear hcz5_3
     try clear hcz6_0
     try clear hcz6_1
     try clear hcz6_2
     try clear hcz6_3
     try clear hfz10_0
     try clear hfz10_1
     try clear hfz10_2
     try clear hfz10_3
     try clear hfz11_0
     try clear hfz11_1
     try clear hfz11_2
     try clear hfz11_3
     try clear hfz5_0
     try clear hfz5_1
     try clear hfz5_2
     try clear hfz5_3
     try clear hfz6_0
     try clear hfz6_1
     try clear hfz6_2
     try clear hfz6_3
     try clear p2
     obtain ⟨kq,x3_7,x4_7,x5_7,rfl,rfl,rfl,HA,HJ7,BK116,HB⟩:=hcut
     cases kq with
     | zero => exact absurd HA.out (by simp [metrolabref53_form.j1])
     | succ kj7 =>
      have H:=HA.out
      clear HA
      simp only [metrolabref53_form.j1] at H
      replace H:=Option.bind_eq_some_iff.mp H
      obtain ⟨t117,A120,H⟩:=H
      replace H : (if t117 = 0 then ((metrolabref53_named.f kj7 a0_2 x4_7).bind fun t118 => (if t118 = 0 then ((metrolabref53_named.f kj7 a0_3 x5_7).bind fun t119 => (if t119 = 0 then (if x3_7 = true then (if x4_7 = true then (if x5_7 = true then (some 0) else (if a0_3.toList = ([] : List UInt8) then (some 0) else (some 3))) else (if a0_2.toList = ([] : List UInt8) then (if x5_7 = true then (some 0) else (if a0_3.toList = ([] : List UInt8) then (some 0) else (some 3))) else (some 3))) else (if a0_1.toList = ([] : List UInt8) then (if x4_7 = true then (if x5_7 = true then (some 0) else (if a0_3.toList = ([] : List UInt8) then (some 0) else (some 3))) else (if a0_2.toList = ([] : List UInt8) then (if x5_7 = true then (some 0) else (if a0_3.toList = ([] : List UInt8) then (some 0) else (some 3))) else (some 3))) else (some 3))) else (some t119))) else (some t118))) else (some t117)) = some r:=H
      have A12:=Aside0.mk A120
      clear A120
      by_cases c13 : t117 = 0
      ·rw [if_pos c13] at H
       have c13b0 : (t117 == 0) = true:=beq_iff_eq.mpr c13
       have c13b1 : (t117 != 0) = false:=bne_eq_false_iff_eq.mpr c13
       clear c13
       replace H:=Option.bind_eq_some_iff.mp H
       obtain ⟨t118,A140,H⟩:=H
       replace H : (if t118 = 0 then ((metrolabref53_named.f kj7 a0_3 x5_7).bind fun t119 => (if t119 = 0 then (if x3_7 = true then (if x4_7 = true then (if x5_7 = true then (some 0) else (if a0_3.toList = ([] : List UInt8) then (some 0) else (some 3))) else (if a0_2.toList = ([] : List UInt8) then (if x5_7 = true then (some 0) else (if a0_3.toList = ([] : List UInt8) then (some 0) else (some 3))) else (some 3))) else (if a0_1.toList = ([] : List UInt8) then (if x4_7 = true then (if x5_7 = true then (some 0) else (if a0_3.toList = ([] : List UInt8) then (some 0) else (some 3))) else (if a0_2.toList = ([] : List UInt8) then (if x5_7 = true then (some 0) else (if a0_3.toList = ([] : List UInt8) then (some 0) else (some 3))) else (some 3))) else (some 3))) else (some t119))) else (some t118)) = some r:=H
       have A14:=Aside0.mk A140
       clear A140
       by_cases c15 : t118 = 0
       ·rw [if_pos c15] at H
        have c15b0 : (t118 == 0) = true:=beq_iff_eq.mpr c15
        have c15b1 : (t118 != 0) = false:=bne_eq_false_iff_eq.mpr c15
        clear c15
        replace H:=Option.bind_eq_some_iff.mp H
        obtain ⟨t119,A160,H⟩:=H
        replace H : (if t119 = 0 then (if x3_7 = true then (if x4_7 = true then (if x5_7 = true then (some 0) else (if a0_3.toList = ([] : List UInt8) then (some 0) else (some 3))) else (if a0_2.toList = ([] : List UInt8) then (if x5_7 = true then (some 0) else (if a0_3.toList = ([] : List UInt8) then (some 0) else (some 3))) else (some 3))) else (if a0_1.toList = ([] : List UInt8) then (if x4_7 = true then (if x5_7 = true then (some 0) else (if a0_3.toList = ([] : List UInt8) then (some 0) else (some 3))) else (if a0_2.toList = ([] : List UInt8) then (if x5_7 = true then (some 0) else (if a0_3.toList = ([] : List UInt8) then (some 0) else (some 3))) else (some 3))) else (some 3))) else (some t119)) = some r:=H
        have A16:=Aside0.mk A160
        clear A160
        by_cases c17 : t119 = 0
        ·rw [if_pos c17] at H
         have c17b0 : (t119 == 0) = true:=beq_iff_eq.mpr c17
         have c17b1 : (t119 != 0) = false:=bne_eq_false_iff_eq.mpr c17
         clear c17
         by_cases c18 : x3_7 = true
         ·subst c18
          have H1 : (if x4_7 = true then (if x5_7 = true then (some 0) else (if a0_3.toList = ([] : List UInt8) then (some 0) else (some 3))) else (if a0_2.toList = ([] : List UInt8) then (if x5_7 = true then (some 0) else (if a0_3.toList = ([] : List UInt8) then (some 0) else (some 3))) else (some 3))) = some r:=by rw [if_pos rfl] at H;exact H
          clear H
          have H:=H1
          clear H1
          by_cases c19 : x4_7 = true
          ·subst c19
           have H1 : (if x5_7 = true then (some 0) else (if a0_3.toList = ([] : List UInt8) then (some 0) else (some 3))) = some r:=by rw [if_pos rfl] at H;exact H
           clear H
           have H:=H1
           clear H1
           by_cases c20 : x5_7 = true
           ·subst c20
            have H1 : (some 0) = some r:=by rw [if_pos rfl] at H;exact H
            clear H
            have H:=H1
            clear H1
            obtain rfl:=Option.some.inj H
            have hcz21_0 : wc.cell? ⟨gb116,0,none⟩ = some (.int .i64 a0_0):=(blk_cell BK116.out 0).trans rfl
            have hcz21_1 : wc.cell? ⟨gb116,1,none⟩ = some (.string a0_1):=(blk_cell BK116.out 1).trans rfl
            have hcz21_2 : wc.cell? ⟨gb116,2,none⟩ = some (.string a0_2):=(blk_cell BK116.out 2).trans rfl
            have hcz21_3 : wc.cell? ⟨gb116,3,none⟩ = some (.string a0_3):=(blk_cell BK116.out 3).trans rfl
            have hfz21_0:=blk_frozen BK116.out 0
            have hfz21_1:=blk_frozen BK116.out 1
            have hfz21_2:=blk_frozen BK116.out 2
            have hfz21_3:=blk_frozen BK116.out 3
            go_wp2_with (first | (go_at_call 69;(with_reducible refine (metrolabref53_named.calls kj7 a0_1 true t117 _ A12.out).mono ?_);rintro e w' ⟨rfl,⟨nd,rfl⟩⟩;(try first | exact ⟨rfl,_,World.drewN_drewN _ _ _⟩ | exact ⟨rfl,_,Eq.trans (World.drewN_drewN _ _ _) (congrArg (World.drewN _) (Nat.add_assoc _ _ _))⟩)) | (go_at_call 69;(with_reducible refine (metrolabref53_named.calls kj7 a0_2 true t118 _ A14.out).mono ?_);rintro e w' ⟨rfl,⟨nd,rfl⟩⟩;(try first | exact ⟨rfl,_,World.drewN_drewN _ _ _⟩ | exact ⟨rfl,_,Eq.trans (World.drewN_drewN _ _ _) (congrArg (World.drewN _) (Nat.add_assoc _ _ _))⟩)) | (go_at_call 69;(with_reducible refine (metrolabref53_named.calls kj7 a0_3 true t119 _ A16.out).mono ?_);rintro e w' ⟨rfl,⟨nd,rfl⟩⟩;(try first | exact ⟨rfl,_,World.drewN_drewN _ _ _⟩ | exact ⟨rfl,_,Eq.trans (World.drewN_drewN _ _ _) (congrArg (World.drewN _) (Nat.add_assoc _ _ _))⟩)))
            repeat (go_quiet (first | (go_at_call 69;(with_reducible refine (metrolabref53_named.calls kj7 a0_1 true t117 _ A12.out).mono ?_);rintro e w' ⟨rfl,⟨nd,rfl⟩⟩;(try first | exact ⟨rfl,_,World.drewN_drewN _ _ _⟩ | exact ⟨rfl,_,Eq.trans (World.drewN_drewN _ _ _) (congrArg (World.drewN _) (Nat.add_assoc _ _ _))⟩)) | (go_at_call 69;(with_reducible refine (metrolabref53_named.calls kj7 a0_2 true t118 _ A14.out).mono ?_);rintro e w' ⟨rfl,⟨nd,rfl⟩⟩;(try first | exact ⟨rfl,_,World.drewN_drewN _ _ _⟩ | exact ⟨rfl,_,Eq.trans (World.drewN_drewN _ _ _) (congrArg (World.drewN _) (Nat.add_assoc _ _ _))⟩)) | (go_at_call 69;(with_reducible refine (metrolabref53_named.calls kj7 a0_3 true t119 _ A16.out).mono ?_);rintro e w' ⟨rfl,⟨nd,rfl⟩⟩;(try first | exact ⟨rfl,_,World.drewN_drewN _ _ _⟩ | exact ⟨rfl,_,Eq.trans (World.drewN_drewN _ _ _) (congrArg (World.drewN _) (Nat.add_assoc _ _ _))⟩)));try go_wp2_with (first | (go_at_call 69;(with_reducible refine (metrolabref53_named.calls kj7 a0_1 true t117 _ A12.out).mono ?_);rintro e w' ⟨rfl,⟨nd,rfl⟩⟩;(try first | exact ⟨rfl,_,World.drewN_drewN _ _ _⟩ | exact ⟨rfl,_,Eq.trans (World.drewN_drewN _ _ _) (congrArg (World.drewN _) (Nat.add_assoc _ _ _))⟩)) | (go_at_call 69;(with_reducible refine (metrolabref53_named.calls kj7 a0_2 true t118 _ A14.out).mono ?_);rintro e w' ⟨rfl,⟨nd,rfl⟩⟩;(try first | exact ⟨rfl,_,World.drewN_drewN _ _ _⟩ | exact ⟨rfl,_,Eq.trans (World.drewN_drewN _ _ _) (congrArg (World.drewN _) (Nat.add_assoc _ _ _))⟩)) | (go_at_call 69;(with_reducible refine (metrolabref53_named.calls kj7 a0_3 true t119 _ A16.out).mono ?_);rintro e w' ⟨rfl,⟨nd,rfl⟩⟩;(try first | exact ⟨rfl,_,World.drewN_drewN _ _ _⟩ | exact ⟨rfl,_,Eq.trans (World.drewN_drewN _ _ _) (congrArg (World.drewN _) (Nat.add_assoc _ _ _))⟩))))
            go_ret
            exact ⟨by first | rfl | (simp [errW_none,errW_some] <;> rfl) | (simp [*,errW_none,errW_some] <;> rfl),by repeat (first | (with_reducible first | exact HB.out | apply below_alloc | apply pw_below_drewN | apply below_drew1 | refine below_set ?_ GE116.out) | exact HB.out)⟩
           ·replace c20:=Bool.eq_false_iff.mpr c20
            subst c20
            have H1 : (if a0_3.toList = ([] : List UInt8) then (some 0) else (some 3)) = some r:=by rw [if_neg (show ¬ (false = true) by decide)] at H;exact H
            clear H
            have H:=H1
            clear H1
            by_cases c22 : a0_3.toList = ([] : List UInt8)
            ·rw [if_pos c22] at H
             have c22b0 : (a0_3.toList == ([] : List UInt8)) = true:=beq_iff_eq.mpr c22
             have c22b1 : (a0_3.toList != ([] : List UInt8)) = false:=bne_eq_false_iff_eq.mpr c22
             clear c22
             obtain rfl:=Option.some.inj H
             have hcz23_0 : wc.cell? ⟨gb116,0,none⟩ = some (.int .i64 a0_0):=(blk_cell BK116.out 0).trans rfl
             have hcz23_1 : wc.cell? ⟨gb116,1,none⟩ = some (.string a0_1):=(blk_cell BK116.out 1).trans rfl
             have hcz23_2 : wc.cell? ⟨gb116,2,none⟩ = some (.string a0_2):=(blk_cell BK116.out 2).trans rfl
             have hcz23_3 : wc.cell? ⟨gb116,3,none⟩ = some (.string a0_3):=(blk_cell BK116.out 3).trans rfl
             have hfz23_0:=blk_frozen BK116.out 0
             have hfz23_1:=blk_frozen BK116.out 1
             have hfz23_2:=blk_frozen BK116.out 2
             have hfz23_3:=blk_frozen BK116.out 3
             go_wp2_with (first | (go_at_call 69;(with_reducible refine (metrolabref53_named.calls kj7 a0_1 true t117 _ A12.out).mono ?_);rintro e w' ⟨rfl,⟨nd,rfl⟩⟩;(try first | exact ⟨rfl,_,World.drewN_drewN _ _ _⟩ | exact ⟨rfl,_,Eq.trans (World.drewN_drewN _ _ _) (congrArg (World.drewN _) (Nat.add_assoc _ _ _))⟩)) | (go_at_call 69;(with_reducible refine (metrolabref53_named.calls kj7 a0_2 true t118 _ A14.out).mono ?_);rintro e w' ⟨rfl,⟨nd,rfl⟩⟩;(try first | exact ⟨rfl,_,World.drewN_drewN _ _ _⟩ | exact ⟨rfl,_,Eq.trans (World.drewN_drewN _ _ _) (congrArg (World.drewN _) (Nat.add_assoc _ _ _))⟩)) | (go_at_call 69;(with_reducible refine (metrolabref53_named.calls kj7 a0_3 false t119 _ A16.out).mono ?_);rintro e w' ⟨rfl,⟨nd,rfl⟩⟩;(try first | exact ⟨rfl,_,World.drewN_drewN _ _ _⟩ | exact ⟨rfl,_,Eq.trans (World.drewN_drewN _ _ _) (congrArg (World.drewN _) (Nat.add_assoc _ _ _))⟩)))
             repeat (go_quiet (first | (go_at_call 69;(with_reducible refine (metrolabref53_named.calls kj7 a0_1 true t117 _ A12.out).mono ?_);rintro e w' ⟨rfl,⟨nd,rfl⟩⟩;(try first | exact ⟨rfl,_,World.drewN_drewN _ _ _⟩ | exact ⟨rfl,_,Eq.trans (World.drewN_drewN _ _ _) (congrArg (World.drewN _) (Nat.add_assoc _ _ _))⟩)) | (go_at_call 69;(with_reducible refine (metrolabref53_named.calls kj7 a0_2 true t118 _ A14.out).mono ?_);rintro e w' ⟨rfl,⟨nd,rfl⟩⟩;(try first | exact ⟨rfl,_,World.drewN_drewN _ _ _⟩ | exact ⟨rfl,_,Eq.trans (World.drewN_drewN _ _ _) (congrArg (World.drewN _) (Nat.add_assoc _ _ _))⟩)) | (go_at_call 69;(with_reducible refine (metrolabref53_named.calls kj7 a0_3 false t119 _ A16.out).mono ?_);rintro e w' ⟨rfl,⟨nd,rfl⟩⟩;(try first | exact ⟨rfl,_,World.drewN_drewN _ _ _⟩ | exact ⟨rfl,_,Eq.trans (World.drewN_drewN _ _ _) (congrArg (World.drewN _) (Nat.add_assoc _ _ _))⟩)));try go_wp2_with (first | (go_at_call 69;(with_reducible refine (metrolabref53_named.calls kj7 a0_1 true t117 _ A12.out).mono ?_);rintro e w' ⟨rfl,⟨nd,rfl⟩⟩;(try first | exact ⟨rfl,_,World.drewN_drewN _ _ _⟩ | exact ⟨rfl,_,Eq.trans (World.drewN_drewN _ _ _) (congrArg (World.drewN _) (Nat.add_assoc _ _ _))⟩)) | (go_at_call 69;(with_reducible refine (metrolabref53_named.calls kj7 a0_2 true t118 _ A14.out).mono ?_);rintro e w' ⟨rfl,⟨nd,rfl⟩⟩;(try first | exact ⟨rfl,_,World.drewN_drewN _ _ _⟩ | exact ⟨rfl,_,Eq.trans (World.drewN_drewN _ _ _) (congrArg (World.drewN _) (Nat.add_assoc _ _ _))⟩)) | (go_at_call 69;(with_reducible refine (metrolabref53_named.calls kj7 a0_3 false t119 _ A16.out).mono ?_);rintro e w' ⟨rfl,⟨nd,rfl⟩⟩;(try first | exact ⟨rfl,_,World.drewN_drewN _ _ _⟩ | exact ⟨rfl,_,Eq.trans (World.drewN_drewN _ _ _) (congrArg (World.drewN _) (Nat.add_assoc _ _ _))⟩))))
             go_ret
             exact ⟨by first | rfl | (simp [errW_none,errW_some] <;> rfl) | (simp [*,errW_none,errW_some] <;> rfl),by repeat (first | (with_reducible first | exact HB.out | apply below_alloc | apply pw_below_drewN | apply below_drew1 | refine below_set ?_ GE116.out) | exact HB.out)⟩
            ·rw [if_neg c22] at H
             have c22b0 : (a0_3.toList == ([] : List UInt8)) = false:=beq_eq_false_iff_ne.mpr c22
             have c22b1 : (a0_3.toList != ([] : List UInt8)) = true:=bne_iff_ne.mpr c22
             obtain rfl:=Option.some.inj H
             have hcz24_0 : wc.cell? ⟨gb116,0,none⟩ = some (.int .i64 a0_0):=(blk_cell BK116.out 0).trans rfl
             have hcz24_1 : wc.cell? ⟨gb116,1,none⟩ = some (.string a0_1):=(blk_cell BK116.out 1).trans rfl
             have hcz24_2 : wc.cell? ⟨gb116,2,none⟩ = some (.string a0_2):=(blk_cell BK116.out 2).trans rfl
             have hcz24_3 : wc.cell? ⟨gb116,3,none⟩ = some (.string a0_3):=(blk_cell BK116.out 3).trans rfl
             have hfz24_0:=blk_frozen BK116.out 0
             have hfz24_1:=blk_frozen BK116.out 1
             have hfz24_2:=blk_frozen BK116.out 2
             have hfz24_3:=blk_frozen BK116.out 3
             go_wp2_with (first | (go_at_call 69;(with_reducible refine (metrolabref53_named.calls kj7 a0_1 true t117 _ A12.out).mono ?_);rintro e w' ⟨rfl,⟨nd,rfl⟩⟩;(try first | exact ⟨rfl,_,World.drewN_drewN _ _ _⟩ | exact ⟨rfl,_,Eq.trans (World.drewN_drewN _ _ _) (congrArg (World.drewN _) (Nat.add_assoc _ _ _))⟩)) | (go_at_call 69;(with_reducible refine (metrolabref53_named.calls kj7 a0_2 true t118 _ A14.out).mono ?_);rintro e w' ⟨rfl,⟨nd,rfl⟩⟩;(try first | exact ⟨rfl,_,World.drewN_drewN _ _ _⟩ | exact ⟨rfl,_,Eq.trans (World.drewN_drewN _ _ _) (congrArg (World.drewN _) (Nat.add_assoc _ _ _))⟩)) | (go_at_call 69;(with_reducible refine (metrolabref53_named.calls kj7 a0_3 false t119 _ A16.out).mono ?_);rintro e w' ⟨rfl,⟨nd,rfl⟩⟩;(try first | exact ⟨rfl,_,World.drewN_drewN _ _ _⟩ | exact ⟨rfl,_,Eq.trans (World.drewN_drewN _ _ _) (congrArg (World.drewN _) (Nat.add_assoc _ _ _))⟩)))
             repeat (go_quiet (first | (go_at_call 69;(with_reducible refine (metrolabref53_named.calls kj7 a0_1 true t117 _ A12.out).mono ?_);rintro e w' ⟨rfl,⟨nd,rfl⟩⟩;(try first | exact ⟨rfl,_,World.drewN_drewN _ _ _⟩ | exact ⟨rfl,_,Eq.trans (World.drewN_drewN _ _ _) (congrArg (World.drewN _) (Nat.add_assoc _ _ _))⟩)) | (go_at_call 69;(with_reducible refine (metrolabref53_named.calls kj7 a0_2 true t118 _ A14.out).mono ?_);rintro e w' ⟨rfl,⟨nd,rfl⟩⟩;(try first | exact ⟨rfl,_,World.drewN_drewN _ _ _⟩ | exact ⟨rfl,_,Eq.trans (World.drewN_drewN _ _ _) (congrArg (World.drewN _) (Nat.add_assoc _ _ _))⟩)) | (go_at_call 69;(with_reducible refine (metrolabref53_named.calls kj7 a0_3 false t119 _ A16.out).mono ?_);rintro e w' ⟨rfl,⟨nd,rfl⟩⟩;(try first | exact ⟨rfl,_,World.drewN_drewN _ _ _⟩ | exact ⟨rfl,_,Eq.trans (World.drewN_drewN _ _ _) (congrArg (World.drewN _) (Nat.add_assoc _ _ _))⟩)));try go_wp2_with (first | (go_at_call 69;(with_reducible refine (metrolabref53_named.calls kj7 a0_1 true t117 _ A12.out).mono ?_);rintro e w' ⟨rfl,⟨nd,rfl⟩⟩;(try first | exact ⟨rfl,_,World.drewN_drewN _ _ _⟩ | exact ⟨rfl,_,Eq.trans (World.drewN_drewN _ _ _) (congrArg (World.drewN _) (Nat.add_assoc _ _ _))⟩)) | (go_at_call 69;(with_reducible refine (metrolabref53_named.calls kj7 a0_2 true t118 _ A14.out).mono ?_);rintro e w' ⟨rfl,⟨nd,rfl⟩⟩;(try first | exact ⟨rfl,_,World.drewN_drewN _ _ _⟩ | exact ⟨rfl,_,Eq.trans (World.drewN_drewN _ _ _) (congrArg (World.drewN _) (Nat.add_assoc _ _ _))⟩)) | (go_at_call 69;(with_reducible refine (metrolabref53_named.calls kj7 a0_3 false t119 _ A16.out).mono ?_);rintro e w' ⟨rfl,⟨nd,rfl⟩⟩;(try first | exact ⟨rfl,_,World.drewN_drewN _ _ _⟩ | exact ⟨rfl,_,Eq.trans (World.drewN_drewN _ _ _) (congrArg (World.drewN _) (Nat.add_assoc _ _ _))⟩))))
             go_ret
             exact ⟨by first | rfl | (simp [errW_none,errW_some] <;> rfl) | (simp [*,errW_none,errW_some] <;> rfl),by repeat (first | (with_reducible first | exact HB.out | apply below_alloc | apply pw_below_drewN | apply below_drew1 | refine below_set ?_ GE116.out) | exact HB.out)⟩
          ·replace c19:=Bool.eq_false_iff.mpr c19
           subst c19
           have H1 : (if a0_2.toList = ([] : List UInt8) then (if x5_7 = true then (some 0) else (if a0_3.toList = ([] : List UInt8) then (some 0) else (some 3))) else (some 3)) = some r:=by rw [if_neg (show ¬ (false = true) by decide)] at H;exact H
           clear H
           have H:=H1
           clear H1
           by_cases c25 : a0_2.toList = ([] : List UInt8)
           ·rw [if_pos c25] at H
            have c25b0 : (a0_2.toList == ([] : List UInt8)) = true:=beq_iff_eq.mpr c25
            have c25b1 : (a0_2.toList != ([] : List UInt8)) = false:=bne_eq_false_iff_eq.mpr c25
            clear c25
            by_cases c26 : x5_7 = true
            ·subst c26
             have H1 : (some 0) = some r:=by rw [if_pos rfl] at H;exact H
             clear H
             have H:=H1
             clear H1
             obtain rfl:=Option.some.inj H
             have hcz27_0 : wc.cell? ⟨gb116,0,none⟩ = some (.int .i64 a0_0):=(blk_cell BK116.out 0).trans rfl
             have hcz27_1 : wc.cell? ⟨gb116,1,none⟩ = some (.string a0_1):=(blk_cell BK116.out 1).trans rfl
             have hcz27_2 : wc.cell? ⟨gb116,2,none⟩ = some (.string a0_2):=(blk_cell BK116.out 2).trans rfl
             have hcz27_3 : wc.cell? ⟨gb116,3,none⟩ = some (.string a0_3):=(blk_cell BK116.out 3).trans rfl
             have hfz27_0:=blk_frozen BK116.out 0
             have hfz27_1:=blk_frozen BK116.out 1
             have hfz27_2:=blk_frozen BK116.out 2
             have hfz27_3:=blk_frozen BK116.out 3
             go_wp2_with (first | (go_at_call 69;(with_reducible refine (metrolabref53_named.calls kj7 a0_1 true t117 _ A12.out).mono ?_);rintro e w' ⟨rfl,⟨nd,rfl⟩⟩;(try first | exact ⟨rfl,_,World.drewN_drewN _ _ _⟩ | exact ⟨rfl,_,Eq.trans (World.drewN_drewN _ _ _) (congrArg (World.drewN _) (Nat.add_assoc _ _ _))⟩)) | (go_at_call 69;(with_reducible refine (metrolabref53_named.calls kj7 a0_2 false t118 _ A14.out).mono ?_);rintro e w' ⟨rfl,⟨nd,rfl⟩⟩;(try first | exact ⟨rfl,_,World.drewN_drewN _ _ _⟩ | exact ⟨rfl,_,Eq.trans (World.drewN_drewN _ _ _) (congrArg (World.drewN _) (Nat.add_assoc _ _ _))⟩)) | (go_at_call 69;(with_reducible refine (metrolabref53_named.calls kj7 a0_3 true t119 _ A16.out).mono ?_);rintro e w' ⟨rfl,⟨nd,rfl⟩⟩;(try first | exact ⟨rfl,_,World.drewN_drewN _ _ _⟩ | exact ⟨rfl,_,Eq.trans (World.drewN_drewN _ _ _) (congrArg (World.drewN _) (Nat.add_assoc _ _ _))⟩)))
             repeat (go_quiet (first | (go_at_call 69;(with_reducible refine (metrolabref53_named.calls kj7 a0_1 true t117 _ A12.out).mono ?_);rintro e w' ⟨rfl,⟨nd,rfl⟩⟩;(try first | exact ⟨rfl,_,World.drewN_drewN _ _ _⟩ | exact ⟨rfl,_,Eq.trans (World.drewN_drewN _ _ _) (congrArg (World.drewN _) (Nat.add_assoc _ _ _))⟩)) | (go_at_call 69;(with_reducible refine (metrolabref53_named.calls kj7 a0_2 false t118 _ A14.out).mono ?_);rintro e w' ⟨rfl,⟨nd,rfl⟩⟩;(try first | exact ⟨rfl,_,World.drewN_drewN _ _ _⟩ | exact ⟨rfl,_,Eq.trans (World.drewN_drewN _ _ _) (congrArg (World.drewN _) (Nat.add_assoc _ _ _))⟩)) | (go_at_call 69;(with_reducible refine (metrolabref53_named.calls kj7 a0_3 true t119 _ A16.out).mono ?_);rintro e w' ⟨rfl,⟨nd,rfl⟩⟩;(try first | exact ⟨rfl,_,World.drewN_drewN _ _ _⟩ | exact ⟨rfl,_,Eq.trans (World.drewN_drewN _ _ _) (congrArg (World.drewN _) (Nat.add_assoc _ _ _))⟩)));try go_wp2_with (first | (go_at_call 69;(with_reducible refine (metrolabref53_named.calls kj7 a0_1 true t117 _ A12.out).mono ?_);rintro e w' ⟨rfl,⟨nd,rfl⟩⟩;(try first | exact ⟨rfl,_,World.drewN_drewN _ _ _⟩ | exact ⟨rfl,_,Eq.trans (World.drewN_drewN _ _ _) (congrArg (World.drewN _) (Nat.add_assoc _ _ _))⟩)) | (go_at_call 69;(with_reducible refine (metrolabref53_named.calls kj7 a0_2 false t118 _ A14.out).mono ?_);rintro e w' ⟨rfl,⟨nd,rfl⟩⟩;(try first | exact ⟨rfl,_,World.drewN_drewN _ _ _⟩ | exact ⟨rfl,_,Eq.trans (World.drewN_drewN _ _ _) (congrArg (World.drewN _) (Nat.add_assoc _ _ _))⟩)) | (go_at_call 69;(with_reducible refine (metrolabref53_named.calls kj7 a0_3 true t119 _ A16.out).mono ?_);rintro e w' ⟨rfl,⟨nd,rfl⟩⟩;(try first | exact ⟨rfl,_,World.drewN_drewN _ _ _⟩ | exact ⟨rfl,_,Eq.trans (World.drewN_drewN _ _ _) (congrArg (World.drewN _) (Nat.add_assoc _ _ _))⟩))))
             go_ret
             exact ⟨by first | rfl | (simp [errW_none,errW_some] <;> rfl) | (simp [*,errW_none,errW_some] <;> rfl),by repeat (first | (with_reducible first | exact HB.out | apply below_alloc | apply pw_below_drewN | apply below_drew1 | refine below_set ?_ GE116.out) | exact HB.out)⟩
            ·replace c26:=Bool.eq_false_iff.mpr c26
             subst c26
             have H1 : (if a0_3.toList = ([] : List UInt8) then (some 0) else (some 3)) = some r:=by rw [if_neg (show ¬ (false = true) by decide)] at H;exact H
             clear H
             have H:=H1
             clear H1
             by_cases c28 : a0_3.toList = ([] : List UInt8)
             ·rw [if_pos c28] at H
              have c28b0 : (a0_3.toList == ([] : List UInt8)) = true:=beq_iff_eq.mpr c28
              have c28b1 : (a0_3.toList != ([] : List UInt8)) = false:=bne_eq_false_iff_eq.mpr c28
              clear c28
              obtain rfl:=Option.some.inj H
              have hcz29_0 : wc.cell? ⟨gb116,0,none⟩ = some (.int .i64 a0_0):=(blk_cell BK116.out 0).trans rfl
              have hcz29_1 : wc.cell? ⟨gb116,1,none⟩ = some (.string a0_1):=(blk_cell BK116.out 1).trans rfl
              have hcz29_2 : wc.cell? ⟨gb116,2,none⟩ = some (.string a0_2):=(blk_cell BK116.out 2).trans rfl
              have hcz29_3 : wc.cell? ⟨gb116,3,none⟩ = some (.string a0_3):=(blk_cell BK116.out 3).trans rfl
              have hfz29_0:=blk_frozen BK116.out 0
              have hfz29_1:=blk_frozen BK116.out 1
              have hfz29_2:=blk_frozen BK116.out 2
              have hfz29_3:=blk_frozen BK116.out 3
              go_wp2_with (first | (go_at_call 69;(with_reducible refine (metrolabref53_named.calls kj7 a0_1 true t117 _ A12.out).mono ?_);rintro e w' ⟨rfl,⟨nd,rfl⟩⟩;(try first | exact ⟨rfl,_,World.drewN_drewN _ _ _⟩ | exact ⟨rfl,_,Eq.trans (World.drewN_drewN _ _ _) (congrArg (World.drewN _) (Nat.add_assoc _ _ _))⟩)) | (go_at_call 69;(with_reducible refine (metrolabref53_named.calls kj7 a0_2 false t118 _ A14.out).mono ?_);rintro e w' ⟨rfl,⟨nd,rfl⟩⟩;(try first | exact ⟨rfl,_,World.drewN_drewN _ _ _⟩ | exact ⟨rfl,_,Eq.trans (World.drewN_drewN _ _ _) (congrArg (World.drewN _) (Nat.add_assoc _ _ _))⟩)) | (go_at_call 69;(with_reducible refine (metrolabref53_named.calls kj7 a0_3 false t119 _ A16.out).mono ?_);rintro e w' ⟨rfl,⟨nd,rfl⟩⟩;(try first | exact ⟨rfl,_,World.drewN_drewN _ _ _⟩ | exact ⟨rfl,_,Eq.trans (World.drewN_drewN _ _ _) (congrArg (World.drewN _) (Nat.add_assoc _ _ _))⟩)))
              repeat (go_quiet (first | (go_at_call 69;(with_reducible refine (metrolabref53_named.calls kj7 a0_1 true t117 _ A12.out).mono ?_);rintro e w' ⟨rfl,⟨nd,rfl⟩⟩;(try first | exact ⟨rfl,_,World.drewN_drewN _ _ _⟩ | exact ⟨rfl,_,Eq.trans (World.drewN_drewN _ _ _) (congrArg (World.drewN _) (Nat.add_assoc _ _ _))⟩)) | (go_at_call 69;(with_reducible refine (metrolabref53_named.calls kj7 a0_2 false t118 _ A14.out).mono ?_);rintro e w' ⟨rfl,⟨nd,rfl⟩⟩;(try first | exact ⟨rfl,_,World.drewN_drewN _ _ _⟩ | exact ⟨rfl,_,Eq.trans (World.drewN_drewN _ _ _) (congrArg (World.drewN _) (Nat.add_assoc _ _ _))⟩)) | (go_at_call 69;(with_reducible refine (metrolabref53_named.calls kj7 a0_3 false t119 _ A16.out).mono ?_);rintro e w' ⟨rfl,⟨nd,rfl⟩⟩;(try first | exact ⟨rfl,_,World.drewN_drewN _ _ _⟩ | exact ⟨rfl,_,Eq.trans (World.drewN_drewN _ _ _) (congrArg (World.drewN _) (Nat.add_assoc _ _ _))⟩)));try go_wp2_with (first | (go_at_call 69;(with_reducible refine (metrolabref53_named.calls kj7 a0_1 true t117 _ A12.out).mono ?_);rintro e w' ⟨rfl,⟨nd,rfl⟩⟩;(try first | exact ⟨rfl,_,World.drewN_drewN _ _ _⟩ | exact ⟨rfl,_,Eq.trans (World.drewN_drewN _ _ _) (congrArg (World.drewN _) (Nat.add_assoc _ _ _))⟩)) | (go_at_call 69;(with_reducible refine (metrolabref53_named.calls kj7 a0_2 false t118 _ A14.out).mono ?_);rintro e w' ⟨rfl,⟨nd,rfl⟩⟩;(try first | exact ⟨rfl,_,World.drewN_drewN _ _ _⟩ | exact ⟨rfl,_,Eq.trans (World.drewN_drewN _ _ _) (congrArg (World.drewN _) (Nat.add_assoc _ _ _))⟩)) | (go_at_call 69;(with_reducible refine (metrolabref53_named.calls kj7 a0_3 false t119 _ A16.out).mono ?_);rintro e w' ⟨rfl,⟨nd,rfl⟩⟩;(try first | exact ⟨rfl,_,World.drewN_drewN _ _ _⟩ | exact ⟨rfl,_,Eq.trans (World.drewN_drewN _ _ _) (congrArg (World.drewN _) (Nat.add_assoc _ _ _))⟩))))
              go_ret
              exact ⟨by first | rfl | (simp [errW_none,errW_some] <;> rfl) | (simp [*,errW_none,errW_some] <;> rfl),by repeat (first | (with_reducible first | exact HB.out | apply below_alloc | apply pw_below_drewN | apply below_drew1 | refine below_set ?_ GE116.out) | exact HB.out)⟩
             ·rw [if_neg c28] at H
              have c28b0 : (a0_3.toList == ([] : List UInt8)) = false:=beq_eq_false_iff_ne.mpr c28
              have c28b1 : (a0_3.toList != ([] : List UInt8)) = true:=bne_iff_ne.mpr c28
              obtain rfl:=Option.some.inj H
              have hcz30_0 : wc.cell? ⟨gb116,0,none⟩ = some (.int .i64 a0_0):=(blk_cell BK116.out 0).trans rfl
              have hcz30_1 : wc.cell? ⟨gb116,1,none⟩ = some (.string a0_1):=(blk_cell BK116.out 1).trans rfl
              have hcz30_2 : wc.cell? ⟨gb116,2,none⟩ = some (.string a0_2):=(blk_cell BK116.out 2).trans rfl
              have hcz30_3 : wc.cell? ⟨gb116,3,none⟩ = some (.string a0_3):=(blk_cell BK116.out 3).trans rfl
              have hfz30_0:=blk_frozen BK116.out 0
              have hfz30_1:=blk_frozen BK116.out 1
              have hfz30_2:=blk_frozen BK116.out 2
              have hfz30_3:=blk_frozen BK116.out 3
              go_wp2_with (first | (go_at_call 69;(with_reducible refine (metrolabref53_named.calls kj7 a0_1 true t117 _ A12.out).mono ?_);rintro e w' ⟨rfl,⟨nd,rfl⟩⟩;(try first | exact ⟨rfl,_,World.drewN_drewN _ _ _⟩ | exact ⟨rfl,_,Eq.trans (World.drewN_drewN _ _ _) (congrArg (World.drewN _) (Nat.add_assoc _ _ _))⟩)) | (go_at_call 69;(with_reducible refine (metrolabref53_named.calls kj7 a0_2 false t118 _ A14.out).mono ?_);rintro e w' ⟨rfl,⟨nd,rfl⟩⟩;(try first | exact ⟨rfl,_,World.drewN_drewN _ _ _⟩ | exact ⟨rfl,_,Eq.trans (World.drewN_drewN _ _ _) (congrArg (World.drewN _) (Nat.add_assoc _ _ _))⟩)) | (go_at_call 69;(with_reducible refine (metrolabref53_named.calls kj7 a0_3 false t119 _ A16.out).mono ?_);rintro e w' ⟨rfl,⟨nd,rfl⟩⟩;(try first | exact ⟨rfl,_,World.drewN_drewN _ _ _⟩ | exact ⟨rfl,_,Eq.trans (World.drewN_drewN _ _ _) (congrArg (World.drewN _) (Nat.add_assoc _ _ _))⟩)))
              repeat (go_quiet (first | (go_at_call 69;(with_reducible refine (metrolabref53_named.calls kj7 a0_1 true t117 _ A12.out).mono ?_);rintro e w' ⟨rfl,⟨nd,rfl⟩⟩;(try first | exact ⟨rfl,_,World.drewN_drewN _ _ _⟩ | exact ⟨rfl,_,Eq.trans (World.drewN_drewN _ _ _) (congrArg (World.drewN _) (Nat.add_assoc _ _ _))⟩)) | (go_at_call 69;(with_reducible refine (metrolabref53_named.calls kj7 a0_2 false t118 _ A14.out).mono ?_);rintro e w' ⟨rfl,⟨nd,rfl⟩⟩;(try first | exact ⟨rfl,_,World.drewN_drewN _ _ _⟩ | exact ⟨rfl,_,Eq.trans (World.drewN_drewN _ _ _) (congrArg (World.drewN _) (Nat.add_assoc _ _ _))⟩)) | (go_at_call 69;(with_reducible refine (metrolabref53_named.calls kj7 a0_3 false t119 _ A16.out).mono ?_);rintro e w' ⟨rfl,⟨nd,rfl⟩⟩;(try first | exact ⟨rfl,_,World.drewN_drewN _ _ _⟩ | exact ⟨rfl,_,Eq.trans (World.drewN_drewN _ _ _) (congrArg (World.drewN _) (Nat.add_assoc _ _ _))⟩)));try go_wp2_with (first | (go_at_call 69;(with_reducible refine (metrolabref53_named.calls kj7 a0_1 true t117 _ A12.out).mono ?_);rintro e w' ⟨rfl,⟨nd,rfl⟩⟩;(try first | exact ⟨rfl,_,World.drewN_drewN _ _ _⟩ | exact ⟨rfl,_,Eq.trans (World.drewN_drewN _ _ _) (congrArg (World.drewN _) (Nat.add_assoc _ _ _))⟩)) | (go_at_call 69;(with_reducible refine (metrolabref53_named.calls kj7 a0_2 false t118 _ A14.out).mono ?_);rintro e w' ⟨rfl,⟨nd,rfl⟩⟩;(try first | exact ⟨rfl,_,World.drewN_drewN _ _ _⟩ | exact ⟨rfl,_,Eq.trans (World.drewN_drewN _ _ _) (congrArg (World.drewN _) (Nat.add_assoc _ _ _))⟩)) | (go_at_call 69;(with_reducible refine (metrolabref53_named.calls kj7 a0_3 false t119 _ A16.out).mono ?_);rintro e w' ⟨rfl,⟨nd,rfl⟩⟩;(try first | exact ⟨rfl,_,World.drewN_drewN _ _ _⟩ | exact ⟨rfl,_,Eq.trans (World.drewN_drewN _ _ _) (congrArg (World.drewN _) (Nat.add_assoc _ _ _))⟩))))
              go_ret
              exact ⟨by first | rfl | (simp [errW_none,errW_some] <;> rfl) | (simp [*,errW_none,errW_some] <;> rfl),by repeat (first | (with_reducible first | exact HB.out | apply below_alloc | apply pw_below_drewN | apply below_drew1 | refine below_set ?_ GE116.out) | exact HB.out)⟩
           ·rw [if_neg c25] at H
            have c25b0 : (a0_2.toList == ([] : List UInt8)) = false:=beq_eq_false_iff_ne.mpr c25
            have c25b1 : (a0_2.toList != ([] : List UInt8)) = true:=bne_iff_ne.mpr c25
            obtain rfl:=Option.some.inj H
            have hcz31_0 : wc.cell? ⟨gb116,0,none⟩ = some (.int .i64 a0_0):=(blk_cell BK116.out 0).trans rfl
            have hcz31_1 : wc.cell? ⟨gb116,1,none⟩ = some (.string a0_1):=(blk_cell BK116.out 1).trans rfl
            have hcz31_2 : wc.cell? ⟨gb116,2,none⟩ = some (.string a0_2):=(blk_cell BK116.out 2).trans rfl
            have hcz31_3 : wc.cell? ⟨gb116,3,none⟩ = some (.string a0_3):=(blk_cell BK116.out 3).trans rfl
            have hfz31_0:=blk_frozen BK116.out 0
            have hfz31_1:=blk_frozen BK116.out 1
            have hfz31_2:=blk_frozen BK116.out 2
            have hfz31_3:=blk_frozen BK116.out 3
            go_wp2_with (first | (go_at_call 69;(with_reducible refine (metrolabref53_named.calls kj7 a0_1 true t117 _ A12.out).mono ?_);rintro e w' ⟨rfl,⟨nd,rfl⟩⟩;(try first | exact ⟨rfl,_,World.drewN_drewN _ _ _⟩ | exact ⟨rfl,_,Eq.trans (World.drewN_drewN _ _ _) (congrArg (World.drewN _) (Nat.add_assoc _ _ _))⟩)) | (go_at_call 69;(with_reducible refine (metrolabref53_named.calls kj7 a0_2 false t118 _ A14.out).mono ?_);rintro e w' ⟨rfl,⟨nd,rfl⟩⟩;(try first | exact ⟨rfl,_,World.drewN_drewN _ _ _⟩ | exact ⟨rfl,_,Eq.trans (World.drewN_drewN _ _ _) (congrArg (World.drewN _) (Nat.add_assoc _ _ _))⟩)) | (go_at_call 69;(with_reducible refine (metrolabref53_named.calls kj7 a0_3 x5_7 t119 _ A16.out).mono ?_);rintro e w' ⟨rfl,⟨nd,rfl⟩⟩;(try first | exact ⟨rfl,_,World.drewN_drewN _ _ _⟩ | exact ⟨rfl,_,Eq.trans (World.drewN_drewN _ _ _) (congrArg (World.drewN _) (Nat.add_assoc _ _ _))⟩)))
            repeat (go_quiet (first | (go_at_call 69;(with_reducible refine (metrolabref53_named.calls kj7 a0_1 true t117 _ A12.out).mono ?_);rintro e w' ⟨rfl,⟨nd,rfl⟩⟩;(try first | exact ⟨rfl,_,World.drewN_drewN _ _ _⟩ | exact ⟨rfl,_,Eq.trans (World.drewN_drewN _ _ _) (congrArg (World.drewN _) (Nat.add_assoc _ _ _))⟩)) | (go_at_call 69;(with_reducible refine (metrolabref53_named.calls kj7 a0_2 false t118 _ A14.out).mono ?_);rintro e w' ⟨rfl,⟨nd,rfl⟩⟩;(try first | exact ⟨rfl,_,World.drewN_drewN _ _ _⟩ | exact ⟨rfl,_,Eq.trans (World.drewN_drewN _ _ _) (congrArg (World.drewN _) (Nat.add_assoc _ _ _))⟩)) | (go_at_call 69;(with_reducible refine (metrolabref53_named.calls kj7 a0_3 x5_7 t119 _ A16.out).mono ?_);rintro e w' ⟨rfl,⟨nd,rfl⟩⟩;(try first | exact ⟨rfl,_,World.drewN_drewN _ _ _⟩ | exact ⟨rfl,_,Eq.trans (World.drewN_drewN _ _ _) (congrArg (World.drewN _) (Nat.add_assoc _ _ _))⟩)));try go_wp2_with (first | (go_at_call 69;(with_reducible refine (metrolabref53_named.calls kj7 a0_1 true t117 _ A12.out).mono ?_);rintro e w' ⟨rfl,⟨nd,rfl⟩⟩;(try first | exact ⟨rfl,_,World.drewN_drewN _ _ _⟩ | exact ⟨rfl,_,Eq.trans (World.drewN_drewN _ _ _) (congrArg (World.drewN _) (Nat.add_assoc _ _ _))⟩)) | (go_at_call 69;(with_reducible refine (metrolabref53_named.calls kj7 a0_2 false t118 _ A14.out).mono ?_);rintro e w' ⟨rfl,⟨nd,rfl⟩⟩;(try first | exact ⟨rfl,_,World.drewN_drewN _ _ _⟩ | exact ⟨rfl,_,Eq.trans (World.drewN_drewN _ _ _) (congrArg (World.drewN _) (Nat.add_assoc _ _ _))⟩)) | (go_at_call 69;(with_reducible refine (metrolabref53_named.calls kj7 a0_3 x5_7 t119 _ A16.out).mono ?_);rintro e w' ⟨rfl,⟨nd,rfl⟩⟩;(try first | exact ⟨rfl,_,World.drewN_drewN _ _ _⟩ | exact ⟨rfl,_,Eq.trans (World.drewN_drewN _ _ _) (congrArg (World.drewN _) (Nat.add_assoc _ _ _))⟩))))
            go_ret
            exact ⟨by first | rfl | (simp [errW_none,errW_some] <;> rfl) | (simp [*,errW_none,errW_some] <;> rfl),by repeat (first | (with_reducible first | exact HB.out | apply below_alloc | apply pw_below_drewN | apply below_drew1 | refine below_set ?_ GE116.out) | exact HB.out)⟩
         ·replace c18:=Bool.eq_false_iff.mpr c18
          subst c18
          have H1 : (if a0_1.toList = ([] : List UInt8) then (if x4_7 = true then (if x5_7 = true then (some 0) else (if a0_3.toList = ([] : List UInt8) then (some 0) else (some 3))) else (if a0_2.toList = ([] : List UInt8) then (if x5_7 = true then (some 0) else (if a0_3.toList = ([] : List UInt8) then (some 0) else (some 3))) else (some 3))) else (some 3)) = some r:=by rw [if_neg (show ¬ (false = true) by decide)] at H;exact H
          clear H
          have H:=H1
          clear H1
          by_cases c32 : a0_1.toList = ([] : List UInt8)
          ·rw [if_pos c32] at H
           have c32b0 : (a0_1.toList == ([] : List UInt8)) = true:=beq_iff_eq.mpr c32
           have c32b1 : (a0_1.toList != ([] : List UInt8)) = false:=bne_eq_false_iff_eq.mpr c32
           clear c32
           by_cases c33 : x4_7 = true
           ·subst c33
            have H1 : (if x5_7 = true then (some 0) else (if a0_3.toList = ([] : List UInt8) then (some 0) else (some 3))) = some r:=by rw [if_pos rfl] at H;exact H
            clear H
            have H:=H1
            clear H1
            by_cases c34 : x5_7 = true
            ·subst c34
             have H1 : (some 0) = some r:=by rw [if_pos rfl] at H;exact H
             clear H
             have H:=H1
             clear H1
             obtain rfl:=Option.some.inj H
             have hcz35_0 : wc.cell? ⟨gb116,0,none⟩ = some (.int .i64 a0_0):=(blk_cell BK116.out 0).trans rfl
             have hcz35_1 : wc.cell? ⟨gb116,1,none⟩ = some (.string a0_1):=(blk_cell BK116.out 1).trans rfl
             have hcz35_2 : wc.cell? ⟨gb116,2,none⟩ = some (.string a0_2):=(blk_cell BK116.out 2).trans rfl
             have hcz35_3 : wc.cell? ⟨gb116,3,none⟩ = some (.string a0_3):=(blk_cell BK116.out 3).trans rfl
             have hfz35_0:=blk_frozen BK116.out 0
             have hfz35_1:=blk_frozen BK116.out 1
             have hfz35_2:=blk_frozen BK116.out 2
             have hfz35_3:=blk_frozen BK116.out 3
             go_wp2_with (first | (go_at_call 69;(with_reducible refine (metrolabref53_named.calls kj7 a0_1 false t117 _ A12.out).mono ?_);rintro e w' ⟨rfl,⟨nd,rfl⟩⟩;(try first | exact ⟨rfl,_,World.drewN_drewN _ _ _⟩ | exact ⟨rfl,_,Eq.trans (World.drewN_drewN _ _ _) (congrArg (World.drewN _) (Nat.add_assoc _ _ _))⟩)) | (go_at_call 69;(with_reducible refine (metrolabref53_named.calls kj7 a0_2 true t118 _ A14.out).mono ?_);rintro e w' ⟨rfl,⟨nd,rfl⟩⟩;(try first | exact ⟨rfl,_,World.drewN_drewN _ _ _⟩ | exact ⟨rfl,_,Eq.trans (World.drewN_drewN _ _ _) (congrArg (World.drewN _) (Nat.add_assoc _ _ _))⟩)) | (go_at_call 69;(with_reducible refine (metrolabref53_named.calls kj7 a0_3 true t119 _ A16.out).mono ?_);rintro e w' ⟨rfl,⟨nd,rfl⟩⟩;(try first | exact ⟨rfl,_,World.drewN_drewN _ _ _⟩ | exact ⟨rfl,_,Eq.trans (World.drewN_drewN _ _ _) (congrArg (World.drewN _) (Nat.add_assoc _ _ _))⟩)))
             repeat (go_quiet (first | (go_at_call 69;(with_reducible refine (metrolabref53_named.calls kj7 a0_1 false t117 _ A12.out).mono ?_);rintro e w' ⟨rfl,⟨nd,rfl⟩⟩;(try first | exact ⟨rfl,_,World.drewN_drewN _ _ _⟩ | exact ⟨rfl,_,Eq.trans (World.drewN_drewN _ _ _) (congrArg (World.drewN _) (Nat.add_assoc _ _ _))⟩)) | (go_at_call 69;(with_reducible refine (metrolabref53_named.calls kj7 a0_2 true t118 _ A14.out).mono ?_);rintro e w' ⟨rfl,⟨nd,rfl⟩⟩;(try first | exact ⟨rfl,_,World.drewN_drewN _ _ _⟩ | exact ⟨rfl,_,Eq.trans (World.drewN_drewN _ _ _) (congrArg (World.drewN _) (Nat.add_assoc _ _ _))⟩)) | (go_at_call 69;(with_reducible refine (metrolabref53_named.calls kj7 a0_3 true t119 _ A16.out).mono ?_);rintro e w' ⟨rfl,⟨nd,rfl⟩⟩;(try first | exact ⟨rfl,_,World.drewN_drewN _ _ _⟩ | exact ⟨rfl,_,Eq.trans (World.drewN_drewN _ _ _) (congrArg (World.drewN _) (Nat.add_assoc _ _ _))⟩)));try go_wp2_with (first | (go_at_call 69;(with_reducible refine (metrolabref53_named.calls kj7 a0_1 false t117 _ A12.out).mono ?_);rintro e w' ⟨rfl,⟨nd,rfl⟩⟩;(try first | exact ⟨rfl,_,World.drewN_drewN _ _ _⟩ | exact ⟨rfl,_,Eq.trans (World.drewN_drewN _ _ _) (congrArg (World.drewN _) (Nat.add_assoc _ _ _))⟩)) | (go_at_call 69;(with_reducible refine (metrolabref53_named.calls kj7 a0_2 true t118 _ A14.out).mono ?_);rintro e w' ⟨rfl,⟨nd,rfl⟩⟩;(try first | exact ⟨rfl,_,World.drewN_drewN _ _ _⟩ | exact ⟨rfl,_,Eq.trans (World.drewN_drewN _ _ _) (congrArg (World.drewN _) (Nat.add_assoc _ _ _))⟩)) | (go_at_call 69;(with_reducible refine (metrolabref53_named.calls kj7 a0_3 true t119 _ A16.out).mono ?_);rintro e w' ⟨rfl,⟨nd,rfl⟩⟩;(try first | exact ⟨rfl,_,World.drewN_drewN _ _ _⟩ | exact ⟨rfl,_,Eq.trans (World.drewN_drewN _ _ _) (congrArg (World.drewN _) (Nat.add_assoc _ _ _))⟩))))
             go_ret
             exact ⟨by first | rfl | (simp [errW_none,errW_some] <;> rfl) | (simp [*,errW_none,errW_some] <;> rfl),by repeat (first | (with_reducible first | exact HB.out | apply below_alloc | apply pw_below_drewN | apply below_drew1 | refine below_set ?_ GE116.out) | exact HB.out)⟩
            ·replace c34:=Bool.eq_false_iff.mpr c34
             subst c34
             have H1 : (if a0_3.toList = ([] : List UInt8) then (some 0) else (some 3)) = some r:=by rw [if_neg (show ¬ (false = true) by decide)] at H;exact H
             clear H
             have H:=H1
             clear H1
             by_cases c36 : a0_3.toList = ([] : List UInt8)
             ·rw [if_pos c36] at H
              have c36b0 : (a0_3.toList == ([] : List UInt8)) = true:=beq_iff_eq.mpr c36
              have c36b1 : (a0_3.toList != ([] : List UInt8)) = false:=bne_eq_false_iff_eq.mpr c36
              clear c36
              obtain rfl:=Option.some.inj H
              have hcz37_0 : wc.cell? ⟨gb116,0,none⟩ = some (.int .i64 a0_0):=(blk_cell BK116.out 0).trans rfl
              have hcz37_1 : wc.cell? ⟨gb116,1,none⟩ = some (.string a0_1):=(blk_cell BK116.out 1).trans rfl
              have hcz37_2 : wc.cell? ⟨gb116,2,none⟩ = some (.string a0_2):=(blk_cell BK116.out 2).trans rfl
              have hcz37_3 : wc.cell? ⟨gb116,3,none⟩ = some (.string a0_3):=(blk_cell BK116.out 3).trans rfl
              have hfz37_0:=blk_frozen BK116.out 0
              have hfz37_1:=blk_frozen BK116.out 1
              have hfz37_2:=blk_frozen BK116.out 2
              have hfz37_3:=blk_frozen BK116.out 3
              go_wp2_with (first | (go_at_call 69;(with_reducible refine (metrolabref53_named.calls kj7 a0_1 false t117 _ A12.out).mono ?_);rintro e w' ⟨rfl,⟨nd,rfl⟩⟩;(try first | exact ⟨rfl,_,World.drewN_drewN _ _ _⟩ | exact ⟨rfl,_,Eq.trans (World.drewN_drewN _ _ _) (congrArg (World.drewN _) (Nat.add_assoc _ _ _))⟩)) | (go_at_call 69;(with_reducible refine (metrolabref53_named.calls kj7 a0_2 true t118 _ A14.out).mono ?_);rintro e w' ⟨rfl,⟨nd,rfl⟩⟩;(try first | exact ⟨rfl,_,World.drewN_drewN _ _ _⟩ | exact ⟨rfl,_,Eq.trans (World.drewN_drewN _ _ _) (congrArg (World.drewN _) (Nat.add_assoc _ _ _))⟩)) | (go_at_call 69;(with_reducible refine (metrolabref53_named.calls kj7 a0_3 false t119 _ A16.out).mono ?_);rintro e w' ⟨rfl,⟨nd,rfl⟩⟩;(try first | exact ⟨rfl,_,World.drewN_drewN _ _ _⟩ | exact ⟨rfl,_,Eq.trans (World.drewN_drewN _ _ _) (congrArg (World.drewN _) (Nat.add_assoc _ _ _))⟩)))
              repeat (go_quiet (first | (go_at_call 69;(with_reducible refine (metrolabref53_named.calls kj7 a0_1 false t117 _ A12.out).mono ?_);rintro e w' ⟨rfl,⟨nd,rfl⟩⟩;(try first | exact ⟨rfl,_,World.drewN_drewN _ _ _⟩ | exact ⟨rfl,_,Eq.trans (World.drewN_drewN _ _ _) (congrArg (World.drewN _) (Nat.add_assoc _ _ _))⟩)) | (go_at_call 69;(with_reducible refine (metrolabref53_named.calls kj7 a0_2 true t118 _ A14.out).mono ?_);rintro e w' ⟨rfl,⟨nd,rfl⟩⟩;(try first | exact ⟨rfl,_,World.drewN_drewN _ _ _⟩ | exact ⟨rfl,_,Eq.trans (World.drewN_drewN _ _ _) (congrArg (World.drewN _) (Nat.add_assoc _ _ _))⟩)) | (go_at_call 69;(with_reducible refine (metrolabref53_named.calls kj7 a0_3 false t119 _ A16.out).mono ?_);rintro e w' ⟨rfl,⟨nd,rfl⟩⟩;(try first | exact ⟨rfl,_,World.drewN_drewN _ _ _⟩ | exact ⟨rfl,_,Eq.trans (World.drewN_drewN _ _ _) (congrArg (World.drewN _) (Nat.add_assoc _ _ _))⟩)));try go_wp2_with (first | (go_at_call 69;(with_reducible refine (metrolabref53_named.calls kj7 a0_1 false t117 _ A12.out).mono ?_);rintro e w' ⟨rfl,⟨nd,rfl⟩⟩;(try first | exact ⟨rfl,_,World.drewN_drewN _ _ _⟩ | exact ⟨rfl,_,Eq.trans (World.drewN_drewN _ _ _) (congrArg (World.drewN _) (Nat.add_assoc _ _ _))⟩)) | (go_at_call 69;(with_reducible refine (metrolabref53_named.calls kj7 a0_2 true t118 _ A14.out).mono ?_);rintro e w' ⟨rfl,⟨nd,rfl⟩⟩;(try first | exact ⟨rfl,_,World.drewN_drewN _ _ _⟩ | exact ⟨rfl,_,Eq.trans (World.drewN_drewN _ _ _) (congrArg (World.drewN _) (Nat.add_assoc _ _ _))⟩)) | (go_at_call 69;(with_reducible refine (metrolabref53_named.calls kj7 a0_3 false t119 _ A16.out).mono ?_);rintro e w' ⟨rfl,⟨nd,rfl⟩⟩;(try first | exact ⟨rfl,_,World.drewN_drewN _ _ _⟩ | exact ⟨rfl,_,Eq.trans (World.drewN_drewN _ _ _) (congrArg (World.drewN _) (Nat.add_assoc _ _ _))⟩))))
              go_ret
              exact ⟨by first | rfl | (simp [errW_none,errW_some] <;> rfl) | (simp [*,errW_none,errW_some] <;> rfl),by repeat (first | (with_reducible first | exact HB.out | apply below_alloc | apply pw_below_drewN | apply below_drew1 | refine below_set ?_ GE116.out) | exact HB.out)⟩
             ·rw [if_neg c36] at H
              have c36b0 : (a0_3.toList == ([] : List UInt8)) = false:=beq_eq_false_iff_ne.mpr c36
              have c36b1 : (a0_3.toList != ([] : List UInt8)) = true:=bne_iff_ne.mpr c36
              obtain rfl:=Option.some.inj H
              have hcz38_0 : wc.cell? ⟨gb116,0,none⟩ = some (.int .i64 a0_0):=(blk_cell BK116.out 0).trans rfl
              have hcz38_1 : wc.cell? ⟨gb116,1,none⟩ = some (.string a0_1):=(blk_cell BK116.out 1).trans rfl
              have hcz38_2 : wc.cell? ⟨gb116,2,none⟩ = some (.string a0_2):=(blk_cell BK116.out 2).trans rfl
              have hcz38_3 : wc.cell? ⟨gb116,3,none⟩ = some (.string a0_3):=(blk_cell BK116.out 3).trans rfl
              have hfz38_0:=blk_frozen BK116.out 0
              have hfz38_1:=blk_frozen BK116.out 1
              have hfz38_2:=blk_frozen BK116.out 2
              have hfz38_3:=blk_frozen BK116.out 3
              go_wp2_with (first | (go_at_call 69;(with_reducible refine (metrolabref53_named.calls kj7 a0_1 false t117 _ A12.out).mono ?_);rintro e w' ⟨rfl,⟨nd,rfl⟩⟩;(try first | exact ⟨rfl,_,World.drewN_drewN _ _ _⟩ | exact ⟨rfl,_,Eq.trans (World.drewN_drewN _ _ _) (congrArg (World.drewN _) (Nat.add_assoc _ _ _))⟩)) | (go_at_call 69;(with_reducible refine (metrolabref53_named.calls kj7 a0_2 true t118 _ A14.out).mono ?_);rintro e w' ⟨rfl,⟨nd,rfl⟩⟩;(try first | exact ⟨rfl,_,World.drewN_drewN _ _ _⟩ | exact ⟨rfl,_,Eq.trans (World.drewN_drewN _ _ _) (congrArg (World.drewN _) (Nat.add_assoc _ _ _))⟩)) | (go_at_call 69;(with_reducible refine (metrolabref53_named.calls kj7 a0_3 false t119 _ A16.out).mono ?_);rintro e w' ⟨rfl,⟨nd,rfl⟩⟩;(try first | exact ⟨rfl,_,World.drewN_drewN _ _ _⟩ | exact ⟨rfl,_,Eq.trans (World.drewN_drewN _ _ _) (congrArg (World.drewN _) (Nat.add_assoc _ _ _))⟩)))
              repeat (go_quiet (first | (go_at_call 69;(with_reducible refine (metrolabref53_named.calls kj7 a0_1 false t117 _ A12.out).mono ?_);rintro e w' ⟨rfl,⟨nd,rfl⟩⟩;(try first | exact ⟨rfl,_,World.drewN_drewN _ _ _⟩ | exact ⟨rfl,_,Eq.trans (World.drewN_drewN _ _ _) (congrArg (World.drewN _) (Nat.add_assoc _ _ _))⟩)) | (go_at_call 69;(with_reducible refine (metrolabref53_named.calls kj7 a0_2 true t118 _ A14.out).mono ?_);rintro e w' ⟨rfl,⟨nd,rfl⟩⟩;(try first | exact ⟨rfl,_,World.drewN_drewN _ _ _⟩ | exact ⟨rfl,_,Eq.trans (World.drewN_drewN _ _ _) (congrArg (World.drewN _) (Nat.add_assoc _ _ _))⟩)) | (go_at_call 69;(with_reducible refine (metrolabref53_named.calls kj7 a0_3 false t119 _ A16.out).mono ?_);rintro e w' ⟨rfl,⟨nd,rfl⟩⟩;(try first | exact ⟨rfl,_,World.drewN_drewN _ _ _⟩ | exact ⟨rfl,_,Eq.trans (World.drewN_drewN _ _ _) (congrArg (World.drewN _) (Nat.add_assoc _ _ _))⟩)));try go_wp2_with (first | (go_at_call 69;(with_reducible refine (metrolabref53_named.calls kj7 a0_1 false t117 _ A12.out).mono ?_);rintro e w' ⟨rfl,⟨nd,rfl⟩⟩;(try first | exact ⟨rfl,_,World.drewN_drewN _ _ _⟩ | exact ⟨rfl,_,Eq.trans (World.drewN_drewN _ _ _) (congrArg (World.drewN _) (Nat.add_assoc _ _ _))⟩)) | (go_at_call 69;(with_reducible refine (metrolabref53_named.calls kj7 a0_2 true t118 _ A14.out).mono ?_);rintro e w' ⟨rfl,⟨nd,rfl⟩⟩;(try first | exact ⟨rfl,_,World.drewN_drewN _ _ _⟩ | exact ⟨rfl,_,Eq.trans (World.drewN_drewN _ _ _) (congrArg (World.drewN _) (Nat.add_assoc _ _ _))⟩)) | (go_at_call 69;(with_reducible refine (metrolabref53_named.calls kj7 a0_3 false t119 _ A16.out).mono ?_);rintro e w' ⟨rfl,⟨nd,rfl⟩⟩;(try first | exact ⟨rfl,_,World.drewN_drewN _ _ _⟩ | exact ⟨rfl,_,Eq.trans (World.drewN_drewN _ _ _) (congrArg (World.drewN _) (Nat.add_assoc _ _ _))⟩))))
              go_ret
              exact ⟨by first | rfl | (simp [errW_none,errW_some] <;> rfl) | (simp [*,errW_none,errW_some] <;> rfl),by repeat (first | (with_reducible first | exact HB.out | apply below_alloc | apply pw_below_drewN | apply below_drew1 | refine below_set ?_ GE116.out) | exact HB.out)⟩
           ·replace c33:=Bool.eq_false_iff.mpr c33
            subst c33
            have H1 : (if a0_2.toList = ([] : List UInt8) then (if x5_7 = true then (some 0) else (if a0_3.toList = ([] : List UInt8) then (some 0) else (some 3))) else (some 3)) = some r:=by rw [if_neg (show ¬ (false = true) by decide)] at H;exact H
            clear H
            have H:=H1
            clear H1
            by_cases c39 : a0_2.toList = ([] : List UInt8)
            ·rw [if_pos c39] at H
             have c39b0 : (a0_2.toList == ([] : List UInt8)) = true:=beq_iff_eq.mpr c39
             have c39b1 : (a0_2.toList != ([] : List UInt8)) = false:=bne_eq_false_iff_eq.mpr c39
             clear c39
             by_cases c40 : x5_7 = true
             ·subst c40
              have H1 : (some 0) = some r:=by rw [if_pos rfl] at H;exact H
              clear H
              have H:=H1
              clear H1
              obtain rfl:=Option.some.inj H
              have hcz41_0 : wc.cell? ⟨gb116,0,none⟩ = some (.int .i64 a0_0):=(blk_cell BK116.out 0).trans rfl
              have hcz41_1 : wc.cell? ⟨gb116,1,none⟩ = some (.string a0_1):=(blk_cell BK116.out 1).trans rfl
              have hcz41_2 : wc.cell? ⟨gb116,2,none⟩ = some (.string a0_2):=(blk_cell BK116.out 2).trans rfl
              have hcz41_3 : wc.cell? ⟨gb116,3,none⟩ = some (.string a0_3):=(blk_cell BK116.out 3).trans rfl
              have hfz41_0:=blk_frozen BK116.out 0
              have hfz41_1:=blk_frozen BK116.out 1
              have hfz41_2:=blk_frozen BK116.out 2
              have hfz41_3:=blk_frozen BK116.out 3
              go_wp2_with (first | (go_at_call 69;(with_reducible refine (metrolabref53_named.calls kj7 a0_1 false t117 _ A12.out).mono ?_);rintro e w' ⟨rfl,⟨nd,rfl⟩⟩;(try first | exact ⟨rfl,_,World.drewN_drewN _ _ _⟩ | exact ⟨rfl,_,Eq.trans (World.drewN_drewN _ _ _) (congrArg (World.drewN _) (Nat.add_assoc _ _ _))⟩)) | (go_at_call 69;(with_reducible refine (metrolabref53_named.calls kj7 a0_2 false t118 _ A14.out).mono ?_);rintro e w' ⟨rfl,⟨nd,rfl⟩⟩;(try first | exact ⟨rfl,_,World.drewN_drewN _ _ _⟩ | exact ⟨rfl,_,Eq.trans (World.drewN_drewN _ _ _) (congrArg (World.drewN _) (Nat.add_assoc _ _ _))⟩)) | (go_at_call 69;(with_reducible refine (metrolabref53_named.calls kj7 a0_3 true t119 _ A16.out).mono ?_);rintro e w' ⟨rfl,⟨nd,rfl⟩⟩;(try first | exact ⟨rfl,_,World.drewN_drewN _ _ _⟩ | exact ⟨rfl,_,Eq.trans (World.drewN_drewN _ _ _) (congrArg (World.drewN _) (Nat.add_assoc _ _ _))⟩)))
              repeat (go_quiet (first | (go_at_call 69;(with_reducible refine (metrolabref53_named.calls kj7 a0_1 false t117 _ A12.out).mono ?_);rintro e w' ⟨rfl,⟨nd,rfl⟩⟩;(try first | exact ⟨rfl,_,World.drewN_drewN _ _ _⟩ | exact ⟨rfl,_,Eq.trans (World.drewN_drewN _ _ _) (congrArg (World.drewN _) (Nat.add_assoc _ _ _))⟩)) | (go_at_call 69;(with_reducible refine (metrolabref53_named.calls kj7 a0_2 false t118 _ A14.out).mono ?_);rintro e w' ⟨rfl,⟨nd,rfl⟩⟩;(try first | exact ⟨rfl,_,World.drewN_drewN _ _ _⟩ | exact ⟨rfl,_,Eq.trans (World.drewN_drewN _ _ _) (congrArg (World.drewN _) (Nat.add_assoc _ _ _))⟩)) | (go_at_call 69;(with_reducible refine (metrolabref53_named.calls kj7 a0_3 true t119 _ A16.out).mono ?_);rintro e w' ⟨rfl,⟨nd,rfl⟩⟩;(try first | exact ⟨rfl,_,World.drewN_drewN _ _ _⟩ | exact ⟨rfl,_,Eq.trans (World.drewN_drewN _ _ _) (congrArg (World.drewN _) (Nat.add_assoc _ _ _))⟩)));try go_wp2_with (first | (go_at_call 69;(with_reducible refine (metrolabref53_named.calls kj7 a0_1 false t117 _ A12.out).mono ?_);rintro e w' ⟨rfl,⟨nd,rfl⟩⟩;(try first | exact ⟨rfl,_,World.drewN_drewN _ _ _⟩ | exact ⟨rfl,_,Eq.trans (World.drewN_drewN _ _ _) (congrArg (World.drewN _) (Nat.add_assoc _ _ _))⟩)) | (go_at_call 69;(with_reducible refine (metrolabref53_named.calls kj7 a0_2 false t118 _ A14.out).mono ?_);rintro e w' ⟨rfl,⟨nd,rfl⟩⟩;(try first | exact ⟨rfl,_,World.drewN_drewN _ _ _⟩ | exact ⟨rfl,_,Eq.trans (World.drewN_drewN _ _ _) (congrArg (World.drewN _) (Nat.add_assoc _ _ _))⟩)) | (go_at_call 69;(with_reducible refine (metrolabref53_named.calls kj7 a0_3 true t119 _ A16.out).mono ?_);rintro e w' ⟨rfl,⟨nd,rfl⟩⟩;(try first | exact ⟨rfl,_,World.drewN_drewN _ _ _⟩ | exact ⟨rfl,_,Eq.trans (World.drewN_drewN _ _ _) (congrArg (World.drewN _) (Nat.add_assoc _ _ _))⟩))))
              go_ret
              exact ⟨by first | rfl | (simp [errW_none,errW_some] <;> rfl) | (simp [*,errW_none,errW_some] <;> rfl),by repeat (first | (with_reducible first | exact HB.out | apply below_alloc | apply pw_below_drewN | apply below_drew1 | refine below_set ?_ GE116.out) | exact HB.out)⟩
             ·replace c40:=Bool.eq_false_iff.mpr c40
              subst c40
              have H1 : (if a0_3.toList = ([] : List UInt8) then (some 0) else (some 3)) = some r:=by rw [if_neg (show ¬ (false = true) by decide)] at H;exact H
              clear H
              have H:=H1
              clear H1
              by_cases c42 : a0_3.toList = ([] : List UInt8)
              ·rw [if_pos c42] at H
               have c42b0 : (a0_3.toList == ([] : List UInt8)) = true:=beq_iff_eq.mpr c42
               have c42b1 : (a0_3.toList != ([] : List UInt8)) = false:=bne_eq_false_iff_eq.mpr c42
               clear c42
               obtain rfl:=Option.some.inj H
               have hcz43_0 : wc.cell? ⟨gb116,0,none⟩ = some (.int .i64 a0_0):=(blk_cell BK116.out 0).trans rfl
               have hcz43_1 : wc.cell? ⟨gb116,1,none⟩ = some (.string a0_1):=(blk_cell BK116.out 1).trans rfl
               have hcz43_2 : wc.cell? ⟨gb116,2,none⟩ = some (.string a0_2):=(blk_cell BK116.out 2).trans rfl
               have hcz43_3 : wc.cell? ⟨gb116,3,none⟩ = some (.string a0_3):=(blk_cell BK116.out 3).trans rfl
               have hfz43_0:=blk_frozen BK116.out 0
               have hfz43_1:=blk_frozen BK116.out 1
               have hfz43_2:=blk_frozen BK116.out 2
               have hfz43_3:=blk_frozen BK116.out 3
               go_wp2_with (first | (go_at_call 69;(with_reducible refine (metrolabref53_named.calls kj7 a0_1 false t117 _ A12.out).mono ?_);rintro e w' ⟨rfl,⟨nd,rfl⟩⟩;(try first | exact ⟨rfl,_,World.drewN_drewN _ _ _⟩ | exact ⟨rfl,_,Eq.trans (World.drewN_drewN _ _ _) (congrArg (World.drewN _) (Nat.add_assoc _ _ _))⟩)) | (go_at_call 69;(with_reducible refine (metrolabref53_named.calls kj7 a0_2 false t118 _ A14.out).mono ?_);rintro e w' ⟨rfl,⟨nd,rfl⟩⟩;(try first | exact ⟨rfl,_,World.drewN_drewN _ _ _⟩ | exact ⟨rfl,_,Eq.trans (World.drewN_drewN _ _ _) (congrArg (World.drewN _) (Nat.add_assoc _ _ _))⟩)) | (go_at_call 69;(with_reducible refine (metrolabref53_named.calls kj7 a0_3 false t119 _ A16.out).mono ?_);rintro e w' ⟨rfl,⟨nd,rfl⟩⟩;(try first | exact ⟨rfl,_,World.drewN_drewN _ _ _⟩ | exact ⟨rfl,_,Eq.trans (World.drewN_drewN _ _ _) (congrArg (World.drewN _) (Nat.add_assoc _ _ _))⟩)))
               repeat (go_quiet (first | (go_at_call 69;(with_reducible refine (metrolabref53_named.calls kj7 a0_1 false t117 _ A12.out).mono ?_);rintro e w' ⟨rfl,⟨nd,rfl⟩⟩;(try first | exact ⟨rfl,_,World.drewN_drewN _ _ _⟩ | exact ⟨rfl,_,Eq.trans (World.drewN_drewN _ _ _) (congrArg (World.drewN _) (Nat.add_assoc _ _ _))⟩)) | (go_at_call 69;(with_reducible refine (metrolabref53_named.calls kj7 a0_2 false t118 _ A14.out).mono ?_);rintro e w' ⟨rfl,⟨nd,rfl⟩⟩;(try first | exact ⟨rfl,_,World.drewN_drewN _ _ _⟩ | exact ⟨rfl,_,Eq.trans (World.drewN_drewN _ _ _) (congrArg (World.drewN _) (Nat.add_assoc _ _ _))⟩)) | (go_at_call 69;(with_reducible refine (metrolabref53_named.calls kj7 a0_3 false t119 _ A16.out).mono ?_);rintro e w' ⟨rfl,⟨nd,rfl⟩⟩;(try first | exact ⟨rfl,_,World.drewN_drewN _ _ _⟩ | exact ⟨rfl,_,Eq.trans (World.drewN_drewN _ _ _) (congrArg (World.drewN _) (Nat.add_assoc _ _ _))⟩)));try go_wp2_with (first | (go_at_call 69;(with_reducible refine (metrolabref53_named.calls kj7 a0_1 false t117 _ A12.out).mono ?_);rintro e w' ⟨rfl,⟨nd,rfl⟩⟩;(try first | exact ⟨rfl,_,World.drewN_drewN _ _ _⟩ | exact ⟨rfl,_,Eq.trans (World.drewN_drewN _ _ _) (congrArg (World.drewN _) (Nat.add_assoc _ _ _))⟩)) | (go_at_call 69;(with_reducible refine (metrolabref53_named.calls kj7 a0_2 false t118 _ A14.out).mono ?_);rintro e w' ⟨rfl,⟨nd,rfl⟩⟩;(try first | exact ⟨rfl,_,World.drewN_drewN _ _ _⟩ | exact ⟨rfl,_,Eq.trans (World.drewN_drewN _ _ _) (congrArg (World.drewN _) (Nat.add_assoc _ _ _))⟩)) | (go_at_call 69;(with_reducible refine (metrolabref53_named.calls kj7 a0_3 false t119 _ A16.out).mono ?_);rintro e w' ⟨rfl,⟨nd,rfl⟩⟩;(try first | exact ⟨rfl,_,World.drewN_drewN _ _ _⟩ | exact ⟨rfl,_,Eq.trans (World.drewN_drewN _ _ _) (congrArg (World.drewN _) (Nat.add_assoc _ _ _))⟩))))
               go_ret
               exact ⟨by first | rfl | (simp [errW_none,errW_some] <;> rfl) | (simp [*,errW_none,errW_some] <;> rfl),by repeat (first | (with_reducible first | exact HB.out | apply below_alloc | apply pw_below_drewN | apply below_drew1 | refine below_set ?_ GE116.out) | exact HB.out)⟩
              ·rw [if_neg c42] at H
               have c42b0 : (a0_3.toList == ([] : List UInt8)) = false:=beq_eq_false_iff_ne.mpr c42
               have c42b1 : (a0_3.toList != ([] : List UInt8)) = true:=bne_iff_ne.mpr c42
               obtain rfl:=Option.some.inj H
               have hcz44_0 : wc.cell? ⟨gb116,0,none⟩ = some (.int .i64 a0_0):=(blk_cell BK116.out 0).trans rfl
               have hcz44_1 : wc.cell? ⟨gb116,1,none⟩ = some (.string a0_1):=(blk_cell BK116.out 1).trans rfl
               have hcz44_2 : wc.cell? ⟨gb116,2,none⟩ = some (.string a0_2):=(blk_cell BK116.out 2).trans rfl
               have hcz44_3 : wc.cell? ⟨gb116,3,none⟩ = some (.string a0_3):=(blk_cell BK116.out 3).trans rfl
               have hfz44_0:=blk_frozen BK116.out 0
               have hfz44_1:=blk_frozen BK116.out 1
               have hfz44_2:=blk_frozen BK116.out 2
               have hfz44_3:=blk_frozen BK116.out 3
               go_wp2_with (first | (go_at_call 69;(with_reducible refine (metrolabref53_named.calls kj7 a0_1 false t117 _ A12.out).mono ?_);rintro e w' ⟨rfl,⟨nd,rfl⟩⟩;(try first | exact ⟨rfl,_,World.drewN_drewN _ _ _⟩ | exact ⟨rfl,_,Eq.trans (World.drewN_drewN _ _ _) (congrArg (World.drewN _) (Nat.add_assoc _ _ _))⟩)) | (go_at_call 69;(with_reducible refine (metrolabref53_named.calls kj7 a0_2 false t118 _ A14.out).mono ?_);rintro e w' ⟨rfl,⟨nd,rfl⟩⟩;(try first | exact ⟨rfl,_,World.drewN_drewN _ _ _⟩ | exact ⟨rfl,_,Eq.trans (World.drewN_drewN _ _ _) (congrArg (World.drewN _) (Nat.add_assoc _ _ _))⟩)) | (go_at_call 69;(with_reducible refine (metrolabref53_named.calls kj7 a0_3 false t119 _ A16.out).mono ?_);rintro e w' ⟨rfl,⟨nd,rfl⟩⟩;(try first | exact ⟨rfl,_,World.drewN_drewN _ _ _⟩ | exact ⟨rfl,_,Eq.trans (World.drewN_drewN _ _ _) (congrArg (World.drewN _) (Nat.add_assoc _ _ _))⟩)))
               repeat (go_quiet (first | (go_at_call 69;(with_reducible refine (metrolabref53_named.calls kj7 a0_1 false t117 _ A12.out).mono ?_);rintro e w' ⟨rfl,⟨nd,rfl⟩⟩;(try first | exact ⟨rfl,_,World.drewN_drewN _ _ _⟩ | exact ⟨rfl,_,Eq.trans (World.drewN_drewN _ _ _) (congrArg (World.drewN _) (Nat.add_assoc _ _ _))⟩)) | (go_at_call 69;(with_reducible refine (metrolabref53_named.calls kj7 a0_2 false t118 _ A14.out).mono ?_);rintro e w' ⟨rfl,⟨nd,rfl⟩⟩;(try first | exact ⟨rfl,_,World.drewN_drewN _ _ _⟩ | exact ⟨rfl,_,Eq.trans (World.drewN_drewN _ _ _) (congrArg (World.drewN _) (Nat.add_assoc _ _ _))⟩)) | (go_at_call 69;(with_reducible refine (metrolabref53_named.calls kj7 a0_3 false t119 _ A16.out).mono ?_);rintro e w' ⟨rfl,⟨nd,rfl⟩⟩;(try first | exact ⟨rfl,_,World.drewN_drewN _ _ _⟩ | exact ⟨rfl,_,Eq.trans (World.drewN_drewN _ _ _) (congrArg (World.drewN _) (Nat.add_assoc _ _ _))⟩)));try go_wp2_with (first | (go_at_call 69;(with_reducible refine (metrolabref53_named.calls kj7 a0_1 false t117 _ A12.out).mono ?_);rintro e w' ⟨rfl,⟨nd,rfl⟩⟩;(try first | exact ⟨rfl,_,World.drewN_drewN _ _ _⟩ | exact ⟨rfl,_,Eq.trans (World.drewN_drewN _ _ _) (congrArg (World.drewN _) (Nat.add_assoc _ _ _))⟩)) | (go_at_call 69;(with_reducible refine (metrolabref53_named.calls kj7 a0_2 false t118 _ A14.out).mono ?_);rintro e w' ⟨rfl,⟨nd,rfl⟩⟩;(try first | exact ⟨rfl,_,World.drewN_drewN _ _ _⟩ | exact ⟨rfl,_,Eq.trans (World.drewN_drewN _ _ _) (congrArg (World.drewN _) (Nat.add_assoc _ _ _))⟩)) | (go_at_call 69;(with_reducible refine (metrolabref53_named.calls kj7 a0_3 false t119 _ A16.out).mono ?_);rintro e w' ⟨rfl,⟨nd,rfl⟩⟩;(try first | exact ⟨rfl,_,World.drewN_drewN _ _ _⟩ | exact ⟨rfl,_,Eq.trans (World.drewN_drewN _ _ _) (congrArg (World.drewN _) (Nat.add_assoc _ _ _))⟩))))
               go_ret
               exact ⟨by first | rfl | (simp [errW_none,errW_some] <;> rfl) | (simp [*,errW_none,errW_some] <;> rfl),by repeat (first | (with_reducible first | exact HB.out | apply below_alloc | apply pw_below_drewN | apply below_drew1 | refine below_set ?_ GE116.out) | exact HB.out)⟩
            ·rw [if_neg c39] at H
             have c39b0 : (a0_2.toList == ([] : List UInt8)) = false:=beq_eq_false_iff_ne.mpr c39
             have c39b1 : (a0_2.toList != ([] : List UInt8)) = true:=bne_iff_ne.mpr c39
             obtain rfl:=Option.some.inj H
             have hcz45_0 : wc.cell? ⟨gb116,0,none⟩ = some (.int .i64 a0_0):=(blk_cell BK116.out 0).trans rfl
             have hcz45_1 : wc.cell? ⟨gb116,1,none⟩ = some (.string a0_1):=(blk_cell BK116.out 1).trans rfl
             have hcz45_2 : wc.cell? ⟨gb116,2,none⟩ = some (.string a0_2):=(blk_cell BK116.out 2).trans rfl
             have hcz45_3 : wc.cell? ⟨gb116,3,none⟩ = some (.string a0_3):=(blk_cell BK116.out 3).trans rfl
             have hfz45_0:=blk_frozen BK116.out 0
             have hfz45_1:=blk_frozen BK116.out 1
             have hfz45_2:=blk_frozen BK116.out 2
             have hfz45_3:=blk_frozen BK116.out 3
             go_wp2_with (first | (go_at_call 69;(with_reducible refine (metrolabref53_named.calls kj7 a0_1 false t117 _ A12.out).mono ?_);rintro e w' ⟨rfl,⟨nd,rfl⟩⟩;(try first | exact ⟨rfl,_,World.drewN_drewN _ _ _⟩ | exact ⟨rfl,_,Eq.trans (World.drewN_drewN _ _ _) (congrArg (World.drewN _) (Nat.add_assoc _ _ _))⟩)) | (go_at_call 69;(with_reducible refine (metrolabref53_named.calls kj7 a0_2 false t118 _ A14.out).mono ?_);rintro e w' ⟨rfl,⟨nd,rfl⟩⟩;(try first | exact ⟨rfl,_,World.drewN_drewN _ _ _⟩ | exact ⟨rfl,_,Eq.trans (World.drewN_drewN _ _ _) (congrArg (World.drewN _) (Nat.add_assoc _ _ _))⟩)) | (go_at_call 69;(with_reducible refine (metrolabref53_named.calls kj7 a0_3 x5_7 t119 _ A16.out).mono ?_);rintro e w' ⟨rfl,⟨nd,rfl⟩⟩;(try first | exact ⟨rfl,_,World.drewN_drewN _ _ _⟩ | exact ⟨rfl,_,Eq.trans (World.drewN_drewN _ _ _) (congrArg (World.drewN _) (Nat.add_assoc _ _ _))⟩)))
             repeat (go_quiet (first | (go_at_call 69;(with_reducible refine (metrolabref53_named.calls kj7 a0_1 false t117 _ A12.out).mono ?_);rintro e w' ⟨rfl,⟨nd,rfl⟩⟩;(try first | exact ⟨rfl,_,World.drewN_drewN _ _ _⟩ | exact ⟨rfl,_,Eq.trans (World.drewN_drewN _ _ _) (congrArg (World.drewN _) (Nat.add_assoc _ _ _))⟩)) | (go_at_call 69;(with_reducible refine (metrolabref53_named.calls kj7 a0_2 false t118 _ A14.out).mono ?_);rintro e w' ⟨rfl,⟨nd,rfl⟩⟩;(try first | exact ⟨rfl,_,World.drewN_drewN _ _ _⟩ | exact ⟨rfl,_,Eq.trans (World.drewN_drewN _ _ _) (congrArg (World.drewN _) (Nat.add_assoc _ _ _))⟩)) | (go_at_call 69;(with_reducible refine (metrolabref53_named.calls kj7 a0_3 x5_7 t119 _ A16.out).mono ?_);rintro e w' ⟨rfl,⟨nd,rfl⟩⟩;(try first | exact ⟨rfl,_,World.drewN_drewN _ _ _⟩ | exact ⟨rfl,_,Eq.trans (World.drewN_drewN _ _ _) (congrArg (World.drewN _) (Nat.add_assoc _ _ _))⟩)));try go_wp2_with (first | (go_at_call 69;(with_reducible refine (metrolabref53_named.calls kj7 a0_1 false t117 _ A12.out).mono ?_);rintro e w' ⟨rfl,⟨nd,rfl⟩⟩;(try first | exact ⟨rfl,_,World.drewN_drewN _ _ _⟩ | exact ⟨rfl,_,Eq.trans (World.drewN_drewN _ _ _) (congrArg (World.drewN _) (Nat.add_assoc _ _ _))⟩)) | (go_at_call 69;(with_reducible refine (metrolabref53_named.calls kj7 a0_2 false t118 _ A14.out).mono ?_);rintro e w' ⟨rfl,⟨nd,rfl⟩⟩;(try first | exact ⟨rfl,_,World.drewN_drewN _ _ _⟩ | exact ⟨rfl,_,Eq.trans (World.drewN_drewN _ _ _) (congrArg (World.drewN _) (Nat.add_assoc _ _ _))⟩)) | (go_at_call 69;(with_reducible refine (metrolabref53_named.calls kj7 a0_3 x5_7 t119 _ A16.out).mono ?_);rintro e w' ⟨rfl,⟨nd,rfl⟩⟩;(try first | exact ⟨rfl,_,World.drewN_drewN _ _ _⟩ | exact ⟨rfl,_,Eq.trans (World.drewN_drewN _ _ _) (congrArg (World.drewN _) (Nat.add_assoc _ _ _))⟩))))
             go_ret
             exact ⟨by first | rfl | (simp [errW_none,errW_some] <;> rfl) | (simp [*,errW_none,errW_some] <;> rfl),by repeat (first | (with_reducible first | exact HB.out | apply below_alloc | apply pw_below_drewN | apply below_drew1 | refine below_set ?_ GE116.out) | exact HB.out)⟩
          ·rw [if_neg c32] at H
           have c32b0 : (a0_1.toList == ([] : List UInt8)) = false:=beq_eq_false_iff_ne.mpr c32
           have c32b1 : (a0_1.toList != ([] : List UInt8)) = true:=bne_iff_ne.mpr c32
           obtain rfl:=Option.some.inj H
           have hcz46_0 : wc.cell? ⟨gb116,0,none⟩ = some (.int .i64 a0_0):=(blk_cell BK116.out 0).trans rfl
           have hcz46_1 : wc.cell? ⟨gb116,1,none⟩ = some (.string a0_1):=(blk_cell BK116.out 1).trans rfl
           have hcz46_2 : wc.cell? ⟨gb116,2,none⟩ = some (.string a0_2):=(blk_cell BK116.out 2).trans rfl
           have hcz46_3 : wc.cell? ⟨gb116,3,none⟩ = some (.string a0_3):=(blk_cell BK116.out 3).trans rfl
           have hfz46_0:=blk_frozen BK116.out 0
           have hfz46_1:=blk_frozen BK116.out 1
           have hfz46_2:=blk_frozen BK116.out 2
           have hfz46_3:=blk_frozen BK116.out 3
           go_wp2_with (first | (go_at_call 69;(with_reducible refine (metrolabref53_named.calls kj7 a0_1 false t117 _ A12.out).mono ?_);rintro e w' ⟨rfl,⟨nd,rfl⟩⟩;(try first | exact ⟨rfl,_,World.drewN_drewN _ _ _⟩ | exact ⟨rfl,_,Eq.trans (World.drewN_drewN _ _ _) (congrArg (World.drewN _) (Nat.add_assoc _ _ _))⟩)) | (go_at_call 69;(with_reducible refine (metrolabref53_named.calls kj7 a0_2 x4_7 t118 _ A14.out).mono ?_);rintro e w' ⟨rfl,⟨nd,rfl⟩⟩;(try first | exact ⟨rfl,_,World.drewN_drewN _ _ _⟩ | exact ⟨rfl,_,Eq.trans (World.drewN_drewN _ _ _) (congrArg (World.drewN _) (Nat.add_assoc _ _ _))⟩)) | (go_at_call 69;(with_reducible refine (metrolabref53_named.calls kj7 a0_3 x5_7 t119 _ A16.out).mono ?_);rintro e w' ⟨rfl,⟨nd,rfl⟩⟩;(try first | exact ⟨rfl,_,World.drewN_drewN _ _ _⟩ | exact ⟨rfl,_,Eq.trans (World.drewN_drewN _ _ _) (congrArg (World.drewN _) (Nat.add_assoc _ _ _))⟩)))
           repeat (go_quiet (first | (go_at_call 69;(with_reducible refine (metrolabref53_named.calls kj7 a0_1 false t117 _ A12.out).mono ?_);rintro e w' ⟨rfl,⟨nd,rfl⟩⟩;(try first | exact ⟨rfl,_,World.drewN_drewN _ _ _⟩ | exact ⟨rfl,_,Eq.trans (World.drewN_drewN _ _ _) (congrArg (World.drewN _) (Nat.add_assoc _ _ _))⟩)) | (go_at_call 69;(with_reducible refine (metrolabref53_named.calls kj7 a0_2 x4_7 t118 _ A14.out).mono ?_);rintro e w' ⟨rfl,⟨nd,rfl⟩⟩;(try first | exact ⟨rfl,_,World.drewN_drewN _ _ _⟩ | exact ⟨rfl,_,Eq.trans (World.drewN_drewN _ _ _) (congrArg (World.drewN _) (Nat.add_assoc _ _ _))⟩)) | (go_at_call 69;(with_reducible refine (metrolabref53_named.calls kj7 a0_3 x5_7 t119 _ A16.out).mono ?_);rintro e w' ⟨rfl,⟨nd,rfl⟩⟩;(try first | exact ⟨rfl,_,World.drewN_drewN _ _ _⟩ | exact ⟨rfl,_,Eq.trans (World.drewN_drewN _ _ _) (congrArg (World.drewN _) (Nat.add_assoc _ _ _))⟩)));try go_wp2_with (first | (go_at_call 69;(with_reducible refine (metrolabref53_named.calls kj7 a0_1 false t117 _ A12.out).mono ?_);rintro e w' ⟨rfl,⟨nd,rfl⟩⟩;(try first | exact ⟨rfl,_,World.drewN_drewN _ _ _⟩ | exact ⟨rfl,_,Eq.trans (World.drewN_drewN _ _ _) (congrArg (World.drewN _) (Nat.add_assoc _ _ _))⟩)) | (go_at_call 69;(with_reducible refine (metrolabref53_named.calls kj7 a0_2 x4_7 t118 _ A14.out).mono ?_);rintro e w' ⟨rfl,⟨nd,rfl⟩⟩;(try first | exact ⟨rfl,_,World.drewN_drewN _ _ _⟩ | exact ⟨rfl,_,Eq.trans (World.drewN_drewN _ _ _) (congrArg (World.drewN _) (Nat.add_assoc _ _ _))⟩)) | (go_at_call 69;(with_reducible refine (metrolabref53_named.calls kj7 a0_3 x5_7 t119 _ A16.out).mono ?_);rintro e w' ⟨rfl,⟨nd,rfl⟩⟩;(try first | exact ⟨rfl,_,World.drewN_drewN _ _ _⟩ | exact ⟨rfl,_,Eq.trans (World.drewN_drewN _ _ _) (congrArg (World.drewN _) (Nat.add_assoc _ _ _))⟩))))
           go_ret
           exact ⟨by first | rfl | (simp [errW_none,errW_some] <;> rfl) | (simp [*,errW_none,errW_some] <;> rfl),by repeat (first | (with_reducible first | exact HB.out | apply below_alloc | apply pw_below_drewN | apply below_drew1 | refine below_set ?_ GE116.out) | exact HB.out)⟩
        ·rw [if_neg c17] at H
         have c17b0 : (t119 == 0) = false:=beq_eq_false_iff_ne.mpr c17
         have c17b1 : (t119 != 0) = true:=bne_iff_ne.mpr c17
         obtain rfl:=Option.some.inj H
         have hcz47_0 : wc.cell? ⟨gb116,0,none⟩ = some (.int .i64 a0_0):=(blk_cell BK116.out 0).trans rfl
         have hcz47_1 : wc.cell? ⟨gb116,1,none⟩ = some (.string a0_1):=(blk_cell BK116.out 1).trans rfl
         have hcz47_2 : wc.cell? ⟨gb116,2,none⟩ = some (.string a0_2):=(blk_cell BK116.out 2).trans rfl
         have hcz47_3 : wc.cell? ⟨gb116,3,none⟩ = some (.string a0_3):=(blk_cell BK116.out 3).trans rfl
         have hfz47_0:=blk_frozen BK116.out 0
         have hfz47_1:=blk_frozen BK116.out 1
         have hfz47_2:=blk_frozen BK116.out 2
         have hfz47_3:=blk_frozen BK116.out 3
         go_wp2_with (first | (go_at_call 69;(with_reducible refine (metrolabref53_named.calls kj7 a0_1 x3_7 t117 _ A12.out).mono ?_);rintro e w' ⟨rfl,⟨nd,rfl⟩⟩;(try first | exact ⟨rfl,_,World.drewN_drewN _ _ _⟩ | exact ⟨rfl,_,Eq.trans (World.drewN_drewN _ _ _) (congrArg (World.drewN _) (Nat.add_assoc _ _ _))⟩)) | (go_at_call 69;(with_reducible refine (metrolabref53_named.calls kj7 a0_2 x4_7 t118 _ A14.out).mono ?_);rintro e w' ⟨rfl,⟨nd,rfl⟩⟩;(try first | exact ⟨rfl,_,World.drewN_drewN _ _ _⟩ | exact ⟨rfl,_,Eq.trans (World.drewN_drewN _ _ _) (congrArg (World.drewN _) (Nat.add_assoc _ _ _))⟩)) | (go_at_call 69;(with_reducible refine (metrolabref53_named.calls kj7 a0_3 x5_7 t119 _ A16.out).mono ?_);rintro e w' ⟨rfl,⟨nd,rfl⟩⟩;(try first | exact ⟨rfl,_,World.drewN_drewN _ _ _⟩ | exact ⟨rfl,_,Eq.trans (World.drewN_drewN _ _ _) (congrArg (World.drewN _) (Nat.add_assoc _ _ _))⟩)))
         repeat (go_quiet (first | (go_at_call 69;(with_reducible refine (metrolabref53_named.calls kj7 a0_1 x3_7 t117 _ A12.out).mono ?_);rintro e w' ⟨rfl,⟨nd,rfl⟩⟩;(try first | exact ⟨rfl,_,World.drewN_drewN _ _ _⟩ | exact ⟨rfl,_,Eq.trans (World.drewN_drewN _ _ _) (congrArg (World.drewN _) (Nat.add_assoc _ _ _))⟩)) | (go_at_call 69;(with_reducible refine (metrolabref53_named.calls kj7 a0_2 x4_7 t118 _ A14.out).mono ?_);rintro e w' ⟨rfl,⟨nd,rfl⟩⟩;(try first | exact ⟨rfl,_,World.drewN_drewN _ _ _⟩ | exact ⟨rfl,_,Eq.trans (World.drewN_drewN _ _ _) (congrArg (World.drewN _) (Nat.add_assoc _ _ _))⟩)) | (go_at_call 69;(with_reducible refine (metrolabref53_named.calls kj7 a0_3 x5_7 t119 _ A16.out).mono ?_);rintro e w' ⟨rfl,⟨nd,rfl⟩⟩;(try first | exact ⟨rfl,_,World.drewN_drewN _ _ _⟩ | exact ⟨rfl,_,Eq.trans (World.drewN_drewN _ _ _) (congrArg (World.drewN _) (Nat.add_assoc _ _ _))⟩)));try go_wp2_with (first | (go_at_call 69;(with_reducible refine (metrolabref53_named.calls kj7 a0_1 x3_7 t117 _ A12.out).mono ?_);rintro e w' ⟨rfl,⟨nd,rfl⟩⟩;(try first | exact ⟨rfl,_,World.drewN_drewN _ _ _⟩ | exact ⟨rfl,_,Eq.trans (World.drewN_drewN _ _ _) (congrArg (World.drewN _) (Nat.add_assoc _ _ _))⟩)) | (go_at_call 69;(with_reducible refine (metrolabref53_named.calls kj7 a0_2 x4_7 t118 _ A14.out).mono ?_);rintro e w' ⟨rfl,⟨nd,rfl⟩⟩;(try first | exact ⟨rfl,_,World.drewN_drewN _ _ _⟩ | exact ⟨rfl,_,Eq.trans (World.drewN_drewN _ _ _) (congrArg (World.drewN _) (Nat.add_assoc _ _ _))⟩)) | (go_at_call 69;(with_reducible refine (metrolabref53_named.calls kj7 a0_3 x5_7 t119 _ A16.out).mono ?_);rintro e w' ⟨rfl,⟨nd,rfl⟩⟩;(try first | exact ⟨rfl,_,World.drewN_drewN _ _ _⟩ | exact ⟨rfl,_,Eq.trans (World.drewN_drewN _ _ _) (congrArg (World.drewN _) (Nat.add_assoc _ _ _))⟩))))
         go_ret
         exact ⟨by first | rfl | (simp [errW_none,errW_some] <;> rfl) | (simp [*,errW_none,errW_some] <;> rfl),by repeat (first | (with_reducible first | exact HB.out | apply below_alloc | apply pw_below_drewN | apply below_drew1 | refine below_set ?_ GE116.out) | exact HB.out)⟩
       ·rw [if_neg c15] at H
        have c15b0 : (t118 == 0) = false:=beq_eq_false_iff_ne.mpr c15
        have c15b1 : (t118 != 0) = true:=bne_iff_ne.mpr c15
        obtain rfl:=Option.some.inj H
        have hcz48_0 : wc.cell? ⟨gb116,0,none⟩ = some (.int .i64 a0_0):=(blk_cell BK116.out 0).trans rfl
        have hcz48_1 : wc.cell? ⟨gb116,1,none⟩ = some (.string a0_1):=(blk_cell BK116.out 1).trans rfl
        have hcz48_2 : wc.cell? ⟨gb116,2,none⟩ = some (.string a0_2):=(blk_cell BK116.out 2).trans rfl
        have hcz48_3 : wc.cell? ⟨gb116,3,none⟩ = some (.string a0_3):=(blk_cell BK116.out 3).trans rfl
        have hfz48_0:=blk_frozen BK116.out 0
        have hfz48_1:=blk_frozen BK116.out 1
        have hfz48_2:=blk_frozen BK116.out 2
        have hfz48_3:=blk_frozen BK116.out 3
        go_wp2_with (first | (go_at_call 69;(with_reducible refine (metrolabref53_named.calls kj7 a0_1 x3_7 t117 _ A12.out).mono ?_);rintro e w' ⟨rfl,⟨nd,rfl⟩⟩;(try first | exact ⟨rfl,_,World.drewN_drewN _ _ _⟩ | exact ⟨rfl,_,Eq.trans (World.drewN_drewN _ _ _) (congrArg (World.drewN _) (Nat.add_assoc _ _ _))⟩)) | (go_at_call 69;(with_reducible refine (metrolabref53_named.calls kj7 a0_2 x4_7 t118 _ A14.out).mono ?_);rintro e w' ⟨rfl,⟨nd,rfl⟩⟩;(try first | exact ⟨rfl,_,World.drewN_drewN _ _ _⟩ | exact ⟨rfl,_,Eq.trans (World.drewN_drewN _ _ _) (congrArg (World.drewN _) (Nat.add_assoc _ _ _))⟩)))
        repeat (go_quiet (first | (go_at_call 69;(with_reducible refine (metrolabref53_named.calls kj7 a0_1 x3_7 t117 _ A12.out).mono ?_);rintro e w' ⟨rfl,⟨nd,rfl⟩⟩;(try first | exact ⟨rfl,_,World.drewN_drewN _ _ _⟩ | exact ⟨rfl,_,Eq.trans (World.drewN_drewN _ _ _) (congrArg (World.drewN _) (Nat.add_assoc _ _ _))⟩)) | (go_at_call 69;(with_reducible refine (metrolabref53_named.calls kj7 a0_2 x4_7 t118 _ A14.out).mono ?_);rintro e w' ⟨rfl,⟨nd,rfl⟩⟩;(try first | exact ⟨rfl,_,World.drewN_drewN _ _ _⟩ | exact ⟨rfl,_,Eq.trans (World.drewN_drewN _ _ _) (congrArg (World.drewN _) (Nat.add_assoc _ _ _))⟩)));try go_wp2_with (first | (go_at_call 69;(with_reducible refine (metrolabref53_named.calls kj7 a0_1 x3_7 t117 _ A12.out).mono ?_);rintro e w' ⟨rfl,⟨nd,rfl⟩⟩;(try first | exact ⟨rfl,_,World.drewN_drewN _ _ _⟩ | exact ⟨rfl,_,Eq.trans (World.drewN_drewN _ _ _) (congrArg (World.drewN _) (Nat.add_assoc _ _ _))⟩)) | (go_at_call 69;(with_reducible refine (metrolabref53_named.calls kj7 a0_2 x4_7 t118 _ A14.out).mono ?_);rintro e w' ⟨rfl,⟨nd,rfl⟩⟩;(try first | exact ⟨rfl,_,World.drewN_drewN _ _ _⟩ | exact ⟨rfl,_,Eq.trans (World.drewN_drewN _ _ _) (congrArg (World.drewN _) (Nat.add_assoc _ _ _))⟩))))
        go_ret
        exact ⟨by first | rfl | (simp [errW_none,errW_some] <;> rfl) | (simp [*,errW_none,errW_some] <;> rfl),by repeat (first | (with_reducible first | exact HB.out | apply below_alloc | apply pw_below_drewN | apply below_drew1 | refine below_set ?_ GE116.out) | exact HB.out)⟩
      ·rw [if_neg c13] at H
       have c13b0 : (t117 == 0) = false:=beq_eq_false_iff_ne.mpr c13
       have c13b1 : (t117 != 0) = true:=bne_iff_ne.mpr c13
       obtain rfl:=Option.some.inj H
       have hcz49_0 : wc.cell? ⟨gb116,0,none⟩ = some (.int .i64 a0_0):=(blk_cell BK116.out 0).trans rfl
       have hcz49_1 : wc.cell? ⟨gb116,1,none⟩ = some (.string a0_1):=(blk_cell BK116.out 1).trans rfl
       have hcz49_2 : wc.cell? ⟨gb116,2,none⟩ = some (.string a0_2):=(blk_cell BK116.out 2).trans rfl
       have hcz49_3 : wc.cell? ⟨gb116,3,none⟩ = some (.string a0_3):=(blk_cell BK116.out 3).trans rfl
       have hfz49_0:=blk_frozen BK116.out 0
       have hfz49_1:=blk_frozen BK116.out 1
       have hfz49_2:=blk_frozen BK116.out 2
       have hfz49_3:=blk_frozen BK116.out 3
       go_wp2_with (first | (go_at_call 69;(with_reducible refine (metrolabref53_named.calls kj7 a0_1 x3_7 t117 _ A12.out).mono ?_);rintro e w' ⟨rfl,⟨nd,rfl⟩⟩;(try first | exact ⟨rfl,_,World.drewN_drewN _ _ _⟩ | exact ⟨rfl,_,Eq.trans (World.drewN_drewN _ _ _) (congrArg (World.drewN _) (Nat.add_assoc _ _ _))⟩)))
       repeat (go_quiet (first | (go_at_call 69;(with_reducible refine (metrolabref53_named.calls kj7 a0_1 x3_7 t117 _ A12.out).mono ?_);rintro e w' ⟨rfl,⟨nd,rfl⟩⟩;(try first | exact ⟨rfl,_,World.drewN_drewN _ _ _⟩ | exact ⟨rfl,_,Eq.trans (World.drewN_drewN _ _ _) (congrArg (World.drewN _) (Nat.add_assoc _ _ _))⟩)));try go_wp2_with (first | (go_at_call 69;(with_reducible refine (metrolabref53_named.calls kj7 a0_1 x3_7 t117 _ A12.out).mono ?_);rintro e w' ⟨rfl,⟨nd,rfl⟩⟩;(try first | exact ⟨rfl,_,World.drewN_drewN _ _ _⟩ | exact ⟨rfl,_,Eq.trans (World.drewN_drewN _ _ _) (congrArg (World.drewN _) (Nat.add_assoc _ _ _))⟩))))
       go_ret
       exact ⟨by first | rfl | (simp [errW_none,errW_some] <;> rfl) | (simp [*,errW_none,errW_some] <;> rfl),by repeat (first | (with_reducible first | exact HB.out | apply below_alloc | apply pw_below_drewN | apply below_drew1 | refine below_set ?_ GE116.out) | exact HB.out)⟩
end Go.Proofs.Ytnmmdeonkpfccaa.Pr
