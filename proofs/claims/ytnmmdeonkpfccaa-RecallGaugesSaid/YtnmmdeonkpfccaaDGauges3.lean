/- A part of the statement's proof. -/
import Derived.Test.YtnmmdeonkpfccaaDGauges2
namespace Go.Proofs.Ytnmmdeonkpfccaa.Pr
open Go.RowKit Go.Proofs.YtnmmdeonkpfccaaW.PrintWords Go.Proofs.YtnmmdeonkpfccaaW.PrintLast Go.Proofs.YtnmmdeonkpfccaaW.PrintMore
attribute [local go_sem] max2_int min2_int max_two min_two max_three min_three max_four min_four
set_option linter.unusedVariables false
set_option linter.unusedSimpArgs false
mutual
def recall_names.j0 : Nat → Bool → Int → ByteArray → ByteArray → ByteArray → Option (Int)
 | 0,_,_,_,_,_ => none
 | k + 1,x14,x436000,x436001,x436002,x436003 => if x14 = true then (some 1) else (if x436000 = 0 then ((some (([(⟨x436001,(x436000 != 3)⟩ : S101),(⟨x436002,true⟩ : S101),(⟨x436003,(x436000 == 0)⟩ : S101)] : List (S101)) : List (S101))).bind fun y436 => (recall_names.j1 k 0 y436 (y436.length : Int) 0)) else ((some (([(⟨x436001,(x436000 != 3)⟩ : S101),(⟨x436002,(x436000 == 3)⟩ : S101),(⟨x436003,(x436000 == 0)⟩ : S101)] : List (S101)) : List (S101))).bind fun y439 => (recall_names.j1 k 0 y439 (y439.length : Int) 0)))
def recall_names.j1 : Nat → Int → List (S101) → Int → Int → Option (Int)
 | 0,_,_,_,_ => none
 | k + 1,x3,x38,x39,x40 => recall_names.l0 k x3 x38 x39 x40
def recall_names.l0 : Nat → Int → List (S101) → Int → Int → Option (Int)
 | 0,_,_,_,_ => none
 | k + 1,x3,x38,x39,x40 => if x40 < x39 then (if 0 ≤ x40 then (if x40 < (x38.length : Int) then (if (rd_T101 x38 x40).f1 = true then ((dimension_Name.f ((rd_T101 x38 x40).f0)).bind fun t444 => (if t444 = 0 then (recall_names.l0 k x3 x38 x39 (wrap64 (x40 + 1))) else (some t444))) else (if ((rd_T101 x38 x40).f0).toList = ([] : List UInt8) then (recall_names.l0 k x3 x38 x39 (wrap64 (x40 + 1))) else (recall_names.l0 k 3 x38 x39 (wrap64 (x40 + 1))))) else (none)) else (none)) else (some x3)
end
def recall_names.f (k : Nat) (a0_0 : Int) (a0_1 : ByteArray) (a0_2 : ByteArray) (a0_3 : ByteArray) : Option (Int):=if a0_0 < 0 then (recall_names.j0 k true a0_0 a0_1 a0_2 a0_3) else (recall_names.j0 k (decide (a0_0 > 3)) a0_0 a0_1 a0_2 a0_3)
set_option maxHeartbeats 8000000 in
set_option maxRecDepth 100000 in
theorem recall_names.calls (k : Nat) (a0_0 : Int) (a0_1 : ByteArray) (a0_2 : ByteArray) (a0_3 : ByteArray) (r : Int) (w : World) (h : recall_names.f k a0_0 a0_1 a0_2 a0_3 = some r) :
  Calls Try.prog 43 #[.agg #[.int .i64 a0_0,.string a0_1,.string a0_2,.string a0_3]] w fun e w' => e = .returned (.int .i64 r) ∧ Below w.heap.size w w':=by
 have hu51:=Try.underlying51
 have hu101:=Try.underlying101
 have HB:=Aside0.mk (Below.refl w.heap.size w)
 have H : (if a0_0 < 0 then (recall_names.j0 k true a0_0 a0_1 a0_2 a0_3) else (recall_names.j0 k (decide (a0_0 > 3)) a0_0 a0_1 a0_2 a0_3)) = some r:=h
 clear h
 have HC2:=Aside0.mk H
 clear H
 go_enter Try.func43,Try.ntmps43
 go_upto_region 1 with (first | ((with_reducible refine gate_dst (N:=1) rfl ?_);refine box_event ?hg (N:=1) ?hd (cs:=#[.int .i64 a0_0,.string a0_1,.string a0_2,.string a0_3]) (t:=51) ?hr ?_;(case hd => rfl);(case hg => rfl);(case hr => first | (go_simp;done) | (go_simp;rfl));intro gb435 hg w3 hbox hb;have n0_:=Aside0.mk (below_step (by repeat (first | (with_reducible first | exact HB.out | apply below_alloc | apply pw_below_drewN | apply below_drew1) | exact HB.out)) hb);have n1_:=Aside0.mk (hbox);have n2_:=Aside0.mk ((by rw [hg];exact (below_size (by repeat (first | (with_reducible first | exact HB.out | apply below_alloc | apply pw_below_drewN | apply below_drew1) | exact HB.out))) : w.heap.size ≤ gb435));have n3_:=Aside0.mk ((by rw [hg];exact (below_size (by repeat (first | (with_reducible first | exact HB.out | apply below_alloc | apply pw_below_drewN | apply below_drew1) | exact HB.out))) : w.heap.size ≤ gb435));clear HB;have HB:=n0_;have BK435:=n1_;have GW435:=n2_;have GE435:=n3_;clear n0_ n1_ n2_ n3_;clear hb hbox hg))
 (try simp only [Act.put,List.setIfInBounds_toArray,List.set_cons_zero,List.set_cons_succ])
 go_cut [14] (fun v14 wc => ∃ (kq : Nat) (x14_1 : Bool),v14 = .bool x14_1 ∧ Aside0 (recall_names.j0 kq x14_1 a0_0 a0_1 a0_2 a0_3 = some r) ∧ Aside0 (kq ≤ k) ∧ Aside0 (wc.heap[gb435]? = some (.cells #[.int .i64 a0_0,.string a0_1,.string a0_2,.string a0_3] 51 (0,0))) ∧ Aside0 (Below w.heap.size w wc))
 case first =>
  have H:=HC2.out
  clear HC2
  by_cases c4 : a0_0 < 0
  ·rw [if_pos c4] at H
   have c4b0 : decide (a0_0 < 0) = true:=decide_eq_true c4
   clear c4
   (first | rw [c4b0] | (simp only [i64_w,i32_w];rw [c4b0]) | skip)
   have H':=Aside0.mk H
   clear H
   have hcz5_0 : w3.cell? ⟨gb435,0,none⟩ = some (.int .i64 a0_0):=(blk_cell BK435.out 0).trans rfl
   have hcz5_1 : w3.cell? ⟨gb435,1,none⟩ = some (.string a0_1):=(blk_cell BK435.out 1).trans rfl
   have hcz5_2 : w3.cell? ⟨gb435,2,none⟩ = some (.string a0_2):=(blk_cell BK435.out 2).trans rfl
   have hcz5_3 : w3.cell? ⟨gb435,3,none⟩ = some (.string a0_3):=(blk_cell BK435.out 3).trans rfl
   have hfz5_0:=blk_frozen BK435.out 0
   have hfz5_1:=blk_frozen BK435.out 1
   have hfz5_2:=blk_frozen BK435.out 2
   have hfz5_3:=blk_frozen BK435.out 3
   go_wp2
   go_meet
   case rel => exact ⟨_,(true),(by first | rfl | (simp;done) | (simp [*];done)),H',⟨by first | omega | exact Nat.le_refl _⟩,⟨by (with_reducible repeat (first | refine blk_drewN ?_ _ | refine blk_drew ?_ | refine blk_alloc ?_ _));exact BK435.out⟩,⟨by repeat (first | (with_reducible first | exact HB.out | apply below_alloc | apply pw_below_drewN | apply below_drew1 | refine below_set ?_ GE435.out) | exact HB.out)⟩⟩
  ·rw [if_neg c4] at H
   have c4b0 : decide (a0_0 < 0) = false:=decide_eq_false c4
   clear c4
   (first | rw [c4b0] | (simp only [i64_w,i32_w];rw [c4b0]) | skip)
   have H':=Aside0.mk H
   clear H
   have hcz6_0 : w3.cell? ⟨gb435,0,none⟩ = some (.int .i64 a0_0):=(blk_cell BK435.out 0).trans rfl
   have hcz6_1 : w3.cell? ⟨gb435,1,none⟩ = some (.string a0_1):=(blk_cell BK435.out 1).trans rfl
   have hcz6_2 : w3.cell? ⟨gb435,2,none⟩ = some (.string a0_2):=(blk_cell BK435.out 2).trans rfl
   have hcz6_3 : w3.cell? ⟨gb435,3,none⟩ = some (.string a0_3):=(blk_cell BK435.out 3).trans rfl
   have hfz6_0:=blk_frozen BK435.out 0
   have hfz6_1:=blk_frozen BK435.out 1
   have hfz6_2:=blk_frozen BK435.out 2
   have hfz6_3:=blk_frozen BK435.out 3
   go_wp2
   go_meet
   case rel => exact ⟨_,(decide (a0_0 > 3)),(by first | rfl | (simp;done) | (simp [*];done)),H',⟨by first | omega | exact Nat.le_refl _⟩,⟨by (with_reducible repeat (first | refine blk_drewN ?_ _ | refine blk_drew ?_ | refine blk_alloc ?_ _));exact BK435.out⟩,⟨by repeat (first | (with_reducible first | exact HB.out | apply below_alloc | apply pw_below_drewN | apply below_drew1 | refine below_set ?_ GE435.out) | exact HB.out)⟩⟩
 case rest =>
  clear HC2
  try clear p2
  try clear c4
  try clear c4b0
  try clear hcz5_0
  try clear hcz5_1
  try clear hcz5_2
  try clear hcz5_3
  try clear hcz6_0
  try clear hcz6_1
  try clear hcz6_2
  try clear hcz6_3
  try clear hfz5_0
  try clear hfz5_1
  try clear hfz5_2
  try clear hfz5_3
  try clear hfz6_0
  try clear hfz6_1
  try clear hfz6_2
  try clear hfz6_3
  obtain ⟨kq,x14_1,rfl,HA,HJ1,BK435,HB⟩:=hcut
  cases kq with
  | zero => exact absurd HA.out (by simp [recall_names.j0])
  | succ kj1 =>
   have H:=HA.out
   clear HA
   simp only [recall_names.j0] at H
   by_cases c7 : x14_1 = true
   ·subst c7
    have H1 : (some 1) = some r:=by rw [if_pos rfl] at H;exact H
    clear H
    have H:=H1
    clear H1
    obtain rfl:=Option.some.inj H
    go_wp2
    go_ret
    exact ⟨by first | rfl | (simp [errW_none,errW_some] <;> rfl) | (simp [*,errW_none,errW_some] <;> rfl),by repeat (first | (with_reducible first | exact HB.out | apply below_alloc | apply pw_below_drewN | apply below_drew1 | refine below_set ?_ GE435.out) | exact HB.out)⟩
   ·replace c7:=Bool.eq_false_iff.mpr c7
    subst c7
    have H1 : (if a0_0 = 0 then ((some (([(⟨a0_1,(a0_0 != 3)⟩ : S101),(⟨a0_2,true⟩ : S101),(⟨a0_3,(a0_0 == 0)⟩ : S101)] : List (S101)) : List (S101))).bind fun y436 => (recall_names.j1 kj1 0 y436 (y436.length : Int) 0)) else ((some (([(⟨a0_1,(a0_0 != 3)⟩ : S101),(⟨a0_2,(a0_0 == 3)⟩ : S101),(⟨a0_3,(a0_0 == 0)⟩ : S101)] : List (S101)) : List (S101))).bind fun y439 => (recall_names.j1 kj1 0 y439 (y439.length : Int) 0))) = some r:=by rw [if_neg (show ¬ (false = true) by decide)] at H;exact H
    clear H
    have H:=H1
    clear H1
    have HC8:=Aside0.mk H
    clear H
    go_upto_region 4 with (fail)
    go_cut [38,39,40] (fun v38 v39 v40 wc => ∃ (kq : Nat) (x38_7 : List (S101)) (x39_7 : Int) (x40_7 : Int),v39 = .int .i64 x39_7 ∧ v40 = .int .i64 x40_7 ∧ Aside0 (recall_names.j1 kq 0 x38_7 x39_7 x40_7 = some r) ∧ Aside0 (kq ≤ kj1) ∧ Aside0 (Kd.R k101 101 wc w.heap.size (fun _ => True) v38 x38_7) ∧ Aside0 (wc.heap[gb435]? = some (.cells #[.int .i64 a0_0,.string a0_1,.string a0_2,.string a0_3] 51 (0,0))) ∧ Aside0 (Below w.heap.size w wc))
    case first =>
     have H:=HC8.out
     clear HC8
     by_cases c9 : a0_0 = 0
     ·rw [if_pos c9] at H
      have c9b0 : (a0_0 == 0) = true:=beq_iff_eq.mpr c9
      have c9b1 : (a0_0 != 0) = false:=bne_eq_false_iff_eq.mpr c9
      clear c9
      (first | rw [c9b0] | (simp only [i64_w,i32_w];rw [c9b0]) | skip)
      obtain ⟨y436,hy436⟩ : ∃ y_ : List (S101),y_ = (([(⟨a0_1,(a0_0 != 3)⟩ : S101),(⟨a0_2,true⟩ : S101),(⟨a0_3,(a0_0 == 0)⟩ : S101)] : List (S101))):=⟨_,rfl⟩
      replace H : (recall_names.j1 kj1 0 y436 (y436.length : Int) 0) = some r:=by first | (rw [hy436];with_reducible exact H) | (have H2_:=(Option.bind_some _ _).symm.trans H;rw [hy436];with_reducible exact H2_) | (have H2_:=(Option.bind_some _ _).symm.trans H;with_reducible exact H2_) | with_reducible exact H | (rw [hy436];exact H) | exact H
      have Ny436:=Aside0.mk hy436
      clear hy436
      have H':=Aside0.mk H
      clear H
      have hcz10_0 : wc.cell? ⟨gb435,0,none⟩ = some (.int .i64 a0_0):=(blk_cell BK435.out 0).trans rfl
      have hcz10_1 : wc.cell? ⟨gb435,1,none⟩ = some (.string a0_1):=(blk_cell BK435.out 1).trans rfl
      have hcz10_2 : wc.cell? ⟨gb435,2,none⟩ = some (.string a0_2):=(blk_cell BK435.out 2).trans rfl
      have hcz10_3 : wc.cell? ⟨gb435,3,none⟩ = some (.string a0_3):=(blk_cell BK435.out 3).trans rfl
      have hfz10_0:=blk_frozen BK435.out 0
      have hfz10_1:=blk_frozen BK435.out 1
      have hfz10_2:=blk_frozen BK435.out 2
      have hfz10_3:=blk_frozen BK435.out 3
      go_wp2_with (first | ((with_reducible refine gate_dst (N:=38) rfl ?_);(try refine wpList_unguard rfl rfl ?_);refine Kd.R_lit k101 _ 101 ?hg (N:=38) ?hd (xs:=([(⟨a0_1,(a0_0 != 3)⟩ : S101),(⟨a0_2,true⟩ : S101),(⟨a0_3,(a0_0 == 0)⟩ : S101)] : List (S101))) (inner:=[.string a0_1,.bool (a0_0 != 3),.string a0_2,.bool true,.string a0_3,.bool (a0_0 == 0)]) (ok:=fun _ => True) (okp:=fun _ => True) ?hr ?hp (fun _ hk => hk) trivial (Below.refl _ _) (Nat.le_refl _) (by simp) ?_;(case hd => rfl);(case hg => rfl);(case hr => first | (go_simp;done) | (go_simp;rfl));(case hp => exact (Reps.c2 (show Kd.M k101 _ _ _ (⟨a0_1,(a0_0 != 3)⟩ : S101) [.string a0_1,.bool (a0_0 != 3)] from (k101_mkM _ _ _ (⟨a0_1,(a0_0 != 3)⟩ : S101) )) (Reps.c2 (show Kd.M k101 _ _ _ (⟨a0_2,true⟩ : S101) [.string a0_2,.bool true] from (k101_mkM _ _ _ (⟨a0_2,true⟩ : S101) )) (Reps.c2 (show Kd.M k101 _ _ _ (⟨a0_3,(a0_0 == 0)⟩ : S101) [.string a0_3,.bool (a0_0 == 0)] from (k101_mkM _ _ _ (⟨a0_3,(a0_0 == 0)⟩ : S101) )) (Reps.none _ _)))));intro v437 w11 ho12 hb hg_ hnew_;clear hg_ hnew_;(first | rw [← Ny436.out] at ho12 | (simp only [Int.reduceToNat] at ho12;rw [← Ny436.out] at ho12));have n0_:=Aside0.mk (Kd.R_lower ho12 (below_size (by repeat (first | (with_reducible first | exact HB.out | apply below_alloc | apply pw_below_drewN | apply below_drew1 | refine below_set ?_ GE435.out) | exact HB.out))));have n1_:=Aside0.mk (blk_below (g:=gb435) (o:=.cells #[.int .i64 a0_0,.string a0_1,.string a0_2,.string a0_3] 51 (0,0)) (by (with_reducible repeat (first | refine blk_drewN ?_ _ | refine blk_drew ?_ | refine blk_alloc ?_ _));exact BK435.out) hb);have n2_:=Aside0.mk (below_step (by repeat (first | (with_reducible first | exact HB.out | apply below_alloc | apply pw_below_drewN | apply below_drew1 | refine below_set ?_ GE435.out) | exact HB.out)) hb);clear BK435;clear HB;have HO438:=n0_;have BK435:=n1_;have HB:=n2_;clear n0_ n1_ n2_;clear hb ho12;obtain ⟨Ao13,co13,eo13⟩:=Kd.R_slice HO438.out;subst eo13))
      go_meet
      case rel => exact ⟨_,(y436),((y436.length : Int)),(0),(by first | rfl | (simp;done) | (simp [*];done)),(by first | rfl | (simp;done) | (simp [*];done)),H',⟨by have:=HJ1.out;first | omega | exact Nat.le_refl _⟩,⟨by (with_reducible repeat (first | apply Kd.R_alloc | apply Kd.R_drewN | apply Kd.R_drew));exact HO438.out⟩,⟨by (with_reducible repeat (first | refine blk_drewN ?_ _ | refine blk_drew ?_ | refine blk_alloc ?_ _));exact BK435.out⟩,⟨by repeat (first | (with_reducible first | exact HB.out | apply below_alloc | apply pw_below_drewN | apply below_drew1 | refine below_set ?_ GE435.out) | exact HB.out)⟩⟩
     ·rw [if_neg c9] at H
      have c9b0 : (a0_0 == 0) = false:=beq_eq_false_iff_ne.mpr c9
      have c9b1 : (a0_0 != 0) = true:=bne_iff_ne.mpr c9
      (first | rw [c9b0] | (simp only [i64_w,i32_w];rw [c9b0]) | skip)
      obtain ⟨y439,hy439⟩ : ∃ y_ : List (S101),y_ = (([(⟨a0_1,(a0_0 != 3)⟩ : S101),(⟨a0_2,(a0_0 == 3)⟩ : S101),(⟨a0_3,(a0_0 == 0)⟩ : S101)] : List (S101))):=⟨_,rfl⟩
      replace H : (recall_names.j1 kj1 0 y439 (y439.length : Int) 0) = some r:=by first | (rw [hy439];with_reducible exact H) | (have H2_:=(Option.bind_some _ _).symm.trans H;rw [hy439];with_reducible exact H2_) | (have H2_:=(Option.bind_some _ _).symm.trans H;with_reducible exact H2_) | with_reducible exact H | (rw [hy439];exact H) | exact H
      have Ny439:=Aside0.mk hy439
      clear hy439
      have H':=Aside0.mk H
      clear H
      have hcz14_0 : wc.cell? ⟨gb435,0,none⟩ = some (.int .i64 a0_0):=(blk_cell BK435.out 0).trans rfl
      have hcz14_1 : wc.cell? ⟨gb435,1,none⟩ = some (.string a0_1):=(blk_cell BK435.out 1).trans rfl
      have hcz14_2 : wc.cell? ⟨gb435,2,none⟩ = some (.string a0_2):=(blk_cell BK435.out 2).trans rfl
      have hcz14_3 : wc.cell? ⟨gb435,3,none⟩ = some (.string a0_3):=(blk_cell BK435.out 3).trans rfl
      have hfz14_0:=blk_frozen BK435.out 0
      have hfz14_1:=blk_frozen BK435.out 1
      have hfz14_2:=blk_frozen BK435.out 2
      have hfz14_3:=blk_frozen BK435.out 3
      go_wp2_with (first | ((with_reducible refine gate_dst (N:=38) rfl ?_);(try refine wpList_unguard rfl rfl ?_);refine Kd.R_lit k101 _ 101 ?hg (N:=38) ?hd (xs:=([(⟨a0_1,(a0_0 != 3)⟩ : S101),(⟨a0_2,(a0_0 == 3)⟩ : S101),(⟨a0_3,(a0_0 == 0)⟩ : S101)] : List (S101))) (inner:=[.string a0_1,.bool (a0_0 != 3),.string a0_2,.bool (a0_0 == 3),.string a0_3,.bool (a0_0 == 0)]) (ok:=fun _ => True) (okp:=fun _ => True) ?hr ?hp (fun _ hk => hk) trivial (Below.refl _ _) (Nat.le_refl _) (by simp) ?_;(case hd => rfl);(case hg => rfl);(case hr => first | (go_simp;done) | (go_simp;rfl));(case hp => exact (Reps.c2 (show Kd.M k101 _ _ _ (⟨a0_1,(a0_0 != 3)⟩ : S101) [.string a0_1,.bool (a0_0 != 3)] from (k101_mkM _ _ _ (⟨a0_1,(a0_0 != 3)⟩ : S101) )) (Reps.c2 (show Kd.M k101 _ _ _ (⟨a0_2,(a0_0 == 3)⟩ : S101) [.string a0_2,.bool (a0_0 == 3)] from (k101_mkM _ _ _ (⟨a0_2,(a0_0 == 3)⟩ : S101) )) (Reps.c2 (show Kd.M k101 _ _ _ (⟨a0_3,(a0_0 == 0)⟩ : S101) [.string a0_3,.bool (a0_0 == 0)] from (k101_mkM _ _ _ (⟨a0_3,(a0_0 == 0)⟩ : S101) )) (Reps.none _ _)))));intro v440 w15 ho16 hb hg_ hnew_;clear hg_ hnew_;(first | rw [← Ny439.out] at ho16 | (simp only [Int.reduceToNat] at ho16;rw [← Ny439.out] at ho16));have n0_:=Aside0.mk (Kd.R_lower ho16 (below_size (by repeat (first | (with_reducible first | exact HB.out | apply below_alloc | apply pw_below_drewN | apply below_drew1 | refine below_set ?_ GE435.out) | exact HB.out))));have n1_:=Aside0.mk (blk_below (g:=gb435) (o:=.cells #[.int .i64 a0_0,.string a0_1,.string a0_2,.string a0_3] 51 (0,0)) (by (with_reducible repeat (first | refine blk_drewN ?_ _ | refine blk_drew ?_ | refine blk_alloc ?_ _));exact BK435.out) hb);have n2_:=Aside0.mk (below_step (by repeat (first | (with_reducible first | exact HB.out | apply below_alloc | apply pw_below_drewN | apply below_drew1 | refine below_set ?_ GE435.out) | exact HB.out)) hb);clear BK435;clear HB;have HO441:=n0_;have BK435:=n1_;have HB:=n2_;clear n0_ n1_ n2_;clear hb ho16;obtain ⟨Ao17,co17,eo17⟩:=Kd.R_slice HO441.out;subst eo17))
      go_meet
      case rel => exact ⟨_,(y439),((y439.length : Int)),(0),(by first | rfl | (simp;done) | (simp [*];done)),(by first | rfl | (simp;done) | (simp [*];done)),H',⟨by have:=HJ1.out;first | omega | exact Nat.le_refl _⟩,⟨by (with_reducible repeat (first | apply Kd.R_alloc | apply Kd.R_drewN | apply Kd.R_drew));exact HO441.out⟩,⟨by (with_reducible repeat (first | refine blk_drewN ?_ _ | refine blk_drew ?_ | refine blk_alloc ?_ _));exact BK435.out⟩,⟨by repeat (first | (with_reducible first | exact HB.out | apply below_alloc | apply pw_below_drewN | apply below_drew1 | refine below_set ?_ GE435.out) | exact HB.out)⟩⟩
    case rest =>
     clear HC8
     try clear c2
     try clear p2
     try clear c4
     try clear c4b0
     try clear c7
     try clear c9
     try clear c9b0
     try clear c9b1
     try clear hcz10_0
     try clear hcz10_1
     try clear hcz10_2
     try clear hcz10_3
     try clear hcz14_0
     try clear hcz14_1
     try clear hcz14_2
     try clear hcz14_3
     try clear hcz5_0
     try clear hcz5_1
     try clear hcz5_2
     try clear hcz5_3
     try clear hcz6_0
     try clear hcz6_1
     try clear hcz6_2
     try clear hcz6_3
     try clear hfz10_0
     try clear hfz10_1
     try clear hfz10_2
     try clear hfz10_3
     try clear hfz14_0
     try clear hfz14_1
     try clear hfz14_2
     try clear hfz14_3
     try clear hfz5_0
     try clear hfz5_1
     try clear hfz5_2
     try clear hfz5_3
     try clear hfz6_0
     try clear hfz6_1
     try clear hfz6_2
     try clear hfz6_3
     try clear p2
     obtain ⟨kq,x38_7,x39_7,x40_7,rfl,rfl,HA,HJ7,HO_38,BK435,HB⟩:=hcut
     cases kq with
     | zero => exact absurd HA.out (by simp [recall_names.j1])
     | succ kj7 =>
      have H:=HA.out
      clear HA
      simp only [recall_names.j1] at H
      have H':=Aside0.mk H
      clear H
      go_wp2
      go_loopg [3,40] kj7 (fun kq v3 v40 w' => ∃ (x3_3 : Int) (x40_3 : Int),v3 = .int .i64 x3_3 ∧ v40 = .int .i64 x40_3 ∧ Aside0 (recall_names.l0 kq x3_3 x38_7 x39_7 x40_3 = some r) ∧ Aside0 (kq ≤ kj7) ∧ Aside0 (Kd.R k101 101 w' w.heap.size (fun _ => True) u38 x38_7) ∧ Aside0 (w'.heap[gb435]? = some (.cells #[.int .i64 a0_0,.string a0_1,.string a0_2,.string a0_3] 51 (0,0))) ∧ Aside0 (Below w.heap.size w w'))
      case atStart => exact ⟨(0),(x40_7),(by first | rfl | (simp;done) | (simp [*];done)),(by first | rfl | (simp;done) | (simp [*];done)),H',⟨Nat.le_refl _⟩,⟨by (with_reducible repeat (first | apply Kd.R_alloc | apply Kd.R_drewN | apply Kd.R_drew));exact HO_38.out⟩,⟨by (with_reducible repeat (first | refine blk_drewN ?_ _ | refine blk_drew ?_ | refine blk_alloc ?_ _));exact BK435.out⟩,⟨by repeat (first | (with_reducible first | exact HB.out | apply below_alloc | apply pw_below_drewN | apply below_drew1 | refine below_set ?_ GE435.out) | exact HB.out)⟩⟩
      case round =>
       clear H'
       try clear c2
       try clear p2
       try clear c4
       try clear c4b0
       try clear c7
       try clear c9
       try clear c9b0
       try clear c9b1
       try clear hcz10_0
       try clear hcz10_1
       try clear hcz10_2
       try clear hcz10_3
       try clear hcz14_0
       try clear hcz14_1
       try clear hcz14_2
       try clear hcz14_3
       try clear hcz5_0
       try clear hcz5_1
       try clear hcz5_2
       try clear hcz5_3
       try clear hcz6_0
       try clear hcz6_1
       try clear hcz6_2
       try clear hcz6_3
       try clear hfz10_0
       try clear hfz10_1
       try clear hfz10_2
       try clear hfz10_3
       try clear hfz14_0
       try clear hfz14_1
       try clear hfz14_2
       try clear hfz14_3
       try clear hfz5_0
       try clear hfz5_1
       try clear hfz5_2
       try clear hfz5_3
       try clear hfz6_0
       try clear hfz6_1
       try clear hfz6_2
       try clear hfz6_3
       try clear p2
       obtain ⟨x3_3,x40_3,rfl,rfl,HA,HK3,HO_38,BK435,HB⟩:=hrel
       cases gk with
       | zero => exact absurd HA.out (by simp [recall_names.l0])
       | succ k3 =>
        have H:=HA.out
        clear HA
        simp only [recall_names.l0] at H
        by_cases c18 : x40_3 < x39_7
        ·rw [if_pos c18] at H
         have c18b0 : decide (x40_3 < x39_7) = true:=decide_eq_true c18
         clear c18
         by_cases c19 : 0 ≤ x40_3
         ·rw [if_pos c19] at H
          have c19b0 : decide (0 ≤ x40_3) = true:=decide_eq_true c19
          clear c19
          by_cases c20 : x40_3 < (x38_7.length : Int)
          ·rw [if_pos c20] at H
           have c20b0 : decide (x40_3 < (x38_7.length : Int)) = true:=decide_eq_true c20
           clear c20
           obtain ⟨bq21,hbq21⟩ : ∃ b_ : Bool,b_ = ((rd_T101 x38_7 x40_3).f1):=⟨_,rfl⟩
           replace H : (if bq21 = true then ((dimension_Name.f ((rd_T101 x38_7 x40_3).f0)).bind fun t444 => (if t444 = 0 then (recall_names.l0 k3 x3_3 x38_7 x39_7 (wrap64 (x40_3 + 1))) else (some t444))) else (if ((rd_T101 x38_7 x40_3).f0).toList = ([] : List UInt8) then (recall_names.l0 k3 x3_3 x38_7 x39_7 (wrap64 (x40_3 + 1))) else (recall_names.l0 k3 3 x38_7 x39_7 (wrap64 (x40_3 + 1))))) = some r:=by rw [← hbq21] at H;exact H
           have Nbq21:=Aside0.mk hbq21
           clear hbq21
           by_cases c22 : bq21 = true
           ·subst c22
            have H1 : ((dimension_Name.f ((rd_T101 x38_7 x40_3).f0)).bind fun t444 => (if t444 = 0 then (recall_names.l0 k3 x3_3 x38_7 x39_7 (wrap64 (x40_3 + 1))) else (some t444))) = some r:=by rw [if_pos rfl] at H;exact H
            clear H
            have H:=H1
            clear H1
            replace H:=Option.bind_eq_some_iff.mp H
            obtain ⟨t444,A230,H⟩:=H
            replace H : (if t444 = 0 then (recall_names.l0 k3 x3_3 x38_7 x39_7 (wrap64 (x40_3 + 1))) else (some t444)) = some r:=H
            have A23:=Aside0.mk A230
            clear A230
            by_cases c24 : t444 = 0
            ·rw [if_pos c24] at H
             have c24b0 : (t444 == 0) = true:=beq_iff_eq.mpr c24
             have c24b1 : (t444 != 0) = false:=bne_eq_false_iff_eq.mpr c24
             clear c24
             have H':=Aside0.mk H
             clear H
             obtain ⟨Ao25,co25,eo25⟩:=Kd.R_slice HO_38.out
             subst eo25
             have p442 : 0 ≤ (x40_3 : Int):=of_decide_eq_true (by first | (with_reducible assumption) | assumption)
             have q442 : x40_3 < (x38_7.length : Int):=of_decide_eq_true (by first | (with_reducible assumption) | assumption)
             obtain ⟨ad442,e442,hx442_0,hx442_1⟩:=at_T101 (Kd.R_reads' HO_38.out).2.2 x40_3 p442 q442
             (try rw [← Nbq21.out] at hx442_1)
             cases e442
             replace p442:=eq_true p442
             replace q442:=eq_true q442
             go_wp2_with (first | ((with_reducible refine gate_dst (N:=5) rfl ?_);refine box_event ?hg (N:=5) ?hd (cs:=#[.string (⟨#[]⟩ : ByteArray),.bool false]) (t:=101) ?hr ?_;(case hd => rfl);(case hg => rfl);(case hr => first | (go_simp;done) | (go_simp;rfl));intro gb443 hg w26 hbox hb;have n0_:=Aside0.mk (Kd.R_below (Kd.R_elderB (by (with_reducible repeat (first | apply Kd.R_alloc | apply Kd.R_drewN | apply Kd.R_drew));exact HO_38.out) gb443 (Nat.le_of_eq hg.symm)) hb);have n1_:=Aside0.mk (blk_below (g:=gb435) (o:=.cells #[.int .i64 a0_0,.string a0_1,.string a0_2,.string a0_3] 51 (0,0)) (by (with_reducible repeat (first | refine blk_drewN ?_ _ | refine blk_drew ?_ | refine blk_alloc ?_ _));exact BK435.out) hb);have n2_:=Aside0.mk (below_step (by repeat (first | (with_reducible first | exact HB.out | apply below_alloc | apply pw_below_drewN | apply below_drew1 | refine below_set ?_ GE435.out) | exact HB.out)) hb);have n3_:=Aside0.mk (hbox);have n4_:=Aside0.mk ((by rw [hg];exact (below_size (by repeat (first | (with_reducible first | exact HB.out | apply below_alloc | apply pw_below_drewN | apply below_drew1 | refine below_set ?_ GE435.out) | exact HB.out))) : w.heap.size ≤ gb443));have n5_:=Aside0.mk ((by rw [hg];exact (below_size (by repeat (first | (with_reducible first | exact HB.out | apply below_alloc | apply pw_below_drewN | apply below_drew1 | refine below_set ?_ GE435.out) | exact HB.out))) : w.heap.size ≤ gb443));have n6_:=Aside0.mk ((by rw [hg];exact Nat.ne_of_lt (blk_lt (g:=gb435) (o:=.cells #[.int .i64 a0_0,.string a0_1,.string a0_2,.string a0_3] 51 (0,0)) (by (with_reducible repeat (first | refine blk_drewN ?_ _ | refine blk_drew ?_ | refine blk_alloc ?_ _));exact BK435.out)) : gb435 ≠ gb443));have n7_:=Aside0.mk ((by rw [hg];exact Nat.ne_of_gt (blk_lt (g:=gb435) (o:=.cells #[.int .i64 a0_0,.string a0_1,.string a0_2,.string a0_3] 51 (0,0)) (by (with_reducible repeat (first | refine blk_drewN ?_ _ | refine blk_drew ?_ | refine blk_alloc ?_ _));exact BK435.out)) : gb443 ≠ gb435));clear HO_38;clear BK435;clear HB;have HO_38:=n0_;have BK435:=n1_;have HB:=n2_;have BK443:=n3_;have GW443:=n4_;have GE443:=n5_;have NB435_443:=n6_;have NB443_435:=n7_;clear n0_ n1_ n2_ n3_ n4_ n5_ n6_ n7_;clear hb hbox hg;have hnb27:=NB443_435.out;have hnc27:=NB435_443.out;have hcz28_0 : w26.cell? ⟨gb443,0,none⟩ = some (.string (⟨#[]⟩ : ByteArray)):=(blk_cell BK443.out 0).trans rfl;have hcz28_1 : w26.cell? ⟨gb443,1,none⟩ = some (.bool false):=(blk_cell BK443.out 1).trans rfl;have hfz28_0:=blk_frozen BK443.out 0;have hfz28_1:=blk_frozen BK443.out 1) | ((with_reducible refine gate_callee (f:=49) rfl ?_);refine goesL_ (some 48) rfl rfl Try.func49 (by kernel_rfl) rfl #[.string ((rd_T101 x38_7 x40_3).f0)] rfl (by (try simp only [List.map_toArray,List.map_cons,List.map_nil]);first | done | rfl | (simp only [List.length_drop,List.length_take];rfl)) ?_;(with_reducible refine (dimension_Name.calls ((rd_T101 x38_7 x40_3).f0) t444 _ A23.out).mono ?_);rintro e w29 ⟨rfl,hb⟩;refine ⟨_,rfl,?_⟩;have n0_:=Aside0.mk (Kd.R_below (by (with_reducible repeat (first | apply Kd.R_alloc | apply Kd.R_drewN | apply Kd.R_drew));exact (Kd.R_mono (Kd.R_far (p:=⟨gb443,1,none⟩) (Kd.R_far (p:=⟨gb443,0,none⟩) (Kd.R_mono HO_38.out (fun k_ hk => (⟨hk,hk.2⟩ : _ ∧ k_ ≠ gb443))) (fun _ hk => hk.2) (.string ((rd_T101 x38_7 x40_3).f0))) (fun _ hk => hk.2) (.bool true)) (fun _ h_ => h_.1))) hb);have n1_:=Aside0.mk (blk_below (g:=gb435) (o:=.cells #[.int .i64 a0_0,.string a0_1,.string a0_2,.string a0_3] 51 (0,0)) (by (with_reducible repeat (first | refine blk_drewN ?_ _ | refine blk_drew ?_ | refine blk_alloc ?_ _));refine blk_far ?_ NB435_443.out _;(with_reducible repeat (first | refine blk_drewN ?_ _ | refine blk_drew ?_ | refine blk_alloc ?_ _));refine blk_far ?_ NB435_443.out _;(with_reducible repeat (first | refine blk_drewN ?_ _ | refine blk_drew ?_ | refine blk_alloc ?_ _));exact BK435.out) hb);have n2_:=Aside0.mk (blk_below (g:=gb443) (o:=.cells #[.string ((rd_T101 x38_7 x40_3).f0),.bool true] 101 (0,0)) (by (with_reducible repeat (first | refine blk_drewN ?_ _ | refine blk_drew ?_ | refine blk_alloc ?_ _));refine blk_put (cs:=#[.string ((rd_T101 x38_7 x40_3).f0),.bool false]) ?_ 1 _ rfl;(with_reducible repeat (first | refine blk_drewN ?_ _ | refine blk_drew ?_ | refine blk_alloc ?_ _));refine blk_put (cs:=#[.string (⟨#[]⟩ : ByteArray),.bool false]) ?_ 0 _ rfl;(with_reducible repeat (first | refine blk_drewN ?_ _ | refine blk_drew ?_ | refine blk_alloc ?_ _));exact BK443.out) hb);have n3_:=Aside0.mk (below_step (by repeat (first | (with_reducible first | exact HB.out | apply below_alloc | apply pw_below_drewN | apply below_drew1 | refine below_set ?_ GE435.out | refine below_set ?_ GE443.out) | exact HB.out)) hb);clear HO_38;clear BK435;clear BK443;clear HB;have HO_38:=n0_;have BK435:=n1_;have BK443:=n2_;have HB:=n3_;clear n0_ n1_ n2_ n3_;(try clear hb);(try clear hb2);(try clear hk);(try clear hi)))
             go_roundg k3
             case measure => have:=HJ1.out;have:=HJ7.out;have:=HK3.out;omega
             case rel => exact ⟨(x3_3),(wrap64 (x40_3 + 1)),(by first | rfl | (simp;done) | (simp [*];done)),(by first | rfl | (simp;done) | (simp [*];done)),H',⟨by have:=HJ1.out;have:=HJ7.out;have:=HK3.out;omega⟩,⟨by (with_reducible repeat (first | apply Kd.R_alloc | apply Kd.R_drewN | apply Kd.R_drew));exact Kd.R_mono HO_38.out (fun _ hk => trivial)⟩,⟨by (with_reducible repeat (first | refine blk_drewN ?_ _ | refine blk_drew ?_ | refine blk_alloc ?_ _));exact BK435.out⟩,⟨by repeat (first | (with_reducible first | exact HB.out | apply below_alloc | apply pw_below_drewN | apply below_drew1 | refine below_set ?_ GE435.out | refine below_set ?_ GE443.out) | exact HB.out)⟩⟩
            ·rw [if_neg c24] at H
             have c24b0 : (t444 == 0) = false:=beq_eq_false_iff_ne.mpr c24
             have c24b1 : (t444 != 0) = true:=bne_iff_ne.mpr c24
             obtain rfl:=Option.some.inj H
             obtain ⟨Ao30,co30,eo30⟩:=Kd.R_slice HO_38.out
             subst eo30
             have p442 : 0 ≤ (x40_3 : Int):=of_decide_eq_true (by first | (with_reducible assumption) | assumption)
             have q442 : x40_3 < (x38_7.length : Int):=of_decide_eq_true (by first | (with_reducible assumption) | assumption)
             obtain ⟨ad442,e442,hx442_0,hx442_1⟩:=at_T101 (Kd.R_reads' HO_38.out).2.2 x40_3 p442 q442
             (try rw [← Nbq21.out] at hx442_1)
             cases e442
             replace p442:=eq_true p442
             replace q442:=eq_true q442
             go_wp2_with (first | ((with_reducible refine gate_dst (N:=5) rfl ?_);refine box_event ?hg (N:=5) ?hd (cs:=#[.string (⟨#[]⟩ : ByteArray),.bool false]) (t:=101) ?hr ?_;(case hd => rfl);(case hg => rfl);(case hr => first | (go_simp;done) | (go_simp;rfl));intro gb443 hg w31 hbox hb;have n0_:=Aside0.mk (Kd.R_below (Kd.R_elderB (by (with_reducible repeat (first | apply Kd.R_alloc | apply Kd.R_drewN | apply Kd.R_drew));exact HO_38.out) gb443 (Nat.le_of_eq hg.symm)) hb);have n1_:=Aside0.mk (blk_below (g:=gb435) (o:=.cells #[.int .i64 a0_0,.string a0_1,.string a0_2,.string a0_3] 51 (0,0)) (by (with_reducible repeat (first | refine blk_drewN ?_ _ | refine blk_drew ?_ | refine blk_alloc ?_ _));exact BK435.out) hb);have n2_:=Aside0.mk (below_step (by repeat (first | (with_reducible first | exact HB.out | apply below_alloc | apply pw_below_drewN | apply below_drew1 | refine below_set ?_ GE435.out) | exact HB.out)) hb);have n3_:=Aside0.mk (hbox);have n4_:=Aside0.mk ((by rw [hg];exact (below_size (by repeat (first | (with_reducible first | exact HB.out | apply below_alloc | apply pw_below_drewN | apply below_drew1 | refine below_set ?_ GE435.out) | exact HB.out))) : w.heap.size ≤ gb443));have n5_:=Aside0.mk ((by rw [hg];exact (below_size (by repeat (first | (with_reducible first | exact HB.out | apply below_alloc | apply pw_below_drewN | apply below_drew1 | refine below_set ?_ GE435.out) | exact HB.out))) : w.heap.size ≤ gb443));have n6_:=Aside0.mk ((by rw [hg];exact Nat.ne_of_lt (blk_lt (g:=gb435) (o:=.cells #[.int .i64 a0_0,.string a0_1,.string a0_2,.string a0_3] 51 (0,0)) (by (with_reducible repeat (first | refine blk_drewN ?_ _ | refine blk_drew ?_ | refine blk_alloc ?_ _));exact BK435.out)) : gb435 ≠ gb443));have n7_:=Aside0.mk ((by rw [hg];exact Nat.ne_of_gt (blk_lt (g:=gb435) (o:=.cells #[.int .i64 a0_0,.string a0_1,.string a0_2,.string a0_3] 51 (0,0)) (by (with_reducible repeat (first | refine blk_drewN ?_ _ | refine blk_drew ?_ | refine blk_alloc ?_ _));exact BK435.out)) : gb443 ≠ gb435));clear HO_38;clear BK435;clear HB;have HO_38:=n0_;have BK435:=n1_;have HB:=n2_;have BK443:=n3_;have GW443:=n4_;have GE443:=n5_;have NB435_443:=n6_;have NB443_435:=n7_;clear n0_ n1_ n2_ n3_ n4_ n5_ n6_ n7_;clear hb hbox hg;have hnb32:=NB443_435.out;have hnc32:=NB435_443.out;have hcz33_0 : w31.cell? ⟨gb443,0,none⟩ = some (.string (⟨#[]⟩ : ByteArray)):=(blk_cell BK443.out 0).trans rfl;have hcz33_1 : w31.cell? ⟨gb443,1,none⟩ = some (.bool false):=(blk_cell BK443.out 1).trans rfl;have hfz33_0:=blk_frozen BK443.out 0;have hfz33_1:=blk_frozen BK443.out 1) | ((with_reducible refine gate_callee (f:=49) rfl ?_);refine goesL_ (some 48) rfl rfl Try.func49 (by kernel_rfl) rfl #[.string ((rd_T101 x38_7 x40_3).f0)] rfl (by (try simp only [List.map_toArray,List.map_cons,List.map_nil]);first | done | rfl | (simp only [List.length_drop,List.length_take];rfl)) ?_;(with_reducible refine (dimension_Name.calls ((rd_T101 x38_7 x40_3).f0) t444 _ A23.out).mono ?_);rintro e w34 ⟨rfl,hb⟩;refine ⟨_,rfl,?_⟩;have n0_:=Aside0.mk (Kd.R_below (by (with_reducible repeat (first | apply Kd.R_alloc | apply Kd.R_drewN | apply Kd.R_drew));exact (Kd.R_mono (Kd.R_far (p:=⟨gb443,1,none⟩) (Kd.R_far (p:=⟨gb443,0,none⟩) (Kd.R_mono HO_38.out (fun k_ hk => (⟨hk,hk.2⟩ : _ ∧ k_ ≠ gb443))) (fun _ hk => hk.2) (.string ((rd_T101 x38_7 x40_3).f0))) (fun _ hk => hk.2) (.bool true)) (fun _ h_ => h_.1))) hb);have n1_:=Aside0.mk (blk_below (g:=gb435) (o:=.cells #[.int .i64 a0_0,.string a0_1,.string a0_2,.string a0_3] 51 (0,0)) (by (with_reducible repeat (first | refine blk_drewN ?_ _ | refine blk_drew ?_ | refine blk_alloc ?_ _));refine blk_far ?_ NB435_443.out _;(with_reducible repeat (first | refine blk_drewN ?_ _ | refine blk_drew ?_ | refine blk_alloc ?_ _));refine blk_far ?_ NB435_443.out _;(with_reducible repeat (first | refine blk_drewN ?_ _ | refine blk_drew ?_ | refine blk_alloc ?_ _));exact BK435.out) hb);have n2_:=Aside0.mk (blk_below (g:=gb443) (o:=.cells #[.string ((rd_T101 x38_7 x40_3).f0),.bool true] 101 (0,0)) (by (with_reducible repeat (first | refine blk_drewN ?_ _ | refine blk_drew ?_ | refine blk_alloc ?_ _));refine blk_put (cs:=#[.string ((rd_T101 x38_7 x40_3).f0),.bool false]) ?_ 1 _ rfl;(with_reducible repeat (first | refine blk_drewN ?_ _ | refine blk_drew ?_ | refine blk_alloc ?_ _));refine blk_put (cs:=#[.string (⟨#[]⟩ : ByteArray),.bool false]) ?_ 0 _ rfl;(with_reducible repeat (first | refine blk_drewN ?_ _ | refine blk_drew ?_ | refine blk_alloc ?_ _));exact BK443.out) hb);have n3_:=Aside0.mk (below_step (by repeat (first | (with_reducible first | exact HB.out | apply below_alloc | apply pw_below_drewN | apply below_drew1 | refine below_set ?_ GE435.out | refine below_set ?_ GE443.out) | exact HB.out)) hb);clear HO_38;clear BK435;clear BK443;clear HB;have HO_38:=n0_;have BK435:=n1_;have BK443:=n2_;have HB:=n3_;clear n0_ n1_ n2_ n3_;(try clear hb);(try clear hb2);(try clear hk);(try clear hi)))
             go_ret
             exact ⟨by first | rfl | (simp [errW_none,errW_some] <;> rfl) | (simp [*,errW_none,errW_some] <;> rfl),by repeat (first | (with_reducible first | exact HB.out | apply below_alloc | apply pw_below_drewN | apply below_drew1 | refine below_set ?_ GE435.out | refine below_set ?_ GE443.out) | exact HB.out)⟩
           ·replace c22:=Bool.eq_false_iff.mpr c22
            subst c22
            have H1 : (if ((rd_T101 x38_7 x40_3).f0).toList = ([] : List UInt8) then (recall_names.l0 k3 x3_3 x38_7 x39_7 (wrap64 (x40_3 + 1))) else (recall_names.l0 k3 3 x38_7 x39_7 (wrap64 (x40_3 + 1)))) = some r:=by rw [if_neg (show ¬ (false = true) by decide)] at H;exact H
            clear H
            have H:=H1
            clear H1
            by_cases c35 : ((rd_T101 x38_7 x40_3).f0).toList = ([] : List UInt8)
            ·rw [if_pos c35] at H
             have c35b0 : (((rd_T101 x38_7 x40_3).f0).toList == ([] : List UInt8)) = true:=beq_iff_eq.mpr c35
             have c35b1 : (((rd_T101 x38_7 x40_3).f0).toList != ([] : List UInt8)) = false:=bne_eq_false_iff_eq.mpr c35
             clear c35
             have H':=Aside0.mk H
             clear H
             obtain ⟨Ao36,co36,eo36⟩:=Kd.R_slice HO_38.out
             subst eo36
             have p442 : 0 ≤ (x40_3 : Int):=of_decide_eq_true (by first | (with_reducible assumption) | assumption)
             have q442 : x40_3 < (x38_7.length : Int):=of_decide_eq_true (by first | (with_reducible assumption) | assumption)
             obtain ⟨ad442,e442,hx442_0,hx442_1⟩:=at_T101 (Kd.R_reads' HO_38.out).2.2 x40_3 p442 q442
             (try rw [← Nbq21.out] at hx442_1)
             cases e442
             replace p442:=eq_true p442
             replace q442:=eq_true q442
             go_wp2_with (first | ((with_reducible refine gate_dst (N:=5) rfl ?_);refine box_event ?hg (N:=5) ?hd (cs:=#[.string (⟨#[]⟩ : ByteArray),.bool false]) (t:=101) ?hr ?_;(case hd => rfl);(case hg => rfl);(case hr => first | (go_simp;done) | (go_simp;rfl));intro gb443 hg w37 hbox hb;have n0_:=Aside0.mk (Kd.R_below (Kd.R_elderB (by (with_reducible repeat (first | apply Kd.R_alloc | apply Kd.R_drewN | apply Kd.R_drew));exact HO_38.out) gb443 (Nat.le_of_eq hg.symm)) hb);have n1_:=Aside0.mk (blk_below (g:=gb435) (o:=.cells #[.int .i64 a0_0,.string a0_1,.string a0_2,.string a0_3] 51 (0,0)) (by (with_reducible repeat (first | refine blk_drewN ?_ _ | refine blk_drew ?_ | refine blk_alloc ?_ _));exact BK435.out) hb);have n2_:=Aside0.mk (below_step (by repeat (first | (with_reducible first | exact HB.out | apply below_alloc | apply pw_below_drewN | apply below_drew1 | refine below_set ?_ GE435.out) | exact HB.out)) hb);have n3_:=Aside0.mk (hbox);have n4_:=Aside0.mk ((by rw [hg];exact (below_size (by repeat (first | (with_reducible first | exact HB.out | apply below_alloc | apply pw_below_drewN | apply below_drew1 | refine below_set ?_ GE435.out) | exact HB.out))) : w.heap.size ≤ gb443));have n5_:=Aside0.mk ((by rw [hg];exact (below_size (by repeat (first | (with_reducible first | exact HB.out | apply below_alloc | apply pw_below_drewN | apply below_drew1 | refine below_set ?_ GE435.out) | exact HB.out))) : w.heap.size ≤ gb443));have n6_:=Aside0.mk ((by rw [hg];exact Nat.ne_of_lt (blk_lt (g:=gb435) (o:=.cells #[.int .i64 a0_0,.string a0_1,.string a0_2,.string a0_3] 51 (0,0)) (by (with_reducible repeat (first | refine blk_drewN ?_ _ | refine blk_drew ?_ | refine blk_alloc ?_ _));exact BK435.out)) : gb435 ≠ gb443));have n7_:=Aside0.mk ((by rw [hg];exact Nat.ne_of_gt (blk_lt (g:=gb435) (o:=.cells #[.int .i64 a0_0,.string a0_1,.string a0_2,.string a0_3] 51 (0,0)) (by (with_reducible repeat (first | refine blk_drewN ?_ _ | refine blk_drew ?_ | refine blk_alloc ?_ _));exact BK435.out)) : gb443 ≠ gb435));clear HO_38;clear BK435;clear HB;have HO_38:=n0_;have BK435:=n1_;have HB:=n2_;have BK443:=n3_;have GW443:=n4_;have GE443:=n5_;have NB435_443:=n6_;have NB443_435:=n7_;clear n0_ n1_ n2_ n3_ n4_ n5_ n6_ n7_;clear hb hbox hg;have hnb38:=NB443_435.out;have hnc38:=NB435_443.out;have hcz39_0 : w37.cell? ⟨gb443,0,none⟩ = some (.string (⟨#[]⟩ : ByteArray)):=(blk_cell BK443.out 0).trans rfl;have hcz39_1 : w37.cell? ⟨gb443,1,none⟩ = some (.bool false):=(blk_cell BK443.out 1).trans rfl;have hfz39_0:=blk_frozen BK443.out 0;have hfz39_1:=blk_frozen BK443.out 1))
             go_roundg k3
             case measure => have:=HJ1.out;have:=HJ7.out;have:=HK3.out;omega
             case rel => exact ⟨(x3_3),(wrap64 (x40_3 + 1)),(by first | rfl | (simp;done) | (simp [*];done)),(by first | rfl | (simp;done) | (simp [*];done)),H',⟨by have:=HJ1.out;have:=HJ7.out;have:=HK3.out;omega⟩,⟨by (with_reducible repeat (first | apply Kd.R_alloc | apply Kd.R_drewN | apply Kd.R_drew));exact Kd.R_mono (Kd.R_far (p:=⟨gb443,1,none⟩) (Kd.R_far (p:=⟨gb443,0,none⟩) (Kd.R_mono HO_38.out (fun k_ hk => (⟨hk,hk.2⟩ : _ ∧ k_ ≠ gb443))) (fun _ hk => hk.2) (.string ((rd_T101 x38_7 x40_3).f0))) (fun _ hk => hk.2) (.bool false)) (fun _ hk => trivial)⟩,⟨by (with_reducible repeat (first | refine blk_drewN ?_ _ | refine blk_drew ?_ | refine blk_alloc ?_ _));refine blk_far ?_ NB435_443.out _;(with_reducible repeat (first | refine blk_drewN ?_ _ | refine blk_drew ?_ | refine blk_alloc ?_ _));refine blk_far ?_ NB435_443.out _;(with_reducible repeat (first | refine blk_drewN ?_ _ | refine blk_drew ?_ | refine blk_alloc ?_ _));exact BK435.out⟩,⟨by repeat (first | (with_reducible first | exact HB.out | apply below_alloc | apply pw_below_drewN | apply below_drew1 | refine below_set ?_ GE435.out | refine below_set ?_ GE443.out) | exact HB.out)⟩⟩
            ·rw [if_neg c35] at H
             have c35b0 : (((rd_T101 x38_7 x40_3).f0).toList == ([] : List UInt8)) = false:=beq_eq_false_iff_ne.mpr c35
             have c35b1 : (((rd_T101 x38_7 x40_3).f0).toList != ([] : List UInt8)) = true:=bne_iff_ne.mpr c35
             have H':=Aside0.mk H
             clear H
             obtain ⟨Ao40,co40,eo40⟩:=Kd.R_slice HO_38.out
             subst eo40
             have p442 : 0 ≤ (x40_3 : Int):=of_decide_eq_true (by first | (with_reducible assumption) | assumption)
             have q442 : x40_3 < (x38_7.length : Int):=of_decide_eq_true (by first | (with_reducible assumption) | assumption)
             obtain ⟨ad442,e442,hx442_0,hx442_1⟩:=at_T101 (Kd.R_reads' HO_38.out).2.2 x40_3 p442 q442
             (try rw [← Nbq21.out] at hx442_1)
             cases e442
             replace p442:=eq_true p442
             replace q442:=eq_true q442
             go_wp2_with (first | ((with_reducible refine gate_dst (N:=5) rfl ?_);refine box_event ?hg (N:=5) ?hd (cs:=#[.string (⟨#[]⟩ : ByteArray),.bool false]) (t:=101) ?hr ?_;(case hd => rfl);(case hg => rfl);(case hr => first | (go_simp;done) | (go_simp;rfl));intro gb443 hg w41 hbox hb;have n0_:=Aside0.mk (Kd.R_below (Kd.R_elderB (by (with_reducible repeat (first | apply Kd.R_alloc | apply Kd.R_drewN | apply Kd.R_drew));exact HO_38.out) gb443 (Nat.le_of_eq hg.symm)) hb);have n1_:=Aside0.mk (blk_below (g:=gb435) (o:=.cells #[.int .i64 a0_0,.string a0_1,.string a0_2,.string a0_3] 51 (0,0)) (by (with_reducible repeat (first | refine blk_drewN ?_ _ | refine blk_drew ?_ | refine blk_alloc ?_ _));exact BK435.out) hb);have n2_:=Aside0.mk (below_step (by repeat (first | (with_reducible first | exact HB.out | apply below_alloc | apply pw_below_drewN | apply below_drew1 | refine below_set ?_ GE435.out) | exact HB.out)) hb);have n3_:=Aside0.mk (hbox);have n4_:=Aside0.mk ((by rw [hg];exact (below_size (by repeat (first | (with_reducible first | exact HB.out | apply below_alloc | apply pw_below_drewN | apply below_drew1 | refine below_set ?_ GE435.out) | exact HB.out))) : w.heap.size ≤ gb443));have n5_:=Aside0.mk ((by rw [hg];exact (below_size (by repeat (first | (with_reducible first | exact HB.out | apply below_alloc | apply pw_below_drewN | apply below_drew1 | refine below_set ?_ GE435.out) | exact HB.out))) : w.heap.size ≤ gb443));have n6_:=Aside0.mk ((by rw [hg];exact Nat.ne_of_lt (blk_lt (g:=gb435) (o:=.cells #[.int .i64 a0_0,.string a0_1,.string a0_2,.string a0_3] 51 (0,0)) (by (with_reducible repeat (first | refine blk_drewN ?_ _ | refine blk_drew ?_ | refine blk_alloc ?_ _));exact BK435.out)) : gb435 ≠ gb443));have n7_:=Aside0.mk ((by rw [hg];exact Nat.ne_of_gt (blk_lt (g:=gb435) (o:=.cells #[.int .i64 a0_0,.string a0_1,.string a0_2,.string a0_3] 51 (0,0)) (by (with_reducible repeat (first | refine blk_drewN ?_ _ | refine blk_drew ?_ | refine blk_alloc ?_ _));exact BK435.out)) : gb443 ≠ gb435));clear HO_38;clear BK435;clear HB;have HO_38:=n0_;have BK435:=n1_;have HB:=n2_;have BK443:=n3_;have GW443:=n4_;have GE443:=n5_;have NB435_443:=n6_;have NB443_435:=n7_;clear n0_ n1_ n2_ n3_ n4_ n5_ n6_ n7_;clear hb hbox hg;have hnb42:=NB443_435.out;have hnc42:=NB435_443.out;have hcz43_0 : w41.cell? ⟨gb443,0,none⟩ = some (.string (⟨#[]⟩ : ByteArray)):=(blk_cell BK443.out 0).trans rfl;have hcz43_1 : w41.cell? ⟨gb443,1,none⟩ = some (.bool false):=(blk_cell BK443.out 1).trans rfl;have hfz43_0:=blk_frozen BK443.out 0;have hfz43_1:=blk_frozen BK443.out 1))
             go_roundg k3
             case measure => have:=HJ1.out;have:=HJ7.out;have:=HK3.out;omega
             case rel => exact ⟨(3),(wrap64 (x40_3 + 1)),(by first | rfl | (simp;done) | (simp [*];done)),(by first | rfl | (simp;done) | (simp [*];done)),H',⟨by have:=HJ1.out;have:=HJ7.out;have:=HK3.out;omega⟩,⟨by (with_reducible repeat (first | apply Kd.R_alloc | apply Kd.R_drewN | apply Kd.R_drew));exact Kd.R_mono (Kd.R_far (p:=⟨gb443,1,none⟩) (Kd.R_far (p:=⟨gb443,0,none⟩) (Kd.R_mono HO_38.out (fun k_ hk => (⟨hk,hk.2⟩ : _ ∧ k_ ≠ gb443))) (fun _ hk => hk.2) (.string ((rd_T101 x38_7 x40_3).f0))) (fun _ hk => hk.2) (.bool false)) (fun _ hk => trivial)⟩,⟨by (with_reducible repeat (first | refine blk_drewN ?_ _ | refine blk_drew ?_ | refine blk_alloc ?_ _));refine blk_far ?_ NB435_443.out _;(with_reducible repeat (first | refine blk_drewN ?_ _ | refine blk_drew ?_ | refine blk_alloc ?_ _));refine blk_far ?_ NB435_443.out _;(with_reducible repeat (first | refine blk_drewN ?_ _ | refine blk_drew ?_ | refine blk_alloc ?_ _));exact BK435.out⟩,⟨by repeat (first | (with_reducible first | exact HB.out | apply below_alloc | apply pw_below_drewN | apply below_drew1 | refine below_set ?_ GE435.out | refine below_set ?_ GE443.out) | exact HB.out)⟩⟩
          ·rw [if_neg c20] at H
           exact absurd H (by simp)
         ·rw [if_neg c19] at H
          exact absurd H (by simp)
        ·rw [if_neg c18] at H
         have c18b0 : decide (x40_3 < x39_7) = false:=decide_eq_false c18
         clear c18
         obtain rfl:=Option.some.inj H
         go_wp2
         go_ret
         exact ⟨by first | rfl | (simp [errW_none,errW_some] <;> rfl) | (simp [*,errW_none,errW_some] <;> rfl),by repeat (first | (with_reducible first | exact HB.out | apply below_alloc | apply pw_below_drewN | apply below_drew1 | refine below_set ?_ GE435.out) | exact HB.out)⟩
end Go.Proofs.Ytnmmdeonkpfccaa.Pr
set_option linter.unusedVariables false
namespace Go.Proofs.Ytnmmdeonkpfccaa.Pr
open Go.RowKit Go.Proofs.YtnmmdeonkpfccaaW.PrintWords Go.Proofs.YtnmmdeonkpfccaaW.PrintLast Go.Proofs.YtnmmdeonkpfccaaW.PrintMore
def nfold : Int → List (List UInt8 × Bool) → Int
 | form,[] => form
 | form,(q,u) :: r => if u = true then (if nameL q = 0 then nfold form r else nameL q) else (if q = [] then nfold form r else nfold 3 r)
def namesV (k : Int) (g p l : List UInt8) : Int:=if k < 0 ∨ 3 < k then 1 else nfold 0 [(g,k != 3),(p,k == 0 || k == 3),(l,k == 0)]
def namesX (x : S51) : Int:=namesV x.f0 x.f1.data.toList x.f2.data.toList x.f3.data.toList
theorem nfold_cons (form : Int) (q : List UInt8) (u : Bool) (r : List (List UInt8 × Bool)) : nfold form ((q,u) :: r) = if u = true then (if nameL q = 0 then nfold form r else nameL q) else (if q = [] then nfold form r else nfold 3 r):=rfl
theorem nfold_zero {form : Int} : ∀ {L : List (List UInt8 × Bool)},nfold form L = 0 → form = 0 ∧ ∀ x ∈ L,(x.2 = true → nameL x.1 = 0) ∧ (x.2 = false → x.1 = []):=by
 intro L
 induction L generalizing form with
 | nil => intro h;exact ⟨h,fun x hx => by cases hx⟩
 | cons x r ih =>
  obtain ⟨q,u⟩:=x
  intro h
  unfold nfold at h
  by_cases hu : u = true
  ·rw [if_pos hu] at h
   by_cases hq : nameL q = 0
   ·rw [if_pos hq] at h
    obtain ⟨h1,h2⟩:=ih h
    refine ⟨h1,fun y hy => ?_⟩
    rcases List.mem_cons.1 hy with rfl | hy
    ·exact ⟨fun _ => hq,fun he => by rw [hu] at he;cases he⟩
    ·exact h2 y hy
   ·rw [if_neg hq] at h;exact absurd h hq
  ·rw [if_neg hu] at h
   by_cases hq : q = []
   ·rw [if_pos hq] at h
    obtain ⟨h1,h2⟩:=ih h
    refine ⟨h1,fun y hy => ?_⟩
    rcases List.mem_cons.1 hy with rfl | hy
    ·exact ⟨fun he => absurd he hu,fun _ => hq⟩
    ·exact h2 y hy
   ·rw [if_neg hq] at h
    have:=(ih h).1
    cases this
theorem nameL_len {q : List UInt8} (h : nameL q = 0) : q.length ≤ 24:=by
 unfold nameL at h
 split at h
 ·cases h
 ·omega
theorem namesX_zero {x : S51} (h : namesX x = 0) : (x.f0 = 0 ∨ x.f0 = 1 ∨ x.f0 = 2 ∨ x.f0 = 3) ∧ x.f1.size ≤ 24 ∧ x.f2.size ≤ 24 ∧ x.f3.size ≤ 24:=by
 unfold namesX namesV at h
 split at h
 ·cases h
 ·rename_i hk
  have hz:=(nfold_zero h).2
  have hl : ∀ q : List UInt8,∀ u : Bool,(u = true → nameL q = 0) ∧ (u = false → q = []) → q.length ≤ 24:=by
   intro q u ⟨h1,h2⟩
   cases u with
   | true => exact nameL_len (h1 rfl)
   | false => rw [h2 rfl];simp
  refine ⟨by omega,?_,?_,?_⟩
  ·have:=hl _ _ (hz _ (.head _));rw [Array.length_toList] at this;exact this
  ·have:=hl _ _ (hz _ (.tail _ (.head _)));rw [Array.length_toList] at this;exact this
  ·have:=hl _ _ (hz _ (.tail _ (.tail _ (.head _))));rw [Array.length_toList] at this;exact this
theorem names_loop (L : List S101) : ∀ (d : Nat) (i : Nat) (form : Int),i + d = L.length → L.length ≤ 10 → ∀ k,d < k → recall_names.l0 k form L (L.length : Int) (i : Int) = some (nfold form ((L.drop i).map fun y => (y.f0.data.toList,y.f1))):=by
 intro d
 induction d with
 | zero =>
  intro i form hi hL k hk
  obtain ⟨k,rfl⟩ : ∃ m,k = m + 1:=⟨k - 1,by omega⟩
  simp only [recall_names.l0]
  rw [if_neg (by omega),List.drop_eq_nil_of_le (by omega)]
  rfl
 | succ d ih =>
  intro i form hi hL k hk
  obtain ⟨k,rfl⟩ : ∃ m,k = m + 1:=⟨k - 1,by omega⟩
  have hlt : i < L.length:=by omega
  have hrd : rd_T101 L (i : Int) = L[i]:=by unfold rd_T101;rw [Int.toNat_natCast,List.getD_eq_getElem?_getD,List.getElem?_eq_getElem hlt];rfl
  have hw : wrap64 ((i : Int) + 1) = ((i + 1 : Nat) : Int):=by unfold wrap64;omega
  simp only [recall_names.l0]
  rw [if_pos (by omega),if_pos (by omega),if_pos (by omega),hrd,hw,List.drop_eq_getElem_cons hlt,List.map_cons,ih (i + 1) form (by omega) hL k (by omega),ih (i + 1) 3 (by omega) hL k (by omega)]
  unfold dimension_Name.f
  simp only [Option.bind_some,ByteArray.toList_eq,nfold_cons]
  by_cases hu : (L[i]).f1 = true
  ·rw [if_pos hu,if_pos hu]
   split <;> rfl
  ·rw [if_neg hu,if_neg hu]
   split <;> rfl
theorem names_is (x : S51) : ∀ k,6 < k → recall_names.f k x.f0 x.f1 x.f2 x.f3 = some (namesX x):=by
 intro k hk
 obtain ⟨k,rfl⟩ : ∃ m,k = m + 1 + 1:=⟨k - 2,by omega⟩
 unfold recall_names.f namesX namesV
 by_cases h0 : x.f0 < 0
 ·rw [if_pos h0,if_pos (.inl h0)]
  simp only [recall_names.j0,if_true]
 ·rw [if_neg h0]
  by_cases h3 : x.f0 > 3
  ·rw [if_pos (.inr h3),decide_eq_true h3]
   simp only [recall_names.j0,if_true]
  ·rw [if_neg (by omega),decide_eq_false h3]
   simp only [recall_names.j0]
   rw [if_neg (by decide)]
   by_cases hz : x.f0 = 0
   ·rw [if_pos hz]
    simp only [Option.bind_some,recall_names.j1]
    have:=names_loop [(⟨x.f1,(x.f0 != 3)⟩ : S101),(⟨x.f2,true⟩ : S101),(⟨x.f3,(x.f0 == 0)⟩ : S101)] 3 0 0 rfl (by simp) k (by omega)
    rw [show ((0 : Nat) : Int) = 0 from rfl] at this
    rw [this,hz];rfl
   ·rw [if_neg hz]
    simp only [Option.bind_some,recall_names.j1]
    have:=names_loop [(⟨x.f1,(x.f0 != 3)⟩ : S101),(⟨x.f2,(x.f0 == 3)⟩ : S101),(⟨x.f3,(x.f0 == 0)⟩ : S101)] 3 0 0 rfl (by simp) k (by omega)
    rw [show ((0 : Nat) : Int) = 0 from rfl] at this
    rw [this]
    have e : (x.f0 == 0) = false:=beq_eq_false_iff_ne.mpr hz
    rw [e];rfl
end Go.Proofs.Ytnmmdeonkpfccaa.Pr
