/- A part of the statement's proof. -/
import Derived.Test.YtnmmdeonkpfccaaB1
namespace Go.Proofs.Ytnmmdeonkpfccaa.Pr
open Go.RowKit Go.Proofs.YtnmmdeonkpfccaaW.PrintWords Go.Proofs.YtnmmdeonkpfccaaW.PrintLast Go.Proofs.YtnmmdeonkpfccaaW.PrintMore
attribute [local go_sem] max2_int min2_int max_two min_two max_three min_three max_four min_four
set_option linter.unusedVariables false
set_option linter.unusedSimpArgs false

/-! ### recall_names: function 43 -/
mutual
def recall_names.j0 : Nat → Bool → Int → ByteArray → ByteArray → ByteArray → Option (Int)
 | 0,_,_,_,_,_ => none
 | k + 1,x14,x482000,x482001,x482002,x482003 => if x14 = true then (some 1) else (if x482000 = 0 then ((some (([(⟨x482001,(x482000 != 3)⟩ : S101),(⟨x482002,true⟩ : S101),(⟨x482003,(x482000 == 0)⟩ : S101)] : List (S101)) : List (S101))).bind fun y482 => (recall_names.j1 k 0 y482 (y482.length : Int) 0)) else ((some (([(⟨x482001,(x482000 != 3)⟩ : S101),(⟨x482002,(x482000 == 3)⟩ : S101),(⟨x482003,(x482000 == 0)⟩ : S101)] : List (S101)) : List (S101))).bind fun y485 => (recall_names.j1 k 0 y485 (y485.length : Int) 0)))
def recall_names.j1 : Nat → Int → List (S101) → Int → Int → Option (Int)
 | 0,_,_,_,_ => none
 | k + 1,x3,x38,x39,x40 => recall_names.l0 k x3 x38 x39 x40
def recall_names.l0 : Nat → Int → List (S101) → Int → Int → Option (Int)
 | 0,_,_,_,_ => none
 | k + 1,x3,x38,x39,x40 => if x40 < x39 then (if 0 ≤ x40 then (if x40 < (x38.length : Int) then (if (rd_T101 x38 x40).f1 = true then ((dimension_Name.f ((rd_T101 x38 x40).f0)).bind fun t490 => (if t490 = 0 then (recall_names.l0 k x3 x38 x39 (wrap64 (x40 + 1))) else (some t490))) else (if ((rd_T101 x38 x40).f0).toList = ([] : List UInt8) then (recall_names.l0 k x3 x38 x39 (wrap64 (x40 + 1))) else (recall_names.l0 k 3 x38 x39 (wrap64 (x40 + 1))))) else (none)) else (none)) else (some x3)
end
def recall_names.f (k : Nat) (a0_0 : Int) (a0_1 : ByteArray) (a0_2 : ByteArray) (a0_3 : ByteArray) : Option (Int):=if a0_0 < 0 then (recall_names.j0 k true a0_0 a0_1 a0_2 a0_3) else (recall_names.j0 k (decide (a0_0 > 3)) a0_0 a0_1 a0_2 a0_3)
theorem recall_names.mono_l : ∀ k,(∀ y0 y1 y2 y3 y4,LeO (recall_names.j0 k y0 y1 y2 y3 y4) (recall_names.j0 (k + 1) y0 y1 y2 y3 y4)) ∧ (∀ y0 y1 y2 y3,LeO (recall_names.j1 k y0 y1 y2 y3) (recall_names.j1 (k + 1) y0 y1 y2 y3)) ∧ (∀ y0 y1 y2 y3,LeO (recall_names.l0 k y0 y1 y2 y3) (recall_names.l0 (k + 1) y0 y1 y2 y3))
 | 0 => ⟨fun _ _ _ _ _ r h => by simp [recall_names.j0] at h,fun _ _ _ _ r h => by simp [recall_names.j1] at h,fun _ _ _ _ r h => by simp [recall_names.l0] at h⟩
 | k + 1 => by
  obtain ⟨ih0,ih1,ih2⟩:=recall_names.mono_l k
  refine ⟨?_,?_,?_⟩
  ·intro y0 y1 y2 y3 y4
   unfold recall_names.j0
   repeat' first
   | (with_reducible exact ih0 _ _ _ _ _)
   | (with_reducible exact ih1 _ _ _ _)
   | (with_reducible exact ih2 _ _ _ _)
   | (with_reducible exact LeO.refl _)
   | (with_reducible exact LeO.none _)
   | (with_reducible refine LeO.ite ?_ ?_)
   | (with_reducible refine LeO.bind ?_ (fun _ => ?_))
   | exact ih0 _ _ _ _ _
   | exact ih1 _ _ _ _
   | exact ih2 _ _ _ _
   | exact LeO.none _
   | refine LeO.ite ?_ ?_
   | refine LeO.bind ?_ (fun _ => ?_)
  ·intro y0 y1 y2 y3
   unfold recall_names.j1
   repeat' first
   | (with_reducible exact ih0 _ _ _ _ _)
   | (with_reducible exact ih1 _ _ _ _)
   | (with_reducible exact ih2 _ _ _ _)
   | (with_reducible exact LeO.refl _)
   | (with_reducible exact LeO.none _)
   | (with_reducible refine LeO.ite ?_ ?_)
   | (with_reducible refine LeO.bind ?_ (fun _ => ?_))
   | exact ih0 _ _ _ _ _
   | exact ih1 _ _ _ _
   | exact ih2 _ _ _ _
   | exact LeO.none _
   | refine LeO.ite ?_ ?_
   | refine LeO.bind ?_ (fun _ => ?_)
  ·intro y0 y1 y2 y3
   unfold recall_names.l0
   repeat' first
   | (with_reducible exact ih0 _ _ _ _ _)
   | (with_reducible exact ih1 _ _ _ _)
   | (with_reducible exact ih2 _ _ _ _)
   | (with_reducible exact LeO.refl _)
   | (with_reducible exact LeO.none _)
   | (with_reducible refine LeO.ite ?_ ?_)
   | (with_reducible refine LeO.bind ?_ (fun _ => ?_))
   | exact ih0 _ _ _ _ _
   | exact ih1 _ _ _ _
   | exact ih2 _ _ _ _
   | exact LeO.none _
   | refine LeO.ite ?_ ?_
   | refine LeO.bind ?_ (fun _ => ?_)
theorem recall_names.mono : ∀ a0 a1 a2 a3 k,LeO (recall_names.f k a0 a1 a2 a3) (recall_names.f (k + 1) a0 a1 a2 a3):=by
 intro a0 a1 a2 a3 k
 obtain ⟨ih0,ih1,ih2⟩:=recall_names.mono_l k
 unfold recall_names.f
 repeat' first
   | (with_reducible exact ih0 _ _ _ _ _)
   | (with_reducible exact ih1 _ _ _ _)
   | (with_reducible exact ih2 _ _ _ _)
   | (with_reducible exact LeO.refl _)
   | (with_reducible exact LeO.none _)
   | (with_reducible refine LeO.ite ?_ ?_)
   | (with_reducible refine LeO.bind ?_ (fun _ => ?_))
   | exact ih0 _ _ _ _ _
   | exact ih1 _ _ _ _
   | exact ih2 _ _ _ _
   | exact LeO.none _
   | refine LeO.ite ?_ ?_
   | refine LeO.bind ?_ (fun _ => ?_)
set_option maxHeartbeats 8000000 in
set_option maxRecDepth 100000 in
theorem recall_names.calls (k : Nat) (a0_0 : Int) (a0_1 : ByteArray) (a0_2 : ByteArray) (a0_3 : ByteArray) (r : Int) (w : World) (h : recall_names.f k a0_0 a0_1 a0_2 a0_3 = some r) :
  Calls Try.prog 43 #[.agg #[.int .i64 a0_0,.string a0_1,.string a0_2,.string a0_3]] w fun e w' => e = .returned (.int .i64 r) ∧ Below w.heap.size w w':=by
 have hu51:=Try.underlying51
 have hu101:=Try.underlying101
 have HB:=Aside0.mk (Below.refl w.heap.size w)
 have H : (if a0_0 < 0 then (recall_names.j0 k true a0_0 a0_1 a0_2 a0_3) else (recall_names.j0 k (decide (a0_0 > 3)) a0_0 a0_1 a0_2 a0_3)) = some r:=h
 clear h
 have HC2:=Aside0.mk H
 clear H
 go_enter Try.func43,Try.ntmps43
 go_upto_region 1 with (first | ((with_reducible refine gate_dst (N:=1) rfl ?_);refine box_event ?hg (N:=1) ?hd (cs:=#[.int .i64 a0_0,.string a0_1,.string a0_2,.string a0_3]) (t:=51) ?hr ?_;(case hd => rfl);(case hg => rfl);(case hr => first | (go_simp;done) | (go_simp;rfl));intro gb481 hg w3 hbox hb;have n0_:=Aside0.mk (below_step (by repeat (first | (with_reducible first | exact HB.out | apply below_alloc | apply pw_below_drewN | apply below_drew1) | exact HB.out)) hb);have n1_:=Aside0.mk (hbox);have n2_:=Aside0.mk ((by rw [hg];exact (below_size (by repeat (first | (with_reducible first | exact HB.out | apply below_alloc | apply pw_below_drewN | apply below_drew1) | exact HB.out))) : w.heap.size ≤ gb481));have n3_:=Aside0.mk ((by rw [hg];exact (below_size (by repeat (first | (with_reducible first | exact HB.out | apply below_alloc | apply pw_below_drewN | apply below_drew1) | exact HB.out))) : w.heap.size ≤ gb481));clear HB;have HB:=n0_;have BK481:=n1_;have GW481:=n2_;have GE481:=n3_;clear n0_ n1_ n2_ n3_;clear hb hbox hg))
 (try simp only [Act.put,List.setIfInBounds_toArray,List.set_cons_zero,List.set_cons_succ])
 go_cut [14] (fun v14 wc => ∃ (kq : Nat) (x14_1 : Bool),v14 = .bool x14_1 ∧ Aside0 (recall_names.j0 kq x14_1 a0_0 a0_1 a0_2 a0_3 = some r) ∧ Aside0 (kq ≤ k) ∧ Aside0 (wc.heap[gb481]? = some (.cells #[.int .i64 a0_0,.string a0_1,.string a0_2,.string a0_3] 51 (0,0))) ∧ Aside0 (Below w.heap.size w wc))
 case first =>
  have H:=HC2.out
  clear HC2
  by_cases c4 : a0_0 < 0
  ·rw [if_pos c4] at H
   have c4b0 : decide (a0_0 < 0) = true:=decide_eq_true c4
   clear c4
   (first | rw [c4b0] | (simp only [i64_w,i32_w];rw [c4b0]) | skip)
   have H':=Aside0.mk H
   clear H
   have hcz5_0 : w3.cell? ⟨gb481,0,none⟩ = some (.int .i64 a0_0):=(blk_cell BK481.out 0).trans rfl
   have hcz5_1 : w3.cell? ⟨gb481,1,none⟩ = some (.string a0_1):=(blk_cell BK481.out 1).trans rfl
   have hcz5_2 : w3.cell? ⟨gb481,2,none⟩ = some (.string a0_2):=(blk_cell BK481.out 2).trans rfl
   have hcz5_3 : w3.cell? ⟨gb481,3,none⟩ = some (.string a0_3):=(blk_cell BK481.out 3).trans rfl
   have hfz5_0:=blk_frozen BK481.out 0
   have hfz5_1:=blk_frozen BK481.out 1
   have hfz5_2:=blk_frozen BK481.out 2
   have hfz5_3:=blk_frozen BK481.out 3
   go_wp2
   go_meet
   case rel => exact ⟨_,(true),(by first | rfl | (simp;done) | (simp [*];done)),H',⟨by first | omega | exact Nat.le_refl _⟩,⟨by (with_reducible repeat (first | refine blk_drewN ?_ _ | refine blk_drew ?_ | refine blk_alloc ?_ _));exact BK481.out⟩,⟨by repeat (first | (with_reducible first | exact HB.out | apply below_alloc | apply pw_below_drewN | apply below_drew1 | refine below_set ?_ GE481.out) | exact HB.out)⟩⟩
  ·rw [if_neg c4] at H
   have c4b0 : decide (a0_0 < 0) = false:=decide_eq_false c4
   clear c4
   (first | rw [c4b0] | (simp only [i64_w,i32_w];rw [c4b0]) | skip)
   have H':=Aside0.mk H
   clear H
   have hcz6_0 : w3.cell? ⟨gb481,0,none⟩ = some (.int .i64 a0_0):=(blk_cell BK481.out 0).trans rfl
   have hcz6_1 : w3.cell? ⟨gb481,1,none⟩ = some (.string a0_1):=(blk_cell BK481.out 1).trans rfl
   have hcz6_2 : w3.cell? ⟨gb481,2,none⟩ = some (.string a0_2):=(blk_cell BK481.out 2).trans rfl
   have hcz6_3 : w3.cell? ⟨gb481,3,none⟩ = some (.string a0_3):=(blk_cell BK481.out 3).trans rfl
   have hfz6_0:=blk_frozen BK481.out 0
   have hfz6_1:=blk_frozen BK481.out 1
   have hfz6_2:=blk_frozen BK481.out 2
   have hfz6_3:=blk_frozen BK481.out 3
   go_wp2
   go_meet
   case rel => exact ⟨_,(decide (a0_0 > 3)),(by first | rfl | (simp;done) | (simp [*];done)),H',⟨by first | omega | exact Nat.le_refl _⟩,⟨by (with_reducible repeat (first | refine blk_drewN ?_ _ | refine blk_drew ?_ | refine blk_alloc ?_ _));exact BK481.out⟩,⟨by repeat (first | (with_reducible first | exact HB.out | apply below_alloc | apply pw_below_drewN | apply below_drew1 | refine below_set ?_ GE481.out) | exact HB.out)⟩⟩
 case rest =>
  clear HC2
  try clear p2
  try clear c4
  try clear c4b0
  try clear hcz5_0
  try clear hcz5_1
  try clear hcz5_2
  try clear hcz5_3
  try clear hcz6_0
  try clear hcz6_1
  try clear hcz6_2
  try clear hcz6_3
  try clear hfz5_0
  try clear hfz5_1
  try clear hfz5_2
  try clear hfz5_3
  try clear hfz6_0
  try clear hfz6_1
  try clear hfz6_2
  try clear hfz6_3
  obtain ⟨kq,x14_1,rfl,HA,HJ1,BK481,HB⟩:=hcut
  cases kq with
  | zero => exact absurd HA.out (by simp [recall_names.j0])
  | succ kj1 =>
   have H:=HA.out
   clear HA
   simp only [recall_names.j0] at H
   by_cases c7 : x14_1 = true
   ·subst c7
    have H1 : (some 1) = some r:=by rw [if_pos rfl] at H;exact H
    clear H
    have H:=H1
    clear H1
    obtain rfl:=Option.some.inj H
    go_wp2
    go_ret
    exact ⟨by first | rfl | (simp [errW_none,errW_some] <;> rfl) | (simp [*,errW_none,errW_some] <;> rfl),by repeat (first | (with_reducible first | exact HB.out | apply below_alloc | apply pw_below_drewN | apply below_drew1 | refine below_set ?_ GE481.out) | exact HB.out)⟩
   ·replace c7:=Bool.eq_false_iff.mpr c7
    subst c7
    have H1 : (if a0_0 = 0 then ((some (([(⟨a0_1,(a0_0 != 3)⟩ : S101),(⟨a0_2,true⟩ : S101),(⟨a0_3,(a0_0 == 0)⟩ : S101)] : List (S101)) : List (S101))).bind fun y482 => (recall_names.j1 kj1 0 y482 (y482.length : Int) 0)) else ((some (([(⟨a0_1,(a0_0 != 3)⟩ : S101),(⟨a0_2,(a0_0 == 3)⟩ : S101),(⟨a0_3,(a0_0 == 0)⟩ : S101)] : List (S101)) : List (S101))).bind fun y485 => (recall_names.j1 kj1 0 y485 (y485.length : Int) 0))) = some r:=by rw [if_neg (show ¬ (false = true) by decide)] at H;exact H
    clear H
    have H:=H1
    clear H1
    have HC8:=Aside0.mk H
    clear H
    go_upto_region 4 with (fail)
    go_cut [38,39,40] (fun v38 v39 v40 wc => ∃ (kq : Nat) (x38_7 : List (S101)) (x39_7 : Int) (x40_7 : Int),v39 = .int .i64 x39_7 ∧ v40 = .int .i64 x40_7 ∧ Aside0 (recall_names.j1 kq 0 x38_7 x39_7 x40_7 = some r) ∧ Aside0 (kq ≤ kj1) ∧ Aside0 (Kd.R k101 101 wc w.heap.size (fun _ => True) v38 x38_7) ∧ Aside0 (wc.heap[gb481]? = some (.cells #[.int .i64 a0_0,.string a0_1,.string a0_2,.string a0_3] 51 (0,0))) ∧ Aside0 (Below w.heap.size w wc))
    case first =>
     have H:=HC8.out
     clear HC8
     by_cases c9 : a0_0 = 0
     ·rw [if_pos c9] at H
      have c9b0 : (a0_0 == 0) = true:=beq_iff_eq.mpr c9
      have c9b1 : (a0_0 != 0) = false:=bne_eq_false_iff_eq.mpr c9
      clear c9
      (first | rw [c9b0] | (simp only [i64_w,i32_w];rw [c9b0]) | skip)
      obtain ⟨y482,hy482⟩ : ∃ y_ : List (S101),y_ = (([(⟨a0_1,(a0_0 != 3)⟩ : S101),(⟨a0_2,true⟩ : S101),(⟨a0_3,(a0_0 == 0)⟩ : S101)] : List (S101))):=⟨_,rfl⟩
      replace H : (recall_names.j1 kj1 0 y482 (y482.length : Int) 0) = some r:=by first | (rw [hy482];with_reducible exact H) | (have H2_:=(Option.bind_some _ _).symm.trans H;rw [hy482];with_reducible exact H2_) | (have H2_:=(Option.bind_some _ _).symm.trans H;with_reducible exact H2_) | with_reducible exact H | (rw [hy482];exact H) | exact H
      have Ny482:=Aside0.mk hy482
      clear hy482
      have H':=Aside0.mk H
      clear H
      have hcz10_0 : wc.cell? ⟨gb481,0,none⟩ = some (.int .i64 a0_0):=(blk_cell BK481.out 0).trans rfl
      have hcz10_1 : wc.cell? ⟨gb481,1,none⟩ = some (.string a0_1):=(blk_cell BK481.out 1).trans rfl
      have hcz10_2 : wc.cell? ⟨gb481,2,none⟩ = some (.string a0_2):=(blk_cell BK481.out 2).trans rfl
      have hcz10_3 : wc.cell? ⟨gb481,3,none⟩ = some (.string a0_3):=(blk_cell BK481.out 3).trans rfl
      have hfz10_0:=blk_frozen BK481.out 0
      have hfz10_1:=blk_frozen BK481.out 1
      have hfz10_2:=blk_frozen BK481.out 2
      have hfz10_3:=blk_frozen BK481.out 3
      go_wp2_with (first | ((with_reducible refine gate_dst (N:=38) rfl ?_);(try refine wpList_unguard rfl rfl ?_);refine Kd.R_lit k101 _ 101 ?hg (N:=38) ?hd (xs:=([(⟨a0_1,(a0_0 != 3)⟩ : S101),(⟨a0_2,true⟩ : S101),(⟨a0_3,(a0_0 == 0)⟩ : S101)] : List (S101))) (inner:=[.string a0_1,.bool (a0_0 != 3),.string a0_2,.bool true,.string a0_3,.bool (a0_0 == 0)]) (ok:=fun _ => True) (okp:=fun _ => True) ?hr ?hp (fun _ hk => hk) trivial (Below.refl _ _) (Nat.le_refl _) (by simp) ?_;(case hd => rfl);(case hg => rfl);(case hr => first | (go_simp;done) | (go_simp;rfl));(case hp => exact (Reps.c2 (show Kd.M k101 _ _ _ (⟨a0_1,(a0_0 != 3)⟩ : S101) [.string a0_1,.bool (a0_0 != 3)] from (k101_mkM _ _ _ (⟨a0_1,(a0_0 != 3)⟩ : S101) )) (Reps.c2 (show Kd.M k101 _ _ _ (⟨a0_2,true⟩ : S101) [.string a0_2,.bool true] from (k101_mkM _ _ _ (⟨a0_2,true⟩ : S101) )) (Reps.c2 (show Kd.M k101 _ _ _ (⟨a0_3,(a0_0 == 0)⟩ : S101) [.string a0_3,.bool (a0_0 == 0)] from (k101_mkM _ _ _ (⟨a0_3,(a0_0 == 0)⟩ : S101) )) (Reps.none _ _)))));intro v483 w11 ho12 hb hg_ hnew_;clear hg_ hnew_;(first | rw [← Ny482.out] at ho12 | (simp only [Int.reduceToNat] at ho12;rw [← Ny482.out] at ho12));have n0_:=Aside0.mk (Kd.R_lower ho12 (below_size (by repeat (first | (with_reducible first | exact HB.out | apply below_alloc | apply pw_below_drewN | apply below_drew1 | refine below_set ?_ GE481.out) | exact HB.out))));have n1_:=Aside0.mk (blk_below (g:=gb481) (o:=.cells #[.int .i64 a0_0,.string a0_1,.string a0_2,.string a0_3] 51 (0,0)) (by (with_reducible repeat (first | refine blk_drewN ?_ _ | refine blk_drew ?_ | refine blk_alloc ?_ _));exact BK481.out) hb);have n2_:=Aside0.mk (below_step (by repeat (first | (with_reducible first | exact HB.out | apply below_alloc | apply pw_below_drewN | apply below_drew1 | refine below_set ?_ GE481.out) | exact HB.out)) hb);clear BK481;clear HB;have HO484:=n0_;have BK481:=n1_;have HB:=n2_;clear n0_ n1_ n2_;clear hb ho12;obtain ⟨Ao13,co13,eo13⟩:=Kd.R_slice HO484.out;subst eo13))
      go_meet
      case rel => exact ⟨_,(y482),((y482.length : Int)),(0),(by first | rfl | (simp;done) | (simp [*];done)),(by first | rfl | (simp;done) | (simp [*];done)),H',⟨by have:=HJ1.out;first | omega | exact Nat.le_refl _⟩,⟨by (with_reducible repeat (first | apply Kd.R_alloc | apply Kd.R_drewN | apply Kd.R_drew));exact HO484.out⟩,⟨by (with_reducible repeat (first | refine blk_drewN ?_ _ | refine blk_drew ?_ | refine blk_alloc ?_ _));exact BK481.out⟩,⟨by repeat (first | (with_reducible first | exact HB.out | apply below_alloc | apply pw_below_drewN | apply below_drew1 | refine below_set ?_ GE481.out) | exact HB.out)⟩⟩
     ·rw [if_neg c9] at H
      have c9b0 : (a0_0 == 0) = false:=beq_eq_false_iff_ne.mpr c9
      have c9b1 : (a0_0 != 0) = true:=bne_iff_ne.mpr c9
      (first | rw [c9b0] | (simp only [i64_w,i32_w];rw [c9b0]) | skip)
      obtain ⟨y485,hy485⟩ : ∃ y_ : List (S101),y_ = (([(⟨a0_1,(a0_0 != 3)⟩ : S101),(⟨a0_2,(a0_0 == 3)⟩ : S101),(⟨a0_3,(a0_0 == 0)⟩ : S101)] : List (S101))):=⟨_,rfl⟩
      replace H : (recall_names.j1 kj1 0 y485 (y485.length : Int) 0) = some r:=by first | (rw [hy485];with_reducible exact H) | (have H2_:=(Option.bind_some _ _).symm.trans H;rw [hy485];with_reducible exact H2_) | (have H2_:=(Option.bind_some _ _).symm.trans H;with_reducible exact H2_) | with_reducible exact H | (rw [hy485];exact H) | exact H
      have Ny485:=Aside0.mk hy485
      clear hy485
      have H':=Aside0.mk H
      clear H
      have hcz14_0 : wc.cell? ⟨gb481,0,none⟩ = some (.int .i64 a0_0):=(blk_cell BK481.out 0).trans rfl
      have hcz14_1 : wc.cell? ⟨gb481,1,none⟩ = some (.string a0_1):=(blk_cell BK481.out 1).trans rfl
      have hcz14_2 : wc.cell? ⟨gb481,2,none⟩ = some (.string a0_2):=(blk_cell BK481.out 2).trans rfl
      have hcz14_3 : wc.cell? ⟨gb481,3,none⟩ = some (.string a0_3):=(blk_cell BK481.out 3).trans rfl
      have hfz14_0:=blk_frozen BK481.out 0
      have hfz14_1:=blk_frozen BK481.out 1
      have hfz14_2:=blk_frozen BK481.out 2
      have hfz14_3:=blk_frozen BK481.out 3
      go_wp2_with (first | ((with_reducible refine gate_dst (N:=38) rfl ?_);(try refine wpList_unguard rfl rfl ?_);refine Kd.R_lit k101 _ 101 ?hg (N:=38) ?hd (xs:=([(⟨a0_1,(a0_0 != 3)⟩ : S101),(⟨a0_2,(a0_0 == 3)⟩ : S101),(⟨a0_3,(a0_0 == 0)⟩ : S101)] : List (S101))) (inner:=[.string a0_1,.bool (a0_0 != 3),.string a0_2,.bool (a0_0 == 3),.string a0_3,.bool (a0_0 == 0)]) (ok:=fun _ => True) (okp:=fun _ => True) ?hr ?hp (fun _ hk => hk) trivial (Below.refl _ _) (Nat.le_refl _) (by simp) ?_;(case hd => rfl);(case hg => rfl);(case hr => first | (go_simp;done) | (go_simp;rfl));(case hp => exact (Reps.c2 (show Kd.M k101 _ _ _ (⟨a0_1,(a0_0 != 3)⟩ : S101) [.string a0_1,.bool (a0_0 != 3)] from (k101_mkM _ _ _ (⟨a0_1,(a0_0 != 3)⟩ : S101) )) (Reps.c2 (show Kd.M k101 _ _ _ (⟨a0_2,(a0_0 == 3)⟩ : S101) [.string a0_2,.bool (a0_0 == 3)] from (k101_mkM _ _ _ (⟨a0_2,(a0_0 == 3)⟩ : S101) )) (Reps.c2 (show Kd.M k101 _ _ _ (⟨a0_3,(a0_0 == 0)⟩ : S101) [.string a0_3,.bool (a0_0 == 0)] from (k101_mkM _ _ _ (⟨a0_3,(a0_0 == 0)⟩ : S101) )) (Reps.none _ _)))));intro v486 w15 ho16 hb hg_ hnew_;clear hg_ hnew_;(first | rw [← Ny485.out] at ho16 | (simp only [Int.reduceToNat] at ho16;rw [← Ny485.out] at ho16));have n0_:=Aside0.mk (Kd.R_lower ho16 (below_size (by repeat (first | (with_reducible first | exact HB.out | apply below_alloc | apply pw_below_drewN | apply below_drew1 | refine below_set ?_ GE481.out) | exact HB.out))));have n1_:=Aside0.mk (blk_below (g:=gb481) (o:=.cells #[.int .i64 a0_0,.string a0_1,.string a0_2,.string a0_3] 51 (0,0)) (by (with_reducible repeat (first | refine blk_drewN ?_ _ | refine blk_drew ?_ | refine blk_alloc ?_ _));exact BK481.out) hb);have n2_:=Aside0.mk (below_step (by repeat (first | (with_reducible first | exact HB.out | apply below_alloc | apply pw_below_drewN | apply below_drew1 | refine below_set ?_ GE481.out) | exact HB.out)) hb);clear BK481;clear HB;have HO487:=n0_;have BK481:=n1_;have HB:=n2_;clear n0_ n1_ n2_;clear hb ho16;obtain ⟨Ao17,co17,eo17⟩:=Kd.R_slice HO487.out;subst eo17))
      go_meet
      case rel => exact ⟨_,(y485),((y485.length : Int)),(0),(by first | rfl | (simp;done) | (simp [*];done)),(by first | rfl | (simp;done) | (simp [*];done)),H',⟨by have:=HJ1.out;first | omega | exact Nat.le_refl _⟩,⟨by (with_reducible repeat (first | apply Kd.R_alloc | apply Kd.R_drewN | apply Kd.R_drew));exact HO487.out⟩,⟨by (with_reducible repeat (first | refine blk_drewN ?_ _ | refine blk_drew ?_ | refine blk_alloc ?_ _));exact BK481.out⟩,⟨by repeat (first | (with_reducible first | exact HB.out | apply below_alloc | apply pw_below_drewN | apply below_drew1 | refine below_set ?_ GE481.out) | exact HB.out)⟩⟩
    case rest =>
     clear HC8
     try clear c2
     try clear p2
     try clear c4
     try clear c4b0
     try clear c7
     try clear c9
     try clear c9b0
     try clear c9b1
     try clear hcz10_0
     try clear hcz10_1
     try clear hcz10_2
     try clear hcz10_3
     try clear hcz14_0
     try clear hcz14_1
     try clear hcz14_2
     try clear hcz14_3
     try clear hcz5_0
     try clear hcz5_1
     try clear hcz5_2
     try clear hcz5_3
     try clear hcz6_0
     try clear hcz6_1
     try clear hcz6_2
     try clear hcz6_3
     try clear hfz10_0
     try clear hfz10_1
     try clear hfz10_2
     try clear hfz10_3
     try clear hfz14_0
     try clear hfz14_1
     try clear hfz14_2
     try clear hfz14_3
     try clear hfz5_0
     try clear hfz5_1
     try clear hfz5_2
     try clear hfz5_3
     try clear hfz6_0
     try clear hfz6_1
     try clear hfz6_2
     try clear hfz6_3
     try clear p2
     obtain ⟨kq,x38_7,x39_7,x40_7,rfl,rfl,HA,HJ7,HO_38,BK481,HB⟩:=hcut
     cases kq with
     | zero => exact absurd HA.out (by simp [recall_names.j1])
     | succ kj7 =>
      have H:=HA.out
      clear HA
      simp only [recall_names.j1] at H
      have H':=Aside0.mk H
      clear H
      go_wp2
      go_loopg [3,40] kj7 (fun kq v3 v40 w' => ∃ (x3_3 : Int) (x40_3 : Int),v3 = .int .i64 x3_3 ∧ v40 = .int .i64 x40_3 ∧ Aside0 (recall_names.l0 kq x3_3 x38_7 x39_7 x40_3 = some r) ∧ Aside0 (kq ≤ kj7) ∧ Aside0 (Kd.R k101 101 w' w.heap.size (fun _ => True) u38 x38_7) ∧ Aside0 (w'.heap[gb481]? = some (.cells #[.int .i64 a0_0,.string a0_1,.string a0_2,.string a0_3] 51 (0,0))) ∧ Aside0 (Below w.heap.size w w'))
      case atStart => exact ⟨(0),(x40_7),(by first | rfl | (simp;done) | (simp [*];done)),(by first | rfl | (simp;done) | (simp [*];done)),H',⟨Nat.le_refl _⟩,⟨by (with_reducible repeat (first | apply Kd.R_alloc | apply Kd.R_drewN | apply Kd.R_drew));exact HO_38.out⟩,⟨by (with_reducible repeat (first | refine blk_drewN ?_ _ | refine blk_drew ?_ | refine blk_alloc ?_ _));exact BK481.out⟩,⟨by repeat (first | (with_reducible first | exact HB.out | apply below_alloc | apply pw_below_drewN | apply below_drew1 | refine below_set ?_ GE481.out) | exact HB.out)⟩⟩
      case round =>
       clear H'
       try clear c2
       try clear p2
       try clear c4
       try clear c4b0
       try clear c7
       try clear c9
       try clear c9b0
       try clear c9b1
       try clear hcz10_0
       try clear hcz10_1
       try clear hcz10_2
       try clear hcz10_3
       try clear hcz14_0
       try clear hcz14_1
       try clear hcz14_2
       try clear hcz14_3
       try clear hcz5_0
       try clear hcz5_1
       try clear hcz5_2
       try clear hcz5_3
       try clear hcz6_0
       try clear hcz6_1
       try clear hcz6_2
       try clear hcz6_3
       try clear hfz10_0
       try clear hfz10_1
       try clear hfz10_2
       try clear hfz10_3
       try clear hfz14_0
       try clear hfz14_1
       try clear hfz14_2
       try clear hfz14_3
       try clear hfz5_0
       try clear hfz5_1
       try clear hfz5_2
       try clear hfz5_3
       try clear hfz6_0
       try clear hfz6_1
       try clear hfz6_2
       try clear hfz6_3
       try clear p2
       obtain ⟨x3_3,x40_3,rfl,rfl,HA,HK3,HO_38,BK481,HB⟩:=hrel
       cases gk with
       | zero => exact absurd HA.out (by simp [recall_names.l0])
       | succ k3 =>
        have H:=HA.out
        clear HA
        simp only [recall_names.l0] at H
        by_cases c18 : x40_3 < x39_7
        ·rw [if_pos c18] at H
         have c18b0 : decide (x40_3 < x39_7) = true:=decide_eq_true c18
         clear c18
         by_cases c19 : 0 ≤ x40_3
         ·rw [if_pos c19] at H
          have c19b0 : decide (0 ≤ x40_3) = true:=decide_eq_true c19
          clear c19
          by_cases c20 : x40_3 < (x38_7.length : Int)
          ·rw [if_pos c20] at H
           have c20b0 : decide (x40_3 < (x38_7.length : Int)) = true:=decide_eq_true c20
           clear c20
           obtain ⟨bq21,hbq21⟩ : ∃ b_ : Bool,b_ = ((rd_T101 x38_7 x40_3).f1):=⟨_,rfl⟩
           replace H : (if bq21 = true then ((dimension_Name.f ((rd_T101 x38_7 x40_3).f0)).bind fun t490 => (if t490 = 0 then (recall_names.l0 k3 x3_3 x38_7 x39_7 (wrap64 (x40_3 + 1))) else (some t490))) else (if ((rd_T101 x38_7 x40_3).f0).toList = ([] : List UInt8) then (recall_names.l0 k3 x3_3 x38_7 x39_7 (wrap64 (x40_3 + 1))) else (recall_names.l0 k3 3 x38_7 x39_7 (wrap64 (x40_3 + 1))))) = some r:=by rw [← hbq21] at H;exact H
           have Nbq21:=Aside0.mk hbq21
           clear hbq21
           by_cases c22 : bq21 = true
           ·subst c22
            have H1 : ((dimension_Name.f ((rd_T101 x38_7 x40_3).f0)).bind fun t490 => (if t490 = 0 then (recall_names.l0 k3 x3_3 x38_7 x39_7 (wrap64 (x40_3 + 1))) else (some t490))) = some r:=by rw [if_pos rfl] at H;exact H
            clear H
            have H:=H1
            clear H1
            replace H:=Option.bind_eq_some_iff.mp H
            obtain ⟨t490,A230,H⟩:=H
            replace H : (if t490 = 0 then (recall_names.l0 k3 x3_3 x38_7 x39_7 (wrap64 (x40_3 + 1))) else (some t490)) = some r:=H
            have A23:=Aside0.mk A230
            clear A230
            by_cases c24 : t490 = 0
            ·rw [if_pos c24] at H
             have c24b0 : (t490 == 0) = true:=beq_iff_eq.mpr c24
             have c24b1 : (t490 != 0) = false:=bne_eq_false_iff_eq.mpr c24
             clear c24
             have H':=Aside0.mk H
             clear H
             obtain ⟨Ao25,co25,eo25⟩:=Kd.R_slice HO_38.out
             subst eo25
             have p488 : 0 ≤ (x40_3 : Int):=of_decide_eq_true (by first | (with_reducible assumption) | assumption)
             have q488 : x40_3 < (x38_7.length : Int):=of_decide_eq_true (by first | (with_reducible assumption) | assumption)
             obtain ⟨ad488,e488,hx488_0,hx488_1⟩:=at_T101 (Kd.R_reads' HO_38.out).2.2 x40_3 p488 q488
             (try rw [← Nbq21.out] at hx488_1)
             cases e488
             replace p488:=eq_true p488
             replace q488:=eq_true q488
             go_wp2_with (first | ((with_reducible refine gate_dst (N:=5) rfl ?_);refine box_event ?hg (N:=5) ?hd (cs:=#[.string (⟨#[]⟩ : ByteArray),.bool false]) (t:=101) ?hr ?_;(case hd => rfl);(case hg => rfl);(case hr => first | (go_simp;done) | (go_simp;rfl));intro gb489 hg w26 hbox hb;have n0_:=Aside0.mk (Kd.R_below (Kd.R_elderB (by (with_reducible repeat (first | apply Kd.R_alloc | apply Kd.R_drewN | apply Kd.R_drew));exact HO_38.out) gb489 (Nat.le_of_eq hg.symm)) hb);have n1_:=Aside0.mk (blk_below (g:=gb481) (o:=.cells #[.int .i64 a0_0,.string a0_1,.string a0_2,.string a0_3] 51 (0,0)) (by (with_reducible repeat (first | refine blk_drewN ?_ _ | refine blk_drew ?_ | refine blk_alloc ?_ _));exact BK481.out) hb);have n2_:=Aside0.mk (below_step (by repeat (first | (with_reducible first | exact HB.out | apply below_alloc | apply pw_below_drewN | apply below_drew1 | refine below_set ?_ GE481.out) | exact HB.out)) hb);have n3_:=Aside0.mk (hbox);have n4_:=Aside0.mk ((by rw [hg];exact (below_size (by repeat (first | (with_reducible first | exact HB.out | apply below_alloc | apply pw_below_drewN | apply below_drew1 | refine below_set ?_ GE481.out) | exact HB.out))) : w.heap.size ≤ gb489));have n5_:=Aside0.mk ((by rw [hg];exact (below_size (by repeat (first | (with_reducible first | exact HB.out | apply below_alloc | apply pw_below_drewN | apply below_drew1 | refine below_set ?_ GE481.out) | exact HB.out))) : w.heap.size ≤ gb489));have n6_:=Aside0.mk ((by rw [hg];exact Nat.ne_of_lt (blk_lt (g:=gb481) (o:=.cells #[.int .i64 a0_0,.string a0_1,.string a0_2,.string a0_3] 51 (0,0)) (by (with_reducible repeat (first | refine blk_drewN ?_ _ | refine blk_drew ?_ | refine blk_alloc ?_ _));exact BK481.out)) : gb481 ≠ gb489));have n7_:=Aside0.mk ((by rw [hg];exact Nat.ne_of_gt (blk_lt (g:=gb481) (o:=.cells #[.int .i64 a0_0,.string a0_1,.string a0_2,.string a0_3] 51 (0,0)) (by (with_reducible repeat (first | refine blk_drewN ?_ _ | refine blk_drew ?_ | refine blk_alloc ?_ _));exact BK481.out)) : gb489 ≠ gb481));clear HO_38;clear BK481;clear HB;have HO_38:=n0_;have BK481:=n1_;have HB:=n2_;have BK489:=n3_;have GW489:=n4_;have GE489:=n5_;have NB481_489:=n6_;have NB489_481:=n7_;clear n0_ n1_ n2_ n3_ n4_ n5_ n6_ n7_;clear hb hbox hg;have hnb27:=NB489_481.out;have hnc27:=NB481_489.out;have hcz28_0 : w26.cell? ⟨gb489,0,none⟩ = some (.string (⟨#[]⟩ : ByteArray)):=(blk_cell BK489.out 0).trans rfl;have hcz28_1 : w26.cell? ⟨gb489,1,none⟩ = some (.bool false):=(blk_cell BK489.out 1).trans rfl;have hfz28_0:=blk_frozen BK489.out 0;have hfz28_1:=blk_frozen BK489.out 1) | ((with_reducible refine gate_callee (f:=49) rfl ?_);refine goesL_ (some 48) rfl rfl Try.func49 (by kernel_rfl) rfl #[.string ((rd_T101 x38_7 x40_3).f0)] rfl (by (try simp only [List.map_toArray,List.map_cons,List.map_nil]);first | done | rfl | (simp only [List.length_drop,List.length_take];rfl)) ?_;(with_reducible refine (dimension_Name.calls ((rd_T101 x38_7 x40_3).f0) t490 _ A23.out).mono ?_);rintro e w29 ⟨rfl,hb⟩;refine ⟨_,rfl,?_⟩;have n0_:=Aside0.mk (Kd.R_below (by (with_reducible repeat (first | apply Kd.R_alloc | apply Kd.R_drewN | apply Kd.R_drew));exact (Kd.R_mono (Kd.R_far (p:=⟨gb489,1,none⟩) (Kd.R_far (p:=⟨gb489,0,none⟩) (Kd.R_mono HO_38.out (fun k_ hk => (⟨hk,hk.2⟩ : _ ∧ k_ ≠ gb489))) (fun _ hk => hk.2) (.string ((rd_T101 x38_7 x40_3).f0))) (fun _ hk => hk.2) (.bool true)) (fun _ h_ => h_.1))) hb);have n1_:=Aside0.mk (blk_below (g:=gb481) (o:=.cells #[.int .i64 a0_0,.string a0_1,.string a0_2,.string a0_3] 51 (0,0)) (by (with_reducible repeat (first | refine blk_drewN ?_ _ | refine blk_drew ?_ | refine blk_alloc ?_ _));refine blk_far ?_ NB481_489.out _;(with_reducible repeat (first | refine blk_drewN ?_ _ | refine blk_drew ?_ | refine blk_alloc ?_ _));refine blk_far ?_ NB481_489.out _;(with_reducible repeat (first | refine blk_drewN ?_ _ | refine blk_drew ?_ | refine blk_alloc ?_ _));exact BK481.out) hb);have n2_:=Aside0.mk (blk_below (g:=gb489) (o:=.cells #[.string ((rd_T101 x38_7 x40_3).f0),.bool true] 101 (0,0)) (by (with_reducible repeat (first | refine blk_drewN ?_ _ | refine blk_drew ?_ | refine blk_alloc ?_ _));refine blk_put (cs:=#[.string ((rd_T101 x38_7 x40_3).f0),.bool false]) ?_ 1 _ rfl;(with_reducible repeat (first | refine blk_drewN ?_ _ | refine blk_drew ?_ | refine blk_alloc ?_ _));refine blk_put (cs:=#[.string (⟨#[]⟩ : ByteArray),.bool false]) ?_ 0 _ rfl;(with_reducible repeat (first | refine blk_drewN ?_ _ | refine blk_drew ?_ | refine blk_alloc ?_ _));exact BK489.out) hb);have n3_:=Aside0.mk (below_step (by repeat (first | (with_reducible first | exact HB.out | apply below_alloc | apply pw_below_drewN | apply below_drew1 | refine below_set ?_ GE481.out | refine below_set ?_ GE489.out) | exact HB.out)) hb);clear HO_38;clear BK481;clear BK489;clear HB;have HO_38:=n0_;have BK481:=n1_;have BK489:=n2_;have HB:=n3_;clear n0_ n1_ n2_ n3_;(try clear hb);(try clear hb2);(try clear hk);(try clear hi)))
             go_roundg k3
             case measure => have:=HJ1.out;have:=HJ7.out;have:=HK3.out;omega
             case rel => exact ⟨(x3_3),(wrap64 (x40_3 + 1)),(by first | rfl | (simp;done) | (simp [*];done)),(by first | rfl | (simp;done) | (simp [*];done)),H',⟨by have:=HJ1.out;have:=HJ7.out;have:=HK3.out;omega⟩,⟨by (with_reducible repeat (first | apply Kd.R_alloc | apply Kd.R_drewN | apply Kd.R_drew));exact Kd.R_mono HO_38.out (fun _ hk => trivial)⟩,⟨by (with_reducible repeat (first | refine blk_drewN ?_ _ | refine blk_drew ?_ | refine blk_alloc ?_ _));exact BK481.out⟩,⟨by repeat (first | (with_reducible first | exact HB.out | apply below_alloc | apply pw_below_drewN | apply below_drew1 | refine below_set ?_ GE481.out | refine below_set ?_ GE489.out) | exact HB.out)⟩⟩
            ·rw [if_neg c24] at H
             have c24b0 : (t490 == 0) = false:=beq_eq_false_iff_ne.mpr c24
             have c24b1 : (t490 != 0) = true:=bne_iff_ne.mpr c24
             obtain rfl:=Option.some.inj H
             obtain ⟨Ao30,co30,eo30⟩:=Kd.R_slice HO_38.out
             subst eo30
             have p488 : 0 ≤ (x40_3 : Int):=of_decide_eq_true (by first | (with_reducible assumption) | assumption)
             have q488 : x40_3 < (x38_7.length : Int):=of_decide_eq_true (by first | (with_reducible assumption) | assumption)
             obtain ⟨ad488,e488,hx488_0,hx488_1⟩:=at_T101 (Kd.R_reads' HO_38.out).2.2 x40_3 p488 q488
             (try rw [← Nbq21.out] at hx488_1)
             cases e488
             replace p488:=eq_true p488
             replace q488:=eq_true q488
             go_wp2_with (first | ((with_reducible refine gate_dst (N:=5) rfl ?_);refine box_event ?hg (N:=5) ?hd (cs:=#[.string (⟨#[]⟩ : ByteArray),.bool false]) (t:=101) ?hr ?_;(case hd => rfl);(case hg => rfl);(case hr => first | (go_simp;done) | (go_simp;rfl));intro gb489 hg w31 hbox hb;have n0_:=Aside0.mk (Kd.R_below (Kd.R_elderB (by (with_reducible repeat (first | apply Kd.R_alloc | apply Kd.R_drewN | apply Kd.R_drew));exact HO_38.out) gb489 (Nat.le_of_eq hg.symm)) hb);have n1_:=Aside0.mk (blk_below (g:=gb481) (o:=.cells #[.int .i64 a0_0,.string a0_1,.string a0_2,.string a0_3] 51 (0,0)) (by (with_reducible repeat (first | refine blk_drewN ?_ _ | refine blk_drew ?_ | refine blk_alloc ?_ _));exact BK481.out) hb);have n2_:=Aside0.mk (below_step (by repeat (first | (with_reducible first | exact HB.out | apply below_alloc | apply pw_below_drewN | apply below_drew1 | refine below_set ?_ GE481.out) | exact HB.out)) hb);have n3_:=Aside0.mk (hbox);have n4_:=Aside0.mk ((by rw [hg];exact (below_size (by repeat (first | (with_reducible first | exact HB.out | apply below_alloc | apply pw_below_drewN | apply below_drew1 | refine below_set ?_ GE481.out) | exact HB.out))) : w.heap.size ≤ gb489));have n5_:=Aside0.mk ((by rw [hg];exact (below_size (by repeat (first | (with_reducible first | exact HB.out | apply below_alloc | apply pw_below_drewN | apply below_drew1 | refine below_set ?_ GE481.out) | exact HB.out))) : w.heap.size ≤ gb489));have n6_:=Aside0.mk ((by rw [hg];exact Nat.ne_of_lt (blk_lt (g:=gb481) (o:=.cells #[.int .i64 a0_0,.string a0_1,.string a0_2,.string a0_3] 51 (0,0)) (by (with_reducible repeat (first | refine blk_drewN ?_ _ | refine blk_drew ?_ | refine blk_alloc ?_ _));exact BK481.out)) : gb481 ≠ gb489));have n7_:=Aside0.mk ((by rw [hg];exact Nat.ne_of_gt (blk_lt (g:=gb481) (o:=.cells #[.int .i64 a0_0,.string a0_1,.string a0_2,.string a0_3] 51 (0,0)) (by (with_reducible repeat (first | refine blk_drewN ?_ _ | refine blk_drew ?_ | refine blk_alloc ?_ _));exact BK481.out)) : gb489 ≠ gb481));clear HO_38;clear BK481;clear HB;have HO_38:=n0_;have BK481:=n1_;have HB:=n2_;have BK489:=n3_;have GW489:=n4_;have GE489:=n5_;have NB481_489:=n6_;have NB489_481:=n7_;clear n0_ n1_ n2_ n3_ n4_ n5_ n6_ n7_;clear hb hbox hg;have hnb32:=NB489_481.out;have hnc32:=NB481_489.out;have hcz33_0 : w31.cell? ⟨gb489,0,none⟩ = some (.string (⟨#[]⟩ : ByteArray)):=(blk_cell BK489.out 0).trans rfl;have hcz33_1 : w31.cell? ⟨gb489,1,none⟩ = some (.bool false):=(blk_cell BK489.out 1).trans rfl;have hfz33_0:=blk_frozen BK489.out 0;have hfz33_1:=blk_frozen BK489.out 1) | ((with_reducible refine gate_callee (f:=49) rfl ?_);refine goesL_ (some 48) rfl rfl Try.func49 (by kernel_rfl) rfl #[.string ((rd_T101 x38_7 x40_3).f0)] rfl (by (try simp only [List.map_toArray,List.map_cons,List.map_nil]);first | done | rfl | (simp only [List.length_drop,List.length_take];rfl)) ?_;(with_reducible refine (dimension_Name.calls ((rd_T101 x38_7 x40_3).f0) t490 _ A23.out).mono ?_);rintro e w34 ⟨rfl,hb⟩;refine ⟨_,rfl,?_⟩;have n0_:=Aside0.mk (Kd.R_below (by (with_reducible repeat (first | apply Kd.R_alloc | apply Kd.R_drewN | apply Kd.R_drew));exact (Kd.R_mono (Kd.R_far (p:=⟨gb489,1,none⟩) (Kd.R_far (p:=⟨gb489,0,none⟩) (Kd.R_mono HO_38.out (fun k_ hk => (⟨hk,hk.2⟩ : _ ∧ k_ ≠ gb489))) (fun _ hk => hk.2) (.string ((rd_T101 x38_7 x40_3).f0))) (fun _ hk => hk.2) (.bool true)) (fun _ h_ => h_.1))) hb);have n1_:=Aside0.mk (blk_below (g:=gb481) (o:=.cells #[.int .i64 a0_0,.string a0_1,.string a0_2,.string a0_3] 51 (0,0)) (by (with_reducible repeat (first | refine blk_drewN ?_ _ | refine blk_drew ?_ | refine blk_alloc ?_ _));refine blk_far ?_ NB481_489.out _;(with_reducible repeat (first | refine blk_drewN ?_ _ | refine blk_drew ?_ | refine blk_alloc ?_ _));refine blk_far ?_ NB481_489.out _;(with_reducible repeat (first | refine blk_drewN ?_ _ | refine blk_drew ?_ | refine blk_alloc ?_ _));exact BK481.out) hb);have n2_:=Aside0.mk (blk_below (g:=gb489) (o:=.cells #[.string ((rd_T101 x38_7 x40_3).f0),.bool true] 101 (0,0)) (by (with_reducible repeat (first | refine blk_drewN ?_ _ | refine blk_drew ?_ | refine blk_alloc ?_ _));refine blk_put (cs:=#[.string ((rd_T101 x38_7 x40_3).f0),.bool false]) ?_ 1 _ rfl;(with_reducible repeat (first | refine blk_drewN ?_ _ | refine blk_drew ?_ | refine blk_alloc ?_ _));refine blk_put (cs:=#[.string (⟨#[]⟩ : ByteArray),.bool false]) ?_ 0 _ rfl;(with_reducible repeat (first | refine blk_drewN ?_ _ | refine blk_drew ?_ | refine blk_alloc ?_ _));exact BK489.out) hb);have n3_:=Aside0.mk (below_step (by repeat (first | (with_reducible first | exact HB.out | apply below_alloc | apply pw_below_drewN | apply below_drew1 | refine below_set ?_ GE481.out | refine below_set ?_ GE489.out) | exact HB.out)) hb);clear HO_38;clear BK481;clear BK489;clear HB;have HO_38:=n0_;have BK481:=n1_;have BK489:=n2_;have HB:=n3_;clear n0_ n1_ n2_ n3_;(try clear hb);(try clear hb2);(try clear hk);(try clear hi)))
             go_ret
             exact ⟨by first | rfl | (simp [errW_none,errW_some] <;> rfl) | (simp [*,errW_none,errW_some] <;> rfl),by repeat (first | (with_reducible first | exact HB.out | apply below_alloc | apply pw_below_drewN | apply below_drew1 | refine below_set ?_ GE481.out | refine below_set ?_ GE489.out) | exact HB.out)⟩
           ·replace c22:=Bool.eq_false_iff.mpr c22
            subst c22
            have H1 : (if ((rd_T101 x38_7 x40_3).f0).toList = ([] : List UInt8) then (recall_names.l0 k3 x3_3 x38_7 x39_7 (wrap64 (x40_3 + 1))) else (recall_names.l0 k3 3 x38_7 x39_7 (wrap64 (x40_3 + 1)))) = some r:=by rw [if_neg (show ¬ (false = true) by decide)] at H;exact H
            clear H
            have H:=H1
            clear H1
            by_cases c35 : ((rd_T101 x38_7 x40_3).f0).toList = ([] : List UInt8)
            ·rw [if_pos c35] at H
             have c35b0 : (((rd_T101 x38_7 x40_3).f0).toList == ([] : List UInt8)) = true:=beq_iff_eq.mpr c35
             have c35b1 : (((rd_T101 x38_7 x40_3).f0).toList != ([] : List UInt8)) = false:=bne_eq_false_iff_eq.mpr c35
             clear c35
             have H':=Aside0.mk H
             clear H
             obtain ⟨Ao36,co36,eo36⟩:=Kd.R_slice HO_38.out
             subst eo36
             have p488 : 0 ≤ (x40_3 : Int):=of_decide_eq_true (by first | (with_reducible assumption) | assumption)
             have q488 : x40_3 < (x38_7.length : Int):=of_decide_eq_true (by first | (with_reducible assumption) | assumption)
             obtain ⟨ad488,e488,hx488_0,hx488_1⟩:=at_T101 (Kd.R_reads' HO_38.out).2.2 x40_3 p488 q488
             (try rw [← Nbq21.out] at hx488_1)
             cases e488
             replace p488:=eq_true p488
             replace q488:=eq_true q488
             go_wp2_with (first | ((with_reducible refine gate_dst (N:=5) rfl ?_);refine box_event ?hg (N:=5) ?hd (cs:=#[.string (⟨#[]⟩ : ByteArray),.bool false]) (t:=101) ?hr ?_;(case hd => rfl);(case hg => rfl);(case hr => first | (go_simp;done) | (go_simp;rfl));intro gb489 hg w37 hbox hb;have n0_:=Aside0.mk (Kd.R_below (Kd.R_elderB (by (with_reducible repeat (first | apply Kd.R_alloc | apply Kd.R_drewN | apply Kd.R_drew));exact HO_38.out) gb489 (Nat.le_of_eq hg.symm)) hb);have n1_:=Aside0.mk (blk_below (g:=gb481) (o:=.cells #[.int .i64 a0_0,.string a0_1,.string a0_2,.string a0_3] 51 (0,0)) (by (with_reducible repeat (first | refine blk_drewN ?_ _ | refine blk_drew ?_ | refine blk_alloc ?_ _));exact BK481.out) hb);have n2_:=Aside0.mk (below_step (by repeat (first | (with_reducible first | exact HB.out | apply below_alloc | apply pw_below_drewN | apply below_drew1 | refine below_set ?_ GE481.out) | exact HB.out)) hb);have n3_:=Aside0.mk (hbox);have n4_:=Aside0.mk ((by rw [hg];exact (below_size (by repeat (first | (with_reducible first | exact HB.out | apply below_alloc | apply pw_below_drewN | apply below_drew1 | refine below_set ?_ GE481.out) | exact HB.out))) : w.heap.size ≤ gb489));have n5_:=Aside0.mk ((by rw [hg];exact (below_size (by repeat (first | (with_reducible first | exact HB.out | apply below_alloc | apply pw_below_drewN | apply below_drew1 | refine below_set ?_ GE481.out) | exact HB.out))) : w.heap.size ≤ gb489));have n6_:=Aside0.mk ((by rw [hg];exact Nat.ne_of_lt (blk_lt (g:=gb481) (o:=.cells #[.int .i64 a0_0,.string a0_1,.string a0_2,.string a0_3] 51 (0,0)) (by (with_reducible repeat (first | refine blk_drewN ?_ _ | refine blk_drew ?_ | refine blk_alloc ?_ _));exact BK481.out)) : gb481 ≠ gb489));have n7_:=Aside0.mk ((by rw [hg];exact Nat.ne_of_gt (blk_lt (g:=gb481) (o:=.cells #[.int .i64 a0_0,.string a0_1,.string a0_2,.string a0_3] 51 (0,0)) (by (with_reducible repeat (first | refine blk_drewN ?_ _ | refine blk_drew ?_ | refine blk_alloc ?_ _));exact BK481.out)) : gb489 ≠ gb481));clear HO_38;clear BK481;clear HB;have HO_38:=n0_;have BK481:=n1_;have HB:=n2_;have BK489:=n3_;have GW489:=n4_;have GE489:=n5_;have NB481_489:=n6_;have NB489_481:=n7_;clear n0_ n1_ n2_ n3_ n4_ n5_ n6_ n7_;clear hb hbox hg;have hnb38:=NB489_481.out;have hnc38:=NB481_489.out;have hcz39_0 : w37.cell? ⟨gb489,0,none⟩ = some (.string (⟨#[]⟩ : ByteArray)):=(blk_cell BK489.out 0).trans rfl;have hcz39_1 : w37.cell? ⟨gb489,1,none⟩ = some (.bool false):=(blk_cell BK489.out 1).trans rfl;have hfz39_0:=blk_frozen BK489.out 0;have hfz39_1:=blk_frozen BK489.out 1))
             go_roundg k3
             case measure => have:=HJ1.out;have:=HJ7.out;have:=HK3.out;omega
             case rel => exact ⟨(x3_3),(wrap64 (x40_3 + 1)),(by first | rfl | (simp;done) | (simp [*];done)),(by first | rfl | (simp;done) | (simp [*];done)),H',⟨by have:=HJ1.out;have:=HJ7.out;have:=HK3.out;omega⟩,⟨by (with_reducible repeat (first | apply Kd.R_alloc | apply Kd.R_drewN | apply Kd.R_drew));exact Kd.R_mono (Kd.R_far (p:=⟨gb489,1,none⟩) (Kd.R_far (p:=⟨gb489,0,none⟩) (Kd.R_mono HO_38.out (fun k_ hk => (⟨hk,hk.2⟩ : _ ∧ k_ ≠ gb489))) (fun _ hk => hk.2) (.string ((rd_T101 x38_7 x40_3).f0))) (fun _ hk => hk.2) (.bool false)) (fun _ hk => trivial)⟩,⟨by (with_reducible repeat (first | refine blk_drewN ?_ _ | refine blk_drew ?_ | refine blk_alloc ?_ _));refine blk_far ?_ NB481_489.out _;(with_reducible repeat (first | refine blk_drewN ?_ _ | refine blk_drew ?_ | refine blk_alloc ?_ _));refine blk_far ?_ NB481_489.out _;(with_reducible repeat (first | refine blk_drewN ?_ _ | refine blk_drew ?_ | refine blk_alloc ?_ _));exact BK481.out⟩,⟨by repeat (first | (with_reducible first | exact HB.out | apply below_alloc | apply pw_below_drewN | apply below_drew1 | refine below_set ?_ GE481.out | refine below_set ?_ GE489.out) | exact HB.out)⟩⟩
            ·rw [if_neg c35] at H
             have c35b0 : (((rd_T101 x38_7 x40_3).f0).toList == ([] : List UInt8)) = false:=beq_eq_false_iff_ne.mpr c35
             have c35b1 : (((rd_T101 x38_7 x40_3).f0).toList != ([] : List UInt8)) = true:=bne_iff_ne.mpr c35
             have H':=Aside0.mk H
             clear H
             obtain ⟨Ao40,co40,eo40⟩:=Kd.R_slice HO_38.out
             subst eo40
             have p488 : 0 ≤ (x40_3 : Int):=of_decide_eq_true (by first | (with_reducible assumption) | assumption)
             have q488 : x40_3 < (x38_7.length : Int):=of_decide_eq_true (by first | (with_reducible assumption) | assumption)
             obtain ⟨ad488,e488,hx488_0,hx488_1⟩:=at_T101 (Kd.R_reads' HO_38.out).2.2 x40_3 p488 q488
             (try rw [← Nbq21.out] at hx488_1)
             cases e488
             replace p488:=eq_true p488
             replace q488:=eq_true q488
             go_wp2_with (first | ((with_reducible refine gate_dst (N:=5) rfl ?_);refine box_event ?hg (N:=5) ?hd (cs:=#[.string (⟨#[]⟩ : ByteArray),.bool false]) (t:=101) ?hr ?_;(case hd => rfl);(case hg => rfl);(case hr => first | (go_simp;done) | (go_simp;rfl));intro gb489 hg w41 hbox hb;have n0_:=Aside0.mk (Kd.R_below (Kd.R_elderB (by (with_reducible repeat (first | apply Kd.R_alloc | apply Kd.R_drewN | apply Kd.R_drew));exact HO_38.out) gb489 (Nat.le_of_eq hg.symm)) hb);have n1_:=Aside0.mk (blk_below (g:=gb481) (o:=.cells #[.int .i64 a0_0,.string a0_1,.string a0_2,.string a0_3] 51 (0,0)) (by (with_reducible repeat (first | refine blk_drewN ?_ _ | refine blk_drew ?_ | refine blk_alloc ?_ _));exact BK481.out) hb);have n2_:=Aside0.mk (below_step (by repeat (first | (with_reducible first | exact HB.out | apply below_alloc | apply pw_below_drewN | apply below_drew1 | refine below_set ?_ GE481.out) | exact HB.out)) hb);have n3_:=Aside0.mk (hbox);have n4_:=Aside0.mk ((by rw [hg];exact (below_size (by repeat (first | (with_reducible first | exact HB.out | apply below_alloc | apply pw_below_drewN | apply below_drew1 | refine below_set ?_ GE481.out) | exact HB.out))) : w.heap.size ≤ gb489));have n5_:=Aside0.mk ((by rw [hg];exact (below_size (by repeat (first | (with_reducible first | exact HB.out | apply below_alloc | apply pw_below_drewN | apply below_drew1 | refine below_set ?_ GE481.out) | exact HB.out))) : w.heap.size ≤ gb489));have n6_:=Aside0.mk ((by rw [hg];exact Nat.ne_of_lt (blk_lt (g:=gb481) (o:=.cells #[.int .i64 a0_0,.string a0_1,.string a0_2,.string a0_3] 51 (0,0)) (by (with_reducible repeat (first | refine blk_drewN ?_ _ | refine blk_drew ?_ | refine blk_alloc ?_ _));exact BK481.out)) : gb481 ≠ gb489));have n7_:=Aside0.mk ((by rw [hg];exact Nat.ne_of_gt (blk_lt (g:=gb481) (o:=.cells #[.int .i64 a0_0,.string a0_1,.string a0_2,.string a0_3] 51 (0,0)) (by (with_reducible repeat (first | refine blk_drewN ?_ _ | refine blk_drew ?_ | refine blk_alloc ?_ _));exact BK481.out)) : gb489 ≠ gb481));clear HO_38;clear BK481;clear HB;have HO_38:=n0_;have BK481:=n1_;have HB:=n2_;have BK489:=n3_;have GW489:=n4_;have GE489:=n5_;have NB481_489:=n6_;have NB489_481:=n7_;clear n0_ n1_ n2_ n3_ n4_ n5_ n6_ n7_;clear hb hbox hg;have hnb42:=NB489_481.out;have hnc42:=NB481_489.out;have hcz43_0 : w41.cell? ⟨gb489,0,none⟩ = some (.string (⟨#[]⟩ : ByteArray)):=(blk_cell BK489.out 0).trans rfl;have hcz43_1 : w41.cell? ⟨gb489,1,none⟩ = some (.bool false):=(blk_cell BK489.out 1).trans rfl;have hfz43_0:=blk_frozen BK489.out 0;have hfz43_1:=blk_frozen BK489.out 1))
             go_roundg k3
             case measure => have:=HJ1.out;have:=HJ7.out;have:=HK3.out;omega
             case rel => exact ⟨(3),(wrap64 (x40_3 + 1)),(by first | rfl | (simp;done) | (simp [*];done)),(by first | rfl | (simp;done) | (simp [*];done)),H',⟨by have:=HJ1.out;have:=HJ7.out;have:=HK3.out;omega⟩,⟨by (with_reducible repeat (first | apply Kd.R_alloc | apply Kd.R_drewN | apply Kd.R_drew));exact Kd.R_mono (Kd.R_far (p:=⟨gb489,1,none⟩) (Kd.R_far (p:=⟨gb489,0,none⟩) (Kd.R_mono HO_38.out (fun k_ hk => (⟨hk,hk.2⟩ : _ ∧ k_ ≠ gb489))) (fun _ hk => hk.2) (.string ((rd_T101 x38_7 x40_3).f0))) (fun _ hk => hk.2) (.bool false)) (fun _ hk => trivial)⟩,⟨by (with_reducible repeat (first | refine blk_drewN ?_ _ | refine blk_drew ?_ | refine blk_alloc ?_ _));refine blk_far ?_ NB481_489.out _;(with_reducible repeat (first | refine blk_drewN ?_ _ | refine blk_drew ?_ | refine blk_alloc ?_ _));refine blk_far ?_ NB481_489.out _;(with_reducible repeat (first | refine blk_drewN ?_ _ | refine blk_drew ?_ | refine blk_alloc ?_ _));exact BK481.out⟩,⟨by repeat (first | (with_reducible first | exact HB.out | apply below_alloc | apply pw_below_drewN | apply below_drew1 | refine below_set ?_ GE481.out | refine below_set ?_ GE489.out) | exact HB.out)⟩⟩
          ·rw [if_neg c20] at H
           exact absurd H (by simp)
         ·rw [if_neg c19] at H
          exact absurd H (by simp)
        ·rw [if_neg c18] at H
         have c18b0 : decide (x40_3 < x39_7) = false:=decide_eq_false c18
         clear c18
         obtain rfl:=Option.some.inj H
         go_wp2
         go_ret
         exact ⟨by first | rfl | (simp [errW_none,errW_some] <;> rfl) | (simp [*,errW_none,errW_some] <;> rfl),by repeat (first | (with_reducible first | exact HB.out | apply below_alloc | apply pw_below_drewN | apply below_drew1 | refine below_set ?_ GE481.out) | exact HB.out)⟩

end Go.Proofs.Ytnmmdeonkpfccaa.Pr
/- The answer of recall.names. -/
set_option linter.unusedVariables false
namespace Go.Proofs.Ytnmmdeonkpfccaa.Pr
open Go.RowKit Go.Proofs.YtnmmdeonkpfccaaW.PrintWords Go.Proofs.YtnmmdeonkpfccaaW.PrintLast Go.Proofs.YtnmmdeonkpfccaaW.PrintMore

/-- The errors of some names, each used or not. -/
def nfold : Int → List (List UInt8 × Bool) → Int
 | form,[] => form
 | form,(q,u) :: r => if u = true then (if nameL q = 0 then nfold form r else nameL q) else (if q = [] then nfold form r else nfold 3 r)
def namesV (k : Int) (g p l : List UInt8) : Int:=if k < 0 ∨ 3 < k then 1 else nfold 0 [(g,k != 3),(p,k == 0 || k == 3),(l,k == 0)]
def namesX (x : S51) : Int:=namesV x.f0 x.f1.data.toList x.f2.data.toList x.f3.data.toList

theorem nfold_cons (form : Int) (q : List UInt8) (u : Bool) (r : List (List UInt8 × Bool)) : nfold form ((q,u) :: r) = if u = true then (if nameL q = 0 then nfold form r else nameL q) else (if q = [] then nfold form r else nfold 3 r):=rfl
theorem nfold_zero {form : Int} : ∀ {L : List (List UInt8 × Bool)},nfold form L = 0 → form = 0 ∧ ∀ x ∈ L,(x.2 = true → nameL x.1 = 0) ∧ (x.2 = false → x.1 = []):=by
 intro L
 induction L generalizing form with
 | nil => intro h;exact ⟨h,fun x hx => by cases hx⟩
 | cons x r ih =>
  obtain ⟨q,u⟩:=x
  intro h
  unfold nfold at h
  by_cases hu : u = true
  ·rw [if_pos hu] at h
   by_cases hq : nameL q = 0
   ·rw [if_pos hq] at h
    obtain ⟨h1,h2⟩:=ih h
    refine ⟨h1,fun y hy => ?_⟩
    rcases List.mem_cons.1 hy with rfl | hy
    ·exact ⟨fun _ => hq,fun he => by rw [hu] at he;cases he⟩
    ·exact h2 y hy
   ·rw [if_neg hq] at h;exact absurd h hq
  ·rw [if_neg hu] at h
   by_cases hq : q = []
   ·rw [if_pos hq] at h
    obtain ⟨h1,h2⟩:=ih h
    refine ⟨h1,fun y hy => ?_⟩
    rcases List.mem_cons.1 hy with rfl | hy
    ·exact ⟨fun he => absurd he hu,fun _ => hq⟩
    ·exact h2 y hy
   ·rw [if_neg hq] at h
    have:=(ih h).1
    cases this
theorem nameL_len {q : List UInt8} (h : nameL q = 0) : q.length ≤ 24:=by
 unfold nameL at h
 split at h
 ·cases h
 ·omega
theorem namesX_zero {x : S51} (h : namesX x = 0) : (x.f0 = 0 ∨ x.f0 = 1 ∨ x.f0 = 2 ∨ x.f0 = 3) ∧ x.f1.size ≤ 24 ∧ x.f2.size ≤ 24 ∧ x.f3.size ≤ 24:=by
 unfold namesX namesV at h
 split at h
 ·cases h
 ·rename_i hk
  have hz:=(nfold_zero h).2
  have hl : ∀ q : List UInt8,∀ u : Bool,(u = true → nameL q = 0) ∧ (u = false → q = []) → q.length ≤ 24:=by
   intro q u ⟨h1,h2⟩
   cases u with
   | true => exact nameL_len (h1 rfl)
   | false => rw [h2 rfl];simp
  refine ⟨by omega,?_,?_,?_⟩
  ·have:=hl _ _ (hz _ (.head _));rw [Array.length_toList] at this;exact this
  ·have:=hl _ _ (hz _ (.tail _ (.head _)));rw [Array.length_toList] at this;exact this
  ·have:=hl _ _ (hz _ (.tail _ (.tail _ (.head _))));rw [Array.length_toList] at this;exact this

theorem names_loop (L : List S101) : ∀ (d : Nat) (i : Nat) (form : Int),i + d = L.length → L.length ≤ 10 → ∀ k,d < k → recall_names.l0 k form L (L.length : Int) (i : Int) = some (nfold form ((L.drop i).map fun y => (y.f0.data.toList,y.f1))):=by
 intro d
 induction d with
 | zero =>
  intro i form hi hL k hk
  obtain ⟨k,rfl⟩ : ∃ m,k = m + 1:=⟨k - 1,by omega⟩
  simp only [recall_names.l0]
  rw [if_neg (by omega),List.drop_eq_nil_of_le (by omega)]
  rfl
 | succ d ih =>
  intro i form hi hL k hk
  obtain ⟨k,rfl⟩ : ∃ m,k = m + 1:=⟨k - 1,by omega⟩
  have hlt : i < L.length:=by omega
  have hrd : rd_T101 L (i : Int) = L[i]:=by unfold rd_T101;rw [Int.toNat_natCast,List.getD_eq_getElem?_getD,List.getElem?_eq_getElem hlt];rfl
  have hw : wrap64 ((i : Int) + 1) = ((i + 1 : Nat) : Int):=by unfold wrap64;omega
  simp only [recall_names.l0]
  rw [if_pos (by omega),if_pos (by omega),if_pos (by omega),hrd,hw,List.drop_eq_getElem_cons hlt,List.map_cons,ih (i + 1) form (by omega) hL k (by omega),ih (i + 1) 3 (by omega) hL k (by omega)]
  unfold dimension_Name.f
  simp only [Option.bind_some,ByteArray.toList_eq,nfold_cons]
  by_cases hu : (L[i]).f1 = true
  ·rw [if_pos hu,if_pos hu]
   split <;> rfl
  ·rw [if_neg hu,if_neg hu]
   split <;> rfl

theorem names_is (x : S51) : ∀ k,6 < k → recall_names.f k x.f0 x.f1 x.f2 x.f3 = some (namesX x):=by
 intro k hk
 obtain ⟨k,rfl⟩ : ∃ m,k = m + 1 + 1:=⟨k - 2,by omega⟩
 unfold recall_names.f namesX namesV
 by_cases h0 : x.f0 < 0
 ·rw [if_pos h0,if_pos (.inl h0)]
  simp only [recall_names.j0,if_true]
 ·rw [if_neg h0]
  by_cases h3 : x.f0 > 3
  ·rw [if_pos (.inr h3),decide_eq_true h3]
   simp only [recall_names.j0,if_true]
  ·rw [if_neg (by omega),decide_eq_false h3]
   simp only [recall_names.j0]
   rw [if_neg (by decide)]
   by_cases hz : x.f0 = 0
   ·rw [if_pos hz]
    simp only [Option.bind_some,recall_names.j1]
    have:=names_loop [(⟨x.f1,(x.f0 != 3)⟩ : S101),(⟨x.f2,true⟩ : S101),(⟨x.f3,(x.f0 == 0)⟩ : S101)] 3 0 0 rfl (by simp) k (by omega)
    rw [show ((0 : Nat) : Int) = 0 from rfl] at this
    rw [this,hz];rfl
   ·rw [if_neg hz]
    simp only [Option.bind_some,recall_names.j1]
    have:=names_loop [(⟨x.f1,(x.f0 != 3)⟩ : S101),(⟨x.f2,(x.f0 == 3)⟩ : S101),(⟨x.f3,(x.f0 == 0)⟩ : S101)] 3 0 0 rfl (by simp) k (by omega)
    rw [show ((0 : Nat) : Int) = 0 from rfl] at this
    rw [this]
    have e : (x.f0 == 0) = false:=beq_eq_false_iff_ne.mpr hz
    rw [e];rfl
end Go.Proofs.Ytnmmdeonkpfccaa.Pr
/- The plain laws: logs as the reference's, names, the form of an event. -/
set_option linter.unusedVariables false
namespace Go.Proofs.Ytnmmdeonkpfccaa.Pr
open Go.RowKit Go.Proofs.YtnmmdeonkpfccaaW.PrintWords Go.Proofs.YtnmmdeonkpfccaaW.PrintLast Go.Proofs.YtnmmdeonkpfccaaW.PrintMore

theorem Ev.const {α : Type} {g : Nat → Option α} {r : α} (h : ∀ k,g (k + 1) = some r) : Ev g r:=Ev.step (f:=fun _ => some r) h (Ev.now r)
theorem drop_at {α : Type} {l : List α} {i : Nat} (h : i < l.length) : ∃ x,l[i]? = some x ∧ l.drop i = x :: l.drop (i + 1) :=
 ⟨l[i],List.getElem?_eq_getElem h,List.drop_eq_getElem_cons h⟩
theorem wrap_nat {i : Nat} (h : i ≤ 9223372036854775806) : wrap64 ((i : Int) + 1) = ((i + 1 : Nat) : Int):=by unfold wrap64;omega
/-- An event, as the reference's. -/
abbrev to67 (x : S51) : S67:=⟨x.f0,x.f1,x.f2,x.f3⟩
def rl (l : List S51) : List S67:=l.map to67
theorem rl_len (l : List S51) : (rl l).length = l.length:=by unfold rl;rw [List.length_map]
theorem rd51_at {l : List S51} {i : Nat} {x : S51} (h : l[i]? = some x) : rd_T51 l (i : Int) = x:=by unfold rd_T51;rw [Int.toNat_natCast,List.getD_eq_getElem?_getD,h];rfl
theorem rd67_at {l : List S51} {i : Nat} {x : S51} (h : l[i]? = some x) : rd_T67 (rl l) (i : Int) = to67 x:=by unfold rd_T67 rl;rw [Int.toNat_natCast,List.getD_eq_getElem?_getD,List.getElem?_map,h];rfl
theorem rdOf_at {α : Type} {d : α} {l : List α} {i : Nat} {x : α} (h : l[i]? = some x) : rdOf d l (i : Int) = x:=by unfold rdOf;rw [Int.toNat_natCast,List.getD_eq_getElem?_getD,h];rfl

theorem own_go (l : List S51) (hn : l.length ≤ 2513169434915) : ∀ (d i : Nat),i ≤ l.length → l.length - i = d → Ev (fun k => metrolablaw53_own.l0 k (rl (l.take i)) l (l.length : Int) (i : Int)) (rl l):=by
 intro d
 induction d with
 | zero =>
  intro i hi hd
  obtain rfl : i = l.length:=by omega
  refine Ev.const fun k => ?_
  simp only [metrolablaw53_own.l0]
  rw [if_neg (by omega),List.take_length]
 | succ d ih =>
  intro i hi hd
  obtain ⟨x,hx,hdr⟩:=drop_at (show i < l.length by omega)
  refine Ev.step (f:=fun k => metrolablaw53_own.l0 k (rl (l.take (i + 1))) l (l.length : Int) ((i + 1 : Nat) : Int)) (fun k => ?_) (ih (i + 1) (by omega) (by omega))
  simp only [metrolablaw53_own.l0]
  rw [if_pos (by omega),if_pos (by omega),if_pos (by omega),if_pos (by rw [rl_len,List.length_take];omega),wrap_nat (by omega),rd51_at hx]
  have e : l.take (i + 1) = l.take i ++ [x]:=by rw [List.take_add_one,hx];rfl
  rw [e]
  unfold rl
  rw [List.map_append]
  rfl
theorem own_ev (l : List S51) (hn : l.length ≤ 2513169434915) : Ev (fun k => metrolablaw53_own.f k l) (rl l):=by
 have:=own_go l hn l.length 0 (by omega) (by omega)
 exact this

theorem few_go (l : List S51) (hn : l.length ≤ 2513169434915) : ∀ (d i : Nat),i ≤ l.length → l.length - i = d → ∃ b,Ev (fun k => metrolabref53_Few.l0 k (rl l) (i : Int)) b:=by
 intro d
 induction d with
 | zero =>
  intro i hi hd
  obtain rfl : i = l.length:=by omega
  refine ⟨true,Ev.const fun k => ?_⟩
  simp only [metrolabref53_Few.l0]
  rw [if_neg (by rw [rl_len];omega)]
 | succ d ih =>
  intro i hi hd
  obtain ⟨b,hb⟩:=ih (i + 1) (by omega) (by omega)
  by_cases h : ((rd_T67 (rl l) i).f1.size : Int) > 60 ∨ ((rd_T67 (rl l) i).f2.size : Int) > 60 ∨ ((rd_T67 (rl l) i).f3.size : Int) > 60
  ·refine ⟨false,Ev.const fun k => ?_⟩
   simp only [metrolabref53_Few.l0]
   rw [if_pos (by rw [rl_len];omega),if_pos (by omega)]
   split
   ·rfl
   ·split
    ·rfl
    ·rw [if_pos (by omega)]
  ·refine ⟨b,Ev.step (f:=fun k => metrolabref53_Few.l0 k (rl l) ((i + 1 : Nat) : Int)) (fun k => ?_) hb⟩
   simp only [metrolabref53_Few.l0]
   rw [if_pos (by rw [rl_len];omega),if_pos (by omega),if_neg (by omega),if_neg (by omega),if_neg (by omega),wrap_nat (by omega)]
theorem Few_ev (l : List S51) (hn : l.length ≤ 2513169434915) : ∃ b,Ev (fun k => metrolabref53_Few.f k (rl l)) b:=by
 obtain ⟨b,hb⟩:=few_go l hn l.length 0 (by omega) (by omega)
 have hj : ∀ c : Bool,∃ b,Ev (fun k => metrolabref53_Few.j0 k (rl l) c) b:=by
  intro c
  cases c
  ·exact ⟨b,Ev.step (f:=fun k => metrolabref53_Few.l0 k (rl l) (0 : Int)) (fun k => by simp only [metrolabref53_Few.j0];rw [if_neg (by decide)]) hb⟩
  ·exact ⟨false,Ev.const fun k => by simp only [metrolabref53_Few.j0];rw [if_pos True.intro]⟩
 unfold metrolabref53_Few.f
 by_cases h1 : ((rl l).length : Int) > 16
 ·simp only [if_pos h1]
  by_cases h2 : ((rl l).length : Int) ≤ 4096
  ·simp only [if_pos h2];exact hj _
  ·simp only [if_neg h2];exact hj _
 ·simp only [if_neg h1];exact hj _
theorem few_ev (l : List S51) (a : ByteArray) (hn : l.length ≤ 2513169434915) : ∃ b,Ev (fun k => metrolablaw53_few.f k l a) b:=by
 obtain ⟨b,hb⟩:=Few_ev l hn
 unfold metrolablaw53_few.f
 cases b
 ·exact ⟨false,Ev.bind (own_ev l hn) (Ev.bind hb (Ev.now _))⟩
 ·exact ⟨_,Ev.bind (own_ev l hn) (Ev.bind hb (Ev.now _))⟩

theorem bt_at {s : ByteArray} {i : Nat} {b : UInt8} (h : s.data.toList[i]? = some b) : bt s (i : Int) = (b.toNat : Int):=by
 unfold bt
 rw [Array.getElem?_toList] at h
 obtain ⟨h1,h2⟩:=Array.getElem?_eq_some_iff.1 h
 rw [dif_pos (show (i : Int).toNat < s.size by rw [Int.toNat_natCast];exact h1)]
 show (((s.data[(i : Int).toNat]'(by rw [Int.toNat_natCast];exact h1)).toNat : Int)) = _
 simp only [Int.toNat_natCast]
 rw [h2]
theorem letter_eq (b : UInt8) : metrolabref17_letter.f (b.toNat : Int) = some (letB b):=by
 unfold metrolabref17_letter.f letB
 split
 ·split
  ·rw [decide_eq_true (by omega)]
  ·split
   ·congr 1;rw [decide_eq_decide];omega
   ·rw [decide_eq_false (by omega)]
 ·split
  ·congr 1;rw [decide_eq_decide];omega
  ·rw [decide_eq_false (by omega)]
theorem size_len (s : ByteArray) : s.size = s.data.toList.length:=by rw [Array.length_toList];rfl
def nmP (b : UInt8) : Bool:=letB b || digB b
theorem name_go (s : ByteArray) (hn : s.size ≤ 24) : ∀ (d i : Nat),i ≤ s.size → s.size - i = d → Ev (fun k => metrolabref17_Name.l0 k s (i : Int)) (if (s.data.toList.drop i).all nmP then 0 else 3):=by
 intro d
 induction d with
 | zero =>
  intro i hi hd
  obtain rfl : i = s.size:=by omega
  refine Ev.const fun k => ?_
  simp only [metrolabref17_Name.l0]
  rw [if_neg (by omega),size_len,List.drop_length];rfl
 | succ d ih =>
  intro i hi hd
  obtain ⟨x,hx,hdr⟩:=drop_at (l:=s.data.toList) (i:=i) (by rw [← size_len];omega)
  have hih:=ih (i + 1) (by omega) (by omega)
  rw [hdr,List.all_cons]
  by_cases h1 : letB x = true
  ·have : nmP x = true:=by unfold nmP;rw [h1];rfl
   rw [this,Bool.true_and]
   refine Ev.step (f:=fun k => metrolabref17_Name.l0 k s ((i + 1 : Nat) : Int)) (fun k => ?_) hih
   simp only [metrolabref17_Name.l0]
   rw [if_pos (by omega),if_pos (by omega),bt_at hx,letter_eq,h1,Option.bind_some,if_pos rfl,wrap_nat (by omega)]
  ·have h1:=Bool.eq_false_iff.2 h1
   by_cases h2 : digB x = true
   ·have : nmP x = true:=by unfold nmP;rw [h2,Bool.or_true]
    rw [this,Bool.true_and]
    unfold digB at h2
    have h2:=of_decide_eq_true h2
    refine Ev.step (f:=fun k => metrolabref17_Name.l0 k s ((i + 1 : Nat) : Int)) (fun k => ?_) hih
    simp only [metrolabref17_Name.l0]
    rw [if_pos (by omega),if_pos (by omega),bt_at hx,letter_eq,h1,Option.bind_some,if_neg (by decide),if_neg (by omega),if_neg (by omega),wrap_nat (by omega)]
   ·have : nmP x = false:=by unfold nmP;rw [h1,Bool.false_or];exact Bool.eq_false_iff.2 h2
    rw [this,Bool.false_and]
    have h2 : ¬ (48 ≤ x.toNat ∧ x.toNat ≤ 57):=fun h => h2 (decide_eq_true h)
    refine Ev.const fun k => ?_
    simp only [metrolabref17_Name.l0]
    rw [if_pos (by omega),if_pos (by omega),bt_at hx,letter_eq,h1,Option.bind_some,if_neg (by decide)]
    by_cases h3 : (x.toNat : Int) < 48
    ·rw [if_pos h3];rfl
    ·rw [if_neg h3,if_pos (by omega)];rfl
theorem refName_ev (s : ByteArray) : Ev (fun k => metrolabref17_Name.f k s) (nameL s.data.toList):=by
 unfold metrolabref17_Name.f nameL
 by_cases h1 : (s.size : Int) > 24
 ·simp only [if_pos h1];rw [if_pos (by rw [← size_len];omega)];exact Ev.now _
 ·simp only [if_neg h1];rw [if_neg (by rw [← size_len];omega)]
  by_cases h2 : (s.size : Int) = 0
  ·simp only [if_pos h2];rw [if_pos (List.eq_nil_of_length_eq_zero (by rw [← size_len];omega))]
   exact Ev.const fun k => by simp only [metrolabref17_Name.j0];rw [if_pos True.intro]
  ·simp only [if_neg h2,if_pos (show (0 : Int) < s.size by omega)]
   obtain ⟨x,hx,hdr⟩:=drop_at (l:=s.data.toList) (i:=0) (by rw [← size_len];omega)
   rw [List.drop_zero] at hdr
   rw [if_neg (by rw [hdr];exact List.cons_ne_nil _ _)]
   have hb:=bt_at hx
   have hl : metrolabref17_letter.f (bt s 0) = some (letB x):=by rw [show bt s 0 = (x.toNat : Int) from hb];exact letter_eq x
   simp only [hl,Option.bind_some]
   have hd : s.data.toList.headD 0 = x:=by rw [hdr];rfl
   rw [hd]
   by_cases h3 : letB x = false
   ·rw [if_pos h3,h3]
    exact Ev.const fun k => by simp only [metrolabref17_Name.j0,Bool.not_false];rw [if_pos True.intro]
   ·have h3 : letB x = true:=by simpa using h3
    rw [if_neg (by rw [h3];decide),h3]
    refine Ev.step (f:=fun k => metrolabref17_Name.l0 k s ((0 : Nat) : Int)) (fun k => by simp only [metrolabref17_Name.j0,Bool.not_true];rw [if_neg (by decide)];rfl) ?_
    exact name_go s (by omega) s.size 0 (by omega) (by omega)
theorem named_ev (s : ByteArray) (u : Bool) : Ev (fun k => metrolabref53_named.f k s u) (if u = true then nameL s.data.toList else 0):=by
 unfold metrolabref53_named.f
 cases u
 ·simp only [if_neg (show ¬ (false = true) by decide)];exact Ev.now _
 ·simp only [if_pos True.intro];exact Ev.bind (refName_ev s) (Ev.now _)
end Go.Proofs.Ytnmmdeonkpfccaa.Pr
namespace Go.Proofs.Ytnmmdeonkpfccaa.Pr
open Go.RowKit Go.Proofs.YtnmmdeonkpfccaaW.PrintWords Go.Proofs.YtnmmdeonkpfccaaW.PrintLast Go.Proofs.YtnmmdeonkpfccaaW.PrintMore
attribute [local go_sem] max2_int min2_int max_two min_two max_three min_three max_four min_four
set_option linter.unusedVariables false
set_option linter.unusedSimpArgs false

/-! ### metrolabref53_Withdrawn: function 45 -/
def metrolabref53_Withdrawn.l0 : Nat → List (S67) → ByteArray → Int → Option (Bool)
 | 0,_,_,_ => none
 | k + 1,x0,x1,x5 => if x5 < (x0.length : Int) then (if 0 ≤ x5 then (if ((rd_T67 x0 x5).f0) = 3 then (if ((rd_T67 x0 x5).f2).toList = x1.toList then (some true) else (metrolabref53_Withdrawn.l0 k x0 x1 (wrap64 (x5 + 1)))) else (metrolabref53_Withdrawn.l0 k x0 x1 (wrap64 (x5 + 1)))) else (none)) else (some false)
def metrolabref53_Withdrawn.f (k : Nat) (l0 : List (S67)) (a1 : ByteArray) : Option (Bool):=metrolabref53_Withdrawn.l0 k l0 a1 0
theorem metrolabref53_Withdrawn.mono_l : ∀ k,(∀ y0 y1 y2,LeO (metrolabref53_Withdrawn.l0 k y0 y1 y2) (metrolabref53_Withdrawn.l0 (k + 1) y0 y1 y2))
 | 0 => fun _ _ _ r h => by simp [metrolabref53_Withdrawn.l0] at h
 | k + 1 => by
  have ih0:=metrolabref53_Withdrawn.mono_l k
  ·intro y0 y1 y2
   unfold metrolabref53_Withdrawn.l0
   repeat' first
   | (with_reducible exact ih0 _ _ _)
   | (with_reducible exact LeO.refl _)
   | (with_reducible exact LeO.none _)
   | (with_reducible refine LeO.ite ?_ ?_)
   | (with_reducible refine LeO.bind ?_ (fun _ => ?_))
   | exact ih0 _ _ _
   | exact LeO.none _
   | refine LeO.ite ?_ ?_
   | refine LeO.bind ?_ (fun _ => ?_)
theorem metrolabref53_Withdrawn.mono : ∀ a0 a1 k,LeO (metrolabref53_Withdrawn.f k a0 a1) (metrolabref53_Withdrawn.f (k + 1) a0 a1):=by
 intro a0 a1 k
 have ih0:=metrolabref53_Withdrawn.mono_l k
 unfold metrolabref53_Withdrawn.f
 repeat' first
   | (with_reducible exact ih0 _ _ _)
   | (with_reducible exact LeO.refl _)
   | (with_reducible exact LeO.none _)
   | (with_reducible refine LeO.ite ?_ ?_)
   | (with_reducible refine LeO.bind ?_ (fun _ => ?_))
   | exact ih0 _ _ _
   | exact LeO.none _
   | refine LeO.ite ?_ ?_
   | refine LeO.bind ?_ (fun _ => ?_)
set_option maxHeartbeats 8000000 in
set_option maxRecDepth 100000 in
theorem metrolabref53_Withdrawn.calls (k : Nat) (A0 : Option Addr) (c0 : Nat) (l0 : List (S67)) (a1 : ByteArray) (r : Bool) (w : World) (hr0 : Kd.C k67 w A0 l0.length l0) (hc0 : l0.length ≤ c0) (h : metrolabref53_Withdrawn.f k l0 a1 = some r) :
  Calls Try.prog 45 #[.slice A0 l0.length c0,.string a1] w fun e w' => e = .returned (.bool r) ∧ Drawn0 w w':=by
 have HR0:=Aside0.mk hr0
 have HC0:=Aside0.mk hc0
 clear hr0 hc0
 have H : (metrolabref53_Withdrawn.l0 k l0 a1 0) = some r:=h
 clear h
 have H':=Aside0.mk H
 clear H
 go_enter Try.func45,Try.ntmps45
 go_wp2
 go_loopg [5] k (fun kq v5 w' => ∃ (x5_1 : Int),v5 = .int .i64 x5_1 ∧ Aside0 (metrolabref53_Withdrawn.l0 kq l0 a1 x5_1 = some r) ∧ Aside0 (kq ≤ k) ∧ Drawn0 w w')
 case atStart => exact ⟨(0),(by first | rfl | (simp;done) | (simp [*];done)),H',⟨Nat.le_refl _⟩,by repeat (first | exact Drawn0.refl _ | apply Drawn0.step)⟩
 case round =>
  clear H'
  try clear p2
  obtain ⟨x5_1,rfl,HA,HK1,⟨m1,rfl⟩⟩:=hrel
  cases gk with
  | zero => exact absurd HA.out (by simp [metrolabref53_Withdrawn.l0])
  | succ k1 =>
   have H:=HA.out
   clear HA
   simp only [metrolabref53_Withdrawn.l0] at H
   by_cases c3 : x5_1 < (l0.length : Int)
   ·rw [if_pos c3] at H
    have c3b0 : decide (x5_1 < (l0.length : Int)) = true:=decide_eq_true c3
    clear c3
    by_cases c4 : 0 ≤ x5_1
    ·rw [if_pos c4] at H
     have c4b0 : decide (0 ≤ x5_1) = true:=decide_eq_true c4
     clear c4
     by_cases c5 : ((rd_T67 l0 x5_1).f0) = 3
     ·rw [if_pos c5] at H
      have c5b0 : (((rd_T67 l0 x5_1).f0) == 3) = true:=beq_iff_eq.mpr c5
      have c5b1 : (((rd_T67 l0 x5_1).f0) != 3) = false:=bne_eq_false_iff_eq.mpr c5
      clear c5
      by_cases c6 : ((rd_T67 l0 x5_1).f2).toList = a1.toList
      ·rw [if_pos c6] at H
       have c6b0 : (((rd_T67 l0 x5_1).f2).toList == a1.toList) = true:=beq_iff_eq.mpr c6
       have c6b1 : (((rd_T67 l0 x5_1).f2).toList != a1.toList) = false:=bne_eq_false_iff_eq.mpr c6
       clear c6
       obtain rfl:=Option.some.inj H
       have p120 : 0 ≤ (x5_1 : Int):=of_decide_eq_true (by first | (with_reducible assumption) | assumption)
       have q120 : x5_1 < (l0.length : Int):=of_decide_eq_true (by first | (with_reducible assumption) | assumption)
       obtain ⟨ad120,e120,hx120_0,hx120_1,hx120_2,hx120_3⟩:=at_T67 HR0.out x5_1 p120 q120
       cases e120
       replace p120:=eq_true p120
       replace q120:=eq_true q120
       have p121 : 0 ≤ (x5_1 : Int):=of_decide_eq_true (by first | (with_reducible assumption) | assumption)
       have q121 : x5_1 < (l0.length : Int):=of_decide_eq_true (by first | (with_reducible assumption) | assumption)
       obtain ⟨ad121,e121,hx121_0,hx121_1,hx121_2,hx121_3⟩:=at_T67 HR0.out x5_1 p121 q121
       obtain rfl : ad120 = ad121:=(by injection e121)
       replace p121:=eq_true p121
       replace q121:=eq_true q121
       go_wp2
       go_ret
       exact ⟨by first | rfl | (simp;done) | (simp [*];done),by repeat (first | exact Drawn0.refl _ | apply Drawn0.step)⟩
      ·rw [if_neg c6] at H
       have c6b0 : (((rd_T67 l0 x5_1).f2).toList == a1.toList) = false:=beq_eq_false_iff_ne.mpr c6
       have c6b1 : (((rd_T67 l0 x5_1).f2).toList != a1.toList) = true:=bne_iff_ne.mpr c6
       have H':=Aside0.mk H
       clear H
       have p120 : 0 ≤ (x5_1 : Int):=of_decide_eq_true (by first | (with_reducible assumption) | assumption)
       have q120 : x5_1 < (l0.length : Int):=of_decide_eq_true (by first | (with_reducible assumption) | assumption)
       obtain ⟨ad120,e120,hx120_0,hx120_1,hx120_2,hx120_3⟩:=at_T67 HR0.out x5_1 p120 q120
       cases e120
       replace p120:=eq_true p120
       replace q120:=eq_true q120
       have p121 : 0 ≤ (x5_1 : Int):=of_decide_eq_true (by first | (with_reducible assumption) | assumption)
       have q121 : x5_1 < (l0.length : Int):=of_decide_eq_true (by first | (with_reducible assumption) | assumption)
       obtain ⟨ad121,e121,hx121_0,hx121_1,hx121_2,hx121_3⟩:=at_T67 HR0.out x5_1 p121 q121
       obtain rfl : ad120 = ad121:=(by injection e121)
       replace p121:=eq_true p121
       replace q121:=eq_true q121
       go_wp2
       go_roundg k1
       case measure => have:=HK1.out;omega
       case rel => exact ⟨(wrap64 (x5_1 + 1)),(by first | rfl | (simp;done) | (simp [*];done)),H',⟨by have:=HK1.out;omega⟩,by repeat (first | exact Drawn0.refl _ | apply Drawn0.step)⟩
     ·rw [if_neg c5] at H
      have c5b0 : (((rd_T67 l0 x5_1).f0) == 3) = false:=beq_eq_false_iff_ne.mpr c5
      have c5b1 : (((rd_T67 l0 x5_1).f0) != 3) = true:=bne_iff_ne.mpr c5
      have H':=Aside0.mk H
      clear H
      have p120 : 0 ≤ (x5_1 : Int):=of_decide_eq_true (by first | (with_reducible assumption) | assumption)
      have q120 : x5_1 < (l0.length : Int):=of_decide_eq_true (by first | (with_reducible assumption) | assumption)
      obtain ⟨ad120,e120,hx120_0,hx120_1,hx120_2,hx120_3⟩:=at_T67 HR0.out x5_1 p120 q120
      cases e120
      replace p120:=eq_true p120
      replace q120:=eq_true q120
      go_wp2
      go_roundg k1
      case measure => have:=HK1.out;omega
      case rel => exact ⟨(wrap64 (x5_1 + 1)),(by first | rfl | (simp;done) | (simp [*];done)),H',⟨by have:=HK1.out;omega⟩,by repeat (first | exact Drawn0.refl _ | apply Drawn0.step)⟩
    ·rw [if_neg c4] at H
     exact absurd H (by simp)
   ·rw [if_neg c3] at H
    have c3b0 : decide (x5_1 < (l0.length : Int)) = false:=decide_eq_false c3
    clear c3
    obtain rfl:=Option.some.inj H
    go_wp2
    go_ret
    exact ⟨by first | rfl | (simp;done) | (simp [*];done),by repeat (first | exact Drawn0.refl _ | apply Drawn0.step)⟩

end Go.Proofs.Ytnmmdeonkpfccaa.Pr
namespace Go.Proofs.Ytnmmdeonkpfccaa.Pr
open Go.RowKit Go.Proofs.YtnmmdeonkpfccaaW.PrintWords Go.Proofs.YtnmmdeonkpfccaaW.PrintLast Go.Proofs.YtnmmdeonkpfccaaW.PrintMore
attribute [local go_sem] max2_int min2_int max_two min_two max_three min_three max_four min_four
set_option linter.unusedVariables false
set_option linter.unusedSimpArgs false

/-! ### metrolabref53_Measured: function 46 -/
def metrolabref53_Measured.l0 : Nat → List (S67) → ByteArray → Int → Option (Bool)
 | 0,_,_,_ => none
 | k + 1,x0,x1,x5 => if x5 < (x0.length : Int) then (if 0 ≤ x5 then (if ((rd_T67 x0 x5).f0) = 0 then (if ((rd_T67 x0 x5).f2).toList = x1.toList then (some true) else (metrolabref53_Measured.l0 k x0 x1 (wrap64 (x5 + 1)))) else (metrolabref53_Measured.l0 k x0 x1 (wrap64 (x5 + 1)))) else (none)) else (some false)
def metrolabref53_Measured.f (k : Nat) (l0 : List (S67)) (a1 : ByteArray) : Option (Bool):=metrolabref53_Measured.l0 k l0 a1 0
theorem metrolabref53_Measured.mono_l : ∀ k,(∀ y0 y1 y2,LeO (metrolabref53_Measured.l0 k y0 y1 y2) (metrolabref53_Measured.l0 (k + 1) y0 y1 y2))
 | 0 => fun _ _ _ r h => by simp [metrolabref53_Measured.l0] at h
 | k + 1 => by
  have ih0:=metrolabref53_Measured.mono_l k
  ·intro y0 y1 y2
   unfold metrolabref53_Measured.l0
   repeat' first
   | (with_reducible exact ih0 _ _ _)
   | (with_reducible exact LeO.refl _)
   | (with_reducible exact LeO.none _)
   | (with_reducible refine LeO.ite ?_ ?_)
   | (with_reducible refine LeO.bind ?_ (fun _ => ?_))
   | exact ih0 _ _ _
   | exact LeO.none _
   | refine LeO.ite ?_ ?_
   | refine LeO.bind ?_ (fun _ => ?_)
theorem metrolabref53_Measured.mono : ∀ a0 a1 k,LeO (metrolabref53_Measured.f k a0 a1) (metrolabref53_Measured.f (k + 1) a0 a1):=by
 intro a0 a1 k
 have ih0:=metrolabref53_Measured.mono_l k
 unfold metrolabref53_Measured.f
 repeat' first
   | (with_reducible exact ih0 _ _ _)
   | (with_reducible exact LeO.refl _)
   | (with_reducible exact LeO.none _)
   | (with_reducible refine LeO.ite ?_ ?_)
   | (with_reducible refine LeO.bind ?_ (fun _ => ?_))
   | exact ih0 _ _ _
   | exact LeO.none _
   | refine LeO.ite ?_ ?_
   | refine LeO.bind ?_ (fun _ => ?_)
set_option maxHeartbeats 8000000 in
set_option maxRecDepth 100000 in
theorem metrolabref53_Measured.calls (k : Nat) (A0 : Option Addr) (c0 : Nat) (l0 : List (S67)) (a1 : ByteArray) (r : Bool) (w : World) (hr0 : Kd.C k67 w A0 l0.length l0) (hc0 : l0.length ≤ c0) (h : metrolabref53_Measured.f k l0 a1 = some r) :
  Calls Try.prog 46 #[.slice A0 l0.length c0,.string a1] w fun e w' => e = .returned (.bool r) ∧ Drawn0 w w':=by
 have HR0:=Aside0.mk hr0
 have HC0:=Aside0.mk hc0
 clear hr0 hc0
 have H : (metrolabref53_Measured.l0 k l0 a1 0) = some r:=h
 clear h
 have H':=Aside0.mk H
 clear H
 go_enter Try.func46,Try.ntmps46
 go_wp2
 go_loopg [5] k (fun kq v5 w' => ∃ (x5_1 : Int),v5 = .int .i64 x5_1 ∧ Aside0 (metrolabref53_Measured.l0 kq l0 a1 x5_1 = some r) ∧ Aside0 (kq ≤ k) ∧ Drawn0 w w')
 case atStart => exact ⟨(0),(by first | rfl | (simp;done) | (simp [*];done)),H',⟨Nat.le_refl _⟩,by repeat (first | exact Drawn0.refl _ | apply Drawn0.step)⟩
 case round =>
  clear H'
  try clear p2
  obtain ⟨x5_1,rfl,HA,HK1,⟨m1,rfl⟩⟩:=hrel
  cases gk with
  | zero => exact absurd HA.out (by simp [metrolabref53_Measured.l0])
  | succ k1 =>
   have H:=HA.out
   clear HA
   simp only [metrolabref53_Measured.l0] at H
   by_cases c3 : x5_1 < (l0.length : Int)
   ·rw [if_pos c3] at H
    have c3b0 : decide (x5_1 < (l0.length : Int)) = true:=decide_eq_true c3
    clear c3
    by_cases c4 : 0 ≤ x5_1
    ·rw [if_pos c4] at H
     have c4b0 : decide (0 ≤ x5_1) = true:=decide_eq_true c4
     clear c4
     by_cases c5 : ((rd_T67 l0 x5_1).f0) = 0
     ·rw [if_pos c5] at H
      have c5b0 : (((rd_T67 l0 x5_1).f0) == 0) = true:=beq_iff_eq.mpr c5
      have c5b1 : (((rd_T67 l0 x5_1).f0) != 0) = false:=bne_eq_false_iff_eq.mpr c5
      clear c5
      by_cases c6 : ((rd_T67 l0 x5_1).f2).toList = a1.toList
      ·rw [if_pos c6] at H
       have c6b0 : (((rd_T67 l0 x5_1).f2).toList == a1.toList) = true:=beq_iff_eq.mpr c6
       have c6b1 : (((rd_T67 l0 x5_1).f2).toList != a1.toList) = false:=bne_eq_false_iff_eq.mpr c6
       clear c6
       obtain rfl:=Option.some.inj H
       have p122 : 0 ≤ (x5_1 : Int):=of_decide_eq_true (by first | (with_reducible assumption) | assumption)
       have q122 : x5_1 < (l0.length : Int):=of_decide_eq_true (by first | (with_reducible assumption) | assumption)
       obtain ⟨ad122,e122,hx122_0,hx122_1,hx122_2,hx122_3⟩:=at_T67 HR0.out x5_1 p122 q122
       cases e122
       replace p122:=eq_true p122
       replace q122:=eq_true q122
       have p123 : 0 ≤ (x5_1 : Int):=of_decide_eq_true (by first | (with_reducible assumption) | assumption)
       have q123 : x5_1 < (l0.length : Int):=of_decide_eq_true (by first | (with_reducible assumption) | assumption)
       obtain ⟨ad123,e123,hx123_0,hx123_1,hx123_2,hx123_3⟩:=at_T67 HR0.out x5_1 p123 q123
       obtain rfl : ad122 = ad123:=(by injection e123)
       replace p123:=eq_true p123
       replace q123:=eq_true q123
       go_wp2
       go_ret
       exact ⟨by first | rfl | (simp;done) | (simp [*];done),by repeat (first | exact Drawn0.refl _ | apply Drawn0.step)⟩
      ·rw [if_neg c6] at H
       have c6b0 : (((rd_T67 l0 x5_1).f2).toList == a1.toList) = false:=beq_eq_false_iff_ne.mpr c6
       have c6b1 : (((rd_T67 l0 x5_1).f2).toList != a1.toList) = true:=bne_iff_ne.mpr c6
       have H':=Aside0.mk H
       clear H
       have p122 : 0 ≤ (x5_1 : Int):=of_decide_eq_true (by first | (with_reducible assumption) | assumption)
       have q122 : x5_1 < (l0.length : Int):=of_decide_eq_true (by first | (with_reducible assumption) | assumption)
       obtain ⟨ad122,e122,hx122_0,hx122_1,hx122_2,hx122_3⟩:=at_T67 HR0.out x5_1 p122 q122
       cases e122
       replace p122:=eq_true p122
       replace q122:=eq_true q122
       have p123 : 0 ≤ (x5_1 : Int):=of_decide_eq_true (by first | (with_reducible assumption) | assumption)
       have q123 : x5_1 < (l0.length : Int):=of_decide_eq_true (by first | (with_reducible assumption) | assumption)
       obtain ⟨ad123,e123,hx123_0,hx123_1,hx123_2,hx123_3⟩:=at_T67 HR0.out x5_1 p123 q123
       obtain rfl : ad122 = ad123:=(by injection e123)
       replace p123:=eq_true p123
       replace q123:=eq_true q123
       go_wp2
       go_roundg k1
       case measure => have:=HK1.out;omega
       case rel => exact ⟨(wrap64 (x5_1 + 1)),(by first | rfl | (simp;done) | (simp [*];done)),H',⟨by have:=HK1.out;omega⟩,by repeat (first | exact Drawn0.refl _ | apply Drawn0.step)⟩
     ·rw [if_neg c5] at H
      have c5b0 : (((rd_T67 l0 x5_1).f0) == 0) = false:=beq_eq_false_iff_ne.mpr c5
      have c5b1 : (((rd_T67 l0 x5_1).f0) != 0) = true:=bne_iff_ne.mpr c5
      have H':=Aside0.mk H
      clear H
      have p122 : 0 ≤ (x5_1 : Int):=of_decide_eq_true (by first | (with_reducible assumption) | assumption)
      have q122 : x5_1 < (l0.length : Int):=of_decide_eq_true (by first | (with_reducible assumption) | assumption)
      obtain ⟨ad122,e122,hx122_0,hx122_1,hx122_2,hx122_3⟩:=at_T67 HR0.out x5_1 p122 q122
      cases e122
      replace p122:=eq_true p122
      replace q122:=eq_true q122
      go_wp2
      go_roundg k1
      case measure => have:=HK1.out;omega
      case rel => exact ⟨(wrap64 (x5_1 + 1)),(by first | rfl | (simp;done) | (simp [*];done)),H',⟨by have:=HK1.out;omega⟩,by repeat (first | exact Drawn0.refl _ | apply Drawn0.step)⟩
    ·rw [if_neg c4] at H
     exact absurd H (by simp)
   ·rw [if_neg c3] at H
    have c3b0 : decide (x5_1 < (l0.length : Int)) = false:=decide_eq_false c3
    clear c3
    obtain rfl:=Option.some.inj H
    go_wp2
    go_ret
    exact ⟨by first | rfl | (simp;done) | (simp [*];done),by repeat (first | exact Drawn0.refl _ | apply Drawn0.step)⟩

end Go.Proofs.Ytnmmdeonkpfccaa.Pr
