/- The statement is proved as it is given, without a condition of ours. -/
import Derived.Test.YtnmmdeonkpfccaaDEnds1
import Derived.Test.YtnmmdeonkpfccaaDEnds2
import Derived.Test.YtnmmdeonkpfccaaDEnds4
import Derived.Test.YtnmmdeonkpfccaaDEnds3
import Derived.Deep.Slices
import Derived.Deep.Fields
import Derived.ChangeSame
import Derived.SizedLaws
import Derived.Laws.Cover1
import Derived.Test.YtnmmdeonkpfccaaRows
import Derived.WalkKit
import Derived.ProofKit
import Derived.OpenShut
import Derived.ShutString
import Derived.ChangeOld
import Derived.Below
namespace Go.Proofs.Ytnmmdeonkpfccaa.Pr
open Go.RowKit Go.Proofs.YtnmmdeonkpfccaaW.PrintWords Go.Proofs.YtnmmdeonkpfccaaW.PrintLast Go.Proofs.YtnmmdeonkpfccaaW.PrintMore
attribute [local go_sem] max2_int min2_int max_two min_two max_three min_three max_four min_four
set_option linter.unusedVariables false
set_option linter.unusedSimpArgs false
def metrolablaw53_RecallEnds.l0 : Nat → List (S51) → List (S51) → List ByteArray → Int → Int → Option (Bool)
 | 0,_,_,_,_,_ => none
 | k + 1,x0,x5,x27,x28,x29 => if x29 < x28 then (if 0 ≤ x29 then (if x29 < (x27.length : Int) then ((recall_Reason.f x0 (rdOf ByteArray.empty x27 x29)).bind fun bt348 => (if bt348.2.2 = 0 then (if bt348.1 < 0 then (some false) else (if bt348.2.1 ≤ bt348.1 then (some false) else (if bt348.2.1 ≥ (x0.length : Int) then (some false) else (if 0 ≤ bt348.1 then (if bt348.1 < (x0.length : Int) then (if ((rd_T51 x0 bt348.1).f2).toList = (rdOf ByteArray.empty x27 x29).toList then (if ((rd_T51 x0 bt348.1).f0) = 0 then (if 0 ≤ bt348.2.1 then (if bt348.2.1 < (x0.length : Int) then (if ((rd_T51 x0 bt348.2.1).f0) = 2 then (if ((rd_T51 x0 bt348.2.1).f1).toList = ((rd_T51 x0 bt348.1).f1).toList then (if x5.length < 2513169434916 then (metrolablaw53_RecallEnds.l0 k x0 (x5 ++ [(⟨3,(⟨#[]⟩ : ByteArray),rdOf ByteArray.empty x27 x29,(⟨#[]⟩ : ByteArray)⟩ : S51)]) x27 x28 (wrap64 (x29 + 1))) else (none)) else (some false)) else (some false)) else (none)) else (none)) else (some false)) else (some false)) else (none)) else (none))))) else (some false))) else (none)) else (none)) else ((recall_Parts.f x5).bind fun bt359 => ((recall_Lots.f x5).bind fun bt363 => (if (wrap64 (bt359.2 + bt363.2)) = 0 then (if (bt359.1.length : Int) = 0 then (if (bt363.1.length : Int) = 0 then ((metrolablaw53_awake.f).bind fun t367 => (some t367)) else (some false)) else (some false)) else (some false))))
def metrolablaw53_RecallEnds.f (k : Nat) (l0 : List (S51)) : Option (Bool):=(metrolablaw53_right.f k l0).bind fun t338 => (if t338 = true then ((recall_Parts.f l0).bind fun bt340 => (if bt340.2 = 0 then ((recall_Event_31.f l0).bind fun t344 => (metrolablaw53_RecallEnds.l0 k l0 t344 bt340.1 (bt340.1.length : Int) 0)) else (some false))) else ((metrolablaw53_awake.f).bind fun t339 => (some t339)))
set_option maxHeartbeats 8000000 in
set_option maxRecDepth 100000 in
theorem metrolablaw53_RecallEnds.calls (k : Nat) (A0 : Option Addr) (c0 : Nat) (l0 : List (S51)) (r : Bool) (w : World) (hr0 : Kd.C k51 w A0 l0.length l0) (hc0 : l0.length ≤ c0) (hlaw : Aside0 (r = true)) (h : metrolablaw53_RecallEnds.f k l0 = some r) :
  Calls Try.prog 7 #[.slice A0 l0.length c0] w fun e w' => e = .returned (.bool r) ∧ Below w.heap.size w w':=by
 have hu51:=Try.underlying51
 have HR0:=Aside0.mk hr0
 have HC0:=Aside0.mk hc0
 clear hr0 hc0
 have HB:=Aside0.mk (Below.refl w.heap.size w)
 have H : ((metrolablaw53_right.f k l0).bind fun t338 => (if t338 = true then ((recall_Parts.f l0).bind fun bt340 => (if bt340.2 = 0 then ((recall_Event_31.f l0).bind fun t344 => (metrolablaw53_RecallEnds.l0 k l0 t344 bt340.1 (bt340.1.length : Int) 0)) else (some false))) else ((metrolablaw53_awake.f).bind fun t339 => (some t339)))) = some r:=h
 clear h
 replace H:=Option.bind_eq_some_iff.mp H
 obtain ⟨t338,A20,H⟩:=H
 replace H : (if t338 = true then ((recall_Parts.f l0).bind fun bt340 => (if bt340.2 = 0 then ((recall_Event_31.f l0).bind fun t344 => (metrolablaw53_RecallEnds.l0 k l0 t344 bt340.1 (bt340.1.length : Int) 0)) else (some false))) else ((metrolablaw53_awake.f).bind fun t339 => (some t339))) = some r:=H
 have A2:=Aside0.mk A20
 clear A20
 by_cases c3 : t338 = true
 ·subst c3
  have H1 : ((recall_Parts.f l0).bind fun bt340 => (if bt340.2 = 0 then ((recall_Event_31.f l0).bind fun t344 => (metrolablaw53_RecallEnds.l0 k l0 t344 bt340.1 (bt340.1.length : Int) 0)) else (some false))) = some r:=by rw [if_pos rfl] at H;exact H
  clear H
  have H:=H1
  clear H1
  replace H:=Option.bind_eq_some_iff.mp H
  obtain ⟨⟨t340,t341⟩,A40,H⟩:=H
  replace H : (if t341 = 0 then ((recall_Event_31.f l0).bind fun t344 => (metrolablaw53_RecallEnds.l0 k l0 t344 t340 (t340.length : Int) 0)) else (some false)) = some r:=H
  have A4:=Aside0.mk A40
  clear A40
  by_cases c5 : t341 = 0
  ·rw [if_pos c5] at H
   have c5b0 : (t341 == 0) = true:=beq_iff_eq.mpr c5
   have c5b1 : (t341 != 0) = false:=bne_eq_false_iff_eq.mpr c5
   clear c5
   replace H:=Option.bind_eq_some_iff.mp H
   obtain ⟨t344,A60,H⟩:=H
   replace H : (metrolablaw53_RecallEnds.l0 k l0 t344 t340 (t340.length : Int) 0) = some r:=H
   have A6:=Aside0.mk A60
   clear A60
   have H':=Aside0.mk H
   clear H
   go_enter Try.func7,Try.ntmps7
   go_wp2_with (first | (go_at_call 28;(with_reducible refine (metrolablaw53_right.calls k _ _ l0 true _ ?side1 ?side2 A2.out).mono ?_);(case side1 => repeat (first | exact HR0.out | (with_reducible refine Kd.C_alloc ?_ _) | (with_reducible refine Kd.C_drewN ?_ _) | (with_reducible refine Kd.C_drew ?_)));(case side2 => exact HC0.out);rintro e w7 ⟨rfl,hb⟩;have n0_:=Aside0.mk (below_step (by repeat (first | (with_reducible first | exact HB.out | apply below_alloc | apply pw_below_drewN | apply below_drew1) | exact HB.out)) hb);clear HB;have HB:=n0_;clear n0_;(try clear hb);(try clear hb2);(try clear hk);(try clear hi)) | (go_at_call 14;(with_reducible refine (recall_Parts.calls _ _ l0 t340 t341 _ ?side1 ?side2 A4.out).mono ?_);(case side1 => repeat (first | exact (Kd.C_below HR0.out HB.out) | (with_reducible refine Kd.C_alloc ?_ _) | (with_reducible refine Kd.C_drewN ?_ _) | (with_reducible refine Kd.C_drew ?_)));(case side2 => exact HC0.out);rintro e w8 ⟨v342,rfl,ho0,hb⟩;have n0_:=Aside0.mk (Kd.R_lower ho0 (below_size (by repeat (first | (with_reducible first | exact HB.out | apply below_alloc | apply pw_below_drewN | apply below_drew1) | exact HB.out))));have n1_:=Aside0.mk (below_step (by repeat (first | (with_reducible first | exact HB.out | apply below_alloc | apply pw_below_drewN | apply below_drew1) | exact HB.out)) hb);clear HB;have HO343:=n0_;have HB:=n1_;clear n0_ n1_;(try clear hb);(try clear hb2);(try clear hk);(try clear hi);(try clear ho0)) | (go_at_call 31;(with_reducible refine (recall_Event_31.calls _ _ l0 t344 _ ?side1 ?side2 A6.out).mono ?_);(case side1 => repeat (first | exact (Kd.C_below HR0.out HB.out) | (with_reducible refine Kd.C_alloc ?_ _) | (with_reducible refine Kd.C_drewN ?_ _) | (with_reducible refine Kd.C_drew ?_)));(case side2 => exact HC0.out);rintro e w9 ⟨v345,rfl,ho0,hb⟩;have n0_:=Aside0.mk (Kd.R_below (by (with_reducible repeat (first | apply Kd.R_alloc | apply Kd.R_drewN | apply Kd.R_drew));exact HO343.out) hb);have n1_:=Aside0.mk (Kd.R_lower ho0 (below_size (by repeat (first | (with_reducible first | exact HB.out | apply below_alloc | apply pw_below_drewN | apply below_drew1) | exact HB.out))));have n2_:=Aside0.mk (below_step (by repeat (first | (with_reducible first | exact HB.out | apply below_alloc | apply pw_below_drewN | apply below_drew1) | exact HB.out)) hb);clear HO343;clear HB;have HO343:=n0_;have HO346:=n1_;have HB:=n2_;clear n0_ n1_ n2_;(try clear hb);(try clear hb2);(try clear hk);(try clear hi);(try clear ho0);obtain ⟨Ao10,co10,eo10⟩:=Kd.R_slice HO343.out;subst eo10))
   repeat (go_quiet (first | (go_at_call 28;(with_reducible refine (metrolablaw53_right.calls k _ _ l0 true _ ?side1 ?side2 A2.out).mono ?_);(case side1 => repeat (first | exact HR0.out | (with_reducible refine Kd.C_alloc ?_ _) | (with_reducible refine Kd.C_drewN ?_ _) | (with_reducible refine Kd.C_drew ?_)));(case side2 => exact HC0.out);rintro e w7 ⟨rfl,hb⟩;have n0_:=Aside0.mk (below_step (by repeat (first | (with_reducible first | exact HB.out | apply below_alloc | apply pw_below_drewN | apply below_drew1) | exact HB.out)) hb);clear HB;have HB:=n0_;clear n0_;(try clear hb);(try clear hb2);(try clear hk);(try clear hi)) | (go_at_call 14;(with_reducible refine (recall_Parts.calls _ _ l0 t340 t341 _ ?side1 ?side2 A4.out).mono ?_);(case side1 => repeat (first | exact (Kd.C_below HR0.out HB.out) | (with_reducible refine Kd.C_alloc ?_ _) | (with_reducible refine Kd.C_drewN ?_ _) | (with_reducible refine Kd.C_drew ?_)));(case side2 => exact HC0.out);rintro e w8 ⟨v342,rfl,ho0,hb⟩;have n0_:=Aside0.mk (Kd.R_lower ho0 (below_size (by repeat (first | (with_reducible first | exact HB.out | apply below_alloc | apply pw_below_drewN | apply below_drew1) | exact HB.out))));have n1_:=Aside0.mk (below_step (by repeat (first | (with_reducible first | exact HB.out | apply below_alloc | apply pw_below_drewN | apply below_drew1) | exact HB.out)) hb);clear HB;have HO343:=n0_;have HB:=n1_;clear n0_ n1_;(try clear hb);(try clear hb2);(try clear hk);(try clear hi);(try clear ho0)) | (go_at_call 31;(with_reducible refine (recall_Event_31.calls _ _ l0 t344 _ ?side1 ?side2 A6.out).mono ?_);(case side1 => repeat (first | exact (Kd.C_below HR0.out HB.out) | (with_reducible refine Kd.C_alloc ?_ _) | (with_reducible refine Kd.C_drewN ?_ _) | (with_reducible refine Kd.C_drew ?_)));(case side2 => exact HC0.out);rintro e w9 ⟨v345,rfl,ho0,hb⟩;have n0_:=Aside0.mk (Kd.R_below (by (with_reducible repeat (first | apply Kd.R_alloc | apply Kd.R_drewN | apply Kd.R_drew));exact HO343.out) hb);have n1_:=Aside0.mk (Kd.R_lower ho0 (below_size (by repeat (first | (with_reducible first | exact HB.out | apply below_alloc | apply pw_below_drewN | apply below_drew1) | exact HB.out))));have n2_:=Aside0.mk (below_step (by repeat (first | (with_reducible first | exact HB.out | apply below_alloc | apply pw_below_drewN | apply below_drew1) | exact HB.out)) hb);clear HO343;clear HB;have HO343:=n0_;have HO346:=n1_;have HB:=n2_;clear n0_ n1_ n2_;(try clear hb);(try clear hb2);(try clear hk);(try clear hi);(try clear ho0);obtain ⟨Ao10,co10,eo10⟩:=Kd.R_slice HO343.out;subst eo10));try go_wp2_with (first | (go_at_call 28;(with_reducible refine (metrolablaw53_right.calls k _ _ l0 true _ ?side1 ?side2 A2.out).mono ?_);(case side1 => repeat (first | exact HR0.out | (with_reducible refine Kd.C_alloc ?_ _) | (with_reducible refine Kd.C_drewN ?_ _) | (with_reducible refine Kd.C_drew ?_)));(case side2 => exact HC0.out);rintro e w7 ⟨rfl,hb⟩;have n0_:=Aside0.mk (below_step (by repeat (first | (with_reducible first | exact HB.out | apply below_alloc | apply pw_below_drewN | apply below_drew1) | exact HB.out)) hb);clear HB;have HB:=n0_;clear n0_;(try clear hb);(try clear hb2);(try clear hk);(try clear hi)) | (go_at_call 14;(with_reducible refine (recall_Parts.calls _ _ l0 t340 t341 _ ?side1 ?side2 A4.out).mono ?_);(case side1 => repeat (first | exact (Kd.C_below HR0.out HB.out) | (with_reducible refine Kd.C_alloc ?_ _) | (with_reducible refine Kd.C_drewN ?_ _) | (with_reducible refine Kd.C_drew ?_)));(case side2 => exact HC0.out);rintro e w8 ⟨v342,rfl,ho0,hb⟩;have n0_:=Aside0.mk (Kd.R_lower ho0 (below_size (by repeat (first | (with_reducible first | exact HB.out | apply below_alloc | apply pw_below_drewN | apply below_drew1) | exact HB.out))));have n1_:=Aside0.mk (below_step (by repeat (first | (with_reducible first | exact HB.out | apply below_alloc | apply pw_below_drewN | apply below_drew1) | exact HB.out)) hb);clear HB;have HO343:=n0_;have HB:=n1_;clear n0_ n1_;(try clear hb);(try clear hb2);(try clear hk);(try clear hi);(try clear ho0)) | (go_at_call 31;(with_reducible refine (recall_Event_31.calls _ _ l0 t344 _ ?side1 ?side2 A6.out).mono ?_);(case side1 => repeat (first | exact (Kd.C_below HR0.out HB.out) | (with_reducible refine Kd.C_alloc ?_ _) | (with_reducible refine Kd.C_drewN ?_ _) | (with_reducible refine Kd.C_drew ?_)));(case side2 => exact HC0.out);rintro e w9 ⟨v345,rfl,ho0,hb⟩;have n0_:=Aside0.mk (Kd.R_below (by (with_reducible repeat (first | apply Kd.R_alloc | apply Kd.R_drewN | apply Kd.R_drew));exact HO343.out) hb);have n1_:=Aside0.mk (Kd.R_lower ho0 (below_size (by repeat (first | (with_reducible first | exact HB.out | apply below_alloc | apply pw_below_drewN | apply below_drew1) | exact HB.out))));have n2_:=Aside0.mk (below_step (by repeat (first | (with_reducible first | exact HB.out | apply below_alloc | apply pw_below_drewN | apply below_drew1) | exact HB.out)) hb);clear HO343;clear HB;have HO343:=n0_;have HO346:=n1_;have HB:=n2_;clear n0_ n1_ n2_;(try clear hb);(try clear hb2);(try clear hk);(try clear hi);(try clear ho0);obtain ⟨Ao10,co10,eo10⟩:=Kd.R_slice HO343.out;subst eo10)))
   go_loopg [5,29] k (fun kq v5 v29 w' => ∃ (x5_1 : List (S51)) (x29_1 : Int),v29 = .int .i64 x29_1 ∧ Aside0 (metrolablaw53_RecallEnds.l0 kq l0 x5_1 t340 (t340.length : Int) x29_1 = some r) ∧ Aside0 (kq ≤ k) ∧ Aside0 (Kd.R k51 51 w' w.heap.size (fun _ => True) v5 x5_1) ∧ Aside0 (Kd.R Kd.string 9 w' w.heap.size (fun _ => True) (.slice Ao10 t340.length co10) t340) ∧ Aside0 (Below w.heap.size w w'))
   case atStart => exact ⟨(t344),(0),(by first | rfl | (simp;done) | (simp [*];done)),H',⟨Nat.le_refl _⟩,⟨by (with_reducible repeat (first | apply Kd.R_alloc | apply Kd.R_drewN | apply Kd.R_drew));exact HO346.out⟩,⟨by (with_reducible repeat (first | apply Kd.R_alloc | apply Kd.R_drewN | apply Kd.R_drew));exact HO343.out⟩,⟨by repeat (first | (with_reducible first | exact HB.out | apply below_alloc | apply pw_below_drewN | apply below_drew1) | exact HB.out)⟩⟩
   case round =>
    clear H'
    try clear p2
    try clear c3
    try clear c5
    try clear c5b0
    try clear c5b1
    try clear c7
    obtain ⟨x5_1,x29_1,rfl,HA,HK1,HO_5,HO_27,HB⟩:=hrel
    cases gk with
    | zero => exact absurd HA.out (by simp [metrolablaw53_RecallEnds.l0])
    | succ k1 =>
     have H:=HA.out
     clear HA
     simp only [metrolablaw53_RecallEnds.l0] at H
     by_cases c11 : x29_1 < (t340.length : Int)
     ·rw [if_pos c11] at H
      have c11b0 : decide (x29_1 < (t340.length : Int)) = true:=decide_eq_true c11
      clear c11
      by_cases c12 : 0 ≤ x29_1
      ·rw [if_pos c12] at H
       have c12b0 : decide (0 ≤ x29_1) = true:=decide_eq_true c12
       clear c12
       by_cases c13 : x29_1 < (t340.length : Int)
       ·rw [if_pos c13] at H
        have c13b0 : decide (x29_1 < (t340.length : Int)) = true:=decide_eq_true c13
        clear c13
        replace H:=Option.bind_eq_some_iff.mp H
        obtain ⟨⟨t348,t349,t350⟩,A140,H⟩:=H
        replace H : (if t350 = 0 then (if t348 < 0 then (some false) else (if t349 ≤ t348 then (some false) else (if t349 ≥ (l0.length : Int) then (some false) else (if 0 ≤ t348 then (if t348 < (l0.length : Int) then (if ((rd_T51 l0 t348).f2).toList = (rdOf ByteArray.empty t340 x29_1).toList then (if ((rd_T51 l0 t348).f0) = 0 then (if 0 ≤ t349 then (if t349 < (l0.length : Int) then (if ((rd_T51 l0 t349).f0) = 2 then (if ((rd_T51 l0 t349).f1).toList = ((rd_T51 l0 t348).f1).toList then (if x5_1.length < 2513169434916 then (metrolablaw53_RecallEnds.l0 k1 l0 (x5_1 ++ [(⟨3,(⟨#[]⟩ : ByteArray),rdOf ByteArray.empty t340 x29_1,(⟨#[]⟩ : ByteArray)⟩ : S51)]) t340 (t340.length : Int) (wrap64 (x29_1 + 1))) else (none)) else (some false)) else (some false)) else (none)) else (none)) else (some false)) else (some false)) else (none)) else (none))))) else (some false)) = some r:=H
        have A14:=Aside0.mk A140
        clear A140
        by_cases c15 : t350 = 0
        ·rw [if_pos c15] at H
         have c15b0 : (t350 == 0) = true:=beq_iff_eq.mpr c15
         have c15b1 : (t350 != 0) = false:=bne_eq_false_iff_eq.mpr c15
         clear c15
         by_cases c16 : t348 < 0
         ·rw [if_pos c16] at H
          have c16b0 : decide (t348 < 0) = true:=decide_eq_true c16
          clear c16
          obtain rfl:=Option.some.inj H
          have p347 : 0 ≤ (x29_1 : Int):=of_decide_eq_true (by first | (with_reducible assumption) | assumption)
          have q347 : x29_1 < (t340.length : Int):=of_decide_eq_true (by first | (with_reducible assumption) | assumption)
          obtain ⟨ad347,e347,hx347_0⟩:=Kd.at_string (Kd.R_reads' HO_27.out).2.2 x29_1 p347 q347
          cases e347
          replace p347:=eq_true p347
          replace q347:=eq_true q347
          go_wp2_with (first | (go_at_call 24;(with_reducible refine (recall_Reason.calls _ _ l0 (rdOf ByteArray.empty t340 x29_1) t348 t349 t350 _ ?side1 ?side2 A14.out).mono ?_);(case side1 => repeat (first | exact (Kd.C_below HR0.out HB.out) | (with_reducible refine Kd.C_alloc ?_ _) | (with_reducible refine Kd.C_drewN ?_ _) | (with_reducible refine Kd.C_drew ?_)));(case side2 => exact HC0.out);rintro e w17 ⟨rfl,hb⟩;have n0_:=Aside0.mk (Kd.R_below (by (with_reducible repeat (first | apply Kd.R_alloc | apply Kd.R_drewN | apply Kd.R_drew));exact HO_5.out) hb);have n1_:=Aside0.mk (Kd.R_below (by (with_reducible repeat (first | apply Kd.R_alloc | apply Kd.R_drewN | apply Kd.R_drew));exact HO_27.out) hb);have n2_:=Aside0.mk (below_step (by repeat (first | (with_reducible first | exact HB.out | apply below_alloc | apply pw_below_drewN | apply below_drew1) | exact HB.out)) hb);clear HO_5;clear HO_27;clear HB;have HO_5:=n0_;have HO_27:=n1_;have HB:=n2_;clear n0_ n1_ n2_;(try clear hb);(try clear hb2);(try clear hk);(try clear hi)))
          repeat (go_quiet (first | (go_at_call 24;(with_reducible refine (recall_Reason.calls _ _ l0 (rdOf ByteArray.empty t340 x29_1) t348 t349 t350 _ ?side1 ?side2 A14.out).mono ?_);(case side1 => repeat (first | exact (Kd.C_below HR0.out HB.out) | (with_reducible refine Kd.C_alloc ?_ _) | (with_reducible refine Kd.C_drewN ?_ _) | (with_reducible refine Kd.C_drew ?_)));(case side2 => exact HC0.out);rintro e w17 ⟨rfl,hb⟩;have n0_:=Aside0.mk (Kd.R_below (by (with_reducible repeat (first | apply Kd.R_alloc | apply Kd.R_drewN | apply Kd.R_drew));exact HO_5.out) hb);have n1_:=Aside0.mk (Kd.R_below (by (with_reducible repeat (first | apply Kd.R_alloc | apply Kd.R_drewN | apply Kd.R_drew));exact HO_27.out) hb);have n2_:=Aside0.mk (below_step (by repeat (first | (with_reducible first | exact HB.out | apply below_alloc | apply pw_below_drewN | apply below_drew1) | exact HB.out)) hb);clear HO_5;clear HO_27;clear HB;have HO_5:=n0_;have HO_27:=n1_;have HB:=n2_;clear n0_ n1_ n2_;(try clear hb);(try clear hb2);(try clear hk);(try clear hi)));try go_wp2_with (first | (go_at_call 24;(with_reducible refine (recall_Reason.calls _ _ l0 (rdOf ByteArray.empty t340 x29_1) t348 t349 t350 _ ?side1 ?side2 A14.out).mono ?_);(case side1 => repeat (first | exact (Kd.C_below HR0.out HB.out) | (with_reducible refine Kd.C_alloc ?_ _) | (with_reducible refine Kd.C_drewN ?_ _) | (with_reducible refine Kd.C_drew ?_)));(case side2 => exact HC0.out);rintro e w17 ⟨rfl,hb⟩;have n0_:=Aside0.mk (Kd.R_below (by (with_reducible repeat (first | apply Kd.R_alloc | apply Kd.R_drewN | apply Kd.R_drew));exact HO_5.out) hb);have n1_:=Aside0.mk (Kd.R_below (by (with_reducible repeat (first | apply Kd.R_alloc | apply Kd.R_drewN | apply Kd.R_drew));exact HO_27.out) hb);have n2_:=Aside0.mk (below_step (by repeat (first | (with_reducible first | exact HB.out | apply below_alloc | apply pw_below_drewN | apply below_drew1) | exact HB.out)) hb);clear HO_5;clear HO_27;clear HB;have HO_5:=n0_;have HO_27:=n1_;have HB:=n2_;clear n0_ n1_ n2_;(try clear hb);(try clear hb2);(try clear hk);(try clear hi))))
          go_ret
          exact ⟨by first | rfl | (simp [errW_none,errW_some] <;> rfl) | (simp [*,errW_none,errW_some] <;> rfl),by repeat (first | (with_reducible first | exact HB.out | apply below_alloc | apply pw_below_drewN | apply below_drew1) | exact HB.out)⟩
         ·rw [if_neg c16] at H
          have c16b0 : decide (t348 < 0) = false:=decide_eq_false c16
          clear c16
          by_cases c18 : t349 ≤ t348
          ·rw [if_pos c18] at H
           have c18b0 : decide (t349 ≤ t348) = true:=decide_eq_true c18
           clear c18
           obtain rfl:=Option.some.inj H
           have p347 : 0 ≤ (x29_1 : Int):=of_decide_eq_true (by first | (with_reducible assumption) | assumption)
           have q347 : x29_1 < (t340.length : Int):=of_decide_eq_true (by first | (with_reducible assumption) | assumption)
           obtain ⟨ad347,e347,hx347_0⟩:=Kd.at_string (Kd.R_reads' HO_27.out).2.2 x29_1 p347 q347
           cases e347
           replace p347:=eq_true p347
           replace q347:=eq_true q347
           go_wp2_with (first | (go_at_call 24;(with_reducible refine (recall_Reason.calls _ _ l0 (rdOf ByteArray.empty t340 x29_1) t348 t349 t350 _ ?side1 ?side2 A14.out).mono ?_);(case side1 => repeat (first | exact (Kd.C_below HR0.out HB.out) | (with_reducible refine Kd.C_alloc ?_ _) | (with_reducible refine Kd.C_drewN ?_ _) | (with_reducible refine Kd.C_drew ?_)));(case side2 => exact HC0.out);rintro e w19 ⟨rfl,hb⟩;have n0_:=Aside0.mk (Kd.R_below (by (with_reducible repeat (first | apply Kd.R_alloc | apply Kd.R_drewN | apply Kd.R_drew));exact HO_5.out) hb);have n1_:=Aside0.mk (Kd.R_below (by (with_reducible repeat (first | apply Kd.R_alloc | apply Kd.R_drewN | apply Kd.R_drew));exact HO_27.out) hb);have n2_:=Aside0.mk (below_step (by repeat (first | (with_reducible first | exact HB.out | apply below_alloc | apply pw_below_drewN | apply below_drew1) | exact HB.out)) hb);clear HO_5;clear HO_27;clear HB;have HO_5:=n0_;have HO_27:=n1_;have HB:=n2_;clear n0_ n1_ n2_;(try clear hb);(try clear hb2);(try clear hk);(try clear hi)))
           repeat (go_quiet (first | (go_at_call 24;(with_reducible refine (recall_Reason.calls _ _ l0 (rdOf ByteArray.empty t340 x29_1) t348 t349 t350 _ ?side1 ?side2 A14.out).mono ?_);(case side1 => repeat (first | exact (Kd.C_below HR0.out HB.out) | (with_reducible refine Kd.C_alloc ?_ _) | (with_reducible refine Kd.C_drewN ?_ _) | (with_reducible refine Kd.C_drew ?_)));(case side2 => exact HC0.out);rintro e w19 ⟨rfl,hb⟩;have n0_:=Aside0.mk (Kd.R_below (by (with_reducible repeat (first | apply Kd.R_alloc | apply Kd.R_drewN | apply Kd.R_drew));exact HO_5.out) hb);have n1_:=Aside0.mk (Kd.R_below (by (with_reducible repeat (first | apply Kd.R_alloc | apply Kd.R_drewN | apply Kd.R_drew));exact HO_27.out) hb);have n2_:=Aside0.mk (below_step (by repeat (first | (with_reducible first | exact HB.out | apply below_alloc | apply pw_below_drewN | apply below_drew1) | exact HB.out)) hb);clear HO_5;clear HO_27;clear HB;have HO_5:=n0_;have HO_27:=n1_;have HB:=n2_;clear n0_ n1_ n2_;(try clear hb);(try clear hb2);(try clear hk);(try clear hi)));try go_wp2_with (first | (go_at_call 24;(with_reducible refine (recall_Reason.calls _ _ l0 (rdOf ByteArray.empty t340 x29_1) t348 t349 t350 _ ?side1 ?side2 A14.out).mono ?_);(case side1 => repeat (first | exact (Kd.C_below HR0.out HB.out) | (with_reducible refine Kd.C_alloc ?_ _) | (with_reducible refine Kd.C_drewN ?_ _) | (with_reducible refine Kd.C_drew ?_)));(case side2 => exact HC0.out);rintro e w19 ⟨rfl,hb⟩;have n0_:=Aside0.mk (Kd.R_below (by (with_reducible repeat (first | apply Kd.R_alloc | apply Kd.R_drewN | apply Kd.R_drew));exact HO_5.out) hb);have n1_:=Aside0.mk (Kd.R_below (by (with_reducible repeat (first | apply Kd.R_alloc | apply Kd.R_drewN | apply Kd.R_drew));exact HO_27.out) hb);have n2_:=Aside0.mk (below_step (by repeat (first | (with_reducible first | exact HB.out | apply below_alloc | apply pw_below_drewN | apply below_drew1) | exact HB.out)) hb);clear HO_5;clear HO_27;clear HB;have HO_5:=n0_;have HO_27:=n1_;have HB:=n2_;clear n0_ n1_ n2_;(try clear hb);(try clear hb2);(try clear hk);(try clear hi))))
           go_ret
           exact ⟨by first | rfl | (simp [errW_none,errW_some] <;> rfl) | (simp [*,errW_none,errW_some] <;> rfl),by repeat (first | (with_reducible first | exact HB.out | apply below_alloc | apply pw_below_drewN | apply below_drew1) | exact HB.out)⟩
          ·rw [if_neg c18] at H
           have c18b0 : decide (t349 ≤ t348) = false:=decide_eq_false c18
           clear c18
           by_cases c20 : t349 ≥ (l0.length : Int)
           ·rw [if_pos c20] at H
            have c20b0 : decide ((l0.length : Int) ≤ t349) = true:=decide_eq_true c20
            clear c20
            obtain rfl:=Option.some.inj H
            have p347 : 0 ≤ (x29_1 : Int):=of_decide_eq_true (by first | (with_reducible assumption) | assumption)
            have q347 : x29_1 < (t340.length : Int):=of_decide_eq_true (by first | (with_reducible assumption) | assumption)
            obtain ⟨ad347,e347,hx347_0⟩:=Kd.at_string (Kd.R_reads' HO_27.out).2.2 x29_1 p347 q347
            cases e347
            replace p347:=eq_true p347
            replace q347:=eq_true q347
            go_wp2_with (first | (go_at_call 24;(with_reducible refine (recall_Reason.calls _ _ l0 (rdOf ByteArray.empty t340 x29_1) t348 t349 t350 _ ?side1 ?side2 A14.out).mono ?_);(case side1 => repeat (first | exact (Kd.C_below HR0.out HB.out) | (with_reducible refine Kd.C_alloc ?_ _) | (with_reducible refine Kd.C_drewN ?_ _) | (with_reducible refine Kd.C_drew ?_)));(case side2 => exact HC0.out);rintro e w21 ⟨rfl,hb⟩;have n0_:=Aside0.mk (Kd.R_below (by (with_reducible repeat (first | apply Kd.R_alloc | apply Kd.R_drewN | apply Kd.R_drew));exact HO_5.out) hb);have n1_:=Aside0.mk (Kd.R_below (by (with_reducible repeat (first | apply Kd.R_alloc | apply Kd.R_drewN | apply Kd.R_drew));exact HO_27.out) hb);have n2_:=Aside0.mk (below_step (by repeat (first | (with_reducible first | exact HB.out | apply below_alloc | apply pw_below_drewN | apply below_drew1) | exact HB.out)) hb);clear HO_5;clear HO_27;clear HB;have HO_5:=n0_;have HO_27:=n1_;have HB:=n2_;clear n0_ n1_ n2_;(try clear hb);(try clear hb2);(try clear hk);(try clear hi)))
            repeat (go_quiet (first | (go_at_call 24;(with_reducible refine (recall_Reason.calls _ _ l0 (rdOf ByteArray.empty t340 x29_1) t348 t349 t350 _ ?side1 ?side2 A14.out).mono ?_);(case side1 => repeat (first | exact (Kd.C_below HR0.out HB.out) | (with_reducible refine Kd.C_alloc ?_ _) | (with_reducible refine Kd.C_drewN ?_ _) | (with_reducible refine Kd.C_drew ?_)));(case side2 => exact HC0.out);rintro e w21 ⟨rfl,hb⟩;have n0_:=Aside0.mk (Kd.R_below (by (with_reducible repeat (first | apply Kd.R_alloc | apply Kd.R_drewN | apply Kd.R_drew));exact HO_5.out) hb);have n1_:=Aside0.mk (Kd.R_below (by (with_reducible repeat (first | apply Kd.R_alloc | apply Kd.R_drewN | apply Kd.R_drew));exact HO_27.out) hb);have n2_:=Aside0.mk (below_step (by repeat (first | (with_reducible first | exact HB.out | apply below_alloc | apply pw_below_drewN | apply below_drew1) | exact HB.out)) hb);clear HO_5;clear HO_27;clear HB;have HO_5:=n0_;have HO_27:=n1_;have HB:=n2_;clear n0_ n1_ n2_;(try clear hb);(try clear hb2);(try clear hk);(try clear hi)));try go_wp2_with (first | (go_at_call 24;(with_reducible refine (recall_Reason.calls _ _ l0 (rdOf ByteArray.empty t340 x29_1) t348 t349 t350 _ ?side1 ?side2 A14.out).mono ?_);(case side1 => repeat (first | exact (Kd.C_below HR0.out HB.out) | (with_reducible refine Kd.C_alloc ?_ _) | (with_reducible refine Kd.C_drewN ?_ _) | (with_reducible refine Kd.C_drew ?_)));(case side2 => exact HC0.out);rintro e w21 ⟨rfl,hb⟩;have n0_:=Aside0.mk (Kd.R_below (by (with_reducible repeat (first | apply Kd.R_alloc | apply Kd.R_drewN | apply Kd.R_drew));exact HO_5.out) hb);have n1_:=Aside0.mk (Kd.R_below (by (with_reducible repeat (first | apply Kd.R_alloc | apply Kd.R_drewN | apply Kd.R_drew));exact HO_27.out) hb);have n2_:=Aside0.mk (below_step (by repeat (first | (with_reducible first | exact HB.out | apply below_alloc | apply pw_below_drewN | apply below_drew1) | exact HB.out)) hb);clear HO_5;clear HO_27;clear HB;have HO_5:=n0_;have HO_27:=n1_;have HB:=n2_;clear n0_ n1_ n2_;(try clear hb);(try clear hb2);(try clear hk);(try clear hi))))
            go_ret
            exact ⟨by first | rfl | (simp [errW_none,errW_some] <;> rfl) | (simp [*,errW_none,errW_some] <;> rfl),by repeat (first | (with_reducible first | exact HB.out | apply below_alloc | apply pw_below_drewN | apply below_drew1) | exact HB.out)⟩
           ·rw [if_neg c20] at H
            have c20b0 : decide ((l0.length : Int) ≤ t349) = false:=decide_eq_false c20
            clear c20
            by_cases c22 : 0 ≤ t348
            ·rw [if_pos c22] at H
             have c22b0 : decide (0 ≤ t348) = true:=decide_eq_true c22
             clear c22
             by_cases c23 : t348 < (l0.length : Int)
             ·rw [if_pos c23] at H
              have c23b0 : decide (t348 < (l0.length : Int)) = true:=decide_eq_true c23
              clear c23
              by_cases c24 : ((rd_T51 l0 t348).f2).toList = (rdOf ByteArray.empty t340 x29_1).toList
              ·rw [if_pos c24] at H
               have c24b0 : (((rd_T51 l0 t348).f2).toList == (rdOf ByteArray.empty t340 x29_1).toList) = true:=beq_iff_eq.mpr c24
               have c24b1 : (((rd_T51 l0 t348).f2).toList != (rdOf ByteArray.empty t340 x29_1).toList) = false:=bne_eq_false_iff_eq.mpr c24
               clear c24
               by_cases c25 : ((rd_T51 l0 t348).f0) = 0
               ·rw [if_pos c25] at H
                have c25b0 : (((rd_T51 l0 t348).f0) == 0) = true:=beq_iff_eq.mpr c25
                have c25b1 : (((rd_T51 l0 t348).f0) != 0) = false:=bne_eq_false_iff_eq.mpr c25
                clear c25
                by_cases c26 : 0 ≤ t349
                ·rw [if_pos c26] at H
                 have c26b0 : decide (0 ≤ t349) = true:=decide_eq_true c26
                 clear c26
                 by_cases c27 : t349 < (l0.length : Int)
                 ·rw [if_pos c27] at H
                  have c27b0 : decide (t349 < (l0.length : Int)) = true:=decide_eq_true c27
                  clear c27
                  by_cases c28 : ((rd_T51 l0 t349).f0) = 2
                  ·rw [if_pos c28] at H
                   have c28b0 : (((rd_T51 l0 t349).f0) == 2) = true:=beq_iff_eq.mpr c28
                   have c28b1 : (((rd_T51 l0 t349).f0) != 2) = false:=bne_eq_false_iff_eq.mpr c28
                   clear c28
                   by_cases c29 : ((rd_T51 l0 t349).f1).toList = ((rd_T51 l0 t348).f1).toList
                   ·rw [if_pos c29] at H
                    have c29b0 : (((rd_T51 l0 t349).f1).toList == ((rd_T51 l0 t348).f1).toList) = true:=beq_iff_eq.mpr c29
                    have c29b1 : (((rd_T51 l0 t349).f1).toList != ((rd_T51 l0 t348).f1).toList) = false:=bne_eq_false_iff_eq.mpr c29
                    clear c29
                    by_cases c30 : x5_1.length < 2513169434916
                    ·rw [if_pos c30] at H
                     have LMc30:=Aside0.mk c30
                     clear c30
                     obtain ⟨y356,hy356⟩ : ∃ y_ : List (S51),y_ = (x5_1 ++ [(⟨3,(⟨#[]⟩ : ByteArray),rdOf ByteArray.empty t340 x29_1,(⟨#[]⟩ : ByteArray)⟩ : S51)]):=⟨_,rfl⟩
                     replace H : (metrolablaw53_RecallEnds.l0 k1 l0 y356 t340 (t340.length : Int) (wrap64 (x29_1 + 1))) = some r:=by first | (rw [hy356];with_reducible exact H) | (have H2_:=(Option.bind_some _ _).symm.trans H;rw [hy356];with_reducible exact H2_) | (have H2_:=(Option.bind_some _ _).symm.trans H;with_reducible exact H2_) | with_reducible exact H | (rw [hy356];exact H) | exact H
                     have Ny356:=Aside0.mk hy356
                     clear hy356
                     have H':=Aside0.mk H
                     clear H
                     have p347 : 0 ≤ (x29_1 : Int):=of_decide_eq_true (by first | (with_reducible assumption) | assumption)
                     have q347 : x29_1 < (t340.length : Int):=of_decide_eq_true (by first | (with_reducible assumption) | assumption)
                     obtain ⟨ad347,e347,hx347_0⟩:=Kd.at_string (Kd.R_reads' HO_27.out).2.2 x29_1 p347 q347
                     cases e347
                     replace p347:=eq_true p347
                     replace q347:=eq_true q347
                     go_wp2_with (first | (go_at_call 24;(with_reducible refine (recall_Reason.calls _ _ l0 (rdOf ByteArray.empty t340 x29_1) t348 t349 t350 _ ?side1 ?side2 A14.out).mono ?_);(case side1 => repeat (first | exact (Kd.C_below HR0.out HB.out) | (with_reducible refine Kd.C_alloc ?_ _) | (with_reducible refine Kd.C_drewN ?_ _) | (with_reducible refine Kd.C_drew ?_)));(case side2 => exact HC0.out);rintro e w31 ⟨rfl,hb⟩;have n0_:=Aside0.mk (Kd.R_below (by (with_reducible repeat (first | apply Kd.R_alloc | apply Kd.R_drewN | apply Kd.R_drew));exact HO_5.out) hb);have n1_:=Aside0.mk (Kd.R_below (by (with_reducible repeat (first | apply Kd.R_alloc | apply Kd.R_drewN | apply Kd.R_drew));exact HO_27.out) hb);have n2_:=Aside0.mk (below_step (by repeat (first | (with_reducible first | exact HB.out | apply below_alloc | apply pw_below_drewN | apply below_drew1) | exact HB.out)) hb);clear HO_5;clear HO_27;clear HB;have HO_5:=n0_;have HO_27:=n1_;have HB:=n2_;clear n0_ n1_ n2_;(try clear hb);(try clear hb2);(try clear hk);(try clear hi);have p351 : 0 ≤ (t348 : Int):=of_decide_eq_true (by first | (with_reducible assumption) | assumption);have q351 : t348 < (l0.length : Int):=of_decide_eq_true (by first | (with_reducible assumption) | assumption);obtain ⟨ad351,e351,hx351_0,hx351_1,hx351_2,hx351_3⟩:=at_T51 HR0.out t348 p351 q351;cases e351;replace hx351_0:=(HB.out.cell (World.block_lt_of_cell? w _ hx351_0)).trans hx351_0;replace hx351_1:=(HB.out.cell (World.block_lt_of_cell? w _ hx351_1)).trans hx351_1;replace hx351_2:=(HB.out.cell (World.block_lt_of_cell? w _ hx351_2)).trans hx351_2;replace hx351_3:=(HB.out.cell (World.block_lt_of_cell? w _ hx351_3)).trans hx351_3;replace p351:=eq_true p351;replace q351:=eq_true q351;have p352 : 0 ≤ (t348 : Int):=of_decide_eq_true (by first | (with_reducible assumption) | assumption);have q352 : t348 < (l0.length : Int):=of_decide_eq_true (by first | (with_reducible assumption) | assumption);obtain ⟨ad352,e352,hx352_0,hx352_1,hx352_2,hx352_3⟩:=at_T51 HR0.out t348 p352 q352;obtain rfl : ad351 = ad352:=(by injection e352);replace hx352_0:=(HB.out.cell (World.block_lt_of_cell? w _ hx352_0)).trans hx352_0;replace hx352_1:=(HB.out.cell (World.block_lt_of_cell? w _ hx352_1)).trans hx352_1;replace hx352_2:=(HB.out.cell (World.block_lt_of_cell? w _ hx352_2)).trans hx352_2;replace hx352_3:=(HB.out.cell (World.block_lt_of_cell? w _ hx352_3)).trans hx352_3;replace p352:=eq_true p352;replace q352:=eq_true q352;have p353 : 0 ≤ (t349 : Int):=of_decide_eq_true (by first | (with_reducible assumption) | assumption);have q353 : t349 < (l0.length : Int):=of_decide_eq_true (by first | (with_reducible assumption) | assumption);obtain ⟨ad353,e353,hx353_0,hx353_1,hx353_2,hx353_3⟩:=at_T51 HR0.out t349 p353 q353;obtain rfl : ad351 = ad353:=(by injection e353);replace hx353_0:=(HB.out.cell (World.block_lt_of_cell? w _ hx353_0)).trans hx353_0;replace hx353_1:=(HB.out.cell (World.block_lt_of_cell? w _ hx353_1)).trans hx353_1;replace hx353_2:=(HB.out.cell (World.block_lt_of_cell? w _ hx353_2)).trans hx353_2;replace hx353_3:=(HB.out.cell (World.block_lt_of_cell? w _ hx353_3)).trans hx353_3;replace p353:=eq_true p353;replace q353:=eq_true q353;have p354 : 0 ≤ (t349 : Int):=of_decide_eq_true (by first | (with_reducible assumption) | assumption);have q354 : t349 < (l0.length : Int):=of_decide_eq_true (by first | (with_reducible assumption) | assumption);obtain ⟨ad354,e354,hx354_0,hx354_1,hx354_2,hx354_3⟩:=at_T51 HR0.out t349 p354 q354;obtain rfl : ad351 = ad354:=(by injection e354);replace hx354_0:=(HB.out.cell (World.block_lt_of_cell? w _ hx354_0)).trans hx354_0;replace hx354_1:=(HB.out.cell (World.block_lt_of_cell? w _ hx354_1)).trans hx354_1;replace hx354_2:=(HB.out.cell (World.block_lt_of_cell? w _ hx354_2)).trans hx354_2;replace hx354_3:=(HB.out.cell (World.block_lt_of_cell? w _ hx354_3)).trans hx354_3;replace p354:=eq_true p354;replace q354:=eq_true q354;have p355 : 0 ≤ (t348 : Int):=of_decide_eq_true (by first | (with_reducible assumption) | assumption);have q355 : t348 < (l0.length : Int):=of_decide_eq_true (by first | (with_reducible assumption) | assumption);obtain ⟨ad355,e355,hx355_0,hx355_1,hx355_2,hx355_3⟩:=at_T51 HR0.out t348 p355 q355;obtain rfl : ad351 = ad355:=(by injection e355);replace hx355_0:=(HB.out.cell (World.block_lt_of_cell? w _ hx355_0)).trans hx355_0;replace hx355_1:=(HB.out.cell (World.block_lt_of_cell? w _ hx355_1)).trans hx355_1;replace hx355_2:=(HB.out.cell (World.block_lt_of_cell? w _ hx355_2)).trans hx355_2;replace hx355_3:=(HB.out.cell (World.block_lt_of_cell? w _ hx355_3)).trans hx355_3;replace p355:=eq_true p355;replace q355:=eq_true q355) | ((with_reducible refine gate_builtin (b:=.append) (xs:=#[.tmp 95,.tmp 98]) rfl ?_);at_builtin;refine Kd.R_append k51 (w0:=w) w.heap.size rfl (.tmp 95) (.tmp 98) 22 51 (.agg #[(.int .i64 0),(.string ⟨#[]⟩),(.string ⟨#[]⟩),(.string ⟨#[]⟩)]) 56 rfl Try.underlying22 info51 rfl (by decide) (by omega) u5 x5_1 (⟨3,(⟨#[]⟩ : ByteArray),rdOf ByteArray.empty t340 x29_1,(⟨#[]⟩ : ByteArray)⟩ : S51) [.int .i64 3,.string (⟨#[]⟩ : ByteArray),.string (rdOf ByteArray.empty t340 x29_1),.string (⟨#[]⟩ : ByteArray)] (fun _ => True) (fun _ => False) rfl rfl ?aP (fun _ hk => hk.elim) ?aF ?aO ?aB ?aS ?aL ?_;(case aP => exact k51_mkM _ _ _ (⟨3,(⟨#[]⟩ : ByteArray),rdOf ByteArray.empty t340 x29_1,(⟨#[]⟩ : ByteArray)⟩ : S51));(case aB => exact (by repeat (first | (with_reducible first | exact HB.out | apply below_alloc | apply pw_below_drewN | apply below_drew1) | exact HB.out)));(case aF => exact (fun _ _ => trivial));(case aO => exact (by (with_reducible repeat (first | apply Kd.R_alloc | apply Kd.R_drewN | apply Kd.R_drew));exact HO_5.out));(case aS => exact (below_size (by repeat (first | (with_reducible first | exact HB.out | apply below_alloc | apply pw_below_drewN | apply below_drew1) | exact HB.out))));(case aL => have:=LMc30.out;omega);intro v357 w32 ho hb hg hat;rw [← Ny356.out] at ho;have n0_:=Aside0.mk (Kd.R_over' (by (with_reducible repeat (first | apply Kd.R_alloc | apply Kd.R_drewN | apply Kd.R_drew));exact HO_27.out) (Kd.R_typed (by (with_reducible repeat (first | apply Kd.R_alloc | apply Kd.R_drewN | apply Kd.R_drew));exact HO_5.out)) (by decide) hg);have n1_:=Aside0.mk (hb);have n2_:=Aside0.mk (ho);clear HO_27;clear HB;clear HO_5;have HO_27:=n0_;have HB:=n1_;have HO358:=n2_;clear n0_ n1_ n2_;clear ho hb hg hat))
                     repeat (go_quiet (first | (go_at_call 24;(with_reducible refine (recall_Reason.calls _ _ l0 (rdOf ByteArray.empty t340 x29_1) t348 t349 t350 _ ?side1 ?side2 A14.out).mono ?_);(case side1 => repeat (first | exact (Kd.C_below HR0.out HB.out) | (with_reducible refine Kd.C_alloc ?_ _) | (with_reducible refine Kd.C_drewN ?_ _) | (with_reducible refine Kd.C_drew ?_)));(case side2 => exact HC0.out);rintro e w31 ⟨rfl,hb⟩;have n0_:=Aside0.mk (Kd.R_below (by (with_reducible repeat (first | apply Kd.R_alloc | apply Kd.R_drewN | apply Kd.R_drew));exact HO_5.out) hb);have n1_:=Aside0.mk (Kd.R_below (by (with_reducible repeat (first | apply Kd.R_alloc | apply Kd.R_drewN | apply Kd.R_drew));exact HO_27.out) hb);have n2_:=Aside0.mk (below_step (by repeat (first | (with_reducible first | exact HB.out | apply below_alloc | apply pw_below_drewN | apply below_drew1) | exact HB.out)) hb);clear HO_5;clear HO_27;clear HB;have HO_5:=n0_;have HO_27:=n1_;have HB:=n2_;clear n0_ n1_ n2_;(try clear hb);(try clear hb2);(try clear hk);(try clear hi);have p351 : 0 ≤ (t348 : Int):=of_decide_eq_true (by first | (with_reducible assumption) | assumption);have q351 : t348 < (l0.length : Int):=of_decide_eq_true (by first | (with_reducible assumption) | assumption);obtain ⟨ad351,e351,hx351_0,hx351_1,hx351_2,hx351_3⟩:=at_T51 HR0.out t348 p351 q351;cases e351;replace hx351_0:=(HB.out.cell (World.block_lt_of_cell? w _ hx351_0)).trans hx351_0;replace hx351_1:=(HB.out.cell (World.block_lt_of_cell? w _ hx351_1)).trans hx351_1;replace hx351_2:=(HB.out.cell (World.block_lt_of_cell? w _ hx351_2)).trans hx351_2;replace hx351_3:=(HB.out.cell (World.block_lt_of_cell? w _ hx351_3)).trans hx351_3;replace p351:=eq_true p351;replace q351:=eq_true q351;have p352 : 0 ≤ (t348 : Int):=of_decide_eq_true (by first | (with_reducible assumption) | assumption);have q352 : t348 < (l0.length : Int):=of_decide_eq_true (by first | (with_reducible assumption) | assumption);obtain ⟨ad352,e352,hx352_0,hx352_1,hx352_2,hx352_3⟩:=at_T51 HR0.out t348 p352 q352;obtain rfl : ad351 = ad352:=(by injection e352);replace hx352_0:=(HB.out.cell (World.block_lt_of_cell? w _ hx352_0)).trans hx352_0;replace hx352_1:=(HB.out.cell (World.block_lt_of_cell? w _ hx352_1)).trans hx352_1;replace hx352_2:=(HB.out.cell (World.block_lt_of_cell? w _ hx352_2)).trans hx352_2;replace hx352_3:=(HB.out.cell (World.block_lt_of_cell? w _ hx352_3)).trans hx352_3;replace p352:=eq_true p352;replace q352:=eq_true q352;have p353 : 0 ≤ (t349 : Int):=of_decide_eq_true (by first | (with_reducible assumption) | assumption);have q353 : t349 < (l0.length : Int):=of_decide_eq_true (by first | (with_reducible assumption) | assumption);obtain ⟨ad353,e353,hx353_0,hx353_1,hx353_2,hx353_3⟩:=at_T51 HR0.out t349 p353 q353;obtain rfl : ad351 = ad353:=(by injection e353);replace hx353_0:=(HB.out.cell (World.block_lt_of_cell? w _ hx353_0)).trans hx353_0;replace hx353_1:=(HB.out.cell (World.block_lt_of_cell? w _ hx353_1)).trans hx353_1;replace hx353_2:=(HB.out.cell (World.block_lt_of_cell? w _ hx353_2)).trans hx353_2;replace hx353_3:=(HB.out.cell (World.block_lt_of_cell? w _ hx353_3)).trans hx353_3;replace p353:=eq_true p353;replace q353:=eq_true q353;have p354 : 0 ≤ (t349 : Int):=of_decide_eq_true (by first | (with_reducible assumption) | assumption);have q354 : t349 < (l0.length : Int):=of_decide_eq_true (by first | (with_reducible assumption) | assumption);obtain ⟨ad354,e354,hx354_0,hx354_1,hx354_2,hx354_3⟩:=at_T51 HR0.out t349 p354 q354;obtain rfl : ad351 = ad354:=(by injection e354);replace hx354_0:=(HB.out.cell (World.block_lt_of_cell? w _ hx354_0)).trans hx354_0;replace hx354_1:=(HB.out.cell (World.block_lt_of_cell? w _ hx354_1)).trans hx354_1;replace hx354_2:=(HB.out.cell (World.block_lt_of_cell? w _ hx354_2)).trans hx354_2;replace hx354_3:=(HB.out.cell (World.block_lt_of_cell? w _ hx354_3)).trans hx354_3;replace p354:=eq_true p354;replace q354:=eq_true q354;have p355 : 0 ≤ (t348 : Int):=of_decide_eq_true (by first | (with_reducible assumption) | assumption);have q355 : t348 < (l0.length : Int):=of_decide_eq_true (by first | (with_reducible assumption) | assumption);obtain ⟨ad355,e355,hx355_0,hx355_1,hx355_2,hx355_3⟩:=at_T51 HR0.out t348 p355 q355;obtain rfl : ad351 = ad355:=(by injection e355);replace hx355_0:=(HB.out.cell (World.block_lt_of_cell? w _ hx355_0)).trans hx355_0;replace hx355_1:=(HB.out.cell (World.block_lt_of_cell? w _ hx355_1)).trans hx355_1;replace hx355_2:=(HB.out.cell (World.block_lt_of_cell? w _ hx355_2)).trans hx355_2;replace hx355_3:=(HB.out.cell (World.block_lt_of_cell? w _ hx355_3)).trans hx355_3;replace p355:=eq_true p355;replace q355:=eq_true q355) | ((with_reducible refine gate_builtin (b:=.append) (xs:=#[.tmp 95,.tmp 98]) rfl ?_);at_builtin;refine Kd.R_append k51 (w0:=w) w.heap.size rfl (.tmp 95) (.tmp 98) 22 51 (.agg #[(.int .i64 0),(.string ⟨#[]⟩),(.string ⟨#[]⟩),(.string ⟨#[]⟩)]) 56 rfl Try.underlying22 info51 rfl (by decide) (by omega) u5 x5_1 (⟨3,(⟨#[]⟩ : ByteArray),rdOf ByteArray.empty t340 x29_1,(⟨#[]⟩ : ByteArray)⟩ : S51) [.int .i64 3,.string (⟨#[]⟩ : ByteArray),.string (rdOf ByteArray.empty t340 x29_1),.string (⟨#[]⟩ : ByteArray)] (fun _ => True) (fun _ => False) rfl rfl ?aP (fun _ hk => hk.elim) ?aF ?aO ?aB ?aS ?aL ?_;(case aP => exact k51_mkM _ _ _ (⟨3,(⟨#[]⟩ : ByteArray),rdOf ByteArray.empty t340 x29_1,(⟨#[]⟩ : ByteArray)⟩ : S51));(case aB => exact (by repeat (first | (with_reducible first | exact HB.out | apply below_alloc | apply pw_below_drewN | apply below_drew1) | exact HB.out)));(case aF => exact (fun _ _ => trivial));(case aO => exact (by (with_reducible repeat (first | apply Kd.R_alloc | apply Kd.R_drewN | apply Kd.R_drew));exact HO_5.out));(case aS => exact (below_size (by repeat (first | (with_reducible first | exact HB.out | apply below_alloc | apply pw_below_drewN | apply below_drew1) | exact HB.out))));(case aL => have:=LMc30.out;omega);intro v357 w32 ho hb hg hat;rw [← Ny356.out] at ho;have n0_:=Aside0.mk (Kd.R_over' (by (with_reducible repeat (first | apply Kd.R_alloc | apply Kd.R_drewN | apply Kd.R_drew));exact HO_27.out) (Kd.R_typed (by (with_reducible repeat (first | apply Kd.R_alloc | apply Kd.R_drewN | apply Kd.R_drew));exact HO_5.out)) (by decide) hg);have n1_:=Aside0.mk (hb);have n2_:=Aside0.mk (ho);clear HO_27;clear HB;clear HO_5;have HO_27:=n0_;have HB:=n1_;have HO358:=n2_;clear n0_ n1_ n2_;clear ho hb hg hat));try go_wp2_with (first | (go_at_call 24;(with_reducible refine (recall_Reason.calls _ _ l0 (rdOf ByteArray.empty t340 x29_1) t348 t349 t350 _ ?side1 ?side2 A14.out).mono ?_);(case side1 => repeat (first | exact (Kd.C_below HR0.out HB.out) | (with_reducible refine Kd.C_alloc ?_ _) | (with_reducible refine Kd.C_drewN ?_ _) | (with_reducible refine Kd.C_drew ?_)));(case side2 => exact HC0.out);rintro e w31 ⟨rfl,hb⟩;have n0_:=Aside0.mk (Kd.R_below (by (with_reducible repeat (first | apply Kd.R_alloc | apply Kd.R_drewN | apply Kd.R_drew));exact HO_5.out) hb);have n1_:=Aside0.mk (Kd.R_below (by (with_reducible repeat (first | apply Kd.R_alloc | apply Kd.R_drewN | apply Kd.R_drew));exact HO_27.out) hb);have n2_:=Aside0.mk (below_step (by repeat (first | (with_reducible first | exact HB.out | apply below_alloc | apply pw_below_drewN | apply below_drew1) | exact HB.out)) hb);clear HO_5;clear HO_27;clear HB;have HO_5:=n0_;have HO_27:=n1_;have HB:=n2_;clear n0_ n1_ n2_;(try clear hb);(try clear hb2);(try clear hk);(try clear hi);have p351 : 0 ≤ (t348 : Int):=of_decide_eq_true (by first | (with_reducible assumption) | assumption);have q351 : t348 < (l0.length : Int):=of_decide_eq_true (by first | (with_reducible assumption) | assumption);obtain ⟨ad351,e351,hx351_0,hx351_1,hx351_2,hx351_3⟩:=at_T51 HR0.out t348 p351 q351;cases e351;replace hx351_0:=(HB.out.cell (World.block_lt_of_cell? w _ hx351_0)).trans hx351_0;replace hx351_1:=(HB.out.cell (World.block_lt_of_cell? w _ hx351_1)).trans hx351_1;replace hx351_2:=(HB.out.cell (World.block_lt_of_cell? w _ hx351_2)).trans hx351_2;replace hx351_3:=(HB.out.cell (World.block_lt_of_cell? w _ hx351_3)).trans hx351_3;replace p351:=eq_true p351;replace q351:=eq_true q351;have p352 : 0 ≤ (t348 : Int):=of_decide_eq_true (by first | (with_reducible assumption) | assumption);have q352 : t348 < (l0.length : Int):=of_decide_eq_true (by first | (with_reducible assumption) | assumption);obtain ⟨ad352,e352,hx352_0,hx352_1,hx352_2,hx352_3⟩:=at_T51 HR0.out t348 p352 q352;obtain rfl : ad351 = ad352:=(by injection e352);replace hx352_0:=(HB.out.cell (World.block_lt_of_cell? w _ hx352_0)).trans hx352_0;replace hx352_1:=(HB.out.cell (World.block_lt_of_cell? w _ hx352_1)).trans hx352_1;replace hx352_2:=(HB.out.cell (World.block_lt_of_cell? w _ hx352_2)).trans hx352_2;replace hx352_3:=(HB.out.cell (World.block_lt_of_cell? w _ hx352_3)).trans hx352_3;replace p352:=eq_true p352;replace q352:=eq_true q352;have p353 : 0 ≤ (t349 : Int):=of_decide_eq_true (by first | (with_reducible assumption) | assumption);have q353 : t349 < (l0.length : Int):=of_decide_eq_true (by first | (with_reducible assumption) | assumption);obtain ⟨ad353,e353,hx353_0,hx353_1,hx353_2,hx353_3⟩:=at_T51 HR0.out t349 p353 q353;obtain rfl : ad351 = ad353:=(by injection e353);replace hx353_0:=(HB.out.cell (World.block_lt_of_cell? w _ hx353_0)).trans hx353_0;replace hx353_1:=(HB.out.cell (World.block_lt_of_cell? w _ hx353_1)).trans hx353_1;replace hx353_2:=(HB.out.cell (World.block_lt_of_cell? w _ hx353_2)).trans hx353_2;replace hx353_3:=(HB.out.cell (World.block_lt_of_cell? w _ hx353_3)).trans hx353_3;replace p353:=eq_true p353;replace q353:=eq_true q353;have p354 : 0 ≤ (t349 : Int):=of_decide_eq_true (by first | (with_reducible assumption) | assumption);have q354 : t349 < (l0.length : Int):=of_decide_eq_true (by first | (with_reducible assumption) | assumption);obtain ⟨ad354,e354,hx354_0,hx354_1,hx354_2,hx354_3⟩:=at_T51 HR0.out t349 p354 q354;obtain rfl : ad351 = ad354:=(by injection e354);replace hx354_0:=(HB.out.cell (World.block_lt_of_cell? w _ hx354_0)).trans hx354_0;replace hx354_1:=(HB.out.cell (World.block_lt_of_cell? w _ hx354_1)).trans hx354_1;replace hx354_2:=(HB.out.cell (World.block_lt_of_cell? w _ hx354_2)).trans hx354_2;replace hx354_3:=(HB.out.cell (World.block_lt_of_cell? w _ hx354_3)).trans hx354_3;replace p354:=eq_true p354;replace q354:=eq_true q354;have p355 : 0 ≤ (t348 : Int):=of_decide_eq_true (by first | (with_reducible assumption) | assumption);have q355 : t348 < (l0.length : Int):=of_decide_eq_true (by first | (with_reducible assumption) | assumption);obtain ⟨ad355,e355,hx355_0,hx355_1,hx355_2,hx355_3⟩:=at_T51 HR0.out t348 p355 q355;obtain rfl : ad351 = ad355:=(by injection e355);replace hx355_0:=(HB.out.cell (World.block_lt_of_cell? w _ hx355_0)).trans hx355_0;replace hx355_1:=(HB.out.cell (World.block_lt_of_cell? w _ hx355_1)).trans hx355_1;replace hx355_2:=(HB.out.cell (World.block_lt_of_cell? w _ hx355_2)).trans hx355_2;replace hx355_3:=(HB.out.cell (World.block_lt_of_cell? w _ hx355_3)).trans hx355_3;replace p355:=eq_true p355;replace q355:=eq_true q355) | ((with_reducible refine gate_builtin (b:=.append) (xs:=#[.tmp 95,.tmp 98]) rfl ?_);at_builtin;refine Kd.R_append k51 (w0:=w) w.heap.size rfl (.tmp 95) (.tmp 98) 22 51 (.agg #[(.int .i64 0),(.string ⟨#[]⟩),(.string ⟨#[]⟩),(.string ⟨#[]⟩)]) 56 rfl Try.underlying22 info51 rfl (by decide) (by omega) u5 x5_1 (⟨3,(⟨#[]⟩ : ByteArray),rdOf ByteArray.empty t340 x29_1,(⟨#[]⟩ : ByteArray)⟩ : S51) [.int .i64 3,.string (⟨#[]⟩ : ByteArray),.string (rdOf ByteArray.empty t340 x29_1),.string (⟨#[]⟩ : ByteArray)] (fun _ => True) (fun _ => False) rfl rfl ?aP (fun _ hk => hk.elim) ?aF ?aO ?aB ?aS ?aL ?_;(case aP => exact k51_mkM _ _ _ (⟨3,(⟨#[]⟩ : ByteArray),rdOf ByteArray.empty t340 x29_1,(⟨#[]⟩ : ByteArray)⟩ : S51));(case aB => exact (by repeat (first | (with_reducible first | exact HB.out | apply below_alloc | apply pw_below_drewN | apply below_drew1) | exact HB.out)));(case aF => exact (fun _ _ => trivial));(case aO => exact (by (with_reducible repeat (first | apply Kd.R_alloc | apply Kd.R_drewN | apply Kd.R_drew));exact HO_5.out));(case aS => exact (below_size (by repeat (first | (with_reducible first | exact HB.out | apply below_alloc | apply pw_below_drewN | apply below_drew1) | exact HB.out))));(case aL => have:=LMc30.out;omega);intro v357 w32 ho hb hg hat;rw [← Ny356.out] at ho;have n0_:=Aside0.mk (Kd.R_over' (by (with_reducible repeat (first | apply Kd.R_alloc | apply Kd.R_drewN | apply Kd.R_drew));exact HO_27.out) (Kd.R_typed (by (with_reducible repeat (first | apply Kd.R_alloc | apply Kd.R_drewN | apply Kd.R_drew));exact HO_5.out)) (by decide) hg);have n1_:=Aside0.mk (hb);have n2_:=Aside0.mk (ho);clear HO_27;clear HB;clear HO_5;have HO_27:=n0_;have HB:=n1_;have HO358:=n2_;clear n0_ n1_ n2_;clear ho hb hg hat)))
                     go_roundg k1
                     case measure => have:=HK1.out;omega
                     case rel => exact ⟨(y356),(wrap64 (x29_1 + 1)),(by first | rfl | (simp;done) | (simp [*];done)),H',⟨by have:=HK1.out;omega⟩,⟨by (with_reducible repeat (first | apply Kd.R_alloc | apply Kd.R_drewN | apply Kd.R_drew));exact HO358.out⟩,⟨by (with_reducible repeat (first | apply Kd.R_alloc | apply Kd.R_drewN | apply Kd.R_drew));exact HO_27.out⟩,⟨by repeat (first | (with_reducible first | exact HB.out | apply below_alloc | apply pw_below_drewN | apply below_drew1) | exact HB.out)⟩⟩
                    ·rw [if_neg c30] at H
                     exact absurd H (by simp)
                   ·rw [if_neg c29] at H
                    have c29b0 : (((rd_T51 l0 t349).f1).toList == ((rd_T51 l0 t348).f1).toList) = false:=beq_eq_false_iff_ne.mpr c29
                    have c29b1 : (((rd_T51 l0 t349).f1).toList != ((rd_T51 l0 t348).f1).toList) = true:=bne_iff_ne.mpr c29
                    obtain rfl:=Option.some.inj H
                    exact absurd hlaw.out (by decide)
                  ·rw [if_neg c28] at H
                   have c28b0 : (((rd_T51 l0 t349).f0) == 2) = false:=beq_eq_false_iff_ne.mpr c28
                   have c28b1 : (((rd_T51 l0 t349).f0) != 2) = true:=bne_iff_ne.mpr c28
                   obtain rfl:=Option.some.inj H
                   exact absurd hlaw.out (by decide)
                 ·rw [if_neg c27] at H
                  exact absurd H (by simp)
                ·rw [if_neg c26] at H
                 exact absurd H (by simp)
               ·rw [if_neg c25] at H
                have c25b0 : (((rd_T51 l0 t348).f0) == 0) = false:=beq_eq_false_iff_ne.mpr c25
                have c25b1 : (((rd_T51 l0 t348).f0) != 0) = true:=bne_iff_ne.mpr c25
                obtain rfl:=Option.some.inj H
                exact absurd hlaw.out (by decide)
              ·rw [if_neg c24] at H
               have c24b0 : (((rd_T51 l0 t348).f2).toList == (rdOf ByteArray.empty t340 x29_1).toList) = false:=beq_eq_false_iff_ne.mpr c24
               have c24b1 : (((rd_T51 l0 t348).f2).toList != (rdOf ByteArray.empty t340 x29_1).toList) = true:=bne_iff_ne.mpr c24
               obtain rfl:=Option.some.inj H
               exact absurd hlaw.out (by decide)
             ·rw [if_neg c23] at H
              exact absurd H (by simp)
            ·rw [if_neg c22] at H
             exact absurd H (by simp)
        ·rw [if_neg c15] at H
         have c15b0 : (t350 == 0) = false:=beq_eq_false_iff_ne.mpr c15
         have c15b1 : (t350 != 0) = true:=bne_iff_ne.mpr c15
         obtain rfl:=Option.some.inj H
         exact absurd hlaw.out (by decide)
       ·rw [if_neg c13] at H
        exact absurd H (by simp)
      ·rw [if_neg c12] at H
       exact absurd H (by simp)
     ·rw [if_neg c11] at H
      have c11b0 : decide (x29_1 < (t340.length : Int)) = false:=decide_eq_false c11
      clear c11
      replace H:=Option.bind_eq_some_iff.mp H
      obtain ⟨⟨t359,t360⟩,A380,H⟩:=H
      replace H : ((recall_Lots.f x5_1).bind fun bt363 => (if (wrap64 (t360 + bt363.2)) = 0 then (if (t359.length : Int) = 0 then (if (bt363.1.length : Int) = 0 then ((metrolablaw53_awake.f).bind fun t367 => (some t367)) else (some false)) else (some false)) else (some false))) = some r:=H
      have A38:=Aside0.mk A380
      clear A380
      replace H:=Option.bind_eq_some_iff.mp H
      obtain ⟨⟨t363,t364⟩,A390,H⟩:=H
      replace H : (if (wrap64 (t360 + t364)) = 0 then (if (t359.length : Int) = 0 then (if (t363.length : Int) = 0 then ((metrolablaw53_awake.f).bind fun t367 => (some t367)) else (some false)) else (some false)) else (some false)) = some r:=H
      have A39:=Aside0.mk A390
      clear A390
      by_cases c40 : (wrap64 (t360 + t364)) = 0
      ·rw [if_pos c40] at H
       have c40b0 : ((wrap64 (t360 + t364)) == 0) = true:=beq_iff_eq.mpr c40
       have c40b1 : ((wrap64 (t360 + t364)) != 0) = false:=bne_eq_false_iff_eq.mpr c40
       clear c40
       by_cases c41 : (t359.length : Int) = 0
       ·rw [if_pos c41] at H
        have c41b0 : ((t359.length : Int) == 0) = true:=beq_iff_eq.mpr c41
        have c41b1 : ((t359.length : Int) != 0) = false:=bne_eq_false_iff_eq.mpr c41
        clear c41
        by_cases c42 : (t363.length : Int) = 0
        ·rw [if_pos c42] at H
         have c42b0 : ((t363.length : Int) == 0) = true:=beq_iff_eq.mpr c42
         have c42b1 : ((t363.length : Int) != 0) = false:=bne_eq_false_iff_eq.mpr c42
         clear c42
         replace H:=Option.bind_eq_some_iff.mp H
         obtain ⟨t367,A430,H⟩:=H
         replace H : (some t367) = some r:=H
         have A43:=Aside0.mk A430
         clear A430
         obtain rfl:=Option.some.inj H
         obtain ⟨Ao44,co44,eo44⟩:=Kd.R_slice HO_5.out
         subst eo44
         go_wp2_with (first | (go_at_call 14;(with_reducible refine (recall_Parts.calls _ _ x5_1 t359 t360 _ ?side1 ?side2 A38.out).mono ?_);(case side1 => repeat (first | exact (Kd.R_reads' HO_5.out).2.2 | (with_reducible refine Kd.C_alloc ?_ _) | (with_reducible refine Kd.C_drewN ?_ _) | (with_reducible refine Kd.C_drew ?_)));(case side2 => exact (Kd.R_reads' HO_5.out).2.1);rintro e w45 ⟨v361,rfl,ho0,hb⟩;have n0_:=Aside0.mk (Kd.R_below (by (with_reducible repeat (first | apply Kd.R_alloc | apply Kd.R_drewN | apply Kd.R_drew));exact HO_5.out) hb);have n1_:=Aside0.mk (Kd.R_elder' (by (with_reducible repeat (first | apply Kd.R_alloc | apply Kd.R_drewN | apply Kd.R_drew));exact HO_27.out) (Kd.R_base ho0) hb);have n2_:=Aside0.mk (Kd.R_lower (Kd.R_new' ho0 (Kd.R_lt (by (with_reducible repeat (first | apply Kd.R_alloc | apply Kd.R_drewN | apply Kd.R_drew));exact HO_27.out))) (below_size (by repeat (first | (with_reducible first | exact HB.out | apply below_alloc | apply pw_below_drewN | apply below_drew1) | exact HB.out))));have n3_:=Aside0.mk (below_step (by repeat (first | (with_reducible first | exact HB.out | apply below_alloc | apply pw_below_drewN | apply below_drew1) | exact HB.out)) hb);clear HO_5;clear HO_27;clear HB;have HO_5:=n0_;have HO_27:=n1_;have HO362:=n2_;have HB:=n3_;clear n0_ n1_ n2_ n3_;(try clear hb);(try clear hb2);(try clear hk);(try clear hi);(try clear ho0)) | (go_at_call 20;(with_reducible refine (recall_Lots.calls _ _ x5_1 t363 t364 _ ?side1 ?side2 A39.out).mono ?_);(case side1 => repeat (first | exact (Kd.R_reads' HO_5.out).2.2 | (with_reducible refine Kd.C_alloc ?_ _) | (with_reducible refine Kd.C_drewN ?_ _) | (with_reducible refine Kd.C_drew ?_)));(case side2 => exact (Kd.R_reads' HO_5.out).2.1);rintro e w46 ⟨v365,rfl,ho0,hb⟩;have n0_:=Aside0.mk (Kd.R_below (by (with_reducible repeat (first | apply Kd.R_alloc | apply Kd.R_drewN | apply Kd.R_drew));exact HO_5.out) hb);have n1_:=Aside0.mk (Kd.R_elder' (by (with_reducible repeat (first | apply Kd.R_alloc | apply Kd.R_drewN | apply Kd.R_drew));exact HO_27.out) (Kd.R_base ho0) hb);have n2_:=Aside0.mk (Kd.R_elder' (by (with_reducible repeat (first | apply Kd.R_alloc | apply Kd.R_drewN | apply Kd.R_drew));exact HO362.out) (Kd.R_base ho0) hb);have n3_:=Aside0.mk (Kd.R_lower (Kd.R_new' (Kd.R_new' ho0 (Kd.R_lt (by (with_reducible repeat (first | apply Kd.R_alloc | apply Kd.R_drewN | apply Kd.R_drew));exact HO_27.out))) (Kd.R_lt (by (with_reducible repeat (first | apply Kd.R_alloc | apply Kd.R_drewN | apply Kd.R_drew));exact HO362.out))) (below_size (by repeat (first | (with_reducible first | exact HB.out | apply below_alloc | apply pw_below_drewN | apply below_drew1) | exact HB.out))));have n4_:=Aside0.mk (below_step (by repeat (first | (with_reducible first | exact HB.out | apply below_alloc | apply pw_below_drewN | apply below_drew1) | exact HB.out)) hb);clear HO_5;clear HO_27;clear HO362;clear HB;have HO_5:=n0_;have HO_27:=n1_;have HO362:=n2_;have HO366:=n3_;have HB:=n4_;clear n0_ n1_ n2_ n3_ n4_;(try clear hb);(try clear hb2);(try clear hk);(try clear hi);(try clear ho0);obtain ⟨Ao47,co47,eo47⟩:=Kd.R_slice HO362.out;subst eo47;obtain ⟨Ao48,co48,eo48⟩:=Kd.R_slice HO366.out;subst eo48) | (go_at_call 10;(with_reducible refine (metrolablaw53_awake.calls  t367 _ A43.out).mono ?_);rintro e w49 ⟨rfl,hb⟩;have n0_:=Aside0.mk (Kd.R_below (by (with_reducible repeat (first | apply Kd.R_alloc | apply Kd.R_drewN | apply Kd.R_drew));exact HO_5.out) hb);have n1_:=Aside0.mk (Kd.R_below (by (with_reducible repeat (first | apply Kd.R_alloc | apply Kd.R_drewN | apply Kd.R_drew));exact HO_27.out) hb);have n2_:=Aside0.mk (Kd.R_below (by (with_reducible repeat (first | apply Kd.R_alloc | apply Kd.R_drewN | apply Kd.R_drew));exact HO362.out) hb);have n3_:=Aside0.mk (Kd.R_below (by (with_reducible repeat (first | apply Kd.R_alloc | apply Kd.R_drewN | apply Kd.R_drew));exact HO366.out) hb);have n4_:=Aside0.mk (below_step (by repeat (first | (with_reducible first | exact HB.out | apply below_alloc | apply pw_below_drewN | apply below_drew1) | exact HB.out)) hb);clear HO_5;clear HO_27;clear HO362;clear HO366;clear HB;have HO_5:=n0_;have HO_27:=n1_;have HO362:=n2_;have HO366:=n3_;have HB:=n4_;clear n0_ n1_ n2_ n3_ n4_;(try clear hb);(try clear hb2);(try clear hk);(try clear hi)))
         repeat (go_quiet (first | (go_at_call 14;(with_reducible refine (recall_Parts.calls _ _ x5_1 t359 t360 _ ?side1 ?side2 A38.out).mono ?_);(case side1 => repeat (first | exact (Kd.R_reads' HO_5.out).2.2 | (with_reducible refine Kd.C_alloc ?_ _) | (with_reducible refine Kd.C_drewN ?_ _) | (with_reducible refine Kd.C_drew ?_)));(case side2 => exact (Kd.R_reads' HO_5.out).2.1);rintro e w45 ⟨v361,rfl,ho0,hb⟩;have n0_:=Aside0.mk (Kd.R_below (by (with_reducible repeat (first | apply Kd.R_alloc | apply Kd.R_drewN | apply Kd.R_drew));exact HO_5.out) hb);have n1_:=Aside0.mk (Kd.R_elder' (by (with_reducible repeat (first | apply Kd.R_alloc | apply Kd.R_drewN | apply Kd.R_drew));exact HO_27.out) (Kd.R_base ho0) hb);have n2_:=Aside0.mk (Kd.R_lower (Kd.R_new' ho0 (Kd.R_lt (by (with_reducible repeat (first | apply Kd.R_alloc | apply Kd.R_drewN | apply Kd.R_drew));exact HO_27.out))) (below_size (by repeat (first | (with_reducible first | exact HB.out | apply below_alloc | apply pw_below_drewN | apply below_drew1) | exact HB.out))));have n3_:=Aside0.mk (below_step (by repeat (first | (with_reducible first | exact HB.out | apply below_alloc | apply pw_below_drewN | apply below_drew1) | exact HB.out)) hb);clear HO_5;clear HO_27;clear HB;have HO_5:=n0_;have HO_27:=n1_;have HO362:=n2_;have HB:=n3_;clear n0_ n1_ n2_ n3_;(try clear hb);(try clear hb2);(try clear hk);(try clear hi);(try clear ho0)) | (go_at_call 20;(with_reducible refine (recall_Lots.calls _ _ x5_1 t363 t364 _ ?side1 ?side2 A39.out).mono ?_);(case side1 => repeat (first | exact (Kd.R_reads' HO_5.out).2.2 | (with_reducible refine Kd.C_alloc ?_ _) | (with_reducible refine Kd.C_drewN ?_ _) | (with_reducible refine Kd.C_drew ?_)));(case side2 => exact (Kd.R_reads' HO_5.out).2.1);rintro e w46 ⟨v365,rfl,ho0,hb⟩;have n0_:=Aside0.mk (Kd.R_below (by (with_reducible repeat (first | apply Kd.R_alloc | apply Kd.R_drewN | apply Kd.R_drew));exact HO_5.out) hb);have n1_:=Aside0.mk (Kd.R_elder' (by (with_reducible repeat (first | apply Kd.R_alloc | apply Kd.R_drewN | apply Kd.R_drew));exact HO_27.out) (Kd.R_base ho0) hb);have n2_:=Aside0.mk (Kd.R_elder' (by (with_reducible repeat (first | apply Kd.R_alloc | apply Kd.R_drewN | apply Kd.R_drew));exact HO362.out) (Kd.R_base ho0) hb);have n3_:=Aside0.mk (Kd.R_lower (Kd.R_new' (Kd.R_new' ho0 (Kd.R_lt (by (with_reducible repeat (first | apply Kd.R_alloc | apply Kd.R_drewN | apply Kd.R_drew));exact HO_27.out))) (Kd.R_lt (by (with_reducible repeat (first | apply Kd.R_alloc | apply Kd.R_drewN | apply Kd.R_drew));exact HO362.out))) (below_size (by repeat (first | (with_reducible first | exact HB.out | apply below_alloc | apply pw_below_drewN | apply below_drew1) | exact HB.out))));have n4_:=Aside0.mk (below_step (by repeat (first | (with_reducible first | exact HB.out | apply below_alloc | apply pw_below_drewN | apply below_drew1) | exact HB.out)) hb);clear HO_5;clear HO_27;clear HO362;clear HB;have HO_5:=n0_;have HO_27:=n1_;have HO362:=n2_;have HO366:=n3_;have HB:=n4_;clear n0_ n1_ n2_ n3_ n4_;(try clear hb);(try clear hb2);(try clear hk);(try clear hi);(try clear ho0);obtain ⟨Ao47,co47,eo47⟩:=Kd.R_slice HO362.out;subst eo47;obtain ⟨Ao48,co48,eo48⟩:=Kd.R_slice HO366.out;subst eo48) | (go_at_call 10;(with_reducible refine (metrolablaw53_awake.calls  t367 _ A43.out).mono ?_);rintro e w49 ⟨rfl,hb⟩;have n0_:=Aside0.mk (Kd.R_below (by (with_reducible repeat (first | apply Kd.R_alloc | apply Kd.R_drewN | apply Kd.R_drew));exact HO_5.out) hb);have n1_:=Aside0.mk (Kd.R_below (by (with_reducible repeat (first | apply Kd.R_alloc | apply Kd.R_drewN | apply Kd.R_drew));exact HO_27.out) hb);have n2_:=Aside0.mk (Kd.R_below (by (with_reducible repeat (first | apply Kd.R_alloc | apply Kd.R_drewN | apply Kd.R_drew));exact HO362.out) hb);have n3_:=Aside0.mk (Kd.R_below (by (with_reducible repeat (first | apply Kd.R_alloc | apply Kd.R_drewN | apply Kd.R_drew));exact HO366.out) hb);have n4_:=Aside0.mk (below_step (by repeat (first | (with_reducible first | exact HB.out | apply below_alloc | apply pw_below_drewN | apply below_drew1) | exact HB.out)) hb);clear HO_5;clear HO_27;clear HO362;clear HO366;clear HB;have HO_5:=n0_;have HO_27:=n1_;have HO362:=n2_;have HO366:=n3_;have HB:=n4_;clear n0_ n1_ n2_ n3_ n4_;(try clear hb);(try clear hb2);(try clear hk);(try clear hi)));try go_wp2_with (first | (go_at_call 14;(with_reducible refine (recall_Parts.calls _ _ x5_1 t359 t360 _ ?side1 ?side2 A38.out).mono ?_);(case side1 => repeat (first | exact (Kd.R_reads' HO_5.out).2.2 | (with_reducible refine Kd.C_alloc ?_ _) | (with_reducible refine Kd.C_drewN ?_ _) | (with_reducible refine Kd.C_drew ?_)));(case side2 => exact (Kd.R_reads' HO_5.out).2.1);rintro e w45 ⟨v361,rfl,ho0,hb⟩;have n0_:=Aside0.mk (Kd.R_below (by (with_reducible repeat (first | apply Kd.R_alloc | apply Kd.R_drewN | apply Kd.R_drew));exact HO_5.out) hb);have n1_:=Aside0.mk (Kd.R_elder' (by (with_reducible repeat (first | apply Kd.R_alloc | apply Kd.R_drewN | apply Kd.R_drew));exact HO_27.out) (Kd.R_base ho0) hb);have n2_:=Aside0.mk (Kd.R_lower (Kd.R_new' ho0 (Kd.R_lt (by (with_reducible repeat (first | apply Kd.R_alloc | apply Kd.R_drewN | apply Kd.R_drew));exact HO_27.out))) (below_size (by repeat (first | (with_reducible first | exact HB.out | apply below_alloc | apply pw_below_drewN | apply below_drew1) | exact HB.out))));have n3_:=Aside0.mk (below_step (by repeat (first | (with_reducible first | exact HB.out | apply below_alloc | apply pw_below_drewN | apply below_drew1) | exact HB.out)) hb);clear HO_5;clear HO_27;clear HB;have HO_5:=n0_;have HO_27:=n1_;have HO362:=n2_;have HB:=n3_;clear n0_ n1_ n2_ n3_;(try clear hb);(try clear hb2);(try clear hk);(try clear hi);(try clear ho0)) | (go_at_call 20;(with_reducible refine (recall_Lots.calls _ _ x5_1 t363 t364 _ ?side1 ?side2 A39.out).mono ?_);(case side1 => repeat (first | exact (Kd.R_reads' HO_5.out).2.2 | (with_reducible refine Kd.C_alloc ?_ _) | (with_reducible refine Kd.C_drewN ?_ _) | (with_reducible refine Kd.C_drew ?_)));(case side2 => exact (Kd.R_reads' HO_5.out).2.1);rintro e w46 ⟨v365,rfl,ho0,hb⟩;have n0_:=Aside0.mk (Kd.R_below (by (with_reducible repeat (first | apply Kd.R_alloc | apply Kd.R_drewN | apply Kd.R_drew));exact HO_5.out) hb);have n1_:=Aside0.mk (Kd.R_elder' (by (with_reducible repeat (first | apply Kd.R_alloc | apply Kd.R_drewN | apply Kd.R_drew));exact HO_27.out) (Kd.R_base ho0) hb);have n2_:=Aside0.mk (Kd.R_elder' (by (with_reducible repeat (first | apply Kd.R_alloc | apply Kd.R_drewN | apply Kd.R_drew));exact HO362.out) (Kd.R_base ho0) hb);have n3_:=Aside0.mk (Kd.R_lower (Kd.R_new' (Kd.R_new' ho0 (Kd.R_lt (by (with_reducible repeat (first | apply Kd.R_alloc | apply Kd.R_drewN | apply Kd.R_drew));exact HO_27.out))) (Kd.R_lt (by (with_reducible repeat (first | apply Kd.R_alloc | apply Kd.R_drewN | apply Kd.R_drew));exact HO362.out))) (below_size (by repeat (first | (with_reducible first | exact HB.out | apply below_alloc | apply pw_below_drewN | apply below_drew1) | exact HB.out))));have n4_:=Aside0.mk (below_step (by repeat (first | (with_reducible first | exact HB.out | apply below_alloc | apply pw_below_drewN | apply below_drew1) | exact HB.out)) hb);clear HO_5;clear HO_27;clear HO362;clear HB;have HO_5:=n0_;have HO_27:=n1_;have HO362:=n2_;have HO366:=n3_;have HB:=n4_;clear n0_ n1_ n2_ n3_ n4_;(try clear hb);(try clear hb2);(try clear hk);(try clear hi);(try clear ho0);obtain ⟨Ao47,co47,eo47⟩:=Kd.R_slice HO362.out;subst eo47;obtain ⟨Ao48,co48,eo48⟩:=Kd.R_slice HO366.out;subst eo48) | (go_at_call 10;(with_reducible refine (metrolablaw53_awake.calls  t367 _ A43.out).mono ?_);rintro e w49 ⟨rfl,hb⟩;have n0_:=Aside0.mk (Kd.R_below (by (with_reducible repeat (first | apply Kd.R_alloc | apply Kd.R_drewN | apply Kd.R_drew));exact HO_5.out) hb);have n1_:=Aside0.mk (Kd.R_below (by (with_reducible repeat (first | apply Kd.R_alloc | apply Kd.R_drewN | apply Kd.R_drew));exact HO_27.out) hb);have n2_:=Aside0.mk (Kd.R_below (by (with_reducible repeat (first | apply Kd.R_alloc | apply Kd.R_drewN | apply Kd.R_drew));exact HO362.out) hb);have n3_:=Aside0.mk (Kd.R_below (by (with_reducible repeat (first | apply Kd.R_alloc | apply Kd.R_drewN | apply Kd.R_drew));exact HO366.out) hb);have n4_:=Aside0.mk (below_step (by repeat (first | (with_reducible first | exact HB.out | apply below_alloc | apply pw_below_drewN | apply below_drew1) | exact HB.out)) hb);clear HO_5;clear HO_27;clear HO362;clear HO366;clear HB;have HO_5:=n0_;have HO_27:=n1_;have HO362:=n2_;have HO366:=n3_;have HB:=n4_;clear n0_ n1_ n2_ n3_ n4_;(try clear hb);(try clear hb2);(try clear hk);(try clear hi))))
         go_ret
         exact ⟨by first | rfl | (simp [errW_none,errW_some] <;> rfl) | (simp [*,errW_none,errW_some] <;> rfl),by repeat (first | (with_reducible first | exact HB.out | apply below_alloc | apply pw_below_drewN | apply below_drew1) | exact HB.out)⟩
        ·rw [if_neg c42] at H
         have c42b0 : ((t363.length : Int) == 0) = false:=beq_eq_false_iff_ne.mpr c42
         have c42b1 : ((t363.length : Int) != 0) = true:=bne_iff_ne.mpr c42
         have c42b2 : ¬ (t363 = []):=fun h_ => c42 (by rw [h_];rfl)
         obtain rfl:=Option.some.inj H
         exact absurd hlaw.out (by decide)
       ·rw [if_neg c41] at H
        have c41b0 : ((t359.length : Int) == 0) = false:=beq_eq_false_iff_ne.mpr c41
        have c41b1 : ((t359.length : Int) != 0) = true:=bne_iff_ne.mpr c41
        have c41b2 : ¬ (t359 = []):=fun h_ => c41 (by rw [h_];rfl)
        obtain rfl:=Option.some.inj H
        exact absurd hlaw.out (by decide)
      ·rw [if_neg c40] at H
       have c40b0 : ((wrap64 (t360 + t364)) == 0) = false:=beq_eq_false_iff_ne.mpr c40
       have c40b1 : ((wrap64 (t360 + t364)) != 0) = true:=bne_iff_ne.mpr c40
       obtain rfl:=Option.some.inj H
       exact absurd hlaw.out (by decide)
  ·rw [if_neg c5] at H
   have c5b0 : (t341 == 0) = false:=beq_eq_false_iff_ne.mpr c5
   have c5b1 : (t341 != 0) = true:=bne_iff_ne.mpr c5
   obtain rfl:=Option.some.inj H
   exact absurd hlaw.out (by decide)
 ·replace c3:=Bool.eq_false_iff.mpr c3
  subst c3
  have H1 : ((metrolablaw53_awake.f).bind fun t339 => (some t339)) = some r:=by rw [if_neg (show ¬ (false = true) by decide)] at H;exact H
  clear H
  have H:=H1
  clear H1
  replace H:=Option.bind_eq_some_iff.mp H
  obtain ⟨t339,A640,H⟩:=H
  replace H : (some t339) = some r:=H
  have A64:=Aside0.mk A640
  clear A640
  obtain rfl:=Option.some.inj H
  go_enter Try.func7,Try.ntmps7
  go_wp2_with (first | (go_at_call 28;(with_reducible refine (metrolablaw53_right.calls k _ _ l0 false _ ?side1 ?side2 A2.out).mono ?_);(case side1 => repeat (first | exact HR0.out | (with_reducible refine Kd.C_alloc ?_ _) | (with_reducible refine Kd.C_drewN ?_ _) | (with_reducible refine Kd.C_drew ?_)));(case side2 => exact HC0.out);rintro e w65 ⟨rfl,hb⟩;have n0_:=Aside0.mk (below_step (by repeat (first | (with_reducible first | exact HB.out | apply below_alloc | apply pw_below_drewN | apply below_drew1) | exact HB.out)) hb);clear HB;have HB:=n0_;clear n0_;(try clear hb);(try clear hb2);(try clear hk);(try clear hi)) | (go_at_call 10;(with_reducible refine (metrolablaw53_awake.calls  t339 _ A64.out).mono ?_);rintro e w66 ⟨rfl,hb⟩;have n0_:=Aside0.mk (below_step (by repeat (first | (with_reducible first | exact HB.out | apply below_alloc | apply pw_below_drewN | apply below_drew1) | exact HB.out)) hb);clear HB;have HB:=n0_;clear n0_;(try clear hb);(try clear hb2);(try clear hk);(try clear hi)))
  repeat (go_quiet (first | (go_at_call 28;(with_reducible refine (metrolablaw53_right.calls k _ _ l0 false _ ?side1 ?side2 A2.out).mono ?_);(case side1 => repeat (first | exact HR0.out | (with_reducible refine Kd.C_alloc ?_ _) | (with_reducible refine Kd.C_drewN ?_ _) | (with_reducible refine Kd.C_drew ?_)));(case side2 => exact HC0.out);rintro e w65 ⟨rfl,hb⟩;have n0_:=Aside0.mk (below_step (by repeat (first | (with_reducible first | exact HB.out | apply below_alloc | apply pw_below_drewN | apply below_drew1) | exact HB.out)) hb);clear HB;have HB:=n0_;clear n0_;(try clear hb);(try clear hb2);(try clear hk);(try clear hi)) | (go_at_call 10;(with_reducible refine (metrolablaw53_awake.calls  t339 _ A64.out).mono ?_);rintro e w66 ⟨rfl,hb⟩;have n0_:=Aside0.mk (below_step (by repeat (first | (with_reducible first | exact HB.out | apply below_alloc | apply pw_below_drewN | apply below_drew1) | exact HB.out)) hb);clear HB;have HB:=n0_;clear n0_;(try clear hb);(try clear hb2);(try clear hk);(try clear hi)));try go_wp2_with (first | (go_at_call 28;(with_reducible refine (metrolablaw53_right.calls k _ _ l0 false _ ?side1 ?side2 A2.out).mono ?_);(case side1 => repeat (first | exact HR0.out | (with_reducible refine Kd.C_alloc ?_ _) | (with_reducible refine Kd.C_drewN ?_ _) | (with_reducible refine Kd.C_drew ?_)));(case side2 => exact HC0.out);rintro e w65 ⟨rfl,hb⟩;have n0_:=Aside0.mk (below_step (by repeat (first | (with_reducible first | exact HB.out | apply below_alloc | apply pw_below_drewN | apply below_drew1) | exact HB.out)) hb);clear HB;have HB:=n0_;clear n0_;(try clear hb);(try clear hb2);(try clear hk);(try clear hi)) | (go_at_call 10;(with_reducible refine (metrolablaw53_awake.calls  t339 _ A64.out).mono ?_);rintro e w66 ⟨rfl,hb⟩;have n0_:=Aside0.mk (below_step (by repeat (first | (with_reducible first | exact HB.out | apply below_alloc | apply pw_below_drewN | apply below_drew1) | exact HB.out)) hb);clear HB;have HB:=n0_;clear n0_;(try clear hb);(try clear hb2);(try clear hk);(try clear hi))))
  go_ret
  exact ⟨by first | rfl | (simp [errW_none,errW_some] <;> rfl) | (simp [*,errW_none,errW_some] <;> rfl),by repeat (first | (with_reducible first | exact HB.out | apply below_alloc | apply pw_below_drewN | apply below_drew1) | exact HB.out)⟩
end Go.Proofs.Ytnmmdeonkpfccaa.Pr
set_option linter.unusedVariables false
namespace Go.Proofs.Ytnmmdeonkpfccaa.Pr
open Go.RowKit Go.ChangeShapes Go.WideShapes Go.Deep Go.Proofs.YtnmmdeonkpfccaaW.PrintWords Go.Proofs.YtnmmdeonkpfccaaW.PrintLast Go.Proofs.YtnmmdeonkpfccaaW.PrintMore
def okEv (x : S51) : Prop:=(Lit.int .i64 x.f0).wf = true ∧ x.f1.size ≤ maxLen ∧ x.f2.size ≤ maxLen ∧ x.f3.size ≤ maxLen
variable {H : Type} {enc : TypeId × Value → H} {w : World} {base : Nat} {spare : Nat → Bool} {held : Bool}
set_option maxRecDepth 20000 in
theorem open_event {n : Nat} {cs : List Value} {x : DataW H × List MemPlace} (h : DataW.trod enc Try.prog w base spare held n 51 cs = some x) : ∃ e : S51,cs = [.int .i64 e.f0,.string e.f1,.string e.f2,.string e.f3] ∧ okEv e:=by
 obtain ⟨ys,n',hn',hy,hlen,hyl,hf⟩:=DataW.trod_struct Try.underlying51 h
 have hc4 : cs.length = 4:=hlen.trans (by kernel_rfl)
 match cs,hc4 with
 | [c0,c1,c2,c3],_ =>
  match ys,hyl with
  | [y0,y1,y2,y3],_ =>
   have h0:=hf 0 _ rfl
   have h1:=hf 1 _ rfl
   have h2:=hf 2 _ rfl
   have h3:=hf 3 _ rfl
   have e3 : Try.prog.cellsOf 3 = 1:=by kernel_rfl
   have e9 : Try.prog.cellsOf 9 = 1:=by kernel_rfl
   change DataW.trod enc Try.prog w base spare held n' 3 (([c0,c1,c2,c3].drop 0).take (Try.prog.cellsOf 3)) = some y0 at h0
   change DataW.trod enc Try.prog w base spare held n' 9 (([c0,c1,c2,c3].drop 1).take (Try.prog.cellsOf 9)) = some y1 at h1
   change DataW.trod enc Try.prog w base spare held n' 9 (([c0,c1,c2,c3].drop 2).take (Try.prog.cellsOf 9)) = some y2 at h2
   change DataW.trod enc Try.prog w base spare held n' 9 (([c0,c1,c2,c3].drop 3).take (Try.prog.cellsOf 9)) = some y3 at h3
   rw [e3] at h0
   rw [e9] at h1 h2 h3
   obtain ⟨k,hk,_,hw⟩:=DataW.trod_int Try.underlying3 h0
   obtain ⟨s1,hs1,_,z1⟩:=DataW.trod_string Try.underlying9 h1
   obtain ⟨s2,hs2,_,z2⟩:=DataW.trod_string Try.underlying9 h2
   obtain ⟨s3,hs3,_,z3⟩:=DataW.trod_string Try.underlying9 h3
   cases hk;cases hs1;cases hs2;cases hs3
   exact ⟨⟨k,s1,s2,s3⟩,rfl,hw,z1,z2,z3⟩
theorem open_events {fuel : Nat} {cs : List Value} {x : DataW H × List MemPlace} (h : DataW.trod enc Try.prog w base spare held fuel 22 cs = some x) :
  (cs = [.slice none 0 0] ∧ x = (.nil,[])) ∨
  ∃ (a : Addr) (len cap : Nat) (es sp : List (DataW H)) (l : List S51),cs = [.slice (some a) len cap] ∧ len ≤ cap ∧ x.1 = .slice es sp ∧ es.length = len ∧ l.length = len ∧ Kd.C k51 w (some a) len l ∧ ∀ y ∈ l,okEv y:=by
 rcases open_slice Try.underlying22 h with h0 | ⟨a,len,cap,m,n,D,Pl,hcs,hb,hl,hm,hmm,hx,hi⟩
 ·exact .inl h0
 ·refine .inr ⟨a,len,cap,(List.range len).map D,(List.range (m - len)).map (fun j => D (len + j)),?_⟩
  have hC : Try.prog.cellsOf 51 = 4:=by kernel_rfl
  have hlm : len ≤ m:=by rw [hmm];split;exact hl;exact Nat.le_refl _
  have hev : ∀ i,i < len → ∃ e : S51,okEv e ∧ ∀ j u,[Value.int .i64 e.f0,.string e.f1,.string e.f2,.string e.f3][j]? = some u → w.cell? (a.add (i * 4 + j)) = some u:=by
   intro i hil
   obtain ⟨cs',hc,ht⟩:=hi i (Nat.lt_of_lt_of_le hil hlm)
   obtain ⟨e,he,hok⟩:=open_event ht
   rw [hC] at hc
   obtain ⟨_,hcl,hat⟩:=World.cells?_some hc
   refine ⟨e,hok,fun j u hj => ?_⟩
   have hj4 : j < 4:=by
    have:=(List.getElem?_eq_some_iff.1 hj).1
    simpa using this
   have:=hat j hj4
   rw [he,hj,Go.Deep.add_add] at this
   exact this
  have hf : ∃ f : Nat → S51,∀ i,i < len → okEv (f i) ∧ ∀ j u,[Value.int .i64 (f i).f0,.string (f i).f1,.string (f i).f2,.string (f i).f3][j]? = some u → w.cell? (a.add (i * 4 + j)) = some u:=by
   refine ⟨fun i => if hil : i < len then Classical.choose (hev i hil) else z51,fun i hil => ?_⟩
   simp only [dif_pos hil]
   exact Classical.choose_spec (hev i hil)
  obtain ⟨f,hf⟩:=hf
  refine ⟨(List.range len).map f,hcs,hl,by rw [hx],by simp,by simp,?_,?_⟩
  ·refine ⟨by simp,by unfold maxLen at hm;omega,fun _ => ⟨a,rfl,fun j p hj => ?_⟩⟩
   have hjl : j < len:=by
    have:=(List.getElem?_eq_some_iff.1 hj).1
    simpa using this
   have hp : p = f j:=by
    rw [List.getElem?_map,List.getElem?_range hjl] at hj
    exact (Option.some.inj hj).symm
   subst hp
   exact ⟨_,rfl,k51_mk w (f j),(hf j hjl).2⟩
  ·intro y hy
   obtain ⟨i,hi',rfl⟩:=List.mem_map.1 hy
   exact (hf i (List.mem_range.1 hi')).1
end Go.Proofs.Ytnmmdeonkpfccaa.Pr
namespace Go.Proofs.Ytnmmdeonkpfccaa.Pr
open Go.RowKit
def metrolablaw53_RecallEnds.Pure : Prop:=∀ (l0 : List S51),l0.length * 56 ≤ 140737488351232 → (∀ x ∈ l0,okEv x) → ∃ k,metrolablaw53_RecallEnds.f k l0 = some true
end Go.Proofs.Ytnmmdeonkpfccaa.Pr
set_option linter.unusedVariables false
namespace Go.Proofs.Ytnmmdeonkpfccaa.Pr
open Go.RowKit Go.Proofs.YtnmmdeonkpfccaaW.PrintWords Go.Proofs.YtnmmdeonkpfccaaW.PrintLast Go.Proofs.YtnmmdeonkpfccaaW.PrintMore
abbrev knd (l : List S51) (i : Nat) : Int:=(gA l i).f0
abbrev prt (l : List S51) (i : Nat) : Nm:=(gA l i).f2.data.toList
theorem evK_gA (l : List S51) (k : Nat) : evK l k = gA l (l.length - 1 - k):=rfl
theorem st_meas {l : List S51} {i : Nat} (h : (stA l i).2 ≠ 0) : knd l i = 0:=by
 refine Classical.byContradiction fun h0 => h ?_
 unfold stA;rw [if_neg h0]
theorem kept_mem (p : S51 → Int → Bool) (l : List S51) (q : Nm) : ∀ n,n ≤ l.length →
  (q ∈ (keptS p l n).1 ↔ ∃ j,l.length - n ≤ j ∧ j < l.length ∧ knd l j = 0 ∧ (stA l j).2 ≠ 2 ∧ p (gA l j) (stA l j).2 = true ∧ prt l j = q) ∧
  (q ∈ (keptS p l n).2 ↔ ∃ j,l.length - n ≤ j ∧ j < l.length ∧ (knd l j = 3 ∨ (stA l j).2 = 2) ∧ prt l j = q):=by
 intro n
 induction n with
 | zero =>
  intro _
  unfold keptS
  refine ⟨⟨fun h => (List.not_mem_nil h).elim,?_⟩,⟨fun h => (List.not_mem_nil h).elim,?_⟩⟩ <;> rintro ⟨j,h1,h2,_⟩ <;> omega
 | succ n ih =>
  intro hn
  obtain ⟨ih1,ih2⟩:=ih (by omega)
  have ej : ∀ j,l.length - (n + 1) ≤ j ↔ j = l.length - 1 - n ∨ l.length - n ≤ j:=fun j => by omega
  unfold keptS
  rw [evK_gA,chkA_st l n (by omega)]
  have hlt : l.length - 1 - n < l.length:=by omega
  split
  ·rename_i hc
   refine ⟨ih1.trans ⟨?_,?_⟩,?_⟩
   ·rintro ⟨j,h1,h2⟩;exact ⟨j,by omega,h2⟩
   ·rintro ⟨j,h1,h2,h3,h4,h5⟩
    rcases (ej j).1 h1 with rfl | h1
    ·rcases hc with hc | hc
     ·have : (0 : Int) = 3:=h3.symm.trans hc;omega
     ·exact absurd hc h4
    ·exact ⟨j,h1,h2,h3,h4,h5⟩
   ·rw [List.mem_cons,ih2]
    constructor
    ·rintro (e | ⟨j,h1,h2⟩)
     ·exact ⟨_,by omega,hlt,hc,e.symm⟩
     ·exact ⟨j,by omega,h2⟩
    ·rintro ⟨j,h1,h2,h3,h4⟩
     rcases (ej j).1 h1 with rfl | h1
     ·exact .inl h4.symm
     ·exact .inr ⟨j,h1,h2,h3,h4⟩
  ·rename_i hc
   have hc3 : ∀ j,l.length - (n + 1) ≤ j → j < l.length → (knd l j = 3 ∨ (stA l j).2 = 2) → l.length - n ≤ j:=by
    intro j h1 h2 h3
    rcases (ej j).1 h1 with rfl | h1
    ·exact absurd h3 hc
    ·exact h1
   have ih2' : q ∈ (keptS p l n).2 ↔ ∃ j,l.length - (n + 1) ≤ j ∧ j < l.length ∧ (knd l j = 3 ∨ (stA l j).2 = 2) ∧ prt l j = q :=
    ih2.trans ⟨fun ⟨j,h1,h2⟩ => ⟨j,by omega,h2⟩,fun ⟨j,h1,h2,h3,h4⟩ => ⟨j,hc3 j h1 h2 h3,h2,h3,h4⟩⟩
   split
   ·rename_i hp
    refine ⟨?_,ih2'⟩
    rw [List.mem_cons,ih1]
    constructor
    ·rintro (e | ⟨j,h1,h2⟩)
     ·exact ⟨_,by omega,hlt,hp.1,fun h => hc (.inr h),hp.2,e.symm⟩
     ·exact ⟨j,by omega,h2⟩
    ·rintro ⟨j,h1,h2,h3,h4,h5,h6⟩
     rcases (ej j).1 h1 with rfl | h1
     ·exact .inl h6.symm
     ·exact .inr ⟨j,h1,h2,h3,h4,h5,h6⟩
   ·rename_i hp
    refine ⟨ih1.trans ⟨fun ⟨j,h1,h2⟩ => ⟨j,by omega,h2⟩,?_⟩,ih2'⟩
    rintro ⟨j,h1,h2,h3,h4,h5,h6⟩
    rcases (ej j).1 h1 with rfl | h1
    ·exact absurd ⟨h3,h5⟩ hp
    ·exact ⟨j,h1,h2,h3,h4,h5,h6⟩
theorem keptL_mem (p : S51 → Int → Bool) (l : List S51) (q : Nm) : q ∈ keptL p l ↔ (∃ j,j < l.length ∧ knd l j = 0 ∧ (stA l j).2 ≠ 2 ∧ p (gA l j) (stA l j).2 = true ∧ prt l j = q) ∧ ¬ ∃ j,j < l.length ∧ (knd l j = 3 ∨ (stA l j).2 = 2) ∧ prt l j = q:=by
 unfold keptL
 obtain ⟨h1,h2⟩:=kept_mem p l q l.length (Nat.le_refl _)
 rw [List.mem_filter,h1]
 simp only [Nat.sub_self,Nat.zero_le,true_and] at h2 ⊢
 rw [Bool.not_eq_true',decide_eq_false_iff_not,h2]
theorem recL_mem (l : List S51) (q : Nm) : q ∈ recL l ↔ (∃ j,j < l.length ∧ (stA l j).2 = 3 ∧ prt l j = q) ∧ ¬ ∃ j,j < l.length ∧ (knd l j = 3 ∨ (stA l j).2 = 2) ∧ prt l j = q:=by
 unfold recL
 rw [keptL_mem]
 refine and_congr_left fun _ => ⟨?_,?_⟩
 ·rintro ⟨j,h1,h2,h3,h4,h5⟩;exact ⟨j,h1,by simpa using h4,h5⟩
 ·rintro ⟨j,h1,h2,h3⟩;exact ⟨j,h1,st_meas (by omega),by omega,by rw [h2];rfl,h3⟩
def selP (l : List S51) (i : Nat) : Option Nm:=if knd l i = 0 ∧ prt l i ∈ recL l then some (prt l i) else none
theorem acc_strs (sel : Nat → Option Nm) (n : Nat) {S : List Nm} (h : ∀ q,(∃ j,j < n ∧ sel j = some q) ↔ q ∈ S) : bs (accS sel n) = strs S:=(strs_of (acc_asc sel n) fun q => (acc_mem sel n).trans (h q)).symm
theorem selP_mem (l : List S51) (q : Nm) : (∃ j,j < l.length ∧ selP l j = some q) ↔ q ∈ recL l:=by
 unfold selP
 constructor
 ·rintro ⟨j,h1,h2⟩
  split at h2
  ·rename_i h;obtain rfl:=Option.some.inj h2;exact h.2
  ·cases h2
 ·intro h
  obtain ⟨⟨j,h1,h2,h3⟩,_⟩:=(recL_mem l q).1 h
  exact ⟨j,h1,by rw [if_pos ⟨st_meas (by omega),by rw [h3];exact h⟩,h3]⟩
end Go.Proofs.Ytnmmdeonkpfccaa.Pr
set_option linter.unusedVariables false
namespace Go.Proofs.Ytnmmdeonkpfccaa.Pr
open Go.RowKit Go.Proofs.YtnmmdeonkpfccaaW.PrintWords Go.Proofs.YtnmmdeonkpfccaaW.PrintLast Go.Proofs.YtnmmdeonkpfccaaW.PrintMore
theorem now_ev {α : Type} {o : Option α} {r : α} (h : o = some r) : Ev (fun _ => o) r:=by rw [h];exact Ev.now _
end Go.Proofs.Ytnmmdeonkpfccaa.Pr
set_option linter.unusedVariables false
namespace Go.Proofs.Ytnmmdeonkpfccaa.Pr
open Go.RowKit Go.Proofs.YtnmmdeonkpfccaaW.PrintWords Go.Proofs.YtnmmdeonkpfccaaW.PrintLast Go.Proofs.YtnmmdeonkpfccaaW.PrintMore
theorem awake_ev : Ev (fun _ : Nat => metrolablaw53_awake.f) true:=now_ev rfl
theorem right_ev (l : List S51) (hn : l.length ≤ 2513169434915) : ∃ b,Ev (fun k => metrolablaw53_right.f k l) b ∧ (b = true → l.length ≤ 16 ∧ checkV l = 0):=by
 unfold metrolablaw53_right.f
 by_cases h : (l.length : Int) ≤ 16
 ·simp only [if_pos h]
  obtain ⟨b,hb⟩:=few_ev l ⟨#[]⟩ hn
  cases b
  ·exact ⟨false,Ev.bind hb (by simp only [if_neg (show ¬ (false = true) by decide)];exact Ev.now _),fun h => by cases h⟩
  ·refine ⟨checkV l == 0,Ev.bind hb ?_,fun h2 => ⟨by omega,by simpa using h2⟩⟩
   simp only [if_true]
   exact Ev.bind (own_ev l hn) (Ev.bind (check_ev l hn) (Ev.now _))
 ·simp only [if_neg h]
  exact ⟨false,Ev.now _,fun h => by cases h⟩
theorem nx_app (g : Nm) : ∀ (r s : List S51) (i : Nat),nx g i (r ++ s) = match nx g i r with | some p => some p | none => nx g (i + r.length) s
 | [],s,i => rfl
 | x :: r,s,i => by
  rw [List.cons_append]
  unfold nx
  by_cases h : (x.f0 = 1 ∨ x.f0 = 2) ∧ x.f1.data.toList = g
  ·rw [if_pos h,if_pos h]
  ·rw [if_neg h,if_neg h,nx_app g r s (i + 1),show i + 1 + r.length = i + (x :: r).length by rw [List.length_cons];omega]
   cases s <;> rfl
theorem nx_none (g : Nm) : ∀ (s : List S51) (i : Nat),(∀ x ∈ s,¬ ((x.f0 = 1 ∨ x.f0 = 2) ∧ x.f1.data.toList = g)) → nx g i s = none
 | [],_,_ => rfl
 | x :: s,i,h => by
  unfold nx
  rw [if_neg (h x (.head _))]
  exact nx_none g s (i + 1) fun y hy => h y (.tail _ hy)
theorem nx_gauge {l : List S51} {g : Nm} : ∀ (d i : Nat) {p : Int × Int},i ≤ l.length → l.length - i = d → nx g i (l.drop i) = some p → ∃ j : Nat,i ≤ j ∧ j < l.length ∧ p.1 = (j : Int) ∧ p.2 = 1 + (gA l j).f0 ∧ ((gA l j).f0 = 1 ∨ (gA l j).f0 = 2) ∧ (gA l j).f1.data.toList = g:=by
 intro d
 induction d with
 | zero =>
  intro i p hi hd h
  rw [show l.drop i = [] from List.drop_eq_nil_of_le (by omega)] at h
  cases h
 | succ d ih =>
  intro i p hi hd h
  obtain ⟨x,hx,hdr⟩:=drop_at (show i < l.length by omega)
  rw [hdr] at h
  unfold nx at h
  split at h
  ·rename_i hc
   obtain rfl:=Option.some.inj h
   exact ⟨i,Nat.le_refl _,by omega,rfl,by rw [gA_at hx],by rw [gA_at hx];exact hc.1,by rw [gA_at hx];exact hc.2⟩
  ·obtain ⟨j,h1,h2,h3⟩:=ih (i + 1) (by omega) (by omega) h
   exact ⟨j,by omega,h2,h3⟩
theorem st_three {l : List S51} {j : Nat} (hj : j < l.length) (h : (stA l j).2 = 3) : ∃ m : Nat,(stA l j).1 = (m : Int) ∧ j < m ∧ m < l.length ∧ knd l m = 2 ∧ (gA l m).f1.data.toList = (gA l j).f1.data.toList:=by
 have h0 : knd l j = 0:=st_meas (by omega)
 unfold stA at h ⊢
 rw [if_pos h0] at h ⊢
 cases hN : nx (gA l j).f1.data.toList (j + 1) (l.drop (j + 1)) with
 | none => rw [hN] at h;simp at h
 | some p =>
  rw [hN] at h
  obtain ⟨m,h1,h2,h3,h4,h5,h6⟩:=nx_gauge (l.length - (j + 1)) (j + 1) (by omega) rfl hN
  simp only [Option.getD_some] at h ⊢
  exact ⟨m,h3,by omega,h2,by show (gA l m).f0 = 2;omega,h6⟩
theorem gA_app {l s : List S51} {j : Nat} (h : j < l.length) : gA (l ++ s) j = gA l j:=by
 unfold gA;rw [List.getD_eq_getElem?_getD,List.getD_eq_getElem?_getD,List.getElem?_append_left h]
theorem gA_mem {l : List S51} {j : Nat} (h : j < l.length) : gA l j ∈ l:=by
 rw [gA_at (List.getElem?_eq_getElem h)];exact List.getElem_mem _
theorem gA_app2 {l s : List S51} {j : Nat} (h : l.length ≤ j) : gA (l ++ s) j = gA s (j - l.length):=by
 unfold gA;rw [List.getD_eq_getElem?_getD,List.getD_eq_getElem?_getD,List.getElem?_append_right h]
theorem mem_gA {l : List S51} {x : S51} (h : x ∈ l) : ∃ j,j < l.length ∧ gA l j = x:=by
 obtain ⟨j,hj,e⟩:=List.getElem_of_mem h
 exact ⟨j,hj,by rw [gA_at (List.getElem?_eq_getElem hj),e]⟩
theorem st_app {l s : List S51} (hs : ∀ x ∈ s,x.f0 ≠ 1 ∧ x.f0 ≠ 2) {j : Nat} (hj : j < l.length) : stA (l ++ s) j = stA l j:=by
 unfold stA
 rw [gA_app hj,List.drop_append_of_le_length (by omega),nx_app,nx_none _ s _ (fun x hx h => h.1.elim (hs x hx).1 (hs x hx).2)]
 cases nx (gA l j).f1.data.toList (j + 1) (l.drop (j + 1)) <;> rfl
def runL : List (Nm × ByteArray) → List S51 → List (Nm × ByteArray)
 | L,[] => L
 | L,x :: r => if x.f0 = 0 then runL ((x.f2.data.toList,x.f3) :: L) r else runL L r
def runG : List Nm → List S51 → List Nm
 | G,[] => G
 | G,x :: r => if x.f0 = 3 then runG (x.f2.data.toList :: G) r else runG G r
theorem check_app : ∀ (l s : List S51) (L : List (Nm × ByteArray)) (G : List Nm),checkF L G l = 0 → checkF L G (l ++ s) = checkF (runL L l) (runG G l) s
 | [],s,L,G,_ => rfl
 | x :: r,s,L,G,h => by
  rw [checkF_cons] at h
  rw [List.cons_append,checkF_cons]
  by_cases hn : namesX x = 0
  ·rw [if_neg (fun h => h hn)] at h ⊢
   unfold runL runG
   by_cases h0 : x.f0 = 0
   ·rw [if_pos h0] at h ⊢
    rw [if_pos h0,if_neg (show ¬ x.f0 = 3 by omega)]
    by_cases hG : x.f2.data.toList ∈ G
    ·rw [if_pos hG] at h;cases h
    ·rw [if_neg hG] at h ⊢
     cases hL : L.lookup x.f2.data.toList with
     | none => rw [hL] at h;exact check_app r s _ _ h
     | some z =>
      rw [hL] at h
      simp only at h ⊢
      by_cases he : z.data.toList = x.f3.data.toList
      ·rw [if_pos he] at h ⊢;exact check_app r s _ _ h
      ·rw [if_neg he] at h;cases h
   ·rw [if_neg h0] at h ⊢
    rw [if_neg h0]
    by_cases h3 : x.f0 = 3
    ·rw [if_pos h3] at h ⊢
     rw [if_pos h3]
     by_cases hL : L.lookup x.f2.data.toList = none
     ·rw [if_pos hL] at h;cases h
     ·rw [if_neg hL] at h ⊢
      by_cases hG : x.f2.data.toList ∈ G
      ·rw [if_pos hG] at h;cases h
      ·rw [if_neg hG] at h ⊢;exact check_app r s _ _ h
    ·rw [if_neg h3] at h ⊢
     rw [if_neg h3]
     exact check_app r s _ _ h
  ·rw [if_pos hn] at h;exact absurd h hn
theorem look_keep (q : Nm) : ∀ (l : List S51) (L : List (Nm × ByteArray)),L.lookup q ≠ none → (runL L l).lookup q ≠ none
 | [],L,h => h
 | x :: r,L,h => by
  unfold runL
  split
  ·refine look_keep q r _ ?_
   rw [List.lookup_cons]
   split
   ·intro e;cases e
   ·exact h
  ·exact look_keep q r L h
theorem look_run (q : Nm) : ∀ (l : List S51) (L : List (Nm × ByteArray)),(∃ x ∈ l,x.f0 = 0 ∧ x.f2.data.toList = q) → (runL L l).lookup q ≠ none
 | [],L,⟨x,hx,_⟩ => by cases hx
 | y :: r,L,⟨x,hx,h0,hq⟩ => by
  unfold runL
  rcases List.mem_cons.1 hx with rfl | hx
  ·rw [if_pos h0]
   refine look_keep q r _ ?_
   rw [List.lookup_cons,hq,beq_self_eq_true]
   intro e;cases e
  ·split
   ·exact look_run q r _ ⟨x,hx,h0,hq⟩
   ·exact look_run q r _ ⟨x,hx,h0,hq⟩
theorem gone_run (q : Nm) : ∀ (l : List S51) (G : List Nm),q ∈ runG G l → q ∈ G ∨ ∃ x ∈ l,x.f0 = 3 ∧ x.f2.data.toList = q
 | [],G,h => .inl h
 | y :: r,G,h => by
  unfold runG at h
  split at h
  ·rename_i h3
   rcases gone_run q r _ h with h | ⟨x,hx,h⟩
   ·rcases List.mem_cons.1 h with rfl | h
    ·exact .inr ⟨y,.head _,h3,rfl⟩
    ·exact .inl h
   ·exact .inr ⟨x,.tail _ hx,h⟩
  ·rcases gone_run q r _ h with h | ⟨x,hx,h⟩
   ·exact .inl h
   ·exact .inr ⟨x,.tail _ hx,h⟩
theorem checkV_eq {l : List S51} (h : l.length ≤ 4096) : checkV l = checkF [] [] l:=by unfold checkV;rw [if_neg (by omega)]
theorem recL_nil {l : List S51} (h : ∀ q,q ∉ recL l) : recL l = []:=List.eq_nil_iff_forall_not_mem.2 h
theorem lotK_nil {l : List S51} (h : recL l = []) : ∀ n,lotK l n = []
 | 0 => rfl
 | n + 1 => by
  unfold lotK
  rw [h,if_neg (fun hh => by cases hh.2)]
  exact lotK_nil h n
theorem strs_nil : strs [] = []:=strs_of (S:=[]) (l:=[]) List.Pairwise.nil (fun q => Iff.rfl)
theorem nameL_of {l : List S51} (hc : checkV l = 0) {j : Nat} (hj : j < l.length) (h0 : knd l j = 0 ∨ knd l j = 3) : nameL (prt l j) = 0:=by
 have h:=(check_zero hc).2 (gA l j) (gA_mem hj)
 unfold namesX namesV at h
 split at h
 ·cases h
 ·have hz:=(nfold_zero h).2 _ (.tail _ (.head _))
  refine hz.1 ?_
  show ((gA l j).f0 == 0 || (gA l j).f0 == 3) = true
  rcases h0 with h0 | h0
  ·have : (gA l j).f0 = 0:=h0
   rw [this];rfl
  ·have : (gA l j).f0 = 3:=h0
   rw [this];rfl
end Go.Proofs.Ytnmmdeonkpfccaa.Pr
set_option linter.unusedVariables false
namespace Go.Proofs.Ytnmmdeonkpfccaa.Pr
open Go.RowKit Go.Proofs.YtnmmdeonkpfccaaW.PrintWords Go.Proofs.YtnmmdeonkpfccaaW.PrintLast Go.Proofs.YtnmmdeonkpfccaaW.PrintMore
theorem reasK_first (l : List S51) (a : ByteArray) : ∀ n,n ≤ l.length → (∃ j,l.length - n ≤ j ∧ j < l.length ∧ prt l j = a.data.toList ∧ (stA l j).2 = 3) →
  ∃ j : Nat,reasK l a n = ((j : Int),(stA l j).1) ∧ l.length - n ≤ j ∧ j < l.length ∧ prt l j = a.data.toList ∧ (stA l j).2 = 3 ∧ ∀ m,l.length - n ≤ m → m < j → ¬ (prt l m = a.data.toList ∧ (stA l m).2 = 3)
 | 0,_,⟨j,h1,h2,_⟩ => by omega
 | n + 1,hn,⟨j,h1,h2,h3,h4⟩ => by
  have ej : ∀ j,l.length - (n + 1) ≤ j ↔ j = l.length - 1 - n ∨ l.length - n ≤ j:=fun j => by omega
  unfold reasK
  rw [evK_gA,chkA_st l n (by omega)]
  by_cases hc : (gA l (l.length - 1 - n)).f0 = 0 ∧ (gA l (l.length - 1 - n)).f2.data.toList = a.data.toList ∧ (stA l (l.length - 1 - n)).2 = 3
  ·rw [if_pos hc]
   refine ⟨l.length - 1 - n,?_,by omega,by omega,hc.2.1,hc.2.2,fun m m1 m2 => by omega⟩
   rw [show (l.length : Int) - 1 - n = ((l.length - 1 - n : Nat) : Int) by omega]
  ·rw [if_neg hc]
   have hne : ¬ (prt l (l.length - 1 - n) = a.data.toList ∧ (stA l (l.length - 1 - n)).2 = 3):=fun h => hc ⟨st_meas (by omega),h.1,h.2⟩
   have h1' : l.length - n ≤ j:=by
    rcases (ej j).1 h1 with rfl | h
    ·exact absurd ⟨h3,h4⟩ hne
    ·exact h
   obtain ⟨i,k1,k2,k3,k4,k5,k6⟩:=reasK_first l a n (by omega) ⟨j,h1',h2,h3,h4⟩
   refine ⟨i,k1,by omega,k3,k4,k5,fun m m1 m2 => ?_⟩
   rcases (ej m).1 m1 with rfl | h
   ·exact hne
   ·exact k6 m h m2
theorem len_sortU (S : List Nm) (n : Nat) (h : (strs S).length ≤ n) : (sortU S).length ≤ n:=by unfold strs at h;rw [List.length_map] at h;exact h
theorem strs_recL_len (l : List S51) : (sortU (recL l)).length ≤ l.length:=by
 have h:=acc_strs (selP l) l.length (selP_mem l)
 have:=acc_len (selP l) l.length
 refine len_sortU _ _ ?_
 rw [← h,bs_len];exact this
end Go.Proofs.Ytnmmdeonkpfccaa.Pr
set_option linter.unusedVariables false
namespace Go.Proofs.Ytnmmdeonkpfccaa.Pr
open Go.RowKit Go.Proofs.YtnmmdeonkpfccaaW.PrintWords Go.Proofs.YtnmmdeonkpfccaaW.PrintLast Go.Proofs.YtnmmdeonkpfccaaW.PrintMore
def wdE (q : Nm) : S51:=⟨3,⟨#[]⟩,mkB q,⟨#[]⟩⟩
theorem wd_kind {P : List Nm} : ∀ x ∈ P.map wdE,x.f0 ≠ 1 ∧ x.f0 ≠ 2:=by
 intro x hx
 obtain ⟨q,_,rfl⟩:=List.mem_map.1 hx
 exact ⟨by show (3 : Int) ≠ 1;decide,by show (3 : Int) ≠ 2;decide⟩
theorem wd_names {q : Nm} (h : nameL q = 0) : namesX (wdE q) = 0:=by
 show namesV 3 [] (mkB q).data.toList [] = 0
 have e : (mkB q).data.toList = q:=rfl
 rw [e]
 unfold namesV
 rw [if_neg (by omega)]
 show nfold 0 [([],false),(q,true),([],false)] = 0
 simp [nfold,h]
theorem check_wd (L : List (Nm × ByteArray)) : ∀ (P : List Nm) (G : List Nm),Asc P → (∀ q ∈ P,nameL q = 0 ∧ L.lookup q ≠ none ∧ q ∉ G) → checkF L G (P.map wdE) = 0
 | [],G,_,_ => rfl
 | q :: P,G,ha,h => by
  obtain ⟨h1,h2,h3⟩:=h q (.head _)
  rw [List.map_cons,checkF_cons,if_neg (fun hn => hn (wd_names h1)),if_neg (show ¬ (wdE q).f0 = 0 by show ¬ (3 : Int) = 0;decide),if_pos (show (wdE q).f0 = 3 from rfl)]
  have e : (wdE q).f2.data.toList = q:=rfl
  rw [e,if_neg h2,if_neg h3]
  refine check_wd L P _ (List.Pairwise.of_cons ha) fun r hr => ?_
  obtain ⟨k1,k2,k3⟩:=h r (.tail _ hr)
  refine ⟨k1,k2,fun hm => ?_⟩
  rcases List.mem_cons.1 hm with rfl | hm
  ·exact List.lt_irrefl _ ((List.pairwise_cons.1 ha).1 _ hr)
  ·exact k3 hm
theorem after_check {l : List S51} (h16 : l.length ≤ 16) (hc : checkV l = 0) : checkV (l ++ (sortU (recL l)).map wdE) = 0:=by
 have hl:=strs_recL_len l
 rw [checkV_eq (by rw [List.length_append,List.length_map];omega)]
 have h0 : checkF [] [] l = 0:=by rw [← checkV_eq (by omega)];exact hc
 rw [check_app l _ _ _ h0]
 refine check_wd _ _ _ (asc_sortU _) fun q hq => ?_
 rw [mem_sortU,recL_mem] at hq
 obtain ⟨⟨j,h1,h2,h3⟩,h4⟩:=hq
 have hk : knd l j = 0:=st_meas (by omega)
 refine ⟨by rw [← h3];exact nameL_of hc h1 (.inl hk),look_run q l [] ⟨gA l j,gA_mem h1,hk,h3⟩,fun hg => ?_⟩
 rcases gone_run q l [] hg with h | ⟨x,hx,h5,h6⟩
 ·cases h
 ·obtain ⟨i,hi,e⟩:=mem_gA hx
  exact h4 ⟨i,hi,.inl (by show (gA l i).f0 = 3;rw [e];exact h5),by show (gA l i).f2.data.toList = q;rw [e];exact h6⟩
theorem after_none {l : List S51} : recL (l ++ (sortU (recL l)).map wdE) = []:=by
 refine recL_nil fun q hq => ?_
 rw [recL_mem] at hq
 obtain ⟨⟨j,h1,h2,h3⟩,h4⟩:=hq
 have hp : ∀ i,i < l.length → prt (l ++ (sortU (recL l)).map wdE) i = prt l i:=fun i hi => by unfold prt;rw [gA_app hi]
 have hk : ∀ i,i < l.length → knd (l ++ (sortU (recL l)).map wdE) i = knd l i:=fun i hi => by unfold knd;rw [gA_app hi]
 by_cases hj : j < l.length
 ·rw [st_app wd_kind hj] at h2
  rw [hp j hj] at h3
  by_cases hr : q ∈ recL l
  ·have hm : wdE q ∈ (sortU (recL l)).map wdE:=List.mem_map_of_mem (mem_sortU.2 hr)
   obtain ⟨i,hi,e⟩:=mem_gA hm
   refine h4 ⟨l.length + i,by rw [List.length_append];omega,.inl ?_,?_⟩
   ·show (gA _ _).f0 = 3
    rw [gA_app2 (by omega),Nat.add_sub_cancel_left,e];rfl
   ·show (gA _ _).f2.data.toList = q
    rw [gA_app2 (by omega),Nat.add_sub_cancel_left,e];rfl
  ·refine hr ((recL_mem _ _).2 ⟨⟨j,hj,h2,h3⟩,?_⟩)
   rintro ⟨i,hi,h5,h6⟩
   refine h4 ⟨i,by rw [List.length_append];omega,?_,by rw [hp i hi];exact h6⟩
   rw [hk i hi,st_app wd_kind hi];exact h5
 ·have h0 : knd (l ++ (sortU (recL l)).map wdE) j = 0:=st_meas (by omega)
  rw [List.length_append] at h1
  unfold knd at h0
  rw [gA_app2 (by omega)] at h0
  have:=gA_mem (l:=(sortU (recL l)).map wdE) (j:=j - l.length) (by omega)
  obtain ⟨p,_,e⟩:=List.mem_map.1 this
  rw [← e] at h0
  exact absurd h0 (by show ¬ (3 : Int) = 0;decide)
theorem reason_of {l : List S51} (hc : checkV l = 0) {q : Nm} (hq : q ∈ recL l) : ∃ j m : Nat,recall_Reason.f l (mkB q) = some ((j : Int),(m : Int),0) ∧ j < m ∧ m < l.length ∧ knd l j = 0 ∧ prt l j = q ∧ knd l m = 2 ∧ (gA l m).f1.data.toList = (gA l j).f1.data.toList:=by
 obtain ⟨⟨j,h1,h2,h3⟩,h4⟩:=(recL_mem _ _).1 hq
 have e : (mkB q).data.toList = q:=rfl
 obtain ⟨i,k1,k2,k3,k4,k5,k6⟩:=reasK_first l (mkB q) l.length (Nat.le_refl _) ⟨j,by omega,h1,h3,h2⟩
 obtain ⟨m,m1,m2,m3,m4,m5⟩:=st_three k3 k5
 have hk : knd l i = 0:=st_meas (by omega)
 refine ⟨i,m,?_,m2,m3,hk,k4,m4,m5⟩
 unfold recall_Reason.f reasonV
 have hm : l.any (measP (mkB q)) = true:=by
  rw [List.any_eq_true]
  refine ⟨gA l i,gA_mem k3,?_⟩
  unfold measP
  have hk' : (gA l i).f0 = 0:=hk
  have k4' : (gA l i).f2.data.toList = (mkB q).data.toList:=k4
  rw [hk',decide_eq_true k4'];rfl
 have hn : nameL (mkB q).data.toList = 0:=by rw [e,← e,← k4];exact nameL_of hc k3 (.inl hk)
 rw [if_neg (fun h => h hc),if_neg (fun h => h hn),if_neg (by rw [hm];decide),if_neg (fun h => h hq),k1,m1]
theorem ends_go {l : List S51} (h16 : l.length ≤ 16) (hc : checkV l = 0) : ∀ (d i : Nat),i ≤ (sortU (recL l)).length → (sortU (recL l)).length - i = d →
  Ev (fun k => metrolablaw53_RecallEnds.l0 k l (l ++ ((sortU (recL l)).take i).map wdE) (bs (sortU (recL l))) ((bs (sortU (recL l))).length : Int) (i : Int)) true:=by
 have hl:=strs_recL_len l
 intro d
 induction d with
 | zero =>
  intro i hi hd
  obtain rfl : i = (sortU (recL l)).length:=by omega
  refine Ev.step (f:=fun k => _) (fun k => by simp only [metrolablaw53_RecallEnds.l0];rw [if_neg (by rw [bs_len];omega)]) ?_
  rw [List.take_length]
  have hv:=after_check h16 hc
  have hr:=after_none (l:=l)
  have e1 : recall_Parts.f (l ++ (sortU (recL l)).map wdE) = some ([],0):=by
   unfold recall_Parts.f partsV
   rw [if_neg (fun h => h hv),hr,strs_nil]
  have e2 : recall_Lots.f (l ++ (sortU (recL l)).map wdE) = some ([],0):=by
   unfold recall_Lots.f lotsV
   rw [if_neg (fun h => h hv),lotK_nil hr,strs_nil]
  have e0 : (([] : List ByteArray).length : Int) = 0:=rfl
  simp only [e1,e2,Option.bind_some,e0,show wrap64 (0 + 0) = 0 by decide +kernel,if_true]
  exact Ev.bind awake_ev (Ev.now _)
 | succ d ih =>
  intro i hi hd
  obtain ⟨q,hq,hdr⟩:=drop_at (show i < (sortU (recL l)).length by omega)
  have hih:=ih (i + 1) (by omega) (by omega)
  have hmem : q ∈ recL l:=mem_sortU.1 (List.mem_iff_getElem?.2 ⟨i,hq⟩)
  have et : ((sortU (recL l)).take (i + 1)).map wdE = ((sortU (recL l)).take i).map wdE ++ [wdE q]:=by rw [List.take_add_one,hq,List.map_append];rfl
  rw [et,← List.append_assoc] at hih
  obtain ⟨j,m,e1,h1,h2,h3,h4,h5,h6⟩:=reason_of hc hmem
  have hj:=rd51_at (l:=l) (List.getElem?_eq_getElem (show j < l.length by omega))
  have hjg:=gA_at (l:=l) (List.getElem?_eq_getElem (show j < l.length by omega))
  have hm:=rd51_at (l:=l) (List.getElem?_eq_getElem h2)
  have hmg:=gA_at (l:=l) (List.getElem?_eq_getElem h2)
  rw [← hjg] at hj
  rw [← hmg] at hm
  have hwd : (⟨3,(⟨#[]⟩ : ByteArray),mkB q,(⟨#[]⟩ : ByteArray)⟩ : S51) = wdE q:=rfl
  refine Ev.step (f:=fun k => _) (fun k => ?_) hih
  simp only [metrolablaw53_RecallEnds.l0]
  rw [if_pos (by rw [bs_len];omega),if_pos (by omega),if_pos (by rw [bs_len];omega),rdB_at hq,e1]
  simp only [Option.bind_some,hj,hm]
  rw [if_pos True.intro,if_neg (by omega),if_neg (by omega),if_neg (by omega),if_pos (by omega),if_pos (by omega),if_pos (by rw [mkB_list,ByteArray.toList_eq];exact h4),if_pos h3,if_pos (by omega),if_pos (by omega),if_pos h5,if_pos (by rw [str_eq];exact h6),if_pos (by rw [List.length_append,List.length_map,List.length_take];omega),hwd,wrap_nat (by omega)]
end Go.Proofs.Ytnmmdeonkpfccaa.Pr
namespace Go.Proofs.Ytnmmdeonkpfccaa.Pure
open Go.RowKit Go.Proofs.Ytnmmdeonkpfccaa.Pr Go.Proofs.YtnmmdeonkpfccaaW.PrintWords Go.Proofs.YtnmmdeonkpfccaaW.PrintLast
theorem RecallEnds : metrolablaw53_RecallEnds.Pure:=by
 intro l0 hl _
 have hn : l0.length ≤ 2513169434915:=by omega
 refine Ev.rounds (g:=fun k => metrolablaw53_RecallEnds.f k l0) ?_
 obtain ⟨b,hb,hr⟩:=right_ev l0 hn
 refine Ev.bind hb ?_
 cases b
 ·simp only [if_neg (show ¬ (false = true) by decide)]
  exact Ev.bind awake_ev (Ev.now _)
 ·simp only [if_true]
  obtain ⟨h16,hc⟩:=hr rfl
  have e1 : recall_Parts.f l0 = some (bs (sortU (recL l0)),0):=by
   unfold recall_Parts.f partsV
   rw [if_neg (fun h => h hc)];rfl
  have e2 : recall_Event_31.f l0 = some l0:=by unfold recall_Event_31.f;rw [if_pos (by omega)]
  simp only [e1,e2,Option.bind_some,if_true]
  have:=ends_go h16 hc (sortU (recL l0)).length 0 (by omega) (by omega)
  rw [List.take_zero,List.map_nil,List.append_nil] at this
  exact this
end Go.Proofs.Ytnmmdeonkpfccaa.Pure
namespace Go.Proofs.Ytnmmdeonkpfccaa.recallEnds
open Go.ChangeShapes Go.WideShapes Go.ChangeAt Go.RowKit
open Go.ChangeMaps (open_string shut_string)
set_option linter.unusedVariables false
theorem own : ownKnob Try.prog.godebug = none:=by kernel_rfl
theorem laidOut : laidOutB Try.prog = true:=by kernel_rfl
set_option maxRecDepth 100000 in
theorem lifted (os : Os) (started : os.Started) (H : Type) (enc : TypeId × Value → H) :
  ReturnsInHanded {} Try.checked os 7 .any (Rows.recallEndsSpec.pre6 enc Try.prog Try.f7 Rows.recallEndsRow.domain false) (Rows.recallEndsSpec.post enc Try.prog Try.f7 false true false false):=by
 refine returnsInHanded_of_change_sized (C:=Try.checked) own started (by kernel_rfl) Try.func7
  (ChangeSpec.witness6 (enc:=enc) (C:=Try.checked) false ⟨#[],#[.slice none 0 0],[]⟩ 8 (by kernel_rfl) (by kernel_rfl) (by kernel_rfl) (by kernel_rfl)) ?_
 intro W base args ds gs before hval0 hW hcnd hsz0 _
 have hsz : (DataW.weightsEach Try.prog (Try.f7.params.toList ++ Rows.recallEndsSpec.plain.varTypes Try.prog) (ds ++ gs)).all (· ≤ reachBytes) = true:=hsz0
 have hval : ∀ (j : Nat) t v,Try.f7.params[j]? = some t → args[j]? = some v → Value.okWide Try.prog W .any base t v:=hval0
 have hW':=hW
 obtain ⟨p,q,hA0,hV,rfl,hfz,hnd⟩:=hW
 have hA : DataW.TrodAll enc Try.prog W 0 (fun _ => true) true Try.f7.params.toList args.toList ds p:=hA0
 rw [Try.params7] at hA hval hsz
 obtain ⟨v0,vs0,d0,ds0,p0,q0,hargs,rfl,rfl,h0,r0⟩:=trodAll_cons hA
 obtain ⟨rfl,rfl,rfl⟩:=trodAll_nil r0
 obtain rfl : args = #[v0]:=by cases args;simp_all
 obtain ⟨rfl,rfl⟩:=trodVars_none hV
 obtain ⟨a0,len0,cap0,rfl⟩:=okWide_slice Try.underlying22 (hval 0 22 v0 rfl rfl)
 have k0:=h0
 have lt0 : ∀ x ∈ p0,x.block < W.heap.size:=by obtain ⟨m,hm⟩:=k0;exact DataW.trod_lt m _ _ _ hm
 obtain ⟨z0,rfl,hC0,hcap0,hev0,y0⟩ : ∃ zs : List Pr.S51,len0 = zs.length ∧ YtnmmdeonkpfccaaW.PrintWords.Kd.C Pr.k51 W a0 zs.length zs ∧ zs.length ≤ cap0 ∧ (∀ y ∈ zs,Pr.okEv y) ∧ zs.length * 56 ≤ 140737488351232:=by
  obtain ⟨fuel,hf⟩:=h0
  rcases Pr.open_events hf with ⟨hcs,_⟩ | ⟨a,len,cap,es,sp,l,hcs,hl,hx,hes,hll,hC,hok⟩
  ·simp [Value.cells] at hcs
   obtain ⟨rfl,rfl,rfl⟩:=hcs
   exact ⟨[],rfl,⟨rfl,(by simp only [List.length_nil];omega),fun h => absurd h (by simp only [List.length_nil];omega)⟩,Nat.le_refl _,(fun _ h => by cases h),by simp⟩
  ·simp [Value.cells] at hcs
   obtain ⟨rfl,rfl,rfl⟩:=hcs
   have z:=sized_slice hsz (j:=0) (t:=22) rfl (congrArg some hx) Try.underlying22
   rw [show Try.prog.bytesOf 51 = 56 by kernel_rfl,hes,← hll] at z
   exact ⟨l,hll.symm,hll ▸ hC,hll ▸ hl,hok,Nat.le_trans (Nat.mul_le_mul_right _ (Nat.le_add_right _ _)) z⟩
 clear hA0 hval0 hsz0 hsz
 obtain ⟨k,hk⟩:=Pure.RecallEnds z0 y0 hev0
 refine (Pr.metrolablaw53_RecallEnds.calls k a0 cap0 z0 true W hC0 hcap0 ⟨rfl⟩ hk).mono fun e W' ⟨he,bel⟩ => ?_
 subst he
 exact ⟨_,rfl,_,_,_,[],_,[],hW',trodAll_mk1 (shut_bool Try.underlying4 _),(trodAll_cons_mk (Below.trod laidOut (by kernel_rfl) (of_decide_eq_true (by kernel_rfl)) k0 bel lt0) trodAll_mk0),rfl,bel.frame _,fun h => by cases h⟩
theorem over : Rows.recallEndsRow.holds Try.pinned (OpenSpec.ofChange Rows.recallEndsSpec) :=
 OpenClaim.holds_of_wide 7 Try.f7 rfl rfl rfl rfl rfl rfl rfl ⟨rfl,rfl,rfl,rfl,rfl⟩ rfl rfl rfl rfl rfl (by kernel_rfl) Try.func7 (by kernel_rfl)
  (of_decide_eq_true (by kernel_rfl)) (by unfold Func.isWrapper;first | (rw [if_pos (by decide +kernel)];kernel_rfl) | (rw [if_neg (by decide +kernel)];exact ⟨rfl,rfl⟩))
  (fun os started H enc _ => lifted os started H enc)
theorem proved : Rows.RecallEndsSaid:=over
#print axioms proved
end Go.Proofs.Ytnmmdeonkpfccaa.recallEnds
namespace Go.Proofs.Ytnmmdeonkpfccaa
theorem recallEnds_holds : Rows.RecallEndsSaid:=recallEnds.proved
end Go.Proofs.Ytnmmdeonkpfccaa
