/- A part of the statement's proof. -/
import Derived.Test.YtnmmdeonkpfccaaDRisks1
import Derived.Test.YtnmmdeonkpfccaaDRisks4
import Derived.BigFrame
namespace Go.Proofs.Ytnmmdeonkpfccaa.Pr
open Go.RowKit Go.Proofs.YtnmmdeonkpfccaaW.PrintWords Go.Proofs.YtnmmdeonkpfccaaW.PrintLast Go.Proofs.YtnmmdeonkpfccaaW.PrintMore
attribute [local go_sem] max2_int min2_int max_two min_two max_three min_three max_four min_four
set_option linter.unusedVariables false
set_option linter.unusedSimpArgs false
mutual
def metrolabref53_Few.j0 : Nat → List (S67) → Bool → Option (Bool)
 | 0,_,_ => none
 | k + 1,x0,x16 => if x16 = true then (some false) else (metrolabref53_Few.l0 k x0 0)
def metrolabref53_Few.l0 : Nat → List (S67) → Int → Option (Bool)
 | 0,_,_ => none
 | k + 1,x0,x3 => if x3 < (x0.length : Int) then (if 0 ≤ x3 then (if (((rd_T67 x0 x3).f1).size : Int) > 60 then (some false) else (if (((rd_T67 x0 x3).f2).size : Int) > 60 then (some false) else (if (((rd_T67 x0 x3).f3).size : Int) > 60 then (some false) else (metrolabref53_Few.l0 k x0 (wrap64 (x3 + 1)))))) else (none)) else (some true)
end
def metrolabref53_Few.f (k : Nat) (l0 : List (S67)) : Option (Bool):=if (l0.length : Int) > 16 then (if (l0.length : Int) ≤ 4096 then (metrolabref53_Few.j0 k l0 true) else (metrolabref53_Few.j0 k l0 (decide ((l0.length : Int) > 8192)))) else (metrolabref53_Few.j0 k l0 (decide ((l0.length : Int) > 8192)))
set_option maxHeartbeats 8000000 in
set_option maxRecDepth 100000 in
theorem metrolabref53_Few.calls (k : Nat) (A0 : Option Addr) (c0 : Nat) (l0 : List (S67)) (r : Bool) (w : World) (hr0 : Kd.C k67 w A0 l0.length l0) (hc0 : l0.length ≤ c0) (h : metrolabref53_Few.f k l0 = some r) :
  Calls Try.prog 36 #[.slice A0 l0.length c0] w fun e w' => e = .returned (.bool r) ∧ Drawn0 w w':=by
 have HR0:=Aside0.mk hr0
 have HC0:=Aside0.mk hc0
 clear hr0 hc0
 have H : (if (l0.length : Int) > 16 then (if (l0.length : Int) ≤ 4096 then (metrolabref53_Few.j0 k l0 true) else (metrolabref53_Few.j0 k l0 (decide ((l0.length : Int) > 8192)))) else (metrolabref53_Few.j0 k l0 (decide ((l0.length : Int) > 8192)))) = some r:=h
 clear h
 have HC2:=Aside0.mk H
 clear H
 go_enter Try.func36,Try.ntmps36
 go_upto_region 1 with (fail)
 go_cut [16] (fun v16 wc => ∃ (kq : Nat) (x16_1 : Bool),v16 = .bool x16_1 ∧ Aside0 (metrolabref53_Few.j0 kq l0 x16_1 = some r) ∧ Aside0 (kq ≤ k) ∧ Drawn0 w wc)
 case first =>
  have H:=HC2.out
  clear HC2
  by_cases c3 : (l0.length : Int) > 16
  ·rw [if_pos c3] at H
   have c3b0 : decide (16 < (l0.length : Int)) = true:=decide_eq_true c3
   have c3b1 : decide (16 < l0.length) = true:=decide_eq_true (by omega)
   clear c3
   (first | rw [c3b0] | (simp only [i64_w,i32_w];rw [c3b0]) | skip)
   by_cases c4 : (l0.length : Int) ≤ 4096
   ·rw [if_pos c4] at H
    have c4b0 : decide ((l0.length : Int) ≤ 4096) = true:=decide_eq_true c4
    have c4b1 : decide (l0.length ≤ 4096) = true:=decide_eq_true (by omega)
    clear c4
    have H':=Aside0.mk H
    clear H
    go_wp2
    go_meet
    case rel => exact ⟨_,(true),(by first | rfl | (simp;done) | (simp [*];done)),H',⟨by first | omega | exact Nat.le_refl _⟩,by repeat (first | exact Drawn0.refl _ | apply Drawn0.step)⟩
   ·rw [if_neg c4] at H
    have c4b0 : decide ((l0.length : Int) ≤ 4096) = false:=decide_eq_false c4
    have c4b1 : decide (l0.length ≤ 4096) = false:=decide_eq_false (by omega)
    clear c4
    have H':=Aside0.mk H
    clear H
    go_wp2
    go_meet
    case rel => exact ⟨_,(decide ((l0.length : Int) > 8192)),(by first | rfl | (simp;done) | (simp [*];done)),H',⟨by first | omega | exact Nat.le_refl _⟩,by repeat (first | exact Drawn0.refl _ | apply Drawn0.step)⟩
  ·rw [if_neg c3] at H
   have c3b0 : decide (16 < (l0.length : Int)) = false:=decide_eq_false c3
   have c3b1 : decide (16 < l0.length) = false:=decide_eq_false (by omega)
   clear c3
   (first | rw [c3b0] | (simp only [i64_w,i32_w];rw [c3b0]) | skip)
   have H':=Aside0.mk H
   clear H
   go_wp2
   go_meet
   case rel => exact ⟨_,(decide ((l0.length : Int) > 8192)),(by first | rfl | (simp;done) | (simp [*];done)),H',⟨by first | omega | exact Nat.le_refl _⟩,by repeat (first | exact Drawn0.refl _ | apply Drawn0.step)⟩
 case rest =>
  clear HC2
  try clear p2
  try clear c3
  try clear c3b0
  try clear c3b1
  try clear c4
  try clear c4b0
  try clear c4b1
  obtain ⟨kq,x16_1,rfl,HA,HJ1,⟨mc1,rfl⟩⟩:=hcut
  cases kq with
  | zero => exact absurd HA.out (by simp [metrolabref53_Few.j0])
  | succ kj1 =>
   have H:=HA.out
   clear HA
   simp only [metrolabref53_Few.j0] at H
   by_cases c5 : x16_1 = true
   ·subst c5
    have H1 : (some false) = some r:=by rw [if_pos rfl] at H;exact H
    clear H
    have H:=H1
    clear H1
    obtain rfl:=Option.some.inj H
    go_wp2
    go_ret
    exact ⟨by first | rfl | (simp;done) | (simp [*];done),by repeat (first | exact Drawn0.refl _ | apply Drawn0.step)⟩
   ·replace c5:=Bool.eq_false_iff.mpr c5
    subst c5
    have H1 : (metrolabref53_Few.l0 kj1 l0 0) = some r:=by rw [if_neg (show ¬ (false = true) by decide)] at H;exact H
    clear H
    have H:=H1
    clear H1
    have H':=Aside0.mk H
    clear H
    go_wp2
    go_loopg [3] kj1 (fun kq v3 w' => ∃ (x3_2 : Int),v3 = .int .i64 x3_2 ∧ Aside0 (metrolabref53_Few.l0 kq l0 x3_2 = some r) ∧ Aside0 (kq ≤ kj1) ∧ Drawn0 w w')
    case atStart => exact ⟨(0),(by first | rfl | (simp;done) | (simp [*];done)),H',⟨Nat.le_refl _⟩,by repeat (first | exact Drawn0.refl _ | apply Drawn0.step)⟩
    case round =>
     clear H'
     try clear c1
     try clear p2
     try clear c3
     try clear c3b0
     try clear c3b1
     try clear c4
     try clear c4b0
     try clear c4b1
     try clear c5
     try clear p2
     obtain ⟨x3_2,rfl,HA,HK2,⟨m2,rfl⟩⟩:=hrel
     cases gk with
     | zero => exact absurd HA.out (by simp [metrolabref53_Few.l0])
     | succ k2 =>
      have H:=HA.out
      clear HA
      simp only [metrolabref53_Few.l0] at H
      by_cases c6 : x3_2 < (l0.length : Int)
      ·rw [if_pos c6] at H
       have c6b0 : decide (x3_2 < (l0.length : Int)) = true:=decide_eq_true c6
       clear c6
       by_cases c7 : 0 ≤ x3_2
       ·rw [if_pos c7] at H
        have c7b0 : decide (0 ≤ x3_2) = true:=decide_eq_true c7
        clear c7
        by_cases c8 : (((rd_T67 l0 x3_2).f1).size : Int) > 60
        ·rw [if_pos c8] at H
         have c8b0 : decide (60 < (((rd_T67 l0 x3_2).f1).size : Int)) = true:=decide_eq_true c8
         have c8b1 : decide (60 < ((rd_T67 l0 x3_2).f1).size) = true:=decide_eq_true (by omega)
         clear c8
         obtain rfl:=Option.some.inj H
         have p106 : 0 ≤ (x3_2 : Int):=of_decide_eq_true (by first | (with_reducible assumption) | assumption)
         have q106 : x3_2 < (l0.length : Int):=of_decide_eq_true (by first | (with_reducible assumption) | assumption)
         obtain ⟨ad106,e106,hx106_0,hx106_1,hx106_2,hx106_3⟩:=at_T67 HR0.out x3_2 p106 q106
         cases e106
         replace p106:=eq_true p106
         replace q106:=eq_true q106
         go_wp2
         go_ret
         exact ⟨by first | rfl | (simp;done) | (simp [*];done),by repeat (first | exact Drawn0.refl _ | apply Drawn0.step)⟩
        ·rw [if_neg c8] at H
         have c8b0 : decide (60 < (((rd_T67 l0 x3_2).f1).size : Int)) = false:=decide_eq_false c8
         have c8b1 : decide (60 < ((rd_T67 l0 x3_2).f1).size) = false:=decide_eq_false (by omega)
         clear c8
         by_cases c9 : (((rd_T67 l0 x3_2).f2).size : Int) > 60
         ·rw [if_pos c9] at H
          have c9b0 : decide (60 < (((rd_T67 l0 x3_2).f2).size : Int)) = true:=decide_eq_true c9
          have c9b1 : decide (60 < ((rd_T67 l0 x3_2).f2).size) = true:=decide_eq_true (by omega)
          clear c9
          obtain rfl:=Option.some.inj H
          have p106 : 0 ≤ (x3_2 : Int):=of_decide_eq_true (by first | (with_reducible assumption) | assumption)
          have q106 : x3_2 < (l0.length : Int):=of_decide_eq_true (by first | (with_reducible assumption) | assumption)
          obtain ⟨ad106,e106,hx106_0,hx106_1,hx106_2,hx106_3⟩:=at_T67 HR0.out x3_2 p106 q106
          cases e106
          replace p106:=eq_true p106
          replace q106:=eq_true q106
          have p107 : 0 ≤ (x3_2 : Int):=of_decide_eq_true (by first | (with_reducible assumption) | assumption)
          have q107 : x3_2 < (l0.length : Int):=of_decide_eq_true (by first | (with_reducible assumption) | assumption)
          obtain ⟨ad107,e107,hx107_0,hx107_1,hx107_2,hx107_3⟩:=at_T67 HR0.out x3_2 p107 q107
          obtain rfl : ad106 = ad107:=(by injection e107)
          replace p107:=eq_true p107
          replace q107:=eq_true q107
          go_wp2
          go_ret
          exact ⟨by first | rfl | (simp;done) | (simp [*];done),by repeat (first | exact Drawn0.refl _ | apply Drawn0.step)⟩
         ·rw [if_neg c9] at H
          have c9b0 : decide (60 < (((rd_T67 l0 x3_2).f2).size : Int)) = false:=decide_eq_false c9
          have c9b1 : decide (60 < ((rd_T67 l0 x3_2).f2).size) = false:=decide_eq_false (by omega)
          clear c9
          by_cases c10 : (((rd_T67 l0 x3_2).f3).size : Int) > 60
          ·rw [if_pos c10] at H
           have c10b0 : decide (60 < (((rd_T67 l0 x3_2).f3).size : Int)) = true:=decide_eq_true c10
           have c10b1 : decide (60 < ((rd_T67 l0 x3_2).f3).size) = true:=decide_eq_true (by omega)
           clear c10
           obtain rfl:=Option.some.inj H
           have p106 : 0 ≤ (x3_2 : Int):=of_decide_eq_true (by first | (with_reducible assumption) | assumption)
           have q106 : x3_2 < (l0.length : Int):=of_decide_eq_true (by first | (with_reducible assumption) | assumption)
           obtain ⟨ad106,e106,hx106_0,hx106_1,hx106_2,hx106_3⟩:=at_T67 HR0.out x3_2 p106 q106
           cases e106
           replace p106:=eq_true p106
           replace q106:=eq_true q106
           have p107 : 0 ≤ (x3_2 : Int):=of_decide_eq_true (by first | (with_reducible assumption) | assumption)
           have q107 : x3_2 < (l0.length : Int):=of_decide_eq_true (by first | (with_reducible assumption) | assumption)
           obtain ⟨ad107,e107,hx107_0,hx107_1,hx107_2,hx107_3⟩:=at_T67 HR0.out x3_2 p107 q107
           obtain rfl : ad106 = ad107:=(by injection e107)
           replace p107:=eq_true p107
           replace q107:=eq_true q107
           have p108 : 0 ≤ (x3_2 : Int):=of_decide_eq_true (by first | (with_reducible assumption) | assumption)
           have q108 : x3_2 < (l0.length : Int):=of_decide_eq_true (by first | (with_reducible assumption) | assumption)
           obtain ⟨ad108,e108,hx108_0,hx108_1,hx108_2,hx108_3⟩:=at_T67 HR0.out x3_2 p108 q108
           obtain rfl : ad106 = ad108:=(by injection e108)
           replace p108:=eq_true p108
           replace q108:=eq_true q108
           go_wp2
           go_ret
           exact ⟨by first | rfl | (simp;done) | (simp [*];done),by repeat (first | exact Drawn0.refl _ | apply Drawn0.step)⟩
          ·rw [if_neg c10] at H
           have c10b0 : decide (60 < (((rd_T67 l0 x3_2).f3).size : Int)) = false:=decide_eq_false c10
           have c10b1 : decide (60 < ((rd_T67 l0 x3_2).f3).size) = false:=decide_eq_false (by omega)
           clear c10
           have H':=Aside0.mk H
           clear H
           have p106 : 0 ≤ (x3_2 : Int):=of_decide_eq_true (by first | (with_reducible assumption) | assumption)
           have q106 : x3_2 < (l0.length : Int):=of_decide_eq_true (by first | (with_reducible assumption) | assumption)
           obtain ⟨ad106,e106,hx106_0,hx106_1,hx106_2,hx106_3⟩:=at_T67 HR0.out x3_2 p106 q106
           cases e106
           replace p106:=eq_true p106
           replace q106:=eq_true q106
           have p107 : 0 ≤ (x3_2 : Int):=of_decide_eq_true (by first | (with_reducible assumption) | assumption)
           have q107 : x3_2 < (l0.length : Int):=of_decide_eq_true (by first | (with_reducible assumption) | assumption)
           obtain ⟨ad107,e107,hx107_0,hx107_1,hx107_2,hx107_3⟩:=at_T67 HR0.out x3_2 p107 q107
           obtain rfl : ad106 = ad107:=(by injection e107)
           replace p107:=eq_true p107
           replace q107:=eq_true q107
           have p108 : 0 ≤ (x3_2 : Int):=of_decide_eq_true (by first | (with_reducible assumption) | assumption)
           have q108 : x3_2 < (l0.length : Int):=of_decide_eq_true (by first | (with_reducible assumption) | assumption)
           obtain ⟨ad108,e108,hx108_0,hx108_1,hx108_2,hx108_3⟩:=at_T67 HR0.out x3_2 p108 q108
           obtain rfl : ad106 = ad108:=(by injection e108)
           replace p108:=eq_true p108
           replace q108:=eq_true q108
           go_wp2
           go_roundg k2
           case measure => have:=HJ1.out;have:=HK2.out;omega
           case rel => exact ⟨(wrap64 (x3_2 + 1)),(by first | rfl | (simp;done) | (simp [*];done)),H',⟨by have:=HJ1.out;have:=HK2.out;omega⟩,by repeat (first | exact Drawn0.refl _ | apply Drawn0.step)⟩
       ·rw [if_neg c7] at H
        exact absurd H (by simp)
      ·rw [if_neg c6] at H
       have c6b0 : decide (x3_2 < (l0.length : Int)) = false:=decide_eq_false c6
       clear c6
       obtain rfl:=Option.some.inj H
       go_wp2
       go_ret
       exact ⟨by first | rfl | (simp;done) | (simp [*];done),by repeat (first | exact Drawn0.refl _ | apply Drawn0.step)⟩
end Go.Proofs.Ytnmmdeonkpfccaa.Pr
namespace Go.Proofs.Ytnmmdeonkpfccaa.Pr
open Go.RowKit Go.Proofs.YtnmmdeonkpfccaaW.PrintWords Go.Proofs.YtnmmdeonkpfccaaW.PrintLast Go.Proofs.YtnmmdeonkpfccaaW.PrintMore
attribute [local go_sem] max2_int min2_int max_two min_two max_three min_three max_four min_four
set_option linter.unusedVariables false
set_option linter.unusedSimpArgs false
def metrolablaw53_few.f (k : Nat) (l0 : List (S51)) (a1 : ByteArray) : Option (Bool):=(metrolablaw53_own.f k l0).bind fun t109 => ((metrolabref53_Few.f k t109).bind fun t112 => (if t112 = true then (some (decide ((a1.size : Int) ≤ 60))) else (some false)))
set_option maxHeartbeats 8000000 in
set_option maxRecDepth 100000 in
theorem metrolablaw53_few.calls (k : Nat) (A0 : Option Addr) (c0 : Nat) (l0 : List (S51)) (a1 : ByteArray) (r : Bool) (w : World) (hr0 : Kd.C k51 w A0 l0.length l0) (hc0 : l0.length ≤ c0) (h : metrolablaw53_few.f k l0 a1 = some r) :
  Calls Try.prog 9 #[.slice A0 l0.length c0,.string a1] w fun e w' => e = .returned (.bool r) ∧ Below w.heap.size w w':=by
 have HR0:=Aside0.mk hr0
 have HC0:=Aside0.mk hc0
 clear hr0 hc0
 have HB:=Aside0.mk (Below.refl w.heap.size w)
 have H : ((metrolablaw53_own.f k l0).bind fun t109 => ((metrolabref53_Few.f k t109).bind fun t112 => (if t112 = true then (some (decide ((a1.size : Int) ≤ 60))) else (some false)))) = some r:=h
 clear h
 replace H:=Option.bind_eq_some_iff.mp H
 obtain ⟨t109,A30,H⟩:=H
 replace H : ((metrolabref53_Few.f k t109).bind fun t112 => (if t112 = true then (some (decide ((a1.size : Int) ≤ 60))) else (some false))) = some r:=H
 have A3:=Aside0.mk A30
 clear A30
 replace H:=Option.bind_eq_some_iff.mp H
 obtain ⟨t112,A40,H⟩:=H
 replace H : (if t112 = true then (some (decide ((a1.size : Int) ≤ 60))) else (some false)) = some r:=H
 have A4:=Aside0.mk A40
 clear A40
 by_cases c5 : t112 = true
 ·subst c5
  have H1 : (some (decide ((a1.size : Int) ≤ 60))) = some r:=by rw [if_pos rfl] at H;exact H
  clear H
  have H:=H1
  clear H1
  obtain rfl:=Option.some.inj H
  go_enter Try.func9,Try.ntmps9
  go_wp2_with (first | ((with_reducible refine gate_callee (f:=13) rfl ?_);refine goesL_ (some 6) rfl rfl Try.func13 (by kernel_rfl) rfl #[.slice A0 l0.length c0] rfl (by (try simp only [List.map_toArray,List.map_cons,List.map_nil]);first | done | rfl | (simp only [List.length_drop,List.length_take];rfl)) ?_;(with_reducible refine (metrolablaw53_own.calls k _ _ l0 t109 _ ?side1 ?side2 A3.out).mono ?_);(case side1 => repeat (first | exact HR0.out | (with_reducible refine Kd.C_alloc ?_ _) | (with_reducible refine Kd.C_drewN ?_ _) | (with_reducible refine Kd.C_drew ?_)));(case side2 => exact HC0.out);rintro e w6 ⟨v110,rfl,ho0,hb⟩;refine ⟨_,rfl,?_⟩;have n0_:=Aside0.mk (Kd.R_lower ho0 (below_size (by repeat (first | (with_reducible first | exact HB.out | apply below_alloc | apply pw_below_drewN | apply below_drew1) | exact HB.out))));have n1_:=Aside0.mk (below_step (by repeat (first | (with_reducible first | exact HB.out | apply below_alloc | apply pw_below_drewN | apply below_drew1) | exact HB.out)) hb);clear HB;have HO111:=n0_;have HB:=n1_;clear n0_ n1_;(try clear hb);(try clear hb2);(try clear hk);(try clear hi);(try clear ho0);obtain ⟨Ao7,co7,eo7⟩:=Kd.R_slice HO111.out;subst eo7) | ((with_reducible refine gate_callee (f:=36) rfl ?_);refine goesL_ (some 7) rfl rfl Try.func36 (by kernel_rfl) rfl #[.slice Ao7 t109.length co7] rfl (by (try simp only [List.map_toArray,List.map_cons,List.map_nil]);first | done | rfl | (simp only [List.length_drop,List.length_take];rfl)) ?_;(with_reducible refine (metrolabref53_Few.calls k _ _ t109 true _ ?side1 ?side2 A4.out).mono ?_);(case side1 => repeat (first | exact (Kd.R_reads' HO111.out).2.2 | (with_reducible refine Kd.C_alloc ?_ _) | (with_reducible refine Kd.C_drewN ?_ _) | (with_reducible refine Kd.C_drew ?_)));(case side2 => exact (Kd.R_reads' HO111.out).2.1);rintro e w' ⟨rfl,⟨nd,rfl⟩⟩;refine ⟨_,rfl,?_⟩))
  go_ret
  exact ⟨by first | rfl | (simp [errW_none,errW_some] <;> rfl) | (simp [*,errW_none,errW_some] <;> rfl),by repeat (first | (with_reducible first | exact HB.out | apply below_alloc | apply pw_below_drewN | apply below_drew1) | exact HB.out)⟩
 ·replace c5:=Bool.eq_false_iff.mpr c5
  subst c5
  have H1 : (some false) = some r:=by rw [if_neg (show ¬ (false = true) by decide)] at H;exact H
  clear H
  have H:=H1
  clear H1
  obtain rfl:=Option.some.inj H
  go_enter Try.func9,Try.ntmps9
  go_wp2_with (first | ((with_reducible refine gate_callee (f:=13) rfl ?_);refine goesL_ (some 6) rfl rfl Try.func13 (by kernel_rfl) rfl #[.slice A0 l0.length c0] rfl (by (try simp only [List.map_toArray,List.map_cons,List.map_nil]);first | done | rfl | (simp only [List.length_drop,List.length_take];rfl)) ?_;(with_reducible refine (metrolablaw53_own.calls k _ _ l0 t109 _ ?side1 ?side2 A3.out).mono ?_);(case side1 => repeat (first | exact HR0.out | (with_reducible refine Kd.C_alloc ?_ _) | (with_reducible refine Kd.C_drewN ?_ _) | (with_reducible refine Kd.C_drew ?_)));(case side2 => exact HC0.out);rintro e w8 ⟨v110,rfl,ho0,hb⟩;refine ⟨_,rfl,?_⟩;have n0_:=Aside0.mk (Kd.R_lower ho0 (below_size (by repeat (first | (with_reducible first | exact HB.out | apply below_alloc | apply pw_below_drewN | apply below_drew1) | exact HB.out))));have n1_:=Aside0.mk (below_step (by repeat (first | (with_reducible first | exact HB.out | apply below_alloc | apply pw_below_drewN | apply below_drew1) | exact HB.out)) hb);clear HB;have HO111:=n0_;have HB:=n1_;clear n0_ n1_;(try clear hb);(try clear hb2);(try clear hk);(try clear hi);(try clear ho0);obtain ⟨Ao9,co9,eo9⟩:=Kd.R_slice HO111.out;subst eo9) | ((with_reducible refine gate_callee (f:=36) rfl ?_);refine goesL_ (some 7) rfl rfl Try.func36 (by kernel_rfl) rfl #[.slice Ao9 t109.length co9] rfl (by (try simp only [List.map_toArray,List.map_cons,List.map_nil]);first | done | rfl | (simp only [List.length_drop,List.length_take];rfl)) ?_;(with_reducible refine (metrolabref53_Few.calls k _ _ t109 false _ ?side1 ?side2 A4.out).mono ?_);(case side1 => repeat (first | exact (Kd.R_reads' HO111.out).2.2 | (with_reducible refine Kd.C_alloc ?_ _) | (with_reducible refine Kd.C_drewN ?_ _) | (with_reducible refine Kd.C_drew ?_)));(case side2 => exact (Kd.R_reads' HO111.out).2.1);rintro e w' ⟨rfl,⟨nd,rfl⟩⟩;refine ⟨_,rfl,?_⟩))
  go_ret
  exact ⟨by first | rfl | (simp [errW_none,errW_some] <;> rfl) | (simp [*,errW_none,errW_some] <;> rfl),by repeat (first | (with_reducible first | exact HB.out | apply below_alloc | apply pw_below_drewN | apply below_drew1) | exact HB.out)⟩
end Go.Proofs.Ytnmmdeonkpfccaa.Pr
namespace Go.Proofs.Ytnmmdeonkpfccaa.Pr
open Go.RowKit Go.Proofs.YtnmmdeonkpfccaaW.PrintWords Go.Proofs.YtnmmdeonkpfccaaW.PrintLast Go.Proofs.YtnmmdeonkpfccaaW.PrintMore
attribute [local go_sem] max2_int min2_int max_two min_two max_three min_three max_four min_four
set_option linter.unusedVariables false
set_option linter.unusedSimpArgs false
def metrolablaw53_right.f (k : Nat) (l0 : List (S51)) : Option (Bool):=if (l0.length : Int) ≤ 16 then ((metrolablaw53_few.f k l0 (⟨#[]⟩ : ByteArray)).bind fun t323 => (if t323 = true then ((metrolablaw53_own.f k l0).bind fun t324 => ((metrolabref53_Check.f k t324).bind fun t327 => (some (t327 == 0)))) else (some false))) else (some false)
set_option maxHeartbeats 8000000 in
set_option maxRecDepth 100000 in
theorem metrolablaw53_right.calls (k : Nat) (A0 : Option Addr) (c0 : Nat) (l0 : List (S51)) (r : Bool) (w : World) (hr0 : Kd.C k51 w A0 l0.length l0) (hc0 : l0.length ≤ c0) (h : metrolablaw53_right.f k l0 = some r) :
  Calls Try.prog 28 #[.slice A0 l0.length c0] w fun e w' => e = .returned (.bool r) ∧ Below w.heap.size w w':=by
 have HR0:=Aside0.mk hr0
 have HC0:=Aside0.mk hc0
 clear hr0 hc0
 have HB:=Aside0.mk (Below.refl w.heap.size w)
 have H : (if (l0.length : Int) ≤ 16 then ((metrolablaw53_few.f k l0 (⟨#[]⟩ : ByteArray)).bind fun t323 => (if t323 = true then ((metrolablaw53_own.f k l0).bind fun t324 => ((metrolabref53_Check.f k t324).bind fun t327 => (some (t327 == 0)))) else (some false))) else (some false)) = some r:=h
 clear h
 by_cases c2 : (l0.length : Int) ≤ 16
 ·rw [if_pos c2] at H
  have c2b0 : decide ((l0.length : Int) ≤ 16) = true:=decide_eq_true c2
  have c2b1 : decide (l0.length ≤ 16) = true:=decide_eq_true (by omega)
  clear c2
  replace H:=Option.bind_eq_some_iff.mp H
  obtain ⟨t323,A30,H⟩:=H
  replace H : (if t323 = true then ((metrolablaw53_own.f k l0).bind fun t324 => ((metrolabref53_Check.f k t324).bind fun t327 => (some (t327 == 0)))) else (some false)) = some r:=H
  have A3:=Aside0.mk A30
  clear A30
  by_cases c4 : t323 = true
  ·subst c4
   have H1 : ((metrolablaw53_own.f k l0).bind fun t324 => ((metrolabref53_Check.f k t324).bind fun t327 => (some (t327 == 0)))) = some r:=by rw [if_pos rfl] at H;exact H
   clear H
   have H:=H1
   clear H1
   replace H:=Option.bind_eq_some_iff.mp H
   obtain ⟨t324,A50,H⟩:=H
   replace H : ((metrolabref53_Check.f k t324).bind fun t327 => (some (t327 == 0))) = some r:=H
   have A5:=Aside0.mk A50
   clear A50
   replace H:=Option.bind_eq_some_iff.mp H
   obtain ⟨t327,A60,H⟩:=H
   replace H : (some (t327 == 0)) = some r:=H
   have A6:=Aside0.mk A60
   clear A60
   obtain rfl:=Option.some.inj H
   go_enter Try.func28,Try.ntmps28
   go_wp2_with (first | (go_at_call 9;(with_reducible refine (metrolablaw53_few.calls k _ _ l0 (⟨#[]⟩ : ByteArray) true _ ?side1 ?side2 A3.out).mono ?_);(case side1 => repeat (first | exact HR0.out | (with_reducible refine Kd.C_alloc ?_ _) | (with_reducible refine Kd.C_drewN ?_ _) | (with_reducible refine Kd.C_drew ?_)));(case side2 => exact HC0.out);rintro e w7 ⟨rfl,hb⟩;have n0_:=Aside0.mk (below_step (by repeat (first | (with_reducible first | exact HB.out | apply below_alloc | apply pw_below_drewN | apply below_drew1) | exact HB.out)) hb);clear HB;have HB:=n0_;clear n0_;(try clear hb);(try clear hb2);(try clear hk);(try clear hi)) | (go_at_call 13;(with_reducible refine (metrolablaw53_own.calls k _ _ l0 t324 _ ?side1 ?side2 A5.out).mono ?_);(case side1 => repeat (first | exact (Kd.C_below HR0.out HB.out) | (with_reducible refine Kd.C_alloc ?_ _) | (with_reducible refine Kd.C_drewN ?_ _) | (with_reducible refine Kd.C_drew ?_)));(case side2 => exact HC0.out);rintro e w8 ⟨v325,rfl,ho0,hb⟩;have n0_:=Aside0.mk (Kd.R_lower ho0 (below_size (by repeat (first | (with_reducible first | exact HB.out | apply below_alloc | apply pw_below_drewN | apply below_drew1) | exact HB.out))));have n1_:=Aside0.mk (below_step (by repeat (first | (with_reducible first | exact HB.out | apply below_alloc | apply pw_below_drewN | apply below_drew1) | exact HB.out)) hb);clear HB;have HO326:=n0_;have HB:=n1_;clear n0_ n1_;(try clear hb);(try clear hb2);(try clear hk);(try clear hi);(try clear ho0);obtain ⟨Ao9,co9,eo9⟩:=Kd.R_slice HO326.out;subst eo9) | (go_at_call 17;(with_reducible refine (metrolabref53_Check.calls k _ _ t324 t327 _ ?side1 ?side2 A6.out).mono ?_);(case side1 => repeat (first | exact (Kd.R_reads' HO326.out).2.2 | (with_reducible refine Kd.C_alloc ?_ _) | (with_reducible refine Kd.C_drewN ?_ _) | (with_reducible refine Kd.C_drew ?_)));(case side2 => exact (Kd.R_reads' HO326.out).2.1);rintro e w10 ⟨rfl,hb⟩;have n0_:=Aside0.mk (Kd.R_below (by (with_reducible repeat (first | apply Kd.R_alloc | apply Kd.R_drewN | apply Kd.R_drew));exact HO326.out) hb);have n1_:=Aside0.mk (below_step (by repeat (first | (with_reducible first | exact HB.out | apply below_alloc | apply pw_below_drewN | apply below_drew1) | exact HB.out)) hb);clear HO326;clear HB;have HO326:=n0_;have HB:=n1_;clear n0_ n1_;(try clear hb);(try clear hb2);(try clear hk);(try clear hi)))
   go_ret
   exact ⟨by first | rfl | (simp [errW_none,errW_some] <;> rfl) | (simp [*,errW_none,errW_some] <;> rfl),by repeat (first | (with_reducible first | exact HB.out | apply below_alloc | apply pw_below_drewN | apply below_drew1) | exact HB.out)⟩
  ·replace c4:=Bool.eq_false_iff.mpr c4
   subst c4
   have H1 : (some false) = some r:=by rw [if_neg (show ¬ (false = true) by decide)] at H;exact H
   clear H
   have H:=H1
   clear H1
   obtain rfl:=Option.some.inj H
   go_enter Try.func28,Try.ntmps28
   go_wp2_with (first | (go_at_call 9;(with_reducible refine (metrolablaw53_few.calls k _ _ l0 (⟨#[]⟩ : ByteArray) false _ ?side1 ?side2 A3.out).mono ?_);(case side1 => repeat (first | exact HR0.out | (with_reducible refine Kd.C_alloc ?_ _) | (with_reducible refine Kd.C_drewN ?_ _) | (with_reducible refine Kd.C_drew ?_)));(case side2 => exact HC0.out);rintro e w11 ⟨rfl,hb⟩;have n0_:=Aside0.mk (below_step (by repeat (first | (with_reducible first | exact HB.out | apply below_alloc | apply pw_below_drewN | apply below_drew1) | exact HB.out)) hb);clear HB;have HB:=n0_;clear n0_;(try clear hb);(try clear hb2);(try clear hk);(try clear hi)))
   go_ret
   exact ⟨by first | rfl | (simp [errW_none,errW_some] <;> rfl) | (simp [*,errW_none,errW_some] <;> rfl),by repeat (first | (with_reducible first | exact HB.out | apply below_alloc | apply pw_below_drewN | apply below_drew1) | exact HB.out)⟩
 ·rw [if_neg c2] at H
  have c2b0 : decide ((l0.length : Int) ≤ 16) = false:=decide_eq_false c2
  have c2b1 : decide (l0.length ≤ 16) = false:=decide_eq_false (by omega)
  clear c2
  obtain rfl:=Option.some.inj H
  go_enter Try.func28,Try.ntmps28
  go_wp2
  go_ret
  exact ⟨by first | rfl | (simp [errW_none,errW_some] <;> rfl) | (simp [*,errW_none,errW_some] <;> rfl),by repeat (first | (with_reducible first | exact HB.out | apply below_alloc | apply pw_below_drewN | apply below_drew1) | exact HB.out)⟩
end Go.Proofs.Ytnmmdeonkpfccaa.Pr
namespace Go.Proofs.Ytnmmdeonkpfccaa.Pr
open Go.RowKit Go.Proofs.YtnmmdeonkpfccaaW.PrintWords Go.Proofs.YtnmmdeonkpfccaaW.PrintLast Go.Proofs.YtnmmdeonkpfccaaW.PrintMore
attribute [local go_sem] max2_int min2_int max_two min_two max_three min_three max_four min_four
set_option linter.unusedVariables false
set_option linter.unusedSimpArgs false
def slices_Index_string_string.l0 : Nat → List ByteArray → ByteArray → Int → Int → Option (Int)
 | 0,_,_,_,_ => none
 | k + 1,x0,x1,x7,x8 => if x8 < x7 then (if 0 ≤ x8 then (if x8 < (x0.length : Int) then (if x1.toList = (rdOf ByteArray.empty x0 x8).toList then (some x8) else (slices_Index_string_string.l0 k x0 x1 x7 (wrap64 (x8 + 1)))) else (none)) else (none)) else (some (-1))
def slices_Index_string_string.f (k : Nat) (l0 : List ByteArray) (a1 : ByteArray) : Option (Int):=slices_Index_string_string.l0 k l0 a1 (l0.length : Int) 0
set_option maxHeartbeats 8000000 in
set_option maxRecDepth 100000 in
theorem slices_Index_string_string.calls (k : Nat) (A0 : Option Addr) (c0 : Nat) (l0 : List ByteArray) (a1 : ByteArray) (r : Int) (w : World) (hr0 : Kd.C Kd.string w A0 l0.length l0) (hc0 : l0.length ≤ c0) (h : slices_Index_string_string.f k l0 a1 = some r) :
  Calls Try.prog 60 #[.slice A0 l0.length c0,.string a1] w fun e w' => e = .returned (.int .i64 r) ∧ Drawn0 w w':=by
 have HR0:=Aside0.mk hr0
 have HC0:=Aside0.mk hc0
 clear hr0 hc0
 have H : (slices_Index_string_string.l0 k l0 a1 (l0.length : Int) 0) = some r:=h
 clear h
 have H':=Aside0.mk H
 clear H
 go_enter Try.func60,Try.ntmps60
 go_wp2
 go_loopg [8] k (fun kq v8 w' => ∃ (x8_1 : Int),v8 = .int .i64 x8_1 ∧ Aside0 (slices_Index_string_string.l0 kq l0 a1 (l0.length : Int) x8_1 = some r) ∧ Aside0 (kq ≤ k) ∧ Drawn0 w w')
 case atStart => exact ⟨(0),(by first | rfl | (simp;done) | (simp [*];done)),H',⟨Nat.le_refl _⟩,by repeat (first | exact Drawn0.refl _ | apply Drawn0.step)⟩
 case round =>
  clear H'
  try clear p2
  obtain ⟨x8_1,rfl,HA,HK1,⟨m1,rfl⟩⟩:=hrel
  cases gk with
  | zero => exact absurd HA.out (by simp [slices_Index_string_string.l0])
  | succ k1 =>
   have H:=HA.out
   clear HA
   simp only [slices_Index_string_string.l0] at H
   by_cases c3 : x8_1 < (l0.length : Int)
   ·rw [if_pos c3] at H
    have c3b0 : decide (x8_1 < (l0.length : Int)) = true:=decide_eq_true c3
    clear c3
    by_cases c4 : 0 ≤ x8_1
    ·rw [if_pos c4] at H
     have c4b0 : decide (0 ≤ x8_1) = true:=decide_eq_true c4
     clear c4
     by_cases c5 : x8_1 < (l0.length : Int)
     ·rw [if_pos c5] at H
      have c5b0 : decide (x8_1 < (l0.length : Int)) = true:=decide_eq_true c5
      clear c5
      by_cases c6 : a1.toList = (rdOf ByteArray.empty l0 x8_1).toList
      ·rw [if_pos c6] at H
       have c6b0 : (a1.toList == (rdOf ByteArray.empty l0 x8_1).toList) = true:=beq_iff_eq.mpr c6
       have c6b1 : (a1.toList != (rdOf ByteArray.empty l0 x8_1).toList) = false:=bne_eq_false_iff_eq.mpr c6
       clear c6
       obtain rfl:=Option.some.inj H
       have p368 : 0 ≤ (x8_1 : Int):=of_decide_eq_true (by first | (with_reducible assumption) | assumption)
       have q368 : x8_1 < (l0.length : Int):=of_decide_eq_true (by first | (with_reducible assumption) | assumption)
       obtain ⟨ad368,e368,hx368_0⟩:=Kd.at_string HR0.out x8_1 p368 q368
       cases e368
       replace p368:=eq_true p368
       replace q368:=eq_true q368
       go_wp2
       go_ret
       exact ⟨by first | rfl | (simp;done) | (simp [*];done),by repeat (first | exact Drawn0.refl _ | apply Drawn0.step)⟩
      ·rw [if_neg c6] at H
       have c6b0 : (a1.toList == (rdOf ByteArray.empty l0 x8_1).toList) = false:=beq_eq_false_iff_ne.mpr c6
       have c6b1 : (a1.toList != (rdOf ByteArray.empty l0 x8_1).toList) = true:=bne_iff_ne.mpr c6
       have H':=Aside0.mk H
       clear H
       have p368 : 0 ≤ (x8_1 : Int):=of_decide_eq_true (by first | (with_reducible assumption) | assumption)
       have q368 : x8_1 < (l0.length : Int):=of_decide_eq_true (by first | (with_reducible assumption) | assumption)
       obtain ⟨ad368,e368,hx368_0⟩:=Kd.at_string HR0.out x8_1 p368 q368
       cases e368
       replace p368:=eq_true p368
       replace q368:=eq_true q368
       go_wp2
       go_roundg k1
       case measure => have:=HK1.out;omega
       case rel => exact ⟨(wrap64 (x8_1 + 1)),(by first | rfl | (simp;done) | (simp [*];done)),H',⟨by have:=HK1.out;omega⟩,by repeat (first | exact Drawn0.refl _ | apply Drawn0.step)⟩
     ·rw [if_neg c5] at H
      exact absurd H (by simp)
    ·rw [if_neg c4] at H
     exact absurd H (by simp)
   ·rw [if_neg c3] at H
    have c3b0 : decide (x8_1 < (l0.length : Int)) = false:=decide_eq_false c3
    clear c3
    obtain rfl:=Option.some.inj H
    go_wp2
    go_ret
    exact ⟨by first | rfl | (simp;done) | (simp [*];done),by repeat (first | exact Drawn0.refl _ | apply Drawn0.step)⟩
end Go.Proofs.Ytnmmdeonkpfccaa.Pr
namespace Go.Proofs.Ytnmmdeonkpfccaa.Pr
open Go.RowKit Go.Proofs.YtnmmdeonkpfccaaW.PrintWords Go.Proofs.YtnmmdeonkpfccaaW.PrintLast Go.Proofs.YtnmmdeonkpfccaaW.PrintMore
attribute [local go_sem] max2_int min2_int max_two min_two max_three min_three max_four min_four
set_option linter.unusedVariables false
set_option linter.unusedSimpArgs false
def slices_Contains_string_string.f (k : Nat) (l0 : List ByteArray) (a1 : ByteArray) : Option (Bool):=(slices_Index_string_string.f k l0 a1).bind fun t369 => (some (decide (t369 ≥ 0)))
set_option maxHeartbeats 8000000 in
set_option maxRecDepth 100000 in
theorem slices_Contains_string_string.calls (k : Nat) (A0 : Option Addr) (c0 : Nat) (l0 : List ByteArray) (a1 : ByteArray) (r : Bool) (w : World) (hr0 : Kd.C Kd.string w A0 l0.length l0) (hc0 : l0.length ≤ c0) (h : slices_Contains_string_string.f k l0 a1 = some r) :
  Calls Try.prog 33 #[.slice A0 l0.length c0,.string a1] w fun e w' => e = .returned (.bool r) ∧ Drawn0 w w':=by
 have HR0:=Aside0.mk hr0
 have HC0:=Aside0.mk hc0
 clear hr0 hc0
 have H : ((slices_Index_string_string.f k l0 a1).bind fun t369 => (some (decide (t369 ≥ 0)))) = some r:=h
 clear h
 replace H:=Option.bind_eq_some_iff.mp H
 obtain ⟨t369,A30,H⟩:=H
 replace H : (some (decide (t369 ≥ 0))) = some r:=H
 have A3:=Aside0.mk A30
 clear A30
 obtain rfl:=Option.some.inj H
 go_enter Try.func33,Try.ntmps33
 go_wp2_with (first | ((with_reducible refine gate_callee (f:=60) rfl ?_);refine goesL_ (some 7) rfl rfl Try.func60 (by kernel_rfl) rfl #[.slice A0 l0.length c0,.string a1] rfl (by (try simp only [List.map_toArray,List.map_cons,List.map_nil]);first | done | rfl | (simp only [List.length_drop,List.length_take];rfl)) ?_;(with_reducible refine (slices_Index_string_string.calls k _ _ l0 a1 t369 _ ?side1 ?side2 A3.out).mono ?_);(case side1 => repeat (first | exact HR0.out | (with_reducible refine Kd.C_alloc ?_ _) | (with_reducible refine Kd.C_drewN ?_ _) | (with_reducible refine Kd.C_drew ?_)));(case side2 => exact HC0.out);rintro e w' ⟨rfl,⟨nd,rfl⟩⟩;refine ⟨_,rfl,?_⟩))
 go_ret
 exact ⟨by first | rfl | (simp;done) | (simp [*];done),by repeat (first | exact Drawn0.refl _ | apply Drawn0.step)⟩
end Go.Proofs.Ytnmmdeonkpfccaa.Pr
set_option linter.unusedVariables false
namespace Go.Proofs.Ytnmmdeonkpfccaa.Pr
open Go.RowKit Go.Proofs.YtnmmdeonkpfccaaW.PrintWords Go.Proofs.YtnmmdeonkpfccaaW.PrintLast Go.Proofs.YtnmmdeonkpfccaaW.PrintMore
def slices_Grow_string_string.f (l : List ByteArray) (n : Int) : Option (List ByteArray):=if l = [] ∧ 0 ≤ n ∧ n ≤ 100000 then some [] else none
set_option maxRecDepth 100000 in
set_option maxHeartbeats 1000000 in
theorem slices_Grow_string_string.callsNil (n : Int) (r : List ByteArray) (w : World) (h : slices_Grow_string_string.f [] n = some r) :
  Calls Try.prog 61 #[.slice none 0 0,.int .i64 n] w fun e w' => ∃ v0_ : Value,e = .returned v0_ ∧ Kd.R Kd.string 9 w' w.heap.size (fun _ => True) v0_ r ∧ Below w.heap.size w w':=by
 unfold slices_Grow_string_string.f at h
 split at h
 ·rename_i hc
  obtain ⟨_,h0,h1⟩:=hc
  obtain rfl:=Option.some.inj h
  clear h
  obtain ⟨i0,hi,hz0,hz1,hz2⟩:=info_parts info9
  by_cases hn : 0 < n
  ·have hcut:=fun (A : Option Addr) (k c : Nat) (hk : k ≤ c) => cut_to (P:=Try.prog) 33 9 .i64 Try.underlying33 hi A k c 0 (by omega) (by omega) hk
   go_enter Try.func61,Try.ntmps61
   go_wp2_with (at_builtin;refine Kd.R_append_zeros Kd.string (w0:=w) w.heap.size rfl (.tmp 20) (.tmp 21) 33 3 9 (.string ⟨#[]⟩) 16 rfl Try.underlying33 Try.underlying3 info9 rfl (by decide) (by decide) (.slice none 0 0) [] ⟨#[]⟩ n (fun _ => True) rfl rfl rfl (fun _ _ => trivial) (Kd.R_nil _ _ _ _ _) h0 (Below.refl _ _) (Nat.le_refl _) ?aL ?_)
   case aL => omega
   intro v1 w1 ho hb hg hat
   obtain ⟨A,c,rfl⟩:=Kd.R_slice ho
   have hr:=Kd.R_take (m:=0) ho (Nat.zero_le _)
   have hR:=Kd.R_reads' ho
   have hcut2:=hcut A _ c hR.2.1
   have HR:=Aside0.mk hr
   have HB:=Aside0.mk hb
   clear hr hR hcut hb hg hat ho
   go_wp2
   go_ret
   exact ⟨_,rfl,HR.out,HB.out⟩
  ·obtain rfl : n = 0:=by omega
   go_enter Try.func61,Try.ntmps61
   go_wp2
   go_ret
   exact ⟨_,rfl,Kd.R_nil _ _ _ _ _,Below.refl _ _⟩
 ·cases h
end Go.Proofs.Ytnmmdeonkpfccaa.Pr
namespace Go.Proofs.Ytnmmdeonkpfccaa.Pr
open Go.RowKit Go.Proofs.YtnmmdeonkpfccaaW.PrintWords Go.Proofs.YtnmmdeonkpfccaaW.PrintLast Go.Proofs.YtnmmdeonkpfccaaW.PrintMore
attribute [local go_sem] max2_int min2_int max_two min_two max_three min_three max_four min_four
set_option linter.unusedVariables false
set_option linter.unusedSimpArgs false
mutual
def slices_Concat_string_string.l0 : Nat → List (List ByteArray) → Int → List (List ByteArray) → Int → Int → Option (List ByteArray)
 | 0,_,_,_,_,_ => none
 | k + 1,x0,x3,x9,x10,x11 => if x11 < x10 then (if 0 ≤ x11 then (if x11 < (x9.length : Int) then (if (wrap64 (x3 + ((rd_L7 x9 x11).length : Int))) < 0 then (none) else (slices_Concat_string_string.l0 k x0 (wrap64 (x3 + ((rd_L7 x9 x11).length : Int))) x9 x10 (wrap64 (x11 + 1)))) else (none)) else (none)) else ((slices_Grow_string_string.f ([] : List ByteArray) x3).bind fun t371 => (slices_Concat_string_string.l1 k t371 x0 (x0.length : Int) 0))
def slices_Concat_string_string.l1 : Nat → List ByteArray → List (List ByteArray) → Int → Int → Option (List ByteArray)
 | 0,_,_,_,_ => none
 | k + 1,x6,x25,x26,x27 => if x27 < x26 then (if 0 ≤ x27 then (if x27 < (x25.length : Int) then (if x6.length + (rd_L7 x25 x27).length < 8796093022208 then (slices_Concat_string_string.l1 k (x6 ++ (rd_L7 x25 x27)) x25 x26 (wrap64 (x27 + 1))) else (none)) else (none)) else (none)) else (some x6)
end
def slices_Concat_string_string.f (k : Nat) (l0 : List (List ByteArray)) : Option (List ByteArray):=slices_Concat_string_string.l0 k l0 0 l0 (l0.length : Int) 0
set_option maxHeartbeats 8000000 in
set_option maxRecDepth 100000 in
theorem slices_Concat_string_string.calls (k : Nat) (A0 : Option Addr) (c0 : Nat) (l0 : List (List ByteArray)) (r : List ByteArray) (w : World) (hr0 : Kd.C (Kd.slice 9 Kd.string) w A0 l0.length l0) (hc0 : l0.length ≤ c0) (h : slices_Concat_string_string.f k l0 = some r) :
  Calls Try.prog 34 #[.slice A0 l0.length c0] w fun e w' => ∃ v0_ : Value,e = .returned (v0_) ∧ Kd.R Kd.string 9 w' w.heap.size (fun _ => True) v0_ r ∧ Below w.heap.size w w':=by
 have HR0:=Aside0.mk hr0
 have HC0:=Aside0.mk hc0
 clear hr0 hc0
 have HB:=Aside0.mk (Below.refl w.heap.size w)
 have H : (slices_Concat_string_string.l0 k l0 0 l0 (l0.length : Int) 0) = some r:=h
 clear h
 have H':=Aside0.mk H
 clear H
 go_enter Try.func34,Try.ntmps34
 go_wp2
 go_loopg [3,11] k (fun kq v3 v11 w' => ∃ (x3_1 : Int) (x11_1 : Int),v3 = .int .i64 x3_1 ∧ v11 = .int .i64 x11_1 ∧ Aside0 (slices_Concat_string_string.l0 kq l0 x3_1 l0 (l0.length : Int) x11_1 = some r) ∧ Aside0 (kq ≤ k) ∧ Aside0 (Below w.heap.size w w'))
 case atStart => exact ⟨(0),(0),(by first | rfl | (simp;done) | (simp [*];done)),(by first | rfl | (simp;done) | (simp [*];done)),H',⟨Nat.le_refl _⟩,⟨by repeat (first | (with_reducible first | exact HB.out | apply below_alloc | apply pw_below_drewN | apply below_drew1) | exact HB.out)⟩⟩
 case round =>
  clear H'
  obtain ⟨x3_1,x11_1,rfl,rfl,HA,HK1,HB⟩:=hrel
  cases gk with
  | zero => exact absurd HA.out (by simp [slices_Concat_string_string.l0])
  | succ k1 =>
   have H:=HA.out
   clear HA
   simp only [slices_Concat_string_string.l0] at H
   by_cases c2 : x11_1 < (l0.length : Int)
   ·rw [if_pos c2] at H
    have c2b0 : decide (x11_1 < (l0.length : Int)) = true:=decide_eq_true c2
    clear c2
    by_cases c3 : 0 ≤ x11_1
    ·rw [if_pos c3] at H
     have c3b0 : decide (0 ≤ x11_1) = true:=decide_eq_true c3
     clear c3
     by_cases c4 : x11_1 < (l0.length : Int)
     ·rw [if_pos c4] at H
      have c4b0 : decide (x11_1 < (l0.length : Int)) = true:=decide_eq_true c4
      clear c4
      by_cases c5 : (wrap64 (x3_1 + ((rd_L7 l0 x11_1).length : Int))) < 0
      ·rw [if_pos c5] at H
       exact absurd H (by simp)
      ·rw [if_neg c5] at H
       have c5b0 : decide ((wrap64 (x3_1 + ((rd_L7 l0 x11_1).length : Int))) < 0) = false:=decide_eq_false c5
       clear c5
       have H':=Aside0.mk H
       clear H
       have p370 : 0 ≤ (x11_1 : Int):=of_decide_eq_true (by first | (with_reducible assumption) | assumption)
       have q370 : x11_1 < (l0.length : Int):=of_decide_eq_true (by first | (with_reducible assumption) | assumption)
       obtain ⟨ad370,A370_0,c370_0,e370,hx370_0,hl370_0,hi370_0⟩:=at_L7 HR0.out x11_1 p370 q370
       cases e370
       replace hx370_0:=(HB.out.cell (World.block_lt_of_cell? w _ hx370_0)).trans hx370_0
       have HR370_0:=Aside0.mk hi370_0
       have HC370_0:=Aside0.mk hl370_0
       clear hi370_0 hl370_0
       replace p370:=eq_true p370
       replace q370:=eq_true q370
       go_wp2
       go_roundg k1
       case measure => have:=HK1.out;omega
       case rel => exact ⟨(wrap64 (x3_1 + ((rd_L7 l0 x11_1).length : Int))),(wrap64 (x11_1 + 1)),(by first | rfl | (simp;done) | (simp [*];done)),(by first | rfl | (simp;done) | (simp [*];done)),H',⟨by have:=HK1.out;omega⟩,⟨by repeat (first | (with_reducible first | exact HB.out | apply below_alloc | apply pw_below_drewN | apply below_drew1) | exact HB.out)⟩⟩
     ·rw [if_neg c4] at H
      exact absurd H (by simp)
    ·rw [if_neg c3] at H
     exact absurd H (by simp)
   ·rw [if_neg c2] at H
    have c2b0 : decide (x11_1 < (l0.length : Int)) = false:=decide_eq_false c2
    clear c2
    replace H:=Option.bind_eq_some_iff.mp H
    obtain ⟨t371,A60,H⟩:=H
    replace H : (slices_Concat_string_string.l1 k1 t371 l0 (l0.length : Int) 0) = some r:=H
    have A6:=Aside0.mk A60
    clear A60
    have H':=Aside0.mk H
    clear H
    go_wp2_with (first | ((with_reducible refine gate_callee (f:=61) rfl ?_);refine goesL_ (some 24) rfl rfl Try.func61 (by kernel_rfl) rfl #[.slice none 0 0,.int .i64 x3_1] rfl (by (try simp only [List.map_toArray,List.map_cons,List.map_nil]);first | done | rfl | (simp only [List.length_drop,List.length_take];rfl)) ?_;(refine (slices_Grow_string_string.callsNil x3_1 t371 _ A6.out).mono ?_);rintro e w7 ⟨v372,rfl,ho0,hb⟩;refine ⟨_,rfl,?_⟩;have n0_:=Aside0.mk (Kd.R_lower ho0 (below_size (by repeat (first | (with_reducible first | exact HB.out | apply below_alloc | apply pw_below_drewN | apply below_drew1) | exact HB.out))));have n1_:=Aside0.mk (below_step (by repeat (first | (with_reducible first | exact HB.out | apply below_alloc | apply pw_below_drewN | apply below_drew1) | exact HB.out)) hb);clear HB;have HO373:=n0_;have HB:=n1_;clear n0_ n1_;(try clear hb);(try clear hb2);(try clear hk);(try clear hi);(try clear ho0)))
    go_loopg [6,27] k1 (fun kq v6 v27 w' => ∃ (x6_2 : List ByteArray) (x27_2 : Int),v27 = .int .i64 x27_2 ∧ Aside0 (slices_Concat_string_string.l1 kq x6_2 l0 (l0.length : Int) x27_2 = some r) ∧ Aside0 (kq ≤ k1) ∧ Aside0 (Kd.R Kd.string 9 w' w.heap.size (fun _ => True) v6 x6_2) ∧ Aside0 (Below w.heap.size w w'))
    case atStart => exact ⟨(t371),(0),(by first | rfl | (simp;done) | (simp [*];done)),H',⟨Nat.le_refl _⟩,⟨by (with_reducible repeat (first | apply Kd.R_alloc | apply Kd.R_drewN | apply Kd.R_drew));exact HO373.out⟩,⟨by repeat (first | (with_reducible first | exact HB.out | apply below_alloc | apply pw_below_drewN | apply below_drew1) | exact HB.out)⟩⟩
    case round =>
     clear H'
     try clear c2
     try clear c2b0
     try clear p2
     try clear c3
     try clear c3b0
     try clear p3
     try clear q3
     try clear hx3
     try clear c4
     try clear c4b0
     try clear c5
     try clear c5b0
     try clear c6
     try clear p6
     try clear hx370_0
     try clear p370
     try clear q370
     obtain ⟨x6_2,x27_2,rfl,HA,HK2,HO_6,HB⟩:=hrel
     cases gk with
     | zero => exact absurd HA.out (by simp [slices_Concat_string_string.l1])
     | succ k2 =>
      have H:=HA.out
      clear HA
      simp only [slices_Concat_string_string.l1] at H
      by_cases c8 : x27_2 < (l0.length : Int)
      ·rw [if_pos c8] at H
       have c8b0 : decide (x27_2 < (l0.length : Int)) = true:=decide_eq_true c8
       clear c8
       by_cases c9 : 0 ≤ x27_2
       ·rw [if_pos c9] at H
        have c9b0 : decide (0 ≤ x27_2) = true:=decide_eq_true c9
        clear c9
        by_cases c10 : x27_2 < (l0.length : Int)
        ·rw [if_pos c10] at H
         have c10b0 : decide (x27_2 < (l0.length : Int)) = true:=decide_eq_true c10
         clear c10
         by_cases c11 : x6_2.length + (rd_L7 l0 x27_2).length < 8796093022208
         ·rw [if_pos c11] at H
          have LMc11:=Aside0.mk c11
          clear c11
          obtain ⟨y375,hy375⟩ : ∃ y_ : List ByteArray,y_ = (x6_2 ++ (rd_L7 l0 x27_2)):=⟨_,rfl⟩
          replace H : (slices_Concat_string_string.l1 k2 y375 l0 (l0.length : Int) (wrap64 (x27_2 + 1))) = some r:=by first | (rw [hy375];with_reducible exact H) | (have H2_:=(Option.bind_some _ _).symm.trans H;rw [hy375];with_reducible exact H2_) | (have H2_:=(Option.bind_some _ _).symm.trans H;with_reducible exact H2_) | with_reducible exact H | (rw [hy375];exact H) | exact H
          have Ny375:=Aside0.mk hy375
          clear hy375
          have H':=Aside0.mk H
          clear H
          have p374 : 0 ≤ (x27_2 : Int):=of_decide_eq_true (by first | (with_reducible assumption) | assumption)
          have q374 : x27_2 < (l0.length : Int):=of_decide_eq_true (by first | (with_reducible assumption) | assumption)
          obtain ⟨ad374,A374_0,c374_0,e374,hx374_0,hl374_0,hi374_0⟩:=at_L7 HR0.out x27_2 p374 q374
          cases e374
          replace hx374_0:=(HB.out.cell (World.block_lt_of_cell? w _ hx374_0)).trans hx374_0
          have HR374_0:=Aside0.mk hi374_0
          have HC374_0:=Aside0.mk hl374_0
          clear hi374_0 hl374_0
          replace p374:=eq_true p374
          replace q374:=eq_true q374
          go_wp2_with (first | ((with_reducible refine gate_builtin (b:=.append) (xs:=#[.tmp 31,.tmp 32]) rfl ?_);at_builtin;refine Kd.R_append_rows Kd.string (w0:=w) w.heap.size rfl (.tmp 31) (.tmp 32) 33 9 (.string ⟨#[]⟩) 16 rfl Try.underlying33 info9 rfl (by decide) (by omega) u6 x6_2 (rd_L7 l0 x27_2) _ _ _ (fun _ => True) (fun _ => False) rfl rfl ?aO ?aR (fun _ _ h => h) (fun _ h => h.elim) ?aF ?aB ?aS ?aL ?_;(case aR => repeat (first | exact (Kd.C_below HR374_0.out HB.out) | (with_reducible refine Kd.C_alloc ?_ _) | (with_reducible refine Kd.C_drewN ?_ _) | (with_reducible refine Kd.C_drew ?_)));(case aB => exact (by repeat (first | (with_reducible first | exact HB.out | apply below_alloc | apply pw_below_drewN | apply below_drew1) | exact HB.out)));(case aF => exact (fun _ _ => trivial));(case aO => exact (by (with_reducible repeat (first | apply Kd.R_alloc | apply Kd.R_drewN | apply Kd.R_drew));exact HO_6.out));(case aS => exact (below_size (by repeat (first | (with_reducible first | exact HB.out | apply below_alloc | apply pw_below_drewN | apply below_drew1) | exact HB.out))));(case aL => have:=LMc11.out;omega);intro v376 w12 ho hb hg hat;rw [← Ny375.out] at ho;have n0_:=Aside0.mk (hb);have n1_:=Aside0.mk (ho);clear HB;clear HO_6;have HB:=n0_;have HO377:=n1_;clear n0_ n1_;clear ho hb hg hat))
          go_roundg k2
          case measure => have:=HK1.out;have:=HK2.out;omega
          case rel => exact ⟨(y375),(wrap64 (x27_2 + 1)),(by first | rfl | (simp;done) | (simp [*];done)),H',⟨by have:=HK1.out;have:=HK2.out;omega⟩,⟨by (with_reducible repeat (first | apply Kd.R_alloc | apply Kd.R_drewN | apply Kd.R_drew));exact HO377.out⟩,⟨by repeat (first | (with_reducible first | exact HB.out | apply below_alloc | apply pw_below_drewN | apply below_drew1) | exact HB.out)⟩⟩
         ·rw [if_neg c11] at H
          exact absurd H (by simp)
        ·rw [if_neg c10] at H
         exact absurd H (by simp)
       ·rw [if_neg c9] at H
        exact absurd H (by simp)
      ·rw [if_neg c8] at H
       have c8b0 : decide (x27_2 < (l0.length : Int)) = false:=decide_eq_false c8
       clear c8
       obtain rfl:=Option.some.inj H
       go_wp2
       go_ret
       exact ⟨_,by first | rfl | (simp [errW_none,errW_some] <;> rfl) | (simp [*,errW_none,errW_some] <;> rfl),by (with_reducible repeat (first | apply Kd.R_alloc | apply Kd.R_drewN | apply Kd.R_drew));exact HO_6.out,by repeat (first | (with_reducible first | exact HB.out | apply below_alloc | apply pw_below_drewN | apply below_drew1) | exact HB.out)⟩
end Go.Proofs.Ytnmmdeonkpfccaa.Pr
set_option linter.unusedVariables false
namespace Go.Proofs.Ytnmmdeonkpfccaa.Pr
theorem wpList_unguard {P : Program} {ops : Array Oper} {Q : Exit → Act → World → Prop} {a : Act} {w : World} {rest : List Oper} {o : Oper} {g : Tmp × Bool}
  (_hg : o.guard = some g) (hw : Region.wanted o (yielded ops a.tmps) = true)
  (h : wpList P ops Q ({ o with guard:=none } :: rest) a w) : wpList P ops Q (o :: rest) a w:=by
 unfold wpList at h ⊢
 rw [if_pos hw]
 rw [if_pos (by simp [Region.wanted])] at h
 exact h
end Go.Proofs.Ytnmmdeonkpfccaa.Pr
namespace Go.Proofs.Ytnmmdeonkpfccaa.Pr
open Go.RowKit Go.Proofs.YtnmmdeonkpfccaaW.PrintWords Go.Proofs.YtnmmdeonkpfccaaW.PrintLast Go.Proofs.YtnmmdeonkpfccaaW.PrintMore
attribute [local go_sem] max2_int min2_int max_two min_two max_three min_three max_four min_four
set_option linter.unusedVariables false
set_option linter.unusedSimpArgs false
def slices_Equal_int_int.l0 : Nat → List Int → List Int → Int → Int → Option (Bool)
 | 0,_,_,_,_ => none
 | k + 1,x0,x1,x12,x13 => if x13 < x12 then (if 0 ≤ x13 then (if x13 < (x0.length : Int) then (if x13 < (x1.length : Int) then (if (rd x0 x13) = (rd x1 x13) then (slices_Equal_int_int.l0 k x0 x1 x12 (wrap64 (x13 + 1))) else (some false)) else (none)) else (none)) else (none)) else (some true)
def slices_Equal_int_int.f (k : Nat) (l0 : List Int) (l1 : List Int) : Option (Bool):=if (l0.length : Int) = (l1.length : Int) then (slices_Equal_int_int.l0 k l0 l1 (l0.length : Int) 0) else (some false)
set_option maxHeartbeats 8000000 in
set_option maxRecDepth 100000 in
theorem slices_Equal_int_int.calls (k : Nat) (A0 : Option Addr) (c0 : Nat) (l0 : List Int) (A1 : Option Addr) (c1 : Nat) (l1 : List Int) (r : Bool) (w : World) (hr0 : Kd.C (Kd.int .i64) w A0 l0.length l0) (hc0 : l0.length ≤ c0) (hr1 : Kd.C (Kd.int .i64) w A1 l1.length l1) (hc1 : l1.length ≤ c1) (h : slices_Equal_int_int.f k l0 l1 = some r) :
  Calls Try.prog 18 #[.slice A0 l0.length c0,.slice A1 l1.length c1] w fun e w' => e = .returned (.bool r) ∧ Drawn0 w w':=by
 have HR0:=Aside0.mk hr0
 have HC0:=Aside0.mk hc0
 clear hr0 hc0
 have HR1:=Aside0.mk hr1
 have HC1:=Aside0.mk hc1
 clear hr1 hc1
 have H : (if (l0.length : Int) = (l1.length : Int) then (slices_Equal_int_int.l0 k l0 l1 (l0.length : Int) 0) else (some false)) = some r:=h
 clear h
 by_cases c3 : (l0.length : Int) = (l1.length : Int)
 ·rw [if_pos c3] at H
  have c3b0 : ((l0.length : Int) == (l1.length : Int)) = true:=beq_iff_eq.mpr c3
  have c3b1 : ((l0.length : Int) != (l1.length : Int)) = false:=bne_eq_false_iff_eq.mpr c3
  have c3b2 : (l0.length == l1.length) = true:=by first | simpa using c3 | (simp at c3 ⊢;omega)
  clear c3
  have H':=Aside0.mk H
  clear H
  go_enter Try.func18,Try.ntmps18
  go_wp2
  repeat (go_quiet (fail);try go_wp2)
  go_loopg [13] k (fun kq v13 w' => ∃ (x13_1 : Int),v13 = .int .i64 x13_1 ∧ Aside0 (slices_Equal_int_int.l0 kq l0 l1 (l0.length : Int) x13_1 = some r) ∧ Aside0 (kq ≤ k) ∧ Drawn0 w w')
  case atStart => exact ⟨(0),(by first | rfl | (simp;done) | (simp [*];done)),H',⟨Nat.le_refl _⟩,by repeat (first | exact Drawn0.refl _ | apply Drawn0.step)⟩
  case round =>
   clear H'
   try clear c1
   try clear p2
   try clear c3
   try clear c3b0
   try clear c3b1
   try clear c3b2
   obtain ⟨x13_1,rfl,HA,HK1,⟨m1,rfl⟩⟩:=hrel
   cases gk with
   | zero => exact absurd HA.out (by simp [slices_Equal_int_int.l0])
   | succ k1 =>
    have H:=HA.out
    clear HA
    simp only [slices_Equal_int_int.l0] at H
    by_cases c4 : x13_1 < (l0.length : Int)
    ·rw [if_pos c4] at H
     have c4b0 : decide (x13_1 < (l0.length : Int)) = true:=decide_eq_true c4
     clear c4
     by_cases c5 : 0 ≤ x13_1
     ·rw [if_pos c5] at H
      have c5b0 : decide (0 ≤ x13_1) = true:=decide_eq_true c5
      clear c5
      by_cases c6 : x13_1 < (l0.length : Int)
      ·rw [if_pos c6] at H
       have c6b0 : decide (x13_1 < (l0.length : Int)) = true:=decide_eq_true c6
       clear c6
       by_cases c7 : x13_1 < (l1.length : Int)
       ·rw [if_pos c7] at H
        have c7b0 : decide (x13_1 < (l1.length : Int)) = true:=decide_eq_true c7
        clear c7
        by_cases c8 : (rd l0 x13_1) = (rd l1 x13_1)
        ·rw [if_pos c8] at H
         have c8b0 : ((rd l0 x13_1) == (rd l1 x13_1)) = true:=beq_iff_eq.mpr c8
         have c8b1 : ((rd l0 x13_1) != (rd l1 x13_1)) = false:=bne_eq_false_iff_eq.mpr c8
         clear c8
         have H':=Aside0.mk H
         clear H
         have p192 : 0 ≤ (x13_1 : Int):=of_decide_eq_true (by first | (with_reducible assumption) | assumption)
         have q192 : x13_1 < (l0.length : Int):=of_decide_eq_true (by first | (with_reducible assumption) | assumption)
         obtain ⟨ad192,e192,hx192_0⟩:=Kd.at_int HR0.out x13_1 p192 q192
         cases e192
         replace p192:=eq_true p192
         replace q192:=eq_true q192
         have p193 : 0 ≤ (x13_1 : Int):=of_decide_eq_true (by first | (with_reducible assumption) | assumption)
         have q193 : x13_1 < (l1.length : Int):=of_decide_eq_true (by first | (with_reducible assumption) | assumption)
         obtain ⟨ad193,e193,hx193_0⟩:=Kd.at_int HR1.out x13_1 p193 q193
         cases e193
         replace p193:=eq_true p193
         replace q193:=eq_true q193
         go_wp2
         repeat (go_quiet (fail);try go_wp2)
         go_roundg k1
         case measure => have:=HK1.out;omega
         case rel => exact ⟨(wrap64 (x13_1 + 1)),(by first | rfl | (simp;done) | (simp [*];done)),H',⟨by have:=HK1.out;omega⟩,by repeat (first | exact Drawn0.refl _ | apply Drawn0.step)⟩
        ·rw [if_neg c8] at H
         have c8b0 : ((rd l0 x13_1) == (rd l1 x13_1)) = false:=beq_eq_false_iff_ne.mpr c8
         have c8b1 : ((rd l0 x13_1) != (rd l1 x13_1)) = true:=bne_iff_ne.mpr c8
         obtain rfl:=Option.some.inj H
         have p192 : 0 ≤ (x13_1 : Int):=of_decide_eq_true (by first | (with_reducible assumption) | assumption)
         have q192 : x13_1 < (l0.length : Int):=of_decide_eq_true (by first | (with_reducible assumption) | assumption)
         obtain ⟨ad192,e192,hx192_0⟩:=Kd.at_int HR0.out x13_1 p192 q192
         cases e192
         replace p192:=eq_true p192
         replace q192:=eq_true q192
         have p193 : 0 ≤ (x13_1 : Int):=of_decide_eq_true (by first | (with_reducible assumption) | assumption)
         have q193 : x13_1 < (l1.length : Int):=of_decide_eq_true (by first | (with_reducible assumption) | assumption)
         obtain ⟨ad193,e193,hx193_0⟩:=Kd.at_int HR1.out x13_1 p193 q193
         cases e193
         replace p193:=eq_true p193
         replace q193:=eq_true q193
         go_wp2
         repeat (go_quiet (fail);try go_wp2)
         go_ret
         exact ⟨by first | rfl | (simp;done) | (simp [*];done),by repeat (first | exact Drawn0.refl _ | apply Drawn0.step)⟩
       ·rw [if_neg c7] at H
        exact absurd H (by simp)
      ·rw [if_neg c6] at H
       exact absurd H (by simp)
     ·rw [if_neg c5] at H
      exact absurd H (by simp)
    ·rw [if_neg c4] at H
     have c4b0 : decide (x13_1 < (l0.length : Int)) = false:=decide_eq_false c4
     clear c4
     obtain rfl:=Option.some.inj H
     go_wp2
     repeat (go_quiet (fail);try go_wp2)
     go_ret
     exact ⟨by first | rfl | (simp;done) | (simp [*];done),by repeat (first | exact Drawn0.refl _ | apply Drawn0.step)⟩
 ·rw [if_neg c3] at H
  have c3b0 : ((l0.length : Int) == (l1.length : Int)) = false:=beq_eq_false_iff_ne.mpr c3
  have c3b1 : ((l0.length : Int) != (l1.length : Int)) = true:=bne_iff_ne.mpr c3
  have c3b2 : (l0.length == l1.length) = false:=by first | simpa using c3 | (simp at c3 ⊢;omega)
  obtain rfl:=Option.some.inj H
  go_enter Try.func18,Try.ntmps18
  go_wp2
  repeat (go_quiet (fail);try go_wp2)
  go_ret
  exact ⟨by first | rfl | (simp;done) | (simp [*];done),by repeat (first | exact Drawn0.refl _ | apply Drawn0.step)⟩
end Go.Proofs.Ytnmmdeonkpfccaa.Pr
namespace Go.Proofs.Ytnmmdeonkpfccaa.Pr
open Go.RowKit Go.Proofs.YtnmmdeonkpfccaaW.PrintWords Go.Proofs.YtnmmdeonkpfccaaW.PrintLast Go.Proofs.YtnmmdeonkpfccaaW.PrintMore
attribute [local go_sem] max2_int min2_int max_two min_two max_three min_three max_four min_four
set_option linter.unusedVariables false
set_option linter.unusedSimpArgs false
def metrolablaw53_Seven.f  : Option ((List (S51))):=some (([(⟨0,(⟨#[103]⟩ : ByteArray),(⟨#[112,49]⟩ : ByteArray),(⟨#[88]⟩ : ByteArray)⟩ : S51),(⟨0,(⟨#[104]⟩ : ByteArray),(⟨#[112,50]⟩ : ByteArray),(⟨#[88]⟩ : ByteArray)⟩ : S51),(⟨1,(⟨#[103]⟩ : ByteArray),(⟨#[]⟩ : ByteArray),(⟨#[]⟩ : ByteArray)⟩ : S51),(⟨0,(⟨#[103]⟩ : ByteArray),(⟨#[112,49]⟩ : ByteArray),(⟨#[88]⟩ : ByteArray)⟩ : S51),(⟨0,(⟨#[103]⟩ : ByteArray),(⟨#[112,51]⟩ : ByteArray),(⟨#[89]⟩ : ByteArray)⟩ : S51),(⟨2,(⟨#[103]⟩ : ByteArray),(⟨#[]⟩ : ByteArray),(⟨#[]⟩ : ByteArray)⟩ : S51),(⟨2,(⟨#[104]⟩ : ByteArray),(⟨#[]⟩ : ByteArray),(⟨#[]⟩ : ByteArray)⟩ : S51)] : List (S51)))
set_option maxHeartbeats 8000000 in
set_option maxRecDepth 100000 in
theorem metrolablaw53_Seven.calls  (r : List (S51)) (w : World) (h : metrolablaw53_Seven.f  = some r) :
  Calls Try.prog 37 #[] w fun e w' => ∃ v0_ : Value,e = .returned (v0_) ∧ Kd.R k51 51 w' w.heap.size (fun _ => True) v0_ r ∧ Below w.heap.size w w':=by
 have hu51:=Try.underlying51
 have HB:=Aside0.mk (Below.refl w.heap.size w)
 have H : (some (([(⟨0,(⟨#[103]⟩ : ByteArray),(⟨#[112,49]⟩ : ByteArray),(⟨#[88]⟩ : ByteArray)⟩ : S51),(⟨0,(⟨#[104]⟩ : ByteArray),(⟨#[112,50]⟩ : ByteArray),(⟨#[88]⟩ : ByteArray)⟩ : S51),(⟨1,(⟨#[103]⟩ : ByteArray),(⟨#[]⟩ : ByteArray),(⟨#[]⟩ : ByteArray)⟩ : S51),(⟨0,(⟨#[103]⟩ : ByteArray),(⟨#[112,49]⟩ : ByteArray),(⟨#[88]⟩ : ByteArray)⟩ : S51),(⟨0,(⟨#[103]⟩ : ByteArray),(⟨#[112,51]⟩ : ByteArray),(⟨#[89]⟩ : ByteArray)⟩ : S51),(⟨2,(⟨#[103]⟩ : ByteArray),(⟨#[]⟩ : ByteArray),(⟨#[]⟩ : ByteArray)⟩ : S51),(⟨2,(⟨#[104]⟩ : ByteArray),(⟨#[]⟩ : ByteArray),(⟨#[]⟩ : ByteArray)⟩ : S51)] : List (S51)))) = some r:=h
 clear h
 obtain ⟨y432,hy432⟩ : ∃ y_ : List (S51),y_ = (([(⟨0,(⟨#[103]⟩ : ByteArray),(⟨#[112,49]⟩ : ByteArray),(⟨#[88]⟩ : ByteArray)⟩ : S51),(⟨0,(⟨#[104]⟩ : ByteArray),(⟨#[112,50]⟩ : ByteArray),(⟨#[88]⟩ : ByteArray)⟩ : S51),(⟨1,(⟨#[103]⟩ : ByteArray),(⟨#[]⟩ : ByteArray),(⟨#[]⟩ : ByteArray)⟩ : S51),(⟨0,(⟨#[103]⟩ : ByteArray),(⟨#[112,49]⟩ : ByteArray),(⟨#[88]⟩ : ByteArray)⟩ : S51),(⟨0,(⟨#[103]⟩ : ByteArray),(⟨#[112,51]⟩ : ByteArray),(⟨#[89]⟩ : ByteArray)⟩ : S51),(⟨2,(⟨#[103]⟩ : ByteArray),(⟨#[]⟩ : ByteArray),(⟨#[]⟩ : ByteArray)⟩ : S51),(⟨2,(⟨#[104]⟩ : ByteArray),(⟨#[]⟩ : ByteArray),(⟨#[]⟩ : ByteArray)⟩ : S51)] : List (S51))):=⟨_,rfl⟩
 replace H : (some y432) = some r:=by first | (rw [hy432];with_reducible exact H) | (have H2_:=(Option.bind_some _ _).symm.trans H;rw [hy432];with_reducible exact H2_) | (have H2_:=(Option.bind_some _ _).symm.trans H;with_reducible exact H2_) | with_reducible exact H | (rw [hy432];exact H) | exact H
 have Ny432:=Aside0.mk hy432
 clear hy432
 obtain rfl:=Option.some.inj H
 go_enter Try.func37,Try.ntmps37
 go_wp2_with (first | ((with_reducible refine gate_dst (N:=8) rfl ?_);(try refine wpList_unguard rfl rfl ?_);refine Kd.R_lit k51 _ 51 ?hg (N:=8) ?hd (xs:=([(⟨0,(⟨#[103]⟩ : ByteArray),(⟨#[112,49]⟩ : ByteArray),(⟨#[88]⟩ : ByteArray)⟩ : S51),(⟨0,(⟨#[104]⟩ : ByteArray),(⟨#[112,50]⟩ : ByteArray),(⟨#[88]⟩ : ByteArray)⟩ : S51),(⟨1,(⟨#[103]⟩ : ByteArray),(⟨#[]⟩ : ByteArray),(⟨#[]⟩ : ByteArray)⟩ : S51),(⟨0,(⟨#[103]⟩ : ByteArray),(⟨#[112,49]⟩ : ByteArray),(⟨#[88]⟩ : ByteArray)⟩ : S51),(⟨0,(⟨#[103]⟩ : ByteArray),(⟨#[112,51]⟩ : ByteArray),(⟨#[89]⟩ : ByteArray)⟩ : S51),(⟨2,(⟨#[103]⟩ : ByteArray),(⟨#[]⟩ : ByteArray),(⟨#[]⟩ : ByteArray)⟩ : S51),(⟨2,(⟨#[104]⟩ : ByteArray),(⟨#[]⟩ : ByteArray),(⟨#[]⟩ : ByteArray)⟩ : S51)] : List (S51))) (inner:=[.int .i64 0,.string (⟨#[103]⟩ : ByteArray),.string (⟨#[112,49]⟩ : ByteArray),.string (⟨#[88]⟩ : ByteArray),.int .i64 0,.string (⟨#[104]⟩ : ByteArray),.string (⟨#[112,50]⟩ : ByteArray),.string (⟨#[88]⟩ : ByteArray),.int .i64 1,.string (⟨#[103]⟩ : ByteArray),.string (⟨#[]⟩ : ByteArray),.string (⟨#[]⟩ : ByteArray),.int .i64 0,.string (⟨#[103]⟩ : ByteArray),.string (⟨#[112,49]⟩ : ByteArray),.string (⟨#[88]⟩ : ByteArray),.int .i64 0,.string (⟨#[103]⟩ : ByteArray),.string (⟨#[112,51]⟩ : ByteArray),.string (⟨#[89]⟩ : ByteArray),.int .i64 2,.string (⟨#[103]⟩ : ByteArray),.string (⟨#[]⟩ : ByteArray),.string (⟨#[]⟩ : ByteArray),.int .i64 2,.string (⟨#[104]⟩ : ByteArray),.string (⟨#[]⟩ : ByteArray),.string (⟨#[]⟩ : ByteArray)]) (ok:=fun _ => True) (okp:=fun _ => True) ?hr ?hp (fun _ hk => hk) trivial (Below.refl _ _) (Nat.le_refl _) (by simp) ?_;(case hd => rfl);(case hg => rfl);(case hr => first | (go_simp;done) | (go_simp;rfl));(case hp => exact (Reps.c4 (show Kd.M k51 _ _ _ (⟨0,(⟨#[103]⟩ : ByteArray),(⟨#[112,49]⟩ : ByteArray),(⟨#[88]⟩ : ByteArray)⟩ : S51) [.int .i64 0,.string (⟨#[103]⟩ : ByteArray),.string (⟨#[112,49]⟩ : ByteArray),.string (⟨#[88]⟩ : ByteArray)] from (k51_mkM _ _ _ (⟨0,(⟨#[103]⟩ : ByteArray),(⟨#[112,49]⟩ : ByteArray),(⟨#[88]⟩ : ByteArray)⟩ : S51) )) (Reps.c4 (show Kd.M k51 _ _ _ (⟨0,(⟨#[104]⟩ : ByteArray),(⟨#[112,50]⟩ : ByteArray),(⟨#[88]⟩ : ByteArray)⟩ : S51) [.int .i64 0,.string (⟨#[104]⟩ : ByteArray),.string (⟨#[112,50]⟩ : ByteArray),.string (⟨#[88]⟩ : ByteArray)] from (k51_mkM _ _ _ (⟨0,(⟨#[104]⟩ : ByteArray),(⟨#[112,50]⟩ : ByteArray),(⟨#[88]⟩ : ByteArray)⟩ : S51) )) (Reps.c4 (show Kd.M k51 _ _ _ (⟨1,(⟨#[103]⟩ : ByteArray),(⟨#[]⟩ : ByteArray),(⟨#[]⟩ : ByteArray)⟩ : S51) [.int .i64 1,.string (⟨#[103]⟩ : ByteArray),.string (⟨#[]⟩ : ByteArray),.string (⟨#[]⟩ : ByteArray)] from (k51_mkM _ _ _ (⟨1,(⟨#[103]⟩ : ByteArray),(⟨#[]⟩ : ByteArray),(⟨#[]⟩ : ByteArray)⟩ : S51) )) (Reps.c4 (show Kd.M k51 _ _ _ (⟨0,(⟨#[103]⟩ : ByteArray),(⟨#[112,49]⟩ : ByteArray),(⟨#[88]⟩ : ByteArray)⟩ : S51) [.int .i64 0,.string (⟨#[103]⟩ : ByteArray),.string (⟨#[112,49]⟩ : ByteArray),.string (⟨#[88]⟩ : ByteArray)] from (k51_mkM _ _ _ (⟨0,(⟨#[103]⟩ : ByteArray),(⟨#[112,49]⟩ : ByteArray),(⟨#[88]⟩ : ByteArray)⟩ : S51) )) (Reps.c4 (show Kd.M k51 _ _ _ (⟨0,(⟨#[103]⟩ : ByteArray),(⟨#[112,51]⟩ : ByteArray),(⟨#[89]⟩ : ByteArray)⟩ : S51) [.int .i64 0,.string (⟨#[103]⟩ : ByteArray),.string (⟨#[112,51]⟩ : ByteArray),.string (⟨#[89]⟩ : ByteArray)] from (k51_mkM _ _ _ (⟨0,(⟨#[103]⟩ : ByteArray),(⟨#[112,51]⟩ : ByteArray),(⟨#[89]⟩ : ByteArray)⟩ : S51) )) (Reps.c4 (show Kd.M k51 _ _ _ (⟨2,(⟨#[103]⟩ : ByteArray),(⟨#[]⟩ : ByteArray),(⟨#[]⟩ : ByteArray)⟩ : S51) [.int .i64 2,.string (⟨#[103]⟩ : ByteArray),.string (⟨#[]⟩ : ByteArray),.string (⟨#[]⟩ : ByteArray)] from (k51_mkM _ _ _ (⟨2,(⟨#[103]⟩ : ByteArray),(⟨#[]⟩ : ByteArray),(⟨#[]⟩ : ByteArray)⟩ : S51) )) (Reps.c4 (show Kd.M k51 _ _ _ (⟨2,(⟨#[104]⟩ : ByteArray),(⟨#[]⟩ : ByteArray),(⟨#[]⟩ : ByteArray)⟩ : S51) [.int .i64 2,.string (⟨#[104]⟩ : ByteArray),.string (⟨#[]⟩ : ByteArray),.string (⟨#[]⟩ : ByteArray)] from (k51_mkM _ _ _ (⟨2,(⟨#[104]⟩ : ByteArray),(⟨#[]⟩ : ByteArray),(⟨#[]⟩ : ByteArray)⟩ : S51) )) (Reps.none _ _)))))))));intro v433 w1 ho2 hb hg_ hnew_;clear hg_ hnew_;(first | rw [← Ny432.out] at ho2 | (simp only [Int.reduceToNat] at ho2;rw [← Ny432.out] at ho2));have n0_:=Aside0.mk (Kd.R_lower ho2 (below_size (by repeat (first | (with_reducible first | exact HB.out | apply below_alloc | apply pw_below_drewN | apply below_drew1) | exact HB.out))));have n1_:=Aside0.mk (below_step (by repeat (first | (with_reducible first | exact HB.out | apply below_alloc | apply pw_below_drewN | apply below_drew1) | exact HB.out)) hb);clear HB;have HO434:=n0_;have HB:=n1_;clear n0_ n1_;clear hb ho2))
 go_ret
 exact ⟨_,by first | rfl | (simp [errW_none,errW_some] <;> rfl) | (simp [*,errW_none,errW_some] <;> rfl),by (with_reducible repeat (first | apply Kd.R_alloc | apply Kd.R_drewN | apply Kd.R_drew));exact HO434.out,by repeat (first | (with_reducible first | exact HB.out | apply below_alloc | apply pw_below_drewN | apply below_drew1) | exact HB.out)⟩
end Go.Proofs.Ytnmmdeonkpfccaa.Pr
