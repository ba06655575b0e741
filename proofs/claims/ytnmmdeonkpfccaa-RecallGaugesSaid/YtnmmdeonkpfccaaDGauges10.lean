/- A part of the statement's proof. -/
import Derived.Test.YtnmmdeonkpfccaaDGauges2
import Derived.Test.YtnmmdeonkpfccaaDGauges5
import Derived.Test.YtnmmdeonkpfccaaDGauges9
import Derived.Sort.QuietIn
import Derived.Stop.RegionWithIn
import Derived.RegionTactic
import Derived.ChangeAlike
import Derived.RangeFuncCalls
namespace Go.Proofs.Ytnmmdeonkpfccaa.Pr
open Go.RowKit Go.Proofs.YtnmmdeonkpfccaaW.PrintWords Go.Proofs.YtnmmdeonkpfccaaW.PrintLast Go.Proofs.YtnmmdeonkpfccaaW.PrintMore
attribute [local go_sem] max2_int min2_int max_two min_two max_three min_three max_four min_four
set_option linter.unusedVariables false
set_option linter.unusedSimpArgs false
mutual
def metrolabref53_Few.j0 : Nat → List (S67) → Bool → Option (Bool)
 | 0,_,_ => none
 | k + 1,x0,x16 => if x16 = true then (some false) else (metrolabref53_Few.l0 k x0 0)
def metrolabref53_Few.l0 : Nat → List (S67) → Int → Option (Bool)
 | 0,_,_ => none
 | k + 1,x0,x3 => if x3 < (x0.length : Int) then (if 0 ≤ x3 then (if (((rd_T67 x0 x3).f1).size : Int) > 60 then (some false) else (if (((rd_T67 x0 x3).f2).size : Int) > 60 then (some false) else (if (((rd_T67 x0 x3).f3).size : Int) > 60 then (some false) else (metrolabref53_Few.l0 k x0 (wrap64 (x3 + 1)))))) else (none)) else (some true)
end
def metrolabref53_Few.f (k : Nat) (l0 : List (S67)) : Option (Bool):=if (l0.length : Int) > 16 then (if (l0.length : Int) ≤ 4096 then (metrolabref53_Few.j0 k l0 true) else (metrolabref53_Few.j0 k l0 (decide ((l0.length : Int) > 8192)))) else (metrolabref53_Few.j0 k l0 (decide ((l0.length : Int) > 8192)))
set_option maxHeartbeats 8000000 in
set_option maxRecDepth 100000 in
theorem metrolabref53_Few.calls (k : Nat) (A0 : Option Addr) (c0 : Nat) (l0 : List (S67)) (r : Bool) (w : World) (hr0 : Kd.C k67 w A0 l0.length l0) (hc0 : l0.length ≤ c0) (h : metrolabref53_Few.f k l0 = some r) :
  Calls Try.prog 36 #[.slice A0 l0.length c0] w fun e w' => e = .returned (.bool r) ∧ Drawn0 w w':=by
 have HR0:=Aside0.mk hr0
 have HC0:=Aside0.mk hc0
 clear hr0 hc0
 have H : (if (l0.length : Int) > 16 then (if (l0.length : Int) ≤ 4096 then (metrolabref53_Few.j0 k l0 true) else (metrolabref53_Few.j0 k l0 (decide ((l0.length : Int) > 8192)))) else (metrolabref53_Few.j0 k l0 (decide ((l0.length : Int) > 8192)))) = some r:=h
 clear h
 have HC2:=Aside0.mk H
 clear H
 go_enter Try.func36,Try.ntmps36
 go_upto_region 1 with (fail)
 go_cut [16] (fun v16 wc => ∃ (kq : Nat) (x16_1 : Bool),v16 = .bool x16_1 ∧ Aside0 (metrolabref53_Few.j0 kq l0 x16_1 = some r) ∧ Aside0 (kq ≤ k) ∧ Drawn0 w wc)
 case first =>
  have H:=HC2.out
  clear HC2
  by_cases c3 : (l0.length : Int) > 16
  ·rw [if_pos c3] at H
   have c3b0 : decide (16 < (l0.length : Int)) = true:=decide_eq_true c3
   have c3b1 : decide (16 < l0.length) = true:=decide_eq_true (by omega)
   clear c3
   (first | rw [c3b0] | (simp only [i64_w,i32_w];rw [c3b0]) | skip)
   by_cases c4 : (l0.length : Int) ≤ 4096
   ·rw [if_pos c4] at H
    have c4b0 : decide ((l0.length : Int) ≤ 4096) = true:=decide_eq_true c4
    have c4b1 : decide (l0.length ≤ 4096) = true:=decide_eq_true (by omega)
    clear c4
    have H':=Aside0.mk H
    clear H
    go_wp2
    go_meet
    case rel => exact ⟨_,(true),(by first | rfl | (simp;done) | (simp [*];done)),H',⟨by first | omega | exact Nat.le_refl _⟩,by repeat (first | exact Drawn0.refl _ | apply Drawn0.step)⟩
   ·rw [if_neg c4] at H
    have c4b0 : decide ((l0.length : Int) ≤ 4096) = false:=decide_eq_false c4
    have c4b1 : decide (l0.length ≤ 4096) = false:=decide_eq_false (by omega)
    clear c4
    have H':=Aside0.mk H
    clear H
    go_wp2
    go_meet
    case rel => exact ⟨_,(decide ((l0.length : Int) > 8192)),(by first | rfl | (simp;done) | (simp [*];done)),H',⟨by first | omega | exact Nat.le_refl _⟩,by repeat (first | exact Drawn0.refl _ | apply Drawn0.step)⟩
  ·rw [if_neg c3] at H
   have c3b0 : decide (16 < (l0.length : Int)) = false:=decide_eq_false c3
   have c3b1 : decide (16 < l0.length) = false:=decide_eq_false (by omega)
   clear c3
   (first | rw [c3b0] | (simp only [i64_w,i32_w];rw [c3b0]) | skip)
   have H':=Aside0.mk H
   clear H
   go_wp2
   go_meet
   case rel => exact ⟨_,(decide ((l0.length : Int) > 8192)),(by first | rfl | (simp;done) | (simp [*];done)),H',⟨by first | omega | exact Nat.le_refl _⟩,by repeat (first | exact Drawn0.refl _ | apply Drawn0.step)⟩
 case rest =>
  clear HC2
  try clear p2
  try clear c3
  try clear c3b0
  try clear c3b1
  try clear c4
  try clear c4b0
  try clear c4b1
  obtain ⟨kq,x16_1,rfl,HA,HJ1,⟨mc1,rfl⟩⟩:=hcut
  cases kq with
  | zero => exact absurd HA.out (by simp [metrolabref53_Few.j0])
  | succ kj1 =>
   have H:=HA.out
   clear HA
   simp only [metrolabref53_Few.j0] at H
   by_cases c5 : x16_1 = true
   ·subst c5
    have H1 : (some false) = some r:=by rw [if_pos rfl] at H;exact H
    clear H
    have H:=H1
    clear H1
    obtain rfl:=Option.some.inj H
    go_wp2
    go_ret
    exact ⟨by first | rfl | (simp;done) | (simp [*];done),by repeat (first | exact Drawn0.refl _ | apply Drawn0.step)⟩
   ·replace c5:=Bool.eq_false_iff.mpr c5
    subst c5
    have H1 : (metrolabref53_Few.l0 kj1 l0 0) = some r:=by rw [if_neg (show ¬ (false = true) by decide)] at H;exact H
    clear H
    have H:=H1
    clear H1
    have H':=Aside0.mk H
    clear H
    go_wp2
    go_loopg [3] kj1 (fun kq v3 w' => ∃ (x3_2 : Int),v3 = .int .i64 x3_2 ∧ Aside0 (metrolabref53_Few.l0 kq l0 x3_2 = some r) ∧ Aside0 (kq ≤ kj1) ∧ Drawn0 w w')
    case atStart => exact ⟨(0),(by first | rfl | (simp;done) | (simp [*];done)),H',⟨Nat.le_refl _⟩,by repeat (first | exact Drawn0.refl _ | apply Drawn0.step)⟩
    case round =>
     clear H'
     try clear c1
     try clear p2
     try clear c3
     try clear c3b0
     try clear c3b1
     try clear c4
     try clear c4b0
     try clear c4b1
     try clear c5
     try clear p2
     obtain ⟨x3_2,rfl,HA,HK2,⟨m2,rfl⟩⟩:=hrel
     cases gk with
     | zero => exact absurd HA.out (by simp [metrolabref53_Few.l0])
     | succ k2 =>
      have H:=HA.out
      clear HA
      simp only [metrolabref53_Few.l0] at H
      by_cases c6 : x3_2 < (l0.length : Int)
      ·rw [if_pos c6] at H
       have c6b0 : decide (x3_2 < (l0.length : Int)) = true:=decide_eq_true c6
       clear c6
       by_cases c7 : 0 ≤ x3_2
       ·rw [if_pos c7] at H
        have c7b0 : decide (0 ≤ x3_2) = true:=decide_eq_true c7
        clear c7
        by_cases c8 : (((rd_T67 l0 x3_2).f1).size : Int) > 60
        ·rw [if_pos c8] at H
         have c8b0 : decide (60 < (((rd_T67 l0 x3_2).f1).size : Int)) = true:=decide_eq_true c8
         have c8b1 : decide (60 < ((rd_T67 l0 x3_2).f1).size) = true:=decide_eq_true (by omega)
         clear c8
         obtain rfl:=Option.some.inj H
         have p106 : 0 ≤ (x3_2 : Int):=of_decide_eq_true (by first | (with_reducible assumption) | assumption)
         have q106 : x3_2 < (l0.length : Int):=of_decide_eq_true (by first | (with_reducible assumption) | assumption)
         obtain ⟨ad106,e106,hx106_0,hx106_1,hx106_2,hx106_3⟩:=at_T67 HR0.out x3_2 p106 q106
         cases e106
         replace p106:=eq_true p106
         replace q106:=eq_true q106
         go_wp2
         go_ret
         exact ⟨by first | rfl | (simp;done) | (simp [*];done),by repeat (first | exact Drawn0.refl _ | apply Drawn0.step)⟩
        ·rw [if_neg c8] at H
         have c8b0 : decide (60 < (((rd_T67 l0 x3_2).f1).size : Int)) = false:=decide_eq_false c8
         have c8b1 : decide (60 < ((rd_T67 l0 x3_2).f1).size) = false:=decide_eq_false (by omega)
         clear c8
         by_cases c9 : (((rd_T67 l0 x3_2).f2).size : Int) > 60
         ·rw [if_pos c9] at H
          have c9b0 : decide (60 < (((rd_T67 l0 x3_2).f2).size : Int)) = true:=decide_eq_true c9
          have c9b1 : decide (60 < ((rd_T67 l0 x3_2).f2).size) = true:=decide_eq_true (by omega)
          clear c9
          obtain rfl:=Option.some.inj H
          have p106 : 0 ≤ (x3_2 : Int):=of_decide_eq_true (by first | (with_reducible assumption) | assumption)
          have q106 : x3_2 < (l0.length : Int):=of_decide_eq_true (by first | (with_reducible assumption) | assumption)
          obtain ⟨ad106,e106,hx106_0,hx106_1,hx106_2,hx106_3⟩:=at_T67 HR0.out x3_2 p106 q106
          cases e106
          replace p106:=eq_true p106
          replace q106:=eq_true q106
          have p107 : 0 ≤ (x3_2 : Int):=of_decide_eq_true (by first | (with_reducible assumption) | assumption)
          have q107 : x3_2 < (l0.length : Int):=of_decide_eq_true (by first | (with_reducible assumption) | assumption)
          obtain ⟨ad107,e107,hx107_0,hx107_1,hx107_2,hx107_3⟩:=at_T67 HR0.out x3_2 p107 q107
          obtain rfl : ad106 = ad107:=(by injection e107)
          replace p107:=eq_true p107
          replace q107:=eq_true q107
          go_wp2
          go_ret
          exact ⟨by first | rfl | (simp;done) | (simp [*];done),by repeat (first | exact Drawn0.refl _ | apply Drawn0.step)⟩
         ·rw [if_neg c9] at H
          have c9b0 : decide (60 < (((rd_T67 l0 x3_2).f2).size : Int)) = false:=decide_eq_false c9
          have c9b1 : decide (60 < ((rd_T67 l0 x3_2).f2).size) = false:=decide_eq_false (by omega)
          clear c9
          by_cases c10 : (((rd_T67 l0 x3_2).f3).size : Int) > 60
          ·rw [if_pos c10] at H
           have c10b0 : decide (60 < (((rd_T67 l0 x3_2).f3).size : Int)) = true:=decide_eq_true c10
           have c10b1 : decide (60 < ((rd_T67 l0 x3_2).f3).size) = true:=decide_eq_true (by omega)
           clear c10
           obtain rfl:=Option.some.inj H
           have p106 : 0 ≤ (x3_2 : Int):=of_decide_eq_true (by first | (with_reducible assumption) | assumption)
           have q106 : x3_2 < (l0.length : Int):=of_decide_eq_true (by first | (with_reducible assumption) | assumption)
           obtain ⟨ad106,e106,hx106_0,hx106_1,hx106_2,hx106_3⟩:=at_T67 HR0.out x3_2 p106 q106
           cases e106
           replace p106:=eq_true p106
           replace q106:=eq_true q106
           have p107 : 0 ≤ (x3_2 : Int):=of_decide_eq_true (by first | (with_reducible assumption) | assumption)
           have q107 : x3_2 < (l0.length : Int):=of_decide_eq_true (by first | (with_reducible assumption) | assumption)
           obtain ⟨ad107,e107,hx107_0,hx107_1,hx107_2,hx107_3⟩:=at_T67 HR0.out x3_2 p107 q107
           obtain rfl : ad106 = ad107:=(by injection e107)
           replace p107:=eq_true p107
           replace q107:=eq_true q107
           have p108 : 0 ≤ (x3_2 : Int):=of_decide_eq_true (by first | (with_reducible assumption) | assumption)
           have q108 : x3_2 < (l0.length : Int):=of_decide_eq_true (by first | (with_reducible assumption) | assumption)
           obtain ⟨ad108,e108,hx108_0,hx108_1,hx108_2,hx108_3⟩:=at_T67 HR0.out x3_2 p108 q108
           obtain rfl : ad106 = ad108:=(by injection e108)
           replace p108:=eq_true p108
           replace q108:=eq_true q108
           go_wp2
           go_ret
           exact ⟨by first | rfl | (simp;done) | (simp [*];done),by repeat (first | exact Drawn0.refl _ | apply Drawn0.step)⟩
          ·rw [if_neg c10] at H
           have c10b0 : decide (60 < (((rd_T67 l0 x3_2).f3).size : Int)) = false:=decide_eq_false c10
           have c10b1 : decide (60 < ((rd_T67 l0 x3_2).f3).size) = false:=decide_eq_false (by omega)
           clear c10
           have H':=Aside0.mk H
           clear H
           have p106 : 0 ≤ (x3_2 : Int):=of_decide_eq_true (by first | (with_reducible assumption) | assumption)
           have q106 : x3_2 < (l0.length : Int):=of_decide_eq_true (by first | (with_reducible assumption) | assumption)
           obtain ⟨ad106,e106,hx106_0,hx106_1,hx106_2,hx106_3⟩:=at_T67 HR0.out x3_2 p106 q106
           cases e106
           replace p106:=eq_true p106
           replace q106:=eq_true q106
           have p107 : 0 ≤ (x3_2 : Int):=of_decide_eq_true (by first | (with_reducible assumption) | assumption)
           have q107 : x3_2 < (l0.length : Int):=of_decide_eq_true (by first | (with_reducible assumption) | assumption)
           obtain ⟨ad107,e107,hx107_0,hx107_1,hx107_2,hx107_3⟩:=at_T67 HR0.out x3_2 p107 q107
           obtain rfl : ad106 = ad107:=(by injection e107)
           replace p107:=eq_true p107
           replace q107:=eq_true q107
           have p108 : 0 ≤ (x3_2 : Int):=of_decide_eq_true (by first | (with_reducible assumption) | assumption)
           have q108 : x3_2 < (l0.length : Int):=of_decide_eq_true (by first | (with_reducible assumption) | assumption)
           obtain ⟨ad108,e108,hx108_0,hx108_1,hx108_2,hx108_3⟩:=at_T67 HR0.out x3_2 p108 q108
           obtain rfl : ad106 = ad108:=(by injection e108)
           replace p108:=eq_true p108
           replace q108:=eq_true q108
           go_wp2
           go_roundg k2
           case measure => have:=HJ1.out;have:=HK2.out;omega
           case rel => exact ⟨(wrap64 (x3_2 + 1)),(by first | rfl | (simp;done) | (simp [*];done)),H',⟨by have:=HJ1.out;have:=HK2.out;omega⟩,by repeat (first | exact Drawn0.refl _ | apply Drawn0.step)⟩
       ·rw [if_neg c7] at H
        exact absurd H (by simp)
      ·rw [if_neg c6] at H
       have c6b0 : decide (x3_2 < (l0.length : Int)) = false:=decide_eq_false c6
       clear c6
       obtain rfl:=Option.some.inj H
       go_wp2
       go_ret
       exact ⟨by first | rfl | (simp;done) | (simp [*];done),by repeat (first | exact Drawn0.refl _ | apply Drawn0.step)⟩
end Go.Proofs.Ytnmmdeonkpfccaa.Pr
namespace Go.Proofs.Ytnmmdeonkpfccaa.Pr
open Go.RowKit Go.Proofs.YtnmmdeonkpfccaaW.PrintWords Go.Proofs.YtnmmdeonkpfccaaW.PrintLast Go.Proofs.YtnmmdeonkpfccaaW.PrintMore
attribute [local go_sem] max2_int min2_int max_two min_two max_three min_three max_four min_four
set_option linter.unusedVariables false
set_option linter.unusedSimpArgs false
def metrolablaw53_few.f (k : Nat) (l0 : List (S51)) (a1 : ByteArray) : Option (Bool):=(metrolablaw53_own.f k l0).bind fun t109 => ((metrolabref53_Few.f k t109).bind fun t112 => (if t112 = true then (some (decide ((a1.size : Int) ≤ 60))) else (some false)))
set_option maxHeartbeats 8000000 in
set_option maxRecDepth 100000 in
theorem metrolablaw53_few.calls (k : Nat) (A0 : Option Addr) (c0 : Nat) (l0 : List (S51)) (a1 : ByteArray) (r : Bool) (w : World) (hr0 : Kd.C k51 w A0 l0.length l0) (hc0 : l0.length ≤ c0) (h : metrolablaw53_few.f k l0 a1 = some r) :
  Calls Try.prog 9 #[.slice A0 l0.length c0,.string a1] w fun e w' => e = .returned (.bool r) ∧ Below w.heap.size w w':=by
 have HR0:=Aside0.mk hr0
 have HC0:=Aside0.mk hc0
 clear hr0 hc0
 have HB:=Aside0.mk (Below.refl w.heap.size w)
 have H : ((metrolablaw53_own.f k l0).bind fun t109 => ((metrolabref53_Few.f k t109).bind fun t112 => (if t112 = true then (some (decide ((a1.size : Int) ≤ 60))) else (some false)))) = some r:=h
 clear h
 replace H:=Option.bind_eq_some_iff.mp H
 obtain ⟨t109,A30,H⟩:=H
 replace H : ((metrolabref53_Few.f k t109).bind fun t112 => (if t112 = true then (some (decide ((a1.size : Int) ≤ 60))) else (some false))) = some r:=H
 have A3:=Aside0.mk A30
 clear A30
 replace H:=Option.bind_eq_some_iff.mp H
 obtain ⟨t112,A40,H⟩:=H
 replace H : (if t112 = true then (some (decide ((a1.size : Int) ≤ 60))) else (some false)) = some r:=H
 have A4:=Aside0.mk A40
 clear A40
 by_cases c5 : t112 = true
 ·subst c5
  have H1 : (some (decide ((a1.size : Int) ≤ 60))) = some r:=by rw [if_pos rfl] at H;exact H
  clear H
  have H:=H1
  clear H1
  obtain rfl:=Option.some.inj H
  go_enter Try.func9,Try.ntmps9
  go_wp2_with (first | ((with_reducible refine gate_callee (f:=13) rfl ?_);refine goesL_ (some 6) rfl rfl Try.func13 (by kernel_rfl) rfl #[.slice A0 l0.length c0] rfl (by (try simp only [List.map_toArray,List.map_cons,List.map_nil]);first | done | rfl | (simp only [List.length_drop,List.length_take];rfl)) ?_;(with_reducible refine (metrolablaw53_own.calls k _ _ l0 t109 _ ?side1 ?side2 A3.out).mono ?_);(case side1 => repeat (first | exact HR0.out | (with_reducible refine Kd.C_alloc ?_ _) | (with_reducible refine Kd.C_drewN ?_ _) | (with_reducible refine Kd.C_drew ?_)));(case side2 => exact HC0.out);rintro e w6 ⟨v110,rfl,ho0,hb⟩;refine ⟨_,rfl,?_⟩;have n0_:=Aside0.mk (Kd.R_lower ho0 (below_size (by repeat (first | (with_reducible first | exact HB.out | apply below_alloc | apply pw_below_drewN | apply below_drew1) | exact HB.out))));have n1_:=Aside0.mk (below_step (by repeat (first | (with_reducible first | exact HB.out | apply below_alloc | apply pw_below_drewN | apply below_drew1) | exact HB.out)) hb);clear HB;have HO111:=n0_;have HB:=n1_;clear n0_ n1_;(try clear hb);(try clear hb2);(try clear hk);(try clear hi);(try clear ho0);obtain ⟨Ao7,co7,eo7⟩:=Kd.R_slice HO111.out;subst eo7) | ((with_reducible refine gate_callee (f:=36) rfl ?_);refine goesL_ (some 7) rfl rfl Try.func36 (by kernel_rfl) rfl #[.slice Ao7 t109.length co7] rfl (by (try simp only [List.map_toArray,List.map_cons,List.map_nil]);first | done | rfl | (simp only [List.length_drop,List.length_take];rfl)) ?_;(with_reducible refine (metrolabref53_Few.calls k _ _ t109 true _ ?side1 ?side2 A4.out).mono ?_);(case side1 => repeat (first | exact (Kd.R_reads' HO111.out).2.2 | (with_reducible refine Kd.C_alloc ?_ _) | (with_reducible refine Kd.C_drewN ?_ _) | (with_reducible refine Kd.C_drew ?_)));(case side2 => exact (Kd.R_reads' HO111.out).2.1);rintro e w' ⟨rfl,⟨nd,rfl⟩⟩;refine ⟨_,rfl,?_⟩))
  go_ret
  exact ⟨by first | rfl | (simp [errW_none,errW_some] <;> rfl) | (simp [*,errW_none,errW_some] <;> rfl),by repeat (first | (with_reducible first | exact HB.out | apply below_alloc | apply pw_below_drewN | apply below_drew1) | exact HB.out)⟩
 ·replace c5:=Bool.eq_false_iff.mpr c5
  subst c5
  have H1 : (some false) = some r:=by rw [if_neg (show ¬ (false = true) by decide)] at H;exact H
  clear H
  have H:=H1
  clear H1
  obtain rfl:=Option.some.inj H
  go_enter Try.func9,Try.ntmps9
  go_wp2_with (first | ((with_reducible refine gate_callee (f:=13) rfl ?_);refine goesL_ (some 6) rfl rfl Try.func13 (by kernel_rfl) rfl #[.slice A0 l0.length c0] rfl (by (try simp only [List.map_toArray,List.map_cons,List.map_nil]);first | done | rfl | (simp only [List.length_drop,List.length_take];rfl)) ?_;(with_reducible refine (metrolablaw53_own.calls k _ _ l0 t109 _ ?side1 ?side2 A3.out).mono ?_);(case side1 => repeat (first | exact HR0.out | (with_reducible refine Kd.C_alloc ?_ _) | (with_reducible refine Kd.C_drewN ?_ _) | (with_reducible refine Kd.C_drew ?_)));(case side2 => exact HC0.out);rintro e w8 ⟨v110,rfl,ho0,hb⟩;refine ⟨_,rfl,?_⟩;have n0_:=Aside0.mk (Kd.R_lower ho0 (below_size (by repeat (first | (with_reducible first | exact HB.out | apply below_alloc | apply pw_below_drewN | apply below_drew1) | exact HB.out))));have n1_:=Aside0.mk (below_step (by repeat (first | (with_reducible first | exact HB.out | apply below_alloc | apply pw_below_drewN | apply below_drew1) | exact HB.out)) hb);clear HB;have HO111:=n0_;have HB:=n1_;clear n0_ n1_;(try clear hb);(try clear hb2);(try clear hk);(try clear hi);(try clear ho0);obtain ⟨Ao9,co9,eo9⟩:=Kd.R_slice HO111.out;subst eo9) | ((with_reducible refine gate_callee (f:=36) rfl ?_);refine goesL_ (some 7) rfl rfl Try.func36 (by kernel_rfl) rfl #[.slice Ao9 t109.length co9] rfl (by (try simp only [List.map_toArray,List.map_cons,List.map_nil]);first | done | rfl | (simp only [List.length_drop,List.length_take];rfl)) ?_;(with_reducible refine (metrolabref53_Few.calls k _ _ t109 false _ ?side1 ?side2 A4.out).mono ?_);(case side1 => repeat (first | exact (Kd.R_reads' HO111.out).2.2 | (with_reducible refine Kd.C_alloc ?_ _) | (with_reducible refine Kd.C_drewN ?_ _) | (with_reducible refine Kd.C_drew ?_)));(case side2 => exact (Kd.R_reads' HO111.out).2.1);rintro e w' ⟨rfl,⟨nd,rfl⟩⟩;refine ⟨_,rfl,?_⟩))
  go_ret
  exact ⟨by first | rfl | (simp [errW_none,errW_some] <;> rfl) | (simp [*,errW_none,errW_some] <;> rfl),by repeat (first | (with_reducible first | exact HB.out | apply below_alloc | apply pw_below_drewN | apply below_drew1) | exact HB.out)⟩
end Go.Proofs.Ytnmmdeonkpfccaa.Pr
namespace Go.Proofs.Ytnmmdeonkpfccaa.Pr
open Go.RowKit Go.Proofs.YtnmmdeonkpfccaaW.PrintWords Go.Proofs.YtnmmdeonkpfccaaW.PrintLast Go.Proofs.YtnmmdeonkpfccaaW.PrintMore
attribute [local go_sem] max2_int min2_int max_two min_two max_three min_three max_four min_four
set_option linter.unusedVariables false
set_option linter.unusedSimpArgs false
def metrolablaw53_right.f (k : Nat) (l0 : List (S51)) : Option (Bool):=if (l0.length : Int) ≤ 16 then ((metrolablaw53_few.f k l0 (⟨#[]⟩ : ByteArray)).bind fun t323 => (if t323 = true then ((metrolablaw53_own.f k l0).bind fun t324 => ((metrolabref53_Check.f k t324).bind fun t327 => (some (t327 == 0)))) else (some false))) else (some false)
set_option maxHeartbeats 8000000 in
set_option maxRecDepth 100000 in
theorem metrolablaw53_right.calls (k : Nat) (A0 : Option Addr) (c0 : Nat) (l0 : List (S51)) (r : Bool) (w : World) (hr0 : Kd.C k51 w A0 l0.length l0) (hc0 : l0.length ≤ c0) (h : metrolablaw53_right.f k l0 = some r) :
  Calls Try.prog 28 #[.slice A0 l0.length c0] w fun e w' => e = .returned (.bool r) ∧ Below w.heap.size w w':=by
 have HR0:=Aside0.mk hr0
 have HC0:=Aside0.mk hc0
 clear hr0 hc0
 have HB:=Aside0.mk (Below.refl w.heap.size w)
 have H : (if (l0.length : Int) ≤ 16 then ((metrolablaw53_few.f k l0 (⟨#[]⟩ : ByteArray)).bind fun t323 => (if t323 = true then ((metrolablaw53_own.f k l0).bind fun t324 => ((metrolabref53_Check.f k t324).bind fun t327 => (some (t327 == 0)))) else (some false))) else (some false)) = some r:=h
 clear h
 by_cases c2 : (l0.length : Int) ≤ 16
 ·rw [if_pos c2] at H
  have c2b0 : decide ((l0.length : Int) ≤ 16) = true:=decide_eq_true c2
  have c2b1 : decide (l0.length ≤ 16) = true:=decide_eq_true (by omega)
  clear c2
  replace H:=Option.bind_eq_some_iff.mp H
  obtain ⟨t323,A30,H⟩:=H
  replace H : (if t323 = true then ((metrolablaw53_own.f k l0).bind fun t324 => ((metrolabref53_Check.f k t324).bind fun t327 => (some (t327 == 0)))) else (some false)) = some r:=H
  have A3:=Aside0.mk A30
  clear A30
  by_cases c4 : t323 = true
  ·subst c4
   have H1 : ((metrolablaw53_own.f k l0).bind fun t324 => ((metrolabref53_Check.f k t324).bind fun t327 => (some (t327 == 0)))) = some r:=by rw [if_pos rfl] at H;exact H
   clear H
   have H:=H1
   clear H1
   replace H:=Option.bind_eq_some_iff.mp H
   obtain ⟨t324,A50,H⟩:=H
   replace H : ((metrolabref53_Check.f k t324).bind fun t327 => (some (t327 == 0))) = some r:=H
   have A5:=Aside0.mk A50
   clear A50
   replace H:=Option.bind_eq_some_iff.mp H
   obtain ⟨t327,A60,H⟩:=H
   replace H : (some (t327 == 0)) = some r:=H
   have A6:=Aside0.mk A60
   clear A60
   obtain rfl:=Option.some.inj H
   go_enter Try.func28,Try.ntmps28
   go_wp2_with (first | (go_at_call 9;(with_reducible refine (metrolablaw53_few.calls k _ _ l0 (⟨#[]⟩ : ByteArray) true _ ?side1 ?side2 A3.out).mono ?_);(case side1 => repeat (first | exact HR0.out | (with_reducible refine Kd.C_alloc ?_ _) | (with_reducible refine Kd.C_drewN ?_ _) | (with_reducible refine Kd.C_drew ?_)));(case side2 => exact HC0.out);rintro e w7 ⟨rfl,hb⟩;have n0_:=Aside0.mk (below_step (by repeat (first | (with_reducible first | exact HB.out | apply below_alloc | apply pw_below_drewN | apply below_drew1) | exact HB.out)) hb);clear HB;have HB:=n0_;clear n0_;(try clear hb);(try clear hb2);(try clear hk);(try clear hi)) | (go_at_call 13;(with_reducible refine (metrolablaw53_own.calls k _ _ l0 t324 _ ?side1 ?side2 A5.out).mono ?_);(case side1 => repeat (first | exact (Kd.C_below HR0.out HB.out) | (with_reducible refine Kd.C_alloc ?_ _) | (with_reducible refine Kd.C_drewN ?_ _) | (with_reducible refine Kd.C_drew ?_)));(case side2 => exact HC0.out);rintro e w8 ⟨v325,rfl,ho0,hb⟩;have n0_:=Aside0.mk (Kd.R_lower ho0 (below_size (by repeat (first | (with_reducible first | exact HB.out | apply below_alloc | apply pw_below_drewN | apply below_drew1) | exact HB.out))));have n1_:=Aside0.mk (below_step (by repeat (first | (with_reducible first | exact HB.out | apply below_alloc | apply pw_below_drewN | apply below_drew1) | exact HB.out)) hb);clear HB;have HO326:=n0_;have HB:=n1_;clear n0_ n1_;(try clear hb);(try clear hb2);(try clear hk);(try clear hi);(try clear ho0);obtain ⟨Ao9,co9,eo9⟩:=Kd.R_slice HO326.out;subst eo9) | (go_at_call 17;(with_reducible refine (metrolabref53_Check.calls k _ _ t324 t327 _ ?side1 ?side2 A6.out).mono ?_);(case side1 => repeat (first | exact (Kd.R_reads' HO326.out).2.2 | (with_reducible refine Kd.C_alloc ?_ _) | (with_reducible refine Kd.C_drewN ?_ _) | (with_reducible refine Kd.C_drew ?_)));(case side2 => exact (Kd.R_reads' HO326.out).2.1);rintro e w10 ⟨rfl,hb⟩;have n0_:=Aside0.mk (Kd.R_below (by (with_reducible repeat (first | apply Kd.R_alloc | apply Kd.R_drewN | apply Kd.R_drew));exact HO326.out) hb);have n1_:=Aside0.mk (below_step (by repeat (first | (with_reducible first | exact HB.out | apply below_alloc | apply pw_below_drewN | apply below_drew1) | exact HB.out)) hb);clear HO326;clear HB;have HO326:=n0_;have HB:=n1_;clear n0_ n1_;(try clear hb);(try clear hb2);(try clear hk);(try clear hi)))
   go_ret
   exact ⟨by first | rfl | (simp [errW_none,errW_some] <;> rfl) | (simp [*,errW_none,errW_some] <;> rfl),by repeat (first | (with_reducible first | exact HB.out | apply below_alloc | apply pw_below_drewN | apply below_drew1) | exact HB.out)⟩
  ·replace c4:=Bool.eq_false_iff.mpr c4
   subst c4
   have H1 : (some false) = some r:=by rw [if_neg (show ¬ (false = true) by decide)] at H;exact H
   clear H
   have H:=H1
   clear H1
   obtain rfl:=Option.some.inj H
   go_enter Try.func28,Try.ntmps28
   go_wp2_with (first | (go_at_call 9;(with_reducible refine (metrolablaw53_few.calls k _ _ l0 (⟨#[]⟩ : ByteArray) false _ ?side1 ?side2 A3.out).mono ?_);(case side1 => repeat (first | exact HR0.out | (with_reducible refine Kd.C_alloc ?_ _) | (with_reducible refine Kd.C_drewN ?_ _) | (with_reducible refine Kd.C_drew ?_)));(case side2 => exact HC0.out);rintro e w11 ⟨rfl,hb⟩;have n0_:=Aside0.mk (below_step (by repeat (first | (with_reducible first | exact HB.out | apply below_alloc | apply pw_below_drewN | apply below_drew1) | exact HB.out)) hb);clear HB;have HB:=n0_;clear n0_;(try clear hb);(try clear hb2);(try clear hk);(try clear hi)))
   go_ret
   exact ⟨by first | rfl | (simp [errW_none,errW_some] <;> rfl) | (simp [*,errW_none,errW_some] <;> rfl),by repeat (first | (with_reducible first | exact HB.out | apply below_alloc | apply pw_below_drewN | apply below_drew1) | exact HB.out)⟩
 ·rw [if_neg c2] at H
  have c2b0 : decide ((l0.length : Int) ≤ 16) = false:=decide_eq_false c2
  have c2b1 : decide (l0.length ≤ 16) = false:=decide_eq_false (by omega)
  clear c2
  obtain rfl:=Option.some.inj H
  go_enter Try.func28,Try.ntmps28
  go_wp2
  go_ret
  exact ⟨by first | rfl | (simp [errW_none,errW_some] <;> rfl) | (simp [*,errW_none,errW_some] <;> rfl),by repeat (first | (with_reducible first | exact HB.out | apply below_alloc | apply pw_below_drewN | apply below_drew1) | exact HB.out)⟩
end Go.Proofs.Ytnmmdeonkpfccaa.Pr
namespace Go.Proofs.Ytnmmdeonkpfccaa.Pr
open Go.RowKit Go.Proofs.YtnmmdeonkpfccaaW.PrintWords Go.Proofs.YtnmmdeonkpfccaaW.PrintLast Go.Proofs.YtnmmdeonkpfccaaW.PrintMore
attribute [local go_sem] max2_int min2_int max_two min_two max_three min_three max_four min_four
set_option linter.unusedVariables false
set_option linter.unusedSimpArgs false
def slices_Equal_int_int.l0 : Nat → List Int → List Int → Int → Int → Option (Bool)
 | 0,_,_,_,_ => none
 | k + 1,x0,x1,x12,x13 => if x13 < x12 then (if 0 ≤ x13 then (if x13 < (x0.length : Int) then (if x13 < (x1.length : Int) then (if (rd x0 x13) = (rd x1 x13) then (slices_Equal_int_int.l0 k x0 x1 x12 (wrap64 (x13 + 1))) else (some false)) else (none)) else (none)) else (none)) else (some true)
def slices_Equal_int_int.f (k : Nat) (l0 : List Int) (l1 : List Int) : Option (Bool):=if (l0.length : Int) = (l1.length : Int) then (slices_Equal_int_int.l0 k l0 l1 (l0.length : Int) 0) else (some false)
set_option maxHeartbeats 8000000 in
set_option maxRecDepth 100000 in
theorem slices_Equal_int_int.calls (k : Nat) (A0 : Option Addr) (c0 : Nat) (l0 : List Int) (A1 : Option Addr) (c1 : Nat) (l1 : List Int) (r : Bool) (w : World) (hr0 : Kd.C (Kd.int .i64) w A0 l0.length l0) (hc0 : l0.length ≤ c0) (hr1 : Kd.C (Kd.int .i64) w A1 l1.length l1) (hc1 : l1.length ≤ c1) (h : slices_Equal_int_int.f k l0 l1 = some r) :
  Calls Try.prog 18 #[.slice A0 l0.length c0,.slice A1 l1.length c1] w fun e w' => e = .returned (.bool r) ∧ Drawn0 w w':=by
 have HR0:=Aside0.mk hr0
 have HC0:=Aside0.mk hc0
 clear hr0 hc0
 have HR1:=Aside0.mk hr1
 have HC1:=Aside0.mk hc1
 clear hr1 hc1
 have H : (if (l0.length : Int) = (l1.length : Int) then (slices_Equal_int_int.l0 k l0 l1 (l0.length : Int) 0) else (some false)) = some r:=h
 clear h
 by_cases c3 : (l0.length : Int) = (l1.length : Int)
 ·rw [if_pos c3] at H
  have c3b0 : ((l0.length : Int) == (l1.length : Int)) = true:=beq_iff_eq.mpr c3
  have c3b1 : ((l0.length : Int) != (l1.length : Int)) = false:=bne_eq_false_iff_eq.mpr c3
  have c3b2 : (l0.length == l1.length) = true:=by first | simpa using c3 | (simp at c3 ⊢;omega)
  clear c3
  have H':=Aside0.mk H
  clear H
  go_enter Try.func18,Try.ntmps18
  go_wp2
  repeat (go_quiet (fail);try go_wp2)
  go_loopg [13] k (fun kq v13 w' => ∃ (x13_1 : Int),v13 = .int .i64 x13_1 ∧ Aside0 (slices_Equal_int_int.l0 kq l0 l1 (l0.length : Int) x13_1 = some r) ∧ Aside0 (kq ≤ k) ∧ Drawn0 w w')
  case atStart => exact ⟨(0),(by first | rfl | (simp;done) | (simp [*];done)),H',⟨Nat.le_refl _⟩,by repeat (first | exact Drawn0.refl _ | apply Drawn0.step)⟩
  case round =>
   clear H'
   try clear c1
   try clear p2
   try clear c3
   try clear c3b0
   try clear c3b1
   try clear c3b2
   obtain ⟨x13_1,rfl,HA,HK1,⟨m1,rfl⟩⟩:=hrel
   cases gk with
   | zero => exact absurd HA.out (by simp [slices_Equal_int_int.l0])
   | succ k1 =>
    have H:=HA.out
    clear HA
    simp only [slices_Equal_int_int.l0] at H
    by_cases c4 : x13_1 < (l0.length : Int)
    ·rw [if_pos c4] at H
     have c4b0 : decide (x13_1 < (l0.length : Int)) = true:=decide_eq_true c4
     clear c4
     by_cases c5 : 0 ≤ x13_1
     ·rw [if_pos c5] at H
      have c5b0 : decide (0 ≤ x13_1) = true:=decide_eq_true c5
      clear c5
      by_cases c6 : x13_1 < (l0.length : Int)
      ·rw [if_pos c6] at H
       have c6b0 : decide (x13_1 < (l0.length : Int)) = true:=decide_eq_true c6
       clear c6
       by_cases c7 : x13_1 < (l1.length : Int)
       ·rw [if_pos c7] at H
        have c7b0 : decide (x13_1 < (l1.length : Int)) = true:=decide_eq_true c7
        clear c7
        by_cases c8 : (rd l0 x13_1) = (rd l1 x13_1)
        ·rw [if_pos c8] at H
         have c8b0 : ((rd l0 x13_1) == (rd l1 x13_1)) = true:=beq_iff_eq.mpr c8
         have c8b1 : ((rd l0 x13_1) != (rd l1 x13_1)) = false:=bne_eq_false_iff_eq.mpr c8
         clear c8
         have H':=Aside0.mk H
         clear H
         have p192 : 0 ≤ (x13_1 : Int):=of_decide_eq_true (by first | (with_reducible assumption) | assumption)
         have q192 : x13_1 < (l0.length : Int):=of_decide_eq_true (by first | (with_reducible assumption) | assumption)
         obtain ⟨ad192,e192,hx192_0⟩:=Kd.at_int HR0.out x13_1 p192 q192
         cases e192
         replace p192:=eq_true p192
         replace q192:=eq_true q192
         have p193 : 0 ≤ (x13_1 : Int):=of_decide_eq_true (by first | (with_reducible assumption) | assumption)
         have q193 : x13_1 < (l1.length : Int):=of_decide_eq_true (by first | (with_reducible assumption) | assumption)
         obtain ⟨ad193,e193,hx193_0⟩:=Kd.at_int HR1.out x13_1 p193 q193
         cases e193
         replace p193:=eq_true p193
         replace q193:=eq_true q193
         go_wp2
         repeat (go_quiet (fail);try go_wp2)
         go_roundg k1
         case measure => have:=HK1.out;omega
         case rel => exact ⟨(wrap64 (x13_1 + 1)),(by first | rfl | (simp;done) | (simp [*];done)),H',⟨by have:=HK1.out;omega⟩,by repeat (first | exact Drawn0.refl _ | apply Drawn0.step)⟩
        ·rw [if_neg c8] at H
         have c8b0 : ((rd l0 x13_1) == (rd l1 x13_1)) = false:=beq_eq_false_iff_ne.mpr c8
         have c8b1 : ((rd l0 x13_1) != (rd l1 x13_1)) = true:=bne_iff_ne.mpr c8
         obtain rfl:=Option.some.inj H
         have p192 : 0 ≤ (x13_1 : Int):=of_decide_eq_true (by first | (with_reducible assumption) | assumption)
         have q192 : x13_1 < (l0.length : Int):=of_decide_eq_true (by first | (with_reducible assumption) | assumption)
         obtain ⟨ad192,e192,hx192_0⟩:=Kd.at_int HR0.out x13_1 p192 q192
         cases e192
         replace p192:=eq_true p192
         replace q192:=eq_true q192
         have p193 : 0 ≤ (x13_1 : Int):=of_decide_eq_true (by first | (with_reducible assumption) | assumption)
         have q193 : x13_1 < (l1.length : Int):=of_decide_eq_true (by first | (with_reducible assumption) | assumption)
         obtain ⟨ad193,e193,hx193_0⟩:=Kd.at_int HR1.out x13_1 p193 q193
         cases e193
         replace p193:=eq_true p193
         replace q193:=eq_true q193
         go_wp2
         repeat (go_quiet (fail);try go_wp2)
         go_ret
         exact ⟨by first | rfl | (simp;done) | (simp [*];done),by repeat (first | exact Drawn0.refl _ | apply Drawn0.step)⟩
       ·rw [if_neg c7] at H
        exact absurd H (by simp)
      ·rw [if_neg c6] at H
       exact absurd H (by simp)
     ·rw [if_neg c5] at H
      exact absurd H (by simp)
    ·rw [if_neg c4] at H
     have c4b0 : decide (x13_1 < (l0.length : Int)) = false:=decide_eq_false c4
     clear c4
     obtain rfl:=Option.some.inj H
     go_wp2
     repeat (go_quiet (fail);try go_wp2)
     go_ret
     exact ⟨by first | rfl | (simp;done) | (simp [*];done),by repeat (first | exact Drawn0.refl _ | apply Drawn0.step)⟩
 ·rw [if_neg c3] at H
  have c3b0 : ((l0.length : Int) == (l1.length : Int)) = false:=beq_eq_false_iff_ne.mpr c3
  have c3b1 : ((l0.length : Int) != (l1.length : Int)) = true:=bne_iff_ne.mpr c3
  have c3b2 : (l0.length == l1.length) = false:=by first | simpa using c3 | (simp at c3 ⊢;omega)
  obtain rfl:=Option.some.inj H
  go_enter Try.func18,Try.ntmps18
  go_wp2
  repeat (go_quiet (fail);try go_wp2)
  go_ret
  exact ⟨by first | rfl | (simp;done) | (simp [*];done),by repeat (first | exact Drawn0.refl _ | apply Drawn0.step)⟩
end Go.Proofs.Ytnmmdeonkpfccaa.Pr
namespace Go.Proofs.Ytnmmdeonkpfccaa.Pr
open Go.RowKit Go.Proofs.YtnmmdeonkpfccaaW.PrintWords Go.Proofs.YtnmmdeonkpfccaaW.PrintLast Go.Proofs.YtnmmdeonkpfccaaW.PrintMore
attribute [local go_sem] max2_int min2_int max_two min_two max_three min_three max_four min_four
set_option linter.unusedVariables false
set_option linter.unusedSimpArgs false
def slices_Equal_string_string.l0 : Nat → List ByteArray → List ByteArray → Int → Int → Option (Bool)
 | 0,_,_,_,_ => none
 | k + 1,x0,x1,x12,x13 => if x13 < x12 then (if 0 ≤ x13 then (if x13 < (x0.length : Int) then (if x13 < (x1.length : Int) then (if (rdOf ByteArray.empty x0 x13).toList = (rdOf ByteArray.empty x1 x13).toList then (slices_Equal_string_string.l0 k x0 x1 x12 (wrap64 (x13 + 1))) else (some false)) else (none)) else (none)) else (none)) else (some true)
def slices_Equal_string_string.f (k : Nat) (l0 : List ByteArray) (l1 : List ByteArray) : Option (Bool):=if (l0.length : Int) = (l1.length : Int) then (slices_Equal_string_string.l0 k l0 l1 (l0.length : Int) 0) else (some false)
set_option maxHeartbeats 8000000 in
set_option maxRecDepth 100000 in
theorem slices_Equal_string_string.calls (k : Nat) (A0 : Option Addr) (c0 : Nat) (l0 : List ByteArray) (A1 : Option Addr) (c1 : Nat) (l1 : List ByteArray) (r : Bool) (w : World) (hr0 : Kd.C Kd.string w A0 l0.length l0) (hc0 : l0.length ≤ c0) (hr1 : Kd.C Kd.string w A1 l1.length l1) (hc1 : l1.length ≤ c1) (h : slices_Equal_string_string.f k l0 l1 = some r) :
  Calls Try.prog 19 #[.slice A0 l0.length c0,.slice A1 l1.length c1] w fun e w' => e = .returned (.bool r) ∧ Drawn0 w w':=by
 have HR0:=Aside0.mk hr0
 have HC0:=Aside0.mk hc0
 clear hr0 hc0
 have HR1:=Aside0.mk hr1
 have HC1:=Aside0.mk hc1
 clear hr1 hc1
 have H : (if (l0.length : Int) = (l1.length : Int) then (slices_Equal_string_string.l0 k l0 l1 (l0.length : Int) 0) else (some false)) = some r:=h
 clear h
 by_cases c3 : (l0.length : Int) = (l1.length : Int)
 ·rw [if_pos c3] at H
  have c3b0 : ((l0.length : Int) == (l1.length : Int)) = true:=beq_iff_eq.mpr c3
  have c3b1 : ((l0.length : Int) != (l1.length : Int)) = false:=bne_eq_false_iff_eq.mpr c3
  have c3b2 : (l0.length == l1.length) = true:=by first | simpa using c3 | (simp at c3 ⊢;omega)
  clear c3
  have H':=Aside0.mk H
  clear H
  go_enter Try.func19,Try.ntmps19
  go_wp2
  repeat (go_quiet (fail);try go_wp2)
  go_loopg [13] k (fun kq v13 w' => ∃ (x13_1 : Int),v13 = .int .i64 x13_1 ∧ Aside0 (slices_Equal_string_string.l0 kq l0 l1 (l0.length : Int) x13_1 = some r) ∧ Aside0 (kq ≤ k) ∧ Drawn0 w w')
  case atStart => exact ⟨(0),(by first | rfl | (simp;done) | (simp [*];done)),H',⟨Nat.le_refl _⟩,by repeat (first | exact Drawn0.refl _ | apply Drawn0.step)⟩
  case round =>
   clear H'
   try clear c1
   try clear p2
   try clear c3
   try clear c3b0
   try clear c3b1
   try clear c3b2
   obtain ⟨x13_1,rfl,HA,HK1,⟨m1,rfl⟩⟩:=hrel
   cases gk with
   | zero => exact absurd HA.out (by simp [slices_Equal_string_string.l0])
   | succ k1 =>
    have H:=HA.out
    clear HA
    simp only [slices_Equal_string_string.l0] at H
    by_cases c4 : x13_1 < (l0.length : Int)
    ·rw [if_pos c4] at H
     have c4b0 : decide (x13_1 < (l0.length : Int)) = true:=decide_eq_true c4
     clear c4
     by_cases c5 : 0 ≤ x13_1
     ·rw [if_pos c5] at H
      have c5b0 : decide (0 ≤ x13_1) = true:=decide_eq_true c5
      clear c5
      by_cases c6 : x13_1 < (l0.length : Int)
      ·rw [if_pos c6] at H
       have c6b0 : decide (x13_1 < (l0.length : Int)) = true:=decide_eq_true c6
       clear c6
       by_cases c7 : x13_1 < (l1.length : Int)
       ·rw [if_pos c7] at H
        have c7b0 : decide (x13_1 < (l1.length : Int)) = true:=decide_eq_true c7
        clear c7
        by_cases c8 : (rdOf ByteArray.empty l0 x13_1).toList = (rdOf ByteArray.empty l1 x13_1).toList
        ·rw [if_pos c8] at H
         have c8b0 : ((rdOf ByteArray.empty l0 x13_1).toList == (rdOf ByteArray.empty l1 x13_1).toList) = true:=beq_iff_eq.mpr c8
         have c8b1 : ((rdOf ByteArray.empty l0 x13_1).toList != (rdOf ByteArray.empty l1 x13_1).toList) = false:=bne_eq_false_iff_eq.mpr c8
         clear c8
         have H':=Aside0.mk H
         clear H
         have p194 : 0 ≤ (x13_1 : Int):=of_decide_eq_true (by first | (with_reducible assumption) | assumption)
         have q194 : x13_1 < (l0.length : Int):=of_decide_eq_true (by first | (with_reducible assumption) | assumption)
         obtain ⟨ad194,e194,hx194_0⟩:=Kd.at_string HR0.out x13_1 p194 q194
         cases e194
         replace p194:=eq_true p194
         replace q194:=eq_true q194
         have p195 : 0 ≤ (x13_1 : Int):=of_decide_eq_true (by first | (with_reducible assumption) | assumption)
         have q195 : x13_1 < (l1.length : Int):=of_decide_eq_true (by first | (with_reducible assumption) | assumption)
         obtain ⟨ad195,e195,hx195_0⟩:=Kd.at_string HR1.out x13_1 p195 q195
         cases e195
         replace p195:=eq_true p195
         replace q195:=eq_true q195
         go_wp2
         repeat (go_quiet (fail);try go_wp2)
         go_roundg k1
         case measure => have:=HK1.out;omega
         case rel => exact ⟨(wrap64 (x13_1 + 1)),(by first | rfl | (simp;done) | (simp [*];done)),H',⟨by have:=HK1.out;omega⟩,by repeat (first | exact Drawn0.refl _ | apply Drawn0.step)⟩
        ·rw [if_neg c8] at H
         have c8b0 : ((rdOf ByteArray.empty l0 x13_1).toList == (rdOf ByteArray.empty l1 x13_1).toList) = false:=beq_eq_false_iff_ne.mpr c8
         have c8b1 : ((rdOf ByteArray.empty l0 x13_1).toList != (rdOf ByteArray.empty l1 x13_1).toList) = true:=bne_iff_ne.mpr c8
         obtain rfl:=Option.some.inj H
         have p194 : 0 ≤ (x13_1 : Int):=of_decide_eq_true (by first | (with_reducible assumption) | assumption)
         have q194 : x13_1 < (l0.length : Int):=of_decide_eq_true (by first | (with_reducible assumption) | assumption)
         obtain ⟨ad194,e194,hx194_0⟩:=Kd.at_string HR0.out x13_1 p194 q194
         cases e194
         replace p194:=eq_true p194
         replace q194:=eq_true q194
         have p195 : 0 ≤ (x13_1 : Int):=of_decide_eq_true (by first | (with_reducible assumption) | assumption)
         have q195 : x13_1 < (l1.length : Int):=of_decide_eq_true (by first | (with_reducible assumption) | assumption)
         obtain ⟨ad195,e195,hx195_0⟩:=Kd.at_string HR1.out x13_1 p195 q195
         cases e195
         replace p195:=eq_true p195
         replace q195:=eq_true q195
         go_wp2
         repeat (go_quiet (fail);try go_wp2)
         go_ret
         exact ⟨by first | rfl | (simp;done) | (simp [*];done),by repeat (first | exact Drawn0.refl _ | apply Drawn0.step)⟩
       ·rw [if_neg c7] at H
        exact absurd H (by simp)
      ·rw [if_neg c6] at H
       exact absurd H (by simp)
     ·rw [if_neg c5] at H
      exact absurd H (by simp)
    ·rw [if_neg c4] at H
     have c4b0 : decide (x13_1 < (l0.length : Int)) = false:=decide_eq_false c4
     clear c4
     obtain rfl:=Option.some.inj H
     go_wp2
     repeat (go_quiet (fail);try go_wp2)
     go_ret
     exact ⟨by first | rfl | (simp;done) | (simp [*];done),by repeat (first | exact Drawn0.refl _ | apply Drawn0.step)⟩
 ·rw [if_neg c3] at H
  have c3b0 : ((l0.length : Int) == (l1.length : Int)) = false:=beq_eq_false_iff_ne.mpr c3
  have c3b1 : ((l0.length : Int) != (l1.length : Int)) = true:=bne_iff_ne.mpr c3
  have c3b2 : (l0.length == l1.length) = false:=by first | simpa using c3 | (simp at c3 ⊢;omega)
  obtain rfl:=Option.some.inj H
  go_enter Try.func19,Try.ntmps19
  go_wp2
  repeat (go_quiet (fail);try go_wp2)
  go_ret
  exact ⟨by first | rfl | (simp;done) | (simp [*];done),by repeat (first | exact Drawn0.refl _ | apply Drawn0.step)⟩
end Go.Proofs.Ytnmmdeonkpfccaa.Pr
namespace Go.Proofs.Ytnmmdeonkpfccaa.Pr
open Go.RowKit Go.Proofs.YtnmmdeonkpfccaaW.PrintWords Go.Proofs.YtnmmdeonkpfccaaW.PrintLast Go.Proofs.YtnmmdeonkpfccaaW.PrintMore
attribute [local go_sem] max2_int min2_int max_two min_two max_three min_three max_four min_four
set_option linter.unusedVariables false
set_option linter.unusedSimpArgs false
def metrolablaw53_Seven.f  : Option ((List (S51))):=some (([(⟨0,(⟨#[103]⟩ : ByteArray),(⟨#[112,49]⟩ : ByteArray),(⟨#[88]⟩ : ByteArray)⟩ : S51),(⟨0,(⟨#[104]⟩ : ByteArray),(⟨#[112,50]⟩ : ByteArray),(⟨#[88]⟩ : ByteArray)⟩ : S51),(⟨1,(⟨#[103]⟩ : ByteArray),(⟨#[]⟩ : ByteArray),(⟨#[]⟩ : ByteArray)⟩ : S51),(⟨0,(⟨#[103]⟩ : ByteArray),(⟨#[112,49]⟩ : ByteArray),(⟨#[88]⟩ : ByteArray)⟩ : S51),(⟨0,(⟨#[103]⟩ : ByteArray),(⟨#[112,51]⟩ : ByteArray),(⟨#[89]⟩ : ByteArray)⟩ : S51),(⟨2,(⟨#[103]⟩ : ByteArray),(⟨#[]⟩ : ByteArray),(⟨#[]⟩ : ByteArray)⟩ : S51),(⟨2,(⟨#[104]⟩ : ByteArray),(⟨#[]⟩ : ByteArray),(⟨#[]⟩ : ByteArray)⟩ : S51)] : List (S51)))
set_option maxHeartbeats 8000000 in
set_option maxRecDepth 100000 in
theorem metrolablaw53_Seven.calls  (r : List (S51)) (w : World) (h : metrolablaw53_Seven.f  = some r) :
  Calls Try.prog 37 #[] w fun e w' => ∃ v0_ : Value,e = .returned (v0_) ∧ Kd.R k51 51 w' w.heap.size (fun _ => True) v0_ r ∧ Below w.heap.size w w':=by
 have hu51:=Try.underlying51
 have HB:=Aside0.mk (Below.refl w.heap.size w)
 have H : (some (([(⟨0,(⟨#[103]⟩ : ByteArray),(⟨#[112,49]⟩ : ByteArray),(⟨#[88]⟩ : ByteArray)⟩ : S51),(⟨0,(⟨#[104]⟩ : ByteArray),(⟨#[112,50]⟩ : ByteArray),(⟨#[88]⟩ : ByteArray)⟩ : S51),(⟨1,(⟨#[103]⟩ : ByteArray),(⟨#[]⟩ : ByteArray),(⟨#[]⟩ : ByteArray)⟩ : S51),(⟨0,(⟨#[103]⟩ : ByteArray),(⟨#[112,49]⟩ : ByteArray),(⟨#[88]⟩ : ByteArray)⟩ : S51),(⟨0,(⟨#[103]⟩ : ByteArray),(⟨#[112,51]⟩ : ByteArray),(⟨#[89]⟩ : ByteArray)⟩ : S51),(⟨2,(⟨#[103]⟩ : ByteArray),(⟨#[]⟩ : ByteArray),(⟨#[]⟩ : ByteArray)⟩ : S51),(⟨2,(⟨#[104]⟩ : ByteArray),(⟨#[]⟩ : ByteArray),(⟨#[]⟩ : ByteArray)⟩ : S51)] : List (S51)))) = some r:=h
 clear h
 obtain ⟨y432,hy432⟩ : ∃ y_ : List (S51),y_ = (([(⟨0,(⟨#[103]⟩ : ByteArray),(⟨#[112,49]⟩ : ByteArray),(⟨#[88]⟩ : ByteArray)⟩ : S51),(⟨0,(⟨#[104]⟩ : ByteArray),(⟨#[112,50]⟩ : ByteArray),(⟨#[88]⟩ : ByteArray)⟩ : S51),(⟨1,(⟨#[103]⟩ : ByteArray),(⟨#[]⟩ : ByteArray),(⟨#[]⟩ : ByteArray)⟩ : S51),(⟨0,(⟨#[103]⟩ : ByteArray),(⟨#[112,49]⟩ : ByteArray),(⟨#[88]⟩ : ByteArray)⟩ : S51),(⟨0,(⟨#[103]⟩ : ByteArray),(⟨#[112,51]⟩ : ByteArray),(⟨#[89]⟩ : ByteArray)⟩ : S51),(⟨2,(⟨#[103]⟩ : ByteArray),(⟨#[]⟩ : ByteArray),(⟨#[]⟩ : ByteArray)⟩ : S51),(⟨2,(⟨#[104]⟩ : ByteArray),(⟨#[]⟩ : ByteArray),(⟨#[]⟩ : ByteArray)⟩ : S51)] : List (S51))):=⟨_,rfl⟩
 replace H : (some y432) = some r:=by first | (rw [hy432];with_reducible exact H) | (have H2_:=(Option.bind_some _ _).symm.trans H;rw [hy432];with_reducible exact H2_) | (have H2_:=(Option.bind_some _ _).symm.trans H;with_reducible exact H2_) | with_reducible exact H | (rw [hy432];exact H) | exact H
 have Ny432:=Aside0.mk hy432
 clear hy432
 obtain rfl:=Option.some.inj H
 go_enter Try.func37,Try.ntmps37
 go_wp2_with (first | ((with_reducible refine gate_dst (N:=8) rfl ?_);(try refine wpList_unguard rfl rfl ?_);refine Kd.R_lit k51 _ 51 ?hg (N:=8) ?hd (xs:=([(⟨0,(⟨#[103]⟩ : ByteArray),(⟨#[112,49]⟩ : ByteArray),(⟨#[88]⟩ : ByteArray)⟩ : S51),(⟨0,(⟨#[104]⟩ : ByteArray),(⟨#[112,50]⟩ : ByteArray),(⟨#[88]⟩ : ByteArray)⟩ : S51),(⟨1,(⟨#[103]⟩ : ByteArray),(⟨#[]⟩ : ByteArray),(⟨#[]⟩ : ByteArray)⟩ : S51),(⟨0,(⟨#[103]⟩ : ByteArray),(⟨#[112,49]⟩ : ByteArray),(⟨#[88]⟩ : ByteArray)⟩ : S51),(⟨0,(⟨#[103]⟩ : ByteArray),(⟨#[112,51]⟩ : ByteArray),(⟨#[89]⟩ : ByteArray)⟩ : S51),(⟨2,(⟨#[103]⟩ : ByteArray),(⟨#[]⟩ : ByteArray),(⟨#[]⟩ : ByteArray)⟩ : S51),(⟨2,(⟨#[104]⟩ : ByteArray),(⟨#[]⟩ : ByteArray),(⟨#[]⟩ : ByteArray)⟩ : S51)] : List (S51))) (inner:=[.int .i64 0,.string (⟨#[103]⟩ : ByteArray),.string (⟨#[112,49]⟩ : ByteArray),.string (⟨#[88]⟩ : ByteArray),.int .i64 0,.string (⟨#[104]⟩ : ByteArray),.string (⟨#[112,50]⟩ : ByteArray),.string (⟨#[88]⟩ : ByteArray),.int .i64 1,.string (⟨#[103]⟩ : ByteArray),.string (⟨#[]⟩ : ByteArray),.string (⟨#[]⟩ : ByteArray),.int .i64 0,.string (⟨#[103]⟩ : ByteArray),.string (⟨#[112,49]⟩ : ByteArray),.string (⟨#[88]⟩ : ByteArray),.int .i64 0,.string (⟨#[103]⟩ : ByteArray),.string (⟨#[112,51]⟩ : ByteArray),.string (⟨#[89]⟩ : ByteArray),.int .i64 2,.string (⟨#[103]⟩ : ByteArray),.string (⟨#[]⟩ : ByteArray),.string (⟨#[]⟩ : ByteArray),.int .i64 2,.string (⟨#[104]⟩ : ByteArray),.string (⟨#[]⟩ : ByteArray),.string (⟨#[]⟩ : ByteArray)]) (ok:=fun _ => True) (okp:=fun _ => True) ?hr ?hp (fun _ hk => hk) trivial (Below.refl _ _) (Nat.le_refl _) (by simp) ?_;(case hd => rfl);(case hg => rfl);(case hr => first | (go_simp;done) | (go_simp;rfl));(case hp => exact (Reps.c4 (show Kd.M k51 _ _ _ (⟨0,(⟨#[103]⟩ : ByteArray),(⟨#[112,49]⟩ : ByteArray),(⟨#[88]⟩ : ByteArray)⟩ : S51) [.int .i64 0,.string (⟨#[103]⟩ : ByteArray),.string (⟨#[112,49]⟩ : ByteArray),.string (⟨#[88]⟩ : ByteArray)] from (k51_mkM _ _ _ (⟨0,(⟨#[103]⟩ : ByteArray),(⟨#[112,49]⟩ : ByteArray),(⟨#[88]⟩ : ByteArray)⟩ : S51) )) (Reps.c4 (show Kd.M k51 _ _ _ (⟨0,(⟨#[104]⟩ : ByteArray),(⟨#[112,50]⟩ : ByteArray),(⟨#[88]⟩ : ByteArray)⟩ : S51) [.int .i64 0,.string (⟨#[104]⟩ : ByteArray),.string (⟨#[112,50]⟩ : ByteArray),.string (⟨#[88]⟩ : ByteArray)] from (k51_mkM _ _ _ (⟨0,(⟨#[104]⟩ : ByteArray),(⟨#[112,50]⟩ : ByteArray),(⟨#[88]⟩ : ByteArray)⟩ : S51) )) (Reps.c4 (show Kd.M k51 _ _ _ (⟨1,(⟨#[103]⟩ : ByteArray),(⟨#[]⟩ : ByteArray),(⟨#[]⟩ : ByteArray)⟩ : S51) [.int .i64 1,.string (⟨#[103]⟩ : ByteArray),.string (⟨#[]⟩ : ByteArray),.string (⟨#[]⟩ : ByteArray)] from (k51_mkM _ _ _ (⟨1,(⟨#[103]⟩ : ByteArray),(⟨#[]⟩ : ByteArray),(⟨#[]⟩ : ByteArray)⟩ : S51) )) (Reps.c4 (show Kd.M k51 _ _ _ (⟨0,(⟨#[103]⟩ : ByteArray),(⟨#[112,49]⟩ : ByteArray),(⟨#[88]⟩ : ByteArray)⟩ : S51) [.int .i64 0,.string (⟨#[103]⟩ : ByteArray),.string (⟨#[112,49]⟩ : ByteArray),.string (⟨#[88]⟩ : ByteArray)] from (k51_mkM _ _ _ (⟨0,(⟨#[103]⟩ : ByteArray),(⟨#[112,49]⟩ : ByteArray),(⟨#[88]⟩ : ByteArray)⟩ : S51) )) (Reps.c4 (show Kd.M k51 _ _ _ (⟨0,(⟨#[103]⟩ : ByteArray),(⟨#[112,51]⟩ : ByteArray),(⟨#[89]⟩ : ByteArray)⟩ : S51) [.int .i64 0,.string (⟨#[103]⟩ : ByteArray),.string (⟨#[112,51]⟩ : ByteArray),.string (⟨#[89]⟩ : ByteArray)] from (k51_mkM _ _ _ (⟨0,(⟨#[103]⟩ : ByteArray),(⟨#[112,51]⟩ : ByteArray),(⟨#[89]⟩ : ByteArray)⟩ : S51) )) (Reps.c4 (show Kd.M k51 _ _ _ (⟨2,(⟨#[103]⟩ : ByteArray),(⟨#[]⟩ : ByteArray),(⟨#[]⟩ : ByteArray)⟩ : S51) [.int .i64 2,.string (⟨#[103]⟩ : ByteArray),.string (⟨#[]⟩ : ByteArray),.string (⟨#[]⟩ : ByteArray)] from (k51_mkM _ _ _ (⟨2,(⟨#[103]⟩ : ByteArray),(⟨#[]⟩ : ByteArray),(⟨#[]⟩ : ByteArray)⟩ : S51) )) (Reps.c4 (show Kd.M k51 _ _ _ (⟨2,(⟨#[104]⟩ : ByteArray),(⟨#[]⟩ : ByteArray),(⟨#[]⟩ : ByteArray)⟩ : S51) [.int .i64 2,.string (⟨#[104]⟩ : ByteArray),.string (⟨#[]⟩ : ByteArray),.string (⟨#[]⟩ : ByteArray)] from (k51_mkM _ _ _ (⟨2,(⟨#[104]⟩ : ByteArray),(⟨#[]⟩ : ByteArray),(⟨#[]⟩ : ByteArray)⟩ : S51) )) (Reps.none _ _)))))))));intro v433 w1 ho2 hb hg_ hnew_;clear hg_ hnew_;(first | rw [← Ny432.out] at ho2 | (simp only [Int.reduceToNat] at ho2;rw [← Ny432.out] at ho2));have n0_:=Aside0.mk (Kd.R_lower ho2 (below_size (by repeat (first | (with_reducible first | exact HB.out | apply below_alloc | apply pw_below_drewN | apply below_drew1) | exact HB.out))));have n1_:=Aside0.mk (below_step (by repeat (first | (with_reducible first | exact HB.out | apply below_alloc | apply pw_below_drewN | apply below_drew1) | exact HB.out)) hb);clear HB;have HO434:=n0_;have HB:=n1_;clear n0_ n1_;clear hb ho2))
 go_ret
 exact ⟨_,by first | rfl | (simp [errW_none,errW_some] <;> rfl) | (simp [*,errW_none,errW_some] <;> rfl),by (with_reducible repeat (first | apply Kd.R_alloc | apply Kd.R_drewN | apply Kd.R_drew));exact HO434.out,by repeat (first | (with_reducible first | exact HB.out | apply below_alloc | apply pw_below_drewN | apply below_drew1) | exact HB.out)⟩
end Go.Proofs.Ytnmmdeonkpfccaa.Pr
set_option linter.unusedVariables false
namespace Go.Proofs.Ytnmmdeonkpfccaa.Pr
open Go.RowKit Go.Shelf Go.Maps Go.Proofs.YtnmmdeonkpfccaaW.PrintWords Go.Proofs.YtnmmdeonkpfccaaW.PrintLast Go.Proofs.YtnmmdeonkpfccaaW.PrintMore
open Go.Proofs.Ytnmmdeonkpfccaa.Rg
attribute [local go_sem] Oper.semAt_some
def reasK (l : List S51) (g : ByteArray) : Nat → Int × Int
 | 0 => (0,0)
 | k + 1 => if (evK l k).f0 = 0 ∧ (evK l k).f2.data.toList = g.data.toList ∧ (chkA l k).2 = 3 then ((l.length : Int) - 1 - k,(chkA l k).1) else reasK l g k
def reasonV (l : List S51) (g : ByteArray) : Int × Int × Int :=
 if checkV l ≠ 0 then (0,0,checkV l) else if nameL g.data.toList ≠ 0 then (0,0,nameL g.data.toList)
 else if l.any (measP g) = false then (0,0,6) else if g.data.toList ∉ recL l then (0,0,14) else ((reasK l g l.length).1,(reasK l g l.length).2,0)
def recall_Reason.f (l : List S51) (g : ByteArray) : Option (Int × Int × Int):=some (reasonV l g)
theorem results_cct {fn : Func} {p q u : Tmp} (h : fn.results = #[.cell p 3,.cell q 3,.tmp u]) (tmps : Array Value) (w : World) {ap aq : Addr} {vp vq : Value} (hp : tmps[p]?.getD undef = .pointer (some ap)) (hq : tmps[q]?.getD undef = .pointer (some aq))
  (h1 : w.cell? ap = some vp) (h2 : w.cell? aq = some vq) : (results fn tmps).run Try.prog w = .ok (.tuple #[vp,vq,tmps.getD u undef]) w:=by
 have e : ∀ {a : Addr} {v : Value},w.cell? a = some v → (loadVar 3 a).run Try.prog w = .ok v w:=by
  intro a v hc
  simp [loadVar,Try.isAgg3,Sem.run_bind,Result.andThen,go_sem,hc]
 simp only [results,h]
 simp [Sem.run_bind,Result.andThen,hp,hq,asAddr,e h1,e h2]
theorem two_cells {w1 : World} {n : Nat} {z2 z3 : Value} (u v : Value) (C2 : w1.heap[n + 2]? = some (.cells #[z2] 3)) (C3 : w1.heap[n + 3]? = some (.cells #[z3] 3)) :
  ((w1.setCell ⟨n + 1 + 1,0,none⟩ u).setCell ⟨n + 1 + 1 + 1,0,none⟩ v).heap[n + 2]? = some (.cells #[u] 3) ∧ ((w1.setCell ⟨n + 1 + 1,0,none⟩ u).setCell ⟨n + 1 + 1 + 1,0,none⟩ v).heap[n + 3]? = some (.cells #[v] 3):=by
 refine ⟨?_,?_⟩
 ·rw [Below.heap_setCell _ _ _ _ (show n + 2 ≠ n + 1 + 1 + 1 by omega)]
  exact blk_put C2 0 u rfl
 ·refine blk_put (cs:=#[z3]) ?_ 0 v rfl
  rw [Below.heap_setCell _ _ _ _ (show n + 1 + 1 + 1 ≠ n + 1 + 1 by omega)]
  exact C3
theorem reason_world (A0 : Option Addr) (c0 : Nat) (l0 : List S51) (a1 : ByteArray) (w W4 : World) (hW4 : (((w.alloc (.cells #[.slice A0 l0.length c0] 22)).alloc (.cells #[.string a1] 9)).alloc (.cells #[.int .i64 0] 3)).alloc (.cells #[.int .i64 0] 3) = W4) :
  W4.heap.size = w.heap.size + 4 ∧ Below w.heap.size w W4 ∧ W4.heap[w.heap.size]? = some (.cells #[.slice A0 l0.length c0] 22) ∧ W4.heap[w.heap.size + 1]? = some (.cells #[.string a1] 9) ∧ W4.heap[w.heap.size + 2]? = some (.cells #[.int .i64 0] 3) ∧ W4.heap[w.heap.size + 3]? = some (.cells #[.int .i64 0] 3):=by
 subst hW4
 refine ⟨by simp,((((Below.refl _ w).alloc (Nat.le_refl _) _).alloc (by simp) _).alloc (by simp;omega) _).alloc (by simp;omega) _,blk_alloc (blk_alloc (blk_alloc (blk_new _ _) _) _) _,?_,?_,?_⟩
 ·have:=blk_new (w.alloc (.cells #[.slice A0 l0.length c0] 22)) (.cells #[.string a1] 9)
  rw [World.size_alloc] at this
  exact blk_alloc (blk_alloc this _) _
 ·have:=blk_new ((w.alloc (.cells #[.slice A0 l0.length c0] 22)).alloc (.cells #[.string a1] 9)) (.cells #[.int .i64 0] 3)
  rw [World.size_alloc,World.size_alloc] at this
  exact blk_alloc this _
 ·have:=blk_new (((w.alloc (.cells #[.slice A0 l0.length c0] 22)).alloc (.cells #[.string a1] 9)).alloc (.cells #[.int .i64 0] 3)) (.cells #[.int .i64 0] 3)
  rw [World.size_alloc,World.size_alloc,World.size_alloc] at this
  exact this
def RB (w : World) (A0 : Option Addr) (c0 len : Nat) (a1 : ByteArray) (z2 z3 : Value) (W : World) : Prop :=
 W.heap[w.heap.size]? = some (.cells #[.slice A0 len c0] 22) ∧ W.heap[w.heap.size + 1]? = some (.cells #[.string a1] 9) ∧ W.heap[w.heap.size + 2]? = some (.cells #[z2] 3) ∧ W.heap[w.heap.size + 3]? = some (.cells #[z3] 3) ∧ Below w.heap.size w W
theorem RB.below {w : World} {A0 : Option Addr} {c0 len : Nat} {a1 : ByteArray} {z2 z3 : Value} {W W' : World} (h : RB w A0 c0 len a1 z2 z3 W) (hb : Below W.heap.size W W') : RB w A0 c0 len a1 z2 z3 W' :=
 ⟨blk_below h.1 hb,blk_below h.2.1 hb,blk_below h.2.2.1 hb,blk_below h.2.2.2.1 hb,h.2.2.2.2.trans (hb.mono h.2.2.2.2.size)⟩
theorem RB.drew {w : World} {A0 : Option Addr} {c0 len : Nat} {a1 : ByteArray} {z2 z3 : Value} {W : World} (h : RB w A0 c0 len a1 z2 z3 W) : RB w A0 c0 len a1 z2 z3 W.drew:=⟨h.1,h.2.1,h.2.2.1,h.2.2.2.1,h.2.2.2.2.drew⟩
theorem RB.cells {w : World} {A0 : Option Addr} {c0 len : Nat} {a1 : ByteArray} {z2 z3 : Value} {W : World} (h : RB w A0 c0 len a1 z2 z3 W) :
  W.cell? ⟨w.heap.size,0,none⟩ = some (.slice A0 len c0) ∧ W.cell? ⟨w.heap.size + 1,0,none⟩ = some (.string a1) ∧ W.cell? ⟨w.heap.size + 1 + 1,0,none⟩ = some z2 ∧ W.frozen? ⟨w.heap.size + 1 + 1,0,none⟩ = false ∧
  W.cell? ⟨w.heap.size + 1 + 1 + 1,0,none⟩ = some z3 ∧ W.frozen? ⟨w.heap.size + 1 + 1 + 1,0,none⟩ = false ∧ (∀ u : Value,(W.setCell ⟨w.heap.size + 1 + 1,0,none⟩ u).cell? ⟨w.heap.size + 1 + 1 + 1,0,none⟩ = some z3):=by
 obtain ⟨h0,h1,h2,h3,_⟩:=h
 have e3 : W.cell? ⟨w.heap.size + 1 + 1 + 1,0,none⟩ = some z3:=(blk_cell h3 0).trans rfl
 exact ⟨(blk_cell h0 0).trans rfl,(blk_cell h1 0).trans rfl,(blk_cell h2 0).trans rfl,blk_frozen h2 0,e3,blk_frozen h3 0,fun u => (World.cell?_of_block (Below.heap_setCell _ _ _ _ (show w.heap.size + 1 + 1 + 1 ≠ w.heap.size + 1 + 1 by omega))).trans e3⟩
theorem RB.start (A0 : Option Addr) (c0 : Nat) (l0 : List S51) (a1 : ByteArray) (w W4 : World) (hW4 : (((w.alloc (.cells #[.slice A0 l0.length c0] 22)).alloc (.cells #[.string a1] 9)).alloc (.cells #[.int .i64 0] 3)).alloc (.cells #[.int .i64 0] 3) = W4) : RB w A0 c0 l0.length a1 (.int .i64 0) (.int .i64 0) W4:=by
 obtain ⟨_,hb4,q0,q1,q2,q3⟩:=reason_world A0 c0 l0 a1 w W4 hW4
 exact ⟨q0,q1,q2,q3,hb4⟩
theorem RB.zero {w : World} {A0 : Option Addr} {c0 len : Nat} {a1 : ByteArray} {z2 z3 : Value} {W : World} (h : RB w A0 c0 len a1 z2 z3 W) (u v : Value) :
  ((W.setCell ⟨w.heap.size + 1 + 1,0,none⟩ u).setCell ⟨w.heap.size + 1 + 1 + 1,0,none⟩ v).cell? ⟨w.heap.size + 1 + 1,0,none⟩ = some u ∧ ((W.setCell ⟨w.heap.size + 1 + 1,0,none⟩ u).setCell ⟨w.heap.size + 1 + 1 + 1,0,none⟩ v).cell? ⟨w.heap.size + 1 + 1 + 1,0,none⟩ = some v ∧
   Below w.heap.size w ((W.setCell ⟨w.heap.size + 1 + 1,0,none⟩ u).setCell ⟨w.heap.size + 1 + 1 + 1,0,none⟩ v):=by
 obtain ⟨t2,t3⟩:=two_cells u v h.2.2.1 h.2.2.2.1
 exact ⟨(blk_cell t2 0).trans rfl,(blk_cell t3 0).trans rfl,(h.2.2.2.2.setCell (p:=⟨w.heap.size + 1 + 1,0,none⟩) (show w.heap.size ≤ w.heap.size + 1 + 1 by omega) _).setCell (p:=⟨w.heap.size + 1 + 1 + 1,0,none⟩) (show w.heap.size ≤ w.heap.size + 1 + 1 + 1 by omega) _⟩
set_option maxHeartbeats 1000000 in
set_option maxRecDepth 100000 in
theorem Reason_err1 (A0 : Option Addr) (c0 : Nat) (l0 : List (S51)) (a1 : ByteArray) (g : Int) (w : World) (hr0 : Kd.C k51 w A0 l0.length l0) (hc0 : l0.length ≤ c0) (hg : checkV l0 = g) (hne : g ≠ 0) :
  Calls Try.prog 24 #[.slice A0 l0.length c0,.string a1] w fun e w' => e = .returned (.tuple #[.int .i64 0,.int .i64 0,.int .i64 g]) ∧ Below w.heap.size w w':=by
 obtain ⟨W4,hW4⟩ : ∃ W4,(((w.alloc (.cells #[.slice A0 l0.length c0] 22)).alloc (.cells #[.string a1] 9)).alloc (.cells #[.int .i64 0] 3)).alloc (.cells #[.int .i64 0] 3) = W4:=⟨_,rfl⟩
 have R0:=Aside0.mk (RB.start A0 c0 l0 a1 w W4 hW4)
 have k0:=R0.out.cells.1
 have HR0:=Aside0.mk hr0
 have HCK:=Aside0.mk (recall_Check.calls A0 c0 l0 g _ (Kd.C_below hr0 R0.out.2.2.2.2) hc0 (congrArg some hg))
 have hg1 : (g != 0) = true:=bne_iff_ne.mpr hne
 have hg2 : (g == 0) = false:=beq_eq_false_iff_ne.mpr hne
 clear hr0 hg hne
 go_enter Try.func24,Try.ntmps24
 go_wp2_with (go_at_call 16;refine HCK.out.mono ?_;rintro e w1 ⟨rfl,hb1⟩;have R1:=Aside0.mk (R0.out.below hb1);obtain ⟨u0,u1,u2,u3,u4,u5,u6⟩:=R1.out.cells;clear hb1 k0)
 obtain ⟨t2,t3,t4⟩:=R1.out.zero (.int .i64 0) (.int .i64 0)
 refine bodyPost_ret (results_cct rfl _ _ rfl rfl t2 t3) rfl ?_
 exact ⟨rfl,t4⟩
set_option maxHeartbeats 1000000 in
set_option maxRecDepth 100000 in
theorem Reason_err2 (A0 : Option Addr) (c0 : Nat) (l0 : List (S51)) (a1 : ByteArray) (g : Int) (w : World) (hr0 : Kd.C k51 w A0 l0.length l0) (hc0 : l0.length ≤ c0) (hck : checkV l0 = 0) (hg : nameL a1.data.toList = g) (hne : g ≠ 0) :
  Calls Try.prog 24 #[.slice A0 l0.length c0,.string a1] w fun e w' => e = .returned (.tuple #[.int .i64 0,.int .i64 0,.int .i64 g]) ∧ Below w.heap.size w w':=by
 obtain ⟨W4,hW4⟩ : ∃ W4,(((w.alloc (.cells #[.slice A0 l0.length c0] 22)).alloc (.cells #[.string a1] 9)).alloc (.cells #[.int .i64 0] 3)).alloc (.cells #[.int .i64 0] 3) = W4:=⟨_,rfl⟩
 have R0:=Aside0.mk (RB.start A0 c0 l0 a1 w W4 hW4)
 have k0:=R0.out.cells.1
 have HR0:=Aside0.mk hr0
 have HCK:=Aside0.mk (recall_Check.calls A0 c0 l0 0 _ (Kd.C_below hr0 R0.out.2.2.2.2) hc0 (congrArg some hck))
 have HN:=Aside0.mk (fun W => dimension_Name.calls a1 g W (congrArg some hg))
 have hg1 : (g != 0) = true:=bne_iff_ne.mpr hne
 have hg2 : (g == 0) = false:=beq_eq_false_iff_ne.mpr hne
 clear hr0 hg hne hck
 go_enter Try.func24,Try.ntmps24
 go_wp2_with (first | (go_at_call 16;refine HCK.out.mono ?_;rintro e w1 ⟨rfl,hb1⟩;have R1:=Aside0.mk (R0.out.below hb1);obtain ⟨u0,u1,u2,u3,u4,u5,u6⟩:=R1.out.cells;clear hb1 k0) | (go_at_call 49;refine (HN.out _).mono ?_;rintro e w2 ⟨rfl,hb2⟩;have R2:=Aside0.mk (R1.out.below hb2);clear u0 u1 u2 u3 u4 u5 u6;obtain ⟨u0,u1,u2,u3,u4,u5,u6⟩:=R2.out.cells;clear hb2))
 obtain ⟨t2,t3,t4⟩:=R2.out.zero (.int .i64 0) (.int .i64 0)
 refine bodyPost_ret (results_cct rfl _ _ rfl rfl t2 t3) rfl ?_
 exact ⟨rfl,t4⟩
set_option maxHeartbeats 1000000 in
set_option maxRecDepth 100000 in
theorem Reason_err3 (A0 : Option Addr) (c0 : Nat) (l0 : List (S51)) (a1 : ByteArray) (w : World) (hr0 : Kd.C k51 w A0 l0.length l0) (hc0 : l0.length ≤ c0) (hck : checkV l0 = 0) (hg : nameL a1.data.toList = 0) (hh : l0.any (measP a1) = false) :
  Calls Try.prog 24 #[.slice A0 l0.length c0,.string a1] w fun e w' => e = .returned (.tuple #[.int .i64 0,.int .i64 0,.int .i64 6]) ∧ Below w.heap.size w w':=by
 obtain ⟨W4,hW4⟩ : ∃ W4,(((w.alloc (.cells #[.slice A0 l0.length c0] 22)).alloc (.cells #[.string a1] 9)).alloc (.cells #[.int .i64 0] 3)).alloc (.cells #[.int .i64 0] 3) = W4:=⟨_,rfl⟩
 have R0:=Aside0.mk (RB.start A0 c0 l0 a1 w W4 hW4)
 have k0:=R0.out.cells.1
 have HR0:=Aside0.mk hr0
 have HCK:=Aside0.mk (recall_Check.calls A0 c0 l0 0 _ (Kd.C_below hr0 R0.out.2.2.2.2) hc0 (congrArg some hck))
 have HN:=Aside0.mk (fun W => dimension_Name.calls a1 0 W (congrArg some hg))
 have HHS:=Aside0.mk (fun W (hR : RB w A0 c0 l0.length a1 (.int .i64 0) (.int .i64 0) W) => has_ok A0 c0 l0 a1 (w.heap.size + 1) W (Kd.C_below hr0 hR.2.2.2.2) (check_zero hck).1 hR.cells.2.1)
 rw [hh] at HHS
 clear hr0 hg hck hh
 go_enter Try.func24,Try.ntmps24
 go_wp2_with (first | (go_at_call 16;refine HCK.out.mono ?_;rintro e w1 ⟨rfl,hb1⟩;have R1:=Aside0.mk (R0.out.below hb1);obtain ⟨u0,u1,u2,u3,u4,u5,u6⟩:=R1.out.cells;clear hb1 k0) | (go_at_call 49;refine (HN.out _).mono ?_;rintro e w2 ⟨rfl,hb2⟩;have R2:=Aside0.mk (R1.out.below hb2);clear u0 u1 u2 u3 u4 u5 u6;obtain ⟨u0,u1,u2,u3,u4,u5,u6⟩:=R2.out.cells;clear hb2) | (go_at_call 29;refine (HHS.out _ R2.out).mono ?_;rintro e w3 ⟨rfl,hb3⟩;have R3:=Aside0.mk (R2.out.below hb3);clear u0 u1 u2 u3 u4 u5 u6;obtain ⟨u0,u1,u2,u3,u4,u5,u6⟩:=R3.out.cells;clear hb3))
 obtain ⟨t2,t3,t4⟩:=R3.out.zero (.int .i64 0) (.int .i64 0)
 refine bodyPost_ret (results_cct rfl _ _ rfl rfl t2 t3) rfl ?_
 exact ⟨rfl,t4⟩
set_option maxHeartbeats 2000000 in
set_option maxRecDepth 100000 in
theorem Reason_err4 (A0 : Option Addr) (c0 : Nat) (l0 : List (S51)) (a1 : ByteArray) (w : World) (hr0 : Kd.C k51 w A0 l0.length l0) (hc0 : l0.length ≤ c0) (hck : checkV l0 = 0) (hg : nameL a1.data.toList = 0) (hh : l0.any (measP a1) = true) (hm : a1.data.toList ∉ recL l0) :
  Calls Try.prog 24 #[.slice A0 l0.length c0,.string a1] w fun e w' => e = .returned (.tuple #[.int .i64 0,.int .i64 0,.int .i64 14]) ∧ Below w.heap.size w w':=by
 obtain ⟨W4,hW4⟩ : ∃ W4,(((w.alloc (.cells #[.slice A0 l0.length c0] 22)).alloc (.cells #[.string a1] 9)).alloc (.cells #[.int .i64 0] 3)).alloc (.cells #[.int .i64 0] 3) = W4:=⟨_,rfl⟩
 have R0:=Aside0.mk (RB.start A0 c0 l0 a1 w W4 hW4)
 have k0:=R0.out.cells.1
 have HR0:=Aside0.mk hr0
 have HCK:=Aside0.mk (recall_Check.calls A0 c0 l0 0 _ (Kd.C_below hr0 R0.out.2.2.2.2) hc0 (congrArg some hck))
 have HN:=Aside0.mk (fun W => dimension_Name.calls a1 0 W (congrArg some hg))
 have HHS:=Aside0.mk (fun W (hR : RB w A0 c0 l0.length a1 (.int .i64 0) (.int .i64 0) W) => has_ok A0 c0 l0 a1 (w.heap.size + 1) W (Kd.C_below hr0 hR.2.2.2.2) (check_zero hck).1 hR.cells.2.1)
 rw [hh] at HHS
 have hm2 : a1.size ≤ maxLen:=by
  have:=nameL_len hg
  rw [Array.length_toList] at this
  unfold maxLen
  have h2 : a1.size = a1.data.size:=rfl
  omega
 have HLK:=Aside0.mk (fun (b : Nat) (W : World) (h2 : MapF Try.prog 9 W b 4096 (fSet (recL l0))) => (h2.look Try.underlying9 Try.underlying49 (Try.zeroValue4 W) hm2 false).trans (show _ = Result.ok (.bool false) W from by rw [if_neg (by decide)];unfold fSet;rw [if_neg hm];rfl))
 have HH:=Aside0.mk hck
 clear hr0 hg hck hh hm
 go_enter Try.func24,Try.ntmps24
 go_wp2_with (first | (go_at_call 16;refine HCK.out.mono ?_;rintro e w1 ⟨rfl,hb1⟩;have R1:=Aside0.mk (R0.out.below hb1);obtain ⟨u0,u1,u2,u3,u4,u5,u6⟩:=R1.out.cells;clear hb1 k0) | (go_at_call 49;refine (HN.out _).mono ?_;rintro e w2 ⟨rfl,hb2⟩;have R2:=Aside0.mk (R1.out.below hb2);clear u0 u1 u2 u3 u4 u5 u6;obtain ⟨u0,u1,u2,u3,u4,u5,u6⟩:=R2.out.cells;clear hb2) | (go_at_call 29;refine (HHS.out _ R2.out).mono ?_;rintro e w3 ⟨rfl,hb3⟩;have R3:=Aside0.mk (R2.out.below hb3);clear u0 u1 u2 u3 u4 u5 u6;obtain ⟨u0,u1,u2,u3,u4,u5,u6⟩:=R3.out.cells;clear hb3))
 go_region_with (go_at_call 41;refine (recalled_ok A0 c0 l0 _ (Kd.C_below HR0.out R3.out.drew.2.2.2.2) HH.out).mono ?_;rintro e w5 ⟨b,rfl,h1,h2,h3⟩;have R5:=Aside0.mk (R3.out.drew.below h3);clear u0 u1 u2 u3 u4 u5 u6;obtain ⟨u0,u1,u2,u3,u4,u5,u6⟩:=R5.out.cells;have hlk:=HLK.out b w5 h2;clear h1 h2 h3)
 all_goals
  go_wp2
  obtain ⟨t2,t3,t4⟩:=R5.out.zero (.int .i64 0) (.int .i64 0)
  refine bodyPost_ret (results_cct rfl _ _ rfl rfl t2 t3) rfl ?_
  exact ⟨rfl,t4⟩
end Go.Proofs.Ytnmmdeonkpfccaa.Pr
set_option linter.unusedVariables false
namespace Go.Proofs.Ytnmmdeonkpfccaa.Rg
open Go Go.RowKit
theorem oper_round {F : Fence} {n : Nat} {P : Program} {o : Oper} {a : Act} {w : World} {K : Act → World → Prop} {Q : Exit → Act → World → Prop} (l : Nat) (hro : F.round = none) (hnd : ∀ c,o.op ≠ .defer c) (h : o.wpIn F n P a w K Q) : o.wpIn (F.inRound l) n P a w K Q:=by
 unfold Oper.wpIn at *
 refine ⟨h.1,?_⟩
 have h2:=h.2
 rw [hro,Oper.semAt_none] at h2
 rw [Oper.semAt_eq _ _ _ hnd]
 generalize (execOp a.eval o).run P w = r at *
 cases r with
 | ok x w' => cases x <;> exact h2
 | halt x w' => cases x <;> exact h2
theorem wpAnyIn_round {F : Fence} {n : Nat} {P : Program} {md : Region.Mode} {ops : Array Oper} {Q : Exit → Act → World → Prop} (l : Nat) (hro : F.round = none) (hnd : ∀ (i : Nat) (o : Oper),ops[i]? = some o → ∀ c,o.op ≠ .defer c) :
  ∀ (fuel : Nat) (listed : Array Bool) (a : Act) (w : World),wpAnyIn F n P md ops Q fuel listed a w → wpAnyIn (F.inRound l) n P md ops Q fuel listed a w
 | 0,_,_,_,h => h
 | fuel + 1,listed,a,w,h => ⟨h.1,fun i hi => by
   have h2:=wpOpIn_mono (fun a' w' h' => wpAnyIn_round l hro hnd fuel _ a' w' h') (h.2 i hi)
   unfold wpOpIn at *
   split
   ·rename_i ho;simp only [ho] at h2;exact h2
   ·rename_i o ho
    simp only [ho] at h2
    split
    ·rename_i hw;simp only [hw,if_true] at h2;exact oper_round l hro (hnd i o ho) h2
    ·rename_i hw;simp only [hw] at h2;exact h2⟩
def noDefer (l : List Oper) : Bool:=l.all fun o => match o.op with | .defer _ => false | _ => true
theorem region_quiet_round {n : Nat} {P : Program} {r id : Nat} {Q : Exit → Act → World → Prop} {a : Act} {w : World} {l : List Oper} (hnd : noDefer l = true) (hm : P.follows .mixedOrders = true) (hB : Region.lexB .any l.toArray = true)
  (h : wpQuietIn Fence.wide n P l.toArray (fun w' => ∃ n,w' = w.drewN n) (fun a' => ∀ w',(∃ n,w' = w.drewN n) → Q .normal a' w') l a) : (Code.region id l.toArray true).wpIn (Fence.wide.inRound r) n P Q a w:=by
 simp only [Region.lexB,Bool.and_eq_true] at hB
 refine wpIn_region_any hm (wpAnyIn_round r rfl (fun i o ho c hc => ?_) _ _ _ _ (wpAnyIn_of_quiet (C:=fun w' => ∃ n,w' = w.drewN n) (Q:=fun a' => ∀ w',(∃ n,w' = w.drewN n) → Q .normal a' w') rfl (fun _ w' hw' h => h w' hw') _ _ _ _ ⟨1,rfl⟩ ?_))
 ·have hmem : o ∈ l:=by
   rw [List.getElem?_toArray] at ho
   exact List.mem_of_getElem? ho
  have:=(List.all_eq_true.1 hnd) o hmem
  rw [hc] at this
  cases this
 ·have:=wpAnyQIn_lex (F:=Fence.wide) (n:=n) (C:=fun w' => ∃ n,w' = w.drewN n) (md:=.any) hB.1 l 0 (Array.replicate l.toArray.size false) a (by simp) (by simpa using hB.2) h
  simpa using this
end Go.Proofs.Ytnmmdeonkpfccaa.Rg
