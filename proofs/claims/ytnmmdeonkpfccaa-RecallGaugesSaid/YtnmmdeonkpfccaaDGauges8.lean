/- A part of the statement's proof. -/
import Derived.Test.YtnmmdeonkpfccaaDGauges2
namespace Go.Proofs.Ytnmmdeonkpfccaa.Pr
open Go.RowKit Go.Proofs.YtnmmdeonkpfccaaW.PrintWords Go.Proofs.YtnmmdeonkpfccaaW.PrintLast Go.Proofs.YtnmmdeonkpfccaaW.PrintMore
attribute [local go_sem] max2_int min2_int max_two min_two max_three min_three max_four min_four
set_option linter.unusedVariables false
set_option linter.unusedSimpArgs false
def metrolabref53_Withdrawn.l0 : Nat → List (S67) → ByteArray → Int → Option (Bool)
 | 0,_,_,_ => none
 | k + 1,x0,x1,x5 => if x5 < (x0.length : Int) then (if 0 ≤ x5 then (if ((rd_T67 x0 x5).f0) = 3 then (if ((rd_T67 x0 x5).f2).toList = x1.toList then (some true) else (metrolabref53_Withdrawn.l0 k x0 x1 (wrap64 (x5 + 1)))) else (metrolabref53_Withdrawn.l0 k x0 x1 (wrap64 (x5 + 1)))) else (none)) else (some false)
def metrolabref53_Withdrawn.f (k : Nat) (l0 : List (S67)) (a1 : ByteArray) : Option (Bool):=metrolabref53_Withdrawn.l0 k l0 a1 0
set_option maxHeartbeats 8000000 in
set_option maxRecDepth 100000 in
theorem metrolabref53_Withdrawn.calls (k : Nat) (A0 : Option Addr) (c0 : Nat) (l0 : List (S67)) (a1 : ByteArray) (r : Bool) (w : World) (hr0 : Kd.C k67 w A0 l0.length l0) (hc0 : l0.length ≤ c0) (h : metrolabref53_Withdrawn.f k l0 a1 = some r) :
  Calls Try.prog 45 #[.slice A0 l0.length c0,.string a1] w fun e w' => e = .returned (.bool r) ∧ Drawn0 w w':=by
 have HR0:=Aside0.mk hr0
 have HC0:=Aside0.mk hc0
 clear hr0 hc0
 have H : (metrolabref53_Withdrawn.l0 k l0 a1 0) = some r:=h
 clear h
 have H':=Aside0.mk H
 clear H
 go_enter Try.func45,Try.ntmps45
 go_wp2
 go_loopg [5] k (fun kq v5 w' => ∃ (x5_1 : Int),v5 = .int .i64 x5_1 ∧ Aside0 (metrolabref53_Withdrawn.l0 kq l0 a1 x5_1 = some r) ∧ Aside0 (kq ≤ k) ∧ Drawn0 w w')
 case atStart => exact ⟨(0),(by first | rfl | (simp;done) | (simp [*];done)),H',⟨Nat.le_refl _⟩,by repeat (first | exact Drawn0.refl _ | apply Drawn0.step)⟩
 case round =>
  clear H'
  try clear p2
  obtain ⟨x5_1,rfl,HA,HK1,⟨m1,rfl⟩⟩:=hrel
  cases gk with
  | zero => exact absurd HA.out (by simp [metrolabref53_Withdrawn.l0])
  | succ k1 =>
   have H:=HA.out
   clear HA
   simp only [metrolabref53_Withdrawn.l0] at H
   by_cases c3 : x5_1 < (l0.length : Int)
   ·rw [if_pos c3] at H
    have c3b0 : decide (x5_1 < (l0.length : Int)) = true:=decide_eq_true c3
    clear c3
    by_cases c4 : 0 ≤ x5_1
    ·rw [if_pos c4] at H
     have c4b0 : decide (0 ≤ x5_1) = true:=decide_eq_true c4
     clear c4
     by_cases c5 : ((rd_T67 l0 x5_1).f0) = 3
     ·rw [if_pos c5] at H
      have c5b0 : (((rd_T67 l0 x5_1).f0) == 3) = true:=beq_iff_eq.mpr c5
      have c5b1 : (((rd_T67 l0 x5_1).f0) != 3) = false:=bne_eq_false_iff_eq.mpr c5
      clear c5
      by_cases c6 : ((rd_T67 l0 x5_1).f2).toList = a1.toList
      ·rw [if_pos c6] at H
       have c6b0 : (((rd_T67 l0 x5_1).f2).toList == a1.toList) = true:=beq_iff_eq.mpr c6
       have c6b1 : (((rd_T67 l0 x5_1).f2).toList != a1.toList) = false:=bne_eq_false_iff_eq.mpr c6
       clear c6
       obtain rfl:=Option.some.inj H
       have p120 : 0 ≤ (x5_1 : Int):=of_decide_eq_true (by first | (with_reducible assumption) | assumption)
       have q120 : x5_1 < (l0.length : Int):=of_decide_eq_true (by first | (with_reducible assumption) | assumption)
       obtain ⟨ad120,e120,hx120_0,hx120_1,hx120_2,hx120_3⟩:=at_T67 HR0.out x5_1 p120 q120
       cases e120
       replace p120:=eq_true p120
       replace q120:=eq_true q120
       have p121 : 0 ≤ (x5_1 : Int):=of_decide_eq_true (by first | (with_reducible assumption) | assumption)
       have q121 : x5_1 < (l0.length : Int):=of_decide_eq_true (by first | (with_reducible assumption) | assumption)
       obtain ⟨ad121,e121,hx121_0,hx121_1,hx121_2,hx121_3⟩:=at_T67 HR0.out x5_1 p121 q121
       obtain rfl : ad120 = ad121:=(by injection e121)
       replace p121:=eq_true p121
       replace q121:=eq_true q121
       go_wp2
       go_ret
       exact ⟨by first | rfl | (simp;done) | (simp [*];done),by repeat (first | exact Drawn0.refl _ | apply Drawn0.step)⟩
      ·rw [if_neg c6] at H
       have c6b0 : (((rd_T67 l0 x5_1).f2).toList == a1.toList) = false:=beq_eq_false_iff_ne.mpr c6
       have c6b1 : (((rd_T67 l0 x5_1).f2).toList != a1.toList) = true:=bne_iff_ne.mpr c6
       have H':=Aside0.mk H
       clear H
       have p120 : 0 ≤ (x5_1 : Int):=of_decide_eq_true (by first | (with_reducible assumption) | assumption)
       have q120 : x5_1 < (l0.length : Int):=of_decide_eq_true (by first | (with_reducible assumption) | assumption)
       obtain ⟨ad120,e120,hx120_0,hx120_1,hx120_2,hx120_3⟩:=at_T67 HR0.out x5_1 p120 q120
       cases e120
       replace p120:=eq_true p120
       replace q120:=eq_true q120
       have p121 : 0 ≤ (x5_1 : Int):=of_decide_eq_true (by first | (with_reducible assumption) | assumption)
       have q121 : x5_1 < (l0.length : Int):=of_decide_eq_true (by first | (with_reducible assumption) | assumption)
       obtain ⟨ad121,e121,hx121_0,hx121_1,hx121_2,hx121_3⟩:=at_T67 HR0.out x5_1 p121 q121
       obtain rfl : ad120 = ad121:=(by injection e121)
       replace p121:=eq_true p121
       replace q121:=eq_true q121
       go_wp2
       go_roundg k1
       case measure => have:=HK1.out;omega
       case rel => exact ⟨(wrap64 (x5_1 + 1)),(by first | rfl | (simp;done) | (simp [*];done)),H',⟨by have:=HK1.out;omega⟩,by repeat (first | exact Drawn0.refl _ | apply Drawn0.step)⟩
     ·rw [if_neg c5] at H
      have c5b0 : (((rd_T67 l0 x5_1).f0) == 3) = false:=beq_eq_false_iff_ne.mpr c5
      have c5b1 : (((rd_T67 l0 x5_1).f0) != 3) = true:=bne_iff_ne.mpr c5
      have H':=Aside0.mk H
      clear H
      have p120 : 0 ≤ (x5_1 : Int):=of_decide_eq_true (by first | (with_reducible assumption) | assumption)
      have q120 : x5_1 < (l0.length : Int):=of_decide_eq_true (by first | (with_reducible assumption) | assumption)
      obtain ⟨ad120,e120,hx120_0,hx120_1,hx120_2,hx120_3⟩:=at_T67 HR0.out x5_1 p120 q120
      cases e120
      replace p120:=eq_true p120
      replace q120:=eq_true q120
      go_wp2
      go_roundg k1
      case measure => have:=HK1.out;omega
      case rel => exact ⟨(wrap64 (x5_1 + 1)),(by first | rfl | (simp;done) | (simp [*];done)),H',⟨by have:=HK1.out;omega⟩,by repeat (first | exact Drawn0.refl _ | apply Drawn0.step)⟩
    ·rw [if_neg c4] at H
     exact absurd H (by simp)
   ·rw [if_neg c3] at H
    have c3b0 : decide (x5_1 < (l0.length : Int)) = false:=decide_eq_false c3
    clear c3
    obtain rfl:=Option.some.inj H
    go_wp2
    go_ret
    exact ⟨by first | rfl | (simp;done) | (simp [*];done),by repeat (first | exact Drawn0.refl _ | apply Drawn0.step)⟩
end Go.Proofs.Ytnmmdeonkpfccaa.Pr
namespace Go.Proofs.Ytnmmdeonkpfccaa.Pr
open Go.RowKit Go.Proofs.YtnmmdeonkpfccaaW.PrintWords Go.Proofs.YtnmmdeonkpfccaaW.PrintLast Go.Proofs.YtnmmdeonkpfccaaW.PrintMore
attribute [local go_sem] max2_int min2_int max_two min_two max_three min_three max_four min_four
set_option linter.unusedVariables false
set_option linter.unusedSimpArgs false
def metrolabref53_Measured.l0 : Nat → List (S67) → ByteArray → Int → Option (Bool)
 | 0,_,_,_ => none
 | k + 1,x0,x1,x5 => if x5 < (x0.length : Int) then (if 0 ≤ x5 then (if ((rd_T67 x0 x5).f0) = 0 then (if ((rd_T67 x0 x5).f2).toList = x1.toList then (some true) else (metrolabref53_Measured.l0 k x0 x1 (wrap64 (x5 + 1)))) else (metrolabref53_Measured.l0 k x0 x1 (wrap64 (x5 + 1)))) else (none)) else (some false)
def metrolabref53_Measured.f (k : Nat) (l0 : List (S67)) (a1 : ByteArray) : Option (Bool):=metrolabref53_Measured.l0 k l0 a1 0
set_option maxHeartbeats 8000000 in
set_option maxRecDepth 100000 in
theorem metrolabref53_Measured.calls (k : Nat) (A0 : Option Addr) (c0 : Nat) (l0 : List (S67)) (a1 : ByteArray) (r : Bool) (w : World) (hr0 : Kd.C k67 w A0 l0.length l0) (hc0 : l0.length ≤ c0) (h : metrolabref53_Measured.f k l0 a1 = some r) :
  Calls Try.prog 46 #[.slice A0 l0.length c0,.string a1] w fun e w' => e = .returned (.bool r) ∧ Drawn0 w w':=by
 have HR0:=Aside0.mk hr0
 have HC0:=Aside0.mk hc0
 clear hr0 hc0
 have H : (metrolabref53_Measured.l0 k l0 a1 0) = some r:=h
 clear h
 have H':=Aside0.mk H
 clear H
 go_enter Try.func46,Try.ntmps46
 go_wp2
 go_loopg [5] k (fun kq v5 w' => ∃ (x5_1 : Int),v5 = .int .i64 x5_1 ∧ Aside0 (metrolabref53_Measured.l0 kq l0 a1 x5_1 = some r) ∧ Aside0 (kq ≤ k) ∧ Drawn0 w w')
 case atStart => exact ⟨(0),(by first | rfl | (simp;done) | (simp [*];done)),H',⟨Nat.le_refl _⟩,by repeat (first | exact Drawn0.refl _ | apply Drawn0.step)⟩
 case round =>
  clear H'
  try clear p2
  obtain ⟨x5_1,rfl,HA,HK1,⟨m1,rfl⟩⟩:=hrel
  cases gk with
  | zero => exact absurd HA.out (by simp [metrolabref53_Measured.l0])
  | succ k1 =>
   have H:=HA.out
   clear HA
   simp only [metrolabref53_Measured.l0] at H
   by_cases c3 : x5_1 < (l0.length : Int)
   ·rw [if_pos c3] at H
    have c3b0 : decide (x5_1 < (l0.length : Int)) = true:=decide_eq_true c3
    clear c3
    by_cases c4 : 0 ≤ x5_1
    ·rw [if_pos c4] at H
     have c4b0 : decide (0 ≤ x5_1) = true:=decide_eq_true c4
     clear c4
     by_cases c5 : ((rd_T67 l0 x5_1).f0) = 0
     ·rw [if_pos c5] at H
      have c5b0 : (((rd_T67 l0 x5_1).f0) == 0) = true:=beq_iff_eq.mpr c5
      have c5b1 : (((rd_T67 l0 x5_1).f0) != 0) = false:=bne_eq_false_iff_eq.mpr c5
      clear c5
      by_cases c6 : ((rd_T67 l0 x5_1).f2).toList = a1.toList
      ·rw [if_pos c6] at H
       have c6b0 : (((rd_T67 l0 x5_1).f2).toList == a1.toList) = true:=beq_iff_eq.mpr c6
       have c6b1 : (((rd_T67 l0 x5_1).f2).toList != a1.toList) = false:=bne_eq_false_iff_eq.mpr c6
       clear c6
       obtain rfl:=Option.some.inj H
       have p122 : 0 ≤ (x5_1 : Int):=of_decide_eq_true (by first | (with_reducible assumption) | assumption)
       have q122 : x5_1 < (l0.length : Int):=of_decide_eq_true (by first | (with_reducible assumption) | assumption)
       obtain ⟨ad122,e122,hx122_0,hx122_1,hx122_2,hx122_3⟩:=at_T67 HR0.out x5_1 p122 q122
       cases e122
       replace p122:=eq_true p122
       replace q122:=eq_true q122
       have p123 : 0 ≤ (x5_1 : Int):=of_decide_eq_true (by first | (with_reducible assumption) | assumption)
       have q123 : x5_1 < (l0.length : Int):=of_decide_eq_true (by first | (with_reducible assumption) | assumption)
       obtain ⟨ad123,e123,hx123_0,hx123_1,hx123_2,hx123_3⟩:=at_T67 HR0.out x5_1 p123 q123
       obtain rfl : ad122 = ad123:=(by injection e123)
       replace p123:=eq_true p123
       replace q123:=eq_true q123
       go_wp2
       go_ret
       exact ⟨by first | rfl | (simp;done) | (simp [*];done),by repeat (first | exact Drawn0.refl _ | apply Drawn0.step)⟩
      ·rw [if_neg c6] at H
       have c6b0 : (((rd_T67 l0 x5_1).f2).toList == a1.toList) = false:=beq_eq_false_iff_ne.mpr c6
       have c6b1 : (((rd_T67 l0 x5_1).f2).toList != a1.toList) = true:=bne_iff_ne.mpr c6
       have H':=Aside0.mk H
       clear H
       have p122 : 0 ≤ (x5_1 : Int):=of_decide_eq_true (by first | (with_reducible assumption) | assumption)
       have q122 : x5_1 < (l0.length : Int):=of_decide_eq_true (by first | (with_reducible assumption) | assumption)
       obtain ⟨ad122,e122,hx122_0,hx122_1,hx122_2,hx122_3⟩:=at_T67 HR0.out x5_1 p122 q122
       cases e122
       replace p122:=eq_true p122
       replace q122:=eq_true q122
       have p123 : 0 ≤ (x5_1 : Int):=of_decide_eq_true (by first | (with_reducible assumption) | assumption)
       have q123 : x5_1 < (l0.length : Int):=of_decide_eq_true (by first | (with_reducible assumption) | assumption)
       obtain ⟨ad123,e123,hx123_0,hx123_1,hx123_2,hx123_3⟩:=at_T67 HR0.out x5_1 p123 q123
       obtain rfl : ad122 = ad123:=(by injection e123)
       replace p123:=eq_true p123
       replace q123:=eq_true q123
       go_wp2
       go_roundg k1
       case measure => have:=HK1.out;omega
       case rel => exact ⟨(wrap64 (x5_1 + 1)),(by first | rfl | (simp;done) | (simp [*];done)),H',⟨by have:=HK1.out;omega⟩,by repeat (first | exact Drawn0.refl _ | apply Drawn0.step)⟩
     ·rw [if_neg c5] at H
      have c5b0 : (((rd_T67 l0 x5_1).f0) == 0) = false:=beq_eq_false_iff_ne.mpr c5
      have c5b1 : (((rd_T67 l0 x5_1).f0) != 0) = true:=bne_iff_ne.mpr c5
      have H':=Aside0.mk H
      clear H
      have p122 : 0 ≤ (x5_1 : Int):=of_decide_eq_true (by first | (with_reducible assumption) | assumption)
      have q122 : x5_1 < (l0.length : Int):=of_decide_eq_true (by first | (with_reducible assumption) | assumption)
      obtain ⟨ad122,e122,hx122_0,hx122_1,hx122_2,hx122_3⟩:=at_T67 HR0.out x5_1 p122 q122
      cases e122
      replace p122:=eq_true p122
      replace q122:=eq_true q122
      go_wp2
      go_roundg k1
      case measure => have:=HK1.out;omega
      case rel => exact ⟨(wrap64 (x5_1 + 1)),(by first | rfl | (simp;done) | (simp [*];done)),H',⟨by have:=HK1.out;omega⟩,by repeat (first | exact Drawn0.refl _ | apply Drawn0.step)⟩
    ·rw [if_neg c4] at H
     exact absurd H (by simp)
   ·rw [if_neg c3] at H
    have c3b0 : decide (x5_1 < (l0.length : Int)) = false:=decide_eq_false c3
    clear c3
    obtain rfl:=Option.some.inj H
    go_wp2
    go_ret
    exact ⟨by first | rfl | (simp;done) | (simp [*];done),by repeat (first | exact Drawn0.refl _ | apply Drawn0.step)⟩
end Go.Proofs.Ytnmmdeonkpfccaa.Pr
