/- A part of the statement's proof. -/
import Derived.Test.YtnmmdeonkpfccaaB1
import Derived.Test.YtnmmdeonkpfccaaB3
import Derived.RangeFuncNested
import Derived.RangeFuncBound
import Derived.RangeFuncCalls
import Derived.RangeFuncLeaves
import Derived.RangeFuncBox
import Derived.Shelf.Abstract
import Derived.WalkKit
import Derived.OwnWalkIn
import Derived.TacticsInMore
import Derived.LoopNIn
import Derived.LoopIn
import Derived.Lib.Hide
import Derived.RangeFuncSeq
import Derived.Maps.AppendAt
import Derived.Laws.Cover1
import Derived.Shelf.SlIter.Nil
import Derived.Shelf.SortM.Plain
import Derived.Shelf.SortM.SortNone
import Derived.Ground.GgzProg
import Derived.Ground.SlgmProg
import Derived.Shelf.SlMaps.DeleteFunc
import Derived.Ground.SlmdProg
import Derived.Shelf.SlicesQ.IndexFunc
import Derived.Ground.SlgfProg
import Derived.Ground.SlgnProg
import Derived.Shelf.SlicesE.Clone
import Derived.Shelf.SlGeneric
import Derived.Test.YtnmmdeonkpfccaaProg
import Derived.Shelf.AbstractIn
import Derived.Sort.Walk0
import Derived.Test.YtnmmdeonkpfccaaB2
namespace Go.Proofs.Ytnmmdeonkpfccaa.Pr
open Go.RowKit Go.Proofs.YtnmmdeonkpfccaaW.PrintWords Go.Proofs.YtnmmdeonkpfccaaW.PrintLast Go.Proofs.YtnmmdeonkpfccaaW.PrintMore
attribute [local go_sem] max2_int min2_int max_two min_two max_three min_three max_four min_four
set_option linter.unusedVariables false
set_option linter.unusedSimpArgs false

/-! ### metrolabref53_Next: function 52 -/
def metrolabref53_Next.l0 : Nat → List (S67) → Int → Int → Option (Int)
 | 0,_,_,_ => none
 | k + 1,x0,x1,x5 => if x5 < (x0.length : Int) then (if 0 ≤ x5 then (if ((rd_T67 x0 x5).f0) = 1 then (if 0 ≤ x1 then (if x1 < (x0.length : Int) then (if ((rd_T67 x0 x5).f1).toList = ((rd_T67 x0 x1).f1).toList then (some x5) else (metrolabref53_Next.l0 k x0 x1 (wrap64 (x5 + 1)))) else (none)) else (none)) else (if ((rd_T67 x0 x5).f0) = 2 then (if 0 ≤ x1 then (if x1 < (x0.length : Int) then (if ((rd_T67 x0 x5).f1).toList = ((rd_T67 x0 x1).f1).toList then (some x5) else (metrolabref53_Next.l0 k x0 x1 (wrap64 (x5 + 1)))) else (none)) else (none)) else (metrolabref53_Next.l0 k x0 x1 (wrap64 (x5 + 1))))) else (none)) else (some (-1))
def metrolabref53_Next.f (k : Nat) (l0 : List (S67)) (a1 : Int) : Option (Int):=metrolabref53_Next.l0 k l0 a1 (wrap64 (a1 + 1))
theorem metrolabref53_Next.mono_l : ∀ k,(∀ y0 y1 y2,LeO (metrolabref53_Next.l0 k y0 y1 y2) (metrolabref53_Next.l0 (k + 1) y0 y1 y2))
 | 0 => fun _ _ _ r h => by simp [metrolabref53_Next.l0] at h
 | k + 1 => by
  have ih0:=metrolabref53_Next.mono_l k
  ·intro y0 y1 y2
   unfold metrolabref53_Next.l0
   repeat' first
   | (with_reducible exact ih0 _ _ _)
   | (with_reducible exact LeO.refl _)
   | (with_reducible exact LeO.none _)
   | (with_reducible refine LeO.ite ?_ ?_)
   | (with_reducible refine LeO.bind ?_ (fun _ => ?_))
   | exact ih0 _ _ _
   | exact LeO.none _
   | refine LeO.ite ?_ ?_
   | refine LeO.bind ?_ (fun _ => ?_)
theorem metrolabref53_Next.mono : ∀ a0 a1 k,LeO (metrolabref53_Next.f k a0 a1) (metrolabref53_Next.f (k + 1) a0 a1):=by
 intro a0 a1 k
 have ih0:=metrolabref53_Next.mono_l k
 unfold metrolabref53_Next.f
 repeat' first
   | (with_reducible exact ih0 _ _ _)
   | (with_reducible exact LeO.refl _)
   | (with_reducible exact LeO.none _)
   | (with_reducible refine LeO.ite ?_ ?_)
   | (with_reducible refine LeO.bind ?_ (fun _ => ?_))
   | exact ih0 _ _ _
   | exact LeO.none _
   | refine LeO.ite ?_ ?_
   | refine LeO.bind ?_ (fun _ => ?_)
set_option maxHeartbeats 8000000 in
set_option maxRecDepth 100000 in
theorem metrolabref53_Next.calls (k : Nat) (A0 : Option Addr) (c0 : Nat) (l0 : List (S67)) (a1 : Int) (r : Int) (w : World) (hr0 : Kd.C k67 w A0 l0.length l0) (hc0 : l0.length ≤ c0) (h : metrolabref53_Next.f k l0 a1 = some r) :
  Calls Try.prog 52 #[.slice A0 l0.length c0,.int .i64 a1] w fun e w' => e = .returned (.int .i64 r) ∧ Drawn0 w w':=by
 have HR0:=Aside0.mk hr0
 have HC0:=Aside0.mk hc0
 clear hr0 hc0
 have H : (metrolabref53_Next.l0 k l0 a1 (wrap64 (a1 + 1))) = some r:=h
 clear h
 have H':=Aside0.mk H
 clear H
 go_enter Try.func52,Try.ntmps52
 go_wp2
 repeat (go_quiet (fail);try go_wp2)
 go_loopg [5] k (fun kq v5 w' => ∃ (x5_1 : Int),v5 = .int .i64 x5_1 ∧ Aside0 (metrolabref53_Next.l0 kq l0 a1 x5_1 = some r) ∧ Aside0 (kq ≤ k) ∧ Drawn0 w w')
 case atStart => exact ⟨(wrap64 (a1 + 1)),(by first | rfl | (simp;done) | (simp [*];done)),H',⟨Nat.le_refl _⟩,by repeat (first | exact Drawn0.refl _ | apply Drawn0.step)⟩
 case round =>
  clear H'
  try clear p2
  obtain ⟨x5_1,rfl,HA,HK1,⟨m1,rfl⟩⟩:=hrel
  cases gk with
  | zero => exact absurd HA.out (by simp [metrolabref53_Next.l0])
  | succ k1 =>
   have H:=HA.out
   clear HA
   simp only [metrolabref53_Next.l0] at H
   by_cases c3 : x5_1 < (l0.length : Int)
   ·rw [if_pos c3] at H
    have c3b0 : decide (x5_1 < (l0.length : Int)) = true:=decide_eq_true c3
    clear c3
    by_cases c4 : 0 ≤ x5_1
    ·rw [if_pos c4] at H
     have c4b0 : decide (0 ≤ x5_1) = true:=decide_eq_true c4
     clear c4
     by_cases c5 : ((rd_T67 l0 x5_1).f0) = 1
     ·rw [if_pos c5] at H
      have c5b0 : (((rd_T67 l0 x5_1).f0) == 1) = true:=beq_iff_eq.mpr c5
      have c5b1 : (((rd_T67 l0 x5_1).f0) != 1) = false:=bne_eq_false_iff_eq.mpr c5
      clear c5
      by_cases c6 : 0 ≤ a1
      ·rw [if_pos c6] at H
       have c6b0 : decide (0 ≤ a1) = true:=decide_eq_true c6
       clear c6
       by_cases c7 : a1 < (l0.length : Int)
       ·rw [if_pos c7] at H
        have c7b0 : decide (a1 < (l0.length : Int)) = true:=decide_eq_true c7
        clear c7
        by_cases c8 : ((rd_T67 l0 x5_1).f1).toList = ((rd_T67 l0 a1).f1).toList
        ·rw [if_pos c8] at H
         have c8b0 : (((rd_T67 l0 x5_1).f1).toList == ((rd_T67 l0 a1).f1).toList) = true:=beq_iff_eq.mpr c8
         have c8b1 : (((rd_T67 l0 x5_1).f1).toList != ((rd_T67 l0 a1).f1).toList) = false:=bne_eq_false_iff_eq.mpr c8
         clear c8
         obtain rfl:=Option.some.inj H
         have p145 : 0 ≤ (x5_1 : Int):=of_decide_eq_true (by first | (with_reducible assumption) | assumption)
         have q145 : x5_1 < (l0.length : Int):=of_decide_eq_true (by first | (with_reducible assumption) | assumption)
         obtain ⟨ad145,e145,hx145_0,hx145_1,hx145_2,hx145_3⟩:=at_T67 HR0.out x5_1 p145 q145
         cases e145
         replace p145:=eq_true p145
         replace q145:=eq_true q145
         have p146 : 0 ≤ (x5_1 : Int):=of_decide_eq_true (by first | (with_reducible assumption) | assumption)
         have q146 : x5_1 < (l0.length : Int):=of_decide_eq_true (by first | (with_reducible assumption) | assumption)
         obtain ⟨ad146,e146,hx146_0,hx146_1,hx146_2,hx146_3⟩:=at_T67 HR0.out x5_1 p146 q146
         obtain rfl : ad145 = ad146:=(by injection e146)
         replace p146:=eq_true p146
         replace q146:=eq_true q146
         have p147 : 0 ≤ (a1 : Int):=of_decide_eq_true (by first | (with_reducible assumption) | assumption)
         have q147 : a1 < (l0.length : Int):=of_decide_eq_true (by first | (with_reducible assumption) | assumption)
         obtain ⟨ad147,e147,hx147_0,hx147_1,hx147_2,hx147_3⟩:=at_T67 HR0.out a1 p147 q147
         obtain rfl : ad145 = ad147:=(by injection e147)
         replace p147:=eq_true p147
         replace q147:=eq_true q147
         go_wp2
         repeat (go_quiet (fail);try go_wp2)
         go_ret
         exact ⟨by first | rfl | (simp;done) | (simp [*];done),by repeat (first | exact Drawn0.refl _ | apply Drawn0.step)⟩
        ·rw [if_neg c8] at H
         have c8b0 : (((rd_T67 l0 x5_1).f1).toList == ((rd_T67 l0 a1).f1).toList) = false:=beq_eq_false_iff_ne.mpr c8
         have c8b1 : (((rd_T67 l0 x5_1).f1).toList != ((rd_T67 l0 a1).f1).toList) = true:=bne_iff_ne.mpr c8
         have H':=Aside0.mk H
         clear H
         have p145 : 0 ≤ (x5_1 : Int):=of_decide_eq_true (by first | (with_reducible assumption) | assumption)
         have q145 : x5_1 < (l0.length : Int):=of_decide_eq_true (by first | (with_reducible assumption) | assumption)
         obtain ⟨ad145,e145,hx145_0,hx145_1,hx145_2,hx145_3⟩:=at_T67 HR0.out x5_1 p145 q145
         cases e145
         replace p145:=eq_true p145
         replace q145:=eq_true q145
         have p146 : 0 ≤ (x5_1 : Int):=of_decide_eq_true (by first | (with_reducible assumption) | assumption)
         have q146 : x5_1 < (l0.length : Int):=of_decide_eq_true (by first | (with_reducible assumption) | assumption)
         obtain ⟨ad146,e146,hx146_0,hx146_1,hx146_2,hx146_3⟩:=at_T67 HR0.out x5_1 p146 q146
         obtain rfl : ad145 = ad146:=(by injection e146)
         replace p146:=eq_true p146
         replace q146:=eq_true q146
         have p147 : 0 ≤ (a1 : Int):=of_decide_eq_true (by first | (with_reducible assumption) | assumption)
         have q147 : a1 < (l0.length : Int):=of_decide_eq_true (by first | (with_reducible assumption) | assumption)
         obtain ⟨ad147,e147,hx147_0,hx147_1,hx147_2,hx147_3⟩:=at_T67 HR0.out a1 p147 q147
         obtain rfl : ad145 = ad147:=(by injection e147)
         replace p147:=eq_true p147
         replace q147:=eq_true q147
         go_wp2
         repeat (go_quiet (fail);try go_wp2)
         go_roundg k1
         case measure => have:=HK1.out;omega
         case rel => exact ⟨(wrap64 (x5_1 + 1)),(by first | rfl | (simp;done) | (simp [*];done)),H',⟨by have:=HK1.out;omega⟩,by repeat (first | exact Drawn0.refl _ | apply Drawn0.step)⟩
       ·rw [if_neg c7] at H
        exact absurd H (by simp)
      ·rw [if_neg c6] at H
       exact absurd H (by simp)
     ·rw [if_neg c5] at H
      have c5b0 : (((rd_T67 l0 x5_1).f0) == 1) = false:=beq_eq_false_iff_ne.mpr c5
      have c5b1 : (((rd_T67 l0 x5_1).f0) != 1) = true:=bne_iff_ne.mpr c5
      by_cases c9 : ((rd_T67 l0 x5_1).f0) = 2
      ·rw [if_pos c9] at H
       have c9b0 : (((rd_T67 l0 x5_1).f0) == 2) = true:=beq_iff_eq.mpr c9
       have c9b1 : (((rd_T67 l0 x5_1).f0) != 2) = false:=bne_eq_false_iff_eq.mpr c9
       clear c9
       by_cases c10 : 0 ≤ a1
       ·rw [if_pos c10] at H
        have c10b0 : decide (0 ≤ a1) = true:=decide_eq_true c10
        clear c10
        by_cases c11 : a1 < (l0.length : Int)
        ·rw [if_pos c11] at H
         have c11b0 : decide (a1 < (l0.length : Int)) = true:=decide_eq_true c11
         clear c11
         by_cases c12 : ((rd_T67 l0 x5_1).f1).toList = ((rd_T67 l0 a1).f1).toList
         ·rw [if_pos c12] at H
          have c12b0 : (((rd_T67 l0 x5_1).f1).toList == ((rd_T67 l0 a1).f1).toList) = true:=beq_iff_eq.mpr c12
          have c12b1 : (((rd_T67 l0 x5_1).f1).toList != ((rd_T67 l0 a1).f1).toList) = false:=bne_eq_false_iff_eq.mpr c12
          clear c12
          obtain rfl:=Option.some.inj H
          have p145 : 0 ≤ (x5_1 : Int):=of_decide_eq_true (by first | (with_reducible assumption) | assumption)
          have q145 : x5_1 < (l0.length : Int):=of_decide_eq_true (by first | (with_reducible assumption) | assumption)
          obtain ⟨ad145,e145,hx145_0,hx145_1,hx145_2,hx145_3⟩:=at_T67 HR0.out x5_1 p145 q145
          cases e145
          replace p145:=eq_true p145
          replace q145:=eq_true q145
          have p148 : 0 ≤ (x5_1 : Int):=of_decide_eq_true (by first | (with_reducible assumption) | assumption)
          have q148 : x5_1 < (l0.length : Int):=of_decide_eq_true (by first | (with_reducible assumption) | assumption)
          obtain ⟨ad148,e148,hx148_0,hx148_1,hx148_2,hx148_3⟩:=at_T67 HR0.out x5_1 p148 q148
          obtain rfl : ad145 = ad148:=(by injection e148)
          replace p148:=eq_true p148
          replace q148:=eq_true q148
          have p149 : 0 ≤ (x5_1 : Int):=of_decide_eq_true (by first | (with_reducible assumption) | assumption)
          have q149 : x5_1 < (l0.length : Int):=of_decide_eq_true (by first | (with_reducible assumption) | assumption)
          obtain ⟨ad149,e149,hx149_0,hx149_1,hx149_2,hx149_3⟩:=at_T67 HR0.out x5_1 p149 q149
          obtain rfl : ad145 = ad149:=(by injection e149)
          replace p149:=eq_true p149
          replace q149:=eq_true q149
          have p150 : 0 ≤ (a1 : Int):=of_decide_eq_true (by first | (with_reducible assumption) | assumption)
          have q150 : a1 < (l0.length : Int):=of_decide_eq_true (by first | (with_reducible assumption) | assumption)
          obtain ⟨ad150,e150,hx150_0,hx150_1,hx150_2,hx150_3⟩:=at_T67 HR0.out a1 p150 q150
          obtain rfl : ad145 = ad150:=(by injection e150)
          replace p150:=eq_true p150
          replace q150:=eq_true q150
          go_wp2
          repeat (go_quiet (fail);try go_wp2)
          go_ret
          exact ⟨by first | rfl | (simp;done) | (simp [*];done),by repeat (first | exact Drawn0.refl _ | apply Drawn0.step)⟩
         ·rw [if_neg c12] at H
          have c12b0 : (((rd_T67 l0 x5_1).f1).toList == ((rd_T67 l0 a1).f1).toList) = false:=beq_eq_false_iff_ne.mpr c12
          have c12b1 : (((rd_T67 l0 x5_1).f1).toList != ((rd_T67 l0 a1).f1).toList) = true:=bne_iff_ne.mpr c12
          have H':=Aside0.mk H
          clear H
          have p145 : 0 ≤ (x5_1 : Int):=of_decide_eq_true (by first | (with_reducible assumption) | assumption)
          have q145 : x5_1 < (l0.length : Int):=of_decide_eq_true (by first | (with_reducible assumption) | assumption)
          obtain ⟨ad145,e145,hx145_0,hx145_1,hx145_2,hx145_3⟩:=at_T67 HR0.out x5_1 p145 q145
          cases e145
          replace p145:=eq_true p145
          replace q145:=eq_true q145
          have p148 : 0 ≤ (x5_1 : Int):=of_decide_eq_true (by first | (with_reducible assumption) | assumption)
          have q148 : x5_1 < (l0.length : Int):=of_decide_eq_true (by first | (with_reducible assumption) | assumption)
          obtain ⟨ad148,e148,hx148_0,hx148_1,hx148_2,hx148_3⟩:=at_T67 HR0.out x5_1 p148 q148
          obtain rfl : ad145 = ad148:=(by injection e148)
          replace p148:=eq_true p148
          replace q148:=eq_true q148
          have p149 : 0 ≤ (x5_1 : Int):=of_decide_eq_true (by first | (with_reducible assumption) | assumption)
          have q149 : x5_1 < (l0.length : Int):=of_decide_eq_true (by first | (with_reducible assumption) | assumption)
          obtain ⟨ad149,e149,hx149_0,hx149_1,hx149_2,hx149_3⟩:=at_T67 HR0.out x5_1 p149 q149
          obtain rfl : ad145 = ad149:=(by injection e149)
          replace p149:=eq_true p149
          replace q149:=eq_true q149
          have p150 : 0 ≤ (a1 : Int):=of_decide_eq_true (by first | (with_reducible assumption) | assumption)
          have q150 : a1 < (l0.length : Int):=of_decide_eq_true (by first | (with_reducible assumption) | assumption)
          obtain ⟨ad150,e150,hx150_0,hx150_1,hx150_2,hx150_3⟩:=at_T67 HR0.out a1 p150 q150
          obtain rfl : ad145 = ad150:=(by injection e150)
          replace p150:=eq_true p150
          replace q150:=eq_true q150
          go_wp2
          repeat (go_quiet (fail);try go_wp2)
          go_roundg k1
          case measure => have:=HK1.out;omega
          case rel => exact ⟨(wrap64 (x5_1 + 1)),(by first | rfl | (simp;done) | (simp [*];done)),H',⟨by have:=HK1.out;omega⟩,by repeat (first | exact Drawn0.refl _ | apply Drawn0.step)⟩
        ·rw [if_neg c11] at H
         exact absurd H (by simp)
       ·rw [if_neg c10] at H
        exact absurd H (by simp)
      ·rw [if_neg c9] at H
       have c9b0 : (((rd_T67 l0 x5_1).f0) == 2) = false:=beq_eq_false_iff_ne.mpr c9
       have c9b1 : (((rd_T67 l0 x5_1).f0) != 2) = true:=bne_iff_ne.mpr c9
       have H':=Aside0.mk H
       clear H
       have p145 : 0 ≤ (x5_1 : Int):=of_decide_eq_true (by first | (with_reducible assumption) | assumption)
       have q145 : x5_1 < (l0.length : Int):=of_decide_eq_true (by first | (with_reducible assumption) | assumption)
       obtain ⟨ad145,e145,hx145_0,hx145_1,hx145_2,hx145_3⟩:=at_T67 HR0.out x5_1 p145 q145
       cases e145
       replace p145:=eq_true p145
       replace q145:=eq_true q145
       have p148 : 0 ≤ (x5_1 : Int):=of_decide_eq_true (by first | (with_reducible assumption) | assumption)
       have q148 : x5_1 < (l0.length : Int):=of_decide_eq_true (by first | (with_reducible assumption) | assumption)
       obtain ⟨ad148,e148,hx148_0,hx148_1,hx148_2,hx148_3⟩:=at_T67 HR0.out x5_1 p148 q148
       obtain rfl : ad145 = ad148:=(by injection e148)
       replace p148:=eq_true p148
       replace q148:=eq_true q148
       go_wp2
       repeat (go_quiet (fail);try go_wp2)
       go_roundg k1
       case measure => have:=HK1.out;omega
       case rel => exact ⟨(wrap64 (x5_1 + 1)),(by first | rfl | (simp;done) | (simp [*];done)),H',⟨by have:=HK1.out;omega⟩,by repeat (first | exact Drawn0.refl _ | apply Drawn0.step)⟩
    ·rw [if_neg c4] at H
     exact absurd H (by simp)
   ·rw [if_neg c3] at H
    have c3b0 : decide (x5_1 < (l0.length : Int)) = false:=decide_eq_false c3
    clear c3
    obtain rfl:=Option.some.inj H
    go_wp2
    repeat (go_quiet (fail);try go_wp2)
    go_ret
    exact ⟨by first | rfl | (simp;done) | (simp [*];done),by repeat (first | exact Drawn0.refl _ | apply Drawn0.step)⟩

end Go.Proofs.Ytnmmdeonkpfccaa.Pr
namespace Go.Proofs.Ytnmmdeonkpfccaa.Pr
open Go.RowKit Go.Proofs.YtnmmdeonkpfccaaW.PrintWords Go.Proofs.YtnmmdeonkpfccaaW.PrintLast Go.Proofs.YtnmmdeonkpfccaaW.PrintMore
attribute [local go_sem] max2_int min2_int max_two min_two max_three min_three max_four min_four
set_option linter.unusedVariables false
set_option linter.unusedSimpArgs false

/-! ### metrolabref53_State: function 39 -/
def metrolabref53_State.f (k : Nat) (l0 : List (S67)) (a1 : Int) : Option (Int):=if 0 ≤ a1 then (if a1 < (l0.length : Int) then (if ((rd_T67 l0 a1).f0) = 0 then ((metrolabref53_Next.f k l0 a1).bind fun t152 => (if t152 < 0 then (some 1) else (if 0 ≤ t152 then (if t152 < (l0.length : Int) then (some (wrap64 (1 + ((rd_T67 l0 t152).f0)))) else (none)) else (none)))) else (some 0)) else (none)) else (none)
theorem metrolabref53_State.mono : ∀ a0 a1 k,LeO (metrolabref53_State.f k a0 a1) (metrolabref53_State.f (k + 1) a0 a1):=by
 intro a0 a1 k
 unfold metrolabref53_State.f
 repeat' first
   | (with_reducible exact metrolabref53_Next.mono _ _ _)
   | (with_reducible exact LeO.refl _)
   | (with_reducible exact LeO.none _)
   | (with_reducible refine LeO.ite ?_ ?_)
   | (with_reducible refine LeO.bind ?_ (fun _ => ?_))
   | exact metrolabref53_Next.mono _ _ _
   | exact LeO.none _
   | refine LeO.ite ?_ ?_
   | refine LeO.bind ?_ (fun _ => ?_)
set_option maxHeartbeats 8000000 in
set_option maxRecDepth 100000 in
theorem metrolabref53_State.calls (k : Nat) (A0 : Option Addr) (c0 : Nat) (l0 : List (S67)) (a1 : Int) (r : Int) (w : World) (hr0 : Kd.C k67 w A0 l0.length l0) (hc0 : l0.length ≤ c0) (h : metrolabref53_State.f k l0 a1 = some r) :
  Calls Try.prog 39 #[.slice A0 l0.length c0,.int .i64 a1] w fun e w' => e = .returned (.int .i64 r) ∧ Drawn0 w w':=by
 have HR0:=Aside0.mk hr0
 have HC0:=Aside0.mk hc0
 clear hr0 hc0
 have H : (if 0 ≤ a1 then (if a1 < (l0.length : Int) then (if ((rd_T67 l0 a1).f0) = 0 then ((metrolabref53_Next.f k l0 a1).bind fun t152 => (if t152 < 0 then (some 1) else (if 0 ≤ t152 then (if t152 < (l0.length : Int) then (some (wrap64 (1 + ((rd_T67 l0 t152).f0)))) else (none)) else (none)))) else (some 0)) else (none)) else (none)) = some r:=h
 clear h
 by_cases c3 : 0 ≤ a1
 ·rw [if_pos c3] at H
  have c3b0 : decide (0 ≤ a1) = true:=decide_eq_true c3
  clear c3
  by_cases c4 : a1 < (l0.length : Int)
  ·rw [if_pos c4] at H
   have c4b0 : decide (a1 < (l0.length : Int)) = true:=decide_eq_true c4
   clear c4
   by_cases c5 : ((rd_T67 l0 a1).f0) = 0
   ·rw [if_pos c5] at H
    have c5b0 : (((rd_T67 l0 a1).f0) == 0) = true:=beq_iff_eq.mpr c5
    have c5b1 : (((rd_T67 l0 a1).f0) != 0) = false:=bne_eq_false_iff_eq.mpr c5
    clear c5
    replace H:=Option.bind_eq_some_iff.mp H
    obtain ⟨t152,A60,H⟩:=H
    replace H : (if t152 < 0 then (some 1) else (if 0 ≤ t152 then (if t152 < (l0.length : Int) then (some (wrap64 (1 + ((rd_T67 l0 t152).f0)))) else (none)) else (none))) = some r:=H
    have A6:=Aside0.mk A60
    clear A60
    by_cases c7 : t152 < 0
    ·rw [if_pos c7] at H
     have c7b0 : decide (t152 < 0) = true:=decide_eq_true c7
     clear c7
     obtain rfl:=Option.some.inj H
     have p151 : 0 ≤ (a1 : Int):=of_decide_eq_true (by first | (with_reducible assumption) | assumption)
     have q151 : a1 < (l0.length : Int):=of_decide_eq_true (by first | (with_reducible assumption) | assumption)
     obtain ⟨ad151,e151,hx151_0,hx151_1,hx151_2,hx151_3⟩:=at_T67 HR0.out a1 p151 q151
     cases e151
     replace p151:=eq_true p151
     replace q151:=eq_true q151
     go_enter Try.func39,Try.ntmps39
     go_wp2_with (first | ((with_reducible refine gate_callee (f:=52) rfl ?_);refine goesL_ (some 14) rfl rfl Try.func52 (by kernel_rfl) rfl #[.slice (some ad151) l0.length c0,.int .i64 a1] rfl (by (try simp only [List.map_toArray,List.map_cons,List.map_nil]);first | done | rfl | (simp only [List.length_drop,List.length_take];rfl)) ?_;(with_reducible refine (metrolabref53_Next.calls k _ _ l0 a1 t152 _ ?side1 ?side2 A6.out).mono ?_);(case side1 => repeat (first | exact HR0.out | (with_reducible refine Kd.C_alloc ?_ _) | (with_reducible refine Kd.C_drewN ?_ _) | (with_reducible refine Kd.C_drew ?_)));(case side2 => exact HC0.out);rintro e w' ⟨rfl,⟨nd,rfl⟩⟩;refine ⟨_,rfl,?_⟩))
     go_ret
     exact ⟨by first | rfl | (simp;done) | (simp [*];done),by repeat (first | exact Drawn0.refl _ | apply Drawn0.step)⟩
    ·rw [if_neg c7] at H
     have c7b0 : decide (t152 < 0) = false:=decide_eq_false c7
     clear c7
     by_cases c8 : 0 ≤ t152
     ·rw [if_pos c8] at H
      have c8b0 : decide (0 ≤ t152) = true:=decide_eq_true c8
      clear c8
      by_cases c9 : t152 < (l0.length : Int)
      ·rw [if_pos c9] at H
       have c9b0 : decide (t152 < (l0.length : Int)) = true:=decide_eq_true c9
       clear c9
       obtain rfl:=Option.some.inj H
       have p151 : 0 ≤ (a1 : Int):=of_decide_eq_true (by first | (with_reducible assumption) | assumption)
       have q151 : a1 < (l0.length : Int):=of_decide_eq_true (by first | (with_reducible assumption) | assumption)
       obtain ⟨ad151,e151,hx151_0,hx151_1,hx151_2,hx151_3⟩:=at_T67 HR0.out a1 p151 q151
       cases e151
       replace p151:=eq_true p151
       replace q151:=eq_true q151
       go_enter Try.func39,Try.ntmps39
       go_wp2_with (first | ((with_reducible refine gate_callee (f:=52) rfl ?_);refine goesL_ (some 14) rfl rfl Try.func52 (by kernel_rfl) rfl #[.slice (some ad151) l0.length c0,.int .i64 a1] rfl (by (try simp only [List.map_toArray,List.map_cons,List.map_nil]);first | done | rfl | (simp only [List.length_drop,List.length_take];rfl)) ?_;(with_reducible refine (metrolabref53_Next.calls k _ _ l0 a1 t152 _ ?side1 ?side2 A6.out).mono ?_);(case side1 => repeat (first | exact HR0.out | (with_reducible refine Kd.C_alloc ?_ _) | (with_reducible refine Kd.C_drewN ?_ _) | (with_reducible refine Kd.C_drew ?_)));(case side2 => exact HC0.out);rintro e w' ⟨rfl,⟨nd,rfl⟩⟩;refine ⟨_,rfl,?_⟩;have p153 : 0 ≤ (t152 : Int):=of_decide_eq_true (by first | (with_reducible assumption) | assumption);have q153 : t152 < (l0.length : Int):=of_decide_eq_true (by first | (with_reducible assumption) | assumption);obtain ⟨ad153,e153,hx153_0,hx153_1,hx153_2,hx153_3⟩:=at_T67 HR0.out t152 p153 q153;obtain rfl : ad151 = ad153:=(by injection e153);replace p153:=eq_true p153;replace q153:=eq_true q153))
       go_ret
       exact ⟨by first | rfl | (simp;done) | (simp [*];done),by repeat (first | exact Drawn0.refl _ | apply Drawn0.step)⟩
      ·rw [if_neg c9] at H
       exact absurd H (by simp)
     ·rw [if_neg c8] at H
      exact absurd H (by simp)
   ·rw [if_neg c5] at H
    have c5b0 : (((rd_T67 l0 a1).f0) == 0) = false:=beq_eq_false_iff_ne.mpr c5
    have c5b1 : (((rd_T67 l0 a1).f0) != 0) = true:=bne_iff_ne.mpr c5
    obtain rfl:=Option.some.inj H
    have p151 : 0 ≤ (a1 : Int):=of_decide_eq_true (by first | (with_reducible assumption) | assumption)
    have q151 : a1 < (l0.length : Int):=of_decide_eq_true (by first | (with_reducible assumption) | assumption)
    obtain ⟨ad151,e151,hx151_0,hx151_1,hx151_2,hx151_3⟩:=at_T67 HR0.out a1 p151 q151
    cases e151
    replace p151:=eq_true p151
    replace q151:=eq_true q151
    go_enter Try.func39,Try.ntmps39
    go_wp2
    go_ret
    exact ⟨by first | rfl | (simp;done) | (simp [*];done),by repeat (first | exact Drawn0.refl _ | apply Drawn0.step)⟩
  ·rw [if_neg c4] at H
   exact absurd H (by simp)
 ·rw [if_neg c3] at H
  exact absurd H (by simp)

end Go.Proofs.Ytnmmdeonkpfccaa.Pr
namespace Go.Proofs.Ytnmmdeonkpfccaa.Pr
open Go.RowKit Go.Proofs.YtnmmdeonkpfccaaW.PrintWords Go.Proofs.YtnmmdeonkpfccaaW.PrintLast Go.Proofs.YtnmmdeonkpfccaaW.PrintMore
attribute [local go_sem] max2_int min2_int max_two min_two max_three min_three max_four min_four
set_option linter.unusedVariables false
set_option linter.unusedSimpArgs false

/-! ### metrolabref53_States: function 12 -/
def metrolabref53_States.l0 : Nat → List (S67) → List Int → Int → Option (List Int × Int)
 | 0,_,_,_ => none
 | k + 1,x0,x5,x6 => if x6 < (x0.length : Int) then ((metrolabref53_State.f k x0 x6).bind fun t155 => (if x5.length < 17592186044416 then (metrolabref53_States.l0 k x0 (x5 ++ [t155]) (wrap64 (x6 + 1))) else (none))) else (some (x5,0))
def metrolabref53_States.f (k : Nat) (l0 : List (S67)) : Option (List Int × Int):=(metrolabref53_Check.f k l0).bind fun t154 => (if t154 = 0 then (metrolabref53_States.l0 k l0 ([] : List Int) 0) else (some (([] : List Int),t154)))
theorem metrolabref53_States.mono_l : ∀ k,(∀ y0 y1 y2,LeO (metrolabref53_States.l0 k y0 y1 y2) (metrolabref53_States.l0 (k + 1) y0 y1 y2))
 | 0 => fun _ _ _ r h => by simp [metrolabref53_States.l0] at h
 | k + 1 => by
  have ih0:=metrolabref53_States.mono_l k
  ·intro y0 y1 y2
   unfold metrolabref53_States.l0
   repeat' first
   | (with_reducible exact ih0 _ _ _)
   | (with_reducible exact metrolabref53_Check.mono _ _)
   | (with_reducible exact metrolabref53_State.mono _ _ _)
   | (with_reducible exact LeO.refl _)
   | (with_reducible exact LeO.none _)
   | (with_reducible refine LeO.ite ?_ ?_)
   | (with_reducible refine LeO.bind ?_ (fun _ => ?_))
   | exact ih0 _ _ _
   | exact metrolabref53_Check.mono _ _
   | exact metrolabref53_State.mono _ _ _
   | exact LeO.none _
   | refine LeO.ite ?_ ?_
   | refine LeO.bind ?_ (fun _ => ?_)
theorem metrolabref53_States.mono : ∀ a0 k,LeO (metrolabref53_States.f k a0) (metrolabref53_States.f (k + 1) a0):=by
 intro a0 k
 have ih0:=metrolabref53_States.mono_l k
 unfold metrolabref53_States.f
 repeat' first
   | (with_reducible exact ih0 _ _ _)
   | (with_reducible exact metrolabref53_Check.mono _ _)
   | (with_reducible exact metrolabref53_State.mono _ _ _)
   | (with_reducible exact LeO.refl _)
   | (with_reducible exact LeO.none _)
   | (with_reducible refine LeO.ite ?_ ?_)
   | (with_reducible refine LeO.bind ?_ (fun _ => ?_))
   | exact ih0 _ _ _
   | exact metrolabref53_Check.mono _ _
   | exact metrolabref53_State.mono _ _ _
   | exact LeO.none _
   | refine LeO.ite ?_ ?_
   | refine LeO.bind ?_ (fun _ => ?_)
set_option maxHeartbeats 8000000 in
set_option maxRecDepth 100000 in
theorem metrolabref53_States.calls (k : Nat) (A0 : Option Addr) (c0 : Nat) (l0 : List (S67)) (r1 : List Int) (r2 : Int) (w : World) (hr0 : Kd.C k67 w A0 l0.length l0) (hc0 : l0.length ≤ c0) (h : metrolabref53_States.f k l0 = some (r1,r2)) :
  Calls Try.prog 12 #[.slice A0 l0.length c0] w fun e w' => ∃ v0_ : Value,e = .returned (.tuple #[v0_,.int .i64 r2]) ∧ Kd.R (Kd.int .i64) 3 w' w.heap.size (fun _ => True) v0_ r1 ∧ Below w.heap.size w w':=by
 have HR0:=Aside0.mk hr0
 have HC0:=Aside0.mk hc0
 clear hr0 hc0
 have HB:=Aside0.mk (Below.refl w.heap.size w)
 have H : ((metrolabref53_Check.f k l0).bind fun t154 => (if t154 = 0 then (metrolabref53_States.l0 k l0 ([] : List Int) 0) else (some (([] : List Int),t154)))) = some (r1,r2):=h
 clear h
 replace H:=Option.bind_eq_some_iff.mp H
 obtain ⟨t154,A20,H⟩:=H
 replace H : (if t154 = 0 then (metrolabref53_States.l0 k l0 ([] : List Int) 0) else (some (([] : List Int),t154))) = some (r1,r2):=H
 have A2:=Aside0.mk A20
 clear A20
 by_cases c3 : t154 = 0
 ·rw [if_pos c3] at H
  have c3b0 : (t154 == 0) = true:=beq_iff_eq.mpr c3
  have c3b1 : (t154 != 0) = false:=bne_eq_false_iff_eq.mpr c3
  clear c3
  have H':=Aside0.mk H
  clear H
  go_enter Try.func12,Try.ntmps12
  go_wp2_with (first | ((with_reducible refine gate_callee (f:=17) rfl ?_);refine goesL_ (some 8) rfl rfl Try.func17 (by kernel_rfl) rfl #[.slice A0 l0.length c0] rfl (by (try simp only [List.map_toArray,List.map_cons,List.map_nil]);first | done | rfl | (simp only [List.length_drop,List.length_take];rfl)) ?_;(with_reducible refine (metrolabref53_Check.calls k _ _ l0 t154 _ ?side1 ?side2 A2.out).mono ?_);(case side1 => repeat (first | exact HR0.out | (with_reducible refine Kd.C_alloc ?_ _) | (with_reducible refine Kd.C_drewN ?_ _) | (with_reducible refine Kd.C_drew ?_)));(case side2 => exact HC0.out);rintro e w4 ⟨rfl,hb⟩;refine ⟨_,rfl,?_⟩;have n0_:=Aside0.mk (below_step (by repeat (first | (with_reducible first | exact HB.out | apply below_alloc | apply pw_below_drewN | apply below_drew1) | exact HB.out)) hb);clear HB;have HB:=n0_;clear n0_;(try clear hb);(try clear hb2);(try clear hk);(try clear hi)))
  go_loopg [5,6] k (fun kq v5 v6 w' => ∃ (x5_1 : List Int) (x6_1 : Int),v6 = .int .i64 x6_1 ∧ Aside0 (metrolabref53_States.l0 kq l0 x5_1 x6_1 = some (r1,r2)) ∧ Aside0 (kq ≤ k) ∧ Aside0 (Kd.R (Kd.int .i64) 3 w' w.heap.size (fun _ => True) v5 x5_1) ∧ Aside0 (Below w.heap.size w w'))
  case atStart => exact ⟨(([] : List Int)),(0),(by first | rfl | (simp;done) | (simp [*];done)),H',⟨Nat.le_refl _⟩,⟨by first | exact Kd.R_nil _ _ _ _ _ | exact Kd.N_nil _ _ _ _ _ | exact Kd.V_nil _ _ _ _ _ | exact Kd.Q_nil _ _ _ _ _ | exact Kd.S_nil _ _ _ _ _⟩,⟨by repeat (first | (with_reducible first | exact HB.out | apply below_alloc | apply pw_below_drewN | apply below_drew1) | exact HB.out)⟩⟩
  case round =>
   clear H'
   try clear c1
   try clear p2
   try clear c3
   try clear c3b0
   try clear c3b1
   obtain ⟨x5_1,x6_1,rfl,HA,HK1,HO_5,HB⟩:=hrel
   cases gk with
   | zero => exact absurd HA.out (by simp [metrolabref53_States.l0])
   | succ k1 =>
    have H:=HA.out
    clear HA
    simp only [metrolabref53_States.l0] at H
    by_cases c5 : x6_1 < (l0.length : Int)
    ·rw [if_pos c5] at H
     have c5b0 : decide (x6_1 < (l0.length : Int)) = true:=decide_eq_true c5
     clear c5
     replace H:=Option.bind_eq_some_iff.mp H
     obtain ⟨t155,A60,H⟩:=H
     replace H : (if x5_1.length < 17592186044416 then (metrolabref53_States.l0 k1 l0 (x5_1 ++ [t155]) (wrap64 (x6_1 + 1))) else (none)) = some (r1,r2):=H
     have A6:=Aside0.mk A60
     clear A60
     by_cases c7 : x5_1.length < 17592186044416
     ·rw [if_pos c7] at H
      have LMc7:=Aside0.mk c7
      clear c7
      obtain ⟨y156,hy156⟩ : ∃ y_ : List Int,y_ = (x5_1 ++ [t155]):=⟨_,rfl⟩
      replace H : (metrolabref53_States.l0 k1 l0 y156 (wrap64 (x6_1 + 1))) = some (r1,r2):=by first | (rw [hy156];with_reducible exact H) | (have H2_:=(Option.bind_some _ _).symm.trans H;rw [hy156];with_reducible exact H2_) | (have H2_:=(Option.bind_some _ _).symm.trans H;with_reducible exact H2_) | with_reducible exact H | (rw [hy156];exact H) | exact H
      have Ny156:=Aside0.mk hy156
      clear hy156
      have H':=Aside0.mk H
      clear H
      go_wp2_with (first | ((with_reducible refine gate_callee (f:=39) rfl ?_);refine goesL_ (some 21) rfl rfl Try.func39 (by kernel_rfl) rfl #[.slice A0 l0.length c0,.int .i64 x6_1] rfl (by (try simp only [List.map_toArray,List.map_cons,List.map_nil]);first | done | rfl | (simp only [List.length_drop,List.length_take];rfl)) ?_;(with_reducible refine (metrolabref53_State.calls k1 _ _ l0 x6_1 t155 _ ?side1 ?side2 A6.out).mono ?_);(case side1 => repeat (first | exact (Kd.C_below HR0.out HB.out) | (with_reducible refine Kd.C_alloc ?_ _) | (with_reducible refine Kd.C_drewN ?_ _) | (with_reducible refine Kd.C_drew ?_)));(case side2 => exact HC0.out);rintro e w' ⟨rfl,⟨nd,rfl⟩⟩;refine ⟨_,rfl,?_⟩) | ((with_reducible refine gate_builtin (b:=.append) (xs:=#[.tmp 18,.tmp 22]) rfl ?_);at_builtin;refine Kd.R_append (Kd.int .i64) (w0:=w) w.heap.size rfl (.tmp 18) (.tmp 22) 25 3 (.int .i64 0) 8 rfl Try.underlying25 info3 rfl (by decide) (by omega) u5 x5_1 t155 [.int .i64 t155] (fun _ => True) (fun _ => False) rfl rfl ?aP (fun _ hk => hk.elim) ?aF ?aO ?aB ?aS ?aL ?_;(case aP => exact rfl);(case aB => exact (by repeat (first | (with_reducible first | exact HB.out | apply below_alloc | apply pw_below_drewN | apply below_drew1) | exact HB.out)));(case aF => exact (fun _ _ => trivial));(case aO => exact (by (with_reducible repeat (first | apply Kd.R_alloc | apply Kd.R_drewN | apply Kd.R_drew));exact HO_5.out));(case aS => exact (below_size (by repeat (first | (with_reducible first | exact HB.out | apply below_alloc | apply pw_below_drewN | apply below_drew1) | exact HB.out))));(case aL => have:=LMc7.out;omega);intro v157 w8 ho hb hg hat;rw [← Ny156.out] at ho;have n0_:=Aside0.mk (hb);have n1_:=Aside0.mk (ho);clear HB;clear HO_5;have HB:=n0_;have HO158:=n1_;clear n0_ n1_;clear ho hb hg hat))
      go_roundg k1
      case measure => have:=HK1.out;omega
      case rel => exact ⟨(y156),(wrap64 (x6_1 + 1)),(by first | rfl | (simp;done) | (simp [*];done)),H',⟨by have:=HK1.out;omega⟩,⟨by (with_reducible repeat (first | apply Kd.R_alloc | apply Kd.R_drewN | apply Kd.R_drew));exact HO158.out⟩,⟨by repeat (first | (with_reducible first | exact HB.out | apply below_alloc | apply pw_below_drewN | apply below_drew1) | exact HB.out)⟩⟩
     ·rw [if_neg c7] at H
      exact absurd H (by simp)
    ·rw [if_neg c5] at H
     have c5b0 : decide (x6_1 < (l0.length : Int)) = false:=decide_eq_false c5
     clear c5
     simp only [Option.some.injEq,Prod.mk.injEq] at H
     obtain ⟨rfl,rfl⟩:=H
     go_wp2
     go_ret2
     exact ⟨_,by first | rfl | (simp [errW_none,errW_some] <;> rfl) | (simp [*,errW_none,errW_some] <;> rfl),by (with_reducible repeat (first | apply Kd.R_alloc | apply Kd.R_drewN | apply Kd.R_drew));exact HO_5.out,by repeat (first | (with_reducible first | exact HB.out | apply below_alloc | apply pw_below_drewN | apply below_drew1) | exact HB.out)⟩
 ·rw [if_neg c3] at H
  have c3b0 : (t154 == 0) = false:=beq_eq_false_iff_ne.mpr c3
  have c3b1 : (t154 != 0) = true:=bne_iff_ne.mpr c3
  simp only [Option.some.injEq,Prod.mk.injEq] at H
  obtain ⟨rfl,rfl⟩:=H
  go_enter Try.func12,Try.ntmps12
  go_wp2_with (first | ((with_reducible refine gate_callee (f:=17) rfl ?_);refine goesL_ (some 8) rfl rfl Try.func17 (by kernel_rfl) rfl #[.slice A0 l0.length c0] rfl (by (try simp only [List.map_toArray,List.map_cons,List.map_nil]);first | done | rfl | (simp only [List.length_drop,List.length_take];rfl)) ?_;(with_reducible refine (metrolabref53_Check.calls k _ _ l0 t154 _ ?side1 ?side2 A2.out).mono ?_);(case side1 => repeat (first | exact HR0.out | (with_reducible refine Kd.C_alloc ?_ _) | (with_reducible refine Kd.C_drewN ?_ _) | (with_reducible refine Kd.C_drew ?_)));(case side2 => exact HC0.out);rintro e w9 ⟨rfl,hb⟩;refine ⟨_,rfl,?_⟩;have n0_:=Aside0.mk (below_step (by repeat (first | (with_reducible first | exact HB.out | apply below_alloc | apply pw_below_drewN | apply below_drew1) | exact HB.out)) hb);clear HB;have HB:=n0_;clear n0_;(try clear hb);(try clear hb2);(try clear hk);(try clear hi)))
  go_ret2
  exact ⟨_,by first | rfl | (simp [errW_none,errW_some] <;> rfl) | (simp [*,errW_none,errW_some] <;> rfl),by first | exact Kd.R_nil _ _ _ _ _ | exact Kd.N_nil _ _ _ _ _ | exact Kd.V_nil _ _ _ _ _ | exact Kd.Q_nil _ _ _ _ _ | exact Kd.S_nil _ _ _ _ _,by repeat (first | (with_reducible first | exact HB.out | apply below_alloc | apply pw_below_drewN | apply below_drew1) | exact HB.out)⟩

end Go.Proofs.Ytnmmdeonkpfccaa.Pr
namespace Go.Proofs.Ytnmmdeonkpfccaa.Pr
open Go.RowKit Go.Proofs.YtnmmdeonkpfccaaW.PrintWords Go.Proofs.YtnmmdeonkpfccaaW.PrintLast Go.Proofs.YtnmmdeonkpfccaaW.PrintMore
attribute [local go_sem] max2_int min2_int max_two min_two max_three min_three max_four min_four
set_option linter.unusedVariables false
set_option linter.unusedSimpArgs false

/-! ### metrolabref53_First: function 51 -/
def metrolabref53_First.l0 : Nat → List (S67) → ByteArray → Int → Int → Option (Int)
 | 0,_,_,_,_ => none
 | k + 1,x0,x1,x2,x7 => if x7 < (x0.length : Int) then (if 0 ≤ x7 then (if ((rd_T67 x0 x7).f2).toList = x1.toList then ((metrolabref53_State.f k x0 x7).bind fun t160 => (if t160 = x2 then (some x7) else (metrolabref53_First.l0 k x0 x1 x2 (wrap64 (x7 + 1))))) else (metrolabref53_First.l0 k x0 x1 x2 (wrap64 (x7 + 1)))) else (none)) else (some (-1))
def metrolabref53_First.f (k : Nat) (l0 : List (S67)) (a1 : ByteArray) (a2 : Int) : Option (Int):=metrolabref53_First.l0 k l0 a1 a2 0
theorem metrolabref53_First.mono_l : ∀ k,(∀ y0 y1 y2 y3,LeO (metrolabref53_First.l0 k y0 y1 y2 y3) (metrolabref53_First.l0 (k + 1) y0 y1 y2 y3))
 | 0 => fun _ _ _ _ r h => by simp [metrolabref53_First.l0] at h
 | k + 1 => by
  have ih0:=metrolabref53_First.mono_l k
  ·intro y0 y1 y2 y3
   unfold metrolabref53_First.l0
   repeat' first
   | (with_reducible exact ih0 _ _ _ _)
   | (with_reducible exact metrolabref53_State.mono _ _ _)
   | (with_reducible exact LeO.refl _)
   | (with_reducible exact LeO.none _)
   | (with_reducible refine LeO.ite ?_ ?_)
   | (with_reducible refine LeO.bind ?_ (fun _ => ?_))
   | exact ih0 _ _ _ _
   | exact metrolabref53_State.mono _ _ _
   | exact LeO.none _
   | refine LeO.ite ?_ ?_
   | refine LeO.bind ?_ (fun _ => ?_)
theorem metrolabref53_First.mono : ∀ a0 a1 a2 k,LeO (metrolabref53_First.f k a0 a1 a2) (metrolabref53_First.f (k + 1) a0 a1 a2):=by
 intro a0 a1 a2 k
 have ih0:=metrolabref53_First.mono_l k
 unfold metrolabref53_First.f
 repeat' first
   | (with_reducible exact ih0 _ _ _ _)
   | (with_reducible exact metrolabref53_State.mono _ _ _)
   | (with_reducible exact LeO.refl _)
   | (with_reducible exact LeO.none _)
   | (with_reducible refine LeO.ite ?_ ?_)
   | (with_reducible refine LeO.bind ?_ (fun _ => ?_))
   | exact ih0 _ _ _ _
   | exact metrolabref53_State.mono _ _ _
   | exact LeO.none _
   | refine LeO.ite ?_ ?_
   | refine LeO.bind ?_ (fun _ => ?_)
set_option maxHeartbeats 8000000 in
set_option maxRecDepth 100000 in
theorem metrolabref53_First.calls (k : Nat) (A0 : Option Addr) (c0 : Nat) (l0 : List (S67)) (a1 : ByteArray) (a2 : Int) (r : Int) (w : World) (hr0 : Kd.C k67 w A0 l0.length l0) (hc0 : l0.length ≤ c0) (h : metrolabref53_First.f k l0 a1 a2 = some r) :
  Calls Try.prog 51 #[.slice A0 l0.length c0,.string a1,.int .i64 a2] w fun e w' => e = .returned (.int .i64 r) ∧ Drawn0 w w':=by
 have HR0:=Aside0.mk hr0
 have HC0:=Aside0.mk hc0
 clear hr0 hc0
 have H : (metrolabref53_First.l0 k l0 a1 a2 0) = some r:=h
 clear h
 have H':=Aside0.mk H
 clear H
 go_enter Try.func51,Try.ntmps51
 go_wp2
 go_loopg [7] k (fun kq v7 w' => ∃ (x7_1 : Int),v7 = .int .i64 x7_1 ∧ Aside0 (metrolabref53_First.l0 kq l0 a1 a2 x7_1 = some r) ∧ Aside0 (kq ≤ k) ∧ Drawn0 w w')
 case atStart => exact ⟨(0),(by first | rfl | (simp;done) | (simp [*];done)),H',⟨Nat.le_refl _⟩,by repeat (first | exact Drawn0.refl _ | apply Drawn0.step)⟩
 case round =>
  clear H'
  try clear p2
  obtain ⟨x7_1,rfl,HA,HK1,⟨m1,rfl⟩⟩:=hrel
  cases gk with
  | zero => exact absurd HA.out (by simp [metrolabref53_First.l0])
  | succ k1 =>
   have H:=HA.out
   clear HA
   simp only [metrolabref53_First.l0] at H
   by_cases c4 : x7_1 < (l0.length : Int)
   ·rw [if_pos c4] at H
    have c4b0 : decide (x7_1 < (l0.length : Int)) = true:=decide_eq_true c4
    clear c4
    by_cases c5 : 0 ≤ x7_1
    ·rw [if_pos c5] at H
     have c5b0 : decide (0 ≤ x7_1) = true:=decide_eq_true c5
     clear c5
     by_cases c6 : ((rd_T67 l0 x7_1).f2).toList = a1.toList
     ·rw [if_pos c6] at H
      have c6b0 : (((rd_T67 l0 x7_1).f2).toList == a1.toList) = true:=beq_iff_eq.mpr c6
      have c6b1 : (((rd_T67 l0 x7_1).f2).toList != a1.toList) = false:=bne_eq_false_iff_eq.mpr c6
      clear c6
      replace H:=Option.bind_eq_some_iff.mp H
      obtain ⟨t160,A70,H⟩:=H
      replace H : (if t160 = a2 then (some x7_1) else (metrolabref53_First.l0 k1 l0 a1 a2 (wrap64 (x7_1 + 1)))) = some r:=H
      have A7:=Aside0.mk A70
      clear A70
      by_cases c8 : t160 = a2
      ·rw [if_pos c8] at H
       have c8b0 : (t160 == a2) = true:=beq_iff_eq.mpr c8
       have c8b1 : (t160 != a2) = false:=bne_eq_false_iff_eq.mpr c8
       clear c8
       obtain rfl:=Option.some.inj H
       have p159 : 0 ≤ (x7_1 : Int):=of_decide_eq_true (by first | (with_reducible assumption) | assumption)
       have q159 : x7_1 < (l0.length : Int):=of_decide_eq_true (by first | (with_reducible assumption) | assumption)
       obtain ⟨ad159,e159,hx159_0,hx159_1,hx159_2,hx159_3⟩:=at_T67 HR0.out x7_1 p159 q159
       cases e159
       replace p159:=eq_true p159
       replace q159:=eq_true q159
       go_wp2_with (first | (go_at_call 39;(with_reducible refine (metrolabref53_State.calls k1 _ _ l0 x7_1 t160 _ ?side1 ?side2 A7.out).mono ?_);(case side1 => repeat (first | exact HR0.out | (with_reducible refine Kd.C_alloc ?_ _) | (with_reducible refine Kd.C_drewN ?_ _) | (with_reducible refine Kd.C_drew ?_)));(case side2 => exact HC0.out);rintro e w' ⟨rfl,⟨nd,rfl⟩⟩))
       go_ret
       exact ⟨by first | rfl | (simp;done) | (simp [*];done),by repeat (first | exact Drawn0.refl _ | apply Drawn0.step)⟩
      ·rw [if_neg c8] at H
       have c8b0 : (t160 == a2) = false:=beq_eq_false_iff_ne.mpr c8
       have c8b1 : (t160 != a2) = true:=bne_iff_ne.mpr c8
       have H':=Aside0.mk H
       clear H
       have p159 : 0 ≤ (x7_1 : Int):=of_decide_eq_true (by first | (with_reducible assumption) | assumption)
       have q159 : x7_1 < (l0.length : Int):=of_decide_eq_true (by first | (with_reducible assumption) | assumption)
       obtain ⟨ad159,e159,hx159_0,hx159_1,hx159_2,hx159_3⟩:=at_T67 HR0.out x7_1 p159 q159
       cases e159
       replace p159:=eq_true p159
       replace q159:=eq_true q159
       go_wp2_with (first | (go_at_call 39;(with_reducible refine (metrolabref53_State.calls k1 _ _ l0 x7_1 t160 _ ?side1 ?side2 A7.out).mono ?_);(case side1 => repeat (first | exact HR0.out | (with_reducible refine Kd.C_alloc ?_ _) | (with_reducible refine Kd.C_drewN ?_ _) | (with_reducible refine Kd.C_drew ?_)));(case side2 => exact HC0.out);rintro e w' ⟨rfl,⟨nd,rfl⟩⟩))
       go_roundg k1
       case measure => have:=HK1.out;omega
       case rel => exact ⟨(wrap64 (x7_1 + 1)),(by first | rfl | (simp;done) | (simp [*];done)),H',⟨by have:=HK1.out;omega⟩,by repeat (first | exact Drawn0.refl _ | apply Drawn0.step)⟩
     ·rw [if_neg c6] at H
      have c6b0 : (((rd_T67 l0 x7_1).f2).toList == a1.toList) = false:=beq_eq_false_iff_ne.mpr c6
      have c6b1 : (((rd_T67 l0 x7_1).f2).toList != a1.toList) = true:=bne_iff_ne.mpr c6
      have H':=Aside0.mk H
      clear H
      have p159 : 0 ≤ (x7_1 : Int):=of_decide_eq_true (by first | (with_reducible assumption) | assumption)
      have q159 : x7_1 < (l0.length : Int):=of_decide_eq_true (by first | (with_reducible assumption) | assumption)
      obtain ⟨ad159,e159,hx159_0,hx159_1,hx159_2,hx159_3⟩:=at_T67 HR0.out x7_1 p159 q159
      cases e159
      replace p159:=eq_true p159
      replace q159:=eq_true q159
      go_wp2
      go_roundg k1
      case measure => have:=HK1.out;omega
      case rel => exact ⟨(wrap64 (x7_1 + 1)),(by first | rfl | (simp;done) | (simp [*];done)),H',⟨by have:=HK1.out;omega⟩,by repeat (first | exact Drawn0.refl _ | apply Drawn0.step)⟩
    ·rw [if_neg c5] at H
     exact absurd H (by simp)
   ·rw [if_neg c4] at H
    have c4b0 : decide (x7_1 < (l0.length : Int)) = false:=decide_eq_false c4
    clear c4
    obtain rfl:=Option.some.inj H
    go_wp2
    go_ret
    exact ⟨by first | rfl | (simp;done) | (simp [*];done),by repeat (first | exact Drawn0.refl _ | apply Drawn0.step)⟩

end Go.Proofs.Ytnmmdeonkpfccaa.Pr
/- A law for a range over a function: the iterator may use memory of its own in whatever way; the rounds turn only blocks of a set that the caller names. -/
set_option linter.unusedVariables false
namespace Go.Proofs.Ytnmmdeonkpfccaa.Rg
open Go Go.RowKit
variable {P : Program}

/-- Of what lay in W, only blocks of the set C have turned. -/
structure KeepC (C : Nat → Prop) (W W' : World) : Prop where
 size : W.heap.size ≤ W'.heap.size
 same : ∀ i,i < W.heap.size → ¬ C i → W'.heap[i]? = W.heap[i]?
theorem KeepC.refl (C : Nat → Prop) (W : World) : KeepC C W W:=⟨Nat.le_refl _,fun _ _ _ => rfl⟩
theorem KeepC.trans {C : Nat → Prop} {X Y Z : World} (h : KeepC C X Y) (k : KeepC C Y Z) : KeepC C X Z :=
 ⟨Nat.le_trans h.size k.size,fun i hi hc => (k.same i (Nat.lt_of_lt_of_le hi h.size) hc).trans (h.same i hi hc)⟩
theorem KeepC.mono {C D : Nat → Prop} {W W' : World} (h : KeepC C W W') (hs : ∀ i,C i → D i) : KeepC D W W':=⟨h.size,fun i hi hd => h.same i hi fun hc => hd (hs i hc)⟩
theorem KeepC.alloc {C : Nat → Prop} {X Y : World} (h : KeepC C X Y) (o : Obj) : KeepC C X (Y.alloc o) :=
 h.trans ⟨by simp,fun i hi _ => Below.heap_alloc _ _ _ hi⟩
theorem KeepC.drew {C : Nat → Prop} {X Y : World} (h : KeepC C X Y) : KeepC C X Y.drew:=⟨h.size,h.same⟩
theorem KeepC.setCell {C : Nat → Prop} {X Y : World} (h : KeepC C X Y) {p : Addr} (hp : X.heap.size ≤ p.block ∨ C p.block) (u : Value) : KeepC C X (Y.setCell p u) :=
 ⟨by simpa [World.setCell] using h.size,fun i hi hc => (Below.heap_setCell _ _ _ _ (by rintro rfl;rcases hp with h1 | h1;omega;exact hc h1)).trans (h.same i hi hc)⟩
theorem KeepC.grown {C : Nat → Prop} {X Y Z : World} {row : Option Nat} (h : KeepC C X Y) (hg : Y.grownBy Z row) (hr : ∀ k,row = some k → X.heap.size ≤ k ∨ C k) : KeepC C X Z :=
 ⟨Nat.le_trans h.size hg.size,fun i hi hc => (hg.block i (Nat.lt_of_lt_of_le hi h.size) (fun e => by rcases hr i e.symm with h1 | h1;omega;exact hc h1)).trans (h.same i hi hc)⟩
theorem KeepC.of_below {C : Nat → Prop} {X Y Z : World} (h : KeepC C X Y) (hb : Below Y.heap.size Y Z) : KeepC C X Z :=
 ⟨Nat.le_trans h.size hb.size,fun i hi hc => (hb.block i (Nat.lt_of_lt_of_le hi h.size)).trans (h.same i hi hc)⟩

/-- J reads blocks below B alone. -/
def ReadsTo {β : Type} (B : Nat) (J : β → World → Prop) : Prop:=∀ s W W',J s W → B ≤ W.heap.size → W.heap.size ≤ W'.heap.size → W.os = W'.os → W.tape = W'.tape → W.output = W'.output → (∀ i,i < B → W'.heap[i]? = W.heap[i]?) → J s W'

/-- The contract of an iterator value: what comes (S: all of it, Pf: a beginning); the rounds turn blocks of C alone. -/
def SeqB {α : Type} (P : Program) (g : Nat) (lb : Array Value) (encs : α → Array Value) (C : Nat → Prop) (S Pf : List α → Prop) (w0 : World) : Prop :=
 ∀ (n l : Nat) (J : List α → World → Prop) (W : World),Below w0.heap.size w0 W → (∀ i,C i → i < W.heap.size) → ReadsTo W.heap.size J →
  (∀ m pre x W1,J pre W1 → W.heap.size ≤ W1.heap.size → Pf (pre ++ [x]) → YieldAt Fence.wide m P l (encs x) W1 fun e W' => e = .returned (.bool true) ∧ J (pre ++ [x]) W' ∧ KeepC C W1 W') →
  J [] W →
  CallsIn Fence.wide n P g (#[.func (.yield l) #[] #[]] ++ lb) W fun e W' => (∃ v,e = .returned v) ∧ W.heap.size ≤ W'.heap.size ∧ ∃ xs,S xs ∧ J xs W'

/-- A round within a round. -/
theorem YieldAt.inRound {F : Fence} {m : Nat} {l : Nat} {args : Array Value} {W : World} {R : Ending → World → Prop} (l' : Nat) (h : YieldAt F m P l args W R) : YieldAt (F.inRound l') m P l args W R:=h

/-- How a round's body ends: off its end. -/
def postB {β : Type} (C : Nat → Prop) (I : β → World → Prop) (s : β) (W : World) : Exit → Act → World → Prop
 | .normal,_,W' => KeepC C W W' ∧ I s W'
 | _,_,_ => False

theorem rangeB {α : Type} {n : Nat} {g : Operand} {ps : Array Tmp} {assign body : Code} {Q : Exit → Act → World → Prop} {a : Act} {w : World}
  {gf : Nat} {lb : Array Value} (hg : a.eval g = .func (.func gf) #[] lb) (eg : ∀ args w,(callFunc gf args).run P w = .ok (.enter gf args) w)
  {encs : α → Array Value} (C : Nat → Prop) (hC : ∀ i,C i → i < w.heap.size) {S Pf : List α → Prop} {w0 : World} (hb0 : Below w0.heap.size w0 w)
  (hseq : SeqB P gf lb encs (fun i => C i ∨ i = w.heap.size + 1) S Pf w0) (hps : ∀ x,(encs x).size = ps.size)
  (I : List α → World → Prop) (hI : ReadsTo w.heap.size I) (h0 : I [] w)
  (Ax : α → Act → World → Prop) (hAx : ∀ x a' W W',Ax x a' W → W.heap.size = W'.heap.size → W.os = W'.os → W.tape = W'.tape → W.output = W'.output → (∀ i,i ≠ w.heap.size + 1 → W'.heap[i]? = W.heap[i]?) → Ax x a' W')
  (hassign : ∀ (m : Nat) (pre : List α) (x : α) (W : World),I pre W → w.heap.size + 2 ≤ W.heap.size → Pf (pre ++ [x]) →
   assign.wpIn (Fence.wide.inRound (w.heap.size + 1)) m P (Exit.then (fun a' W' => KeepC C W W' ∧ I pre W' ∧ Ax x a' W') (fun _ _ _ => False)) { tmps:=(ps.zip (encs x)).foldl (fun t (p,v) => t.setIfInBounds p v) a.tmps,defers:=[] } W)
  (hbody : ∀ (m : Nat) (pre : List α) (x : α) (a' : Act) (W : World),I pre W → w.heap.size + 2 ≤ W.heap.size → Ax x a' W → Pf (pre ++ [x]) → body.wpIn (Fence.wide.inRound (w.heap.size + 1)) m P (postB C I (pre ++ [x]) W) a' W)
  (hdone : ∀ (xs : List α) (W : World),S xs → I xs W → W.heap[w.heap.size]? = some (.deferred (some [])) → w.heap.size + 2 ≤ W.heap.size → Q .normal { a with defers:={ target:=.collected w.heap.size,args:=#[] } :: a.defers } W) :
  (Code.rangeFunc g ps assign body).wpIn Fence.wide n P Q a w:=by
 refine wpIn_rangeFunc ?_
 intro fn hfn
 obtain ⟨rec,hrec⟩ : ∃ rec : LoopState → Option Code → Loop,rec = fun st pe => { state:=st,pending:=pe,fn,tmps:=a.tmps,params:=ps,assign,body,defers:=w.heap.size }:=⟨_,rfl⟩
 obtain ⟨W1,hW1⟩ : ∃ W1,(w.alloc (.deferred (some []))).alloc (.loop (rec .ready none)) = W1:=⟨_,rfl⟩
 have hsz1 : W1.heap.size = w.heap.size + 2:=by rw [← hW1];simp
 have hL1 : W1.heap[w.heap.size + 1]? = some (.loop (rec .ready none)):=by
  rw [← hW1];have:=World.alloc_heap_new (w.alloc (.deferred (some []))) (.loop (rec .ready none));rwa [World.size_alloc] at this
 have hK1 : W1.heap[w.heap.size]? = some (.deferred (some [])):=by
  rw [← hW1];exact (Below.heap_alloc _ _ _ (by simp)).trans (World.alloc_heap_new w _)
 have hbW : Below w.heap.size w W1:=by rw [← hW1];exact ((Below.refl _ w).alloc (Nat.le_refl _) _).alloc (by simp) _
 have hI1 : I [] W1:=hI [] w W1 h0 (Nat.le_refl _) hbW.size hbW.os.symm hbW.tape.symm hbW.output.symm hbW.block
 have hb1 : Below w0.heap.size w0 W1:=hb0.trans (hbW.mono hb0.size)
 refine ⟨w.heap.size + 1,[{ target:=.collected w.heap.size,args:=#[] }],W1,{ target:=.fn (.func gf) lb,args:=#[.func (.yield (w.heap.size + 1)) #[] #[]] },W1,gf,
  #[.func (.yield (w.heap.size + 1)) #[] #[]] ++ lb,W1,?_,?_,?_,?_,fun h => (by cases h),?_⟩
 ·rw [← hW1,hrec];exact run_enterLoop_outer _ _ _ _ _
 ·simp only [resolve,hg]
  simp [go_sem]
 ·intro f' _;trivial
 ·simp [invoke,go_sem,eg]
 ·refine (hseq (n - 1) (w.heap.size + 1) (fun pre W => I pre W ∧ W.heap[w.heap.size + 1]? = some (.loop (rec .ready none)) ∧ W.heap[w.heap.size]? = some (.deferred (some []))) W1 hb1
   (fun i hi => by rcases hi with h | rfl;have:=hC i h;omega;omega) ?_ ?_ ⟨hI1,hL1,hK1⟩).mono ?_
  ·rintro s W W' ⟨hi,hl,hk⟩ hB hsz ho ht hou hsame
   exact ⟨hI s W W' hi (by omega) hsz ho ht hou (fun i hi' => hsame i (by omega)),(hsame _ (by omega)).trans hl,(hsame _ (by omega)).trans hk⟩
  ·rintro m pre x W ⟨hi,hl,hk⟩ hB hlen
   have hlt : w.heap.size + 1 < W.heap.size:=(Array.getElem?_eq_some_iff.1 hl).1
   have hy:=run_yield (P:=P) (args:=encs x) hl (by rw [hrec];exact hps x)
   rw [hrec] at hy
   refine ⟨fn,_,assign,body,hy,roundIn_of_wpIn hfn (wpIn_mono (hassign m pre x W hi (by omega) hlen) ?_)⟩
   intro e a' W2 hp
   cases e with
   | normal =>
    obtain ⟨hkc2,hi2,hax2⟩:=hp
    have hl2 : W2.heap[w.heap.size + 1]? = some (.loop (rec .ready none)):=(hkc2.same _ (by omega) (fun h => by have:=hC _ h;omega)).trans hl
    have hlt2 : w.heap.size + 1 < W2.heap.size:=(Array.getElem?_eq_some_iff.1 hl2).1
    have hk2 : W2.heap[w.heap.size]? = some (.deferred (some [])):=(hkc2.same _ (by omega) (fun h => by have:=hC _ h;omega)).trans hk
    obtain ⟨W3,hW3⟩ : ∃ W3,W2.putObj (w.heap.size + 1) (.loop { rec .ready none with state:=.busy }) = W3:=⟨_,rfl⟩
    have hsz3 : W2.heap.size = W3.heap.size:=by rw [← hW3];simp
    have hot3 : ∀ i,i ≠ w.heap.size + 1 → W3.heap[i]? = W2.heap[i]?:=fun i hi => by rw [← hW3];exact World.putObj_heap_other hi
    have hl3 : W3.heap[w.heap.size + 1]? = some (.loop { rec .ready none with state:=.busy }):=by rw [← hW3];exact World.putObj_heap_same hlt2
    have hos : W2.os = W3.os ∧ W2.tape = W3.tape ∧ W2.output = W3.output:=by rw [← hW3];exact ⟨rfl,rfl,rfl⟩
    refine ⟨W3,by rw [← hW3];exact run_beginRound hl2 (by rw [hrec]),?_⟩
    have hi3 : I pre W3:=hI _ _ _ hi2 (by omega) (by omega) hos.1 hos.2.1 hos.2.2 (fun i hi => hot3 i (by omega))
    refine wpIn_mono (hbody m pre x a' W3 hi3 (by omega) (hAx _ _ _ _ hax2 hsz3 hos.1 hos.2.1 hos.2.2 hot3) hlen) ?_
    intro e a4 W4 hp4
    cases e with
    | normal =>
     obtain ⟨hkc4,hi4⟩:=hp4
     have hl4 : W4.heap[w.heap.size + 1]? = some (.loop { rec .ready none with state:=.busy }):=(hkc4.same _ (by omega) (fun h => by have:=hC _ h;omega)).trans hl3
     have hlt4 : w.heap.size + 1 < W4.heap.size:=(Array.getElem?_eq_some_iff.1 hl4).1
     have hk4 : W4.heap[w.heap.size]? = some (.deferred (some [])):=(hkc4.same _ (by omega) (fun h => by have:=hC _ h;omega)).trans ((hot3 _ (by omega)).trans hk2)
     refine ⟨_,_,run_endRound none hl4,rfl,⟨hI _ _ _ hi4 (by omega) (by simp) rfl rfl rfl (fun i hi => World.putObj_heap_other (by omega)),?_,(World.putObj_heap_other (by omega)).trans hk4⟩,?_⟩
     ·rw [World.putObj_heap_same hlt4,hrec];rfl
     ·refine ⟨by have:=hkc2.size;have:=hkc4.size;simp;omega,fun i hi hc => ?_⟩
      have hne : i ≠ w.heap.size + 1:=fun e => hc (.inr e)
      have hnC : ¬ C i:=fun h => hc (.inl h)
      rw [World.putObj_heap_other hne,hkc4.same i (by have:=hkc2.size;omega) hnC,hot3 i hne,hkc2.same i hi hnC]
    | ret => exact hp4.elim
    | exit _ => exact hp4.elim
    | goto _ => exact hp4.elim
    | panic _ => exact hp4.elim
    | outgrown => exact hp4.elim
   | ret => exact hp.elim
   | exit _ => exact hp.elim
   | goto _ => exact hp.elim
   | panic _ => exact hp.elim
   | outgrown => exact hp.elim
  ·rintro e W2 ⟨⟨v,rfl⟩,hsz,xs,hS,hi,hl,hk⟩
   have hlt : w.heap.size + 1 < W2.heap.size:=(Array.getElem?_eq_some_iff.1 hl).1
   refine ⟨none,_,by have:=run_endLoop (P:=P) hl (by rw [hrec];simp);rw [hrec] at this;exact this,?_⟩
   exact hdone xs _ hS (hI _ _ _ hi (by omega) (by simp) rfl rfl rfl (fun i hi => World.putObj_heap_other (by omega))) ((World.putObj_heap_other (by omega)).trans hk) (by simp;omega)

/-- Two worlds that part in one block alone. -/
def ButOne (b : Nat) (W W' : World) : Prop:=W.heap.size = W'.heap.size ∧ W.os = W'.os ∧ W.tape = W'.tape ∧ W.output = W'.output ∧ ∀ i,i ≠ b → W'.heap[i]? = W.heap[i]?
theorem ButOne.trans {b : Nat} {X Y Z : World} (h : ButOne b X Y) (k : ButOne b Y Z) : ButOne b X Z:=⟨h.1.trans k.1,h.2.1.trans k.2.1,h.2.2.1.trans k.2.2.1,h.2.2.2.1.trans k.2.2.2.1,fun i hi => (k.2.2.2.2 i hi).trans (h.2.2.2.2 i hi)⟩
/-- The same law, the assignments and the body walked in one. -/
theorem rangeB2 {α : Type} {n : Nat} {g : Operand} {ps : Array Tmp} {assign body : Code} {Q : Exit → Act → World → Prop} {a : Act} {w : World}
  {gf : Nat} {lb : Array Value} (hg : a.eval g = .func (.func gf) #[] lb) (eg : ∀ args w,(callFunc gf args).run P w = .ok (.enter gf args) w)
  {encs : α → Array Value} (C : Nat → Prop) (hC : ∀ i,C i → i < w.heap.size) {S Pf : List α → Prop}
  (hseq : SeqB P gf lb encs (fun i => C i ∨ i = w.heap.size + 1) S Pf w) (hps : ∀ x,(encs x).size = ps.size)
  (I : List α → World → Prop) (hI : ReadsTo w.heap.size I) (h0 : I [] w)
  (hround : ∀ (m : Nat) (pre : List α) (x : α) (W : World),I pre W → w.heap.size + 2 ≤ W.heap.size → Pf (pre ++ [x]) →
   assign.wpIn (Fence.wide.inRound (w.heap.size + 1)) m P (Exit.then (fun a' W' => KeepC C W W' ∧ I pre W' ∧ ∀ m' pre' W2,ButOne (w.heap.size + 1) W' W2 → I pre' W2 → w.heap.size + 2 ≤ W2.heap.size → Pf (pre' ++ [x]) →
    body.wpIn (Fence.wide.inRound (w.heap.size + 1)) m' P (postB C I (pre' ++ [x]) W2) a' W2) (fun _ _ _ => False)) { tmps:=(ps.zip (encs x)).foldl (fun t (p,v) => t.setIfInBounds p v) a.tmps,defers:=[] } W)
  (hdone : ∀ (xs : List α) (W : World),S xs → I xs W → W.heap[w.heap.size]? = some (.deferred (some [])) → w.heap.size + 2 ≤ W.heap.size → Q .normal { a with defers:={ target:=.collected w.heap.size,args:=#[] } :: a.defers } W) :
  (Code.rangeFunc g ps assign body).wpIn Fence.wide n P Q a w :=
 rangeB hg eg C hC (Below.refl _ w) hseq hps I hI h0 (fun x a' W' => ∀ m' pre' W2,ButOne (w.heap.size + 1) W' W2 → I pre' W2 → w.heap.size + 2 ≤ W2.heap.size → Pf (pre' ++ [x]) →
    body.wpIn (Fence.wide.inRound (w.heap.size + 1)) m' P (postB C I (pre' ++ [x]) W2) a' W2)
  (fun _ _ _ _ h h1 h2 h3 h4 h5 m' pre' W2 hb => h m' pre' W2 (ButOne.trans ⟨h1,h2,h3,h4,h5⟩ hb)) hround
  (fun m pre x a' W hi hs hx hp => hx m pre W ⟨rfl,rfl,rfl,rfl,fun _ _ => rfl⟩ hi hs hp) hdone

theorem below_reads {B B' : Nat} {w W W' : World} (h : Below B w W) (hB : B ≤ B') (hs : W.heap.size ≤ W'.heap.size) (h1 : W.os = W'.os) (h2 : W.tape = W'.tape) (h3 : W.output = W'.output) (h4 : ∀ i,i < B' → W'.heap[i]? = W.heap[i]?) : Below B w W' :=
 ⟨h1.symm.trans h.os,h2.symm.trans h.tape,h3.symm.trans h.output,Nat.le_trans h.size hs,fun i hi => (h4 i (Nat.lt_of_lt_of_le hi hB)).trans (h.block i hi)⟩
/-- Of what lay in X only block M has turned. -/
def Near (M : Nat) (X Y : World) : Prop:=X.os = Y.os ∧ X.tape = Y.tape ∧ X.output = Y.output ∧ KeepC (fun i => i = M) X Y
theorem Near.refl (M : Nat) (X : World) : Near M X X:=⟨rfl,rfl,rfl,KeepC.refl _ _⟩
theorem Near.alloc {M : Nat} {X Y : World} (h : Near M X Y) (o : Obj) : Near M X (Y.alloc o):=⟨h.1,h.2.1,h.2.2.1,h.2.2.2.alloc o⟩
theorem Near.setCell {M : Nat} {X Y : World} (h : Near M X Y) {p : Addr} (hp : X.heap.size ≤ p.block) (u : Value) : Near M X (Y.setCell p u):=⟨h.1,h.2.1,h.2.2.1,h.2.2.2.setCell (.inl hp) u⟩
theorem Near.grown {M : Nat} {X Y Z : World} (h : Near M X Y) (hg : Y.grownBy Z (some M)) : Near M X Z :=
 ⟨h.1.trans hg.os.symm,h.2.1.trans hg.tape.symm,h.2.2.1.trans hg.output.symm,h.2.2.2.grown hg (fun k e => by cases e;exact .inr rfl)⟩
theorem Near.below {M : Nat} {X Y Z : World} (h : Near M X Y) (hb : Below Y.heap.size Y Z) : Near M X Z:=⟨h.1.trans hb.os.symm,h.2.1.trans hb.tape.symm,h.2.2.1.trans hb.output.symm,h.2.2.2.of_below hb⟩
end Go.Proofs.Ytnmmdeonkpfccaa.Rg
/- slices.Backward over events: what it hands back gives all events with their indices, from the last one to the first one. -/
set_option linter.unusedVariables false
namespace Go.Proofs.Ytnmmdeonkpfccaa.Pr
open Go.RowKit Go.Shelf Go.Proofs.YtnmmdeonkpfccaaW.PrintWords Go.Proofs.YtnmmdeonkpfccaaW.PrintLast Go.Proofs.YtnmmdeonkpfccaaW.PrintMore
open Go.Proofs.Ytnmmdeonkpfccaa.Rg
attribute [local go_sem] Oper.semAt_some

def evV (x : S51) : Value:=.agg #[.int .i64 x.f0,.string x.f1,.string x.f2,.string x.f3]
def encIE (p : Int × S51) : Array Value:=#[.int .i64 p.1,evV p.2]
/-- The first k pairs from behind. -/
def backK (l : List S51) (k : Nat) : List (Int × S51):=(List.range k).map fun (j : Nat) => ((l.length : Int) - 1 - j,l.getD (l.length - 1 - j) z51)
theorem backK_succ (l : List S51) (k : Nat) : backK l (k + 1) = backK l k ++ [((l.length : Int) - 1 - k,l.getD (l.length - 1 - k) z51)]:=by simp [backK,List.range_succ]
theorem backK_len (l : List S51) (k : Nat) : (backK l k).length = k:=by simp [backK]

set_option maxRecDepth 100000 in
set_option maxHeartbeats 1000000 in
theorem back_seq (C : Nat → Prop) (A0 : Option Addr) (c0 B : Nat) (l : List S51) (w0 : World) (hl : l.length ≤ 4096) (hr0 : Kd.C k51 w0 A0 l.length l) (hA : ∀ ad,A0 = some ad → l ≠ [] → ¬ C ad.block) (hB : w0.cell? ⟨B,0,none⟩ = some (.slice A0 l.length c0)) (hCB : ¬ C B) :
  SeqB Try.prog 84 #[.pointer (some ⟨B,0,none⟩)] encIE C (fun xs => xs = backK l l.length) (fun ys => ∃ k,k ≤ l.length ∧ ys = backK l k) w0:=by
 intro n lp J W hW hC hJ hY h0
 show CallsIn Fence.wide n Try.prog 84 #[.func (.yield lp) #[] #[],.pointer (some ⟨B,0,none⟩)] W _
 have hsame0 : ∀ i,i < w0.heap.size → ¬ C i → W.heap[i]? = w0.heap[i]?:=fun i hi _ => hW.block i hi
 have hcB : W.cell? ⟨B,0,none⟩ = some (.slice A0 l.length c0):=(World.cell?_of_block (hW.block B (World.block_lt_of_cell? w0 _ hB))).trans hB
 have HR0:=Aside0.mk hr0
 have HB0:=Aside0.mk hB
 have hnb : (l.length : Int) ≤ 4096:=by omega
 clear hr0 hB
 refine callsIn_of_wp Try.func84 rfl trivial ?_ rfl
 simp only [Try.ntmps84,List.size_toArray,List.length_cons,List.length_nil,Nat.reduceAdd,Nat.reduceSub,Array.replicate_succ,Array.replicate_zero,List.push_toArray,List.append_toArray,List.nil_append,List.cons_append]
 gi_wp2
 gi_loopw [3] (fun v wr => ∃ (k : Nat) (z : Int),k ≤ l.length ∧ v = .int .i64 z ∧ Aside0 (z = (l.length : Int) - 1 - k) ∧ Aside0 (J (backK l k) wr) ∧ Aside0 (∀ i,i < w0.heap.size → ¬ C i → wr.heap[i]? = w0.heap[i]?) ∧ W.heap.size ≤ wr.heap.size) (fun v _ => (intOf v + 1).toNat)
 case atStart => exact ⟨0,(l.length : Int) - 1,by omega,rfl,⟨by omega⟩,⟨h0⟩,⟨hsame0⟩,Nat.le_refl _⟩
 case round =>
  obtain ⟨k,z,hk,rfl,HZ,HJ,HS,hsz⟩:=hrel
  by_cases hlt : k < l.length
  ·have hz0 : 0 ≤ z:=by rw [HZ.out];omega
   have hz1 : z < (l.length : Int):=by rw [HZ.out];omega
   obtain ⟨x,hx⟩ : ∃ x,x = l.getD (l.length - 1 - k) z51:=⟨_,rfl⟩
   have hrd : rd_T51 l z = x:=by unfold rd_T51;rw [hx,HZ.out];congr 1;omega
   obtain ⟨ad,e1,hx0,hx1,hx2,hx3⟩:=at_T51 HR0.out z hz0 hz1
   cases e1
   rw [hrd] at hx0 hx1 hx2 hx3
   have hnc : ¬ C (ad.add (z.toNat * 4)).block:=by
    have:=hA ad rfl (fun e => by rw [e] at hlt;simp at hlt)
    unfold Addr.add
    split
    ·exact this
    ·exact this
   have hst : ∀ {a : Addr} {v : Value},a.block = (ad.add (z.toNat * 4)).block → w0.cell? a = some v → wr.cell? a = some v:=fun {a v} hb h => by
    have hlt':=World.block_lt_of_cell? w0 _ h
    obtain ⟨b,o,s⟩:=a
    exact (World.cell?_of_block (HS.out b hlt' (by rw [show b = _ from hb];exact hnc))).trans h
   replace hx0:=hst (by rfl) hx0
   replace hx1:=hst (by rfl) hx1
   replace hx2:=hst (by rfl) hx2
   replace hx3:=hst (by rfl) hx3
   have hcb : wr.cell? ⟨B,0,none⟩ = some (.slice (some ad) l.length c0):=(World.cell?_of_block (HS.out B (World.block_lt_of_cell? w0 _ HB0.out) hCB)).trans HB0.out
   obtain ⟨fn,tmps,assign,body,hy,hR⟩:=hY (n - 1) (backK l k) (z,x) wr HJ.out hsz ⟨k + 1,hlt,by rw [backK_succ,← HZ.out,hx]⟩
   simp only [encIE,evV] at hy
   have HX:=Aside0.mk hx
   clear hx hrd hst hcB hsame0 hY
   gi_wp2
   refine ⟨fun h => absurd h (by decide),hR.mono ?_⟩
   rintro e W3 ⟨rfl,hJ3,hk3⟩
   have HJ3:=Aside0.mk hJ3
   have HK3:=Aside0.mk hk3
   clear hJ3 hk3 hx0 hx1 hx2 hx3 hcb
   gi_wp2
   go_roundw
   case rel => exact ⟨k + 1,z - 1,by omega,rfl,⟨by rw [HZ.out];omega⟩,⟨by rw [backK_succ,← HZ.out,← HX.out];exact HJ3.out⟩,⟨fun i hi hc => (HK3.out.same i (by have:=hW.size;omega) hc).trans (HS.out i hi hc)⟩,Nat.le_trans hsz HK3.out.size⟩
   case measure => simp [intOf];omega
  ·obtain rfl : k = l.length:=by omega
   have hz1 : z = -1:=by rw [HZ.out];omega
   subst hz1
   gi_wp2
   go_end0
   exact ⟨⟨_,rfl⟩,hsz,_,rfl,HJ.out⟩

set_option maxHeartbeats 1000000 in
theorem back_in (n : Nat) (A0 : Option Addr) (c0 k : Nat) (w : World) :
  CallsIn Fence.wide n Try.prog 65 #[.slice A0 k c0] w fun e w' => e = .returned (.func (.func 84) #[] #[.pointer (some ⟨w.heap.size,0,none⟩)]) ∧ w' = w.alloc (.cells #[.slice A0 k c0] 22):=by
 refine callsIn_of_wp Try.func65 rfl trivial ?_ rfl
 simp only [Try.ntmps65,List.size_toArray,List.length_cons,List.length_nil,Nat.reduceAdd,Nat.reduceSub,Array.replicate_succ,Array.replicate_zero,List.push_toArray,List.append_toArray,List.nil_append,List.cons_append]
 gi_wp2
 go_ret
 exact ⟨rfl,rfl⟩
theorem states_in (n : Nat) (A0 : Option Addr) (c0 k : Nat) (w : World) :
  CallsIn Fence.wide n Try.prog 38 #[.slice A0 k c0] w fun e w' => e = .returned (.func (.func 64) #[] #[.pointer (some ⟨w.heap.size,0,none⟩)]) ∧ w' = w.alloc (.cells #[.slice A0 k c0] 22):=by
 refine callsIn_of_wp Try.func38 rfl trivial ?_ rfl
 simp only [Try.ntmps38,List.size_toArray,List.length_cons,List.length_nil,Nat.reduceAdd,Nat.reduceSub,Array.replicate_succ,Array.replicate_zero,List.push_toArray,List.append_toArray,List.nil_append,List.cons_append]
 gi_wp2
 go_ret
 exact ⟨rfl,rfl⟩

end Go.Proofs.Ytnmmdeonkpfccaa.Pr
/- A call of yield at its operation. -/
set_option linter.unusedVariables false
namespace Go.Proofs.Ytnmmdeonkpfccaa.Rg
open Go Go.RowKit
theorem wpListIn_yield {F : Fence} {nF : Nat} {P : Program} {ops : Array Oper} {rest : List Oper} {o : Oper} {a : Act} {Q : Exit → Act → World → Prop} {w : World} (hg : o.guard = none) (hF : ∀ f,F.fn f) (hd : F.depth.isSome = true → 1 ≤ nF)
  (x y z : Operand) (ts : Array TypeId) (hop : o.op = Op.call { callee:=.value x,args:=#[y,z],argTypes:=ts }) (lp : Nat) (hx : a.eval x = .func (.yield lp) #[] #[]) (u v : Value) (hy : a.eval y = u) (hz : a.eval z = v)
  {R : Ending → World → Prop} (hY : YieldAt F (nF - 1) P lp #[u,v] w R) (hK : ∀ e w',R e w' → ∃ b,e = .returned b ∧ wpListIn F nF P ops Q rest (a.put o.dst b) w') : wpListIn F nF P ops Q (o :: rest) a w:=by
 refine wpListIn_plain hg fun K' hK' => ?_
 obtain ⟨fn,tmps,assign,body,hrun,hR⟩:=hY
 unfold Oper.wpIn
 refine ⟨fun f _ => hF f,?_⟩
 rw [Oper.semAt_plain F _ _ (by rw [hop];intro c hc';cases hc')]
 have he : (execOp a.eval o).run P w = .ok (.round lp fn tmps assign body) w:=by
  simp [execOp,hop,resolve,invoke,hx,hy,hz,hrun,Deferred.ofValue]
 rw [he,Oper.uponIn_round]
 refine ⟨hd,hR.mono ?_⟩
 intro e w' hr
 obtain ⟨b,rfl,hk⟩:=hK e w' hr
 exact hK' _ _ hk
theorem gate_callv {F : Fence} {nF : Nat} {P : Program} {ops : Array Oper} {rest : List Oper} {o : Oper} {a : Act} {Q : Exit → Act → World → Prop} {w : World} {x y z : Operand} {ts : Array TypeId}
  (_ : o.op = Op.call { callee:=Callee.value x,args:=#[y,z],argTypes:=ts }) (h : wpListIn F nF P ops Q (o :: rest) a w) : wpListIn F nF P ops Q (o :: rest) a w:=h
end Go.Proofs.Ytnmmdeonkpfccaa.Rg
/- recall.states: what it hands back gives the indices of all events with their next checks, from the last one to the first one. -/
set_option linter.unusedVariables false
namespace Go.Proofs.Ytnmmdeonkpfccaa.Pr
open Go.RowKit Go.Shelf Go.Proofs.YtnmmdeonkpfccaaW.PrintWords Go.Proofs.YtnmmdeonkpfccaaW.PrintLast Go.Proofs.YtnmmdeonkpfccaaW.PrintMore
open Go.Proofs.Ytnmmdeonkpfccaa.Rg
attribute [local go_sem] Oper.semAt_some

/-- The last checks of the gauges behind the k-th event from behind: the index and the state. -/
def lastA (l : List S51) : Nat → List (List UInt8 × Int × Int)
 | 0 => []
 | k + 1 => if (l.getD (l.length - 1 - k) z51).f0 = 1 then ((l.getD (l.length - 1 - k) z51).f1.data.toList,(l.length : Int) - 1 - k,2) :: lastA l k
  else if (l.getD (l.length - 1 - k) z51).f0 = 2 then ((l.getD (l.length - 1 - k) z51).f1.data.toList,(l.length : Int) - 1 - k,3) :: lastA l k else lastA l k
/-- The next check of the k-th event from behind. -/
def chkA (l : List S51) (k : Nat) : Int × Int:=if (l.getD (l.length - 1 - k) z51).f0 = 0 then ((lastA l k).lookup (l.getD (l.length - 1 - k) z51).f1.data.toList).getD (-1,1) else (-1,0)
def statK (l : List S51) (k : Nat) : List (Int × Int × Int):=(List.range k).map fun (j : Nat) => ((l.length : Int) - 1 - j,chkA l j)
theorem statK_succ (l : List S51) (k : Nat) : statK l (k + 1) = statK l k ++ [((l.length : Int) - 1 - k,chkA l k)]:=by simp [statK,List.range_succ]
def pairV (p : Int × Int) : Value:=.agg #[.int .i64 p.1,.int .i64 p.2]
def encS (p : Int × Int × Int) : Array Value:=#[.int .i64 p.1,pairV p.2]
def fLast (A : List (List UInt8 × Int × Int)) : List UInt8 → Option Value:=fun q => (A.lookup q).map pairV
theorem fLast_put (A : List (List UInt8 × Int × Int)) (q : List UInt8) (p : Int × Int) : putF (fLast A) q (pairV p) = fLast ((q,p) :: A):=by
 funext r
 unfold putF fLast
 rw [List.lookup_cons]
 by_cases h : r = q
 ·rw [if_pos h,h];simp
 ·rw [if_neg h]
  have : (r == q) = false:=beq_eq_false_iff_ne.mpr h
  rw [this]
theorem backK_inj {l : List S51} {j k : Nat} (h : backK l j = backK l k) : j = k:=by have:=congrArg List.length h;rwa [backK_len,backK_len] at this

set_option maxRecDepth 100000 in
set_option maxHeartbeats 1000000 in
theorem states_seq (C : Nat → Prop) (A0 : Option Addr) (c0 B : Nat) (l : List S51) (w0 : World) (hl : l.length ≤ 4096) (hg : ∀ x ∈ l,x.f1.size ≤ 24) (hr0 : Kd.C k51 w0 A0 l.length l) (hA : ∀ ad,A0 = some ad → l ≠ [] → ¬ C ad.block) (hAl : ∀ ad,A0 = some ad → l ≠ [] → ad.block < w0.heap.size) (hB : w0.cell? ⟨B,0,none⟩ = some (.slice A0 l.length c0)) (hCB : ¬ C B) :
  SeqB Try.prog 64 #[.pointer (some ⟨B,0,none⟩)] encS C (fun xs => xs = statK l l.length) (fun ys => ∃ k,k ≤ l.length ∧ ys = statK l k) w0:=by
 intro n lp J W hW hC hJ hY h0
 show CallsIn Fence.wide n Try.prog 64 #[.func (.yield lp) #[] #[],.pointer (some ⟨B,0,none⟩)] W _
 have hBl:=World.block_lt_of_cell? w0 _ hB
 have hcB : W.cell? ⟨B,0,none⟩ = some (.slice A0 l.length c0):=(World.cell?_of_block (hW.block B hBl)).trans hB
 have hBW : B < W.heap.size:=Nat.lt_of_lt_of_le hBl hW.size
 have HR0:=Aside0.mk hr0
 have hmm:=@run_makeMap Try.prog
 have hb3 : Below W.heap.size W (((W.alloc (Obj.cells #[Value.func (.yield lp) #[] #[]] 91)).alloc (Obj.map #[] 0)).alloc (Obj.cells #[Value.map (some (W.heap.size + 1))] 92)):=(((Below.refl _ W).alloc (Nat.le_refl _) _).alloc (by simp) _).alloc (by simp;omega) _
 have hc3 : (((W.alloc (Obj.cells #[Value.func (.yield lp) #[] #[]] 91)).alloc (Obj.map #[] 0)).alloc (Obj.cells #[Value.map (some (W.heap.size + 1))] 92)).cell? ⟨B,0,none⟩ = some (.slice A0 l.length c0):=(hb3.cell (p:=⟨B,0,none⟩) hBW).trans hcB
 have hf65 : Fence.wide.fn 65:=trivial
 clear hr0 hB
 refine callsIn_of_wp_marks Try.func64 rfl trivial ?_ rfl
 simp only [Try.ntmps64,List.size_toArray,List.length_cons,List.length_nil,Nat.reduceAdd,Nat.reduceSub,Array.replicate_succ,Array.replicate_zero,List.push_toArray,List.append_toArray,List.nil_append,List.cons_append]
 gi_wp2_with (refine ⟨fun h => absurd h (by decide),?_⟩;gi_at_call 65;refine (back_in _ A0 c0 l.length _).mono ?_;rintro e w' ⟨rfl,rfl⟩)
 obtain ⟨Wl,hWl⟩ : ∃ Wl,((((W.alloc (Obj.cells #[Value.func (.yield lp) #[] #[]] 91)).alloc (Obj.map #[] 0)).alloc (Obj.cells #[Value.map (some (W.heap.size + 1))] 92)).alloc (Obj.cells #[Value.slice A0 l.length c0] 22)) = Wl:=⟨_,rfl⟩
 have hs4 : Wl.heap.size = W.heap.size + 4:=by rw [← hWl];simp
 have hb4 : Below W.heap.size W Wl:=by rw [← hWl];exact hb3.alloc (by simp;omega) _
 have hy0 : Wl.heap[W.heap.size]? = some (.cells #[.func (.yield lp) #[] #[]] 91):=by rw [← hWl];exact blk_alloc (blk_alloc (blk_alloc (blk_new _ _) _) _) _
 have hm0 : MapF Try.prog 9 Wl (W.heap.size + 1) 0 (fLast []):=by
  rw [← hWl]
  have:=((MapF.made (W.alloc (Obj.cells #[Value.func (.yield lp) #[] #[]] 91)) Try.prog 9).alloc (Obj.cells #[Value.map (some (W.heap.size + 1))] 92)).alloc (Obj.cells #[Value.slice A0 l.length c0] 22)
  rwa [World.size_alloc] at this
 have hp0 : Wl.heap[W.heap.size + 2]? = some (.cells #[.map (some (W.heap.size + 1))] 92):=by
  rw [← hWl]
  have:=blk_alloc (blk_new ((W.alloc (Obj.cells #[Value.func (.yield lp) #[] #[]] 91)).alloc (Obj.map #[] 0)) (Obj.cells #[Value.map (some (W.heap.size + 1))] 92)) (Obj.cells #[Value.slice A0 l.length c0] 22)
  rwa [World.size_alloc,World.size_alloc] at this
 have hq0 : Wl.cell? ⟨W.heap.size + 3,0,none⟩ = some (.slice A0 l.length c0):=by
  rw [← hWl]
  have:=blk_new (((W.alloc (Obj.cells #[Value.func (.yield lp) #[] #[]] 91)).alloc (Obj.map #[] 0)).alloc (Obj.cells #[Value.map (some (W.heap.size + 1))] 92)) (Obj.cells #[Value.slice A0 l.length c0] 22)
  rw [World.size_alloc,World.size_alloc,World.size_alloc] at this
  exact (blk_cell this 0).trans rfl
 rw [hWl]
 clear hWl hb3 hc3 hf65
 have hb0l : Below w0.heap.size w0 Wl:=hW.trans (hb4.mono hW.size)
 refine rangeB (gf:=84) (lb:=#[.pointer (some ⟨W.heap.size + 3,0,none⟩)]) rfl (enters_of Try.func84 (by kernel_rfl) rfl) (fun i => C i ∨ i = W.heap.size + 1) (fun i hi => by rcases hi with h | rfl;have:=hC i h;omega;omega) (Below.refl _ Wl)
  (back_seq _ A0 c0 (W.heap.size + 3) l Wl hl (Kd.C_below HR0.out hb0l) (fun ad ha hne h => by
   have h1:=hA ad ha hne;have h2:=hAl ad ha hne;have h3:=hW.size
   rcases h with (h | h) | h;exact h1 h;omega;omega) hq0 (fun h => by rcases h with (h | h) | h;have:=hC _ h;omega;omega;omega)) (fun _ => rfl)
  (fun pre Wr => ∃ k,k ≤ l.length ∧ pre = backK l k ∧ J (statK l k) Wr ∧ MapF Try.prog 9 Wr (W.heap.size + 1) k (fLast (lastA l k)) ∧ Wr.heap[W.heap.size]? = some (.cells #[.func (.yield lp) #[] #[]] 91) ∧ Wr.heap[W.heap.size + 2]? = some (.cells #[.map (some (W.heap.size + 1))] 92))
  ?hI ⟨0,by omega,rfl,hJ _ _ _ h0 (Nat.le_refl _) hb4.size hb4.os.symm hb4.tape.symm hb4.output.symm hb4.block,hm0,hy0,hp0⟩
  (fun x a' Wr => ∃ gx,Wl.heap.size + 2 ≤ gx ∧ Wr.heap[gx]? = some (.cells #[.int .i64 x.2.f0,.string x.2.f1,.string x.2.f2,.string x.2.f3] 51) ∧ a' = { tmps:=#[.func (.yield lp) #[] #[],.pointer (some ⟨B,0,none⟩),.pointer (some ⟨W.heap.size,0,none⟩),.pointer (some ⟨W.heap.size + 1 + 1,0,none⟩),.int .i64 x.1,.pointer (some ⟨gx,0,none⟩),undef,undef,undef,.map (some (W.heap.size + 1)),.slice A0 l.length c0,.func (.func 84) #[] #[.pointer (some ⟨W.heap.size + 1 + 1 + 1,0,none⟩)],.int .i64 x.1,evV x.2,undef,undef,undef,undef,undef,undef,undef,undef,undef,undef,undef,undef,undef,undef,undef,undef,undef,undef,undef,undef,undef,undef,undef,undef,undef,undef,undef,undef,undef,undef,undef,undef,undef,undef],defers:=[] })
  ?hAx ?assign ?body ?done
 case hI =>
  rintro pre Wr Wr' ⟨k,hk,hp,hj,hm,hy,hpp⟩ hsz hsz2 ho ht hou hs
  exact ⟨k,hk,hp,hJ _ _ _ hj (by omega) hsz2 ho ht hou (fun i hi => hs i (by omega)),hm.same (hs _ (by omega)),(hs _ (by omega)).trans hy,(hs _ (by omega)).trans hpp⟩
 case hAx =>
  rintro x a' Wr Wr' ⟨gx,h1,h2,h3⟩ hsz ho ht hou hs
  exact ⟨gx,h1,(hs _ (by omega)).trans h2,h3⟩
 case assign =>
  rintro m pre ⟨i,x⟩ Wr ⟨k,hk,hp,hj,hm,hy,hpp⟩ hsz hpf
  have HJ:=Aside0.mk hj
  have HM:=Aside0.mk hm
  have HY:=Aside0.mk hy
  have HP:=Aside0.mk hpp
  have HPR:=Aside0.mk hp
  have HJR:=Aside0.mk hJ
  clear hj hm hy hpp hp hpf hb4 hy0 hm0 hp0 hq0 hb0l hW hY hJ hC h0
  simp only [encIE,evV]
  gi_wp2
  exact ⟨(KeepC.refl _ _).alloc _,⟨k,hk,HPR.out,HJR.out _ _ _ HJ.out (by omega) (by simp) rfl rfl rfl (fun j hj => Below.heap_alloc _ _ _ (by omega)),HM.out.alloc _,blk_alloc HY.out _,blk_alloc HP.out _⟩,Wr.heap.size,by omega,blk_new _ _,rfl⟩
 case body =>
  rintro m pre ⟨i,x⟩ a' Wr ⟨k,hk,hp,hj,hm,hy,hpp⟩ hsz ⟨gx,hgx,hbx,rfl⟩ ⟨k',hk',hpk⟩
  have hkk : k' = k + 1:=by
   have:=congrArg List.length hpk
   rw [hp,List.length_append,backK_len,backK_len] at this
   simpa using this.symm
  subst hkk
  rw [hp,backK_succ] at hpk
  have hix:=List.append_cancel_left hpk
  simp only [List.cons.injEq,Prod.mk.injEq,and_true] at hix
  obtain ⟨hi,hx⟩:=hix
  have hxm : x.f1.size ≤ 24:=by
   refine hg x ?_
   rw [hx,List.getD_eq_getElem?_getD,List.getElem?_eq_getElem (by omega)]
   exact List.getElem_mem _
  have hxm2 : x.f1.size ≤ maxLen:=by unfold maxLen;omega
  have hlx:=(Array.getElem?_eq_some_iff.1 hbx).1
  have hch : chkA l k = if x.f0 = 0 then ((lastA l k).lookup x.f1.data.toList).getD (-1,1) else (-1,0):=by unfold chkA;rw [← hx]
  have hla : lastA l (k + 1) = if x.f0 = 1 then (x.f1.data.toList,i,2) :: lastA l k else if x.f0 = 2 then (x.f1.data.toList,i,3) :: lastA l k else lastA l k:=by rw [hi,hx];rfl
  have hst : statK l (k + 1) = statK l k ++ [(i,chkA l k)]:=by rw [statK_succ,hi]
  have HCH:=Aside0.mk hch
  have HLA:=Aside0.mk hla
  have HST:=Aside0.mk hst
  have HJ:=Aside0.mk hj
  have HM:=Aside0.mk hm
  have HY:=Aside0.mk hy
  have HP:=Aside0.mk hpp
  have HPR:=Aside0.mk (show pre ++ [(i,x)] = backK l (k + 1) from by rw [backK_succ,hp,hi,hx])
  have HJR:=Aside0.mk hJ
  have HYR:=Aside0.mk hY
  have HX:=Aside0.mk hbx
  have HCC:=Aside0.mk hC
  have hcy : Wr.cell? ⟨W.heap.size,0,none⟩ = some (.func (.yield lp) #[] #[]):=(blk_cell hy 0).trans rfl
  have hcp : Wr.cell? ⟨W.heap.size + 1 + 1,0,none⟩ = some (.map (some (W.heap.size + 1))):=(blk_cell hpp 0).trans rfl
  have hcx0 : Wr.cell? ⟨gx,0,none⟩ = some (.int .i64 x.f0):=(blk_cell hbx 0).trans rfl
  have hcx1 : Wr.cell? ⟨gx,1,none⟩ = some (.string x.f1):=(blk_cell hbx 1).trans rfl
  have hsz' : W.heap.size + 6 ≤ Wr.heap.size:=by omega
  have hBA : ∀ o : Obj,Below Wr.heap.size Wr (Wr.alloc o):=fun o => (Below.refl _ Wr).alloc (Nat.le_refl _) o
  have hcy1:=fun o : Obj => ((hBA o).cell (p:=⟨W.heap.size,0,none⟩) (show W.heap.size < _ by omega)).trans hcy
  have hcp1:=fun o : Obj => ((hBA o).cell (p:=⟨W.heap.size + 1 + 1,0,none⟩) (show W.heap.size + 1 + 1 < _ by omega)).trans hcp
  have hcx01:=fun o : Obj => ((hBA o).cell (p:=⟨gx,0,none⟩) hlx).trans hcx0
  have hcx11:=fun o : Obj => ((hBA o).cell (p:=⟨gx,1,none⟩) hlx).trans hcx1
  clear hch hla hst hj hm hy hpp hi hp hpk hJ hY hbx hC h0 hb4 hy0 hm0 hp0 hq0 hb0l hW hx hg
  have HYZ:=Aside0.mk (show ∀ (at_ st : Int),chkA l k = (at_,st) → ∀ r m W1,J (statK l k) W1 → W.heap.size ≤ W1.heap.size → YieldAt (Fence.wide.inRound r) m Try.prog lp #[.int .i64 i,.agg #[.int .i64 at_,.int .i64 st]] W1 (fun e W' => e = .returned (.bool true) ∧ J (statK l (k + 1)) W' ∧ KeepC C W1 W') from by
   intro at_ st hc r m W1 hj hs
   have:=HYR.out m (statK l k) (i,chkA l k) W1 hj hs ⟨k + 1,hk',HST.out.symm⟩
   rw [← HST.out,hc] at this
   exact this)
  clear HYR
  have HJN:=Aside0.mk (show ∀ Wc,Near (W.heap.size + 1) Wr Wc → J (statK l k) Wc from fun Wc hn => HJR.out _ _ _ HJ.out (by omega) hn.2.2.2.size hn.1 hn.2.1 hn.2.2.1 (fun j hj => hn.2.2.2.same j (by omega) (by omega)))
  have HSN:=Aside0.mk (show ∀ Wc,Near (W.heap.size + 1) Wr Wc → W.heap.size ≤ Wc.heap.size from fun Wc hn => Nat.le_trans (by omega) hn.2.2.2.size)
  have FIN:=Aside0.mk (show ∀ Wc w',Near (W.heap.size + 1) Wr Wc → MapF Try.prog 9 Wc (W.heap.size + 1) (k + 1) (fLast (lastA l (k + 1))) → J (statK l (k + 1)) w' → KeepC C Wc w' →
    KeepC (fun i => C i ∨ i = W.heap.size + 1) Wr w' ∧ (∃ k,k ≤ l.length ∧ pre ++ [(i,x)] = backK l k ∧ J (statK l k) w' ∧ MapF Try.prog 9 w' (W.heap.size + 1) k (fLast (lastA l k)) ∧ w'.heap[W.heap.size]? = some (.cells #[.func (.yield lp) #[] #[]] 91) ∧ w'.heap[W.heap.size + 2]? = some (.cells #[.map (some (W.heap.size + 1))] 92)) from by
   intro Wc w' hn hm hj hk
   have hc : ∀ i,W.heap.size ≤ i → ¬ C i:=fun i hi hh => by have:=HCC.out i hh;omega
   have hz:=hn.2.2.2.size
   refine ⟨(hn.2.2.2.mono fun i h => .inr h).trans (hk.mono fun i h => .inl h),k + 1,hk',HPR.out,hj,hm.same (hk.same _ (by omega) (hc _ (by omega))),?_,?_⟩
   ·exact (hk.same _ (by omega) (hc _ (by omega))).trans ((hn.2.2.2.same _ (by omega) (by omega)).trans HY.out)
   ·exact (hk.same _ (by omega) (hc _ (by omega))).trans ((hn.2.2.2.same _ (by omega) (by omega)).trans HP.out))
  by_cases k1 : x.f0 = 1
  ·rw [k1] at hcx0 hcx01
   have HYO:=Aside0.mk (HYZ.out (-1) 0 (HCH.out.trans (if_neg (by omega))))
   have HL2:=Aside0.mk (HLA.out.trans (if_pos k1))
   clear k1
   gi_wp2_with (first | ((gi_at_mapUpdate;refine wpListIn_storeF rfl _ _ _ 92 rfl 9 65 Try.underlying9 Try.underlying92 rfl (HM.out.alloc _) (by unfold maxLen;omega) x.f1 rfl hxm2 (pairV (i,2)) rfl ?_;intro w8 hs8 hg8;have HS8:=Aside0.mk hs8;have HN8:=Aside0.mk (((Near.refl (W.heap.size + 1) Wr).alloc _).grown hg8);have hcy8 : w8.cell? ⟨W.heap.size,0,none⟩ = some (.func (.yield lp) #[] #[]):=(World.cell?_of_block (HN8.out.2.2.2.same W.heap.size (by omega) (by omega))).trans hcy;have hcc8:=blk_grown (blk_new Wr (.cells #[.int .i64 (-1),.int .i64 0] 65)) hg8 (by simp;omega);have hcc80 : w8.cell? ⟨Wr.heap.size,0,none⟩ = some (.int .i64 (-1)):=(blk_cell hcc8 0).trans rfl;have hcc81 : w8.cell? ⟨Wr.heap.size,1,none⟩ = some (.int .i64 0):=(blk_cell hcc8 1).trans rfl;clear hs8 hg8 hcc8)) | ((with_reducible refine gate_callv (x:=.tmp 43) (y:=.tmp 44) (z:=.tmp 45) rfl ?_);refine wpListIn_yield rfl (fun _ => trivial) (fun h => absurd (show false = true from h) (by decide)) (.tmp 43) (.tmp 44) (.tmp 45) _ rfl lp rfl _ _ rfl rfl (HYO.out _ _ _ (HJN.out _ HN8.out) (HSN.out _ HN8.out)) ?_;rintro e w9 ⟨rfl,hj9,hk9⟩;refine ⟨_,rfl,?_⟩;have HJ9:=Aside0.mk hj9;have HK9:=Aside0.mk hk9;clear hj9 hk9))
   exact FIN.out _ _ HN8.out (by rw [HL2.out,← fLast_put];exact HS8.out) HJ9.out HK9.out
  ·have k1b : (x.f0 == 1) = false:=beq_eq_false_iff_ne.mpr k1
   by_cases k2 : x.f0 = 2
   ·rw [k2] at hcx0 hcx01
    have HYO:=Aside0.mk (HYZ.out (-1) 0 (HCH.out.trans (if_neg (by omega))))
    have HL2:=Aside0.mk (HLA.out.trans ((if_neg k1).trans (if_pos k2)))
    clear k1 k1b k2
    gi_wp2_with (first | ((gi_at_mapUpdate;refine wpListIn_storeF rfl _ _ _ 92 rfl 9 65 Try.underlying9 Try.underlying92 rfl (HM.out.alloc _) (by unfold maxLen;omega) x.f1 rfl hxm2 (pairV (i,3)) rfl ?_;intro w8 hs8 hg8;have HS8:=Aside0.mk hs8;have HN8:=Aside0.mk (((Near.refl (W.heap.size + 1) Wr).alloc _).grown hg8);have hcy8 : w8.cell? ⟨W.heap.size,0,none⟩ = some (.func (.yield lp) #[] #[]):=(World.cell?_of_block (HN8.out.2.2.2.same W.heap.size (by omega) (by omega))).trans hcy;have hcc8:=blk_grown (blk_new Wr (.cells #[.int .i64 (-1),.int .i64 0] 65)) hg8 (by simp;omega);have hcc80 : w8.cell? ⟨Wr.heap.size,0,none⟩ = some (.int .i64 (-1)):=(blk_cell hcc8 0).trans rfl;have hcc81 : w8.cell? ⟨Wr.heap.size,1,none⟩ = some (.int .i64 0):=(blk_cell hcc8 1).trans rfl;clear hs8 hg8 hcc8)) | ((with_reducible refine gate_callv (x:=.tmp 43) (y:=.tmp 44) (z:=.tmp 45) rfl ?_);refine wpListIn_yield rfl (fun _ => trivial) (fun h => absurd (show false = true from h) (by decide)) (.tmp 43) (.tmp 44) (.tmp 45) _ rfl lp rfl _ _ rfl rfl (HYO.out _ _ _ (HJN.out _ HN8.out) (HSN.out _ HN8.out)) ?_;rintro e w9 ⟨rfl,hj9,hk9⟩;refine ⟨_,rfl,?_⟩;have HJ9:=Aside0.mk hj9;have HK9:=Aside0.mk hk9;clear hj9 hk9))
    exact FIN.out _ _ HN8.out (by rw [HL2.out,← fLast_put];exact HS8.out) HJ9.out HK9.out
   ·have k2b : (x.f0 == 2) = false:=beq_eq_false_iff_ne.mpr k2
    have HL2:=Aside0.mk (HLA.out.trans ((if_neg k1).trans (if_neg k2)))
    by_cases k0 : x.f0 = 0
    ·rw [k0] at hcx0 hcx01
     obtain ⟨lk,hlk⟩ : ∃ lk,lk = (lastA l k).lookup x.f1.data.toList:=⟨_,rfl⟩
     have HC0:=Aside0.mk (show chkA l k = lk.getD (-1,1) from by rw [HCH.out,if_pos k0,hlk])
     have hcy2:=fun o o' : Obj => (((hBA o).alloc (by simp) o').cell (p:=⟨W.heap.size,0,none⟩) (show W.heap.size < _ by omega)).trans hcy
     cases lk with
     | none =>
      have HV:=Aside0.mk (show (fLast (lastA l k) x.f1.data.toList).getD (.agg #[.int .i64 0,.int .i64 0]) = .agg #[.int .i64 0,.int .i64 0] from by unfold fLast;rw [← hlk];rfl)
      have HC:=Aside0.mk (show (fLast (lastA l k) x.f1.data.toList).isSome = false from by unfold fLast;rw [← hlk];rfl)
      have HYO:=Aside0.mk (HYZ.out (-1) 1 HC0.out)
      clear k0 k1 k2 hlk
      gi_wp2_with (first | (gi_at_lookup;refine wpListIn_lookF_ok rfl _ _ 92 rfl 9 65 Try.underlying9 Try.underlying92 (Try.zeroValue65 _) rfl (HM.out.alloc _) x.f1 rfl hxm2 _ HV.out _ HC.out ?_) | ((with_reducible refine gate_callv (x:=.tmp 43) (y:=.tmp 44) (z:=.tmp 45) rfl ?_);refine wpListIn_yield rfl (fun _ => trivial) (fun h => absurd (show false = true from h) (by decide)) (.tmp 43) (.tmp 44) (.tmp 45) _ rfl lp rfl _ _ rfl rfl (HYO.out _ _ _ (HJN.out _ (((Near.refl _ _).alloc _).alloc _)) (HSN.out _ (((Near.refl _ _).alloc _).alloc _))) ?_;rintro e w9 ⟨rfl,hj9,hk9⟩;refine ⟨_,rfl,?_⟩;have HJ9:=Aside0.mk hj9;have HK9:=Aside0.mk hk9;clear hj9 hk9))
      exact FIN.out _ _ (((Near.refl _ _).alloc _).alloc _) (by rw [HL2.out];exact ((HM.out.alloc _).alloc _).mono (Nat.le_succ _)) HJ9.out HK9.out
     | some p =>
      obtain ⟨pa,ps⟩:=p
      have HV:=Aside0.mk (show (fLast (lastA l k) x.f1.data.toList).getD (.agg #[.int .i64 0,.int .i64 0]) = .agg #[.int .i64 pa,.int .i64 ps] from by unfold fLast;rw [← hlk];rfl)
      have HC:=Aside0.mk (show (fLast (lastA l k) x.f1.data.toList).isSome = true from by unfold fLast;rw [← hlk];rfl)
      have HYO:=Aside0.mk (HYZ.out pa ps HC0.out)
      clear k0 k1 k2 hlk
      gi_wp2_with (first | (gi_at_lookup;refine wpListIn_lookF_ok rfl _ _ 92 rfl 9 65 Try.underlying9 Try.underlying92 (Try.zeroValue65 _) rfl (HM.out.alloc _) x.f1 rfl hxm2 _ HV.out _ HC.out ?_) | ((with_reducible refine gate_callv (x:=.tmp 43) (y:=.tmp 44) (z:=.tmp 45) rfl ?_);refine wpListIn_yield rfl (fun _ => trivial) (fun h => absurd (show false = true from h) (by decide)) (.tmp 43) (.tmp 44) (.tmp 45) _ rfl lp rfl _ _ rfl rfl (HYO.out _ _ _ (HJN.out _ (((Near.refl _ _).alloc _).alloc _)) (HSN.out _ (((Near.refl _ _).alloc _).alloc _))) ?_;rintro e w9 ⟨rfl,hj9,hk9⟩;refine ⟨_,rfl,?_⟩;have HJ9:=Aside0.mk hj9;have HK9:=Aside0.mk hk9;clear hj9 hk9))
      exact FIN.out _ _ (((Near.refl _ _).alloc _).alloc _) (by rw [HL2.out];exact ((HM.out.alloc _).alloc _).mono (Nat.le_succ _)) HJ9.out HK9.out
    ·have k0b : (x.f0 == 0) = false:=beq_eq_false_iff_ne.mpr k0
     have HYO:=Aside0.mk (HYZ.out (-1) 0 (HCH.out.trans (if_neg k0)))
     clear k0 k1 k2
     gi_wp2_with ((with_reducible refine gate_callv (x:=.tmp 43) (y:=.tmp 44) (z:=.tmp 45) rfl ?_);refine wpListIn_yield rfl (fun _ => trivial) (fun h => absurd (show false = true from h) (by decide)) (.tmp 43) (.tmp 44) (.tmp 45) _ rfl lp rfl _ _ rfl rfl (HYO.out _ _ _ (HJN.out _ ((Near.refl _ _).alloc _)) (HSN.out _ ((Near.refl _ _).alloc _))) ?_;rintro e w9 ⟨rfl,hj9,hk9⟩;refine ⟨_,rfl,?_⟩;have HJ9:=Aside0.mk hj9;have HK9:=Aside0.mk hk9;clear hj9 hk9)
     exact FIN.out _ _ ((Near.refl _ _).alloc _) (by rw [HL2.out];exact (HM.out.alloc _).mono (Nat.le_succ _)) HJ9.out HK9.out
 case done =>
  rintro xs W' rfl ⟨k,hk,hp,hj,_,_,_⟩ hK hsz
  obtain rfl:=backK_inj hp
  gi_wp2
  rw [hs4] at hK
  have hD:=(Array.getElem?_eq_some_iff.1 hK).1
  refine ⟨by simp,.inl ⟨_,_,rfl,run_takeDeferred hK,?_⟩⟩
  exact ⟨_,results_none rfl _ _ _,⟨_,rfl⟩,by simp;omega,hJ _ _ _ hj (by omega) (by simp) rfl rfl rfl (fun i hi => World.putObj_heap_other (by omega))⟩

end Go.Proofs.Ytnmmdeonkpfccaa.Pr
/- The contract of recall.States. -/
set_option linter.unusedVariables false
namespace Go.Proofs.Ytnmmdeonkpfccaa.Pr
open Go.RowKit Go.Shelf Go.Proofs.YtnmmdeonkpfccaaW.PrintWords Go.Proofs.YtnmmdeonkpfccaaW.PrintLast Go.Proofs.YtnmmdeonkpfccaaW.PrintMore
open Go.Proofs.Ytnmmdeonkpfccaa.Rg
attribute [local go_sem] Oper.semAt_some

/-- The states of the events. -/
def statesL (l : List S51) : List Int:=(List.range l.length).map fun i => (chkA l (l.length - 1 - i)).2
def statesV (l : List S51) : List Int × Int:=if checkV l ≠ 0 then ([],checkV l) else (statesL l,0)
def recall_States.f (l : List S51) : Option (List Int × Int):=some (statesV l)

theorem slice_lt {w : World} {A0 : Option Addr} {l : List S51} (h : Kd.C k51 w A0 l.length l) : ∀ ad,A0 = some ad → l ≠ [] → ad.block < w.heap.size:=by
 rintro ad rfl hne
 have hp : 0 < l.length:=by cases l with | nil => exact absurd rfl hne | cons _ _ => simp
 obtain ⟨ad',e,h0,_⟩:=at_T51 h 0 (Int.le_refl _) (by omega)
 cases e
 have:=World.block_lt_of_cell? w _ h0
 unfold Addr.add at this
 simpa using this
theorem check_zero {l : List S51} (h : checkV l = 0) : l.length ≤ 4096 ∧ ∀ x ∈ l,namesX x = 0:=by
 unfold checkV at h
 split at h
 ·cases h
 ·refine ⟨by omega,?_⟩
  have : ∀ (l : List S51) L G,checkF L G l = 0 → ∀ x ∈ l,namesX x = 0:=by
   intro l
   induction l with
   | nil => intro L G _ x hx;cases hx
   | cons y r ih =>
    intro L G h x hx
    rw [checkF_cons] at h
    by_cases hn : namesX y = 0
    ·rw [if_neg (by rw [hn];decide)] at h
     rcases List.mem_cons.1 hx with rfl | hx
     ·exact hn
     ·split at h
      ·split at h
       ·cases h
       ·split at h
        ·exact ih _ _ h x hx
        ·split at h
         ·exact ih _ _ h x hx
         ·cases h
      ·split at h
       ·split at h
        ·cases h
        ·split at h
         ·cases h
         ·exact ih _ _ h x hx
       ·exact ih _ _ h x hx
    ·rw [if_pos hn] at h;exact absurd h hn
  exact this l _ _ h

theorem made_ints (n : Nat) : madeCells #[Value.int .i64 0] n = ((List.replicate n (0 : Int)).map (Value.int .i64)).toArray:=by
 apply Array.ext
 ·simp [madeCells]
 ·intro i h1 h2
  simp [madeCells,Nat.mod_one]
theorem set_ints (xs : List Int) (i : Nat) (v : Int) : ((xs.map (Value.int .i64)).toArray).setIfInBounds i (.int .i64 v) = ((xs.set i v).map (Value.int .i64)).toArray:=by
 simp [List.map_set]
theorem R_of_blk {w0 W : World} {G : Nat} {xs : List Int} (h : W.heap[G]? = some (.cells ((xs.map (Value.int .i64)).toArray) 3)) (hG : w0.heap.size ≤ G) (hn : xs.length ≤ 4096) :
  Kd.R (Kd.int .i64) 3 W w0.heap.size (fun _ => True) (.slice (some ⟨G,0,none⟩) xs.length xs.length) xs:=by
 refine Kd.R_of_own (enc:=Value.int .i64) (h1:=fun _ => rfl) ?_ (fun _ _ => trivial)
 refine ⟨by simp [encs],.inr ⟨G,xs.length,_,rfl,hG,h,Nat.le_refl _,by unfold maxLen;omega,by simp,by simp [encs,List.take_of_length_le]⟩⟩
theorem statK_inj {l : List S51} {j k : Nat} (h : statK l j = statK l k) : j = k:=by have:=congrArg List.length h;simpa [statK] using this
theorem statK_next {l : List S51} {k k' : Nat} {pre : List (Int × Int × Int)} {x : Int × Int × Int} (hp : pre = statK l k) (h : pre ++ [x] = statK l k') : k' = k + 1 ∧ x = ((l.length : Int) - 1 - k,chkA l k):=by
 have hkk : k' = k + 1:=by
  have:=congrArg List.length h
  rw [hp,List.length_append] at this
  simp [statK] at this
  exact this.symm
 subst hkk
 rw [hp,statK_succ] at h
 have:=List.append_cancel_left h
 simp only [List.cons.injEq,and_true] at this
 exact ⟨rfl,this⟩

set_option maxRecDepth 100000 in
set_option maxHeartbeats 1000000 in
theorem States_ok (A0 : Option Addr) (c0 : Nat) (l : List (S51)) (w : World) (hr0 : Kd.C k51 w A0 l.length l) (hc0 : l.length ≤ c0) (hck : checkV l = 0) :
  Calls Try.prog 11 #[.slice A0 l.length c0] w fun e w' => ∃ v,e = .returned (.tuple #[v,.int .i64 0]) ∧ Kd.R (Kd.int .i64) 3 w' w.heap.size (fun _ => True) v (statesL l) ∧ Below w.heap.size w w':=by
 obtain ⟨hl,hnx⟩:=check_zero hck
 have hg : ∀ x ∈ l,x.f1.size ≤ 24:=fun x hx => (namesX_zero (hnx x hx)).2.1
 have hlt:=slice_lt hr0
 have HCK:=Aside0.mk (recall_Check.calls A0 c0 l 0 w hr0 hc0 (congrArg some hck))
 have HR0:=Aside0.mk hr0
 have hmk:=print_make_int (P:=Try.prog) 25 3 (.int .i64 0) 8 Try.underlying25 info3 rfl (by decide) (l.length : Int) (by omega) (by omega)
 have hf16 : Fence.wide.fn 16:=trivial
 have hf38 : Fence.wide.fn 38:=trivial
 have HG:=Aside0.mk hg
 have HLT:=Aside0.mk hlt
 clear hr0 hnx hg hlt hck
 refine (callsIn_wide (n:=3)).1 ?_
 refine callsIn_of_wp_marks Try.func11 rfl trivial ?_ rfl
 simp only [Try.ntmps11,List.size_toArray,List.length_cons,List.length_nil,Nat.reduceAdd,Nat.reduceSub,Array.replicate_succ,Array.replicate_zero,List.push_toArray,List.append_toArray,List.nil_append,List.cons_append]
 gi_wp2_with (first | ((first | refine ⟨fun h => absurd h (by decide),?_⟩ | skip);gi_at_call 16;refine (callsIn_wide.2 HCK.out).mono ?_;rintro e w1 ⟨rfl,hb1⟩;have HB1:=Aside0.mk hb1;clear hb1) | ((first | refine ⟨fun h => absurd h (by decide),?_⟩ | skip);gi_at_call 38;refine (states_in _ A0 c0 l.length _).mono ?_;rintro e w' ⟨rfl,rfl⟩))
 obtain ⟨Wl,hWl⟩ : ∃ Wl,(((w1.alloc (Obj.cells (madeCells #[Value.int .i64 0] l.length) 3)).alloc (Obj.cells #[Value.slice (some ⟨w1.heap.size,0,none⟩) l.length l.length] 25)).alloc (Obj.cells #[Value.slice A0 l.length c0] 22)) = Wl:=⟨_,rfl⟩
 have hs3 : Wl.heap.size = w1.heap.size + 3:=by rw [← hWl];simp
 have hb3 : Below w1.heap.size w1 Wl:=by rw [← hWl];exact (((Below.refl _ w1).alloc (Nat.le_refl _) _).alloc (by simp) _).alloc (by simp;omega) _
 have hG0 : Wl.heap[w1.heap.size]? = some (.cells ((List.replicate l.length (0 : Int)).map (Value.int .i64)).toArray 3):=by rw [← hWl,← made_ints];exact blk_alloc (blk_alloc (blk_new _ _) _) _
 have hO0 : Wl.heap[w1.heap.size + 1]? = some (.cells #[.slice (some ⟨w1.heap.size,0,none⟩) l.length l.length] 25):=by
  rw [← hWl]
  have:=blk_alloc (blk_new (w1.alloc (Obj.cells (madeCells #[Value.int .i64 0] l.length) 3)) (Obj.cells #[Value.slice (some ⟨w1.heap.size,0,none⟩) l.length l.length] 25)) (Obj.cells #[Value.slice A0 l.length c0] 22)
  rwa [World.size_alloc] at this
 have hL0 : Wl.cell? ⟨w1.heap.size + 2,0,none⟩ = some (.slice A0 l.length c0):=by
  rw [← hWl]
  have:=blk_new ((w1.alloc (Obj.cells (madeCells #[Value.int .i64 0] l.length) 3)).alloc (Obj.cells #[Value.slice (some ⟨w1.heap.size,0,none⟩) l.length l.length] 25)) (Obj.cells #[Value.slice A0 l.length c0] 22)
  rw [World.size_alloc,World.size_alloc] at this
  exact (blk_cell this 0).trans rfl
 rw [hWl]
 clear hWl hf16 hf38 hmk
 have hsz1:=HB1.out.size
 have hbw : Below w.heap.size w Wl:=HB1.out.trans (hb3.mono hsz1)
 refine rangeB2 (gf:=64) (lb:=#[.pointer (some ⟨w1.heap.size + 2,0,none⟩)]) rfl (enters_of Try.func64 (by kernel_rfl) rfl) (fun i => i = w1.heap.size) (fun i hi => by omega)
  (states_seq _ A0 c0 (w1.heap.size + 2) l Wl hl HG.out (Kd.C_below HR0.out hbw) (fun ad ha hne h => by have:=HLT.out ad ha hne;omega) (fun ad ha hne => by have:=HLT.out ad ha hne;omega) hL0 (fun h => by omega)) (fun _ => rfl)
  (fun pre Wr => ∃ (k : Nat) (out : List Int),k ≤ l.length ∧ pre = statK l k ∧ out.length = l.length ∧ (∀ j,l.length - k ≤ j → j < l.length → out[j]? = some (chkA l (l.length - 1 - j)).2) ∧ Wr.heap[w1.heap.size]? = some (.cells (out.map (Value.int .i64)).toArray 3) ∧ Wr.heap[w1.heap.size + 1]? = some (.cells #[.slice (some ⟨w1.heap.size,0,none⟩) l.length l.length] 25) ∧ Below w.heap.size w Wr)
  ?hI ⟨0,_,by omega,rfl,by simp,fun j h1 h2 => by omega,hG0,hO0,hbw⟩ ?round ?done
 case hI =>
  rintro pre Wr Wr' ⟨k,out,hk,hp,ho,hv,hg,hb,hB⟩ hsz hsz2 h1 h2 h3 h4
  exact ⟨k,out,hk,hp,ho,hv,(h4 _ (by omega)).trans hg,(h4 _ (by omega)).trans hb,below_reads hB (by omega) hsz2 h1 h2 h3 h4⟩
 case round =>
  rintro m pre ⟨i,a,s⟩ Wr hI hsz hpf
  have HI:=Aside0.mk hI
  clear hI hpf hG0 hO0 hL0 hb3 hbw
  simp only [encS,pairV]
  gi_wp2
  obtain ⟨k,out,hk,hp,ho,hv,hg,hb,hB⟩:=HI.out
  refine ⟨(KeepC.refl _ _).alloc _,⟨k,out,hk,hp,ho,hv,blk_alloc hg _,blk_alloc hb _,hB.alloc (by omega) _⟩,?_⟩
  clear k out hk hp ho hv hg hb hB
  rintro m2 pre2 W2 hone ⟨k,out,hk,hp,ho,hv,hg,hb,hB⟩ hsz2 ⟨k',hk',hpk⟩
  obtain ⟨rfl,hx⟩:=statK_next hp hpk
  simp only [Prod.mk.injEq] at hx
  obtain ⟨hi,hc⟩:=hx
  have hcs : s = (chkA l k).2:=by rw [← hc]
  have hbx : W2.heap[Wr.heap.size]? = some (.cells #[.int .i64 a,.int .i64 s] 65):=(hone.2.2.2.2 _ (by omega)).trans (blk_new _ _)
  have hc1 : W2.cell? ⟨Wr.heap.size,1,none⟩ = some (.int .i64 s):=(blk_cell hbx 1).trans rfl
  have hc2 : W2.cell? ⟨w1.heap.size + 1,0,none⟩ = some (.slice (some ⟨w1.heap.size,0,none⟩) l.length l.length):=(blk_cell hb 0).trans rfl
  have hi0 : 0 ≤ i:=by rw [hi];omega
  have hi1 : i < (l.length : Int):=by rw [hi];omega
  have hit : i.toNat = l.length - 1 - k:=by rw [hi];omega
  have hc3 : W2.cell? ⟨w1.heap.size,i.toNat,none⟩ = some (.int .i64 (out[i.toNat]?.getD 0)):=by
   rw [blk_cell hg]
   simp [List.getElem?_eq_getElem (show i.toNat < out.length by omega)]
  have hf3:=blk_frozen hg i.toNat
  have HG2:=Aside0.mk hg
  have HB2:=Aside0.mk hb
  have HV:=Aside0.mk hv
  have HP:=Aside0.mk hpk
  have HBB:=Aside0.mk hB
  have HIT:=Aside0.mk hit
  have HCS:=Aside0.mk hcs
  clear hg hb hv hpk hB hit hcs hi hc hp hbx hone HI
  gi_wp2
  refine ⟨KeepC.setCell (C:=fun i => i = w1.heap.size) (KeepC.refl _ _) (.inr rfl) _,k + 1,out.set i.toNat s,hk',HP.out,by rw [List.length_set,ho],fun j h1 h2 => ?_,blk_put HG2.out _ _ (set_ints _ _ _),(Below.heap_setCell _ _ _ _ (show w1.heap.size + 1 ≠ w1.heap.size by omega)).trans HB2.out,HBB.out.setCell (p:=⟨w1.heap.size,i.toNat,none⟩) (show w.heap.size ≤ w1.heap.size by omega) _⟩
  by_cases hj : j = i.toNat
  ·rw [hj,List.getElem?_set_self (by omega),HCS.out,HIT.out,show l.length - 1 - (l.length - 1 - k) = k by omega]
  ·rw [List.getElem?_set_ne (fun e => hj e.symm)]
   exact HV.out j (by have:=HIT.out;omega) h2
 case done =>
  rintro xs W' rfl ⟨k,out,hk,hp,ho,hv,hg,hb,hB⟩ hK hsz
  obtain rfl:=statK_inj hp
  have hc2 : W'.cell? ⟨w1.heap.size + 1,0,none⟩ = some (.slice (some ⟨w1.heap.size,0,none⟩) l.length l.length):=(blk_cell hb 0).trans rfl
  have hout : out = statesL l:=by
   apply List.ext_getElem?
   intro j
   by_cases hj : j < l.length
   ·rw [hv j (by omega) hj];simp [statesL,hj]
   ·rw [List.getElem?_eq_none (by omega),List.getElem?_eq_none (by simp [statesL];omega)]
  gi_wp2
  rw [hs3] at hK
  have hD:=(Array.getElem?_eq_some_iff.1 hK).1
  refine ⟨by simp,.inl ⟨_,_,rfl,run_takeDeferred hK,?_⟩⟩
  refine ⟨_,results_tmp2 (fn:=Try.f11) rfl _ _ _,_,rfl,?_,?_⟩
  ·rw [hout] at hg ho
   have:=R_of_blk (w0:=w) (W:=W'.putObj (w1.heap.size + 3) (.deferred none)) (G:=w1.heap.size) (xs:=statesL l) ((World.putObj_heap_other (by omega)).trans hg) (by omega) (by omega)
   rwa [ho] at this
  ·exact below_reads hB (Nat.le_refl _) (by simp) rfl rfl rfl (fun i hi => World.putObj_heap_other (by omega))
set_option maxRecDepth 100000 in
set_option maxHeartbeats 1000000 in
theorem recall_States.calls (A0 : Option Addr) (c0 : Nat) (l0 : List (S51)) (r1 : List Int) (r2 : Int) (w : World) (hr0 : Kd.C k51 w A0 l0.length l0) (hc0 : l0.length ≤ c0) (h : recall_States.f l0 = some (r1,r2)) :
  Calls Try.prog 11 #[.slice A0 l0.length c0] w fun e w' => ∃ v0_ : Value,e = .returned (.tuple #[v0_,.int .i64 r2]) ∧ Kd.R (Kd.int .i64) 3 w' w.heap.size (fun _ => True) v0_ r1 ∧ Below w.heap.size w w':=by
 have e:=Option.some.inj h
 clear h
 by_cases hck : checkV l0 = 0
 ·have hr : r1 = statesL l0 ∧ r2 = 0:=by unfold statesV at e;rw [if_neg (by rw [hck];decide)] at e;cases e;exact ⟨rfl,rfl⟩
  obtain ⟨rfl,rfl⟩:=hr
  exact States_ok A0 c0 l0 w hr0 hc0 hck
 ·obtain ⟨g,hg⟩ : ∃ g,g = checkV l0:=⟨_,rfl⟩
  have hr : r1 = [] ∧ r2 = g:=by unfold statesV at e;rw [if_pos hck] at e;cases e;exact ⟨rfl,hg.symm⟩
  obtain ⟨rfl,rfl⟩:=hr
  have HCK:=Aside0.mk (recall_Check.calls A0 c0 l0 r2 w hr0 hc0 (congrArg some hg.symm))
  rw [← hg] at hck
  have hg1 : (r2 != 0) = true:=bne_iff_ne.mpr hck
  have hg2 : (r2 == 0) = false:=beq_eq_false_iff_ne.mpr hck
  clear e hg hck hr0
  go_enter Try.func11,Try.ntmps11
  go_wp2_with (go_at_call 16;refine HCK.out.mono ?_;rintro e w1 ⟨rfl,hb1⟩;have HB1:=Aside0.mk hb1;clear hb1)
  go_ret2
  exact ⟨_,rfl,Kd.R_nil _ _ _ _ _,HB1.out⟩
end Go.Proofs.Ytnmmdeonkpfccaa.Pr
/- The plain laws: the states of events, on both sides. -/
set_option linter.unusedVariables false
namespace Go.Proofs.Ytnmmdeonkpfccaa.Pr
open Go.RowKit Go.Proofs.YtnmmdeonkpfccaaW.PrintWords Go.Proofs.YtnmmdeonkpfccaaW.PrintLast Go.Proofs.YtnmmdeonkpfccaaW.PrintMore

/-- The next check of a gauge in a log's rest that begins at i. -/
def nx (g : List UInt8) : Nat → List S51 → Option (Int × Int)
 | _,[] => none
 | i,x :: r => if (x.f0 = 1 ∨ x.f0 = 2) ∧ x.f1.data.toList = g then some ((i : Int),1 + x.f0) else nx g (i + 1) r
def gA (l : List S51) (i : Nat) : S51:=l.getD i z51
/-- The next check of the i-th event, and its state. -/
def stA (l : List S51) (i : Nat) : Int × Int:=if (gA l i).f0 = 0 then (nx (gA l i).f1.data.toList (i + 1) (l.drop (i + 1))).getD (-1,1) else (-1,0)
theorem gA_at {l : List S51} {i : Nat} {x : S51} (h : l[i]? = some x) : gA l i = x:=by unfold gA;rw [List.getD_eq_getElem?_getD,h];rfl

theorem lastA_nx (l : List S51) (g : List UInt8) : ∀ k,k ≤ l.length → (lastA l k).lookup g = nx g (l.length - k) (l.drop (l.length - k)):=by
 intro k
 induction k with
 | zero => intro _;rw [Nat.sub_zero,List.drop_length];rfl
 | succ k ih =>
  intro hk
  obtain ⟨x,hx,hdr⟩:=drop_at (l:=l) (i:=l.length - (k + 1)) (by omega)
  have e1 : l.length - (k + 1) + 1 = l.length - k:=by omega
  have e2 : l.length - 1 - k = l.length - (k + 1):=by omega
  rw [e1] at hdr
  have hih:=ih (by omega)
  have hi : (l.length : Int) - 1 - k = ((l.length - (k + 1) : Nat) : Int):=by omega
  have hg : l.getD (l.length - 1 - k) z51 = x:=by rw [e2];exact gA_at hx
  rw [hdr]
  unfold nx lastA
  rw [hg,hi,e1]
  by_cases h1 : x.f0 = 1
  ·rw [if_pos h1,List.lookup_cons]
   by_cases hgg : x.f1.data.toList = g
   ·rw [if_pos ⟨.inl h1,hgg⟩,h1]
    have : (g == x.f1.data.toList) = true:=by rw [hgg];exact beq_self_eq_true _
    rw [this];rfl
   ·rw [if_neg (fun h => hgg h.2)]
    have : (g == x.f1.data.toList) = false:=beq_eq_false_iff_ne.2 (fun h => hgg h.symm)
    rw [this];exact hih
  ·rw [if_neg h1]
   by_cases h2 : x.f0 = 2
   ·rw [if_pos h2,List.lookup_cons]
    by_cases hgg : x.f1.data.toList = g
    ·rw [if_pos ⟨.inr h2,hgg⟩,h2]
     have : (g == x.f1.data.toList) = true:=by rw [hgg];exact beq_self_eq_true _
     rw [this];rfl
    ·rw [if_neg (fun h => hgg h.2)]
     have : (g == x.f1.data.toList) = false:=beq_eq_false_iff_ne.2 (fun h => hgg h.symm)
     rw [this];exact hih
   ·rw [if_neg h2,if_neg (fun h => h.1.elim h1 h2)];exact hih
theorem chkA_st (l : List S51) (k : Nat) (hk : k < l.length) : chkA l k = stA l (l.length - 1 - k):=by
 unfold chkA stA gA
 have:=lastA_nx l (l.getD (l.length - 1 - k) z51).f1.data.toList k (by omega)
 rw [this,show l.length - 1 - k + 1 = l.length - k by omega]
/-- What a next check is: at or behind where the search began, a check of that gauge, and its state. -/
theorem nx_some {l : List S51} {g : List UInt8} : ∀ (d i : Nat) {p : Int × Int},i ≤ l.length → l.length - i = d → nx g i (l.drop i) = some p → ∃ j : Nat,i ≤ j ∧ j < l.length ∧ p.1 = (j : Int) ∧ p.2 = 1 + (gA l j).f0 ∧ ((gA l j).f0 = 1 ∨ (gA l j).f0 = 2):=by
 intro d
 induction d with
 | zero =>
  intro i p hi hd h
  rw [show l.drop i = [] from List.drop_eq_nil_of_le (by omega)] at h
  cases h
 | succ d ih =>
  intro i p hi hd h
  obtain ⟨x,hx,hdr⟩:=drop_at (show i < l.length by omega)
  rw [hdr] at h
  unfold nx at h
  split at h
  ·rename_i hc
   obtain rfl:=Option.some.inj h
   exact ⟨i,Nat.le_refl _,by omega,rfl,by rw [gA_at hx],by rw [gA_at hx];exact hc.1⟩
  ·obtain ⟨j,h1,h2,h3⟩:=ih (i + 1) (by omega) (by omega) h
   exact ⟨j,by omega,h2,h3⟩
theorem next_go (l : List S51) (hn : l.length ≤ 2513169434915) (a : Nat) (ha : a < l.length) : ∀ (d i : Nat),i ≤ l.length → l.length - i = d →
  Ev (fun k => metrolabref53_Next.l0 k (rl l) (a : Int) (i : Int)) ((nx (gA l a).f1.data.toList i (l.drop i)).getD (-1,1)).1:=by
 obtain ⟨y,hy,_⟩:=drop_at ha
 rw [gA_at hy]
 intro d
 induction d with
 | zero =>
  intro i hi hd
  obtain rfl : i = l.length:=by omega
  refine Ev.const fun k => ?_
  simp only [metrolabref53_Next.l0]
  rw [if_neg (by rw [rl_len];omega),List.drop_length];rfl
 | succ d ih =>
  intro i hi hd
  obtain ⟨x,hx,hdr⟩:=drop_at (show i < l.length by omega)
  have hih:=ih (i + 1) (by omega) (by omega)
  rw [hdr]
  unfold nx
  have hal : (a : Int) < ((rl l).length : Int):=by rw [rl_len];omega
  by_cases hc : (x.f0 = 1 ∨ x.f0 = 2) ∧ x.f1.data.toList = y.f1.data.toList
  ·rw [if_pos hc]
   refine Ev.const fun k => ?_
   simp only [metrolabref53_Next.l0]
   rw [if_pos (by rw [rl_len];omega),if_pos (by omega),rd67_at hx,rd67_at hy,if_pos (show (0 : Int) ≤ (a : Int) by omega),if_pos hal,if_pos (show x.f1.toList = y.f1.toList from (str_eq _ _).2 hc.2)]
   by_cases h1 : x.f0 = 1
   ·rw [if_pos h1];rfl
   ·rw [if_neg h1,if_pos (hc.1.resolve_left h1)];rfl
  ·rw [if_neg hc]
   refine Ev.step (f:=fun k => metrolabref53_Next.l0 k (rl l) (a : Int) ((i + 1 : Nat) : Int)) (fun k => ?_) hih
   simp only [metrolabref53_Next.l0]
   rw [if_pos (by rw [rl_len];omega),if_pos (by omega),rd67_at hx,rd67_at hy,if_pos (show (0 : Int) ≤ (a : Int) by omega),if_pos hal,wrap_nat (by omega)]
   by_cases h1 : x.f0 = 1
   ·rw [if_pos h1,if_neg (fun e => hc ⟨.inl h1,(str_eq _ _).1 e⟩)]
   ·rw [if_neg h1]
    by_cases h2 : x.f0 = 2
    ·rw [if_pos h2,if_neg (fun e => hc ⟨.inr h2,(str_eq _ _).1 e⟩)]
    ·rw [if_neg h2]
theorem next_ev (l : List S51) (hn : l.length ≤ 2513169434915) (a : Nat) (ha : a < l.length) : Ev (fun k => metrolabref53_Next.f k (rl l) (a : Int)) ((nx (gA l a).f1.data.toList (a + 1) (l.drop (a + 1))).getD (-1,1)).1:=by
 unfold metrolabref53_Next.f
 rw [wrap_nat (by omega)]
 exact next_go l hn a ha (l.length - (a + 1)) (a + 1) (by omega) rfl
theorem state_ev (l : List S51) (hn : l.length ≤ 2513169434915) (a : Nat) (ha : a < l.length) : Ev (fun k => metrolabref53_State.f k (rl l) (a : Int)) (stA l a).2:=by
 unfold metrolabref53_State.f stA
 obtain ⟨y,hy,_⟩:=drop_at ha
 have hal : (a : Int) < ((rl l).length : Int):=by rw [rl_len];omega
 simp only [if_pos (show (0 : Int) ≤ (a : Int) by omega),if_pos hal,rd67_at hy]
 have hnx:=next_ev l hn a ha
 rw [gA_at hy] at hnx ⊢
 by_cases h0 : y.f0 = 0
 ·rw [if_pos h0]
  simp only [if_pos h0]
  refine Ev.bind hnx ?_
  cases hN : nx y.f1.data.toList (a + 1) (l.drop (a + 1)) with
  | none => simp only [Option.getD_none];rw [if_pos (by decide)];exact Ev.now _
  | some p =>
   obtain ⟨j,h1,h2,h3,h4,h5⟩:=nx_some (l.length - (a + 1)) (a + 1) (by omega) rfl hN
   simp only [Option.getD_some]
   rw [h3,h4]
   obtain ⟨z,hz,_⟩:=drop_at h2
   rw [gA_at hz] at h5 ⊢
   rw [if_neg (by omega),if_pos (by omega),if_pos (by rw [rl_len];omega),rd67_at hz]
   show Ev (fun _ => some (wrap64 (1 + z.f0))) _
   rw [show wrap64 (1 + z.f0) = 1 + z.f0 by unfold wrap64;rcases h5 with h | h <;> rw [h] <;> rfl]
   exact Ev.now _
 ·rw [if_neg h0]
  simp only [if_neg h0]
  exact Ev.now _
def stL (l : List S51) : List Int:=(List.range l.length).map fun i => (stA l i).2
theorem statesL_eq (l : List S51) : statesL l = stL l:=by
 unfold statesL stL
 refine List.map_congr_left fun i hi => ?_
 have:=List.mem_range.1 hi
 rw [chkA_st l _ (by omega),show l.length - 1 - (l.length - 1 - i) = i by omega]
theorem states_go (l : List S51) (hn : l.length ≤ 2513169434915) : ∀ (d i : Nat),i ≤ l.length → l.length - i = d → Ev (fun k => metrolabref53_States.l0 k (rl l) ((stL l).take i) (i : Int)) (stL l,0):=by
 have hsl : (stL l).length = l.length:=by unfold stL;rw [List.length_map,List.length_range]
 intro d
 induction d with
 | zero =>
  intro i hi hd
  obtain rfl : i = l.length:=by omega
  refine Ev.const fun k => ?_
  simp only [metrolabref53_States.l0]
  rw [if_neg (by rw [rl_len];omega),List.take_of_length_le (by omega)]
 | succ d ih =>
  intro i hi hd
  refine Ev.step (f:=fun k => _) (fun k => by simp only [metrolabref53_States.l0];rw [if_pos (by rw [rl_len];omega)]) ?_
  refine Ev.bind (state_ev l hn i (by omega)) ?_
  have e : (stL l).take (i + 1) = (stL l).take i ++ [(stA l i).2]:=by
   rw [List.take_add_one]
   congr 1
   unfold stL
   rw [List.getElem?_map,List.getElem?_range (by omega)];rfl
  simp only [if_pos (show ((stL l).take i).length < 17592186044416 by rw [List.length_take];omega)]
  rw [← e,wrap_nat (by omega)]
  exact ih (i + 1) (by omega) (by omega)
theorem states_ev (l : List S51) (hn : l.length ≤ 2513169434915) : Ev (fun k => metrolabref53_States.f k (rl l)) (statesV l):=by
 unfold metrolabref53_States.f statesV
 refine Ev.bind (check_ev l hn) ?_
 by_cases h : checkV l = 0
 ·rw [if_neg (fun h2 => h2 h)]
  simp only [if_pos h]
  rw [statesL_eq]
  exact states_go l hn l.length 0 (by omega) (by omega)
 ·rw [if_pos h]
  simp only [if_neg h]
  exact Ev.now _

/-- The first measurement of a part with a state. -/
def firstA (l : List S51) (q : List UInt8) (s : Int) : Nat → Nat → Int
 | 0,_ => -1
 | d + 1,i => if (gA l i).f2.data.toList = q ∧ (stA l i).2 = s then (i : Int) else firstA l q s d (i + 1)
theorem first_go (l : List S51) (hn : l.length ≤ 2513169434915) (a : ByteArray) (s : Int) : ∀ (d i : Nat),i ≤ l.length → l.length - i = d → Ev (fun k => metrolabref53_First.l0 k (rl l) a s (i : Int)) (firstA l a.data.toList s d i):=by
 intro d
 induction d with
 | zero =>
  intro i hi hd
  obtain rfl : i = l.length:=by omega
  refine Ev.const fun k => ?_
  simp only [metrolabref53_First.l0]
  rw [if_neg (by rw [rl_len];omega)];rfl
 | succ d ih =>
  intro i hi hd
  obtain ⟨x,hx,hdr⟩:=drop_at (show i < l.length by omega)
  have hih:=ih (i + 1) (by omega) (by omega)
  unfold firstA
  rw [gA_at hx]
  by_cases hq : x.f2.data.toList = a.data.toList
  ·refine Ev.step (f:=fun k => _) (fun k => by simp only [metrolabref53_First.l0];rw [if_pos (by rw [rl_len];omega),if_pos (by omega),rd67_at hx,if_pos (show x.f2.toList = a.toList from (str_eq _ _).2 hq)]) ?_
   refine Ev.bind (state_ev l hn i (by omega)) ?_
   by_cases hs : (stA l i).2 = s
   ·rw [if_pos ⟨hq,hs⟩];simp only [if_pos hs];exact Ev.now _
   ·rw [if_neg (fun h => hs h.2)];simp only [if_neg hs];rw [wrap_nat (by omega)];exact hih
  ·rw [if_neg (fun h => hq h.1)]
   refine Ev.step (f:=fun k => metrolabref53_First.l0 k (rl l) a s ((i + 1 : Nat) : Int)) (fun k => ?_) hih
   simp only [metrolabref53_First.l0]
   rw [if_pos (by rw [rl_len];omega),if_pos (by omega),rd67_at hx,if_neg (show ¬ x.f2.toList = a.toList from fun e => hq ((str_eq _ _).1 e)),wrap_nat (by omega)]
theorem first_ev (l : List S51) (hn : l.length ≤ 2513169434915) (a : ByteArray) (s : Int) : Ev (fun k => metrolabref53_First.f k (rl l) a s) (firstA l a.data.toList s l.length 0):=first_go l hn a s l.length 0 (by omega) (by omega)
end Go.Proofs.Ytnmmdeonkpfccaa.Pr
namespace Go.Proofs.Ytnmmdeonkpfccaa.Pr
open Go.RowKit Go.Proofs.YtnmmdeonkpfccaaW.PrintWords Go.Proofs.YtnmmdeonkpfccaaW.PrintLast Go.Proofs.YtnmmdeonkpfccaaW.PrintMore
attribute [local go_sem] max2_int min2_int max_two min_two max_three min_three max_four min_four
set_option linter.unusedVariables false
set_option linter.unusedSimpArgs false

/-! ### metrolabref19_Put: function 48 -/
mutual
def metrolabref19_Put.l0 : Nat → List ByteArray → ByteArray → List ByteArray → Bool → Int → Option (List ByteArray)
 | 0,_,_,_,_,_ => none
 | k + 1,x0,x1,x5,x6,x7 => if x7 < (x0.length : Int) then (if x6 = true then (metrolabref19_Put.j1 k x0 x1 x5 x6 x7 false) else (if 0 ≤ x7 then (metrolabref19_Put.j1 k x0 x1 x5 x6 x7 (!(Op.bytesLess ((rdOf ByteArray.empty x0 x7).toList) x1.toList))) else (none))) else (if x6 = true then (some x5) else (if x5.length < 8796093022208 then (some (x5 ++ [x1])) else (none)))
def metrolabref19_Put.j1 : Nat → List ByteArray → ByteArray → List ByteArray → Bool → Int → Bool → Option (List ByteArray)
 | 0,_,_,_,_,_,_ => none
 | k + 1,x0,x1,x5,x6,x7,x23 => if x23 = true then (if x5.length < 8796093022208 then ((some (x5 ++ [x1] : List ByteArray)).bind fun y168 => (if 0 ≤ x7 then (if x7 < (x0.length : Int) then (if (rdOf ByteArray.empty x0 x7).toList = x1.toList then (metrolabref19_Put.l0 k x0 x1 y168 true (wrap64 (x7 + 1))) else (if y168.length < 8796093022208 then (metrolabref19_Put.l0 k x0 x1 (y168 ++ [rdOf ByteArray.empty x0 x7]) true (wrap64 (x7 + 1))) else (none))) else (none)) else (none))) else (none)) else (if 0 ≤ x7 then (if x7 < (x0.length : Int) then (if (rdOf ByteArray.empty x0 x7).toList = x1.toList then (metrolabref19_Put.l0 k x0 x1 x5 x6 (wrap64 (x7 + 1))) else (if x5.length < 8796093022208 then (metrolabref19_Put.l0 k x0 x1 (x5 ++ [rdOf ByteArray.empty x0 x7]) x6 (wrap64 (x7 + 1))) else (none))) else (none)) else (none))
end
def metrolabref19_Put.f (k : Nat) (l0 : List ByteArray) (a1 : ByteArray) : Option (List ByteArray):=metrolabref19_Put.l0 k l0 a1 ([] : List ByteArray) false 0
theorem metrolabref19_Put.mono_l : ∀ k,(∀ y0 y1 y2 y3 y4,LeO (metrolabref19_Put.l0 k y0 y1 y2 y3 y4) (metrolabref19_Put.l0 (k + 1) y0 y1 y2 y3 y4)) ∧ (∀ y0 y1 y2 y3 y4 y5,LeO (metrolabref19_Put.j1 k y0 y1 y2 y3 y4 y5) (metrolabref19_Put.j1 (k + 1) y0 y1 y2 y3 y4 y5))
 | 0 => ⟨fun _ _ _ _ _ r h => by simp [metrolabref19_Put.l0] at h,fun _ _ _ _ _ _ r h => by simp [metrolabref19_Put.j1] at h⟩
 | k + 1 => by
  obtain ⟨ih0,ih1⟩:=metrolabref19_Put.mono_l k
  refine ⟨?_,?_⟩
  ·intro y0 y1 y2 y3 y4
   unfold metrolabref19_Put.l0
   repeat' first
   | (with_reducible exact ih0 _ _ _ _ _)
   | (with_reducible exact ih1 _ _ _ _ _ _)
   | (with_reducible exact LeO.refl _)
   | (with_reducible exact LeO.none _)
   | (with_reducible refine LeO.ite ?_ ?_)
   | (with_reducible refine LeO.bind ?_ (fun _ => ?_))
   | exact ih0 _ _ _ _ _
   | exact ih1 _ _ _ _ _ _
   | exact LeO.none _
   | refine LeO.ite ?_ ?_
   | refine LeO.bind ?_ (fun _ => ?_)
  ·intro y0 y1 y2 y3 y4 y5
   unfold metrolabref19_Put.j1
   repeat' first
   | (with_reducible exact ih0 _ _ _ _ _)
   | (with_reducible exact ih1 _ _ _ _ _ _)
   | (with_reducible exact LeO.refl _)
   | (with_reducible exact LeO.none _)
   | (with_reducible refine LeO.ite ?_ ?_)
   | (with_reducible refine LeO.bind ?_ (fun _ => ?_))
   | exact ih0 _ _ _ _ _
   | exact ih1 _ _ _ _ _ _
   | exact LeO.none _
   | refine LeO.ite ?_ ?_
   | refine LeO.bind ?_ (fun _ => ?_)
theorem metrolabref19_Put.mono : ∀ a0 a1 k,LeO (metrolabref19_Put.f k a0 a1) (metrolabref19_Put.f (k + 1) a0 a1):=by
 intro a0 a1 k
 obtain ⟨ih0,ih1⟩:=metrolabref19_Put.mono_l k
 unfold metrolabref19_Put.f
 repeat' first
   | (with_reducible exact ih0 _ _ _ _ _)
   | (with_reducible exact ih1 _ _ _ _ _ _)
   | (with_reducible exact LeO.refl _)
   | (with_reducible exact LeO.none _)
   | (with_reducible refine LeO.ite ?_ ?_)
   | (with_reducible refine LeO.bind ?_ (fun _ => ?_))
   | exact ih0 _ _ _ _ _
   | exact ih1 _ _ _ _ _ _
   | exact LeO.none _
   | refine LeO.ite ?_ ?_
   | refine LeO.bind ?_ (fun _ => ?_)
set_option maxHeartbeats 8000000 in
set_option maxRecDepth 100000 in
theorem metrolabref19_Put.calls (k : Nat) (A0 : Option Addr) (c0 : Nat) (l0 : List ByteArray) (a1 : ByteArray) (r : List ByteArray) (w : World) (hr0 : Kd.C Kd.string w A0 l0.length l0) (hc0 : l0.length ≤ c0) (h : metrolabref19_Put.f k l0 a1 = some r) :
  Calls Try.prog 48 #[.slice A0 l0.length c0,.string a1] w fun e w' => ∃ v0_ : Value,e = .returned (v0_) ∧ Kd.R Kd.string 9 w' w.heap.size (fun _ => True) v0_ r ∧ Below w.heap.size w w':=by
 have HR0:=Aside0.mk hr0
 have HC0:=Aside0.mk hc0
 clear hr0 hc0
 have HB:=Aside0.mk (Below.refl w.heap.size w)
 have H : (metrolabref19_Put.l0 k l0 a1 ([] : List ByteArray) false 0) = some r:=h
 clear h
 have H':=Aside0.mk H
 clear H
 go_enter Try.func48,Try.ntmps48
 go_wp2
 go_loopg [5,6,7] k (fun kq v5 v6 v7 w' => ∃ (x5_1 : List ByteArray) (x6_1 : Bool) (x7_1 : Int),v6 = .bool x6_1 ∧ v7 = .int .i64 x7_1 ∧ Aside0 (metrolabref19_Put.l0 kq l0 a1 x5_1 x6_1 x7_1 = some r) ∧ Aside0 (kq ≤ k) ∧ Aside0 (Kd.R Kd.string 9 w' w.heap.size (fun _ => True) v5 x5_1) ∧ Aside0 (Below w.heap.size w w'))
 case atStart => exact ⟨(([] : List ByteArray)),(false),(0),(by first | rfl | (simp;done) | (simp [*];done)),(by first | rfl | (simp;done) | (simp [*];done)),H',⟨Nat.le_refl _⟩,⟨by first | exact Kd.R_nil _ _ _ _ _ | exact Kd.N_nil _ _ _ _ _ | exact Kd.V_nil _ _ _ _ _ | exact Kd.Q_nil _ _ _ _ _ | exact Kd.S_nil _ _ _ _ _⟩,⟨by repeat (first | (with_reducible first | exact HB.out | apply below_alloc | apply pw_below_drewN | apply below_drew1) | exact HB.out)⟩⟩
 case round =>
  clear H'
  try clear p2
  obtain ⟨x5_1,x6_1,x7_1,rfl,rfl,HA,HK1,HO_5,HB⟩:=hrel
  cases gk with
  | zero => exact absurd HA.out (by simp [metrolabref19_Put.l0])
  | succ k1 =>
   have H:=HA.out
   clear HA
   simp only [metrolabref19_Put.l0] at H
   by_cases c3 : x7_1 < (l0.length : Int)
   ·rw [if_pos c3] at H
    have c3b0 : decide (x7_1 < (l0.length : Int)) = true:=decide_eq_true c3
    clear c3
    have HC4:=Aside0.mk H
    clear H
    go_upto_region 6 with (fail)
    go_cut [23] (fun v23 wc => ∃ (kq : Nat) (x23_3 : Bool),v23 = .bool x23_3 ∧ Aside0 (metrolabref19_Put.j1 kq l0 a1 x5_1 x6_1 x7_1 x23_3 = some r) ∧ Aside0 (kq ≤ k1) ∧ Aside0 (Kd.R Kd.string 9 wc w.heap.size (fun _ => True) u5 x5_1) ∧ Aside0 (Below w.heap.size w wc))
    case first =>
     have H:=HC4.out
     clear HC4
     by_cases c5 : x6_1 = true
     ·subst c5
      have H1 : (metrolabref19_Put.j1 k1 l0 a1 x5_1 true x7_1 false) = some r:=by rw [if_pos rfl] at H;exact H
      clear H
      have H:=H1
      clear H1
      have H':=Aside0.mk H
      clear H
      go_wp2
      go_meet
      case rel => exact ⟨_,(false),(by first | rfl | (simp;done) | (simp [*];done)),H',⟨by have:=HK1.out;first | omega | exact Nat.le_refl _⟩,⟨by (with_reducible repeat (first | apply Kd.R_alloc | apply Kd.R_drewN | apply Kd.R_drew));exact HO_5.out⟩,⟨by repeat (first | (with_reducible first | exact HB.out | apply below_alloc | apply pw_below_drewN | apply below_drew1) | exact HB.out)⟩⟩
     ·replace c5:=Bool.eq_false_iff.mpr c5
      subst c5
      have H1 : (if 0 ≤ x7_1 then (metrolabref19_Put.j1 k1 l0 a1 x5_1 false x7_1 (!(Op.bytesLess ((rdOf ByteArray.empty l0 x7_1).toList) a1.toList))) else (none)) = some r:=by rw [if_neg (show ¬ (false = true) by decide)] at H;exact H
      clear H
      have H:=H1
      clear H1
      by_cases c6 : 0 ≤ x7_1
      ·rw [if_pos c6] at H
       have c6b0 : decide (0 ≤ x7_1) = true:=decide_eq_true c6
       clear c6
       (first | rw [c6b0] | (simp only [i64_w,i32_w];rw [c6b0]) | skip)
       have H':=Aside0.mk H
       clear H
       have p167 : 0 ≤ (x7_1 : Int):=of_decide_eq_true (by first | (with_reducible assumption) | assumption)
       have q167 : x7_1 < (l0.length : Int):=of_decide_eq_true (by first | (with_reducible assumption) | assumption)
       obtain ⟨ad167,e167,hx167_0⟩:=Kd.at_string HR0.out x7_1 p167 q167
       cases e167
       replace hx167_0:=(HB.out.cell (World.block_lt_of_cell? w _ hx167_0)).trans hx167_0
       replace p167:=eq_true p167
       replace q167:=eq_true q167
       go_wp2
       go_meet
       case rel => exact ⟨_,(!(Op.bytesLess ((rdOf ByteArray.empty l0 x7_1).toList) a1.toList)),(by first | rfl | (simp;done) | (simp [*];done)),H',⟨by have:=HK1.out;first | omega | exact Nat.le_refl _⟩,⟨by (with_reducible repeat (first | apply Kd.R_alloc | apply Kd.R_drewN | apply Kd.R_drew));exact HO_5.out⟩,⟨by repeat (first | (with_reducible first | exact HB.out | apply below_alloc | apply pw_below_drewN | apply below_drew1) | exact HB.out)⟩⟩
      ·rw [if_neg c6] at H
       exact absurd H (by simp)
    case rest =>
     clear HC4
     try clear p1
     try clear q1
     try clear hx1
     try clear p2
     try clear c3
     try clear c3b0
     try clear c4
     try clear c5
     try clear c6
     try clear c6b0
     try clear hx167_0
     try clear p167
     try clear p2
     try clear q167
     obtain ⟨kq,x23_3,rfl,HA,HJ3,HO_5,HB⟩:=hcut
     cases kq with
     | zero => exact absurd HA.out (by simp [metrolabref19_Put.j1])
     | succ kj3 =>
      have H:=HA.out
      clear HA
      simp only [metrolabref19_Put.j1] at H
      by_cases c7 : x23_3 = true
      ·subst c7
       have H1 : (if x5_1.length < 8796093022208 then ((some (x5_1 ++ [a1] : List ByteArray)).bind fun y168 => (if 0 ≤ x7_1 then (if x7_1 < (l0.length : Int) then (if (rdOf ByteArray.empty l0 x7_1).toList = a1.toList then (metrolabref19_Put.l0 kj3 l0 a1 y168 true (wrap64 (x7_1 + 1))) else (if y168.length < 8796093022208 then (metrolabref19_Put.l0 kj3 l0 a1 (y168 ++ [rdOf ByteArray.empty l0 x7_1]) true (wrap64 (x7_1 + 1))) else (none))) else (none)) else (none))) else (none)) = some r:=by rw [if_pos rfl] at H;exact H
       clear H
       have H:=H1
       clear H1
       by_cases c8 : x5_1.length < 8796093022208
       ·rw [if_pos c8] at H
        have LMc8:=Aside0.mk c8
        clear c8
        obtain ⟨y168,hy168⟩ : ∃ y_ : List ByteArray,y_ = (x5_1 ++ [a1]):=⟨_,rfl⟩
        replace H : (if 0 ≤ x7_1 then (if x7_1 < (l0.length : Int) then (if (rdOf ByteArray.empty l0 x7_1).toList = a1.toList then (metrolabref19_Put.l0 kj3 l0 a1 y168 true (wrap64 (x7_1 + 1))) else (if y168.length < 8796093022208 then (metrolabref19_Put.l0 kj3 l0 a1 (y168 ++ [rdOf ByteArray.empty l0 x7_1]) true (wrap64 (x7_1 + 1))) else (none))) else (none)) else (none)) = some r:=by first | (rw [hy168];with_reducible exact H) | (have H2_:=(Option.bind_some _ _).symm.trans H;rw [hy168];with_reducible exact H2_) | (have H2_:=(Option.bind_some _ _).symm.trans H;with_reducible exact H2_) | with_reducible exact H | (rw [hy168];exact H) | exact H
        have Ny168:=Aside0.mk hy168
        clear hy168
        by_cases c9 : 0 ≤ x7_1
        ·rw [if_pos c9] at H
         have c9b0 : decide (0 ≤ x7_1) = true:=decide_eq_true c9
         clear c9
         by_cases c10 : x7_1 < (l0.length : Int)
         ·rw [if_pos c10] at H
          have c10b0 : decide (x7_1 < (l0.length : Int)) = true:=decide_eq_true c10
          clear c10
          by_cases c11 : (rdOf ByteArray.empty l0 x7_1).toList = a1.toList
          ·rw [if_pos c11] at H
           have c11b0 : ((rdOf ByteArray.empty l0 x7_1).toList == a1.toList) = true:=beq_iff_eq.mpr c11
           have c11b1 : ((rdOf ByteArray.empty l0 x7_1).toList != a1.toList) = false:=bne_eq_false_iff_eq.mpr c11
           clear c11
           have H':=Aside0.mk H
           clear H
           go_wp2_with (first | ((with_reducible refine gate_builtin (b:=.append) (xs:=#[.tmp 24,.tmp 26]) rfl ?_);at_builtin;refine Kd.R_append Kd.string (w0:=w) w.heap.size rfl (.tmp 24) (.tmp 26) 33 9 (.string ⟨#[]⟩) 16 rfl Try.underlying33 info9 rfl (by decide) (by omega) u5 x5_1 a1 [.string a1] (fun _ => True) (fun _ => False) rfl rfl ?aP (fun _ hk => hk.elim) ?aF ?aO ?aB ?aS ?aL ?_;(case aP => exact rfl);(case aB => exact (by repeat (first | (with_reducible first | exact HB.out | apply below_alloc | apply pw_below_drewN | apply below_drew1) | exact HB.out)));(case aF => exact (fun _ _ => trivial));(case aO => exact (by (with_reducible repeat (first | apply Kd.R_alloc | apply Kd.R_drewN | apply Kd.R_drew));exact HO_5.out));(case aS => exact (below_size (by repeat (first | (with_reducible first | exact HB.out | apply below_alloc | apply pw_below_drewN | apply below_drew1) | exact HB.out))));(case aL => have:=LMc8.out;omega);intro v169 w12 ho hb hg hat;rw [← Ny168.out] at ho;have n0_:=Aside0.mk (hb);have n1_:=Aside0.mk (ho);clear HB;clear HO_5;have HB:=n0_;have HO170:=n1_;clear n0_ n1_;clear ho hb hg hat;have p171 : 0 ≤ (x7_1 : Int):=of_decide_eq_true (by first | (with_reducible assumption) | assumption);have q171 : x7_1 < (l0.length : Int):=of_decide_eq_true (by first | (with_reducible assumption) | assumption);obtain ⟨ad171,e171,hx171_0⟩:=Kd.at_string HR0.out x7_1 p171 q171;cases e171;replace hx171_0:=(HB.out.cell (World.block_lt_of_cell? w _ hx171_0)).trans hx171_0;replace p171:=eq_true p171;replace q171:=eq_true q171))
           go_roundg kj3
           case measure => have:=HK1.out;have:=HJ3.out;omega
           case rel => exact ⟨(y168),(true),(wrap64 (x7_1 + 1)),(by first | rfl | (simp;done) | (simp [*];done)),(by first | rfl | (simp;done) | (simp [*];done)),H',⟨by have:=HK1.out;have:=HJ3.out;omega⟩,⟨by (with_reducible repeat (first | apply Kd.R_alloc | apply Kd.R_drewN | apply Kd.R_drew));exact HO170.out⟩,⟨by repeat (first | (with_reducible first | exact HB.out | apply below_alloc | apply pw_below_drewN | apply below_drew1) | exact HB.out)⟩⟩
          ·rw [if_neg c11] at H
           have c11b0 : ((rdOf ByteArray.empty l0 x7_1).toList == a1.toList) = false:=beq_eq_false_iff_ne.mpr c11
           have c11b1 : ((rdOf ByteArray.empty l0 x7_1).toList != a1.toList) = true:=bne_iff_ne.mpr c11
           by_cases c13 : y168.length < 8796093022208
           ·rw [if_pos c13] at H
            have LMc13:=Aside0.mk c13
            clear c13
            obtain ⟨y173,hy173⟩ : ∃ y_ : List ByteArray,y_ = (y168 ++ [rdOf ByteArray.empty l0 x7_1]):=⟨_,rfl⟩
            replace H : (metrolabref19_Put.l0 kj3 l0 a1 y173 true (wrap64 (x7_1 + 1))) = some r:=by first | (rw [hy173];with_reducible exact H) | (have H2_:=(Option.bind_some _ _).symm.trans H;rw [hy173];with_reducible exact H2_) | (have H2_:=(Option.bind_some _ _).symm.trans H;with_reducible exact H2_) | with_reducible exact H | (rw [hy173];exact H) | exact H
            have Ny173:=Aside0.mk hy173
            clear hy173
            have H':=Aside0.mk H
            clear H
            go_wp2_with (first | ((with_reducible refine gate_builtin (b:=.append) (xs:=#[.tmp 24,.tmp 26]) rfl ?_);at_builtin;refine Kd.R_append Kd.string (w0:=w) w.heap.size rfl (.tmp 24) (.tmp 26) 33 9 (.string ⟨#[]⟩) 16 rfl Try.underlying33 info9 rfl (by decide) (by omega) u5 x5_1 a1 [.string a1] (fun _ => True) (fun _ => False) rfl rfl ?aP (fun _ hk => hk.elim) ?aF ?aO ?aB ?aS ?aL ?_;(case aP => exact rfl);(case aB => exact (by repeat (first | (with_reducible first | exact HB.out | apply below_alloc | apply pw_below_drewN | apply below_drew1) | exact HB.out)));(case aF => exact (fun _ _ => trivial));(case aO => exact (by (with_reducible repeat (first | apply Kd.R_alloc | apply Kd.R_drewN | apply Kd.R_drew));exact HO_5.out));(case aS => exact (below_size (by repeat (first | (with_reducible first | exact HB.out | apply below_alloc | apply pw_below_drewN | apply below_drew1) | exact HB.out))));(case aL => have:=LMc8.out;omega);intro v169 w14 ho hb hg hat;rw [← Ny168.out] at ho;have n0_:=Aside0.mk (hb);have n1_:=Aside0.mk (ho);clear HB;clear HO_5;have HB:=n0_;have HO170:=n1_;clear n0_ n1_;clear ho hb hg hat;have p171 : 0 ≤ (x7_1 : Int):=of_decide_eq_true (by first | (with_reducible assumption) | assumption);have q171 : x7_1 < (l0.length : Int):=of_decide_eq_true (by first | (with_reducible assumption) | assumption);obtain ⟨ad171,e171,hx171_0⟩:=Kd.at_string HR0.out x7_1 p171 q171;cases e171;replace hx171_0:=(HB.out.cell (World.block_lt_of_cell? w _ hx171_0)).trans hx171_0;replace p171:=eq_true p171;replace q171:=eq_true q171;have p172 : 0 ≤ (x7_1 : Int):=of_decide_eq_true (by first | (with_reducible assumption) | assumption);have q172 : x7_1 < (l0.length : Int):=of_decide_eq_true (by first | (with_reducible assumption) | assumption);obtain ⟨ad172,e172,hx172_0⟩:=Kd.at_string HR0.out x7_1 p172 q172;obtain rfl : ad171 = ad172:=(by injection e172);replace hx172_0:=(HB.out.cell (World.block_lt_of_cell? w _ hx172_0)).trans hx172_0;replace p172:=eq_true p172;replace q172:=eq_true q172) | ((with_reducible refine gate_builtin (b:=.append) (xs:=#[.tmp 34,.tmp 39]) rfl ?_);at_builtin;refine Kd.R_append Kd.string (w0:=w) w.heap.size rfl (.tmp 34) (.tmp 39) 33 9 (.string ⟨#[]⟩) 16 rfl Try.underlying33 info9 rfl (by decide) (by omega) v169 y168 (rdOf ByteArray.empty l0 x7_1) [.string (rdOf ByteArray.empty l0 x7_1)] (fun _ => True) (fun _ => False) rfl rfl ?aP (fun _ hk => hk.elim) ?aF ?aO ?aB ?aS ?aL ?_;(case aP => exact rfl);(case aB => exact (by repeat (first | (with_reducible first | exact HB.out | apply below_alloc | apply pw_below_drewN | apply below_drew1) | exact HB.out)));(case aF => exact (fun _ _ => trivial));(case aO => exact (by (with_reducible repeat (first | apply Kd.R_alloc | apply Kd.R_drewN | apply Kd.R_drew));exact HO170.out));(case aS => exact (below_size (by repeat (first | (with_reducible first | exact HB.out | apply below_alloc | apply pw_below_drewN | apply below_drew1) | exact HB.out))));(case aL => have:=LMc13.out;omega);intro v174 w15 ho hb hg hat;rw [← Ny173.out] at ho;have n0_:=Aside0.mk (hb);have n1_:=Aside0.mk (ho);clear HB;clear HO170;have HB:=n0_;have HO175:=n1_;clear n0_ n1_;clear ho hb hg hat))
            go_roundg kj3
            case measure => have:=HK1.out;have:=HJ3.out;omega
            case rel => exact ⟨(y173),(true),(wrap64 (x7_1 + 1)),(by first | rfl | (simp;done) | (simp [*];done)),(by first | rfl | (simp;done) | (simp [*];done)),H',⟨by have:=HK1.out;have:=HJ3.out;omega⟩,⟨by (with_reducible repeat (first | apply Kd.R_alloc | apply Kd.R_drewN | apply Kd.R_drew));exact HO175.out⟩,⟨by repeat (first | (with_reducible first | exact HB.out | apply below_alloc | apply pw_below_drewN | apply below_drew1) | exact HB.out)⟩⟩
           ·rw [if_neg c13] at H
            exact absurd H (by simp)
         ·rw [if_neg c10] at H
          exact absurd H (by simp)
        ·rw [if_neg c9] at H
         exact absurd H (by simp)
       ·rw [if_neg c8] at H
        exact absurd H (by simp)
      ·replace c7:=Bool.eq_false_iff.mpr c7
       subst c7
       have H1 : (if 0 ≤ x7_1 then (if x7_1 < (l0.length : Int) then (if (rdOf ByteArray.empty l0 x7_1).toList = a1.toList then (metrolabref19_Put.l0 kj3 l0 a1 x5_1 x6_1 (wrap64 (x7_1 + 1))) else (if x5_1.length < 8796093022208 then (metrolabref19_Put.l0 kj3 l0 a1 (x5_1 ++ [rdOf ByteArray.empty l0 x7_1]) x6_1 (wrap64 (x7_1 + 1))) else (none))) else (none)) else (none)) = some r:=by rw [if_neg (show ¬ (false = true) by decide)] at H;exact H
       clear H
       have H:=H1
       clear H1
       by_cases c16 : 0 ≤ x7_1
       ·rw [if_pos c16] at H
        have c16b0 : decide (0 ≤ x7_1) = true:=decide_eq_true c16
        clear c16
        by_cases c17 : x7_1 < (l0.length : Int)
        ·rw [if_pos c17] at H
         have c17b0 : decide (x7_1 < (l0.length : Int)) = true:=decide_eq_true c17
         clear c17
         by_cases c18 : (rdOf ByteArray.empty l0 x7_1).toList = a1.toList
         ·rw [if_pos c18] at H
          have c18b0 : ((rdOf ByteArray.empty l0 x7_1).toList == a1.toList) = true:=beq_iff_eq.mpr c18
          have c18b1 : ((rdOf ByteArray.empty l0 x7_1).toList != a1.toList) = false:=bne_eq_false_iff_eq.mpr c18
          clear c18
          have H':=Aside0.mk H
          clear H
          have p176 : 0 ≤ (x7_1 : Int):=of_decide_eq_true (by first | (with_reducible assumption) | assumption)
          have q176 : x7_1 < (l0.length : Int):=of_decide_eq_true (by first | (with_reducible assumption) | assumption)
          obtain ⟨ad176,e176,hx176_0⟩:=Kd.at_string HR0.out x7_1 p176 q176
          cases e176
          replace hx176_0:=(HB.out.cell (World.block_lt_of_cell? w _ hx176_0)).trans hx176_0
          replace p176:=eq_true p176
          replace q176:=eq_true q176
          go_wp2
          go_roundg kj3
          case measure => have:=HK1.out;have:=HJ3.out;omega
          case rel => exact ⟨(x5_1),(x6_1),(wrap64 (x7_1 + 1)),(by first | rfl | (simp;done) | (simp [*];done)),(by first | rfl | (simp;done) | (simp [*];done)),H',⟨by have:=HK1.out;have:=HJ3.out;omega⟩,⟨by (with_reducible repeat (first | apply Kd.R_alloc | apply Kd.R_drewN | apply Kd.R_drew));exact HO_5.out⟩,⟨by repeat (first | (with_reducible first | exact HB.out | apply below_alloc | apply pw_below_drewN | apply below_drew1) | exact HB.out)⟩⟩
         ·rw [if_neg c18] at H
          have c18b0 : ((rdOf ByteArray.empty l0 x7_1).toList == a1.toList) = false:=beq_eq_false_iff_ne.mpr c18
          have c18b1 : ((rdOf ByteArray.empty l0 x7_1).toList != a1.toList) = true:=bne_iff_ne.mpr c18
          by_cases c19 : x5_1.length < 8796093022208
          ·rw [if_pos c19] at H
           have LMc19:=Aside0.mk c19
           clear c19
           obtain ⟨y178,hy178⟩ : ∃ y_ : List ByteArray,y_ = (x5_1 ++ [rdOf ByteArray.empty l0 x7_1]):=⟨_,rfl⟩
           replace H : (metrolabref19_Put.l0 kj3 l0 a1 y178 x6_1 (wrap64 (x7_1 + 1))) = some r:=by first | (rw [hy178];with_reducible exact H) | (have H2_:=(Option.bind_some _ _).symm.trans H;rw [hy178];with_reducible exact H2_) | (have H2_:=(Option.bind_some _ _).symm.trans H;with_reducible exact H2_) | with_reducible exact H | (rw [hy178];exact H) | exact H
           have Ny178:=Aside0.mk hy178
           clear hy178
           have H':=Aside0.mk H
           clear H
           have p176 : 0 ≤ (x7_1 : Int):=of_decide_eq_true (by first | (with_reducible assumption) | assumption)
           have q176 : x7_1 < (l0.length : Int):=of_decide_eq_true (by first | (with_reducible assumption) | assumption)
           obtain ⟨ad176,e176,hx176_0⟩:=Kd.at_string HR0.out x7_1 p176 q176
           cases e176
           replace hx176_0:=(HB.out.cell (World.block_lt_of_cell? w _ hx176_0)).trans hx176_0
           replace p176:=eq_true p176
           replace q176:=eq_true q176
           have p177 : 0 ≤ (x7_1 : Int):=of_decide_eq_true (by first | (with_reducible assumption) | assumption)
           have q177 : x7_1 < (l0.length : Int):=of_decide_eq_true (by first | (with_reducible assumption) | assumption)
           obtain ⟨ad177,e177,hx177_0⟩:=Kd.at_string HR0.out x7_1 p177 q177
           obtain rfl : ad176 = ad177:=(by injection e177)
           replace hx177_0:=(HB.out.cell (World.block_lt_of_cell? w _ hx177_0)).trans hx177_0
           replace p177:=eq_true p177
           replace q177:=eq_true q177
           go_wp2_with (first | ((with_reducible refine gate_builtin (b:=.append) (xs:=#[.tmp 34,.tmp 39]) rfl ?_);at_builtin;refine Kd.R_append Kd.string (w0:=w) w.heap.size rfl (.tmp 34) (.tmp 39) 33 9 (.string ⟨#[]⟩) 16 rfl Try.underlying33 info9 rfl (by decide) (by omega) u5 x5_1 (rdOf ByteArray.empty l0 x7_1) [.string (rdOf ByteArray.empty l0 x7_1)] (fun _ => True) (fun _ => False) rfl rfl ?aP (fun _ hk => hk.elim) ?aF ?aO ?aB ?aS ?aL ?_;(case aP => exact rfl);(case aB => exact (by repeat (first | (with_reducible first | exact HB.out | apply below_alloc | apply pw_below_drewN | apply below_drew1) | exact HB.out)));(case aF => exact (fun _ _ => trivial));(case aO => exact (by (with_reducible repeat (first | apply Kd.R_alloc | apply Kd.R_drewN | apply Kd.R_drew));exact HO_5.out));(case aS => exact (below_size (by repeat (first | (with_reducible first | exact HB.out | apply below_alloc | apply pw_below_drewN | apply below_drew1) | exact HB.out))));(case aL => have:=LMc19.out;omega);intro v179 w20 ho hb hg hat;rw [← Ny178.out] at ho;have n0_:=Aside0.mk (hb);have n1_:=Aside0.mk (ho);clear HB;clear HO_5;have HB:=n0_;have HO180:=n1_;clear n0_ n1_;clear ho hb hg hat))
           go_roundg kj3
           case measure => have:=HK1.out;have:=HJ3.out;omega
           case rel => exact ⟨(y178),(x6_1),(wrap64 (x7_1 + 1)),(by first | rfl | (simp;done) | (simp [*];done)),(by first | rfl | (simp;done) | (simp [*];done)),H',⟨by have:=HK1.out;have:=HJ3.out;omega⟩,⟨by (with_reducible repeat (first | apply Kd.R_alloc | apply Kd.R_drewN | apply Kd.R_drew));exact HO180.out⟩,⟨by repeat (first | (with_reducible first | exact HB.out | apply below_alloc | apply pw_below_drewN | apply below_drew1) | exact HB.out)⟩⟩
          ·rw [if_neg c19] at H
           exact absurd H (by simp)
        ·rw [if_neg c17] at H
         exact absurd H (by simp)
       ·rw [if_neg c16] at H
        exact absurd H (by simp)
   ·rw [if_neg c3] at H
    have c3b0 : decide (x7_1 < (l0.length : Int)) = false:=decide_eq_false c3
    clear c3
    by_cases c21 : x6_1 = true
    ·subst c21
     have H1 : (some x5_1) = some r:=by rw [if_pos rfl] at H;exact H
     clear H
     have H:=H1
     clear H1
     obtain rfl:=Option.some.inj H
     go_wp2
     go_ret
     exact ⟨_,by first | rfl | (simp [errW_none,errW_some] <;> rfl) | (simp [*,errW_none,errW_some] <;> rfl),by (with_reducible repeat (first | apply Kd.R_alloc | apply Kd.R_drewN | apply Kd.R_drew));exact HO_5.out,by repeat (first | (with_reducible first | exact HB.out | apply below_alloc | apply pw_below_drewN | apply below_drew1) | exact HB.out)⟩
    ·replace c21:=Bool.eq_false_iff.mpr c21
     subst c21
     have H1 : (if x5_1.length < 8796093022208 then (some (x5_1 ++ [a1])) else (none)) = some r:=by rw [if_neg (show ¬ (false = true) by decide)] at H;exact H
     clear H
     have H:=H1
     clear H1
     by_cases c22 : x5_1.length < 8796093022208
     ·rw [if_pos c22] at H
      have LMc22:=Aside0.mk c22
      clear c22
      obtain ⟨y164,hy164⟩ : ∃ y_ : List ByteArray,y_ = (x5_1 ++ [a1]):=⟨_,rfl⟩
      replace H : (some y164) = some r:=by first | (rw [hy164];with_reducible exact H) | (have H2_:=(Option.bind_some _ _).symm.trans H;rw [hy164];with_reducible exact H2_) | (have H2_:=(Option.bind_some _ _).symm.trans H;with_reducible exact H2_) | with_reducible exact H | (rw [hy164];exact H) | exact H
      have Ny164:=Aside0.mk hy164
      clear hy164
      obtain rfl:=Option.some.inj H
      go_wp2_with (first | ((with_reducible refine gate_builtin (b:=.append) (xs:=#[.tmp 43,.tmp 45]) rfl ?_);at_builtin;refine Kd.R_append Kd.string (w0:=w) w.heap.size rfl (.tmp 43) (.tmp 45) 33 9 (.string ⟨#[]⟩) 16 rfl Try.underlying33 info9 rfl (by decide) (by omega) u5 x5_1 a1 [.string a1] (fun _ => True) (fun _ => False) rfl rfl ?aP (fun _ hk => hk.elim) ?aF ?aO ?aB ?aS ?aL ?_;(case aP => exact rfl);(case aB => exact (by repeat (first | (with_reducible first | exact HB.out | apply below_alloc | apply pw_below_drewN | apply below_drew1) | exact HB.out)));(case aF => exact (fun _ _ => trivial));(case aO => exact (by (with_reducible repeat (first | apply Kd.R_alloc | apply Kd.R_drewN | apply Kd.R_drew));exact HO_5.out));(case aS => exact (below_size (by repeat (first | (with_reducible first | exact HB.out | apply below_alloc | apply pw_below_drewN | apply below_drew1) | exact HB.out))));(case aL => have:=LMc22.out;omega);intro v165 w23 ho hb hg hat;rw [← Ny164.out] at ho;have n0_:=Aside0.mk (hb);have n1_:=Aside0.mk (ho);clear HB;clear HO_5;have HB:=n0_;have HO166:=n1_;clear n0_ n1_;clear ho hb hg hat))
      go_ret
      exact ⟨_,by first | rfl | (simp [errW_none,errW_some] <;> rfl) | (simp [*,errW_none,errW_some] <;> rfl),by (with_reducible repeat (first | apply Kd.R_alloc | apply Kd.R_drewN | apply Kd.R_drew));exact HO166.out,by repeat (first | (with_reducible first | exact HB.out | apply below_alloc | apply pw_below_drewN | apply below_drew1) | exact HB.out)⟩
     ·rw [if_neg c22] at H
      exact absurd H (by simp)

end Go.Proofs.Ytnmmdeonkpfccaa.Pr
/-
 DERIVED: THE SHELF's CONTRACTS AT THIS DUMP,IN PLAIN WORDS (tools/lay-plain.mjs out of 'YtnmmdeonkpfccaaFLay.lean',which tools/lay-shelf.mjs wrote): THE SAME DECLARATIONS UNDER THE SAME NAMES: 'import','namespace','open','def','theorem' AND NOTHING ELSE: no command of the shelf's: FOR A HAND-IN. Each laying: the table of numbers ('.._ren') and one theorem,a field a fact of the dump's own or the kernel's comparison;each contract: ONE APPLICATION.
-/
namespace Go.Proofs
open Go.Shelf
def Try.keys67_ren : Go.Shelf.Ren:=⟨fun | 7 => 67 | 10 => 86 | n => n,fun | 23 => 49 | 26 => 9 | 3 => 4 | 28 => 99 | 0 => 0 | 27 => 98 | 33 => 119 | 4 => 4 | n => n,fun | n => n⟩
theorem Try.keys67 : Go.Proofs.SlLaysZ.n7 Try.prog Try.keys67_ren:={
 mixed:=by kernel_rfl
 f7:=⟨Try.f67.name,by decide,Try.func67.trans (congrArg some (by kernel_rfl))⟩
 f10:=⟨Try.f86.name,by decide,Try.func86.trans (congrArg some (by kernel_rfl))⟩
 t0:=Try.underlying0
 a0:=Try.isAgg0
 z0:=Try.sizeOf0
 v0:=Try.zeroValue0
 t4:=Try.underlying4
 a4:=Try.isAgg4
 z4:=Try.sizeOf4
 v4:=Try.zeroValue4
 t23:=Try.underlying49
 a23:=Try.isAgg49
 z23:=Try.sizeOf49
 v23:=Try.zeroValue49
 t26:=Try.underlying9
 a26:=Try.isAgg9
 z26:=Try.sizeOf9
 v26:=Try.zeroValue9
 t27:=Try.underlying98
 a27:=Try.isAgg98
 z27:=Try.sizeOf98
 v27:=Try.zeroValue98
 t28:=Try.underlying99
 a28:=Try.isAgg99
 z28:=Try.sizeOf99
 v28:=Try.zeroValue99
 t33:=Try.underlying119
 a33:=Try.isAgg119
 z33:=Try.sizeOf119
 v33:=Try.zeroValue119 }
def Try.sorted66_ren : Go.Shelf.Ren:=⟨fun | 6 => 66 | 8 => 85 | 9 => 35 | 11 => 93 | 13 => 63 | 12 => 62 | 23 => 82 | 24 => 83 | 14 => 73 | 15 => 74 | 16 => 75 | 17 => 76 | 18 => 77 | 19 => 78 | 20 => 79 | 21 => 80 | 22 => 81 | 25 => 87 | 26 => 88 | 27 => 89 | 28 => 90 | 29 => 91 | 30 => 92 | 31 => 94 | n => n,fun | 26 => 9 | 28 => 99 | 24 => 33 | 0 => 0 | 3 => 3 | 37 => 90 | 48 => 115 | 50 => 117 | 4 => 4 | 40 => 107 | 39 => 106 | 45 => 112 | 5 => 5 | 9 => 9 | 51 => 120 | 55 => 124 | 57 => 127 | 58 => 128 | 33 => 119 | n => n,fun | n => n⟩
theorem Try.sorted66 : Go.Proofs.SlLaysZ.n6 Try.prog Try.sorted66_ren:={
 mixed:=by kernel_rfl
 f6:=⟨Try.f66.name,by decide,Try.func66.trans (congrArg some (by kernel_rfl))⟩
 f8:=⟨Try.f85.name,by decide,Try.func85.trans (congrArg some (by kernel_rfl))⟩
 f11:=⟨Try.f93.name,by decide,Try.func93.trans (congrArg some (by kernel_rfl))⟩
 t0:=Try.underlying0
 a0:=Try.isAgg0
 z0:=Try.sizeOf0
 v0:=Try.zeroValue0
 t24:=Try.underlying33
 a24:=Try.isAgg33
 z24:=Try.sizeOf33
 v24:=Try.zeroValue33
 t26:=Try.underlying9
 a26:=Try.isAgg9
 z26:=Try.sizeOf9
 v26:=Try.zeroValue9
 t28:=Try.underlying99
 a28:=Try.isAgg99
 z28:=Try.sizeOf99
 v28:=Try.zeroValue99
 i26:=by kernel_rfl }
def Try.sort35_ren : Go.Shelf.Ren:=⟨fun | 6 => 35 | 8 => 63 | 9 => 62 | 19 => 82 | 20 => 83 | 21 => 73 | 22 => 74 | 23 => 75 | 24 => 76 | 25 => 77 | 26 => 78 | 27 => 79 | 28 => 80 | 29 => 81 | 36 => 87 | 31 => 88 | 32 => 89 | 37 => 90 | 38 => 91 | 39 => 92 | 41 => 94 | n => n,fun | 27 => 33 | 29 => 9 | 3 => 3 | 32 => 90 | 26 => 33 | 0 => 0 | 44 => 115 | 46 => 117 | 4 => 4 | 36 => 107 | 35 => 106 | 41 => 112 | 5 => 5 | 9 => 9 | 53 => 120 | 57 => 124 | 63 => 127 | 64 => 128 | n => n,fun | n => n⟩
theorem Try.sort35 : Go.Proofs.SlLaysM.n6 Try.prog Try.sort35_ren:={
 mixed:=by kernel_rfl
 f6:=⟨Try.f35.name,by decide,Try.func35.trans (congrArg some (by kernel_rfl))⟩
 f8:=Try.func63.trans (congrArg some (by kernel_rfl))
 f9:=⟨Try.f62.name,by decide,Try.func62.trans (congrArg some (by kernel_rfl))⟩
 f19:=Try.func82.trans (congrArg some (by kernel_rfl))
 f20:=Try.func83.trans (congrArg some (by kernel_rfl))
 f21:=⟨Try.f73.name,by decide,Try.func73.trans (congrArg some (by kernel_rfl))⟩
 f22:=⟨Try.f74.name,by decide,Try.func74.trans (congrArg some (by kernel_rfl))⟩
 f23:=⟨Try.f75.name,by decide,Try.func75.trans (congrArg some (by kernel_rfl))⟩
 f24:=⟨Try.f76.name,by decide,Try.func76.trans (congrArg some (by kernel_rfl))⟩
 f25:=⟨Try.f77.name,by decide,Try.func77.trans (congrArg some (by kernel_rfl))⟩
 f26:=⟨Try.f78.name,by decide,Try.func78.trans (congrArg some (by kernel_rfl))⟩
 f27:=⟨Try.f79.name,by decide,Try.func79.trans (congrArg some (by kernel_rfl))⟩
 f28:=⟨Try.f80.name,by decide,Try.func80.trans (congrArg some (by kernel_rfl))⟩
 f29:=⟨Try.f81.name,by decide,Try.func81.trans (congrArg some (by kernel_rfl))⟩
 f31:=Try.func88.trans (congrArg some (by kernel_rfl))
 f32:=Try.func89.trans (congrArg some (by kernel_rfl))
 f36:=⟨Try.f87.name,by decide,Try.func87.trans (congrArg some (by kernel_rfl))⟩
 f37:=⟨Try.f90.name,by decide,Try.func90.trans (congrArg some (by kernel_rfl))⟩
 f38:=⟨Try.f91.name,by decide,Try.func91.trans (congrArg some (by kernel_rfl))⟩
 f39:=⟨Try.f92.name,by decide,Try.func92.trans (congrArg some (by kernel_rfl))⟩
 f41:=⟨Try.f94.name,by decide,Try.func94.trans (congrArg some (by kernel_rfl))⟩
 t0:=Try.underlying0
 a0:=Try.isAgg0
 z0:=Try.sizeOf0
 v0:=Try.zeroValue0
 t3:=Try.underlying3
 a3:=Try.isAgg3
 z3:=Try.sizeOf3
 v3:=Try.zeroValue3
 t4:=Try.underlying4
 a4:=Try.isAgg4
 z4:=Try.sizeOf4
 v4:=Try.zeroValue4
 t5:=Try.underlying5
 a5:=Try.isAgg5
 z5:=Try.sizeOf5
 v5:=Try.zeroValue5
 t9:=Try.underlying9
 a9:=Try.isAgg9
 z9:=Try.sizeOf9
 v9:=Try.zeroValue9
 t26:=Try.underlying33
 a26:=Try.isAgg33
 z26:=Try.sizeOf33
 v26:=Try.zeroValue33
 t27:=Try.underlying33
 a27:=Try.isAgg33
 z27:=Try.sizeOf33
 v27:=Try.zeroValue33
 t29:=Try.underlying9
 a29:=Try.isAgg9
 z29:=Try.sizeOf9
 v29:=Try.zeroValue9
 t32:=Try.underlying90
 a32:=Try.isAgg90
 z32:=Try.sizeOf90
 v32:=Try.zeroValue90
 t35:=Try.underlying106
 a35:=Try.isAgg106
 z35:=Try.sizeOf106
 v35:=Try.zeroValue106
 t36:=Try.underlying107
 a36:=Try.isAgg107
 z36:=Try.sizeOf107
 v36:=Try.zeroValue107
 t41:=Try.underlying112
 a41:=Try.isAgg112
 z41:=Try.sizeOf112
 v41:=Try.zeroValue112
 t44:=Try.underlying115
 a44:=Try.isAgg115
 z44:=Try.sizeOf115
 v44:=Try.zeroValue115
 t46:=Try.underlying117
 a46:=Try.isAgg117
 z46:=Try.sizeOf117
 v46:=Try.zeroValue117
 t53:=Try.underlying120
 a53:=Try.isAgg120
 z53:=Try.sizeOf120
 v53:=Try.zeroValue120
 t57:=Try.underlying124
 a57:=Try.isAgg124
 z57:=Try.sizeOf124
 v57:=Try.zeroValue124
 t63:=Try.underlying127
 a63:=Try.isAgg127
 z63:=Try.sizeOf127
 v63:=Try.zeroValue127
 t64:=Try.underlying128
 a64:=Try.isAgg128
 z64:=Try.sizeOf128
 v64:=Try.zeroValue128 }
def Try.del55_ren : Go.Shelf.Ren:=⟨fun | 5 => 55 | n => n,fun | 23 => 49 | 26 => 9 | 24 => 4 | 27 => 82 | 0 => 0 | 4 => 4 | n => n,fun | n => n⟩
theorem Try.del55 : Go.Proofs.SlLaysDf.n5 Try.prog Try.del55_ren:={
 mixed:=by kernel_rfl
 f5:=⟨Try.f55.name,by decide,Try.func55.trans (congrArg some (by kernel_rfl))⟩
 t0:=Try.underlying0
 a0:=Try.isAgg0
 z0:=Try.sizeOf0
 v0:=Try.zeroValue0
 t4:=Try.underlying4
 a4:=Try.isAgg4
 z4:=Try.sizeOf4
 v4:=Try.zeroValue4
 t23:=Try.underlying49
 a23:=Try.isAgg49
 z23:=Try.sizeOf49
 v23:=Try.zeroValue49
 a24:=Try.isAgg4
 z24:=Try.sizeOf4
 a26:=Try.isAgg9
 z26:=Try.sizeOf9
 t27:=Try.underlying82
 a27:=Try.isAgg82
 z27:=Try.sizeOf82
 v27:=Try.zeroValue82 }
def Try.cf29_ren : Go.Shelf.Ren:=⟨fun | 8 => 29 | 6 => 58 | n => n,fun | 22 => 22 | 23 => 51 | 25 => 53 | 4 => 4 | 3 => 3 | 0 => 0 | n => n,fun | n => n⟩
theorem Try.cf29 : Go.Proofs.SlLaysH0.n8 Try.prog Try.cf29_ren:={
 mixed:=by kernel_rfl
 f6:=⟨Try.f58.name,by decide,Try.func58.trans (congrArg some (by kernel_rfl))⟩
 f8:=⟨Try.f29.name,by decide,Try.func29.trans (congrArg some (by kernel_rfl))⟩
 t0:=Try.underlying0
 a0:=Try.isAgg0
 z0:=Try.sizeOf0
 v0:=Try.zeroValue0
 t3:=Try.underlying3
 a3:=Try.isAgg3
 z3:=Try.sizeOf3
 v3:=Try.zeroValue3
 t4:=Try.underlying4
 a4:=Try.isAgg4
 z4:=Try.sizeOf4
 v4:=Try.zeroValue4
 t22:=Try.underlying22
 a22:=Try.isAgg22
 z22:=Try.sizeOf22
 v22:=Try.zeroValue22
 t25:=Try.underlying53
 a25:=Try.isAgg53
 z25:=Try.sizeOf53
 v25:=Try.zeroValue53 }
def Try.clone31_ren : Go.Shelf.Ren:=⟨fun | 41 => 31 | n => n,fun | 22 => 22 | 23 => 51 | 4 => 4 | n => n,fun | n => n⟩
theorem Try.clone31 : Go.Proofs.SlLaysE0.n41 Try.prog Try.clone31_ren:={
 mixed:=by kernel_rfl
 f41:=⟨Try.f31.name,by decide,Try.func31.trans (congrArg some (by kernel_rfl))⟩
 t4:=Try.underlying4
 a4:=Try.isAgg4
 z4:=Try.sizeOf4
 v4:=Try.zeroValue4
 t22:=Try.underlying22
 a22:=Try.isAgg22
 z22:=Try.sizeOf22
 v22:=Try.zeroValue22 }
end Go.Proofs
/- slices.Sorted over the keys of a set of names; recall.sorted. -/
set_option linter.unusedVariables false
namespace Go.Proofs
open Go.RowKit Go.Maps Go.Sort Go.Shelf
theorem Try.sorts66 (m : Nat) : AnyZ.SortsIn Try.prog Try.sorted66_ren Fence.wide m :=
  ⟨fun blk off cap ss W hH hblk hsz => callsIn_wide.2 (AnyM.slices_Sort_string Try.sort35 blk off cap ss W hH hblk hsz),
   fun p cap W => callsIn_wide.2 (AnyM.slices_Sort_string_none Try.sort35 p cap W)⟩

theorem Try.maps_Keys_67 (mb : Option Nat) (W : World) : CallsIn Fence.wide 5 Try.prog 67 #[.map mb] W fun e w' => e = .returned (.func (.func 86) #[] #[.pointer (some ⟨W.heap.size,0,none⟩)]) ∧ w' = W.alloc (.cells #[.map mb] 49) :=
  AnyZ.keys_in Try.keys67 Fence.wide 5 trivial rfl mb W

set_option maxHeartbeats 1000000 in
theorem Try.slices_Sorted_keys_66_67 {H : Type} (b nn : Nat) (D0 : DataW H) (R : Value → Option (DataW H × List MemPlace)) (w : World) (hown : w.ownsMap Try.prog 9 R b nn D0) (hmax : Maps.size D0 ≤ maxLen) (hbytes : Maps.size D0 * 16 ≤ 140737488355328) :
    CallsIn Fence.wide 5 Try.prog 66 #[.func (.func 86) #[] #[.pointer (some ⟨w.heap.size,0,none⟩)]] (w.alloc (.cells #[.map (some b)] 49)) fun e w' => ∃ (v : Value) (ss : List (List UInt8)),e = .returned v ∧ ss.Perm (strKeys D0) ∧
      w'.ownsRow (w.alloc (.cells #[.map (some b)] 49)).heap.size 9 1 v ss.length ((ss.mergeSort (fun x y => decide (x ≤ y))).map encStr) ∧ (v = .slice none 0 0 ↔ ss = []) ∧ Below (w.alloc (.cells #[.map (some b)] 49)).heap.size (w.alloc (.cells #[.map (some b)] 49)) w':=by
  have hbl:=hown.lt
  have hseq : SeqGives Fence.wide 2 Try.prog 86 #[.pointer (some ⟨w.heap.size,0,none⟩)] encStr (fun ss => ss.Perm (strKeys D0)) (Maps.size D0) (w.alloc (.cells #[.map (some b)] 49)) :=
    AnyZ.keys_gives (ρ:=Try.keys67_ren) { Try.keys67 with } Fence.wide _ trivial rfl (by omega) w.heap.size b nn D0 _ (by simp) (by simp) (by
      obtain ⟨es,clock,hb,Ft,hs,hD⟩:=hown
      exact ⟨es,clock,(Below.heap_alloc _ _ b hbl).trans hb,Ft,hs,hD⟩)
  exact AnyZ.sorted_in Try.sorted66 Fence.wide 5 trivial trivial trivial trivial rfl (by omega) (Try.sorts66 _) (enters_of Try.func35 (by kernel_rfl) rfl) 86 #[.pointer (some ⟨w.heap.size,0,none⟩)] trivial (enters_of Try.func86 (by kernel_rfl) rfl) _ _ hmax hbytes _ hseq

set_option maxHeartbeats 1000000 in
theorem Try.slices_Sorted_keys_nil_66_67 (w : World) :
    CallsIn Fence.wide 5 Try.prog 66 #[.func (.func 86) #[] #[.pointer (some ⟨w.heap.size,0,none⟩)]] (w.alloc (.cells #[.map none] 49)) fun e w' => ∃ (v : Value) (ss : List (List UInt8)),e = .returned v ∧ ss = [] ∧
      w'.ownsRow (w.alloc (.cells #[.map none] 49)).heap.size 9 1 v ss.length ((ss.mergeSort (fun x y => decide (x ≤ y))).map encStr) ∧ (v = .slice none 0 0 ↔ ss = []) ∧ Below (w.alloc (.cells #[.map none] 49)).heap.size (w.alloc (.cells #[.map none] 49)) w':=by
  have hseq : SeqGives Fence.wide 2 Try.prog 86 #[.pointer (some ⟨w.heap.size,0,none⟩)] encStr (fun ss : List (List UInt8) => ss = []) 0 (w.alloc (.cells #[.map none] 49)) :=
    AnyZ.keys_gives_nil (ρ:=Try.keys67_ren) { Try.keys67 with } Fence.wide _ trivial rfl w.heap.size _ (by simp) (by simp)
  exact AnyZ.sorted_in Try.sorted66 Fence.wide 5 trivial trivial trivial trivial rfl (by omega) (Try.sorts66 _) (enters_of Try.func35 (by kernel_rfl) rfl) 86 #[.pointer (some ⟨w.heap.size,0,none⟩)] trivial (enters_of Try.func86 (by kernel_rfl) rfl) _ 0 (Nat.zero_le _) (by omega) _ hseq

end Go.Proofs
namespace Go.Proofs.Ytnmmdeonkpfccaa.Pr
open Go.RowKit Go.Shelf Go.Sort Go.Proofs.YtnmmdeonkpfccaaW.PrintWords Go.Proofs.YtnmmdeonkpfccaaW.PrintLast Go.Proofs.YtnmmdeonkpfccaaW.PrintMore
open Go.Proofs.Ytnmmdeonkpfccaa.Rg

/-- The names of a list, each once, ascending. -/
def ddup : List (List UInt8) → List (List UInt8)
  | [] => []
  | x :: r => if x ∈ ddup r then ddup r else x :: ddup r
theorem mem_ddup {x : List UInt8} : ∀ {S : List (List UInt8)},x ∈ ddup S ↔ x ∈ S
  | [] => Iff.rfl
  | y :: r => by
    unfold ddup
    split
    · rename_i h
      rw [mem_ddup,List.mem_cons]
      exact ⟨.inr,fun h1 => h1.elim (fun e => e ▸ mem_ddup.1 h) id⟩
    · rw [List.mem_cons,List.mem_cons,mem_ddup]
theorem nodup_ddup : ∀ S : List (List UInt8),(ddup S).Nodup
  | [] => List.Pairwise.nil
  | y :: r => by
    unfold ddup
    split
    · exact nodup_ddup r
    · rename_i h
      exact List.nodup_cons.2 ⟨h,nodup_ddup r⟩
def sortU (S : List (List UInt8)) : List (List UInt8):=(ddup S).mergeSort fun x y => decide (x ≤ y)
def strs (S : List (List UInt8)) : List ByteArray:=(sortU S).map fun q => ByteArray.mk q.toArray
theorem fSet_some (S : List (List UInt8)) (q : List UInt8) : (fSet S q).isSome = true ↔ q ∈ S:=by unfold fSet;split <;> simp [*]
theorem row_base {W : World} {b b' : Nat} {e : TypeId} {size : Nat} {v : Value} {n : Nat} {xs : List Value} (h : W.ownsRow b e size v n xs) (hb : b' ≤ b) : W.ownsRow b' e size v n xs :=
  ⟨h.1,h.2.elim .inl fun ⟨g,cap,cur,h1,h2,h3⟩ => .inr ⟨g,cap,cur,h1,Nat.le_trans hb h2,h3⟩⟩

theorem R_strs {w0 W : World} {v : Value} {ks : List (List UInt8)} (h : W.ownsRow w0.heap.size 9 1 v ks.length (ks.map encStr)) : Kd.R Kd.string 9 W w0.heap.size (fun _ => True) v (ks.map fun q => ByteArray.mk q.toArray):=by
  refine Kd.R_of_own (enc:=Value.string) (h1:=fun _ => rfl) ?_ (fun _ _ => trivial)
  rw [List.length_map]
  have : encs Value.string (ks.map fun q => ByteArray.mk q.toArray) = ks.map encStr:=by simp [encs,encStr]
  rw [this]
  exact h

theorem R_base {W : World} {b b' : Nat} {v : Value} {xs : List ByteArray} (h : Kd.R Kd.string 9 W b (fun _ => True) v xs) (hb : b' ≤ b) : Kd.R Kd.string 9 W b' (fun _ => True) v xs :=
  Kd.R_of_own (enc:=Value.string) (h1:=fun _ => rfl) (row_base (Kd.own_of_R (enc:=Value.string) (h1:=fun _ => rfl) h) hb) (fun _ _ => trivial)
set_option maxHeartbeats 1000000 in
set_option maxRecDepth 100000 in
theorem sorted_ok (b n : Nat) (S : List (List UInt8)) (w : World) (hm : MapF Try.prog 9 w b n (fSet S)) (hn : n ≤ 5000) :
    Calls Try.prog 40 #[.map (some b)] w fun e w' => ∃ v,e = .returned v ∧ Kd.R Kd.string 9 w' w.heap.size (fun _ => True) v (strs S) ∧ Below w.heap.size w w':=by
  obtain ⟨D,hown,ht,hnd,hks,hsz⟩:=hm.keys Try.underlying9
  have cS:=Try.slices_Sorted_keys_66_67 b n D RV w hown (by unfold maxLen;omega) (by omega)
  have cK:=Try.maps_Keys_67
  have hfK : Fence.wide.fn 67:=trivial
  have hfS : Fence.wide.fn 66:=trivial
  have HKS:=Aside0.mk hks
  have HND:=Aside0.mk hnd
  clear hks hnd hown ht
  refine (callsIn_wide (n:=6)).1 ?_
  refine callsIn_of_wp Try.func40 rfl trivial ?_ rfl
  simp only [Try.ntmps40,List.size_toArray,List.length_cons,List.length_nil,Nat.reduceAdd,Nat.reduceSub,Array.replicate_succ,Array.replicate_zero,List.push_toArray,List.append_toArray,List.nil_append,List.cons_append]
  gi_wp2_with (first
     | (gi_at_call 67;refine (cK _ _).mono ?_;rintro e w' ⟨rfl,rfl⟩)
     | (gi_at_call 66;refine cS.mono ?_;rintro e w' ⟨v,ss,rfl,hS,hrow,hnil,hb⟩;have HS:=Aside0.mk hS;have HRW:=Aside0.mk hrow;have HB:=Aside0.mk hb;clear hS hrow hnil hb))
  go_ret
  have hp : ss.Perm (ddup S):=by
    refine HS.out.trans ((List.perm_ext_iff_of_nodup HND.out (nodup_ddup S)).2 fun q => ?_)
    rw [HKS.out q,fSet_some,mem_ddup]
  have hb0 : Below w.heap.size w (w.alloc (.cells #[.map (some b)] 49)):=(Below.refl _ w).alloc (Nat.le_refl _) _
  refine ⟨_,rfl,?_,hb0.trans (HB.out.mono hb0.size)⟩
  have hr:=HRW.out
  unfold strs sortU
  rw [← mergeSort_of_perm hp]
  refine R_strs ?_
  rw [List.length_mergeSort]
  exact row_base hr (by simp)
end Go.Proofs.Ytnmmdeonkpfccaa.Pr
/- The plain laws: sorted sets of names, on both sides. -/
set_option linter.unusedVariables false
namespace Go.Proofs.Ytnmmdeonkpfccaa.Pr
open Go.RowKit Go.Proofs.YtnmmdeonkpfccaaW.PrintWords Go.Proofs.YtnmmdeonkpfccaaW.PrintLast Go.Proofs.YtnmmdeonkpfccaaW.PrintMore

abbrev Nm:=List UInt8
theorem nm_lt_of {a b : Nm} (h : ¬ a < b) (h2 : a ≠ b) : b < a:=by
 refine Classical.byContradiction fun h3 => h2 ?_
 exact List.le_antisymm (List.not_lt.1 h3) (List.not_lt.1 h)
theorem nm_ne {a b : Nm} (h : a < b) : a ≠ b:=fun e => List.lt_irrefl b (e ▸ h)
/-- A strictly ascending list. -/
def Asc (l : List Nm) : Prop:=l.Pairwise (· < ·)
theorem asc_same : ∀ {a b : List Nm},Asc a → Asc b → (∀ q,q ∈ a ↔ q ∈ b) → a = b
 | [],[],_,_,_ => rfl
 | [],y :: b,_,_,h => by have:=(h y).2 (List.mem_cons_self ..);cases this
 | x :: a,[],_,_,h => by have:=(h x).1 (List.mem_cons_self ..);cases this
 | x :: a,y :: b,ha,hb,h => by
  obtain ⟨ha1,ha2⟩:=List.pairwise_cons.1 ha
  obtain ⟨hb1,hb2⟩:=List.pairwise_cons.1 hb
  have e : x = y:=by
   rcases List.mem_cons.1 ((h x).1 (List.mem_cons_self ..)) with e | h1
   ·exact e
   ·rcases List.mem_cons.1 ((h y).2 (List.mem_cons_self ..)) with e | h2
    ·exact e.symm
    ·exact absurd (List.lt_trans (hb1 _ h1) (ha1 _ h2)) (List.lt_irrefl _)
  subst e
  rw [asc_same ha2 hb2 fun q => ?_]
  constructor
  ·intro hq
   rcases List.mem_cons.1 ((h q).1 (List.mem_cons_of_mem _ hq)) with e | h1
   ·exact absurd (e ▸ ha1 _ hq) (List.lt_irrefl _)
   ·exact h1
  ·intro hq
   rcases List.mem_cons.1 ((h q).2 (List.mem_cons_of_mem _ hq)) with e | h1
   ·exact absurd (e ▸ hb1 _ hq) (List.lt_irrefl _)
   ·exact h1
/-- A name put into an ascending list. -/
def ins (s : Nm) : List Nm → List Nm
 | [] => [s]
 | x :: r => if x < s then x :: ins s r else s :: (x :: r).filter fun y => decide (y ≠ s)
theorem mem_ins {s q : Nm} : ∀ {l : List Nm},q ∈ ins s l ↔ q = s ∨ q ∈ l
 | [] => by unfold ins;simp
 | x :: r => by
  unfold ins
  split
  ·rw [List.mem_cons,mem_ins,List.mem_cons];exact or_left_comm
  ·rw [List.mem_cons,List.mem_filter,decide_eq_true_iff]
   by_cases e : q = s
   ·exact ⟨fun _ => .inl e,fun _ => .inl e⟩
   ·exact ⟨fun h => h.imp_right fun h => h.1,fun h => h.imp_right fun h => ⟨h,e⟩⟩
theorem asc_ins {s : Nm} : ∀ {l : List Nm},Asc l → Asc (ins s l)
 | [],_ => List.pairwise_singleton ..
 | x :: r,h => by
  obtain ⟨h1,h2⟩:=List.pairwise_cons.1 h
  unfold ins
  split
  ·rename_i hx
   refine List.pairwise_cons.2 ⟨fun y hy => ?_,asc_ins h2⟩
   rcases mem_ins.1 hy with e | hy
   ·exact e ▸ hx
   ·exact h1 y hy
  ·rename_i hx
   refine List.pairwise_cons.2 ⟨fun y hy => ?_,List.Pairwise.filter _ h⟩
   obtain ⟨hy,hne⟩:=List.mem_filter.1 hy
   have hne:=of_decide_eq_true hne
   refine nm_lt_of (fun hlt => ?_) hne
   rcases List.mem_cons.1 hy with e | hy
   ·exact hx (e ▸ hlt)
   ·exact hx (List.lt_trans (h1 y hy) hlt)
theorem len_ins (s : Nm) : ∀ l : List Nm,(ins s l).length ≤ l.length + 1
 | [] => by unfold ins;simp
 | x :: r => by
  unfold ins
  split
  ·have:=len_ins s r;simp only [List.length_cons];omega
  ·have:=List.length_filter_le (fun y => decide (y ≠ s)) (x :: r);rw [List.length_cons];omega
def mkB (q : Nm) : ByteArray:=⟨q.toArray⟩
def bs (l : List Nm) : List ByteArray:=l.map mkB
theorem mkB_list (q : Nm) : (mkB q).toList = q:=by rw [ByteArray.toList_eq];rfl
theorem mkB_data (a : ByteArray) : mkB a.data.toList = a:=rfl
theorem bs_len (l : List Nm) : (bs l).length = l.length:=by unfold bs;rw [List.length_map]
theorem rdB_at {l : List Nm} {i : Nat} {x : Nm} (h : l[i]? = some x) : rdOf ByteArray.empty (bs l) (i : Int) = mkB x:=rdOf_at (by unfold bs;rw [List.getElem?_map,h];rfl)
theorem bs_snoc (l : List Nm) (q : Nm) : bs l ++ [mkB q] = bs (l ++ [q]):=by unfold bs;rw [List.map_append];rfl
theorem put_true (ql : List Nm) (s : Nm) (hn : ql.length ≤ 2513169434915) : ∀ (d i : Nat) (out : List Nm),i ≤ ql.length → ql.length - i = d → out.length ≤ i + 1 →
  Ev (fun k => metrolabref19_Put.l0 k (bs ql) (mkB s) (bs out) true (i : Int)) (bs (out ++ (ql.drop i).filter fun y => decide (y ≠ s))):=by
 intro d
 induction d with
 | zero =>
  intro i out hi hd ho
  obtain rfl : i = ql.length:=by omega
  refine Ev.const fun k => ?_
  simp only [metrolabref19_Put.l0]
  rw [if_neg (by rw [bs_len];omega),if_pos True.intro,List.drop_length,List.filter_nil,List.append_nil]
 | succ d ih =>
  intro i out hi hd ho
  obtain ⟨x,hx,hdr⟩:=drop_at (show i < ql.length by omega)
  rw [hdr]
  by_cases e : x = s
  ·rw [List.filter_cons_of_neg (by rw [e];simp)]
   refine Ev.step (f:=fun k => metrolabref19_Put.j1 k (bs ql) (mkB s) (bs out) true (i : Int) false) (fun k => by simp only [metrolabref19_Put.l0];rw [if_pos (by rw [bs_len];omega),if_pos True.intro]) ?_
   refine Ev.step (f:=fun k => metrolabref19_Put.l0 k (bs ql) (mkB s) (bs out) true ((i + 1 : Nat) : Int)) (fun k => ?_) (ih (i + 1) out (by omega) (by omega) (by omega))
   simp only [metrolabref19_Put.j1]
   rw [if_neg (by decide),if_pos (by omega),if_pos (by rw [bs_len];omega),rdB_at hx,mkB_list,mkB_list,if_pos e,wrap_nat (by omega)]
  ·rw [List.filter_cons_of_pos (p:=fun y => decide (y ≠ s)) (decide_eq_true e)]
   refine Ev.step (f:=fun k => metrolabref19_Put.j1 k (bs ql) (mkB s) (bs out) true (i : Int) false) (fun k => by simp only [metrolabref19_Put.l0];rw [if_pos (by rw [bs_len];omega),if_pos True.intro]) ?_
   have hih:=ih (i + 1) (out ++ [x]) (by omega) (by omega) (by rw [List.length_append,List.length_singleton];omega)
   rw [List.append_assoc] at hih
   refine Ev.step (f:=fun k => metrolabref19_Put.l0 k (bs ql) (mkB s) (bs (out ++ [x])) true ((i + 1 : Nat) : Int)) (fun k => ?_) hih
   simp only [metrolabref19_Put.j1]
   rw [if_neg (by decide),if_pos (by omega),if_pos (by rw [bs_len];omega),rdB_at hx,mkB_list,mkB_list,if_neg e,if_pos (by rw [bs_len];omega),wrap_nat (by omega),bs_snoc]
theorem put_false (ql : List Nm) (s : Nm) (hn : ql.length ≤ 2513169434915) : ∀ (d i : Nat) (out : List Nm),i ≤ ql.length → ql.length - i = d → out.length ≤ i →
  Ev (fun k => metrolabref19_Put.l0 k (bs ql) (mkB s) (bs out) false (i : Int)) (bs (out ++ ins s (ql.drop i))):=by
 intro d
 induction d with
 | zero =>
  intro i out hi hd ho
  obtain rfl : i = ql.length:=by omega
  refine Ev.const fun k => ?_
  simp only [metrolabref19_Put.l0]
  rw [if_neg (by rw [bs_len];omega),if_neg (by decide),if_pos (by rw [bs_len];omega),List.drop_length,bs_snoc];rfl
 | succ d ih =>
  intro i out hi hd ho
  obtain ⟨x,hx,hdr⟩:=drop_at (show i < ql.length by omega)
  rw [hdr]
  unfold ins
  by_cases hlt : x < s
  ·rw [if_pos hlt]
   refine Ev.step (f:=fun k => metrolabref19_Put.j1 k (bs ql) (mkB s) (bs out) false (i : Int) false) (fun k => by
    simp only [metrolabref19_Put.l0]
    rw [if_pos (by rw [bs_len];omega),if_neg (by decide),if_pos (by omega),rdB_at hx,mkB_list,mkB_list,bytesLess_eq,decide_eq_true hlt,Bool.not_true]) ?_
   have hih:=ih (i + 1) (out ++ [x]) (by omega) (by omega) (by rw [List.length_append,List.length_singleton];omega)
   rw [List.append_assoc] at hih
   refine Ev.step (f:=fun k => metrolabref19_Put.l0 k (bs ql) (mkB s) (bs (out ++ [x])) false ((i + 1 : Nat) : Int)) (fun k => ?_) hih
   simp only [metrolabref19_Put.j1]
   rw [if_neg (by decide),if_pos (by omega),if_pos (by rw [bs_len];omega),rdB_at hx,mkB_list,mkB_list,if_neg (nm_ne hlt),if_pos (by rw [bs_len];omega),wrap_nat (by omega),bs_snoc]
  ·rw [if_neg hlt]
   refine Ev.step (f:=fun k => metrolabref19_Put.j1 k (bs ql) (mkB s) (bs out) false (i : Int) true) (fun k => by
    simp only [metrolabref19_Put.l0]
    rw [if_pos (by rw [bs_len];omega),if_neg (by decide),if_pos (by omega),rdB_at hx,mkB_list,mkB_list,bytesLess_eq,decide_eq_false hlt,Bool.not_false]) ?_
   by_cases e : x = s
   ·rw [List.filter_cons_of_neg (by rw [e];simp)]
    have hp:=put_true ql s hn (ql.length - (i + 1)) (i + 1) (out ++ [s]) (by omega) rfl (by rw [List.length_append,List.length_singleton];omega)
    rw [List.append_assoc] at hp
    refine Ev.step (f:=fun k => metrolabref19_Put.l0 k (bs ql) (mkB s) (bs (out ++ [s])) true ((i + 1 : Nat) : Int)) (fun k => ?_) hp
    simp only [metrolabref19_Put.j1]
    rw [if_pos True.intro,if_pos (by rw [bs_len];omega),Option.bind_some,if_pos (by omega),if_pos (by rw [bs_len];omega),rdB_at hx,mkB_list,mkB_list,if_pos e,wrap_nat (by omega),bs_snoc]
   ·rw [List.filter_cons_of_pos (p:=fun y => decide (y ≠ s)) (decide_eq_true e)]
    have hp:=put_true ql s hn (ql.length - (i + 1)) (i + 1) (out ++ [s] ++ [x]) (by omega) rfl (by simp only [List.length_append,List.length_singleton];omega)
    simp only [List.append_assoc] at hp
    refine Ev.step (f:=fun k => metrolabref19_Put.l0 k (bs ql) (mkB s) (bs (out ++ ([s] ++ [x]))) true ((i + 1 : Nat) : Int)) (fun k => ?_) hp
    simp only [metrolabref19_Put.j1]
    rw [if_pos True.intro,if_pos (by rw [bs_len];omega),Option.bind_some,if_pos (by omega),if_pos (by rw [bs_len];omega),rdB_at hx,mkB_list,mkB_list,if_neg e,bs_snoc,if_pos (by rw [bs_len,List.length_append,List.length_singleton];omega),wrap_nat (by omega),bs_snoc,List.append_assoc]
theorem put_ev (ql : List Nm) (a : ByteArray) (hn : ql.length ≤ 2513169434915) : Ev (fun k => metrolabref19_Put.f k (bs ql) a) (bs (ins a.data.toList ql)) :=
 put_false ql a.data.toList hn ql.length 0 [] (by omega) (by omega) (Nat.zero_le _)

theorem asc_sortU (S : List Nm) : Asc (sortU S):=by
 have hp:=List.mergeSort_perm (ddup S) fun x y => decide (x ≤ y)
 have h1 : (sortU S).Pairwise fun a b => decide (a ≤ b) = true:=by
  unfold sortU
  refine List.pairwise_mergeSort (le:=fun x y : Nm => decide (x ≤ y)) ?_ ?_ _
  ·intro a b c h1 h2
   exact decide_eq_true (List.le_trans (of_decide_eq_true h1) (of_decide_eq_true h2))
  ·intro a b
   by_cases h : b < a
   ·rw [decide_eq_true (show b ≤ a from List.le_of_lt h),Bool.or_true]
   ·rw [decide_eq_true (show a ≤ b from List.not_lt.1 h)];rfl
 have h2 : (sortU S).Pairwise fun a b => a ≠ b:=(List.Perm.pairwise_iff (fun h e => h e.symm) hp).2 (nodup_ddup S)
 refine (h1.and h2).imp ?_
 rintro a b ⟨ha,hb⟩
 exact nm_lt_of (List.not_lt.2 (of_decide_eq_true ha)) (fun e => hb e.symm)
theorem mem_sortU {S : List Nm} {q : Nm} : q ∈ sortU S ↔ q ∈ S:=by
 unfold sortU;rw [List.mem_mergeSort,mem_ddup]
theorem strs_of {S l : List Nm} (h : Asc l) (hm : ∀ q,q ∈ l ↔ q ∈ S) : strs S = bs l:=by
 have : sortU S = l:=asc_same (asc_sortU S) h fun q => by rw [mem_sortU];exact (hm q).symm
 unfold strs;rw [this];rfl
/-- Names put one behind another. -/
def accS (sel : Nat → Option Nm) : Nat → List Nm
 | 0 => []
 | i + 1 => match sel i with | some q => ins q (accS sel i) | none => accS sel i
theorem acc_asc (sel : Nat → Option Nm) : ∀ i,Asc (accS sel i)
 | 0 => List.Pairwise.nil
 | i + 1 => by 
  unfold accS
  split
  ·exact asc_ins (acc_asc sel i)
  ·exact acc_asc sel i
theorem acc_len (sel : Nat → Option Nm) : ∀ i,(accS sel i).length ≤ i
 | 0 => Nat.le_refl _
 | i + 1 => by
  have:=acc_len sel i
  unfold accS;split
  ·rename_i q _;have:=len_ins q (accS sel i);omega
  ·omega
theorem acc_mem (sel : Nat → Option Nm) {q : Nm} : ∀ i,q ∈ accS sel i ↔ ∃ j,j < i ∧ sel j = some q
 | 0 => by unfold accS;simp
 | i + 1 => by
  unfold accS
  split
  ·rename_i p hp
   rw [mem_ins,acc_mem sel i]
   constructor
   ·rintro (e | ⟨j,h1,h2⟩)
    ·exact ⟨i,by omega,e ▸ hp⟩
    ·exact ⟨j,by omega,h2⟩
   ·rintro ⟨j,h1,h2⟩
    by_cases e : j = i
    ·subst e;rw [hp] at h2;exact .inl (Option.some.inj h2).symm
    ·exact .inr ⟨j,by omega,h2⟩
  ·rename_i hp
   rw [acc_mem sel i]
   constructor
   ·rintro ⟨j,h1,h2⟩;exact ⟨j,by omega,h2⟩
   ·rintro ⟨j,h1,h2⟩
    by_cases e : j = i
    ·subst e;rw [hp] at h2;cases h2
    ·exact ⟨j,by omega,h2⟩
end Go.Proofs.Ytnmmdeonkpfccaa.Pr
namespace Go.Proofs.Ytnmmdeonkpfccaa.Pr
open Go.RowKit Go.Proofs.YtnmmdeonkpfccaaW.PrintWords Go.Proofs.YtnmmdeonkpfccaaW.PrintLast Go.Proofs.YtnmmdeonkpfccaaW.PrintMore
attribute [local go_sem] max2_int min2_int max_two min_two max_three min_three max_four min_four
set_option linter.unusedVariables false
set_option linter.unusedSimpArgs false

/-! ### metrolabref53_Recalled: function 47 -/
def metrolabref53_Recalled.f (k : Nat) (l0 : List (S67)) (a1 : ByteArray) : Option (Bool):=(metrolabref53_First.f k l0 a1 3).bind fun t161 => (if t161 ≥ 0 then ((metrolabref53_First.f k l0 a1 2).bind fun t162 => (if t162 < 0 then ((metrolabref53_Withdrawn.f k l0 a1).bind fun t163 => (some (!t163))) else (some false))) else (some false))
theorem metrolabref53_Recalled.mono : ∀ a0 a1 k,LeO (metrolabref53_Recalled.f k a0 a1) (metrolabref53_Recalled.f (k + 1) a0 a1):=by
 intro a0 a1 k
 unfold metrolabref53_Recalled.f
 repeat' first
   | (with_reducible exact metrolabref53_First.mono _ _ _ _)
   | (with_reducible exact metrolabref53_Withdrawn.mono _ _ _)
   | (with_reducible exact LeO.refl _)
   | (with_reducible exact LeO.none _)
   | (with_reducible refine LeO.ite ?_ ?_)
   | (with_reducible refine LeO.bind ?_ (fun _ => ?_))
   | exact metrolabref53_First.mono _ _ _ _
   | exact metrolabref53_Withdrawn.mono _ _ _
   | exact LeO.none _
   | refine LeO.ite ?_ ?_
   | refine LeO.bind ?_ (fun _ => ?_)
set_option maxHeartbeats 8000000 in
set_option maxRecDepth 100000 in
theorem metrolabref53_Recalled.calls (k : Nat) (A0 : Option Addr) (c0 : Nat) (l0 : List (S67)) (a1 : ByteArray) (r : Bool) (w : World) (hr0 : Kd.C k67 w A0 l0.length l0) (hc0 : l0.length ≤ c0) (h : metrolabref53_Recalled.f k l0 a1 = some r) :
  Calls Try.prog 47 #[.slice A0 l0.length c0,.string a1] w fun e w' => e = .returned (.bool r) ∧ Drawn0 w w':=by
 have HR0:=Aside0.mk hr0
 have HC0:=Aside0.mk hc0
 clear hr0 hc0
 have H : ((metrolabref53_First.f k l0 a1 3).bind fun t161 => (if t161 ≥ 0 then ((metrolabref53_First.f k l0 a1 2).bind fun t162 => (if t162 < 0 then ((metrolabref53_Withdrawn.f k l0 a1).bind fun t163 => (some (!t163))) else (some false))) else (some false))) = some r:=h
 clear h
 replace H:=Option.bind_eq_some_iff.mp H
 obtain ⟨t161,A30,H⟩:=H
 replace H : (if t161 ≥ 0 then ((metrolabref53_First.f k l0 a1 2).bind fun t162 => (if t162 < 0 then ((metrolabref53_Withdrawn.f k l0 a1).bind fun t163 => (some (!t163))) else (some false))) else (some false)) = some r:=H
 have A3:=Aside0.mk A30
 clear A30
 by_cases c4 : t161 ≥ 0
 ·rw [if_pos c4] at H
  have c4b0 : decide (0 ≤ t161) = true:=decide_eq_true c4
  clear c4
  replace H:=Option.bind_eq_some_iff.mp H
  obtain ⟨t162,A50,H⟩:=H
  replace H : (if t162 < 0 then ((metrolabref53_Withdrawn.f k l0 a1).bind fun t163 => (some (!t163))) else (some false)) = some r:=H
  have A5:=Aside0.mk A50
  clear A50
  by_cases c6 : t162 < 0
  ·rw [if_pos c6] at H
   have c6b0 : decide (t162 < 0) = true:=decide_eq_true c6
   clear c6
   replace H:=Option.bind_eq_some_iff.mp H
   obtain ⟨t163,A70,H⟩:=H
   replace H : (some (!t163)) = some r:=H
   have A7:=Aside0.mk A70
   clear A70
   obtain rfl:=Option.some.inj H
   go_enter Try.func47,Try.ntmps47
   go_wp2_with (first | ((with_reducible refine gate_callee (f:=51) rfl ?_);refine goesL_ (some 7) rfl rfl Try.func51 (by kernel_rfl) rfl #[.slice A0 l0.length c0,.string a1,.int .i64 3] rfl (by (try simp only [List.map_toArray,List.map_cons,List.map_nil]);first | done | rfl | (simp only [List.length_drop,List.length_take];rfl)) ?_;(with_reducible refine (metrolabref53_First.calls k _ _ l0 a1 3 t161 _ ?side1 ?side2 A3.out).mono ?_);(case side1 => repeat (first | exact HR0.out | (with_reducible refine Kd.C_alloc ?_ _) | (with_reducible refine Kd.C_drewN ?_ _) | (with_reducible refine Kd.C_drew ?_)));(case side2 => exact HC0.out);rintro e w' ⟨rfl,⟨nd,rfl⟩⟩;refine ⟨_,rfl,?_⟩) | (go_at_call 51;(with_reducible refine (metrolabref53_First.calls k _ _ l0 a1 2 t162 _ ?side1 ?side2 A5.out).mono ?_);(case side1 => repeat (first | exact HR0.out | (with_reducible refine Kd.C_alloc ?_ _) | (with_reducible refine Kd.C_drewN ?_ _) | (with_reducible refine Kd.C_drew ?_)));(case side2 => exact HC0.out);rintro e w' ⟨rfl,⟨nd,rfl⟩⟩) | (go_at_call 45;(with_reducible refine (metrolabref53_Withdrawn.calls k _ _ l0 a1 t163 _ ?side1 ?side2 A7.out).mono ?_);(case side1 => repeat (first | exact HR0.out | (with_reducible refine Kd.C_alloc ?_ _) | (with_reducible refine Kd.C_drewN ?_ _) | (with_reducible refine Kd.C_drew ?_)));(case side2 => exact HC0.out);rintro e w' ⟨rfl,⟨nd,rfl⟩⟩))
   go_ret
   exact ⟨by first | rfl | (simp;done) | (simp [*];done),by repeat (first | exact Drawn0.refl _ | apply Drawn0.step)⟩
  ·rw [if_neg c6] at H
   have c6b0 : decide (t162 < 0) = false:=decide_eq_false c6
   clear c6
   obtain rfl:=Option.some.inj H
   go_enter Try.func47,Try.ntmps47
   go_wp2_with (first | ((with_reducible refine gate_callee (f:=51) rfl ?_);refine goesL_ (some 7) rfl rfl Try.func51 (by kernel_rfl) rfl #[.slice A0 l0.length c0,.string a1,.int .i64 3] rfl (by (try simp only [List.map_toArray,List.map_cons,List.map_nil]);first | done | rfl | (simp only [List.length_drop,List.length_take];rfl)) ?_;(with_reducible refine (metrolabref53_First.calls k _ _ l0 a1 3 t161 _ ?side1 ?side2 A3.out).mono ?_);(case side1 => repeat (first | exact HR0.out | (with_reducible refine Kd.C_alloc ?_ _) | (with_reducible refine Kd.C_drewN ?_ _) | (with_reducible refine Kd.C_drew ?_)));(case side2 => exact HC0.out);rintro e w' ⟨rfl,⟨nd,rfl⟩⟩;refine ⟨_,rfl,?_⟩) | (go_at_call 51;(with_reducible refine (metrolabref53_First.calls k _ _ l0 a1 2 t162 _ ?side1 ?side2 A5.out).mono ?_);(case side1 => repeat (first | exact HR0.out | (with_reducible refine Kd.C_alloc ?_ _) | (with_reducible refine Kd.C_drewN ?_ _) | (with_reducible refine Kd.C_drew ?_)));(case side2 => exact HC0.out);rintro e w' ⟨rfl,⟨nd,rfl⟩⟩))
   go_ret
   exact ⟨by first | rfl | (simp;done) | (simp [*];done),by repeat (first | exact Drawn0.refl _ | apply Drawn0.step)⟩
 ·rw [if_neg c4] at H
  have c4b0 : decide (0 ≤ t161) = false:=decide_eq_false c4
  clear c4
  obtain rfl:=Option.some.inj H
  go_enter Try.func47,Try.ntmps47
  go_wp2_with (first | ((with_reducible refine gate_callee (f:=51) rfl ?_);refine goesL_ (some 7) rfl rfl Try.func51 (by kernel_rfl) rfl #[.slice A0 l0.length c0,.string a1,.int .i64 3] rfl (by (try simp only [List.map_toArray,List.map_cons,List.map_nil]);first | done | rfl | (simp only [List.length_drop,List.length_take];rfl)) ?_;(with_reducible refine (metrolabref53_First.calls k _ _ l0 a1 3 t161 _ ?side1 ?side2 A3.out).mono ?_);(case side1 => repeat (first | exact HR0.out | (with_reducible refine Kd.C_alloc ?_ _) | (with_reducible refine Kd.C_drewN ?_ _) | (with_reducible refine Kd.C_drew ?_)));(case side2 => exact HC0.out);rintro e w' ⟨rfl,⟨nd,rfl⟩⟩;refine ⟨_,rfl,?_⟩))
  go_ret
  exact ⟨by first | rfl | (simp;done) | (simp [*];done),by repeat (first | exact Drawn0.refl _ | apply Drawn0.step)⟩

end Go.Proofs.Ytnmmdeonkpfccaa.Pr
