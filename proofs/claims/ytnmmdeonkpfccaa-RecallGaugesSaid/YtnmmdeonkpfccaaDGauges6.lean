/- A part of the statement's proof. -/
import Derived.Test.YtnmmdeonkpfccaaDGauges2
import Derived.Test.YtnmmdeonkpfccaaDGauges5
namespace Go.Proofs.Ytnmmdeonkpfccaa.Pr
open Go.RowKit Go.Proofs.YtnmmdeonkpfccaaW.PrintWords Go.Proofs.YtnmmdeonkpfccaaW.PrintLast Go.Proofs.YtnmmdeonkpfccaaW.PrintMore
attribute [local go_sem] max2_int min2_int max_two min_two max_three min_three max_four min_four
set_option linter.unusedVariables false
set_option linter.unusedSimpArgs false
mutual
def metrolabref17_Name.j0 : Nat → ByteArray → Bool → Option (Int)
 | 0,_,_ => none
 | k + 1,x0,x15 => if x15 = true then (some 3) else (metrolabref17_Name.l0 k x0 0)
def metrolabref17_Name.l0 : Nat → ByteArray → Int → Option (Int)
 | 0,_,_ => none
 | k + 1,x0,x3 => if x3 < (x0.size : Int) then (if 0 ≤ x3 then ((metrolabref17_letter.f (bt x0 x3)).bind fun t114 => (if t114 = true then (metrolabref17_Name.l0 k x0 (wrap64 (x3 + 1))) else (if (bt x0 x3) < 48 then (some 3) else (if (bt x0 x3) > 57 then (some 3) else (metrolabref17_Name.l0 k x0 (wrap64 (x3 + 1))))))) else (none)) else (some 0)
end
def metrolabref17_Name.f (k : Nat) (a0 : ByteArray) : Option (Int):=if (a0.size : Int) > 24 then (some 17) else (if (a0.size : Int) = 0 then (metrolabref17_Name.j0 k a0 true) else (if 0 < (a0.size : Int) then ((metrolabref17_letter.f (bt a0 0)).bind fun t113 => (metrolabref17_Name.j0 k a0 (!t113))) else (none)))
set_option maxHeartbeats 8000000 in
set_option maxRecDepth 100000 in
theorem metrolabref17_Name.calls (k : Nat) (a0 : ByteArray) (r : Int) (w : World) (h : metrolabref17_Name.f k a0 = some r) :
  Calls Try.prog 32 #[.string a0] w fun e w' => e = .returned (.int .i64 r) ∧ Drawn0 w w':=by
 have H : (if (a0.size : Int) > 24 then (some 17) else (if (a0.size : Int) = 0 then (metrolabref17_Name.j0 k a0 true) else (if 0 < (a0.size : Int) then ((metrolabref17_letter.f (bt a0 0)).bind fun t113 => (metrolabref17_Name.j0 k a0 (!t113))) else (none)))) = some r:=h
 clear h
 by_cases c2 : (a0.size : Int) > 24
 ·rw [if_pos c2] at H
  have c2b0 : decide (24 < (a0.size : Int)) = true:=decide_eq_true c2
  have c2b1 : decide (24 < a0.size) = true:=decide_eq_true (by omega)
  clear c2
  obtain rfl:=Option.some.inj H
  go_enter Try.func32,Try.ntmps32
  go_wp2
  go_ret
  exact ⟨by first | rfl | (simp;done) | (simp [*];done),by repeat (first | exact Drawn0.refl _ | apply Drawn0.step)⟩
 ·rw [if_neg c2] at H
  have c2b0 : decide (24 < (a0.size : Int)) = false:=decide_eq_false c2
  have c2b1 : decide (24 < a0.size) = false:=decide_eq_false (by omega)
  clear c2
  have HC3:=Aside0.mk H
  clear H
  go_enter Try.func32,Try.ntmps32
  go_upto_region 3 with (fail)
  go_cut [15] (fun v15 wc => ∃ (kq : Nat) (x15_2 : Bool),v15 = .bool x15_2 ∧ Aside0 (metrolabref17_Name.j0 kq a0 x15_2 = some r) ∧ Aside0 (kq ≤ k) ∧ Drawn0 w wc)
  case first =>
   have H:=HC3.out
   clear HC3
   by_cases c4 : (a0.size : Int) = 0
   ·rw [if_pos c4] at H
    have c4b0 : ((a0.size : Int) == 0) = true:=beq_iff_eq.mpr c4
    have c4b1 : ((a0.size : Int) != 0) = false:=bne_eq_false_iff_eq.mpr c4
    clear c4
    (first | rw [c4b0] | (simp only [i64_w,i32_w];rw [c4b0]) | skip)
    have H':=Aside0.mk H
    clear H
    go_wp2
    go_meet
    case rel => exact ⟨_,(true),(by first | rfl | (simp;done) | (simp [*];done)),H',⟨by first | omega | exact Nat.le_refl _⟩,by repeat (first | exact Drawn0.refl _ | apply Drawn0.step)⟩
   ·rw [if_neg c4] at H
    have c4b0 : ((a0.size : Int) == 0) = false:=beq_eq_false_iff_ne.mpr c4
    have c4b1 : ((a0.size : Int) != 0) = true:=bne_iff_ne.mpr c4
    (first | rw [c4b0] | (simp only [i64_w,i32_w];rw [c4b0]) | skip)
    by_cases c5 : 0 < (a0.size : Int)
    ·rw [if_pos c5] at H
     have c5b0 : decide (0 < (a0.size : Int)) = true:=decide_eq_true c5
     have c5b1 : decide (0 < a0.size) = true:=decide_eq_true (by omega)
     clear c5
     replace H:=Option.bind_eq_some_iff.mp H
     obtain ⟨t113,A70,H⟩:=H
     replace H : (metrolabref17_Name.j0 k a0 (!t113)) = some r:=H
     have A7:=Aside0.mk A70
     clear A70
     have H':=Aside0.mk H
     clear H
     have p6 : 0 ≤ (0 : Int):=(by omega)
     have q6 : 0 < a0.size:=(by have : (0 : Int) < (a0.size : Int):=of_decide_eq_true (by first | (with_reducible assumption) | assumption);omega)
     have hx6 : ∀ h : 0 < a0.size,((a0[0]'h).toNat : Int) = bt a0 0:=bt_at a0 0
     clear p6
     have qi6 : (0 < (a0.size : Int)) = True:=eq_true (of_decide_eq_true (by first | (with_reducible assumption) | assumption))
     replace q6:=eq_true q6
     go_wp2_with (first | (go_at_call 59;(with_reducible refine (metrolabref17_letter.calls (bt a0 0) t113 _ A7.out).mono ?_);rintro e w' ⟨rfl,⟨nd,rfl⟩⟩))
     go_meet
     case rel => exact ⟨_,(!t113),(by first | rfl | (simp;done) | (simp [*];done)),H',⟨by first | omega | exact Nat.le_refl _⟩,by repeat (first | exact Drawn0.refl _ | apply Drawn0.step)⟩
    ·rw [if_neg c5] at H
     exact absurd H (by simp)
  case rest =>
   clear HC3
   try clear c2
   try clear c2b0
   try clear c2b1
   try clear p2
   try clear c3
   try clear c4
   try clear c4b0
   try clear c4b1
   try clear c5
   try clear c5b0
   try clear c5b1
   try clear p6
   try clear q6
   try clear hx6
   try clear qi6
   try clear p6
   try clear q6
   obtain ⟨kq,x15_2,rfl,HA,HJ2,⟨mc2,rfl⟩⟩:=hcut
   cases kq with
   | zero => exact absurd HA.out (by simp [metrolabref17_Name.j0])
   | succ kj2 =>
    have H:=HA.out
    clear HA
    simp only [metrolabref17_Name.j0] at H
    by_cases c8 : x15_2 = true
    ·subst c8
     have H1 : (some 3) = some r:=by rw [if_pos rfl] at H;exact H
     clear H
     have H:=H1
     clear H1
     obtain rfl:=Option.some.inj H
     go_wp2
     go_ret
     exact ⟨by first | rfl | (simp;done) | (simp [*];done),by repeat (first | exact Drawn0.refl _ | apply Drawn0.step)⟩
    ·replace c8:=Bool.eq_false_iff.mpr c8
     subst c8
     have H1 : (metrolabref17_Name.l0 kj2 a0 0) = some r:=by rw [if_neg (show ¬ (false = true) by decide)] at H;exact H
     clear H
     have H:=H1
     clear H1
     have H':=Aside0.mk H
     clear H
     go_wp2
     go_loopg [3] kj2 (fun kq v3 w' => ∃ (x3_2 : Int),v3 = .int .i64 x3_2 ∧ Aside0 (metrolabref17_Name.l0 kq a0 x3_2 = some r) ∧ Aside0 (kq ≤ kj2) ∧ Drawn0 w w')
     case atStart => exact ⟨(0),(by first | rfl | (simp;done) | (simp [*];done)),H',⟨Nat.le_refl _⟩,by repeat (first | exact Drawn0.refl _ | apply Drawn0.step)⟩
     case round =>
      clear H'
      try clear c2
      try clear c2b0
      try clear c2b1
      try clear p2
      try clear c3
      try clear c4
      try clear c4b0
      try clear c4b1
      try clear c5
      try clear c5b0
      try clear c5b1
      try clear p6
      try clear q6
      try clear hx6
      try clear qi6
      try clear c8
      try clear p2
      try clear p6
      try clear q6
      obtain ⟨x3_2,rfl,HA,HK2,⟨m2,rfl⟩⟩:=hrel
      cases gk with
      | zero => exact absurd HA.out (by simp [metrolabref17_Name.l0])
      | succ k2 =>
       have H:=HA.out
       clear HA
       simp only [metrolabref17_Name.l0] at H
       by_cases c9 : x3_2 < (a0.size : Int)
       ·rw [if_pos c9] at H
        have c9b0 : decide (x3_2 < (a0.size : Int)) = true:=decide_eq_true c9
        clear c9
        by_cases c10 : 0 ≤ x3_2
        ·rw [if_pos c10] at H
         have c10b0 : decide (0 ≤ x3_2) = true:=decide_eq_true c10
         clear c10
         replace H:=Option.bind_eq_some_iff.mp H
         obtain ⟨t114,A120,H⟩:=H
         replace H : (if t114 = true then (metrolabref17_Name.l0 k2 a0 (wrap64 (x3_2 + 1))) else (if (bt a0 x3_2) < 48 then (some 3) else (if (bt a0 x3_2) > 57 then (some 3) else (metrolabref17_Name.l0 k2 a0 (wrap64 (x3_2 + 1)))))) = some r:=H
         have A12:=Aside0.mk A120
         clear A120
         by_cases c13 : t114 = true
         ·subst c13
          have H1 : (metrolabref17_Name.l0 k2 a0 (wrap64 (x3_2 + 1))) = some r:=by rw [if_pos rfl] at H;exact H
          clear H
          have H:=H1
          clear H1
          have H':=Aside0.mk H
          clear H
          have p11 : 0 ≤ (x3_2 : Int):=of_decide_eq_true (by first | (with_reducible assumption) | assumption)
          have q11 : x3_2 < (a0.size : Int):=of_decide_eq_true (by first | (with_reducible assumption) | assumption)
          have hx11:=bt_at a0 x3_2
          replace p11:=eq_true p11
          replace q11:=eq_true q11
          go_wp2_with (first | ((with_reducible refine gate_callee (f:=59) rfl ?_);refine goesL_ (some 25) rfl rfl Try.func59 (by kernel_rfl) rfl #[.int .u8 (bt a0 x3_2)] rfl (by (try simp only [List.map_toArray,List.map_cons,List.map_nil]);first | done | rfl | (simp only [List.length_drop,List.length_take];rfl)) ?_;(with_reducible refine (metrolabref17_letter.calls (bt a0 x3_2) true _ A12.out).mono ?_);rintro e w' ⟨rfl,⟨nd,rfl⟩⟩;refine ⟨_,rfl,?_⟩))
          go_roundg k2
          case measure => have:=HJ2.out;have:=HK2.out;omega
          case rel => exact ⟨(wrap64 (x3_2 + 1)),(by first | rfl | (simp;done) | (simp [*];done)),H',⟨by have:=HJ2.out;have:=HK2.out;omega⟩,by repeat (first | exact Drawn0.refl _ | apply Drawn0.step)⟩
         ·replace c13:=Bool.eq_false_iff.mpr c13
          subst c13
          have H1 : (if (bt a0 x3_2) < 48 then (some 3) else (if (bt a0 x3_2) > 57 then (some 3) else (metrolabref17_Name.l0 k2 a0 (wrap64 (x3_2 + 1))))) = some r:=by rw [if_neg (show ¬ (false = true) by decide)] at H;exact H
          clear H
          have H:=H1
          clear H1
          by_cases c15 : (bt a0 x3_2) < 48
          ·rw [if_pos c15] at H
           have c15b0 : decide ((bt a0 x3_2) < 48) = true:=decide_eq_true c15
           clear c15
           obtain rfl:=Option.some.inj H
           have p11 : 0 ≤ (x3_2 : Int):=of_decide_eq_true (by first | (with_reducible assumption) | assumption)
           have q11 : x3_2 < (a0.size : Int):=of_decide_eq_true (by first | (with_reducible assumption) | assumption)
           have hx11:=bt_at a0 x3_2
           replace p11:=eq_true p11
           replace q11:=eq_true q11
           go_wp2_with (first | ((with_reducible refine gate_callee (f:=59) rfl ?_);refine goesL_ (some 25) rfl rfl Try.func59 (by kernel_rfl) rfl #[.int .u8 (bt a0 x3_2)] rfl (by (try simp only [List.map_toArray,List.map_cons,List.map_nil]);first | done | rfl | (simp only [List.length_drop,List.length_take];rfl)) ?_;(with_reducible refine (metrolabref17_letter.calls (bt a0 x3_2) false _ A12.out).mono ?_);rintro e w' ⟨rfl,⟨nd,rfl⟩⟩;refine ⟨_,rfl,?_⟩;have p14 : 0 ≤ (x3_2 : Int):=of_decide_eq_true (by first | (with_reducible assumption) | assumption);have q14 : x3_2 < (a0.size : Int):=of_decide_eq_true (by first | (with_reducible assumption) | assumption);have hx14:=bt_at a0 x3_2;replace p14:=eq_true p14;replace q14:=eq_true q14))
           go_ret
           exact ⟨by first | rfl | (simp;done) | (simp [*];done),by repeat (first | exact Drawn0.refl _ | apply Drawn0.step)⟩
          ·rw [if_neg c15] at H
           have c15b0 : decide ((bt a0 x3_2) < 48) = false:=decide_eq_false c15
           clear c15
           by_cases c17 : (bt a0 x3_2) > 57
           ·rw [if_pos c17] at H
            have c17b0 : decide (57 < (bt a0 x3_2)) = true:=decide_eq_true c17
            clear c17
            obtain rfl:=Option.some.inj H
            have p11 : 0 ≤ (x3_2 : Int):=of_decide_eq_true (by first | (with_reducible assumption) | assumption)
            have q11 : x3_2 < (a0.size : Int):=of_decide_eq_true (by first | (with_reducible assumption) | assumption)
            have hx11:=bt_at a0 x3_2
            replace p11:=eq_true p11
            replace q11:=eq_true q11
            go_wp2_with (first | ((with_reducible refine gate_callee (f:=59) rfl ?_);refine goesL_ (some 25) rfl rfl Try.func59 (by kernel_rfl) rfl #[.int .u8 (bt a0 x3_2)] rfl (by (try simp only [List.map_toArray,List.map_cons,List.map_nil]);first | done | rfl | (simp only [List.length_drop,List.length_take];rfl)) ?_;(with_reducible refine (metrolabref17_letter.calls (bt a0 x3_2) false _ A12.out).mono ?_);rintro e w' ⟨rfl,⟨nd,rfl⟩⟩;refine ⟨_,rfl,?_⟩;have p14 : 0 ≤ (x3_2 : Int):=of_decide_eq_true (by first | (with_reducible assumption) | assumption);have q14 : x3_2 < (a0.size : Int):=of_decide_eq_true (by first | (with_reducible assumption) | assumption);have hx14:=bt_at a0 x3_2;replace p14:=eq_true p14;replace q14:=eq_true q14;have p16 : 0 ≤ (x3_2 : Int):=of_decide_eq_true (by first | (with_reducible assumption) | assumption);have q16 : x3_2 < (a0.size : Int):=of_decide_eq_true (by first | (with_reducible assumption) | assumption);have hx16:=bt_at a0 x3_2;replace p16:=eq_true p16;replace q16:=eq_true q16))
            go_ret
            exact ⟨by first | rfl | (simp;done) | (simp [*];done),by repeat (first | exact Drawn0.refl _ | apply Drawn0.step)⟩
           ·rw [if_neg c17] at H
            have c17b0 : decide (57 < (bt a0 x3_2)) = false:=decide_eq_false c17
            clear c17
            have H':=Aside0.mk H
            clear H
            have p11 : 0 ≤ (x3_2 : Int):=of_decide_eq_true (by first | (with_reducible assumption) | assumption)
            have q11 : x3_2 < (a0.size : Int):=of_decide_eq_true (by first | (with_reducible assumption) | assumption)
            have hx11:=bt_at a0 x3_2
            replace p11:=eq_true p11
            replace q11:=eq_true q11
            go_wp2_with (first | ((with_reducible refine gate_callee (f:=59) rfl ?_);refine goesL_ (some 25) rfl rfl Try.func59 (by kernel_rfl) rfl #[.int .u8 (bt a0 x3_2)] rfl (by (try simp only [List.map_toArray,List.map_cons,List.map_nil]);first | done | rfl | (simp only [List.length_drop,List.length_take];rfl)) ?_;(with_reducible refine (metrolabref17_letter.calls (bt a0 x3_2) false _ A12.out).mono ?_);rintro e w' ⟨rfl,⟨nd,rfl⟩⟩;refine ⟨_,rfl,?_⟩;have p14 : 0 ≤ (x3_2 : Int):=of_decide_eq_true (by first | (with_reducible assumption) | assumption);have q14 : x3_2 < (a0.size : Int):=of_decide_eq_true (by first | (with_reducible assumption) | assumption);have hx14:=bt_at a0 x3_2;replace p14:=eq_true p14;replace q14:=eq_true q14;have p16 : 0 ≤ (x3_2 : Int):=of_decide_eq_true (by first | (with_reducible assumption) | assumption);have q16 : x3_2 < (a0.size : Int):=of_decide_eq_true (by first | (with_reducible assumption) | assumption);have hx16:=bt_at a0 x3_2;replace p16:=eq_true p16;replace q16:=eq_true q16))
            go_roundg k2
            case measure => have:=HJ2.out;have:=HK2.out;omega
            case rel => exact ⟨(wrap64 (x3_2 + 1)),(by first | rfl | (simp;done) | (simp [*];done)),H',⟨by have:=HJ2.out;have:=HK2.out;omega⟩,by repeat (first | exact Drawn0.refl _ | apply Drawn0.step)⟩
        ·rw [if_neg c10] at H
         exact absurd H (by simp)
       ·rw [if_neg c9] at H
        have c9b0 : decide (x3_2 < (a0.size : Int)) = false:=decide_eq_false c9
        clear c9
        obtain rfl:=Option.some.inj H
        go_wp2
        go_ret
        exact ⟨by first | rfl | (simp;done) | (simp [*];done),by repeat (first | exact Drawn0.refl _ | apply Drawn0.step)⟩
end Go.Proofs.Ytnmmdeonkpfccaa.Pr
namespace Go.Proofs.Ytnmmdeonkpfccaa.Pr
open Go.RowKit Go.Proofs.YtnmmdeonkpfccaaW.PrintWords Go.Proofs.YtnmmdeonkpfccaaW.PrintLast Go.Proofs.YtnmmdeonkpfccaaW.PrintMore
attribute [local go_sem] max2_int min2_int max_two min_two max_three min_three max_four min_four
set_option linter.unusedVariables false
set_option linter.unusedSimpArgs false
def metrolabref53_named.f (k : Nat) (a0 : ByteArray) (a1 : Bool) : Option (Int):=if a1 = true then ((metrolabref17_Name.f k a0).bind fun t115 => (some t115)) else (some 0)
set_option maxHeartbeats 8000000 in
set_option maxRecDepth 100000 in
theorem metrolabref53_named.calls (k : Nat) (a0 : ByteArray) (a1 : Bool) (r : Int) (w : World) (h : metrolabref53_named.f k a0 a1 = some r) :
  Calls Try.prog 69 #[.string a0,.bool a1] w fun e w' => e = .returned (.int .i64 r) ∧ Drawn0 w w':=by
 have H : (if a1 = true then ((metrolabref17_Name.f k a0).bind fun t115 => (some t115)) else (some 0)) = some r:=h
 clear h
 by_cases c3 : a1 = true
 ·subst c3
  have H1 : ((metrolabref17_Name.f k a0).bind fun t115 => (some t115)) = some r:=by rw [if_pos rfl] at H;exact H
  clear H
  have H:=H1
  clear H1
  replace H:=Option.bind_eq_some_iff.mp H
  obtain ⟨t115,A40,H⟩:=H
  replace H : (some t115) = some r:=H
  have A4:=Aside0.mk A40
  clear A40
  obtain rfl:=Option.some.inj H
  go_enter Try.func69,Try.ntmps69
  go_wp2_with (first | ((with_reducible refine gate_callee (f:=32) rfl ?_);refine goesL_ (some 7) rfl rfl Try.func32 (by kernel_rfl) rfl #[.string a0] rfl (by (try simp only [List.map_toArray,List.map_cons,List.map_nil]);first | done | rfl | (simp only [List.length_drop,List.length_take];rfl)) ?_;(with_reducible refine (metrolabref17_Name.calls k a0 t115 _ A4.out).mono ?_);rintro e w' ⟨rfl,⟨nd,rfl⟩⟩;refine ⟨_,rfl,?_⟩))
  go_ret
  exact ⟨by first | rfl | (simp;done) | (simp [*];done),by repeat (first | exact Drawn0.refl _ | apply Drawn0.step)⟩
 ·replace c3:=Bool.eq_false_iff.mpr c3
  subst c3
  have H1 : (some 0) = some r:=by rw [if_neg (show ¬ (false = true) by decide)] at H;exact H
  clear H
  have H:=H1
  clear H1
  obtain rfl:=Option.some.inj H
  go_enter Try.func69,Try.ntmps69
  go_wp2
  go_ret
  exact ⟨by first | rfl | (simp;done) | (simp [*];done),by repeat (first | exact Drawn0.refl _ | apply Drawn0.step)⟩
end Go.Proofs.Ytnmmdeonkpfccaa.Pr
