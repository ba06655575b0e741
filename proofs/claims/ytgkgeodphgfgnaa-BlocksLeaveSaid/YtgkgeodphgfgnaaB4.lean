/- A part of the statement's proof. -/
import Derived.Test.YtgkgeodphgfgnaaB2
import Derived.Test.YtgkgeodphgfgnaaB3
import Derived.Test.YtgkgeodphgfgnaaB1
/- The plain law: 'awake' says yes. -/
namespace Go.Proofs.Ytgkgeodphgfgnaa.Pr
open Go.RowKit Go.Proofs.YtgkgeodphgfgnaaW.PrintWords Go.Proofs.YtgkgeodphgfgnaaW.PrintLast

def awS : List Int := [1, 2, 3, 6]
def awT : List S57 := [⟨6, 2, [3]⟩, ⟨9, 2, [2, 3]⟩, ⟨12, 1, [0, 1, 2, 3]⟩]
theorem aw_row (N C J : Int) (ST : List Int) (h1 : fewestV awS N = (ST, 0)) (h2 : countV awS N = (C, 0)) (h3 : Ev (fun k => blocks_Verify.f k awS N ST) 0) (hl : ST.length ≤ 140737488351232) (hn : Ev (fun k => metrolablaw50_awake.l0 k awS awT 3 J) true) :
    Ev (fun k => (blocks_Fewest.f k awS N).bind fun bt => (blocks_Count.f awS N).bind fun c => if wrap64 (bt.2 + c.2) = 0 then (if c.1 = C then ((slices_Equal_int_int.f k bt.1 ST).bind fun t => if t = true then ((blocks_Verify.f k awS N bt.1).bind fun t' => if t' = 0 then metrolablaw50_awake.l0 k awS awT 3 J else some false) else some false) else some false) else some false) true := by
  refine Ev.bind (h1 ▸ fewest_ev awS N) ?_
  refine Ev.bind (g := fun _ => blocks_Count.f awS N) (a := (C, 0)) ⟨0, fun _ _ => congrArg some h2⟩ ?_
  simp only [show wrap64 (0 + 0) = 0 from by decide +kernel, if_true]
  refine Ev.bind (a := true) (by simpa using equal_ev ST ST hl) ?_
  simp only [if_true]
  refine Ev.bind h3 ?_
  simp only [if_true]
  exact hn
theorem aw_last : Ev (fun k => (blocks_Fewest.f k awS 13).bind fun b1 => (blocks_Reach.f awS 2).bind fun b2 => (blocks_Standard.f 87).bind fun b3 => (blocks_Fewest.f k b3.1 57315).bind fun b4 => if b1.2 = 6 then (if wrap64 (wrap64 (b2.2 + b3.2) + b4.2) = 0 then ((slices_Equal_int_int.f k b2.1 [1, 2, 3, 4, 5, 6, 7, 8, 9]).bind fun t => if t = true then (if (b3.1.length : Int) = 87 then some ((b4.1.length : Int) == 4) else some false) else some false) else some false) else some false) true := by
  have e1 : fewestV awS 13 = ([], 6) := by decide +kernel
  have e2 : reachV awS 2 = ([1, 2, 3, 4, 5, 6, 7, 8, 9], 0) := by decide +kernel
  have e3 : chk s87 = 0 := by decide +kernel
  have e4 : fewestV s87 57315 = (pickV 0 s87 57315, 0) := by
    unfold fewestV
    rw [givenE_of e3, s87_four, if_neg (show ¬ ((if (1 : Int) ≤ 57315 ∧ (57315 : Int) ≤ 100000 then (0 : Int) else 2) ≠ 0) by decide), if_neg (by decide)]
  have e5 := pickV_len s87 0 57315 (by rw [s87_four]; decide)
  rw [s87_four] at e5
  refine Ev.bind (e1 ▸ fewest_ev awS 13) ?_
  refine Ev.bind (g := fun _ => blocks_Reach.f awS 2) (a := ([1, 2, 3, 4, 5, 6, 7, 8, 9], 0)) ⟨0, fun _ _ => congrArg some e2⟩ ?_
  refine Ev.bind (g := fun _ => blocks_Standard.f 87) (a := (s87, 0)) ⟨0, fun _ _ => rfl⟩ ?_
  refine Ev.bind (e4 ▸ fewest_ev s87 57315) ?_
  simp only [show wrap64 (wrap64 (0 + 0) + 0) = 0 from by decide +kernel, if_true, e5]
  refine Ev.bind (a := true) (by simpa using equal_ev [1, 2, 3, 4, 5, 6, 7, 8, 9] [1, 2, 3, 4, 5, 6, 7, 8, 9] (by decide)) ?_
  simp only [if_true]
  rw [if_pos (show ((s87.length : Nat) : Int) = 87 by decide)]
  exact Ev.now _
theorem awake_ev : Ev (fun k => metrolablaw50_awake.f k) true := by
  have h3 : Ev (fun k => metrolablaw50_awake.l0 k awS awT 3 3) true := by
    refine Ev.step ?_ aw_last
    intro k
    simp only [metrolablaw50_awake.l0]
    rw [if_neg (by decide)]
  have h2 : Ev (fun k => metrolablaw50_awake.l0 k awS awT 3 2) true := by
    refine Ev.step ?_ (aw_row 12 1 3 [0, 1, 2, 3] (by decide +kernel) (by decide +kernel) (Ev.of (k := 40) (blocks_Verify.mono _ _ _) (by decide +kernel)) (by decide) h3)
    intro k
    simp only [metrolablaw50_awake.l0]
    rw [if_pos (by decide), if_pos (by decide), if_pos (by decide), show wrap64 (2 + 1) = 3 from by decide +kernel]
    rfl
  have h1 : Ev (fun k => metrolablaw50_awake.l0 k awS awT 3 1) true := by
    refine Ev.step ?_ (aw_row 9 2 2 [2, 3] (by decide +kernel) (by decide +kernel) (Ev.of (k := 40) (blocks_Verify.mono _ _ _) (by decide +kernel)) (by decide) h2)
    intro k
    simp only [metrolablaw50_awake.l0]
    rw [if_pos (by decide), if_pos (by decide), if_pos (by decide), show wrap64 (1 + 1) = 2 from by decide +kernel]
    rfl
  have h0 : Ev (fun k => metrolablaw50_awake.l0 k awS awT 3 0) true := by
    refine Ev.step ?_ (aw_row 6 2 1 [3] (by decide +kernel) (by decide +kernel) (Ev.of (k := 40) (blocks_Verify.mono _ _ _) (by decide +kernel)) (by decide) h1)
    intro k
    simp only [metrolablaw50_awake.l0]
    rw [if_pos (by decide), if_pos (by decide), if_pos (by decide), show wrap64 (0 + 1) = 1 from by decide +kernel]
    rfl
  exact Ev.congr (fun k => rfl) h0
end Go.Proofs.Ytgkgeodphgfgnaa.Pr
-- Printed for this claim by a program of this session, over the kit's printer. Not trusted: Lean checks it.
namespace Go.Proofs.Ytgkgeodphgfgnaa.Pr
open Go.RowKit Go.Proofs.YtgkgeodphgfgnaaW.PrintWords Go.Proofs.YtgkgeodphgfgnaaW.PrintLast Go.Proofs.YtgkgeodphgfgnaaW.PrintMore
attribute [local go_sem] max2_int min2_int max_two min_two max_three min_three max_four min_four
set_option linter.unusedVariables false
set_option linter.unusedSimpArgs false

/-! ### metrolabref50_stacked: function 43 -/
mutual
def metrolabref50_stacked.l0 : Nat → List Int → List Int → Int → Option (Int)
  | 0, _, _, _ => none
  | k + 1, x0, x1, x5 => if x5 < (x1.length : Int) then (if 0 ≤ x5 then (if (rd x1 x5) < 0 then (metrolabref50_stacked.j1 k x0 x1 x5 true) else (metrolabref50_stacked.j1 k x0 x1 x5 (decide ((rd x1 x5) ≥ (x0.length : Int))))) else (none)) else (some 0)
def metrolabref50_stacked.j1 : Nat → List Int → List Int → Int → Bool → Option (Int)
  | 0, _, _, _, _ => none
  | k + 1, x0, x1, x5, x25 => if x25 = true then (some 2) else (if x5 > 0 then (if 0 ≤ x5 then (if x5 < (x1.length : Int) then (if 0 ≤ (wrap64 (x5 - 1)) then (if (wrap64 (x5 - 1)) < (x1.length : Int) then (if (rd x1 x5) ≤ (rd x1 (wrap64 (x5 - 1))) then (some 9) else (metrolabref50_stacked.l0 k x0 x1 (wrap64 (x5 + 1)))) else (none)) else (none)) else (none)) else (none)) else (metrolabref50_stacked.l0 k x0 x1 (wrap64 (x5 + 1))))
end
def metrolabref50_stacked.f (k : Nat) (l0 : List Int) (l1 : List Int) : Option (Int) := metrolabref50_stacked.l0 k l0 l1 0
theorem metrolabref50_stacked.mono_l : ∀ k, (∀ y0 y1 y2, LeO (metrolabref50_stacked.l0 k y0 y1 y2) (metrolabref50_stacked.l0 (k + 1) y0 y1 y2)) ∧ (∀ y0 y1 y2 y3, LeO (metrolabref50_stacked.j1 k y0 y1 y2 y3) (metrolabref50_stacked.j1 (k + 1) y0 y1 y2 y3))
  | 0 => ⟨fun _ _ _ r h => by simp [metrolabref50_stacked.l0] at h, fun _ _ _ _ r h => by simp [metrolabref50_stacked.j1] at h⟩
  | k + 1 => by
    obtain ⟨ih0, ih1⟩ := metrolabref50_stacked.mono_l k
    refine ⟨?_, ?_⟩
    · intro y0 y1 y2
      unfold metrolabref50_stacked.l0
      repeat' first
      | (with_reducible exact ih0 _ _ _)
      | (with_reducible exact ih1 _ _ _ _)
      | (with_reducible exact LeO.refl _)
      | (with_reducible exact LeO.none _)
      | (with_reducible refine LeO.ite ?_ ?_)
      | (with_reducible refine LeO.bind ?_ (fun _ => ?_))
      | exact ih0 _ _ _
      | exact ih1 _ _ _ _
      | exact LeO.none _
      | refine LeO.ite ?_ ?_
      | refine LeO.bind ?_ (fun _ => ?_)
    · intro y0 y1 y2 y3
      unfold metrolabref50_stacked.j1
      repeat' first
      | (with_reducible exact ih0 _ _ _)
      | (with_reducible exact ih1 _ _ _ _)
      | (with_reducible exact LeO.refl _)
      | (with_reducible exact LeO.none _)
      | (with_reducible refine LeO.ite ?_ ?_)
      | (with_reducible refine LeO.bind ?_ (fun _ => ?_))
      | exact ih0 _ _ _
      | exact ih1 _ _ _ _
      | exact LeO.none _
      | refine LeO.ite ?_ ?_
      | refine LeO.bind ?_ (fun _ => ?_)
theorem metrolabref50_stacked.mono : ∀ a0 a1 k, LeO (metrolabref50_stacked.f k a0 a1) (metrolabref50_stacked.f (k + 1) a0 a1) := by
  intro a0 a1 k
  obtain ⟨ih0, ih1⟩ := metrolabref50_stacked.mono_l k
  unfold metrolabref50_stacked.f
  repeat' first
      | (with_reducible exact ih0 _ _ _)
      | (with_reducible exact ih1 _ _ _ _)
      | (with_reducible exact LeO.refl _)
      | (with_reducible exact LeO.none _)
      | (with_reducible refine LeO.ite ?_ ?_)
      | (with_reducible refine LeO.bind ?_ (fun _ => ?_))
      | exact ih0 _ _ _
      | exact ih1 _ _ _ _
      | exact LeO.none _
      | refine LeO.ite ?_ ?_
      | refine LeO.bind ?_ (fun _ => ?_)
set_option maxHeartbeats 8000000 in
set_option maxRecDepth 100000 in
theorem metrolabref50_stacked.calls (k : Nat) (A0 : Option Addr) (c0 : Nat) (l0 : List Int) (A1 : Option Addr) (c1 : Nat) (l1 : List Int) (r : Int) (w : World) (hr0 : Kd.C (Kd.int .i64) w A0 l0.length l0) (hc0 : l0.length ≤ c0) (hr1 : Kd.C (Kd.int .i64) w A1 l1.length l1) (hc1 : l1.length ≤ c1) (h : metrolabref50_stacked.f k l0 l1 = some r) :
    Calls Try.prog 43 #[.slice A0 l0.length c0, .slice A1 l1.length c1] w fun e w' => e = .returned (.int .i64 r) ∧ Drawn0 w w' := by
  have HR0 := Aside0.mk hr0
  have HC0 := Aside0.mk hc0
  clear hr0 hc0
  have HR1 := Aside0.mk hr1
  have HC1 := Aside0.mk hc1
  clear hr1 hc1
  have H : (metrolabref50_stacked.l0 k l0 l1 0) = some r := h
  clear h
  have H' := Aside0.mk H
  clear H
  go_enter Try.func43, Try.ntmps43
  go_wp2
  repeat (go_quiet (fail); try go_wp2)
  go_loopg [5] k (fun kq v5 w' => ∃ (x5_1 : Int), v5 = .int .i64 x5_1 ∧ Aside0 (metrolabref50_stacked.l0 kq l0 l1 x5_1 = some r) ∧ Aside0 (kq ≤ k) ∧ Drawn0 w w')
  case atStart => exact ⟨(0), (by first | rfl | (simp; done) | (simp [*]; done)), H', ⟨Nat.le_refl _⟩, by repeat (first | exact Drawn0.refl _ | apply Drawn0.step)⟩
  case round =>
    clear H'
    try clear c1
    try clear p2
    obtain ⟨x5_1, rfl, HA, HK1, ⟨m1, rfl⟩⟩ := hrel
    cases gk with
    | zero => exact absurd HA.out (by simp [metrolabref50_stacked.l0])
    | succ k1 =>
      have H := HA.out
      clear HA
      simp only [metrolabref50_stacked.l0] at H
      by_cases c3 : x5_1 < (l1.length : Int)
      · rw [if_pos c3] at H
        have c3b0 : decide (x5_1 < (l1.length : Int)) = true := decide_eq_true c3
        clear c3
        have HC4 := Aside0.mk H
        clear H
        go_upto_region 4 with (fail)
        repeat (go_quiet (fail); go_upto_region 4 with (fail))
        go_cut [25] (fun v25 wc => ∃ (kq : Nat) (x25_3 : Bool), v25 = .bool x25_3 ∧ Aside0 (metrolabref50_stacked.j1 kq l0 l1 x5_1 x25_3 = some r) ∧ Aside0 (kq ≤ k1) ∧ Drawn0 w wc)
        case first =>
          have H := HC4.out
          clear HC4
          by_cases c5 : 0 ≤ x5_1
          · rw [if_pos c5] at H
            have c5b0 : decide (0 ≤ x5_1) = true := decide_eq_true c5
            clear c5
            (first | rw [c5b0] | (simp only [i64_w, i32_w]; rw [c5b0]) | skip)
            by_cases c6 : (rd l1 x5_1) < 0
            · rw [if_pos c6] at H
              have c6b0 : decide ((rd l1 x5_1) < 0) = true := decide_eq_true c6
              clear c6
              have H' := Aside0.mk H
              clear H
              have p187 : 0 ≤ (x5_1 : Int) := of_decide_eq_true (by first | (with_reducible assumption) | assumption)
              have q187 : x5_1 < (l1.length : Int) := of_decide_eq_true (by first | (with_reducible assumption) | assumption)
              obtain ⟨ad187, e187, hx187_0⟩ := Kd.at_int HR1.out x5_1 p187 q187
              cases e187
              replace p187 := eq_true p187
              replace q187 := eq_true q187
              go_wp2
              repeat (go_quiet (fail); try go_wp2)
              go_meet
              case rel => exact ⟨_, (true), (by first | rfl | (simp; done) | (simp [*]; done)), H', ⟨by have := HK1.out; first | omega | exact Nat.le_refl _⟩, by repeat (first | exact Drawn0.refl _ | apply Drawn0.step)⟩
            · rw [if_neg c6] at H
              have c6b0 : decide ((rd l1 x5_1) < 0) = false := decide_eq_false c6
              clear c6
              have H' := Aside0.mk H
              clear H
              have p187 : 0 ≤ (x5_1 : Int) := of_decide_eq_true (by first | (with_reducible assumption) | assumption)
              have q187 : x5_1 < (l1.length : Int) := of_decide_eq_true (by first | (with_reducible assumption) | assumption)
              obtain ⟨ad187, e187, hx187_0⟩ := Kd.at_int HR1.out x5_1 p187 q187
              cases e187
              replace p187 := eq_true p187
              replace q187 := eq_true q187
              have p188 : 0 ≤ (x5_1 : Int) := of_decide_eq_true (by first | (with_reducible assumption) | assumption)
              have q188 : x5_1 < (l1.length : Int) := of_decide_eq_true (by first | (with_reducible assumption) | assumption)
              obtain ⟨ad188, e188, hx188_0⟩ := Kd.at_int HR1.out x5_1 p188 q188
              obtain rfl : ad187 = ad188 := (by injection e188)
              replace p188 := eq_true p188
              replace q188 := eq_true q188
              go_wp2
              repeat (go_quiet (fail); try go_wp2)
              go_meet
              case rel => exact ⟨_, (decide ((rd l1 x5_1) ≥ (l0.length : Int))), (by first | rfl | (simp; done) | (simp [*]; done)), H', ⟨by have := HK1.out; first | omega | exact Nat.le_refl _⟩, by repeat (first | exact Drawn0.refl _ | apply Drawn0.step)⟩
          · rw [if_neg c5] at H
            exact absurd H (by simp)
        case rest =>
          clear HC4
          try clear c1
          try clear p1
          try clear q1
          try clear hx1
          try clear p2
          try clear c3
          try clear c3b0
          try clear c4
          try clear c5
          try clear c5b0
          try clear c6
          try clear c6b0
          try clear hx187_0
          try clear hx188_0
          try clear p187
          try clear p188
          try clear p2
          try clear q187
          try clear q188
          obtain ⟨kq, x25_3, rfl, HA, HJ3, ⟨mc3, rfl⟩⟩ := hcut
          cases kq with
          | zero => exact absurd HA.out (by simp [metrolabref50_stacked.j1])
          | succ kj3 =>
            have H := HA.out
            clear HA
            simp only [metrolabref50_stacked.j1] at H
            by_cases c7 : x25_3 = true
            · subst c7
              have H1 : (some 2) = some r := by rw [if_pos rfl] at H; exact H
              clear H
              have H := H1
              clear H1
              obtain rfl := Option.some.inj H
              go_wp2
              repeat (go_quiet (fail); try go_wp2)
              go_ret
              exact ⟨by first | rfl | (simp; done) | (simp [*]; done), by repeat (first | exact Drawn0.refl _ | apply Drawn0.step)⟩
            · replace c7 := Bool.eq_false_iff.mpr c7
              subst c7
              have H1 : (if x5_1 > 0 then (if 0 ≤ x5_1 then (if x5_1 < (l1.length : Int) then (if 0 ≤ (wrap64 (x5_1 - 1)) then (if (wrap64 (x5_1 - 1)) < (l1.length : Int) then (if (rd l1 x5_1) ≤ (rd l1 (wrap64 (x5_1 - 1))) then (some 9) else (metrolabref50_stacked.l0 kj3 l0 l1 (wrap64 (x5_1 + 1)))) else (none)) else (none)) else (none)) else (none)) else (metrolabref50_stacked.l0 kj3 l0 l1 (wrap64 (x5_1 + 1)))) = some r := by rw [if_neg (show ¬ (false = true) by decide)] at H; exact H
              clear H
              have H := H1
              clear H1
              by_cases c8 : x5_1 > 0
              · rw [if_pos c8] at H
                have c8b0 : decide (0 < x5_1) = true := decide_eq_true c8
                clear c8
                by_cases c9 : 0 ≤ x5_1
                · rw [if_pos c9] at H
                  have c9b0 : decide (0 ≤ x5_1) = true := decide_eq_true c9
                  clear c9
                  by_cases c10 : x5_1 < (l1.length : Int)
                  · rw [if_pos c10] at H
                    have c10b0 : decide (x5_1 < (l1.length : Int)) = true := decide_eq_true c10
                    clear c10
                    obtain ⟨ji11, hji11⟩ : ∃ j_ : Int, (wrap64 (x5_1 - 1)) = j_ := ⟨_, rfl⟩
                    replace H : (if 0 ≤ (ji11) then (if (ji11) < (l1.length : Int) then (if (rd l1 x5_1) ≤ (rd l1 (ji11)) then (some 9) else (metrolabref50_stacked.l0 kj3 l0 l1 (wrap64 (x5_1 + 1)))) else (none)) else (none)) = some r := by first | (rw [hji11] at H; exact H) | (simp only [hji11] at H ⊢; exact H)
                    have hji11w : (IntKind.i64.wrap (x5_1 - 1)) = ji11 := (i64_w _).trans hji11
                    by_cases c12 : 0 ≤ (ji11)
                    · rw [if_pos c12] at H
                      have c12b0 : decide (0 ≤ (ji11)) = true := decide_eq_true c12
                      clear c12
                      by_cases c13 : (ji11) < (l1.length : Int)
                      · rw [if_pos c13] at H
                        have c13b0 : decide ((ji11) < (l1.length : Int)) = true := decide_eq_true c13
                        clear c13
                        by_cases c14 : (rd l1 x5_1) ≤ (rd l1 (ji11))
                        · rw [if_pos c14] at H
                          have c14b0 : decide ((rd l1 x5_1) ≤ (rd l1 (ji11))) = true := decide_eq_true c14
                          clear c14
                          obtain rfl := Option.some.inj H
                          have p189 : 0 ≤ (x5_1 : Int) := of_decide_eq_true (by first | (with_reducible assumption) | assumption)
                          have q189 : x5_1 < (l1.length : Int) := of_decide_eq_true (by first | (with_reducible assumption) | assumption)
                          obtain ⟨ad189, e189, hx189_0⟩ := Kd.at_int HR1.out x5_1 p189 q189
                          cases e189
                          replace p189 := eq_true p189
                          replace q189 := eq_true q189
                          have p190 : 0 ≤ ((ji11) : Int) := of_decide_eq_true (by first | (with_reducible assumption) | assumption)
                          have q190 : (ji11) < (l1.length : Int) := of_decide_eq_true (by first | (with_reducible assumption) | assumption)
                          obtain ⟨ad190, e190, hx190_0⟩ := Kd.at_int HR1.out (ji11) p190 q190
                          obtain rfl : ad189 = ad190 := (by injection e190)
                          replace p190 := eq_true p190
                          replace q190 := eq_true q190
                          go_wp2
                          repeat (go_quiet (fail); try go_wp2)
                          go_ret
                          exact ⟨by first | rfl | (simp; done) | (simp only [← hji11] <;> (first | rfl | simp)) | (simp [*]; done), by repeat (first | exact Drawn0.refl _ | apply Drawn0.step)⟩
                        · rw [if_neg c14] at H
                          have c14b0 : decide ((rd l1 x5_1) ≤ (rd l1 (ji11))) = false := decide_eq_false c14
                          clear c14
                          have H' := Aside0.mk H
                          clear H
                          have p189 : 0 ≤ (x5_1 : Int) := of_decide_eq_true (by first | (with_reducible assumption) | assumption)
                          have q189 : x5_1 < (l1.length : Int) := of_decide_eq_true (by first | (with_reducible assumption) | assumption)
                          obtain ⟨ad189, e189, hx189_0⟩ := Kd.at_int HR1.out x5_1 p189 q189
                          cases e189
                          replace p189 := eq_true p189
                          replace q189 := eq_true q189
                          have p190 : 0 ≤ ((ji11) : Int) := of_decide_eq_true (by first | (with_reducible assumption) | assumption)
                          have q190 : (ji11) < (l1.length : Int) := of_decide_eq_true (by first | (with_reducible assumption) | assumption)
                          obtain ⟨ad190, e190, hx190_0⟩ := Kd.at_int HR1.out (ji11) p190 q190
                          obtain rfl : ad189 = ad190 := (by injection e190)
                          replace p190 := eq_true p190
                          replace q190 := eq_true q190
                          go_wp2
                          repeat (go_quiet (fail); try go_wp2)
                          go_roundg kj3
                          case measure => have := HK1.out; have := HJ3.out; omega
                          case rel => exact ⟨(wrap64 (x5_1 + 1)), (by first | rfl | (simp; done) | (simp [*]; done)), H', ⟨by have := HK1.out; have := HJ3.out; omega⟩, by repeat (first | exact Drawn0.refl _ | apply Drawn0.step)⟩
                      · rw [if_neg c13] at H
                        exact absurd H (by simp)
                    · rw [if_neg c12] at H
                      exact absurd H (by simp)
                  · rw [if_neg c10] at H
                    exact absurd H (by simp)
                · rw [if_neg c9] at H
                  exact absurd H (by simp)
              · rw [if_neg c8] at H
                have c8b0 : decide (0 < x5_1) = false := decide_eq_false c8
                clear c8
                have H' := Aside0.mk H
                clear H
                go_wp2
                repeat (go_quiet (fail); try go_wp2)
                go_roundg kj3
                case measure => have := HK1.out; have := HJ3.out; omega
                case rel => exact ⟨(wrap64 (x5_1 + 1)), (by first | rfl | (simp; done) | (simp [*]; done)), H', ⟨by have := HK1.out; have := HJ3.out; omega⟩, by repeat (first | exact Drawn0.refl _ | apply Drawn0.step)⟩
      · rw [if_neg c3] at H
        have c3b0 : decide (x5_1 < (l1.length : Int)) = false := decide_eq_false c3
        clear c3
        obtain rfl := Option.some.inj H
        go_wp2
        repeat (go_quiet (fail); try go_wp2)
        go_ret
        exact ⟨by first | rfl | (simp; done) | (simp [*]; done), by repeat (first | exact Drawn0.refl _ | apply Drawn0.step)⟩

end Go.Proofs.Ytgkgeodphgfgnaa.Pr
-- Printed for this claim by a program of this session, over the kit's printer. Not trusted: Lean checks it.
namespace Go.Proofs.Ytgkgeodphgfgnaa.Pr
open Go.RowKit Go.Proofs.YtgkgeodphgfgnaaW.PrintWords Go.Proofs.YtgkgeodphgfgnaaW.PrintLast Go.Proofs.YtgkgeodphgfgnaaW.PrintMore
attribute [local go_sem] max2_int min2_int max_two min_two max_three min_three max_four min_four
set_option linter.unusedVariables false
set_option linter.unusedSimpArgs false

/-! ### metrolabref50_Same: function 44 -/
def metrolabref50_Same.l0 : Nat → List Int → List Int → Int → Option (Bool)
  | 0, _, _, _ => none
  | k + 1, x0, x1, x5 => if x5 < (x0.length : Int) then (if 0 ≤ x5 then (if x5 < (x1.length : Int) then (if (rd x0 x5) = (rd x1 x5) then (metrolabref50_Same.l0 k x0 x1 (wrap64 (x5 + 1))) else (some false)) else (none)) else (none)) else (some true)
def metrolabref50_Same.f (k : Nat) (l0 : List Int) (l1 : List Int) : Option (Bool) := if (l0.length : Int) = (l1.length : Int) then (metrolabref50_Same.l0 k l0 l1 0) else (some false)
theorem metrolabref50_Same.mono_l : ∀ k, (∀ y0 y1 y2, LeO (metrolabref50_Same.l0 k y0 y1 y2) (metrolabref50_Same.l0 (k + 1) y0 y1 y2))
  | 0 => fun _ _ _ r h => by simp [metrolabref50_Same.l0] at h
  | k + 1 => by
    have ih0 := metrolabref50_Same.mono_l k
    · intro y0 y1 y2
      unfold metrolabref50_Same.l0
      repeat' first
      | (with_reducible exact ih0 _ _ _)
      | (with_reducible exact LeO.refl _)
      | (with_reducible exact LeO.none _)
      | (with_reducible refine LeO.ite ?_ ?_)
      | (with_reducible refine LeO.bind ?_ (fun _ => ?_))
      | exact ih0 _ _ _
      | exact LeO.none _
      | refine LeO.ite ?_ ?_
      | refine LeO.bind ?_ (fun _ => ?_)
theorem metrolabref50_Same.mono : ∀ a0 a1 k, LeO (metrolabref50_Same.f k a0 a1) (metrolabref50_Same.f (k + 1) a0 a1) := by
  intro a0 a1 k
  have ih0 := metrolabref50_Same.mono_l k
  unfold metrolabref50_Same.f
  repeat' first
      | (with_reducible exact ih0 _ _ _)
      | (with_reducible exact LeO.refl _)
      | (with_reducible exact LeO.none _)
      | (with_reducible refine LeO.ite ?_ ?_)
      | (with_reducible refine LeO.bind ?_ (fun _ => ?_))
      | exact ih0 _ _ _
      | exact LeO.none _
      | refine LeO.ite ?_ ?_
      | refine LeO.bind ?_ (fun _ => ?_)
set_option maxHeartbeats 8000000 in
set_option maxRecDepth 100000 in
theorem metrolabref50_Same.calls (k : Nat) (A0 : Option Addr) (c0 : Nat) (l0 : List Int) (A1 : Option Addr) (c1 : Nat) (l1 : List Int) (r : Bool) (w : World) (hr0 : Kd.C (Kd.int .i64) w A0 l0.length l0) (hc0 : l0.length ≤ c0) (hr1 : Kd.C (Kd.int .i64) w A1 l1.length l1) (hc1 : l1.length ≤ c1) (h : metrolabref50_Same.f k l0 l1 = some r) :
    Calls Try.prog 44 #[.slice A0 l0.length c0, .slice A1 l1.length c1] w fun e w' => e = .returned (.bool r) ∧ Drawn0 w w' := by
  have HR0 := Aside0.mk hr0
  have HC0 := Aside0.mk hc0
  clear hr0 hc0
  have HR1 := Aside0.mk hr1
  have HC1 := Aside0.mk hc1
  clear hr1 hc1
  have H : (if (l0.length : Int) = (l1.length : Int) then (metrolabref50_Same.l0 k l0 l1 0) else (some false)) = some r := h
  clear h
  by_cases c3 : (l0.length : Int) = (l1.length : Int)
  · rw [if_pos c3] at H
    have c3b0 : ((l0.length : Int) == (l1.length : Int)) = true := beq_iff_eq.mpr c3
    have c3b1 : ((l0.length : Int) != (l1.length : Int)) = false := bne_eq_false_iff_eq.mpr c3
    have c3b2 : (l0.length == l1.length) = true := by first | simpa using c3 | (simp at c3 ⊢; omega)
    clear c3
    have H' := Aside0.mk H
    clear H
    go_enter Try.func44, Try.ntmps44
    go_wp2
    repeat (go_quiet (fail); try go_wp2)
    go_loopg [5] k (fun kq v5 w' => ∃ (x5_1 : Int), v5 = .int .i64 x5_1 ∧ Aside0 (metrolabref50_Same.l0 kq l0 l1 x5_1 = some r) ∧ Aside0 (kq ≤ k) ∧ Drawn0 w w')
    case atStart => exact ⟨(0), (by first | rfl | (simp; done) | (simp [*]; done)), H', ⟨Nat.le_refl _⟩, by repeat (first | exact Drawn0.refl _ | apply Drawn0.step)⟩
    case round =>
      clear H'
      try clear c1
      try clear p2
      try clear c3
      try clear c3b0
      try clear c3b1
      try clear c3b2
      obtain ⟨x5_1, rfl, HA, HK1, ⟨m1, rfl⟩⟩ := hrel
      cases gk with
      | zero => exact absurd HA.out (by simp [metrolabref50_Same.l0])
      | succ k1 =>
        have H := HA.out
        clear HA
        simp only [metrolabref50_Same.l0] at H
        by_cases c4 : x5_1 < (l0.length : Int)
        · rw [if_pos c4] at H
          have c4b0 : decide (x5_1 < (l0.length : Int)) = true := decide_eq_true c4
          clear c4
          by_cases c5 : 0 ≤ x5_1
          · rw [if_pos c5] at H
            have c5b0 : decide (0 ≤ x5_1) = true := decide_eq_true c5
            clear c5
            by_cases c6 : x5_1 < (l1.length : Int)
            · rw [if_pos c6] at H
              have c6b0 : decide (x5_1 < (l1.length : Int)) = true := decide_eq_true c6
              clear c6
              by_cases c7 : (rd l0 x5_1) = (rd l1 x5_1)
              · rw [if_pos c7] at H
                have c7b0 : ((rd l0 x5_1) == (rd l1 x5_1)) = true := beq_iff_eq.mpr c7
                have c7b1 : ((rd l0 x5_1) != (rd l1 x5_1)) = false := bne_eq_false_iff_eq.mpr c7
                clear c7
                have H' := Aside0.mk H
                clear H
                have p191 : 0 ≤ (x5_1 : Int) := of_decide_eq_true (by first | (with_reducible assumption) | assumption)
                have q191 : x5_1 < (l0.length : Int) := of_decide_eq_true (by first | (with_reducible assumption) | assumption)
                obtain ⟨ad191, e191, hx191_0⟩ := Kd.at_int HR0.out x5_1 p191 q191
                cases e191
                replace p191 := eq_true p191
                replace q191 := eq_true q191
                have p192 : 0 ≤ (x5_1 : Int) := of_decide_eq_true (by first | (with_reducible assumption) | assumption)
                have q192 : x5_1 < (l1.length : Int) := of_decide_eq_true (by first | (with_reducible assumption) | assumption)
                obtain ⟨ad192, e192, hx192_0⟩ := Kd.at_int HR1.out x5_1 p192 q192
                cases e192
                replace p192 := eq_true p192
                replace q192 := eq_true q192
                go_wp2
                repeat (go_quiet (fail); try go_wp2)
                go_roundg k1
                case measure => have := HK1.out; omega
                case rel => exact ⟨(wrap64 (x5_1 + 1)), (by first | rfl | (simp; done) | (simp [*]; done)), H', ⟨by have := HK1.out; omega⟩, by repeat (first | exact Drawn0.refl _ | apply Drawn0.step)⟩
              · rw [if_neg c7] at H
                have c7b0 : ((rd l0 x5_1) == (rd l1 x5_1)) = false := beq_eq_false_iff_ne.mpr c7
                have c7b1 : ((rd l0 x5_1) != (rd l1 x5_1)) = true := bne_iff_ne.mpr c7
                obtain rfl := Option.some.inj H
                have p191 : 0 ≤ (x5_1 : Int) := of_decide_eq_true (by first | (with_reducible assumption) | assumption)
                have q191 : x5_1 < (l0.length : Int) := of_decide_eq_true (by first | (with_reducible assumption) | assumption)
                obtain ⟨ad191, e191, hx191_0⟩ := Kd.at_int HR0.out x5_1 p191 q191
                cases e191
                replace p191 := eq_true p191
                replace q191 := eq_true q191
                have p192 : 0 ≤ (x5_1 : Int) := of_decide_eq_true (by first | (with_reducible assumption) | assumption)
                have q192 : x5_1 < (l1.length : Int) := of_decide_eq_true (by first | (with_reducible assumption) | assumption)
                obtain ⟨ad192, e192, hx192_0⟩ := Kd.at_int HR1.out x5_1 p192 q192
                cases e192
                replace p192 := eq_true p192
                replace q192 := eq_true q192
                go_wp2
                repeat (go_quiet (fail); try go_wp2)
                go_ret
                exact ⟨by first | rfl | (simp; done) | (simp [*]; done), by repeat (first | exact Drawn0.refl _ | apply Drawn0.step)⟩
            · rw [if_neg c6] at H
              exact absurd H (by simp)
          · rw [if_neg c5] at H
            exact absurd H (by simp)
        · rw [if_neg c4] at H
          have c4b0 : decide (x5_1 < (l0.length : Int)) = false := decide_eq_false c4
          clear c4
          obtain rfl := Option.some.inj H
          go_wp2
          repeat (go_quiet (fail); try go_wp2)
          go_ret
          exact ⟨by first | rfl | (simp; done) | (simp [*]; done), by repeat (first | exact Drawn0.refl _ | apply Drawn0.step)⟩
  · rw [if_neg c3] at H
    have c3b0 : ((l0.length : Int) == (l1.length : Int)) = false := beq_eq_false_iff_ne.mpr c3
    have c3b1 : ((l0.length : Int) != (l1.length : Int)) = true := bne_iff_ne.mpr c3
    have c3b2 : (l0.length == l1.length) = false := by first | simpa using c3 | (simp at c3 ⊢; omega)
    obtain rfl := Option.some.inj H
    go_enter Try.func44, Try.ntmps44
    go_wp2
    repeat (go_quiet (fail); try go_wp2)
    go_ret
    exact ⟨by first | rfl | (simp; done) | (simp [*]; done), by repeat (first | exact Drawn0.refl _ | apply Drawn0.step)⟩

end Go.Proofs.Ytgkgeodphgfgnaa.Pr
-- Printed for this claim by a program of this session, over the kit's printer. Not trusted: Lean checks it.
namespace Go.Proofs.Ytgkgeodphgfgnaa.Pr
open Go.RowKit Go.Proofs.YtgkgeodphgfgnaaW.PrintWords Go.Proofs.YtgkgeodphgfgnaaW.PrintLast Go.Proofs.YtgkgeodphgfgnaaW.PrintMore
attribute [local go_sem] max2_int min2_int max_two min_two max_three min_three max_four min_four
set_option linter.unusedVariables false
set_option linter.unusedSimpArgs false

/-! ### metrolabref50_Verify: function 17 -/
def metrolabref50_Verify.f (k : Nat) (l0 : List Int) (a1 : Int) (l2 : List Int) : Option (Int) := (metrolabref50_Check.f k l0).bind fun t193 => (if t193 = 0 then ((metrolabref50_inside.f a1).bind fun t194 => (if t194 = true then ((metrolabref50_stacked.f k l0 l2).bind fun t195 => (if t195 = 0 then ((metrolabref50_Best.f k l0 a1).bind fun t196 => ((metrolabref50_Same.f k t196 l2).bind fun t199 => (if t199 = true then (if (l2.length : Int) = 0 then (some 15) else (some 0)) else (some 15)))) else (some t195))) else (some 2))) else (some t193))
theorem metrolabref50_Verify.mono : ∀ a0 a1 a2 k, LeO (metrolabref50_Verify.f k a0 a1 a2) (metrolabref50_Verify.f (k + 1) a0 a1 a2) := by
  intro a0 a1 a2 k
  unfold metrolabref50_Verify.f
  repeat' first
      | (with_reducible exact metrolabref50_Best.mono _ _ _)
      | (with_reducible exact metrolabref50_Check.mono _ _)
      | (with_reducible exact metrolabref50_Same.mono _ _ _)
      | (with_reducible exact metrolabref50_stacked.mono _ _ _)
      | (with_reducible exact LeO.refl _)
      | (with_reducible exact LeO.none _)
      | (with_reducible refine LeO.ite ?_ ?_)
      | (with_reducible refine LeO.bind ?_ (fun _ => ?_))
      | exact metrolabref50_Best.mono _ _ _
      | exact metrolabref50_Check.mono _ _
      | exact metrolabref50_Same.mono _ _ _
      | exact metrolabref50_stacked.mono _ _ _
      | exact LeO.none _
      | refine LeO.ite ?_ ?_
      | refine LeO.bind ?_ (fun _ => ?_)
set_option maxHeartbeats 8000000 in
set_option maxRecDepth 100000 in
theorem metrolabref50_Verify.calls (k : Nat) (A0 : Option Addr) (c0 : Nat) (l0 : List Int) (a1 : Int) (A2 : Option Addr) (c2 : Nat) (l2 : List Int) (r : Int) (w : World) (hr0 : Kd.C (Kd.int .i64) w A0 l0.length l0) (hc0 : l0.length ≤ c0) (hr2 : Kd.C (Kd.int .i64) w A2 l2.length l2) (hc2 : l2.length ≤ c2) (h : metrolabref50_Verify.f k l0 a1 l2 = some r) :
    Calls Try.prog 17 #[.slice A0 l0.length c0, .int .i64 a1, .slice A2 l2.length c2] w fun e w' => e = .returned (.int .i64 r) ∧ Below w.heap.size w w' := by
  have HR0 := Aside0.mk hr0
  have HC0 := Aside0.mk hc0
  clear hr0 hc0
  have HR2 := Aside0.mk hr2
  have HC2 := Aside0.mk hc2
  clear hr2 hc2
  have HB := Aside0.mk (Below.refl w.heap.size w)
  have H : ((metrolabref50_Check.f k l0).bind fun t193 => (if t193 = 0 then ((metrolabref50_inside.f a1).bind fun t194 => (if t194 = true then ((metrolabref50_stacked.f k l0 l2).bind fun t195 => (if t195 = 0 then ((metrolabref50_Best.f k l0 a1).bind fun t196 => ((metrolabref50_Same.f k t196 l2).bind fun t199 => (if t199 = true then (if (l2.length : Int) = 0 then (some 15) else (some 0)) else (some 15)))) else (some t195))) else (some 2))) else (some t193))) = some r := h
  clear h
  replace H := Option.bind_eq_some_iff.mp H
  obtain ⟨t193, A40, H⟩ := H
  replace H : (if t193 = 0 then ((metrolabref50_inside.f a1).bind fun t194 => (if t194 = true then ((metrolabref50_stacked.f k l0 l2).bind fun t195 => (if t195 = 0 then ((metrolabref50_Best.f k l0 a1).bind fun t196 => ((metrolabref50_Same.f k t196 l2).bind fun t199 => (if t199 = true then (if (l2.length : Int) = 0 then (some 15) else (some 0)) else (some 15)))) else (some t195))) else (some 2))) else (some t193)) = some r := H
  have A4 := Aside0.mk A40
  clear A40
  by_cases c5 : t193 = 0
  · rw [if_pos c5] at H
    have c5b0 : (t193 == 0) = true := beq_iff_eq.mpr c5
    have c5b1 : (t193 != 0) = false := bne_eq_false_iff_eq.mpr c5
    clear c5
    replace H := Option.bind_eq_some_iff.mp H
    obtain ⟨t194, A60, H⟩ := H
    replace H : (if t194 = true then ((metrolabref50_stacked.f k l0 l2).bind fun t195 => (if t195 = 0 then ((metrolabref50_Best.f k l0 a1).bind fun t196 => ((metrolabref50_Same.f k t196 l2).bind fun t199 => (if t199 = true then (if (l2.length : Int) = 0 then (some 15) else (some 0)) else (some 15)))) else (some t195))) else (some 2)) = some r := H
    have A6 := Aside0.mk A60
    clear A60
    by_cases c7 : t194 = true
    · subst c7
      have H1 : ((metrolabref50_stacked.f k l0 l2).bind fun t195 => (if t195 = 0 then ((metrolabref50_Best.f k l0 a1).bind fun t196 => ((metrolabref50_Same.f k t196 l2).bind fun t199 => (if t199 = true then (if (l2.length : Int) = 0 then (some 15) else (some 0)) else (some 15)))) else (some t195))) = some r := by rw [if_pos rfl] at H; exact H
      clear H
      have H := H1
      clear H1
      replace H := Option.bind_eq_some_iff.mp H
      obtain ⟨t195, A80, H⟩ := H
      replace H : (if t195 = 0 then ((metrolabref50_Best.f k l0 a1).bind fun t196 => ((metrolabref50_Same.f k t196 l2).bind fun t199 => (if t199 = true then (if (l2.length : Int) = 0 then (some 15) else (some 0)) else (some 15)))) else (some t195)) = some r := H
      have A8 := Aside0.mk A80
      clear A80
      by_cases c9 : t195 = 0
      · rw [if_pos c9] at H
        have c9b0 : (t195 == 0) = true := beq_iff_eq.mpr c9
        have c9b1 : (t195 != 0) = false := bne_eq_false_iff_eq.mpr c9
        clear c9
        replace H := Option.bind_eq_some_iff.mp H
        obtain ⟨t196, A100, H⟩ := H
        replace H : ((metrolabref50_Same.f k t196 l2).bind fun t199 => (if t199 = true then (if (l2.length : Int) = 0 then (some 15) else (some 0)) else (some 15))) = some r := H
        have A10 := Aside0.mk A100
        clear A100
        replace H := Option.bind_eq_some_iff.mp H
        obtain ⟨t199, A110, H⟩ := H
        replace H : (if t199 = true then (if (l2.length : Int) = 0 then (some 15) else (some 0)) else (some 15)) = some r := H
        have A11 := Aside0.mk A110
        clear A110
        by_cases c12 : t199 = true
        · subst c12
          have H1 : (if (l2.length : Int) = 0 then (some 15) else (some 0)) = some r := by rw [if_pos rfl] at H; exact H
          clear H
          have H := H1
          clear H1
          by_cases c13 : (l2.length : Int) = 0
          · rw [if_pos c13] at H
            have c13b0 : ((l2.length : Int) == 0) = true := beq_iff_eq.mpr c13
            have c13b1 : ((l2.length : Int) != 0) = false := bne_eq_false_iff_eq.mpr c13
            clear c13
            obtain rfl := Option.some.inj H
            go_enter Try.func17, Try.ntmps17
            go_wp2_with (first | ((with_reducible refine gate_callee (f := 28) rfl ?_); refine goesL_ (some 10) rfl rfl Try.func28 (by kernel_rfl) rfl #[.slice A0 l0.length c0] rfl (by (try simp only [List.map_toArray, List.map_cons, List.map_nil]); first | done | rfl | (simp only [List.length_drop, List.length_take]; rfl)) ?_; (with_reducible refine (metrolabref50_Check.calls k _ _ l0 t193 _ ?side1 ?side2 A4.out).mono ?_); (case side1 => repeat (first | exact HR0.out | (with_reducible refine Kd.C_alloc ?_ _) | (with_reducible refine Kd.C_drewN ?_ _) | (with_reducible refine Kd.C_drew ?_))); (case side2 => exact HC0.out); rintro e w' ⟨rfl, ⟨nd, rfl⟩⟩; refine ⟨_, rfl, ?_⟩) | ((with_reducible refine gate_callee (f := 40) rfl ?_); refine goesL_ (some 15) rfl rfl Try.func40 (by kernel_rfl) rfl #[.int .i64 a1] rfl (by (try simp only [List.map_toArray, List.map_cons, List.map_nil]); first | done | rfl | (simp only [List.length_drop, List.length_take]; rfl)) ?_; (with_reducible refine (metrolabref50_inside.calls a1 true _ A6.out).mono ?_); rintro e w' ⟨rfl, ⟨nd, rfl⟩⟩; refine ⟨_, rfl, ?_⟩) | ((with_reducible refine gate_callee (f := 43) rfl ?_); refine goesL_ (some 19) rfl rfl Try.func43 (by kernel_rfl) rfl #[.slice A0 l0.length c0, .slice A2 l2.length c2] rfl (by (try simp only [List.map_toArray, List.map_cons, List.map_nil]); first | done | rfl | (simp only [List.length_drop, List.length_take]; rfl)) ?_; (with_reducible refine (metrolabref50_stacked.calls k _ _ l0 _ _ l2 t195 _ ?side1 ?side2 ?side3 ?side4 A8.out).mono ?_); (case side1 => repeat (first | exact HR0.out | (with_reducible refine Kd.C_alloc ?_ _) | (with_reducible refine Kd.C_drewN ?_ _) | (with_reducible refine Kd.C_drew ?_))); (case side2 => exact HC0.out); (case side3 => repeat (first | exact HR2.out | (with_reducible refine Kd.C_alloc ?_ _) | (with_reducible refine Kd.C_drewN ?_ _) | (with_reducible refine Kd.C_drew ?_))); (case side4 => exact HC2.out); rintro e w' ⟨rfl, ⟨nd, rfl⟩⟩; refine ⟨_, rfl, ?_⟩) | ((with_reducible refine gate_callee (f := 41) rfl ?_); refine goesL_ (some 25) rfl rfl Try.func41 (by kernel_rfl) rfl #[.slice A0 l0.length c0, .int .i64 a1] rfl (by (try simp only [List.map_toArray, List.map_cons, List.map_nil]); first | done | rfl | (simp only [List.length_drop, List.length_take]; rfl)) ?_; (with_reducible refine (metrolabref50_Best.calls k _ _ l0 a1 t196 _ ?side1 ?side2 A10.out).mono ?_); (case side1 => repeat (first | exact HR0.out | (with_reducible refine Kd.C_alloc ?_ _) | (with_reducible refine Kd.C_drewN ?_ _) | (with_reducible refine Kd.C_drew ?_))); (case side2 => exact HC0.out); rintro e w14 ⟨v197, rfl, ho0, hb⟩; refine ⟨_, rfl, ?_⟩; have n0_ := Aside0.mk (Kd.V_lower (Kd.V_mono (ok' := fun k_ => True) ho0 (fun k_ hk_ => trivial)) (below_size (by repeat (first | (with_reducible first | exact HB.out | apply below_alloc | apply pw_below_drewN | apply below_drew1) | exact HB.out)))); have n1_ := Aside0.mk (below_step (by repeat (first | (with_reducible first | exact HB.out | apply below_alloc | apply pw_below_drewN | apply below_drew1) | exact HB.out)) hb); clear HB; have HO198 := n0_; have HB := n1_; clear n0_ n1_; (try clear hb); (try clear hb2); (try clear hk); (try clear hi); (try clear ho0); obtain ⟨Ao15, co15, eo15⟩ := Kd.V_slice HO198.out; subst eo15) | ((with_reducible refine gate_callee (f := 44) rfl ?_); refine goesL_ (some 27) rfl rfl Try.func44 (by kernel_rfl) rfl #[.slice Ao15 t196.length co15, .slice A2 l2.length c2] rfl (by (try simp only [List.map_toArray, List.map_cons, List.map_nil]); first | done | rfl | (simp only [List.length_drop, List.length_take]; rfl)) ?_; (with_reducible refine (metrolabref50_Same.calls k _ _ t196 _ _ l2 true _ ?side1 ?side2 ?side3 ?side4 A11.out).mono ?_); (case side1 => repeat (first | exact (Kd.V_reads' HO198.out).2.2 | (with_reducible refine Kd.C_alloc ?_ _) | (with_reducible refine Kd.C_drewN ?_ _) | (with_reducible refine Kd.C_drew ?_))); (case side2 => exact (Kd.V_reads' HO198.out).2.1); (case side3 => repeat (first | exact (Kd.C_below HR2.out HB.out) | (with_reducible refine Kd.C_alloc ?_ _) | (with_reducible refine Kd.C_drewN ?_ _) | (with_reducible refine Kd.C_drew ?_))); (case side4 => exact HC2.out); rintro e w' ⟨rfl, ⟨nd, rfl⟩⟩; refine ⟨_, rfl, ?_⟩))
            go_ret
            exact ⟨by first | rfl | (simp [errW_none, errW_some] <;> rfl) | (simp [*, errW_none, errW_some] <;> rfl), by repeat (first | (with_reducible first | exact HB.out | apply below_alloc | apply pw_below_drewN | apply below_drew1) | exact HB.out)⟩
          · rw [if_neg c13] at H
            have c13b0 : ((l2.length : Int) == 0) = false := beq_eq_false_iff_ne.mpr c13
            have c13b1 : ((l2.length : Int) != 0) = true := bne_iff_ne.mpr c13
            have c13b2 : ¬ (l2 = []) := fun h_ => c13 (by rw [h_]; rfl)
            obtain rfl := Option.some.inj H
            go_enter Try.func17, Try.ntmps17
            go_wp2_with (first | ((with_reducible refine gate_callee (f := 28) rfl ?_); refine goesL_ (some 10) rfl rfl Try.func28 (by kernel_rfl) rfl #[.slice A0 l0.length c0] rfl (by (try simp only [List.map_toArray, List.map_cons, List.map_nil]); first | done | rfl | (simp only [List.length_drop, List.length_take]; rfl)) ?_; (with_reducible refine (metrolabref50_Check.calls k _ _ l0 t193 _ ?side1 ?side2 A4.out).mono ?_); (case side1 => repeat (first | exact HR0.out | (with_reducible refine Kd.C_alloc ?_ _) | (with_reducible refine Kd.C_drewN ?_ _) | (with_reducible refine Kd.C_drew ?_))); (case side2 => exact HC0.out); rintro e w' ⟨rfl, ⟨nd, rfl⟩⟩; refine ⟨_, rfl, ?_⟩) | ((with_reducible refine gate_callee (f := 40) rfl ?_); refine goesL_ (some 15) rfl rfl Try.func40 (by kernel_rfl) rfl #[.int .i64 a1] rfl (by (try simp only [List.map_toArray, List.map_cons, List.map_nil]); first | done | rfl | (simp only [List.length_drop, List.length_take]; rfl)) ?_; (with_reducible refine (metrolabref50_inside.calls a1 true _ A6.out).mono ?_); rintro e w' ⟨rfl, ⟨nd, rfl⟩⟩; refine ⟨_, rfl, ?_⟩) | ((with_reducible refine gate_callee (f := 43) rfl ?_); refine goesL_ (some 19) rfl rfl Try.func43 (by kernel_rfl) rfl #[.slice A0 l0.length c0, .slice A2 l2.length c2] rfl (by (try simp only [List.map_toArray, List.map_cons, List.map_nil]); first | done | rfl | (simp only [List.length_drop, List.length_take]; rfl)) ?_; (with_reducible refine (metrolabref50_stacked.calls k _ _ l0 _ _ l2 t195 _ ?side1 ?side2 ?side3 ?side4 A8.out).mono ?_); (case side1 => repeat (first | exact HR0.out | (with_reducible refine Kd.C_alloc ?_ _) | (with_reducible refine Kd.C_drewN ?_ _) | (with_reducible refine Kd.C_drew ?_))); (case side2 => exact HC0.out); (case side3 => repeat (first | exact HR2.out | (with_reducible refine Kd.C_alloc ?_ _) | (with_reducible refine Kd.C_drewN ?_ _) | (with_reducible refine Kd.C_drew ?_))); (case side4 => exact HC2.out); rintro e w' ⟨rfl, ⟨nd, rfl⟩⟩; refine ⟨_, rfl, ?_⟩) | ((with_reducible refine gate_callee (f := 41) rfl ?_); refine goesL_ (some 25) rfl rfl Try.func41 (by kernel_rfl) rfl #[.slice A0 l0.length c0, .int .i64 a1] rfl (by (try simp only [List.map_toArray, List.map_cons, List.map_nil]); first | done | rfl | (simp only [List.length_drop, List.length_take]; rfl)) ?_; (with_reducible refine (metrolabref50_Best.calls k _ _ l0 a1 t196 _ ?side1 ?side2 A10.out).mono ?_); (case side1 => repeat (first | exact HR0.out | (with_reducible refine Kd.C_alloc ?_ _) | (with_reducible refine Kd.C_drewN ?_ _) | (with_reducible refine Kd.C_drew ?_))); (case side2 => exact HC0.out); rintro e w16 ⟨v197, rfl, ho0, hb⟩; refine ⟨_, rfl, ?_⟩; have n0_ := Aside0.mk (Kd.V_lower (Kd.V_mono (ok' := fun k_ => True) ho0 (fun k_ hk_ => trivial)) (below_size (by repeat (first | (with_reducible first | exact HB.out | apply below_alloc | apply pw_below_drewN | apply below_drew1) | exact HB.out)))); have n1_ := Aside0.mk (below_step (by repeat (first | (with_reducible first | exact HB.out | apply below_alloc | apply pw_below_drewN | apply below_drew1) | exact HB.out)) hb); clear HB; have HO198 := n0_; have HB := n1_; clear n0_ n1_; (try clear hb); (try clear hb2); (try clear hk); (try clear hi); (try clear ho0); obtain ⟨Ao17, co17, eo17⟩ := Kd.V_slice HO198.out; subst eo17) | ((with_reducible refine gate_callee (f := 44) rfl ?_); refine goesL_ (some 27) rfl rfl Try.func44 (by kernel_rfl) rfl #[.slice Ao17 t196.length co17, .slice A2 l2.length c2] rfl (by (try simp only [List.map_toArray, List.map_cons, List.map_nil]); first | done | rfl | (simp only [List.length_drop, List.length_take]; rfl)) ?_; (with_reducible refine (metrolabref50_Same.calls k _ _ t196 _ _ l2 true _ ?side1 ?side2 ?side3 ?side4 A11.out).mono ?_); (case side1 => repeat (first | exact (Kd.V_reads' HO198.out).2.2 | (with_reducible refine Kd.C_alloc ?_ _) | (with_reducible refine Kd.C_drewN ?_ _) | (with_reducible refine Kd.C_drew ?_))); (case side2 => exact (Kd.V_reads' HO198.out).2.1); (case side3 => repeat (first | exact (Kd.C_below HR2.out HB.out) | (with_reducible refine Kd.C_alloc ?_ _) | (with_reducible refine Kd.C_drewN ?_ _) | (with_reducible refine Kd.C_drew ?_))); (case side4 => exact HC2.out); rintro e w' ⟨rfl, ⟨nd, rfl⟩⟩; refine ⟨_, rfl, ?_⟩))
            go_ret
            exact ⟨by first | rfl | (simp [errW_none, errW_some] <;> rfl) | (simp [*, errW_none, errW_some] <;> rfl), by repeat (first | (with_reducible first | exact HB.out | apply below_alloc | apply pw_below_drewN | apply below_drew1) | exact HB.out)⟩
        · replace c12 := Bool.eq_false_iff.mpr c12
          subst c12
          have H1 : (some 15) = some r := by rw [if_neg (show ¬ (false = true) by decide)] at H; exact H
          clear H
          have H := H1
          clear H1
          obtain rfl := Option.some.inj H
          go_enter Try.func17, Try.ntmps17
          go_wp2_with (first | ((with_reducible refine gate_callee (f := 28) rfl ?_); refine goesL_ (some 10) rfl rfl Try.func28 (by kernel_rfl) rfl #[.slice A0 l0.length c0] rfl (by (try simp only [List.map_toArray, List.map_cons, List.map_nil]); first | done | rfl | (simp only [List.length_drop, List.length_take]; rfl)) ?_; (with_reducible refine (metrolabref50_Check.calls k _ _ l0 t193 _ ?side1 ?side2 A4.out).mono ?_); (case side1 => repeat (first | exact HR0.out | (with_reducible refine Kd.C_alloc ?_ _) | (with_reducible refine Kd.C_drewN ?_ _) | (with_reducible refine Kd.C_drew ?_))); (case side2 => exact HC0.out); rintro e w' ⟨rfl, ⟨nd, rfl⟩⟩; refine ⟨_, rfl, ?_⟩) | ((with_reducible refine gate_callee (f := 40) rfl ?_); refine goesL_ (some 15) rfl rfl Try.func40 (by kernel_rfl) rfl #[.int .i64 a1] rfl (by (try simp only [List.map_toArray, List.map_cons, List.map_nil]); first | done | rfl | (simp only [List.length_drop, List.length_take]; rfl)) ?_; (with_reducible refine (metrolabref50_inside.calls a1 true _ A6.out).mono ?_); rintro e w' ⟨rfl, ⟨nd, rfl⟩⟩; refine ⟨_, rfl, ?_⟩) | ((with_reducible refine gate_callee (f := 43) rfl ?_); refine goesL_ (some 19) rfl rfl Try.func43 (by kernel_rfl) rfl #[.slice A0 l0.length c0, .slice A2 l2.length c2] rfl (by (try simp only [List.map_toArray, List.map_cons, List.map_nil]); first | done | rfl | (simp only [List.length_drop, List.length_take]; rfl)) ?_; (with_reducible refine (metrolabref50_stacked.calls k _ _ l0 _ _ l2 t195 _ ?side1 ?side2 ?side3 ?side4 A8.out).mono ?_); (case side1 => repeat (first | exact HR0.out | (with_reducible refine Kd.C_alloc ?_ _) | (with_reducible refine Kd.C_drewN ?_ _) | (with_reducible refine Kd.C_drew ?_))); (case side2 => exact HC0.out); (case side3 => repeat (first | exact HR2.out | (with_reducible refine Kd.C_alloc ?_ _) | (with_reducible refine Kd.C_drewN ?_ _) | (with_reducible refine Kd.C_drew ?_))); (case side4 => exact HC2.out); rintro e w' ⟨rfl, ⟨nd, rfl⟩⟩; refine ⟨_, rfl, ?_⟩) | ((with_reducible refine gate_callee (f := 41) rfl ?_); refine goesL_ (some 25) rfl rfl Try.func41 (by kernel_rfl) rfl #[.slice A0 l0.length c0, .int .i64 a1] rfl (by (try simp only [List.map_toArray, List.map_cons, List.map_nil]); first | done | rfl | (simp only [List.length_drop, List.length_take]; rfl)) ?_; (with_reducible refine (metrolabref50_Best.calls k _ _ l0 a1 t196 _ ?side1 ?side2 A10.out).mono ?_); (case side1 => repeat (first | exact HR0.out | (with_reducible refine Kd.C_alloc ?_ _) | (with_reducible refine Kd.C_drewN ?_ _) | (with_reducible refine Kd.C_drew ?_))); (case side2 => exact HC0.out); rintro e w18 ⟨v197, rfl, ho0, hb⟩; refine ⟨_, rfl, ?_⟩; have n0_ := Aside0.mk (Kd.V_lower (Kd.V_mono (ok' := fun k_ => True) ho0 (fun k_ hk_ => trivial)) (below_size (by repeat (first | (with_reducible first | exact HB.out | apply below_alloc | apply pw_below_drewN | apply below_drew1) | exact HB.out)))); have n1_ := Aside0.mk (below_step (by repeat (first | (with_reducible first | exact HB.out | apply below_alloc | apply pw_below_drewN | apply below_drew1) | exact HB.out)) hb); clear HB; have HO198 := n0_; have HB := n1_; clear n0_ n1_; (try clear hb); (try clear hb2); (try clear hk); (try clear hi); (try clear ho0); obtain ⟨Ao19, co19, eo19⟩ := Kd.V_slice HO198.out; subst eo19) | ((with_reducible refine gate_callee (f := 44) rfl ?_); refine goesL_ (some 27) rfl rfl Try.func44 (by kernel_rfl) rfl #[.slice Ao19 t196.length co19, .slice A2 l2.length c2] rfl (by (try simp only [List.map_toArray, List.map_cons, List.map_nil]); first | done | rfl | (simp only [List.length_drop, List.length_take]; rfl)) ?_; (with_reducible refine (metrolabref50_Same.calls k _ _ t196 _ _ l2 false _ ?side1 ?side2 ?side3 ?side4 A11.out).mono ?_); (case side1 => repeat (first | exact (Kd.V_reads' HO198.out).2.2 | (with_reducible refine Kd.C_alloc ?_ _) | (with_reducible refine Kd.C_drewN ?_ _) | (with_reducible refine Kd.C_drew ?_))); (case side2 => exact (Kd.V_reads' HO198.out).2.1); (case side3 => repeat (first | exact (Kd.C_below HR2.out HB.out) | (with_reducible refine Kd.C_alloc ?_ _) | (with_reducible refine Kd.C_drewN ?_ _) | (with_reducible refine Kd.C_drew ?_))); (case side4 => exact HC2.out); rintro e w' ⟨rfl, ⟨nd, rfl⟩⟩; refine ⟨_, rfl, ?_⟩))
          go_ret
          exact ⟨by first | rfl | (simp [errW_none, errW_some] <;> rfl) | (simp [*, errW_none, errW_some] <;> rfl), by repeat (first | (with_reducible first | exact HB.out | apply below_alloc | apply pw_below_drewN | apply below_drew1) | exact HB.out)⟩
      · rw [if_neg c9] at H
        have c9b0 : (t195 == 0) = false := beq_eq_false_iff_ne.mpr c9
        have c9b1 : (t195 != 0) = true := bne_iff_ne.mpr c9
        obtain rfl := Option.some.inj H
        go_enter Try.func17, Try.ntmps17
        go_wp2_with (first | ((with_reducible refine gate_callee (f := 28) rfl ?_); refine goesL_ (some 10) rfl rfl Try.func28 (by kernel_rfl) rfl #[.slice A0 l0.length c0] rfl (by (try simp only [List.map_toArray, List.map_cons, List.map_nil]); first | done | rfl | (simp only [List.length_drop, List.length_take]; rfl)) ?_; (with_reducible refine (metrolabref50_Check.calls k _ _ l0 t193 _ ?side1 ?side2 A4.out).mono ?_); (case side1 => repeat (first | exact HR0.out | (with_reducible refine Kd.C_alloc ?_ _) | (with_reducible refine Kd.C_drewN ?_ _) | (with_reducible refine Kd.C_drew ?_))); (case side2 => exact HC0.out); rintro e w' ⟨rfl, ⟨nd, rfl⟩⟩; refine ⟨_, rfl, ?_⟩) | ((with_reducible refine gate_callee (f := 40) rfl ?_); refine goesL_ (some 15) rfl rfl Try.func40 (by kernel_rfl) rfl #[.int .i64 a1] rfl (by (try simp only [List.map_toArray, List.map_cons, List.map_nil]); first | done | rfl | (simp only [List.length_drop, List.length_take]; rfl)) ?_; (with_reducible refine (metrolabref50_inside.calls a1 true _ A6.out).mono ?_); rintro e w' ⟨rfl, ⟨nd, rfl⟩⟩; refine ⟨_, rfl, ?_⟩) | ((with_reducible refine gate_callee (f := 43) rfl ?_); refine goesL_ (some 19) rfl rfl Try.func43 (by kernel_rfl) rfl #[.slice A0 l0.length c0, .slice A2 l2.length c2] rfl (by (try simp only [List.map_toArray, List.map_cons, List.map_nil]); first | done | rfl | (simp only [List.length_drop, List.length_take]; rfl)) ?_; (with_reducible refine (metrolabref50_stacked.calls k _ _ l0 _ _ l2 t195 _ ?side1 ?side2 ?side3 ?side4 A8.out).mono ?_); (case side1 => repeat (first | exact HR0.out | (with_reducible refine Kd.C_alloc ?_ _) | (with_reducible refine Kd.C_drewN ?_ _) | (with_reducible refine Kd.C_drew ?_))); (case side2 => exact HC0.out); (case side3 => repeat (first | exact HR2.out | (with_reducible refine Kd.C_alloc ?_ _) | (with_reducible refine Kd.C_drewN ?_ _) | (with_reducible refine Kd.C_drew ?_))); (case side4 => exact HC2.out); rintro e w' ⟨rfl, ⟨nd, rfl⟩⟩; refine ⟨_, rfl, ?_⟩))
        go_ret
        exact ⟨by first | rfl | (simp [errW_none, errW_some] <;> rfl) | (simp [*, errW_none, errW_some] <;> rfl), by repeat (first | (with_reducible first | exact HB.out | apply below_alloc | apply pw_below_drewN | apply below_drew1) | exact HB.out)⟩
    · replace c7 := Bool.eq_false_iff.mpr c7
      subst c7
      have H1 : (some 2) = some r := by rw [if_neg (show ¬ (false = true) by decide)] at H; exact H
      clear H
      have H := H1
      clear H1
      obtain rfl := Option.some.inj H
      go_enter Try.func17, Try.ntmps17
      go_wp2_with (first | ((with_reducible refine gate_callee (f := 28) rfl ?_); refine goesL_ (some 10) rfl rfl Try.func28 (by kernel_rfl) rfl #[.slice A0 l0.length c0] rfl (by (try simp only [List.map_toArray, List.map_cons, List.map_nil]); first | done | rfl | (simp only [List.length_drop, List.length_take]; rfl)) ?_; (with_reducible refine (metrolabref50_Check.calls k _ _ l0 t193 _ ?side1 ?side2 A4.out).mono ?_); (case side1 => repeat (first | exact HR0.out | (with_reducible refine Kd.C_alloc ?_ _) | (with_reducible refine Kd.C_drewN ?_ _) | (with_reducible refine Kd.C_drew ?_))); (case side2 => exact HC0.out); rintro e w' ⟨rfl, ⟨nd, rfl⟩⟩; refine ⟨_, rfl, ?_⟩) | ((with_reducible refine gate_callee (f := 40) rfl ?_); refine goesL_ (some 15) rfl rfl Try.func40 (by kernel_rfl) rfl #[.int .i64 a1] rfl (by (try simp only [List.map_toArray, List.map_cons, List.map_nil]); first | done | rfl | (simp only [List.length_drop, List.length_take]; rfl)) ?_; (with_reducible refine (metrolabref50_inside.calls a1 false _ A6.out).mono ?_); rintro e w' ⟨rfl, ⟨nd, rfl⟩⟩; refine ⟨_, rfl, ?_⟩))
      go_ret
      exact ⟨by first | rfl | (simp [errW_none, errW_some] <;> rfl) | (simp [*, errW_none, errW_some] <;> rfl), by repeat (first | (with_reducible first | exact HB.out | apply below_alloc | apply pw_below_drewN | apply below_drew1) | exact HB.out)⟩
  · rw [if_neg c5] at H
    have c5b0 : (t193 == 0) = false := beq_eq_false_iff_ne.mpr c5
    have c5b1 : (t193 != 0) = true := bne_iff_ne.mpr c5
    obtain rfl := Option.some.inj H
    go_enter Try.func17, Try.ntmps17
    go_wp2_with (first | ((with_reducible refine gate_callee (f := 28) rfl ?_); refine goesL_ (some 10) rfl rfl Try.func28 (by kernel_rfl) rfl #[.slice A0 l0.length c0] rfl (by (try simp only [List.map_toArray, List.map_cons, List.map_nil]); first | done | rfl | (simp only [List.length_drop, List.length_take]; rfl)) ?_; (with_reducible refine (metrolabref50_Check.calls k _ _ l0 t193 _ ?side1 ?side2 A4.out).mono ?_); (case side1 => repeat (first | exact HR0.out | (with_reducible refine Kd.C_alloc ?_ _) | (with_reducible refine Kd.C_drewN ?_ _) | (with_reducible refine Kd.C_drew ?_))); (case side2 => exact HC0.out); rintro e w' ⟨rfl, ⟨nd, rfl⟩⟩; refine ⟨_, rfl, ?_⟩))
    go_ret
    exact ⟨by first | rfl | (simp [errW_none, errW_some] <;> rfl) | (simp [*, errW_none, errW_some] <;> rfl), by repeat (first | (with_reducible first | exact HB.out | apply below_alloc | apply pw_below_drewN | apply below_drew1) | exact HB.out)⟩

end Go.Proofs.Ytgkgeodphgfgnaa.Pr
/- The plain laws: a stack's check, on both sides. -/
namespace Go.Proofs.Ytgkgeodphgfgnaa.Pr
open Go.RowKit Go.Proofs.YtgkgeodphgfgnaaW.PrintWords Go.Proofs.YtgkgeodphgfgnaaW.PrintLast

/-- A stack's error: m blocks in the set. -/
def stkGo (m : Int) : Option Int → List Int → Int
  | _, [] => 0
  | p, x :: xs => if x < 0 ∨ x ≥ m then 2 else if p.any (fun y => decide (x ≤ y)) then 9 else stkGo m (some x) xs
def stkV (l st : List Int) : Int := stkGo (l.length : Int) none st
theorem prev_zero (l : List Int) : prevOf l 0 = none := rfl
theorem prev_succ {l : List Int} {i : Nat} {x : Int} (h : l[i]? = some x) : prevOf l (i + 1) = some x := by unfold prevOf; rw [if_neg (by omega)]; exact h
theorem stacked_go (l st : List Int) (hn : st.length ≤ 140737488351232) : ∀ (d i : Nat), i ≤ st.length → st.length - i = d → Ev (fun k => metrolabref50_stacked.l0 k l st (i : Int)) (stkGo (l.length : Int) (prevOf st i) (st.drop i)) := by
  intro d
  induction d with
  | zero =>
    intro i hi hd
    obtain rfl : i = st.length := by omega
    refine Ev.const fun k => ?_
    simp only [metrolabref50_stacked.l0]
    rw [if_neg (by omega), List.drop_length]; rfl
  | succ d ih =>
    intro i hi hd
    obtain ⟨x, hx, hdr⟩ := drop_at (show i < st.length by omega)
    have hih := ih (i + 1) (by omega) (by omega)
    rw [prev_succ hx] at hih
    rw [hdr]
    by_cases h1 : x < 0 ∨ x ≥ (l.length : Int)
    · have e : stkGo (l.length : Int) (prevOf st i) (x :: st.drop (i + 1)) = 2 := by simp only [stkGo]; rw [if_pos h1]
      rw [e]
      refine Ev.step (f := fun k => metrolabref50_stacked.j1 k l st (i : Int) true) (fun k => ?_) (Ev.const fun k => ?_)
      · simp only [metrolabref50_stacked.l0]
        rw [if_pos (by omega), if_pos (by omega), rd_at hx]
        by_cases h2 : x < 0
        · rw [if_pos h2]
        · rw [if_neg h2, decide_eq_true (by omega)]
      · simp only [metrolabref50_stacked.j1]
        rw [if_pos True.intro]
    · refine Ev.step (f := fun k => metrolabref50_stacked.j1 k l st (i : Int) false) (fun k => ?_) ?_
      · simp only [metrolabref50_stacked.l0]
        rw [if_pos (by omega), if_pos (by omega), rd_at hx, if_neg (by omega), decide_eq_false (by omega)]
      · by_cases h2 : i = 0
        · subst h2
          have e : stkGo (l.length : Int) (prevOf st 0) (x :: st.drop (0 + 1)) = stkGo (l.length : Int) (some x) (st.drop (0 + 1)) := by
            rw [prev_zero]; simp only [stkGo]; rw [if_neg h1, if_neg (by simp)]
          rw [e]
          refine Ev.step (f := fun k => metrolabref50_stacked.l0 k l st ((0 + 1 : Nat) : Int)) (fun k => ?_) hih
          simp only [metrolabref50_stacked.j1]
          rw [if_neg (by decide), if_neg (by omega), wrap_up (n := st.length) (by omega) (by omega) (by omega)]
          rfl
        · obtain ⟨y, hy, _⟩ := drop_at (show i - 1 < st.length by omega)
          have hp2 : prevOf st i = some y := by unfold prevOf; rw [if_neg h2]; exact hy
          have hj : ∀ k, metrolabref50_stacked.j1 (k + 1) l st (i : Int) false = if x ≤ y then some 9 else metrolabref50_stacked.l0 k l st ((i + 1 : Nat) : Int) := fun k => by
            simp only [metrolabref50_stacked.j1]
            rw [if_neg (by decide), if_pos (show (i : Int) > 0 by omega), wrap_down (n := st.length) (by omega) (by omega) (by omega), wrap_up (n := st.length) (by omega) (by omega) (by omega), if_pos (by omega), if_pos (by omega),
              show (i : Int) - 1 = ((i - 1 : Nat) : Int) by omega, if_pos (by omega), if_pos (by omega), rd_at hx, rd_at hy]
            rfl
          rw [hp2]
          have e : stkGo (l.length : Int) (some y) (x :: st.drop (i + 1)) = if x ≤ y then 9 else stkGo (l.length : Int) (some x) (st.drop (i + 1)) := by
            simp only [stkGo]; rw [if_neg h1]; simp
          rw [e]
          by_cases h3 : x ≤ y
          · rw [if_pos h3]
            exact Ev.const fun k => by rw [hj, if_pos h3]
          · rw [if_neg h3]
            exact Ev.step (fun k => by rw [hj, if_neg h3]) hih
theorem stacked_ev (l st : List Int) (hn : st.length ≤ 140737488351232) : Ev (fun k => metrolabref50_stacked.f k l st) (stkV l st) :=
  Ev.congr (f := fun k => metrolabref50_stacked.l0 k l st ((0 : Nat) : Int)) (fun _ => rfl) (stacked_go l st hn st.length 0 (by omega) (by omega))

/-- What total returns: the sum and the error. -/
def totV (l st : List Int) : Int × Int := if stkV l st = 0 then (tot l st, 0) else (0, stkV l st)
theorem btotal_go (l st : List Int) (hl : ∀ x ∈ l, 1 ≤ x ∧ x ≤ 100000) (hl2 : l.length ≤ 256) (hn : st.length ≤ 140737488351232) : ∀ (d i : Nat) (acc : Int), i ≤ st.length → st.length - i = d → 0 ≤ acc → acc ≤ 100000 * i → (∀ y, prevOf st i = some y → (i : Int) ≤ y + 1 ∧ y < (l.length : Int)) → i ≤ 256 →
    Ev (fun k => blocks_total.l0 k l st acc st (st.length : Int) (i : Int)) (if stkGo (l.length : Int) (prevOf st i) (st.drop i) = 0 then (acc + tot l (st.drop i), 0) else (0, stkGo (l.length : Int) (prevOf st i) (st.drop i))) := by
  intro d
  induction d with
  | zero =>
    intro i acc hi hd h0 h1 hp h256
    obtain rfl : i = st.length := by omega
    refine Ev.const fun k => ?_
    simp only [blocks_total.l0]
    rw [if_neg (by omega), List.drop_length]
    simp [stkGo, tot]
  | succ d ih =>
    intro i acc hi hd h0 h1 hp h256
    obtain ⟨x, hx, hdr⟩ := drop_at (show i < st.length by omega)
    rw [hdr]
    by_cases hb : x < 0 ∨ x ≥ (l.length : Int)
    · have e : stkGo (l.length : Int) (prevOf st i) (x :: st.drop (i + 1)) = 2 := by simp only [stkGo]; rw [if_pos hb]
      rw [e, if_neg (by decide)]
      refine Ev.step (f := fun k => blocks_total.j1 k l st acc (i : Int) x st (st.length : Int) (i : Int) true) (fun k => ?_) (Ev.const fun k => ?_)
      · simp only [blocks_total.l0]
        rw [if_pos (by omega), if_pos (by omega), if_pos (by omega), rd_at hx]
        by_cases h2 : x < 0
        · rw [if_pos h2]
        · rw [if_neg h2, decide_eq_true (by omega)]
      · simp only [blocks_total.j1]
        rw [if_pos True.intro]
    · have hx0 : 0 ≤ x := by omega
      have hx1 : x < (l.length : Int) := by omega
      obtain ⟨g3, g4⟩ := hl _ (rd_mem hx0 hx1)
      refine Ev.step (f := fun k => blocks_total.j1 k l st acc (i : Int) x st (st.length : Int) (i : Int) false) (fun k => ?_) ?_
      · simp only [blocks_total.l0]
        rw [if_pos (by omega), if_pos (by omega), if_pos (by omega), rd_at hx, if_neg (by omega), decide_eq_false (by omega)]
      · have hgo : ∀ z : Option Int, z = prevOf st i → stkGo (l.length : Int) z (x :: st.drop (i + 1)) = if z.any (fun y => decide (x ≤ y)) then 9 else stkGo (l.length : Int) (some x) (st.drop (i + 1)) := fun z _ => by
          simp only [stkGo]; rw [if_neg hb]
        rw [hgo _ rfl]
        have hnext : x ≥ (i : Int) → Ev (fun k => blocks_total.l0 k l st (acc + rd l x) st (st.length : Int) ((i + 1 : Nat) : Int)) (if stkGo (l.length : Int) (some x) (st.drop (i + 1)) = 0 then (acc + tot l (x :: st.drop (i + 1)), 0) else (0, stkGo (l.length : Int) (some x) (st.drop (i + 1)))) := fun hxi => by
          have := ih (i + 1) (acc + rd l x) (by omega) (by omega) (by omega) (by omega) (fun y hy => by rw [prev_succ hx] at hy; cases hy; omega) (by omega)
          rw [prev_succ hx] at this
          have e : acc + rd l x + tot l (st.drop (i + 1)) = acc + tot l (x :: st.drop (i + 1)) := by simp only [tot, List.map_cons, List.sum_cons]; omega
          rw [e] at this
          exact this
        have hw : wrap64 (acc + rd l x) = acc + rd l x := by unfold wrap64; omega
        by_cases h2 : i = 0
        · subst h2
          rw [prev_zero, if_neg (show ¬ (none : Option Int).any (fun y => decide (x ≤ y)) = true by simp)]
          refine Ev.step (fun k => ?_) (hnext (by omega))
          simp only [blocks_total.j1]
          rw [if_neg (by decide), if_neg (by omega), if_pos hx0, if_pos hx1, hw, wrap_up (n := st.length) (by omega) (by omega) (by omega)]
          rfl
        · obtain ⟨y, hy, _⟩ := drop_at (show i - 1 < st.length by omega)
          have hp2 : prevOf st i = some y := by unfold prevOf; rw [if_neg h2]; exact hy
          obtain ⟨p1, p2⟩ := hp y hp2
          have hj : ∀ k, blocks_total.j1 (k + 1) l st acc (i : Int) x st (st.length : Int) (i : Int) false = if x ≤ y then some (0, 9) else blocks_total.l0 k l st (acc + rd l x) st (st.length : Int) ((i + 1 : Nat) : Int) := fun k => by
            simp only [blocks_total.j1]
            rw [if_neg (by decide), if_pos (show (i : Int) > 0 by omega), wrap_down (n := st.length) (by omega) (by omega) (by omega), wrap_up (n := st.length) (by omega) (by omega) (by omega), if_pos (by omega), if_pos (by omega),
              show (i : Int) - 1 = ((i - 1 : Nat) : Int) by omega, rd_at hy, if_pos hx0, if_pos hx1, hw]
            rfl
          rw [hp2]
          by_cases h3 : x ≤ y
          · rw [if_pos (show (some y).any (fun y => decide (x ≤ y)) = true by simp [h3]), if_neg (by decide)]
            exact Ev.const fun k => by rw [hj, if_pos h3]
          · rw [if_neg (show ¬ (some y).any (fun y => decide (x ≤ y)) = true by simp [h3])]
            exact Ev.step (fun k => by rw [hj, if_neg h3]) (hnext (by omega))
theorem btotal_ev (l st : List Int) (hl : ∀ x ∈ l, 1 ≤ x ∧ x ≤ 100000) (hl2 : l.length ≤ 256) (hn : st.length ≤ 140737488351232) : Ev (fun k => blocks_total.f k l st) (totV l st) := by
  have h := btotal_go l st hl hl2 hn st.length 0 0 (by omega) (by omega) (by omega) (by omega) (fun y hy => by rw [prev_zero] at hy; cases hy) (by omega)
  rw [List.drop_zero, Int.zero_add] at h
  exact Ev.congr (fun _ => rfl) h
theorem same_go (l m : List Int) (hl : l.length = m.length) (hn : l.length ≤ 140737488351232) : ∀ (d i : Nat), i ≤ l.length → l.length - i = d → Ev (fun k => metrolabref50_Same.l0 k l m (i : Int)) (decide (l.drop i = m.drop i)) := by
  intro d
  induction d with
  | zero =>
    intro i hi hd
    obtain rfl : i = l.length := by omega
    refine Ev.const fun k => ?_
    simp only [metrolabref50_Same.l0]
    rw [if_neg (by omega), List.drop_length, hl, List.drop_length]; rfl
  | succ d ih =>
    intro i hi hd
    obtain ⟨x, hx, hdr⟩ := drop_at (show i < l.length by omega)
    obtain ⟨y, hy, hdr2⟩ := drop_at (show i < m.length by omega)
    have hih := ih (i + 1) (by omega) (by omega)
    rw [hdr, hdr2]
    have hj : ∀ k, metrolabref50_Same.l0 (k + 1) l m (i : Int) = if x = y then metrolabref50_Same.l0 k l m ((i + 1 : Nat) : Int) else some false := fun k => by
      simp only [metrolabref50_Same.l0]
      rw [if_pos (by omega), if_pos (by omega), if_pos (by omega), rd_at hx, rd_at hy, wrap_up (n := l.length) (by omega) (by omega) (by omega)]
      rfl
    by_cases h : x = y
    · subst h
      have e : decide (x :: l.drop (i + 1) = x :: m.drop (i + 1)) = decide (l.drop (i + 1) = m.drop (i + 1)) := by simp
      rw [e]
      exact Ev.step (fun k => by rw [hj, if_pos rfl]) hih
    · have e : decide (x :: l.drop (i + 1) = y :: m.drop (i + 1)) = false := by simp [h]
      rw [e]
      exact Ev.const fun k => by rw [hj, if_neg h]
theorem same_ev (l m : List Int) (hn : l.length ≤ 140737488351232) : Ev (fun k => metrolabref50_Same.f k l m) (decide (l = m)) := by
  by_cases h : l.length = m.length
  · refine Ev.congr (f := fun k => metrolabref50_Same.l0 k l m ((0 : Nat) : Int)) (fun k => ?_) (by simpa using same_go l m h hn l.length 0 (by omega) (by omega))
    unfold metrolabref50_Same.f
    rw [if_pos (by omega)]
    rfl
  · rw [decide_eq_false (fun e => h (congrArg _ e))]
    exact Ev.const fun k => by unfold metrolabref50_Same.f; rw [if_neg (by omega)]

/-- What Verify returns. -/
def verifyV (l : List Int) (n : Int) (st : List Int) : Int := if givenE l n ≠ 0 then givenE l n else if stkV l st ≠ 0 then stkV l st else if g59 l n < 258 ∧ pickV 0 l n = st then 0 else 15
theorem pickV_small (l : List Int) (n : Int) (h : chk l = 0) : (pickV 0 l n).length ≤ 140737488351232 := by
  have h1 := (chk_zero.1 h).1
  have := pickV_le l 0 n
  omega
theorem verify_ev (l : List Int) (n : Int) (st : List Int) (hn : st.length ≤ 140737488351232) : Ev (fun k => blocks_Verify.f k l n st) (verifyV l n st) := by
  unfold verifyV
  refine Ev.bind (given_ev l n) ?_
  by_cases hg : givenE l n = 0
  · obtain ⟨g1, g2, g3⟩ := givenE_zero hg
    obtain ⟨c1, c2⟩ := chk_zero.1 g1
    simp only [hg, if_true, ne_eq, not_true, if_false]
    refine Ev.bind (btotal_ev l st c2.mem c1 hn) ?_
    unfold totV
    by_cases hs : stkV l st = 0
    · simp only [hs, if_true, not_true, if_false]
      refine Ev.bind (g := fun _ => blocks_best.f l n) (a := bestV l n) ⟨0, fun _ _ => by unfold blocks_best.f; rw [if_pos ⟨g1, g2, g3⟩]⟩ ?_
      unfold bestV
      by_cases h : g59 l n ≥ 258
      · rw [if_pos h, if_neg (show ¬ (g59 l n < 258 ∧ pickV 0 l n = st) from fun hh => by omega)]
        exact Ev.now _
      · rw [if_neg h]
        simp only [if_true]
        refine Ev.bind (equal_ev (pickV 0 l n) st (pickV_small l n g1)) ?_
        by_cases he : pickV 0 l n = st
        · rw [if_pos (show g59 l n < 258 ∧ pickV 0 l n = st from ⟨by omega, he⟩)]
          simp only [he, decide_true, if_true]
          exact Ev.now _
        · rw [if_neg (show ¬ (g59 l n < 258 ∧ pickV 0 l n = st) from fun hh => he hh.2)]
          simp only [he, decide_false, if_false, Bool.false_eq_true]
          exact Ev.now _
    · simp only [hs, if_false, not_false_eq_true, if_true]
      exact Ev.now _
  · simp only [hg, if_false, ne_eq, not_false_eq_true, if_true]
    exact Ev.now _
theorem rverify_ev (l : List Int) (n : Int) (st : List Int) (h9 : l.length ≤ 9 ∨ chk l ≠ 0) (hn : st.length ≤ 140737488351232) : Ev (fun k => metrolabref50_Verify.f k l n st) (verifyV l n st) := by
  unfold verifyV
  refine Ev.bind (rcheck_ev l) ?_
  by_cases hc : chk l = 0
  · obtain ⟨hlen, hasc⟩ := chk_zero.1 hc
    rw [givenE_of hc]
    simp only [hc, if_true]
    rw [rinside_is]
    by_cases hi : 1 ≤ n ∧ n ≤ 100000
    · simp only [hi, decide_true, Option.bind_some, if_true, ne_eq, not_true, if_false, and_self]
      refine Ev.bind (stacked_ev l st hn) ?_
      by_cases hs : stkV l st = 0
      · simp only [hs, if_true, not_true, if_false]
        have h99 : l.length ≤ 9 := by rcases h9 with h | h; exact h; exact absurd hc h
        refine Ev.bind (rbest_ev l hasc.mem h99 n (by omega)) ?_
        refine Ev.bind (same_ev (topV l n) st (by unfold topV; split; exact Nat.zero_le _; exact pickV_small l n hc)) ?_
        unfold topV
        by_cases h : g59 l n ≥ 258
        · rw [if_pos h, if_neg (show ¬ (g59 l n < 258 ∧ pickV 0 l n = st) from fun hh => by omega)]
          by_cases he : [] = st
          · subst he
            exact Ev.now _
          · simp only [he, decide_false, if_false, Bool.false_eq_true]
            exact Ev.now _
        · rw [if_neg h]
          by_cases he : pickV 0 l n = st
          · rw [if_pos (show g59 l n < 258 ∧ pickV 0 l n = st from ⟨by omega, he⟩)]
            have hne := topV_nil hi.1 (show g59 l n < 258 by omega)
            rw [he] at hne
            simp only [he, decide_true, if_true]
            rw [if_neg (by intro e; exact hne (List.eq_nil_of_length_eq_zero (by omega)))]
            exact Ev.now _
          · rw [if_neg (show ¬ (g59 l n < 258 ∧ pickV 0 l n = st) from fun hh => he hh.2)]
            simp only [he, decide_false, if_false, Bool.false_eq_true]
            exact Ev.now _
      · simp only [hs, if_false, not_false_eq_true, if_true]
        exact Ev.now _
    · rw [if_neg hi]
      simp only [hi, decide_false, Option.bind_some]
      exact Ev.now _
  · have hg : givenE l n = chk l := by unfold givenE; rw [if_neg hc]
    rw [hg]
    simp only [hc, if_false, ne_eq, not_false_eq_true, if_true]
    exact Ev.now _
end Go.Proofs.Ytgkgeodphgfgnaa.Pr
-- Printed for this claim by a program of this session, over the kit's printer. Not trusted: Lean checks it.
namespace Go.Proofs.Ytgkgeodphgfgnaa.Pr
open Go.RowKit Go.Proofs.YtgkgeodphgfgnaaW.PrintWords Go.Proofs.YtgkgeodphgfgnaaW.PrintLast Go.Proofs.YtgkgeodphgfgnaaW.PrintMore
attribute [local go_sem] max2_int min2_int max_two min_two max_three min_three max_four min_four
set_option linter.unusedVariables false
set_option linter.unusedSimpArgs false

/-! ### metrolabref50_Count: function 19 -/
def metrolabref50_Count.l0 : Nat → List Int → Int → Int → List (List Int) → Int → Option (Int × Int)
  | 0, _, _, _, _, _ => none
  | k + 1, x0, x1, x7, x8, x9 => if x9 < (x8.length : Int) then (if 0 ≤ x9 then ((metrolabref50_Total.f k x0 (rd_L1 x8 x9)).bind fun t237 => (if t237 = x1 then (metrolabref50_Count.l0 k x0 x1 (wrap64 (x7 + 1)) x8 (wrap64 (x9 + 1))) else (metrolabref50_Count.l0 k x0 x1 x7 x8 (wrap64 (x9 + 1))))) else (none)) else (if x7 > 1048576 then (some (0, 12)) else (some (x7, 0)))
def metrolabref50_Count.f (k : Nat) (l0 : List Int) (a1 : Int) : Option (Int × Int) := (metrolabref50_Check.f k l0).bind fun t231 => (if t231 = 0 then ((metrolabref50_inside.f a1).bind fun t232 => (if t232 = true then ((metrolabref50_Stacks.f k (l0.length : Int)).bind fun t233 => (metrolabref50_Count.l0 k l0 a1 0 t233 0)) else (some (0, 2)))) else (some (0, t231)))
theorem metrolabref50_Count.mono_l : ∀ k, (∀ y0 y1 y2 y3 y4, LeO (metrolabref50_Count.l0 k y0 y1 y2 y3 y4) (metrolabref50_Count.l0 (k + 1) y0 y1 y2 y3 y4))
  | 0 => fun _ _ _ _ _ r h => by simp [metrolabref50_Count.l0] at h
  | k + 1 => by
    have ih0 := metrolabref50_Count.mono_l k
    · intro y0 y1 y2 y3 y4
      unfold metrolabref50_Count.l0
      repeat' first
      | (with_reducible exact ih0 _ _ _ _ _)
      | (with_reducible exact metrolabref50_Check.mono _ _)
      | (with_reducible exact metrolabref50_Stacks.mono _ _)
      | (with_reducible exact metrolabref50_Total.mono _ _ _)
      | (with_reducible exact LeO.refl _)
      | (with_reducible exact LeO.none _)
      | (with_reducible refine LeO.ite ?_ ?_)
      | (with_reducible refine LeO.bind ?_ (fun _ => ?_))
      | exact ih0 _ _ _ _ _
      | exact metrolabref50_Check.mono _ _
      | exact metrolabref50_Stacks.mono _ _
      | exact metrolabref50_Total.mono _ _ _
      | exact LeO.none _
      | refine LeO.ite ?_ ?_
      | refine LeO.bind ?_ (fun _ => ?_)
theorem metrolabref50_Count.mono : ∀ a0 a1 k, LeO (metrolabref50_Count.f k a0 a1) (metrolabref50_Count.f (k + 1) a0 a1) := by
  intro a0 a1 k
  have ih0 := metrolabref50_Count.mono_l k
  unfold metrolabref50_Count.f
  repeat' first
      | (with_reducible exact ih0 _ _ _ _ _)
      | (with_reducible exact metrolabref50_Check.mono _ _)
      | (with_reducible exact metrolabref50_Stacks.mono _ _)
      | (with_reducible exact metrolabref50_Total.mono _ _ _)
      | (with_reducible exact LeO.refl _)
      | (with_reducible exact LeO.none _)
      | (with_reducible refine LeO.ite ?_ ?_)
      | (with_reducible refine LeO.bind ?_ (fun _ => ?_))
      | exact ih0 _ _ _ _ _
      | exact metrolabref50_Check.mono _ _
      | exact metrolabref50_Stacks.mono _ _
      | exact metrolabref50_Total.mono _ _ _
      | exact LeO.none _
      | refine LeO.ite ?_ ?_
      | refine LeO.bind ?_ (fun _ => ?_)
set_option maxHeartbeats 8000000 in
set_option maxRecDepth 100000 in
theorem metrolabref50_Count.calls (k : Nat) (A0 : Option Addr) (c0 : Nat) (l0 : List Int) (a1 : Int) (r1 : Int) (r2 : Int) (w : World) (hr0 : Kd.C (Kd.int .i64) w A0 l0.length l0) (hc0 : l0.length ≤ c0) (h : metrolabref50_Count.f k l0 a1 = some (r1, r2)) :
    Calls Try.prog 19 #[.slice A0 l0.length c0, .int .i64 a1] w fun e w' => e = .returned (.tuple #[.int .i64 r1, .int .i64 r2]) ∧ Below w.heap.size w w' := by
  have HR0 := Aside0.mk hr0
  have HC0 := Aside0.mk hc0
  clear hr0 hc0
  have HB := Aside0.mk (Below.refl w.heap.size w)
  have H : ((metrolabref50_Check.f k l0).bind fun t231 => (if t231 = 0 then ((metrolabref50_inside.f a1).bind fun t232 => (if t232 = true then ((metrolabref50_Stacks.f k (l0.length : Int)).bind fun t233 => (metrolabref50_Count.l0 k l0 a1 0 t233 0)) else (some (0, 2)))) else (some (0, t231)))) = some (r1, r2) := h
  clear h
  replace H := Option.bind_eq_some_iff.mp H
  obtain ⟨t231, A30, H⟩ := H
  replace H : (if t231 = 0 then ((metrolabref50_inside.f a1).bind fun t232 => (if t232 = true then ((metrolabref50_Stacks.f k (l0.length : Int)).bind fun t233 => (metrolabref50_Count.l0 k l0 a1 0 t233 0)) else (some (0, 2)))) else (some (0, t231))) = some (r1, r2) := H
  have A3 := Aside0.mk A30
  clear A30
  by_cases c4 : t231 = 0
  · rw [if_pos c4] at H
    have c4b0 : (t231 == 0) = true := beq_iff_eq.mpr c4
    have c4b1 : (t231 != 0) = false := bne_eq_false_iff_eq.mpr c4
    clear c4
    replace H := Option.bind_eq_some_iff.mp H
    obtain ⟨t232, A50, H⟩ := H
    replace H : (if t232 = true then ((metrolabref50_Stacks.f k (l0.length : Int)).bind fun t233 => (metrolabref50_Count.l0 k l0 a1 0 t233 0)) else (some (0, 2))) = some (r1, r2) := H
    have A5 := Aside0.mk A50
    clear A50
    by_cases c6 : t232 = true
    · subst c6
      have H1 : ((metrolabref50_Stacks.f k (l0.length : Int)).bind fun t233 => (metrolabref50_Count.l0 k l0 a1 0 t233 0)) = some (r1, r2) := by rw [if_pos rfl] at H; exact H
      clear H
      have H := H1
      clear H1
      replace H := Option.bind_eq_some_iff.mp H
      obtain ⟨t233, A70, H⟩ := H
      replace H : (metrolabref50_Count.l0 k l0 a1 0 t233 0) = some (r1, r2) := H
      have A7 := Aside0.mk A70
      clear A70
      have H' := Aside0.mk H
      clear H
      go_enter Try.func19, Try.ntmps19
      go_wp2_with (first | ((with_reducible refine gate_callee (f := 28) rfl ?_); refine goesL_ (some 11) rfl rfl Try.func28 (by kernel_rfl) rfl #[.slice A0 l0.length c0] rfl (by (try simp only [List.map_toArray, List.map_cons, List.map_nil]); first | done | rfl | (simp only [List.length_drop, List.length_take]; rfl)) ?_; (with_reducible refine (metrolabref50_Check.calls k _ _ l0 t231 _ ?side1 ?side2 A3.out).mono ?_); (case side1 => repeat (first | exact HR0.out | (with_reducible refine Kd.C_alloc ?_ _) | (with_reducible refine Kd.C_drewN ?_ _) | (with_reducible refine Kd.C_drew ?_))); (case side2 => exact HC0.out); rintro e w' ⟨rfl, ⟨nd, rfl⟩⟩; refine ⟨_, rfl, ?_⟩) | ((with_reducible refine gate_callee (f := 40) rfl ?_); refine goesL_ (some 16) rfl rfl Try.func40 (by kernel_rfl) rfl #[.int .i64 a1] rfl (by (try simp only [List.map_toArray, List.map_cons, List.map_nil]); first | done | rfl | (simp only [List.length_drop, List.length_take]; rfl)) ?_; (with_reducible refine (metrolabref50_inside.calls a1 true _ A5.out).mono ?_); rintro e w' ⟨rfl, ⟨nd, rfl⟩⟩; refine ⟨_, rfl, ?_⟩) | ((with_reducible refine gate_callee (f := 48) rfl ?_); refine goesL_ (some 20) rfl rfl Try.func48 (by kernel_rfl) rfl #[.int .i64 (l0.length : Int)] rfl (by (try simp only [List.map_toArray, List.map_cons, List.map_nil]); first | done | rfl | (simp only [List.length_drop, List.length_take]; rfl)) ?_; (with_reducible refine (metrolabref50_Stacks.calls k (l0.length : Int) t233 _ A7.out).mono ?_); rintro e w8 ⟨v234, rfl, ho0, hb⟩; refine ⟨_, rfl, ?_⟩; have n0_ := Aside0.mk (Kd.N_lower (Kd.N_mono (ok' := fun k_ => True) ho0 (fun k_ hk_ => trivial)) (below_size (by repeat (first | (with_reducible first | exact HB.out | apply below_alloc | apply pw_below_drewN | apply below_drew1) | exact HB.out)))); have n1_ := Aside0.mk (below_step (by repeat (first | (with_reducible first | exact HB.out | apply below_alloc | apply pw_below_drewN | apply below_drew1) | exact HB.out)) hb); clear HB; have HO235 := n0_; have HB := n1_; clear n0_ n1_; (try clear hb); (try clear hb2); (try clear hk); (try clear hi); (try clear ho0)))
      go_loopg [7, 9] k (fun kq v7 v9 w' => ∃ (x7_1 : Int) (x9_1 : Int), v7 = .int .i64 x7_1 ∧ v9 = .int .i64 x9_1 ∧ Aside0 (metrolabref50_Count.l0 kq l0 a1 x7_1 t233 x9_1 = some (r1, r2)) ∧ Aside0 (kq ≤ k) ∧ Aside0 (Kd.N (Kd.slice 3 (Kd.int .i64)) 22 w' w.heap.size (fun _ => True) v234 t233) ∧ Aside0 (Below w.heap.size w w'))
      case atStart => exact ⟨(0), (0), (by first | rfl | (simp; done) | (simp [*]; done)), (by first | rfl | (simp; done) | (simp [*]; done)), H', ⟨Nat.le_refl _⟩, ⟨by (with_reducible repeat (first | apply Kd.N_alloc | apply Kd.N_drewN | apply Kd.N_drew)); exact HO235.out⟩, ⟨by repeat (first | (with_reducible first | exact HB.out | apply below_alloc | apply pw_below_drewN | apply below_drew1) | exact HB.out)⟩⟩
      case round =>
        clear H'
        try clear c1
        try clear c2
        try clear p2
        try clear c4
        try clear c4b0
        try clear c4b1
        try clear c6
        obtain ⟨x7_1, x9_1, rfl, rfl, HA, HK1, HO_8, HB⟩ := hrel
        cases gk with
        | zero => exact absurd HA.out (by simp [metrolabref50_Count.l0])
        | succ k1 =>
          have H := HA.out
          clear HA
          simp only [metrolabref50_Count.l0] at H
          by_cases c9 : x9_1 < (t233.length : Int)
          · rw [if_pos c9] at H
            have c9b0 : decide (x9_1 < (t233.length : Int)) = true := decide_eq_true c9
            clear c9
            by_cases c10 : 0 ≤ x9_1
            · rw [if_pos c10] at H
              have c10b0 : decide (0 ≤ x9_1) = true := decide_eq_true c10
              clear c10
              replace H := Option.bind_eq_some_iff.mp H
              obtain ⟨t237, A110, H⟩ := H
              replace H : (if t237 = a1 then (metrolabref50_Count.l0 k1 l0 a1 (wrap64 (x7_1 + 1)) t233 (wrap64 (x9_1 + 1))) else (metrolabref50_Count.l0 k1 l0 a1 x7_1 t233 (wrap64 (x9_1 + 1)))) = some (r1, r2) := H
              have A11 := Aside0.mk A110
              clear A110
              by_cases c12 : t237 = a1
              · rw [if_pos c12] at H
                have c12b0 : (t237 == a1) = true := beq_iff_eq.mpr c12
                have c12b1 : (t237 != a1) = false := bne_eq_false_iff_eq.mpr c12
                clear c12
                have H' := Aside0.mk H
                clear H
                obtain ⟨Ao13, co13, eo13⟩ := Kd.N_slice HO_8.out
                subst eo13
                have p236 : 0 ≤ (x9_1 : Int) := of_decide_eq_true (by first | (with_reducible assumption) | assumption)
                have q236 : x9_1 < (t233.length : Int) := of_decide_eq_true (by first | (with_reducible assumption) | assumption)
                obtain ⟨ad236, A236_0, c236_0, e236, hx236_0, hl236_0, hi236_0⟩ := at_L1 (Kd.N_reads' HO_8.out).2.2 x9_1 p236 q236
                cases e236
                obtain ⟨ce236, hce236, hMe236, hcc236⟩ := Kd.N_get HO_8.out [] x9_1 p236 (by first | exact q236 | exact of_decide_eq_true (by first | (with_reducible assumption) | assumption) | (have e_ := (Kd.N_reads' HO_8.out).1; omega))
                obtain ⟨ua236_0, uc236_0, rfl, ul236_0, ge236_0⟩ := Kd.FK_slice_open hMe236
                have hv236_0 := hcc236 0 _ rfl
                rw [Nat.add_zero, show ((Kd.slice 3 (Kd.int .i64))).sz = 1 from rfl, Nat.mul_one] at hv236_0
                replace hv236_0 := Option.some.inj (hv236_0.symm.trans hx236_0)
                injection hv236_0 with hva_ hvn_ hvc_
                rw [hva_] at ge236_0
                rw [hvc_] at ul236_0
                have HL236_0 := Aside0.mk (show Kd.V (Kd.int .i64) 3 _ w.heap.size _ _ (rd_L1 t233 x9_1) from Kd.V_mk ul236_0 ge236_0)
                clear hva_ hvn_ hvc_ ge236_0 ul236_0
                clear hcc236 hce236
                have HR236_0 := Aside0.mk hi236_0
                have HC236_0 := Aside0.mk hl236_0
                clear hi236_0 hl236_0
                replace p236 := eq_true p236
                replace q236 := eq_true q236
                go_wp2_with (first | ((with_reducible refine gate_callee (f := 24) rfl ?_); refine goesL_ (some 32) rfl rfl Try.func24 (by kernel_rfl) rfl #[.slice A0 l0.length c0, .slice A236_0 (rd_L1 t233 x9_1).length c236_0] rfl (by (try simp only [List.map_toArray, List.map_cons, List.map_nil]); first | done | rfl | (simp only [List.length_drop, List.length_take]; rfl)) ?_; (with_reducible refine (metrolabref50_Total.calls k1 _ _ l0 _ _ (rd_L1 t233 x9_1) t237 _ ?side1 ?side2 ?side3 ?side4 A11.out).mono ?_); (case side1 => repeat (first | exact (Kd.C_below HR0.out HB.out) | (with_reducible refine Kd.C_alloc ?_ _) | (with_reducible refine Kd.C_drewN ?_ _) | (with_reducible refine Kd.C_drew ?_))); (case side2 => exact HC0.out); (case side3 => repeat (first | exact (by repeat (first | (with_reducible exact HR236_0.out) | (with_reducible refine Kd.C_alloc ?_ _) | (with_reducible refine Kd.C_drewN ?_ _) | (with_reducible refine Kd.C_drew ?_) | exact HR236_0.out)) | (with_reducible refine Kd.C_alloc ?_ _) | (with_reducible refine Kd.C_drewN ?_ _) | (with_reducible refine Kd.C_drew ?_))); (case side4 => exact HC236_0.out); rintro e w' ⟨rfl, ⟨nd, rfl⟩⟩; refine ⟨_, rfl, ?_⟩))
                go_roundg k1
                case measure => have := HK1.out; omega
                case rel => exact ⟨(wrap64 (x7_1 + 1)), (wrap64 (x9_1 + 1)), (by first | rfl | (simp; done) | (simp [*]; done)), (by first | rfl | (simp; done) | (simp [*]; done)), H', ⟨by have := HK1.out; omega⟩, ⟨by (with_reducible repeat (first | apply Kd.N_alloc | apply Kd.N_drewN | apply Kd.N_drew)); exact HO_8.out⟩, ⟨by repeat (first | (with_reducible first | exact HB.out | apply below_alloc | apply pw_below_drewN | apply below_drew1) | exact HB.out)⟩⟩
              · rw [if_neg c12] at H
                have c12b0 : (t237 == a1) = false := beq_eq_false_iff_ne.mpr c12
                have c12b1 : (t237 != a1) = true := bne_iff_ne.mpr c12
                have H' := Aside0.mk H
                clear H
                obtain ⟨Ao14, co14, eo14⟩ := Kd.N_slice HO_8.out
                subst eo14
                have p236 : 0 ≤ (x9_1 : Int) := of_decide_eq_true (by first | (with_reducible assumption) | assumption)
                have q236 : x9_1 < (t233.length : Int) := of_decide_eq_true (by first | (with_reducible assumption) | assumption)
                obtain ⟨ad236, A236_0, c236_0, e236, hx236_0, hl236_0, hi236_0⟩ := at_L1 (Kd.N_reads' HO_8.out).2.2 x9_1 p236 q236
                cases e236
                obtain ⟨ce236, hce236, hMe236, hcc236⟩ := Kd.N_get HO_8.out [] x9_1 p236 (by first | exact q236 | exact of_decide_eq_true (by first | (with_reducible assumption) | assumption) | (have e_ := (Kd.N_reads' HO_8.out).1; omega))
                obtain ⟨ua236_0, uc236_0, rfl, ul236_0, ge236_0⟩ := Kd.FK_slice_open hMe236
                have hv236_0 := hcc236 0 _ rfl
                rw [Nat.add_zero, show ((Kd.slice 3 (Kd.int .i64))).sz = 1 from rfl, Nat.mul_one] at hv236_0
                replace hv236_0 := Option.some.inj (hv236_0.symm.trans hx236_0)
                injection hv236_0 with hva_ hvn_ hvc_
                rw [hva_] at ge236_0
                rw [hvc_] at ul236_0
                have HL236_0 := Aside0.mk (show Kd.V (Kd.int .i64) 3 _ w.heap.size _ _ (rd_L1 t233 x9_1) from Kd.V_mk ul236_0 ge236_0)
                clear hva_ hvn_ hvc_ ge236_0 ul236_0
                clear hcc236 hce236
                have HR236_0 := Aside0.mk hi236_0
                have HC236_0 := Aside0.mk hl236_0
                clear hi236_0 hl236_0
                replace p236 := eq_true p236
                replace q236 := eq_true q236
                go_wp2_with (first | ((with_reducible refine gate_callee (f := 24) rfl ?_); refine goesL_ (some 32) rfl rfl Try.func24 (by kernel_rfl) rfl #[.slice A0 l0.length c0, .slice A236_0 (rd_L1 t233 x9_1).length c236_0] rfl (by (try simp only [List.map_toArray, List.map_cons, List.map_nil]); first | done | rfl | (simp only [List.length_drop, List.length_take]; rfl)) ?_; (with_reducible refine (metrolabref50_Total.calls k1 _ _ l0 _ _ (rd_L1 t233 x9_1) t237 _ ?side1 ?side2 ?side3 ?side4 A11.out).mono ?_); (case side1 => repeat (first | exact (Kd.C_below HR0.out HB.out) | (with_reducible refine Kd.C_alloc ?_ _) | (with_reducible refine Kd.C_drewN ?_ _) | (with_reducible refine Kd.C_drew ?_))); (case side2 => exact HC0.out); (case side3 => repeat (first | exact (by repeat (first | (with_reducible exact HR236_0.out) | (with_reducible refine Kd.C_alloc ?_ _) | (with_reducible refine Kd.C_drewN ?_ _) | (with_reducible refine Kd.C_drew ?_) | exact HR236_0.out)) | (with_reducible refine Kd.C_alloc ?_ _) | (with_reducible refine Kd.C_drewN ?_ _) | (with_reducible refine Kd.C_drew ?_))); (case side4 => exact HC236_0.out); rintro e w' ⟨rfl, ⟨nd, rfl⟩⟩; refine ⟨_, rfl, ?_⟩))
                go_roundg k1
                case measure => have := HK1.out; omega
                case rel => exact ⟨(x7_1), (wrap64 (x9_1 + 1)), (by first | rfl | (simp; done) | (simp [*]; done)), (by first | rfl | (simp; done) | (simp [*]; done)), H', ⟨by have := HK1.out; omega⟩, ⟨by (with_reducible repeat (first | apply Kd.N_alloc | apply Kd.N_drewN | apply Kd.N_drew)); exact HO_8.out⟩, ⟨by repeat (first | (with_reducible first | exact HB.out | apply below_alloc | apply pw_below_drewN | apply below_drew1) | exact HB.out)⟩⟩
            · rw [if_neg c10] at H
              exact absurd H (by simp)
          · rw [if_neg c9] at H
            have c9b0 : decide (x9_1 < (t233.length : Int)) = false := decide_eq_false c9
            clear c9
            by_cases c15 : x7_1 > 1048576
            · rw [if_pos c15] at H
              have c15b0 : decide (1048576 < x7_1) = true := decide_eq_true c15
              clear c15
              simp only [Option.some.injEq, Prod.mk.injEq] at H
              obtain ⟨rfl, rfl⟩ := H
              obtain ⟨Ao16, co16, eo16⟩ := Kd.N_slice HO_8.out
              subst eo16
              go_wp2
              go_ret2
              exact ⟨by first | rfl | (simp [errW_none, errW_some] <;> rfl) | (simp [*, errW_none, errW_some] <;> rfl), by repeat (first | (with_reducible first | exact HB.out | apply below_alloc | apply pw_below_drewN | apply below_drew1) | exact HB.out)⟩
            · rw [if_neg c15] at H
              have c15b0 : decide (1048576 < x7_1) = false := decide_eq_false c15
              clear c15
              simp only [Option.some.injEq, Prod.mk.injEq] at H
              obtain ⟨rfl, rfl⟩ := H
              obtain ⟨Ao17, co17, eo17⟩ := Kd.N_slice HO_8.out
              subst eo17
              go_wp2
              go_ret2
              exact ⟨by first | rfl | (simp [errW_none, errW_some] <;> rfl) | (simp [*, errW_none, errW_some] <;> rfl), by repeat (first | (with_reducible first | exact HB.out | apply below_alloc | apply pw_below_drewN | apply below_drew1) | exact HB.out)⟩
    · replace c6 := Bool.eq_false_iff.mpr c6
      subst c6
      have H1 : (some (0, 2)) = some (r1, r2) := by rw [if_neg (show ¬ (false = true) by decide)] at H; exact H
      clear H
      have H := H1
      clear H1
      simp only [Option.some.injEq, Prod.mk.injEq] at H
      obtain ⟨rfl, rfl⟩ := H
      go_enter Try.func19, Try.ntmps19
      go_wp2_with (first | ((with_reducible refine gate_callee (f := 28) rfl ?_); refine goesL_ (some 11) rfl rfl Try.func28 (by kernel_rfl) rfl #[.slice A0 l0.length c0] rfl (by (try simp only [List.map_toArray, List.map_cons, List.map_nil]); first | done | rfl | (simp only [List.length_drop, List.length_take]; rfl)) ?_; (with_reducible refine (metrolabref50_Check.calls k _ _ l0 t231 _ ?side1 ?side2 A3.out).mono ?_); (case side1 => repeat (first | exact HR0.out | (with_reducible refine Kd.C_alloc ?_ _) | (with_reducible refine Kd.C_drewN ?_ _) | (with_reducible refine Kd.C_drew ?_))); (case side2 => exact HC0.out); rintro e w' ⟨rfl, ⟨nd, rfl⟩⟩; refine ⟨_, rfl, ?_⟩) | ((with_reducible refine gate_callee (f := 40) rfl ?_); refine goesL_ (some 16) rfl rfl Try.func40 (by kernel_rfl) rfl #[.int .i64 a1] rfl (by (try simp only [List.map_toArray, List.map_cons, List.map_nil]); first | done | rfl | (simp only [List.length_drop, List.length_take]; rfl)) ?_; (with_reducible refine (metrolabref50_inside.calls a1 false _ A5.out).mono ?_); rintro e w' ⟨rfl, ⟨nd, rfl⟩⟩; refine ⟨_, rfl, ?_⟩))
      go_ret2
      exact ⟨by first | rfl | (simp [errW_none, errW_some] <;> rfl) | (simp [*, errW_none, errW_some] <;> rfl), by repeat (first | (with_reducible first | exact HB.out | apply below_alloc | apply pw_below_drewN | apply below_drew1) | exact HB.out)⟩
  · rw [if_neg c4] at H
    have c4b0 : (t231 == 0) = false := beq_eq_false_iff_ne.mpr c4
    have c4b1 : (t231 != 0) = true := bne_iff_ne.mpr c4
    simp only [Option.some.injEq, Prod.mk.injEq] at H
    obtain ⟨rfl, rfl⟩ := H
    go_enter Try.func19, Try.ntmps19
    go_wp2_with (first | ((with_reducible refine gate_callee (f := 28) rfl ?_); refine goesL_ (some 11) rfl rfl Try.func28 (by kernel_rfl) rfl #[.slice A0 l0.length c0] rfl (by (try simp only [List.map_toArray, List.map_cons, List.map_nil]); first | done | rfl | (simp only [List.length_drop, List.length_take]; rfl)) ?_; (with_reducible refine (metrolabref50_Check.calls k _ _ l0 t231 _ ?side1 ?side2 A3.out).mono ?_); (case side1 => repeat (first | exact HR0.out | (with_reducible refine Kd.C_alloc ?_ _) | (with_reducible refine Kd.C_drewN ?_ _) | (with_reducible refine Kd.C_drew ?_))); (case side2 => exact HC0.out); rintro e w' ⟨rfl, ⟨nd, rfl⟩⟩; refine ⟨_, rfl, ?_⟩))
    go_ret2
    exact ⟨by first | rfl | (simp [errW_none, errW_some] <;> rfl) | (simp [*, errW_none, errW_some] <;> rfl), by repeat (first | (with_reducible first | exact HB.out | apply below_alloc | apply pw_below_drewN | apply below_drew1) | exact HB.out)⟩

end Go.Proofs.Ytgkgeodphgfgnaa.Pr
-- Printed for this claim by a program of this session, over the kit's printer. Not trusted: Lean checks it.
namespace Go.Proofs.Ytgkgeodphgfgnaa.Pr
open Go.RowKit Go.Proofs.YtgkgeodphgfgnaaW.PrintWords Go.Proofs.YtgkgeodphgfgnaaW.PrintLast Go.Proofs.YtgkgeodphgfgnaaW.PrintMore
attribute [local go_sem] max2_int min2_int max_two min_two max_three min_three max_four min_four
set_option linter.unusedVariables false
set_option linter.unusedSimpArgs false

/-! ### metrolabref50_Added: function 31 -/
mutual
def metrolabref50_Added.l0 : Nat → List Int → Int → List Int → Bool → Int → Option (List Int)
  | 0, _, _, _, _, _ => none
  | k + 1, x0, x1, x5, x6, x7 => if x7 < (x0.length : Int) then (if x6 = true then (metrolabref50_Added.j1 k x0 x1 x5 x6 x7 false) else (if 0 ≤ x7 then (metrolabref50_Added.j1 k x0 x1 x5 x6 x7 (decide ((rd x0 x7) ≥ x1))) else (none))) else (if x6 = true then (some x5) else (if x5.length < 17592186044416 then (some (x5 ++ [x1])) else (none)))
def metrolabref50_Added.j1 : Nat → List Int → Int → List Int → Bool → Int → Bool → Option (List Int)
  | 0, _, _, _, _, _, _ => none
  | k + 1, x0, x1, x5, x6, x7, x23 => if x23 = true then (if x5.length < 17592186044416 then ((some (x5 ++ [x1] : List Int)).bind fun y242 => (if 0 ≤ x7 then (if x7 < (x0.length : Int) then (if (rd x0 x7) = x1 then (metrolabref50_Added.l0 k x0 x1 y242 true (wrap64 (x7 + 1))) else (if y242.length < 17592186044416 then (metrolabref50_Added.l0 k x0 x1 (y242 ++ [rd x0 x7]) true (wrap64 (x7 + 1))) else (none))) else (none)) else (none))) else (none)) else (if 0 ≤ x7 then (if x7 < (x0.length : Int) then (if (rd x0 x7) = x1 then (metrolabref50_Added.l0 k x0 x1 x5 x6 (wrap64 (x7 + 1))) else (if x5.length < 17592186044416 then (metrolabref50_Added.l0 k x0 x1 (x5 ++ [rd x0 x7]) x6 (wrap64 (x7 + 1))) else (none))) else (none)) else (none))
end
def metrolabref50_Added.f (k : Nat) (l0 : List Int) (a1 : Int) : Option (List Int) := metrolabref50_Added.l0 k l0 a1 ([] : List Int) false 0
theorem metrolabref50_Added.mono_l : ∀ k, (∀ y0 y1 y2 y3 y4, LeO (metrolabref50_Added.l0 k y0 y1 y2 y3 y4) (metrolabref50_Added.l0 (k + 1) y0 y1 y2 y3 y4)) ∧ (∀ y0 y1 y2 y3 y4 y5, LeO (metrolabref50_Added.j1 k y0 y1 y2 y3 y4 y5) (metrolabref50_Added.j1 (k + 1) y0 y1 y2 y3 y4 y5))
  | 0 => ⟨fun _ _ _ _ _ r h => by simp [metrolabref50_Added.l0] at h, fun _ _ _ _ _ _ r h => by simp [metrolabref50_Added.j1] at h⟩
  | k + 1 => by
    obtain ⟨ih0, ih1⟩ := metrolabref50_Added.mono_l k
    refine ⟨?_, ?_⟩
    · intro y0 y1 y2 y3 y4
      unfold metrolabref50_Added.l0
      repeat' first
      | (with_reducible exact ih0 _ _ _ _ _)
      | (with_reducible exact ih1 _ _ _ _ _ _)
      | (with_reducible exact LeO.refl _)
      | (with_reducible exact LeO.none _)
      | (with_reducible refine LeO.ite ?_ ?_)
      | (with_reducible refine LeO.bind ?_ (fun _ => ?_))
      | exact ih0 _ _ _ _ _
      | exact ih1 _ _ _ _ _ _
      | exact LeO.none _
      | refine LeO.ite ?_ ?_
      | refine LeO.bind ?_ (fun _ => ?_)
    · intro y0 y1 y2 y3 y4 y5
      unfold metrolabref50_Added.j1
      repeat' first
      | (with_reducible exact ih0 _ _ _ _ _)
      | (with_reducible exact ih1 _ _ _ _ _ _)
      | (with_reducible exact LeO.refl _)
      | (with_reducible exact LeO.none _)
      | (with_reducible refine LeO.ite ?_ ?_)
      | (with_reducible refine LeO.bind ?_ (fun _ => ?_))
      | exact ih0 _ _ _ _ _
      | exact ih1 _ _ _ _ _ _
      | exact LeO.none _
      | refine LeO.ite ?_ ?_
      | refine LeO.bind ?_ (fun _ => ?_)
theorem metrolabref50_Added.mono : ∀ a0 a1 k, LeO (metrolabref50_Added.f k a0 a1) (metrolabref50_Added.f (k + 1) a0 a1) := by
  intro a0 a1 k
  obtain ⟨ih0, ih1⟩ := metrolabref50_Added.mono_l k
  unfold metrolabref50_Added.f
  repeat' first
      | (with_reducible exact ih0 _ _ _ _ _)
      | (with_reducible exact ih1 _ _ _ _ _ _)
      | (with_reducible exact LeO.refl _)
      | (with_reducible exact LeO.none _)
      | (with_reducible refine LeO.ite ?_ ?_)
      | (with_reducible refine LeO.bind ?_ (fun _ => ?_))
      | exact ih0 _ _ _ _ _
      | exact ih1 _ _ _ _ _ _
      | exact LeO.none _
      | refine LeO.ite ?_ ?_
      | refine LeO.bind ?_ (fun _ => ?_)
set_option maxHeartbeats 8000000 in
set_option maxRecDepth 100000 in
theorem metrolabref50_Added.calls (k : Nat) (A0 : Option Addr) (c0 : Nat) (l0 : List Int) (a1 : Int) (r : List Int) (w : World) (hr0 : Kd.C (Kd.int .i64) w A0 l0.length l0) (hc0 : l0.length ≤ c0) (h : metrolabref50_Added.f k l0 a1 = some r) :
    Calls Try.prog 31 #[.slice A0 l0.length c0, .int .i64 a1] w fun e w' => ∃ v0_ : Value, e = .returned (v0_) ∧ Kd.R (Kd.int .i64) 3 w' w.heap.size (fun _ => True) v0_ r ∧ Below w.heap.size w w' := by
  have HR0 := Aside0.mk hr0
  have HC0 := Aside0.mk hc0
  clear hr0 hc0
  have HB := Aside0.mk (Below.refl w.heap.size w)
  have H : (metrolabref50_Added.l0 k l0 a1 ([] : List Int) false 0) = some r := h
  clear h
  have H' := Aside0.mk H
  clear H
  go_enter Try.func31, Try.ntmps31
  go_wp2
  go_loopg [5, 6, 7] k (fun kq v5 v6 v7 w' => ∃ (x5_1 : List Int) (x6_1 : Bool) (x7_1 : Int), v6 = .bool x6_1 ∧ v7 = .int .i64 x7_1 ∧ Aside0 (metrolabref50_Added.l0 kq l0 a1 x5_1 x6_1 x7_1 = some r) ∧ Aside0 (kq ≤ k) ∧ Aside0 (Kd.R (Kd.int .i64) 3 w' w.heap.size (fun _ => True) v5 x5_1) ∧ Aside0 (Below w.heap.size w w'))
  case atStart => exact ⟨(([] : List Int)), (false), (0), (by first | rfl | (simp; done) | (simp [*]; done)), (by first | rfl | (simp; done) | (simp [*]; done)), H', ⟨Nat.le_refl _⟩, ⟨by first | exact Kd.R_nil _ _ _ _ _ | exact Kd.N_nil _ _ _ _ _ | exact Kd.V_nil _ _ _ _ _ | exact Kd.Q_nil _ _ _ _ _ | exact Kd.S_nil _ _ _ _ _⟩, ⟨by repeat (first | (with_reducible first | exact HB.out | apply below_alloc | apply pw_below_drewN | apply below_drew1) | exact HB.out)⟩⟩
  case round =>
    clear H'
    try clear p2
    obtain ⟨x5_1, x6_1, x7_1, rfl, rfl, HA, HK1, HO_5, HB⟩ := hrel
    cases gk with
    | zero => exact absurd HA.out (by simp [metrolabref50_Added.l0])
    | succ k1 =>
      have H := HA.out
      clear HA
      simp only [metrolabref50_Added.l0] at H
      by_cases c3 : x7_1 < (l0.length : Int)
      · rw [if_pos c3] at H
        have c3b0 : decide (x7_1 < (l0.length : Int)) = true := decide_eq_true c3
        clear c3
        have HC4 := Aside0.mk H
        clear H
        go_upto_region 6 with (fail)
        go_cut [23] (fun v23 wc => ∃ (kq : Nat) (x23_3 : Bool), v23 = .bool x23_3 ∧ Aside0 (metrolabref50_Added.j1 kq l0 a1 x5_1 x6_1 x7_1 x23_3 = some r) ∧ Aside0 (kq ≤ k1) ∧ Aside0 (Kd.R (Kd.int .i64) 3 wc w.heap.size (fun _ => True) u5 x5_1) ∧ Aside0 (Below w.heap.size w wc))
        case first =>
          have H := HC4.out
          clear HC4
          by_cases c5 : x6_1 = true
          · subst c5
            have H1 : (metrolabref50_Added.j1 k1 l0 a1 x5_1 true x7_1 false) = some r := by rw [if_pos rfl] at H; exact H
            clear H
            have H := H1
            clear H1
            have H' := Aside0.mk H
            clear H
            go_wp2
            go_meet
            case rel => exact ⟨_, (false), (by first | rfl | (simp; done) | (simp [*]; done)), H', ⟨by have := HK1.out; first | omega | exact Nat.le_refl _⟩, ⟨by (with_reducible repeat (first | apply Kd.R_alloc | apply Kd.R_drewN | apply Kd.R_drew)); exact HO_5.out⟩, ⟨by repeat (first | (with_reducible first | exact HB.out | apply below_alloc | apply pw_below_drewN | apply below_drew1) | exact HB.out)⟩⟩
          · replace c5 := Bool.eq_false_iff.mpr c5
            subst c5
            have H1 : (if 0 ≤ x7_1 then (metrolabref50_Added.j1 k1 l0 a1 x5_1 false x7_1 (decide ((rd l0 x7_1) ≥ a1))) else (none)) = some r := by rw [if_neg (show ¬ (false = true) by decide)] at H; exact H
            clear H
            have H := H1
            clear H1
            by_cases c6 : 0 ≤ x7_1
            · rw [if_pos c6] at H
              have c6b0 : decide (0 ≤ x7_1) = true := decide_eq_true c6
              clear c6
              (first | rw [c6b0] | (simp only [i64_w, i32_w]; rw [c6b0]) | skip)
              have H' := Aside0.mk H
              clear H
              have p241 : 0 ≤ (x7_1 : Int) := of_decide_eq_true (by first | (with_reducible assumption) | assumption)
              have q241 : x7_1 < (l0.length : Int) := of_decide_eq_true (by first | (with_reducible assumption) | assumption)
              obtain ⟨ad241, e241, hx241_0⟩ := Kd.at_int HR0.out x7_1 p241 q241
              cases e241
              replace hx241_0 := (HB.out.cell (World.block_lt_of_cell? w _ hx241_0)).trans hx241_0
              replace p241 := eq_true p241
              replace q241 := eq_true q241
              go_wp2
              go_meet
              case rel => exact ⟨_, (decide ((rd l0 x7_1) ≥ a1)), (by first | rfl | (simp; done) | (simp [*]; done)), H', ⟨by have := HK1.out; first | omega | exact Nat.le_refl _⟩, ⟨by (with_reducible repeat (first | apply Kd.R_alloc | apply Kd.R_drewN | apply Kd.R_drew)); exact HO_5.out⟩, ⟨by repeat (first | (with_reducible first | exact HB.out | apply below_alloc | apply pw_below_drewN | apply below_drew1) | exact HB.out)⟩⟩
            · rw [if_neg c6] at H
              exact absurd H (by simp)
        case rest =>
          clear HC4
          try clear p2
          try clear q2
          try clear hx2
          try clear c3
          try clear c3b0
          try clear c5
          try clear c6
          try clear c6b0
          try clear hx241_0
          try clear p2
          try clear p241
          try clear q241
          obtain ⟨kq, x23_3, rfl, HA, HJ3, HO_5, HB⟩ := hcut
          cases kq with
          | zero => exact absurd HA.out (by simp [metrolabref50_Added.j1])
          | succ kj3 =>
            have H := HA.out
            clear HA
            simp only [metrolabref50_Added.j1] at H
            by_cases c7 : x23_3 = true
            · subst c7
              have H1 : (if x5_1.length < 17592186044416 then ((some (x5_1 ++ [a1] : List Int)).bind fun y242 => (if 0 ≤ x7_1 then (if x7_1 < (l0.length : Int) then (if (rd l0 x7_1) = a1 then (metrolabref50_Added.l0 kj3 l0 a1 y242 true (wrap64 (x7_1 + 1))) else (if y242.length < 17592186044416 then (metrolabref50_Added.l0 kj3 l0 a1 (y242 ++ [rd l0 x7_1]) true (wrap64 (x7_1 + 1))) else (none))) else (none)) else (none))) else (none)) = some r := by rw [if_pos rfl] at H; exact H
              clear H
              have H := H1
              clear H1
              by_cases c8 : x5_1.length < 17592186044416
              · rw [if_pos c8] at H
                have LMc8 := Aside0.mk c8
                clear c8
                obtain ⟨y242, hy242⟩ : ∃ y_ : List Int, y_ = (x5_1 ++ [a1]) := ⟨_, rfl⟩
                replace H : (if 0 ≤ x7_1 then (if x7_1 < (l0.length : Int) then (if (rd l0 x7_1) = a1 then (metrolabref50_Added.l0 kj3 l0 a1 y242 true (wrap64 (x7_1 + 1))) else (if y242.length < 17592186044416 then (metrolabref50_Added.l0 kj3 l0 a1 (y242 ++ [rd l0 x7_1]) true (wrap64 (x7_1 + 1))) else (none))) else (none)) else (none)) = some r := by first | (rw [hy242]; with_reducible exact H) | (have H2_ := (Option.bind_some _ _).symm.trans H; rw [hy242]; with_reducible exact H2_) | (have H2_ := (Option.bind_some _ _).symm.trans H; with_reducible exact H2_) | with_reducible exact H | (rw [hy242]; exact H) | exact H
                have Ny242 := Aside0.mk hy242
                clear hy242
                by_cases c9 : 0 ≤ x7_1
                · rw [if_pos c9] at H
                  have c9b0 : decide (0 ≤ x7_1) = true := decide_eq_true c9
                  clear c9
                  by_cases c10 : x7_1 < (l0.length : Int)
                  · rw [if_pos c10] at H
                    have c10b0 : decide (x7_1 < (l0.length : Int)) = true := decide_eq_true c10
                    clear c10
                    by_cases c11 : (rd l0 x7_1) = a1
                    · rw [if_pos c11] at H
                      have c11b0 : ((rd l0 x7_1) == a1) = true := beq_iff_eq.mpr c11
                      have c11b1 : ((rd l0 x7_1) != a1) = false := bne_eq_false_iff_eq.mpr c11
                      clear c11
                      have H' := Aside0.mk H
                      clear H
                      go_wp2_with (first | ((with_reducible refine gate_builtin (b := .append) (xs := #[.tmp 24, .tmp 26]) rfl ?_); at_builtin; refine Kd.R_append (Kd.int .i64) (w0 := w) w.heap.size rfl (.tmp 24) (.tmp 26) 22 3 (.int .i64 0) 8 rfl Try.underlying22 info3 rfl (by decide) (by omega) u5 x5_1 a1 [.int .i64 a1] (fun _ => True) (fun _ => False) rfl rfl ?aP (fun _ hk => hk.elim) ?aF ?aO ?aB ?aS ?aL ?_; (case aP => exact rfl); (case aB => exact (by repeat (first | (with_reducible first | exact HB.out | apply below_alloc | apply pw_below_drewN | apply below_drew1) | exact HB.out))); (case aF => exact (fun _ _ => trivial)); (case aO => exact (by (with_reducible repeat (first | apply Kd.R_alloc | apply Kd.R_drewN | apply Kd.R_drew)); exact HO_5.out)); (case aS => exact (below_size (by repeat (first | (with_reducible first | exact HB.out | apply below_alloc | apply pw_below_drewN | apply below_drew1) | exact HB.out)))); (case aL => have := LMc8.out; omega); intro v243 w12 ho hb hg hat; rw [← Ny242.out] at ho; have n0_ := Aside0.mk (hb); have n1_ := Aside0.mk (ho); clear HB; clear HO_5; have HB := n0_; have HO244 := n1_; clear n0_ n1_; clear ho hb hg hat; have p245 : 0 ≤ (x7_1 : Int) := of_decide_eq_true (by first | (with_reducible assumption) | assumption); have q245 : x7_1 < (l0.length : Int) := of_decide_eq_true (by first | (with_reducible assumption) | assumption); obtain ⟨ad245, e245, hx245_0⟩ := Kd.at_int HR0.out x7_1 p245 q245; cases e245; replace hx245_0 := (HB.out.cell (World.block_lt_of_cell? w _ hx245_0)).trans hx245_0; replace p245 := eq_true p245; replace q245 := eq_true q245))
                      go_roundg kj3
                      case measure => have := HK1.out; have := HJ3.out; omega
                      case rel => exact ⟨(y242), (true), (wrap64 (x7_1 + 1)), (by first | rfl | (simp; done) | (simp [*]; done)), (by first | rfl | (simp; done) | (simp [*]; done)), H', ⟨by have := HK1.out; have := HJ3.out; omega⟩, ⟨by (with_reducible repeat (first | apply Kd.R_alloc | apply Kd.R_drewN | apply Kd.R_drew)); exact HO244.out⟩, ⟨by repeat (first | (with_reducible first | exact HB.out | apply below_alloc | apply pw_below_drewN | apply below_drew1) | exact HB.out)⟩⟩
                    · rw [if_neg c11] at H
                      have c11b0 : ((rd l0 x7_1) == a1) = false := beq_eq_false_iff_ne.mpr c11
                      have c11b1 : ((rd l0 x7_1) != a1) = true := bne_iff_ne.mpr c11
                      by_cases c13 : y242.length < 17592186044416
                      · rw [if_pos c13] at H
                        have LMc13 := Aside0.mk c13
                        clear c13
                        obtain ⟨y247, hy247⟩ : ∃ y_ : List Int, y_ = (y242 ++ [rd l0 x7_1]) := ⟨_, rfl⟩
                        replace H : (metrolabref50_Added.l0 kj3 l0 a1 y247 true (wrap64 (x7_1 + 1))) = some r := by first | (rw [hy247]; with_reducible exact H) | (have H2_ := (Option.bind_some _ _).symm.trans H; rw [hy247]; with_reducible exact H2_) | (have H2_ := (Option.bind_some _ _).symm.trans H; with_reducible exact H2_) | with_reducible exact H | (rw [hy247]; exact H) | exact H
                        have Ny247 := Aside0.mk hy247
                        clear hy247
                        have H' := Aside0.mk H
                        clear H
                        go_wp2_with (first | ((with_reducible refine gate_builtin (b := .append) (xs := #[.tmp 24, .tmp 26]) rfl ?_); at_builtin; refine Kd.R_append (Kd.int .i64) (w0 := w) w.heap.size rfl (.tmp 24) (.tmp 26) 22 3 (.int .i64 0) 8 rfl Try.underlying22 info3 rfl (by decide) (by omega) u5 x5_1 a1 [.int .i64 a1] (fun _ => True) (fun _ => False) rfl rfl ?aP (fun _ hk => hk.elim) ?aF ?aO ?aB ?aS ?aL ?_; (case aP => exact rfl); (case aB => exact (by repeat (first | (with_reducible first | exact HB.out | apply below_alloc | apply pw_below_drewN | apply below_drew1) | exact HB.out))); (case aF => exact (fun _ _ => trivial)); (case aO => exact (by (with_reducible repeat (first | apply Kd.R_alloc | apply Kd.R_drewN | apply Kd.R_drew)); exact HO_5.out)); (case aS => exact (below_size (by repeat (first | (with_reducible first | exact HB.out | apply below_alloc | apply pw_below_drewN | apply below_drew1) | exact HB.out)))); (case aL => have := LMc8.out; omega); intro v243 w14 ho hb hg hat; rw [← Ny242.out] at ho; have n0_ := Aside0.mk (hb); have n1_ := Aside0.mk (ho); clear HB; clear HO_5; have HB := n0_; have HO244 := n1_; clear n0_ n1_; clear ho hb hg hat; have p245 : 0 ≤ (x7_1 : Int) := of_decide_eq_true (by first | (with_reducible assumption) | assumption); have q245 : x7_1 < (l0.length : Int) := of_decide_eq_true (by first | (with_reducible assumption) | assumption); obtain ⟨ad245, e245, hx245_0⟩ := Kd.at_int HR0.out x7_1 p245 q245; cases e245; replace hx245_0 := (HB.out.cell (World.block_lt_of_cell? w _ hx245_0)).trans hx245_0; replace p245 := eq_true p245; replace q245 := eq_true q245; have p246 : 0 ≤ (x7_1 : Int) := of_decide_eq_true (by first | (with_reducible assumption) | assumption); have q246 : x7_1 < (l0.length : Int) := of_decide_eq_true (by first | (with_reducible assumption) | assumption); obtain ⟨ad246, e246, hx246_0⟩ := Kd.at_int HR0.out x7_1 p246 q246; obtain rfl : ad245 = ad246 := (by injection e246); replace hx246_0 := (HB.out.cell (World.block_lt_of_cell? w _ hx246_0)).trans hx246_0; replace p246 := eq_true p246; replace q246 := eq_true q246) | ((with_reducible refine gate_builtin (b := .append) (xs := #[.tmp 34, .tmp 39]) rfl ?_); at_builtin; refine Kd.R_append (Kd.int .i64) (w0 := w) w.heap.size rfl (.tmp 34) (.tmp 39) 22 3 (.int .i64 0) 8 rfl Try.underlying22 info3 rfl (by decide) (by omega) v243 y242 (rd l0 x7_1) [.int .i64 (rd l0 x7_1)] (fun _ => True) (fun _ => False) rfl rfl ?aP (fun _ hk => hk.elim) ?aF ?aO ?aB ?aS ?aL ?_; (case aP => exact rfl); (case aB => exact (by repeat (first | (with_reducible first | exact HB.out | apply below_alloc | apply pw_below_drewN | apply below_drew1) | exact HB.out))); (case aF => exact (fun _ _ => trivial)); (case aO => exact (by (with_reducible repeat (first | apply Kd.R_alloc | apply Kd.R_drewN | apply Kd.R_drew)); exact HO244.out)); (case aS => exact (below_size (by repeat (first | (with_reducible first | exact HB.out | apply below_alloc | apply pw_below_drewN | apply below_drew1) | exact HB.out)))); (case aL => have := LMc13.out; omega); intro v248 w15 ho hb hg hat; rw [← Ny247.out] at ho; have n0_ := Aside0.mk (hb); have n1_ := Aside0.mk (ho); clear HB; clear HO244; have HB := n0_; have HO249 := n1_; clear n0_ n1_; clear ho hb hg hat))
                        go_roundg kj3
                        case measure => have := HK1.out; have := HJ3.out; omega
                        case rel => exact ⟨(y247), (true), (wrap64 (x7_1 + 1)), (by first | rfl | (simp; done) | (simp [*]; done)), (by first | rfl | (simp; done) | (simp [*]; done)), H', ⟨by have := HK1.out; have := HJ3.out; omega⟩, ⟨by (with_reducible repeat (first | apply Kd.R_alloc | apply Kd.R_drewN | apply Kd.R_drew)); exact HO249.out⟩, ⟨by repeat (first | (with_reducible first | exact HB.out | apply below_alloc | apply pw_below_drewN | apply below_drew1) | exact HB.out)⟩⟩
                      · rw [if_neg c13] at H
                        exact absurd H (by simp)
                  · rw [if_neg c10] at H
                    exact absurd H (by simp)
                · rw [if_neg c9] at H
                  exact absurd H (by simp)
              · rw [if_neg c8] at H
                exact absurd H (by simp)
            · replace c7 := Bool.eq_false_iff.mpr c7
              subst c7
              have H1 : (if 0 ≤ x7_1 then (if x7_1 < (l0.length : Int) then (if (rd l0 x7_1) = a1 then (metrolabref50_Added.l0 kj3 l0 a1 x5_1 x6_1 (wrap64 (x7_1 + 1))) else (if x5_1.length < 17592186044416 then (metrolabref50_Added.l0 kj3 l0 a1 (x5_1 ++ [rd l0 x7_1]) x6_1 (wrap64 (x7_1 + 1))) else (none))) else (none)) else (none)) = some r := by rw [if_neg (show ¬ (false = true) by decide)] at H; exact H
              clear H
              have H := H1
              clear H1
              by_cases c16 : 0 ≤ x7_1
              · rw [if_pos c16] at H
                have c16b0 : decide (0 ≤ x7_1) = true := decide_eq_true c16
                clear c16
                by_cases c17 : x7_1 < (l0.length : Int)
                · rw [if_pos c17] at H
                  have c17b0 : decide (x7_1 < (l0.length : Int)) = true := decide_eq_true c17
                  clear c17
                  by_cases c18 : (rd l0 x7_1) = a1
                  · rw [if_pos c18] at H
                    have c18b0 : ((rd l0 x7_1) == a1) = true := beq_iff_eq.mpr c18
                    have c18b1 : ((rd l0 x7_1) != a1) = false := bne_eq_false_iff_eq.mpr c18
                    clear c18
                    have H' := Aside0.mk H
                    clear H
                    have p250 : 0 ≤ (x7_1 : Int) := of_decide_eq_true (by first | (with_reducible assumption) | assumption)
                    have q250 : x7_1 < (l0.length : Int) := of_decide_eq_true (by first | (with_reducible assumption) | assumption)
                    obtain ⟨ad250, e250, hx250_0⟩ := Kd.at_int HR0.out x7_1 p250 q250
                    cases e250
                    replace hx250_0 := (HB.out.cell (World.block_lt_of_cell? w _ hx250_0)).trans hx250_0
                    replace p250 := eq_true p250
                    replace q250 := eq_true q250
                    go_wp2
                    go_roundg kj3
                    case measure => have := HK1.out; have := HJ3.out; omega
                    case rel => exact ⟨(x5_1), (x6_1), (wrap64 (x7_1 + 1)), (by first | rfl | (simp; done) | (simp [*]; done)), (by first | rfl | (simp; done) | (simp [*]; done)), H', ⟨by have := HK1.out; have := HJ3.out; omega⟩, ⟨by (with_reducible repeat (first | apply Kd.R_alloc | apply Kd.R_drewN | apply Kd.R_drew)); exact HO_5.out⟩, ⟨by repeat (first | (with_reducible first | exact HB.out | apply below_alloc | apply pw_below_drewN | apply below_drew1) | exact HB.out)⟩⟩
                  · rw [if_neg c18] at H
                    have c18b0 : ((rd l0 x7_1) == a1) = false := beq_eq_false_iff_ne.mpr c18
                    have c18b1 : ((rd l0 x7_1) != a1) = true := bne_iff_ne.mpr c18
                    by_cases c19 : x5_1.length < 17592186044416
                    · rw [if_pos c19] at H
                      have LMc19 := Aside0.mk c19
                      clear c19
                      obtain ⟨y252, hy252⟩ : ∃ y_ : List Int, y_ = (x5_1 ++ [rd l0 x7_1]) := ⟨_, rfl⟩
                      replace H : (metrolabref50_Added.l0 kj3 l0 a1 y252 x6_1 (wrap64 (x7_1 + 1))) = some r := by first | (rw [hy252]; with_reducible exact H) | (have H2_ := (Option.bind_some _ _).symm.trans H; rw [hy252]; with_reducible exact H2_) | (have H2_ := (Option.bind_some _ _).symm.trans H; with_reducible exact H2_) | with_reducible exact H | (rw [hy252]; exact H) | exact H
                      have Ny252 := Aside0.mk hy252
                      clear hy252
                      have H' := Aside0.mk H
                      clear H
                      have p250 : 0 ≤ (x7_1 : Int) := of_decide_eq_true (by first | (with_reducible assumption) | assumption)
                      have q250 : x7_1 < (l0.length : Int) := of_decide_eq_true (by first | (with_reducible assumption) | assumption)
                      obtain ⟨ad250, e250, hx250_0⟩ := Kd.at_int HR0.out x7_1 p250 q250
                      cases e250
                      replace hx250_0 := (HB.out.cell (World.block_lt_of_cell? w _ hx250_0)).trans hx250_0
                      replace p250 := eq_true p250
                      replace q250 := eq_true q250
                      have p251 : 0 ≤ (x7_1 : Int) := of_decide_eq_true (by first | (with_reducible assumption) | assumption)
                      have q251 : x7_1 < (l0.length : Int) := of_decide_eq_true (by first | (with_reducible assumption) | assumption)
                      obtain ⟨ad251, e251, hx251_0⟩ := Kd.at_int HR0.out x7_1 p251 q251
                      obtain rfl : ad250 = ad251 := (by injection e251)
                      replace hx251_0 := (HB.out.cell (World.block_lt_of_cell? w _ hx251_0)).trans hx251_0
                      replace p251 := eq_true p251
                      replace q251 := eq_true q251
                      go_wp2_with (first | ((with_reducible refine gate_builtin (b := .append) (xs := #[.tmp 34, .tmp 39]) rfl ?_); at_builtin; refine Kd.R_append (Kd.int .i64) (w0 := w) w.heap.size rfl (.tmp 34) (.tmp 39) 22 3 (.int .i64 0) 8 rfl Try.underlying22 info3 rfl (by decide) (by omega) u5 x5_1 (rd l0 x7_1) [.int .i64 (rd l0 x7_1)] (fun _ => True) (fun _ => False) rfl rfl ?aP (fun _ hk => hk.elim) ?aF ?aO ?aB ?aS ?aL ?_; (case aP => exact rfl); (case aB => exact (by repeat (first | (with_reducible first | exact HB.out | apply below_alloc | apply pw_below_drewN | apply below_drew1) | exact HB.out))); (case aF => exact (fun _ _ => trivial)); (case aO => exact (by (with_reducible repeat (first | apply Kd.R_alloc | apply Kd.R_drewN | apply Kd.R_drew)); exact HO_5.out)); (case aS => exact (below_size (by repeat (first | (with_reducible first | exact HB.out | apply below_alloc | apply pw_below_drewN | apply below_drew1) | exact HB.out)))); (case aL => have := LMc19.out; omega); intro v253 w20 ho hb hg hat; rw [← Ny252.out] at ho; have n0_ := Aside0.mk (hb); have n1_ := Aside0.mk (ho); clear HB; clear HO_5; have HB := n0_; have HO254 := n1_; clear n0_ n1_; clear ho hb hg hat))
                      go_roundg kj3
                      case measure => have := HK1.out; have := HJ3.out; omega
                      case rel => exact ⟨(y252), (x6_1), (wrap64 (x7_1 + 1)), (by first | rfl | (simp; done) | (simp [*]; done)), (by first | rfl | (simp; done) | (simp [*]; done)), H', ⟨by have := HK1.out; have := HJ3.out; omega⟩, ⟨by (with_reducible repeat (first | apply Kd.R_alloc | apply Kd.R_drewN | apply Kd.R_drew)); exact HO254.out⟩, ⟨by repeat (first | (with_reducible first | exact HB.out | apply below_alloc | apply pw_below_drewN | apply below_drew1) | exact HB.out)⟩⟩
                    · rw [if_neg c19] at H
                      exact absurd H (by simp)
                · rw [if_neg c17] at H
                  exact absurd H (by simp)
              · rw [if_neg c16] at H
                exact absurd H (by simp)
      · rw [if_neg c3] at H
        have c3b0 : decide (x7_1 < (l0.length : Int)) = false := decide_eq_false c3
        clear c3
        by_cases c21 : x6_1 = true
        · subst c21
          have H1 : (some x5_1) = some r := by rw [if_pos rfl] at H; exact H
          clear H
          have H := H1
          clear H1
          obtain rfl := Option.some.inj H
          go_wp2
          go_ret
          exact ⟨_, by first | rfl | (simp [errW_none, errW_some] <;> rfl) | (simp [*, errW_none, errW_some] <;> rfl), by (with_reducible repeat (first | apply Kd.R_alloc | apply Kd.R_drewN | apply Kd.R_drew)); exact HO_5.out, by repeat (first | (with_reducible first | exact HB.out | apply below_alloc | apply pw_below_drewN | apply below_drew1) | exact HB.out)⟩
        · replace c21 := Bool.eq_false_iff.mpr c21
          subst c21
          have H1 : (if x5_1.length < 17592186044416 then (some (x5_1 ++ [a1])) else (none)) = some r := by rw [if_neg (show ¬ (false = true) by decide)] at H; exact H
          clear H
          have H := H1
          clear H1
          by_cases c22 : x5_1.length < 17592186044416
          · rw [if_pos c22] at H
            have LMc22 := Aside0.mk c22
            clear c22
            obtain ⟨y238, hy238⟩ : ∃ y_ : List Int, y_ = (x5_1 ++ [a1]) := ⟨_, rfl⟩
            replace H : (some y238) = some r := by first | (rw [hy238]; with_reducible exact H) | (have H2_ := (Option.bind_some _ _).symm.trans H; rw [hy238]; with_reducible exact H2_) | (have H2_ := (Option.bind_some _ _).symm.trans H; with_reducible exact H2_) | with_reducible exact H | (rw [hy238]; exact H) | exact H
            have Ny238 := Aside0.mk hy238
            clear hy238
            obtain rfl := Option.some.inj H
            go_wp2_with (first | ((with_reducible refine gate_builtin (b := .append) (xs := #[.tmp 43, .tmp 45]) rfl ?_); at_builtin; refine Kd.R_append (Kd.int .i64) (w0 := w) w.heap.size rfl (.tmp 43) (.tmp 45) 22 3 (.int .i64 0) 8 rfl Try.underlying22 info3 rfl (by decide) (by omega) u5 x5_1 a1 [.int .i64 a1] (fun _ => True) (fun _ => False) rfl rfl ?aP (fun _ hk => hk.elim) ?aF ?aO ?aB ?aS ?aL ?_; (case aP => exact rfl); (case aB => exact (by repeat (first | (with_reducible first | exact HB.out | apply below_alloc | apply pw_below_drewN | apply below_drew1) | exact HB.out))); (case aF => exact (fun _ _ => trivial)); (case aO => exact (by (with_reducible repeat (first | apply Kd.R_alloc | apply Kd.R_drewN | apply Kd.R_drew)); exact HO_5.out)); (case aS => exact (below_size (by repeat (first | (with_reducible first | exact HB.out | apply below_alloc | apply pw_below_drewN | apply below_drew1) | exact HB.out)))); (case aL => have := LMc22.out; omega); intro v239 w23 ho hb hg hat; rw [← Ny238.out] at ho; have n0_ := Aside0.mk (hb); have n1_ := Aside0.mk (ho); clear HB; clear HO_5; have HB := n0_; have HO240 := n1_; clear n0_ n1_; clear ho hb hg hat))
            go_ret
            exact ⟨_, by first | rfl | (simp [errW_none, errW_some] <;> rfl) | (simp [*, errW_none, errW_some] <;> rfl), by (with_reducible repeat (first | apply Kd.R_alloc | apply Kd.R_drewN | apply Kd.R_drew)); exact HO240.out, by repeat (first | (with_reducible first | exact HB.out | apply below_alloc | apply pw_below_drewN | apply below_drew1) | exact HB.out)⟩
          · rw [if_neg c22] at H
            exact absurd H (by simp)

end Go.Proofs.Ytgkgeodphgfgnaa.Pr
-- Printed for this claim by a program of this session, over the kit's printer. Not trusted: Lean checks it.
namespace Go.Proofs.Ytgkgeodphgfgnaa.Pr
open Go.RowKit Go.Proofs.YtgkgeodphgfgnaaW.PrintWords Go.Proofs.YtgkgeodphgfgnaaW.PrintLast Go.Proofs.YtgkgeodphgfgnaaW.PrintMore
attribute [local go_sem] max2_int min2_int max_two min_two max_three min_three max_four min_four
set_option linter.unusedVariables false
set_option linter.unusedSimpArgs false

/-! ### metrolabref50_Reach: function 21 -/
mutual
def metrolabref50_Reach.j0 : Nat → List Int → Int → Bool → Option (List Int × Int)
  | 0, _, _, _ => none
  | k + 1, x0, x1, x21 => if x21 = true then (some (([] : List Int), 2)) else ((metrolabref50_Stacks.f k (x0.length : Int)).bind fun t256 => (metrolabref50_Reach.l0 k x0 x1 ([] : List Int) t256 0))
def metrolabref50_Reach.l0 : Nat → List Int → Int → List Int → List (List Int) → Int → Option (List Int × Int)
  | 0, _, _, _, _, _ => none
  | k + 1, x0, x1, x7, x8, x9 => if x9 < (x8.length : Int) then (if 0 ≤ x9 then ((metrolabref50_Total.f k x0 (rd_L1 x8 x9)).bind fun t260 => (if ((rd_L1 x8 x9).length : Int) ≤ x1 then ((metrolabref50_inside.f t260).bind fun t262 => (if t262 = true then ((metrolabref50_Added.f k x7 t260).bind fun t263 => (metrolabref50_Reach.l0 k x0 x1 t263 x8 (wrap64 (x9 + 1)))) else (metrolabref50_Reach.l0 k x0 x1 x7 x8 (wrap64 (x9 + 1))))) else (metrolabref50_Reach.l0 k x0 x1 x7 x8 (wrap64 (x9 + 1))))) else (none)) else (if (x7.length : Int) > 16384 then (some (([] : List Int), 12)) else (some (x7, 0)))
end
def metrolabref50_Reach.f (k : Nat) (l0 : List Int) (a1 : Int) : Option (List Int × Int) := (metrolabref50_Check.f k l0).bind fun t255 => (if t255 = 0 then (if a1 < 1 then (metrolabref50_Reach.j0 k l0 a1 true) else (metrolabref50_Reach.j0 k l0 a1 (decide (a1 > 8)))) else (some (([] : List Int), t255)))
theorem metrolabref50_Reach.mono_l : ∀ k, (∀ y0 y1 y2, LeO (metrolabref50_Reach.j0 k y0 y1 y2) (metrolabref50_Reach.j0 (k + 1) y0 y1 y2)) ∧ (∀ y0 y1 y2 y3 y4, LeO (metrolabref50_Reach.l0 k y0 y1 y2 y3 y4) (metrolabref50_Reach.l0 (k + 1) y0 y1 y2 y3 y4))
  | 0 => ⟨fun _ _ _ r h => by simp [metrolabref50_Reach.j0] at h, fun _ _ _ _ _ r h => by simp [metrolabref50_Reach.l0] at h⟩
  | k + 1 => by
    obtain ⟨ih0, ih1⟩ := metrolabref50_Reach.mono_l k
    refine ⟨?_, ?_⟩
    · intro y0 y1 y2
      unfold metrolabref50_Reach.j0
      repeat' first
      | (with_reducible exact ih0 _ _ _)
      | (with_reducible exact ih1 _ _ _ _ _)
      | (with_reducible exact metrolabref50_Added.mono _ _ _)
      | (with_reducible exact metrolabref50_Check.mono _ _)
      | (with_reducible exact metrolabref50_Stacks.mono _ _)
      | (with_reducible exact metrolabref50_Total.mono _ _ _)
      | (with_reducible exact LeO.refl _)
      | (with_reducible exact LeO.none _)
      | (with_reducible refine LeO.ite ?_ ?_)
      | (with_reducible refine LeO.bind ?_ (fun _ => ?_))
      | exact ih0 _ _ _
      | exact ih1 _ _ _ _ _
      | exact metrolabref50_Added.mono _ _ _
      | exact metrolabref50_Check.mono _ _
      | exact metrolabref50_Stacks.mono _ _
      | exact metrolabref50_Total.mono _ _ _
      | exact LeO.none _
      | refine LeO.ite ?_ ?_
      | refine LeO.bind ?_ (fun _ => ?_)
    · intro y0 y1 y2 y3 y4
      unfold metrolabref50_Reach.l0
      repeat' first
      | (with_reducible exact ih0 _ _ _)
      | (with_reducible exact ih1 _ _ _ _ _)
      | (with_reducible exact metrolabref50_Added.mono _ _ _)
      | (with_reducible exact metrolabref50_Check.mono _ _)
      | (with_reducible exact metrolabref50_Stacks.mono _ _)
      | (with_reducible exact metrolabref50_Total.mono _ _ _)
      | (with_reducible exact LeO.refl _)
      | (with_reducible exact LeO.none _)
      | (with_reducible refine LeO.ite ?_ ?_)
      | (with_reducible refine LeO.bind ?_ (fun _ => ?_))
      | exact ih0 _ _ _
      | exact ih1 _ _ _ _ _
      | exact metrolabref50_Added.mono _ _ _
      | exact metrolabref50_Check.mono _ _
      | exact metrolabref50_Stacks.mono _ _
      | exact metrolabref50_Total.mono _ _ _
      | exact LeO.none _
      | refine LeO.ite ?_ ?_
      | refine LeO.bind ?_ (fun _ => ?_)
theorem metrolabref50_Reach.mono : ∀ a0 a1 k, LeO (metrolabref50_Reach.f k a0 a1) (metrolabref50_Reach.f (k + 1) a0 a1) := by
  intro a0 a1 k
  obtain ⟨ih0, ih1⟩ := metrolabref50_Reach.mono_l k
  unfold metrolabref50_Reach.f
  repeat' first
      | (with_reducible exact ih0 _ _ _)
      | (with_reducible exact ih1 _ _ _ _ _)
      | (with_reducible exact metrolabref50_Added.mono _ _ _)
      | (with_reducible exact metrolabref50_Check.mono _ _)
      | (with_reducible exact metrolabref50_Stacks.mono _ _)
      | (with_reducible exact metrolabref50_Total.mono _ _ _)
      | (with_reducible exact LeO.refl _)
      | (with_reducible exact LeO.none _)
      | (with_reducible refine LeO.ite ?_ ?_)
      | (with_reducible refine LeO.bind ?_ (fun _ => ?_))
      | exact ih0 _ _ _
      | exact ih1 _ _ _ _ _
      | exact metrolabref50_Added.mono _ _ _
      | exact metrolabref50_Check.mono _ _
      | exact metrolabref50_Stacks.mono _ _
      | exact metrolabref50_Total.mono _ _ _
      | exact LeO.none _
      | refine LeO.ite ?_ ?_
      | refine LeO.bind ?_ (fun _ => ?_)
set_option maxHeartbeats 8000000 in
set_option maxRecDepth 100000 in
theorem metrolabref50_Reach.calls (k : Nat) (A0 : Option Addr) (c0 : Nat) (l0 : List Int) (a1 : Int) (r1 : List Int) (r2 : Int) (w : World) (hr0 : Kd.C (Kd.int .i64) w A0 l0.length l0) (hc0 : l0.length ≤ c0) (h : metrolabref50_Reach.f k l0 a1 = some (r1, r2)) :
    Calls Try.prog 21 #[.slice A0 l0.length c0, .int .i64 a1] w fun e w' => ∃ v0_ : Value, e = .returned (.tuple #[v0_, .int .i64 r2]) ∧ Kd.R (Kd.int .i64) 3 w' w.heap.size (fun _ => True) v0_ r1 ∧ Below w.heap.size w w' := by
  have HR0 := Aside0.mk hr0
  have HC0 := Aside0.mk hc0
  clear hr0 hc0
  have HB := Aside0.mk (Below.refl w.heap.size w)
  have H : ((metrolabref50_Check.f k l0).bind fun t255 => (if t255 = 0 then (if a1 < 1 then (metrolabref50_Reach.j0 k l0 a1 true) else (metrolabref50_Reach.j0 k l0 a1 (decide (a1 > 8)))) else (some (([] : List Int), t255)))) = some (r1, r2) := h
  clear h
  replace H := Option.bind_eq_some_iff.mp H
  obtain ⟨t255, A30, H⟩ := H
  replace H : (if t255 = 0 then (if a1 < 1 then (metrolabref50_Reach.j0 k l0 a1 true) else (metrolabref50_Reach.j0 k l0 a1 (decide (a1 > 8)))) else (some (([] : List Int), t255))) = some (r1, r2) := H
  have A3 := Aside0.mk A30
  clear A30
  by_cases c4 : t255 = 0
  · rw [if_pos c4] at H
    have c4b0 : (t255 == 0) = true := beq_iff_eq.mpr c4
    have c4b1 : (t255 != 0) = false := bne_eq_false_iff_eq.mpr c4
    clear c4
    have HC5 := Aside0.mk H
    clear H
    go_enter Try.func21, Try.ntmps21
    go_upto_region 4 with (first | ((with_reducible refine gate_callee (f := 28) rfl ?_); refine goesL_ (some 12) rfl rfl Try.func28 (by kernel_rfl) rfl #[.slice A0 l0.length c0] rfl (by (try simp only [List.map_toArray, List.map_cons, List.map_nil]); first | done | rfl | (simp only [List.length_drop, List.length_take]; rfl)) ?_; (with_reducible refine (metrolabref50_Check.calls k _ _ l0 t255 _ ?side1 ?side2 A3.out).mono ?_); (case side1 => repeat (first | exact HR0.out | (with_reducible refine Kd.C_alloc ?_ _) | (with_reducible refine Kd.C_drewN ?_ _) | (with_reducible refine Kd.C_drew ?_))); (case side2 => exact HC0.out); rintro e w' ⟨rfl, ⟨nd, rfl⟩⟩; refine ⟨_, rfl, ?_⟩))
    (try simp only [Act.put, List.setIfInBounds_toArray, List.set_cons_zero, List.set_cons_succ])
    go_cut [21] (fun v21 wc => ∃ (kq : Nat) (x21_4 : Bool), v21 = .bool x21_4 ∧ Aside0 (metrolabref50_Reach.j0 kq l0 a1 x21_4 = some (r1, r2)) ∧ Aside0 (kq ≤ k) ∧ Aside0 (Below w.heap.size w wc))
    case first =>
      have H := HC5.out
      clear HC5
      by_cases c6 : a1 < 1
      · rw [if_pos c6] at H
        have c6b0 : decide (a1 < 1) = true := decide_eq_true c6
        clear c6
        (first | rw [c6b0] | (simp only [i64_w, i32_w]; rw [c6b0]) | skip)
        have H' := Aside0.mk H
        clear H
        go_wp2
        go_meet
        case rel => exact ⟨_, (true), (by first | rfl | (simp; done) | (simp [*]; done)), H', ⟨by first | omega | exact Nat.le_refl _⟩, ⟨by repeat (first | (with_reducible first | exact HB.out | apply below_alloc | apply pw_below_drewN | apply below_drew1) | exact HB.out)⟩⟩
      · rw [if_neg c6] at H
        have c6b0 : decide (a1 < 1) = false := decide_eq_false c6
        clear c6
        (first | rw [c6b0] | (simp only [i64_w, i32_w]; rw [c6b0]) | skip)
        have H' := Aside0.mk H
        clear H
        go_wp2
        go_meet
        case rel => exact ⟨_, (decide (a1 > 8)), (by first | rfl | (simp; done) | (simp [*]; done)), H', ⟨by first | omega | exact Nat.le_refl _⟩, ⟨by repeat (first | (with_reducible first | exact HB.out | apply below_alloc | apply pw_below_drewN | apply below_drew1) | exact HB.out)⟩⟩
    case rest =>
      clear HC5
      try clear c2
      try clear p2
      try clear c4
      try clear c4b0
      try clear c4b1
      try clear c6
      try clear c6b0
      obtain ⟨kq, x21_4, rfl, HA, HJ4, HB⟩ := hcut
      cases kq with
      | zero => exact absurd HA.out (by simp [metrolabref50_Reach.j0])
      | succ kj4 =>
        have H := HA.out
        clear HA
        simp only [metrolabref50_Reach.j0] at H
        by_cases c7 : x21_4 = true
        · subst c7
          have H1 : (some (([] : List Int), 2)) = some (r1, r2) := by rw [if_pos rfl] at H; exact H
          clear H
          have H := H1
          clear H1
          simp only [Option.some.injEq, Prod.mk.injEq] at H
          obtain ⟨rfl, rfl⟩ := H
          go_wp2
          go_ret2
          exact ⟨_, by first | rfl | (simp [errW_none, errW_some] <;> rfl) | (simp [*, errW_none, errW_some] <;> rfl), by first | exact Kd.R_nil _ _ _ _ _ | exact Kd.N_nil _ _ _ _ _ | exact Kd.V_nil _ _ _ _ _ | exact Kd.Q_nil _ _ _ _ _ | exact Kd.S_nil _ _ _ _ _, by repeat (first | (with_reducible first | exact HB.out | apply below_alloc | apply pw_below_drewN | apply below_drew1) | exact HB.out)⟩
        · replace c7 := Bool.eq_false_iff.mpr c7
          subst c7
          have H1 : ((metrolabref50_Stacks.f kj4 (l0.length : Int)).bind fun t256 => (metrolabref50_Reach.l0 kj4 l0 a1 ([] : List Int) t256 0)) = some (r1, r2) := by rw [if_neg (show ¬ (false = true) by decide)] at H; exact H
          clear H
          have H := H1
          clear H1
          replace H := Option.bind_eq_some_iff.mp H
          obtain ⟨t256, A80, H⟩ := H
          replace H : (metrolabref50_Reach.l0 kj4 l0 a1 ([] : List Int) t256 0) = some (r1, r2) := H
          have A8 := Aside0.mk A80
          clear A80
          have H' := Aside0.mk H
          clear H
          go_wp2_with (first | ((with_reducible refine gate_callee (f := 48) rfl ?_); refine goesL_ (some 24) rfl rfl Try.func48 (by kernel_rfl) rfl #[.int .i64 (l0.length : Int)] rfl (by (try simp only [List.map_toArray, List.map_cons, List.map_nil]); first | done | rfl | (simp only [List.length_drop, List.length_take]; rfl)) ?_; (with_reducible refine (metrolabref50_Stacks.calls kj4 (l0.length : Int) t256 _ A8.out).mono ?_); rintro e w9 ⟨v257, rfl, ho0, hb⟩; refine ⟨_, rfl, ?_⟩; have n0_ := Aside0.mk (Kd.N_lower (Kd.N_mono (ok' := fun k_ => True) ho0 (fun k_ hk_ => trivial)) (below_size (by repeat (first | (with_reducible first | exact HB.out | apply below_alloc | apply pw_below_drewN | apply below_drew1) | exact HB.out)))); have n1_ := Aside0.mk (below_step (by repeat (first | (with_reducible first | exact HB.out | apply below_alloc | apply pw_below_drewN | apply below_drew1) | exact HB.out)) hb); clear HB; have HO258 := n0_; have HB := n1_; clear n0_ n1_; (try clear hb); (try clear hb2); (try clear hk); (try clear hi); (try clear ho0)))
          go_loopg [7, 9] kj4 (fun kq v7 v9 w' => ∃ (x7_2 : List Int) (x9_2 : Int), v9 = .int .i64 x9_2 ∧ Aside0 (metrolabref50_Reach.l0 kq l0 a1 x7_2 t256 x9_2 = some (r1, r2)) ∧ Aside0 (kq ≤ kj4) ∧ Aside0 (Kd.R (Kd.int .i64) 3 w' w.heap.size (fun _ => True) v7 x7_2) ∧ Aside0 (Kd.N (Kd.slice 3 (Kd.int .i64)) 22 w' w.heap.size (fun k_ => some k_ ≠ (v7 : Value).ownBlock) v257 t256) ∧ Aside0 (Below w.heap.size w w'))
          case atStart => exact ⟨(([] : List Int)), (0), (by first | rfl | (simp; done) | (simp [*]; done)), H', ⟨Nat.le_refl _⟩, ⟨by first | exact Kd.R_nil _ _ _ _ _ | exact Kd.N_nil _ _ _ _ _ | exact Kd.V_nil _ _ _ _ _ | exact Kd.Q_nil _ _ _ _ _ | exact Kd.S_nil _ _ _ _ _⟩, ⟨by (with_reducible repeat (first | apply Kd.N_alloc | apply Kd.N_drewN | apply Kd.N_drew)); exact Kd.N_mono HO258.out (fun _ hk => (by simp [Value.ownBlock]))⟩, ⟨by repeat (first | (with_reducible first | exact HB.out | apply below_alloc | apply pw_below_drewN | apply below_drew1) | exact HB.out)⟩⟩
          case round =>
            clear H'
            try clear c2
            try clear p2
            try clear c4
            try clear c4b0
            try clear c4b1
            try clear c6
            try clear c6b0
            try clear c7
            try clear p2
            obtain ⟨x7_2, x9_2, rfl, HA, HK2, HO_7, HO_8, HB⟩ := hrel
            cases gk with
            | zero => exact absurd HA.out (by simp [metrolabref50_Reach.l0])
            | succ k2 =>
              have H := HA.out
              clear HA
              simp only [metrolabref50_Reach.l0] at H
              by_cases c10 : x9_2 < (t256.length : Int)
              · rw [if_pos c10] at H
                have c10b0 : decide (x9_2 < (t256.length : Int)) = true := decide_eq_true c10
                clear c10
                by_cases c11 : 0 ≤ x9_2
                · rw [if_pos c11] at H
                  have c11b0 : decide (0 ≤ x9_2) = true := decide_eq_true c11
                  clear c11
                  replace H := Option.bind_eq_some_iff.mp H
                  obtain ⟨t260, A120, H⟩ := H
                  replace H : (if ((rd_L1 t256 x9_2).length : Int) ≤ a1 then ((metrolabref50_inside.f t260).bind fun t262 => (if t262 = true then ((metrolabref50_Added.f k2 x7_2 t260).bind fun t263 => (metrolabref50_Reach.l0 k2 l0 a1 t263 t256 (wrap64 (x9_2 + 1)))) else (metrolabref50_Reach.l0 k2 l0 a1 x7_2 t256 (wrap64 (x9_2 + 1))))) else (metrolabref50_Reach.l0 k2 l0 a1 x7_2 t256 (wrap64 (x9_2 + 1)))) = some (r1, r2) := H
                  have A12 := Aside0.mk A120
                  clear A120
                  by_cases c13 : ((rd_L1 t256 x9_2).length : Int) ≤ a1
                  · rw [if_pos c13] at H
                    have c13b0 : decide (((rd_L1 t256 x9_2).length : Int) ≤ a1) = true := decide_eq_true c13
                    clear c13
                    replace H := Option.bind_eq_some_iff.mp H
                    obtain ⟨t262, A140, H⟩ := H
                    replace H : (if t262 = true then ((metrolabref50_Added.f k2 x7_2 t260).bind fun t263 => (metrolabref50_Reach.l0 k2 l0 a1 t263 t256 (wrap64 (x9_2 + 1)))) else (metrolabref50_Reach.l0 k2 l0 a1 x7_2 t256 (wrap64 (x9_2 + 1)))) = some (r1, r2) := H
                    have A14 := Aside0.mk A140
                    clear A140
                    by_cases c15 : t262 = true
                    · subst c15
                      have H1 : ((metrolabref50_Added.f k2 x7_2 t260).bind fun t263 => (metrolabref50_Reach.l0 k2 l0 a1 t263 t256 (wrap64 (x9_2 + 1)))) = some (r1, r2) := by rw [if_pos rfl] at H; exact H
                      clear H
                      have H := H1
                      clear H1
                      replace H := Option.bind_eq_some_iff.mp H
                      obtain ⟨t263, A160, H⟩ := H
                      replace H : (metrolabref50_Reach.l0 k2 l0 a1 t263 t256 (wrap64 (x9_2 + 1))) = some (r1, r2) := H
                      have A16 := Aside0.mk A160
                      clear A160
                      have H' := Aside0.mk H
                      clear H
                      obtain ⟨Ao17, co17, eo17⟩ := Kd.N_slice HO_8.out
                      subst eo17
                      have p259 : 0 ≤ (x9_2 : Int) := of_decide_eq_true (by first | (with_reducible assumption) | assumption)
                      have q259 : x9_2 < (t256.length : Int) := of_decide_eq_true (by first | (with_reducible assumption) | assumption)
                      obtain ⟨ad259, A259_0, c259_0, e259, hx259_0, hl259_0, hi259_0⟩ := at_L1 (Kd.N_reads' HO_8.out).2.2 x9_2 p259 q259
                      cases e259
                      obtain ⟨ce259, hce259, hMe259, hcc259⟩ := Kd.N_get HO_8.out [] x9_2 p259 (by first | exact q259 | exact of_decide_eq_true (by first | (with_reducible assumption) | assumption) | (have e_ := (Kd.N_reads' HO_8.out).1; omega))
                      obtain ⟨ua259_0, uc259_0, rfl, ul259_0, ge259_0⟩ := Kd.FK_slice_open hMe259
                      have hv259_0 := hcc259 0 _ rfl
                      rw [Nat.add_zero, show ((Kd.slice 3 (Kd.int .i64))).sz = 1 from rfl, Nat.mul_one] at hv259_0
                      replace hv259_0 := Option.some.inj (hv259_0.symm.trans hx259_0)
                      injection hv259_0 with hva_ hvn_ hvc_
                      rw [hva_] at ge259_0
                      rw [hvc_] at ul259_0
                      have HL259_0 := Aside0.mk (show Kd.V (Kd.int .i64) 3 _ w.heap.size _ _ (rd_L1 t256 x9_2) from Kd.V_mk ul259_0 ge259_0)
                      clear hva_ hvn_ hvc_ ge259_0 ul259_0
                      clear hcc259 hce259
                      have HR259_0 := Aside0.mk hi259_0
                      have HC259_0 := Aside0.mk hl259_0
                      clear hi259_0 hl259_0
                      replace p259 := eq_true p259
                      replace q259 := eq_true q259
                      go_wp2_with (first | ((with_reducible refine gate_callee (f := 24) rfl ?_); refine goesL_ (some 36) rfl rfl Try.func24 (by kernel_rfl) rfl #[.slice A0 l0.length c0, .slice A259_0 (rd_L1 t256 x9_2).length c259_0] rfl (by (try simp only [List.map_toArray, List.map_cons, List.map_nil]); first | done | rfl | (simp only [List.length_drop, List.length_take]; rfl)) ?_; (with_reducible refine (metrolabref50_Total.calls k2 _ _ l0 _ _ (rd_L1 t256 x9_2) t260 _ ?side1 ?side2 ?side3 ?side4 A12.out).mono ?_); (case side1 => repeat (first | exact (Kd.C_below HR0.out HB.out) | (with_reducible refine Kd.C_alloc ?_ _) | (with_reducible refine Kd.C_drewN ?_ _) | (with_reducible refine Kd.C_drew ?_))); (case side2 => exact HC0.out); (case side3 => repeat (first | exact (by repeat (first | (with_reducible exact HR259_0.out) | (with_reducible refine Kd.C_alloc ?_ _) | (with_reducible refine Kd.C_drewN ?_ _) | (with_reducible refine Kd.C_drew ?_) | exact HR259_0.out)) | (with_reducible refine Kd.C_alloc ?_ _) | (with_reducible refine Kd.C_drewN ?_ _) | (with_reducible refine Kd.C_drew ?_))); (case side4 => exact HC259_0.out); rintro e w' ⟨rfl, ⟨nd, rfl⟩⟩; refine ⟨_, rfl, ?_⟩; have p261 : 0 ≤ (x9_2 : Int) := of_decide_eq_true (by first | (with_reducible assumption) | assumption); have q261 : x9_2 < (t256.length : Int) := of_decide_eq_true (by first | (with_reducible assumption) | assumption); obtain ⟨ad261, A261_0, c261_0, e261, hx261_0, hl261_0, hi261_0⟩ := at_L1 (Kd.N_reads' HO_8.out).2.2 x9_2 p261 q261; obtain rfl : ad259 = ad261 := (by injection e261); obtain ⟨ce261, hce261, hMe261, hcc261⟩ := Kd.N_get HO_8.out [] x9_2 p261 (by first | exact q261 | exact of_decide_eq_true (by first | (with_reducible assumption) | assumption) | (have e_ := (Kd.N_reads' HO_8.out).1; omega)); obtain ⟨ua261_0, uc261_0, rfl, ul261_0, ge261_0⟩ := Kd.FK_slice_open hMe261; have hv261_0 := hcc261 0 _ rfl; rw [Nat.add_zero, show ((Kd.slice 3 (Kd.int .i64))).sz = 1 from rfl, Nat.mul_one] at hv261_0; replace hv261_0 := Option.some.inj (hv261_0.symm.trans hx261_0); injection hv261_0 with hva_ hvn_ hvc_; rw [hva_] at ge261_0; rw [hvc_] at ul261_0; have HL261_0 := Aside0.mk (show Kd.V (Kd.int .i64) 3 _ w.heap.size _ _ (rd_L1 t256 x9_2) from Kd.V_mk ul261_0 ge261_0); clear hva_ hvn_ hvc_ ge261_0 ul261_0; clear hcc261 hce261; have HR261_0 := Aside0.mk hi261_0; have HC261_0 := Aside0.mk hl261_0; clear hi261_0 hl261_0; replace p261 := eq_true p261; replace q261 := eq_true q261; have ea_ := Option.some.inj (hx259_0.symm.trans hx261_0); injection ea_ with ea_ en_ ec_; subst ea_; subst ec_; clear en_) | (go_at_call 40; (with_reducible refine (metrolabref50_inside.calls t260 true _ A14.out).mono ?_); rintro e w' ⟨rfl, ⟨nd, rfl⟩⟩; obtain ⟨Ao18, co18, eo18⟩ := Kd.R_slice HO_7.out; subst eo18) | ((with_reducible refine gate_callee (f := 31) rfl ?_); refine goesL_ (some 50) rfl rfl Try.func31 (by kernel_rfl) rfl #[.slice Ao18 x7_2.length co18, .int .i64 t260] rfl (by (try simp only [List.map_toArray, List.map_cons, List.map_nil]); first | done | rfl | (simp only [List.length_drop, List.length_take]; rfl)) ?_; (with_reducible refine (metrolabref50_Added.calls k2 _ _ x7_2 t260 t263 _ ?side1 ?side2 A16.out).mono ?_); (case side1 => repeat (first | exact (Kd.R_reads' HO_7.out).2.2 | (with_reducible refine Kd.C_alloc ?_ _) | (with_reducible refine Kd.C_drewN ?_ _) | (with_reducible refine Kd.C_drew ?_))); (case side2 => exact (Kd.R_reads' HO_7.out).2.1); rintro e w19 ⟨v264, rfl, ho0, hb⟩; refine ⟨_, rfl, ?_⟩; have n0_ := Aside0.mk (Kd.R_elder' (by (with_reducible repeat (first | apply Kd.R_alloc | apply Kd.R_drewN | apply Kd.R_drew)); exact HO_7.out) (Kd.R_base ho0) hb); have n1_ := Aside0.mk (Kd.N_elder' (by (with_reducible repeat (first | apply Kd.N_alloc | apply Kd.N_drewN | apply Kd.N_drew)); exact HO_8.out) (Kd.R_base ho0) hb); have n2_ := Aside0.mk (Kd.V_elder' (by (with_reducible repeat (first | apply Kd.V_alloc | apply Kd.V_drewN | apply Kd.V_drew)); exact HL259_0.out) (Kd.R_base ho0) hb); have n3_ := Aside0.mk (Kd.V_elder' (by (with_reducible repeat (first | apply Kd.V_alloc | apply Kd.V_drewN | apply Kd.V_drew)); exact HL261_0.out) (Kd.R_base ho0) hb); have n4_ := Aside0.mk (Kd.R_lower (Kd.R_new' ho0 (Kd.R_lt (by (with_reducible repeat (first | apply Kd.R_alloc | apply Kd.R_drewN | apply Kd.R_drew)); exact HO_7.out))) (below_size (by repeat (first | (with_reducible first | exact HB.out | apply below_alloc | apply pw_below_drewN | apply below_drew1) | exact HB.out)))); have n5_ := Aside0.mk (Kd.C_below (by repeat (first | (with_reducible exact HR259_0.out) | (with_reducible refine Kd.C_alloc ?_ _) | (with_reducible refine Kd.C_drewN ?_ _) | (with_reducible refine Kd.C_drew ?_) | exact HR259_0.out)) hb); have n6_ := Aside0.mk (Kd.C_below (by repeat (first | (with_reducible exact HR261_0.out) | (with_reducible refine Kd.C_alloc ?_ _) | (with_reducible refine Kd.C_drewN ?_ _) | (with_reducible refine Kd.C_drew ?_) | exact HR261_0.out)) hb); have n7_ := Aside0.mk (below_step (by repeat (first | (with_reducible first | exact HB.out | apply below_alloc | apply pw_below_drewN | apply below_drew1) | exact HB.out)) hb); clear HO_7; clear HO_8; clear HL259_0; clear HL261_0; clear HR259_0; clear HR261_0; clear HB; have HO_7 := n0_; have HO_8 := n1_; have HL259_0 := n2_; have HL261_0 := n3_; have HO265 := n4_; have HR259_0 := n5_; have HR261_0 := n6_; have HB := n7_; clear n0_ n1_ n2_ n3_ n4_ n5_ n6_ n7_; (try clear hb); (try clear hb2); (try clear hk); (try clear hi); (try clear ho0)))
                      go_roundg k2
                      case measure => have := HJ4.out; have := HK2.out; omega
                      case rel => exact ⟨(t263), (wrap64 (x9_2 + 1)), (by first | rfl | (simp; done) | (simp [*]; done)), H', ⟨by have := HJ4.out; have := HK2.out; omega⟩, ⟨by (with_reducible repeat (first | apply Kd.R_alloc | apply Kd.R_drewN | apply Kd.R_drew)); exact Kd.R_mono HO265.out (fun _ hk => trivial)⟩, ⟨by (with_reducible repeat (first | apply Kd.N_alloc | apply Kd.N_drewN | apply Kd.N_drew)); exact Kd.N_mono HO_8.out (fun _ hk => hk.2)⟩, ⟨by repeat (first | (with_reducible first | exact HB.out | apply below_alloc | apply pw_below_drewN | apply below_drew1) | exact HB.out)⟩⟩
                    · replace c15 := Bool.eq_false_iff.mpr c15
                      subst c15
                      have H1 : (metrolabref50_Reach.l0 k2 l0 a1 x7_2 t256 (wrap64 (x9_2 + 1))) = some (r1, r2) := by rw [if_neg (show ¬ (false = true) by decide)] at H; exact H
                      clear H
                      have H := H1
                      clear H1
                      have H' := Aside0.mk H
                      clear H
                      obtain ⟨Ao20, co20, eo20⟩ := Kd.N_slice HO_8.out
                      subst eo20
                      have p259 : 0 ≤ (x9_2 : Int) := of_decide_eq_true (by first | (with_reducible assumption) | assumption)
                      have q259 : x9_2 < (t256.length : Int) := of_decide_eq_true (by first | (with_reducible assumption) | assumption)
                      obtain ⟨ad259, A259_0, c259_0, e259, hx259_0, hl259_0, hi259_0⟩ := at_L1 (Kd.N_reads' HO_8.out).2.2 x9_2 p259 q259
                      cases e259
                      obtain ⟨ce259, hce259, hMe259, hcc259⟩ := Kd.N_get HO_8.out [] x9_2 p259 (by first | exact q259 | exact of_decide_eq_true (by first | (with_reducible assumption) | assumption) | (have e_ := (Kd.N_reads' HO_8.out).1; omega))
                      obtain ⟨ua259_0, uc259_0, rfl, ul259_0, ge259_0⟩ := Kd.FK_slice_open hMe259
                      have hv259_0 := hcc259 0 _ rfl
                      rw [Nat.add_zero, show ((Kd.slice 3 (Kd.int .i64))).sz = 1 from rfl, Nat.mul_one] at hv259_0
                      replace hv259_0 := Option.some.inj (hv259_0.symm.trans hx259_0)
                      injection hv259_0 with hva_ hvn_ hvc_
                      rw [hva_] at ge259_0
                      rw [hvc_] at ul259_0
                      have HL259_0 := Aside0.mk (show Kd.V (Kd.int .i64) 3 _ w.heap.size _ _ (rd_L1 t256 x9_2) from Kd.V_mk ul259_0 ge259_0)
                      clear hva_ hvn_ hvc_ ge259_0 ul259_0
                      clear hcc259 hce259
                      have HR259_0 := Aside0.mk hi259_0
                      have HC259_0 := Aside0.mk hl259_0
                      clear hi259_0 hl259_0
                      replace p259 := eq_true p259
                      replace q259 := eq_true q259
                      go_wp2_with (first | ((with_reducible refine gate_callee (f := 24) rfl ?_); refine goesL_ (some 36) rfl rfl Try.func24 (by kernel_rfl) rfl #[.slice A0 l0.length c0, .slice A259_0 (rd_L1 t256 x9_2).length c259_0] rfl (by (try simp only [List.map_toArray, List.map_cons, List.map_nil]); first | done | rfl | (simp only [List.length_drop, List.length_take]; rfl)) ?_; (with_reducible refine (metrolabref50_Total.calls k2 _ _ l0 _ _ (rd_L1 t256 x9_2) t260 _ ?side1 ?side2 ?side3 ?side4 A12.out).mono ?_); (case side1 => repeat (first | exact (Kd.C_below HR0.out HB.out) | (with_reducible refine Kd.C_alloc ?_ _) | (with_reducible refine Kd.C_drewN ?_ _) | (with_reducible refine Kd.C_drew ?_))); (case side2 => exact HC0.out); (case side3 => repeat (first | exact (by repeat (first | (with_reducible exact HR259_0.out) | (with_reducible refine Kd.C_alloc ?_ _) | (with_reducible refine Kd.C_drewN ?_ _) | (with_reducible refine Kd.C_drew ?_) | exact HR259_0.out)) | (with_reducible refine Kd.C_alloc ?_ _) | (with_reducible refine Kd.C_drewN ?_ _) | (with_reducible refine Kd.C_drew ?_))); (case side4 => exact HC259_0.out); rintro e w' ⟨rfl, ⟨nd, rfl⟩⟩; refine ⟨_, rfl, ?_⟩; have p261 : 0 ≤ (x9_2 : Int) := of_decide_eq_true (by first | (with_reducible assumption) | assumption); have q261 : x9_2 < (t256.length : Int) := of_decide_eq_true (by first | (with_reducible assumption) | assumption); obtain ⟨ad261, A261_0, c261_0, e261, hx261_0, hl261_0, hi261_0⟩ := at_L1 (Kd.N_reads' HO_8.out).2.2 x9_2 p261 q261; obtain rfl : ad259 = ad261 := (by injection e261); obtain ⟨ce261, hce261, hMe261, hcc261⟩ := Kd.N_get HO_8.out [] x9_2 p261 (by first | exact q261 | exact of_decide_eq_true (by first | (with_reducible assumption) | assumption) | (have e_ := (Kd.N_reads' HO_8.out).1; omega)); obtain ⟨ua261_0, uc261_0, rfl, ul261_0, ge261_0⟩ := Kd.FK_slice_open hMe261; have hv261_0 := hcc261 0 _ rfl; rw [Nat.add_zero, show ((Kd.slice 3 (Kd.int .i64))).sz = 1 from rfl, Nat.mul_one] at hv261_0; replace hv261_0 := Option.some.inj (hv261_0.symm.trans hx261_0); injection hv261_0 with hva_ hvn_ hvc_; rw [hva_] at ge261_0; rw [hvc_] at ul261_0; have HL261_0 := Aside0.mk (show Kd.V (Kd.int .i64) 3 _ w.heap.size _ _ (rd_L1 t256 x9_2) from Kd.V_mk ul261_0 ge261_0); clear hva_ hvn_ hvc_ ge261_0 ul261_0; clear hcc261 hce261; have HR261_0 := Aside0.mk hi261_0; have HC261_0 := Aside0.mk hl261_0; clear hi261_0 hl261_0; replace p261 := eq_true p261; replace q261 := eq_true q261; have ea_ := Option.some.inj (hx259_0.symm.trans hx261_0); injection ea_ with ea_ en_ ec_; subst ea_; subst ec_; clear en_) | (go_at_call 40; (with_reducible refine (metrolabref50_inside.calls t260 false _ A14.out).mono ?_); rintro e w' ⟨rfl, ⟨nd, rfl⟩⟩))
                      go_roundg k2
                      case measure => have := HJ4.out; have := HK2.out; omega
                      case rel => exact ⟨(x7_2), (wrap64 (x9_2 + 1)), (by first | rfl | (simp; done) | (simp [*]; done)), H', ⟨by have := HJ4.out; have := HK2.out; omega⟩, ⟨by (with_reducible repeat (first | apply Kd.R_alloc | apply Kd.R_drewN | apply Kd.R_drew)); exact HO_7.out⟩, ⟨by (with_reducible repeat (first | apply Kd.N_alloc | apply Kd.N_drewN | apply Kd.N_drew)); exact HO_8.out⟩, ⟨by repeat (first | (with_reducible first | exact HB.out | apply below_alloc | apply pw_below_drewN | apply below_drew1) | exact HB.out)⟩⟩
                  · rw [if_neg c13] at H
                    have c13b0 : decide (((rd_L1 t256 x9_2).length : Int) ≤ a1) = false := decide_eq_false c13
                    clear c13
                    have H' := Aside0.mk H
                    clear H
                    obtain ⟨Ao21, co21, eo21⟩ := Kd.N_slice HO_8.out
                    subst eo21
                    have p259 : 0 ≤ (x9_2 : Int) := of_decide_eq_true (by first | (with_reducible assumption) | assumption)
                    have q259 : x9_2 < (t256.length : Int) := of_decide_eq_true (by first | (with_reducible assumption) | assumption)
                    obtain ⟨ad259, A259_0, c259_0, e259, hx259_0, hl259_0, hi259_0⟩ := at_L1 (Kd.N_reads' HO_8.out).2.2 x9_2 p259 q259
                    cases e259
                    obtain ⟨ce259, hce259, hMe259, hcc259⟩ := Kd.N_get HO_8.out [] x9_2 p259 (by first | exact q259 | exact of_decide_eq_true (by first | (with_reducible assumption) | assumption) | (have e_ := (Kd.N_reads' HO_8.out).1; omega))
                    obtain ⟨ua259_0, uc259_0, rfl, ul259_0, ge259_0⟩ := Kd.FK_slice_open hMe259
                    have hv259_0 := hcc259 0 _ rfl
                    rw [Nat.add_zero, show ((Kd.slice 3 (Kd.int .i64))).sz = 1 from rfl, Nat.mul_one] at hv259_0
                    replace hv259_0 := Option.some.inj (hv259_0.symm.trans hx259_0)
                    injection hv259_0 with hva_ hvn_ hvc_
                    rw [hva_] at ge259_0
                    rw [hvc_] at ul259_0
                    have HL259_0 := Aside0.mk (show Kd.V (Kd.int .i64) 3 _ w.heap.size _ _ (rd_L1 t256 x9_2) from Kd.V_mk ul259_0 ge259_0)
                    clear hva_ hvn_ hvc_ ge259_0 ul259_0
                    clear hcc259 hce259
                    have HR259_0 := Aside0.mk hi259_0
                    have HC259_0 := Aside0.mk hl259_0
                    clear hi259_0 hl259_0
                    replace p259 := eq_true p259
                    replace q259 := eq_true q259
                    go_wp2_with (first | ((with_reducible refine gate_callee (f := 24) rfl ?_); refine goesL_ (some 36) rfl rfl Try.func24 (by kernel_rfl) rfl #[.slice A0 l0.length c0, .slice A259_0 (rd_L1 t256 x9_2).length c259_0] rfl (by (try simp only [List.map_toArray, List.map_cons, List.map_nil]); first | done | rfl | (simp only [List.length_drop, List.length_take]; rfl)) ?_; (with_reducible refine (metrolabref50_Total.calls k2 _ _ l0 _ _ (rd_L1 t256 x9_2) t260 _ ?side1 ?side2 ?side3 ?side4 A12.out).mono ?_); (case side1 => repeat (first | exact (Kd.C_below HR0.out HB.out) | (with_reducible refine Kd.C_alloc ?_ _) | (with_reducible refine Kd.C_drewN ?_ _) | (with_reducible refine Kd.C_drew ?_))); (case side2 => exact HC0.out); (case side3 => repeat (first | exact (by repeat (first | (with_reducible exact HR259_0.out) | (with_reducible refine Kd.C_alloc ?_ _) | (with_reducible refine Kd.C_drewN ?_ _) | (with_reducible refine Kd.C_drew ?_) | exact HR259_0.out)) | (with_reducible refine Kd.C_alloc ?_ _) | (with_reducible refine Kd.C_drewN ?_ _) | (with_reducible refine Kd.C_drew ?_))); (case side4 => exact HC259_0.out); rintro e w' ⟨rfl, ⟨nd, rfl⟩⟩; refine ⟨_, rfl, ?_⟩; have p261 : 0 ≤ (x9_2 : Int) := of_decide_eq_true (by first | (with_reducible assumption) | assumption); have q261 : x9_2 < (t256.length : Int) := of_decide_eq_true (by first | (with_reducible assumption) | assumption); obtain ⟨ad261, A261_0, c261_0, e261, hx261_0, hl261_0, hi261_0⟩ := at_L1 (Kd.N_reads' HO_8.out).2.2 x9_2 p261 q261; obtain rfl : ad259 = ad261 := (by injection e261); obtain ⟨ce261, hce261, hMe261, hcc261⟩ := Kd.N_get HO_8.out [] x9_2 p261 (by first | exact q261 | exact of_decide_eq_true (by first | (with_reducible assumption) | assumption) | (have e_ := (Kd.N_reads' HO_8.out).1; omega)); obtain ⟨ua261_0, uc261_0, rfl, ul261_0, ge261_0⟩ := Kd.FK_slice_open hMe261; have hv261_0 := hcc261 0 _ rfl; rw [Nat.add_zero, show ((Kd.slice 3 (Kd.int .i64))).sz = 1 from rfl, Nat.mul_one] at hv261_0; replace hv261_0 := Option.some.inj (hv261_0.symm.trans hx261_0); injection hv261_0 with hva_ hvn_ hvc_; rw [hva_] at ge261_0; rw [hvc_] at ul261_0; have HL261_0 := Aside0.mk (show Kd.V (Kd.int .i64) 3 _ w.heap.size _ _ (rd_L1 t256 x9_2) from Kd.V_mk ul261_0 ge261_0); clear hva_ hvn_ hvc_ ge261_0 ul261_0; clear hcc261 hce261; have HR261_0 := Aside0.mk hi261_0; have HC261_0 := Aside0.mk hl261_0; clear hi261_0 hl261_0; replace p261 := eq_true p261; replace q261 := eq_true q261; have ea_ := Option.some.inj (hx259_0.symm.trans hx261_0); injection ea_ with ea_ en_ ec_; subst ea_; subst ec_; clear en_))
                    go_roundg k2
                    case measure => have := HJ4.out; have := HK2.out; omega
                    case rel => exact ⟨(x7_2), (wrap64 (x9_2 + 1)), (by first | rfl | (simp; done) | (simp [*]; done)), H', ⟨by have := HJ4.out; have := HK2.out; omega⟩, ⟨by (with_reducible repeat (first | apply Kd.R_alloc | apply Kd.R_drewN | apply Kd.R_drew)); exact HO_7.out⟩, ⟨by (with_reducible repeat (first | apply Kd.N_alloc | apply Kd.N_drewN | apply Kd.N_drew)); exact HO_8.out⟩, ⟨by repeat (first | (with_reducible first | exact HB.out | apply below_alloc | apply pw_below_drewN | apply below_drew1) | exact HB.out)⟩⟩
                · rw [if_neg c11] at H
                  exact absurd H (by simp)
              · rw [if_neg c10] at H
                have c10b0 : decide (x9_2 < (t256.length : Int)) = false := decide_eq_false c10
                clear c10
                by_cases c22 : (x7_2.length : Int) > 16384
                · rw [if_pos c22] at H
                  have c22b0 : decide (16384 < (x7_2.length : Int)) = true := decide_eq_true c22
                  have c22b1 : decide (16384 < x7_2.length) = true := decide_eq_true (by omega)
                  clear c22
                  simp only [Option.some.injEq, Prod.mk.injEq] at H
                  obtain ⟨rfl, rfl⟩ := H
                  obtain ⟨Ao23, co23, eo23⟩ := Kd.N_slice HO_8.out
                  subst eo23
                  obtain ⟨Ao24, co24, eo24⟩ := Kd.R_slice HO_7.out
                  subst eo24
                  go_wp2
                  go_ret2
                  exact ⟨_, by first | rfl | (simp [errW_none, errW_some] <;> rfl) | (simp [*, errW_none, errW_some] <;> rfl), by first | exact Kd.R_nil _ _ _ _ _ | exact Kd.N_nil _ _ _ _ _ | exact Kd.V_nil _ _ _ _ _ | exact Kd.Q_nil _ _ _ _ _ | exact Kd.S_nil _ _ _ _ _, by repeat (first | (with_reducible first | exact HB.out | apply below_alloc | apply pw_below_drewN | apply below_drew1) | exact HB.out)⟩
                · rw [if_neg c22] at H
                  have c22b0 : decide (16384 < (x7_2.length : Int)) = false := decide_eq_false c22
                  have c22b1 : decide (16384 < x7_2.length) = false := decide_eq_false (by omega)
                  clear c22
                  simp only [Option.some.injEq, Prod.mk.injEq] at H
                  obtain ⟨rfl, rfl⟩ := H
                  obtain ⟨Ao25, co25, eo25⟩ := Kd.N_slice HO_8.out
                  subst eo25
                  obtain ⟨Ao26, co26, eo26⟩ := Kd.R_slice HO_7.out
                  subst eo26
                  go_wp2
                  go_ret2
                  exact ⟨_, by first | rfl | (simp [errW_none, errW_some] <;> rfl) | (simp [*, errW_none, errW_some] <;> rfl), by (with_reducible repeat (first | apply Kd.R_alloc | apply Kd.R_drewN | apply Kd.R_drew)); exact HO_7.out, by repeat (first | (with_reducible first | exact HB.out | apply below_alloc | apply pw_below_drewN | apply below_drew1) | exact HB.out)⟩
  · rw [if_neg c4] at H
    have c4b0 : (t255 == 0) = false := beq_eq_false_iff_ne.mpr c4
    have c4b1 : (t255 != 0) = true := bne_iff_ne.mpr c4
    simp only [Option.some.injEq, Prod.mk.injEq] at H
    obtain ⟨rfl, rfl⟩ := H
    go_enter Try.func21, Try.ntmps21
    go_wp2_with (first | ((with_reducible refine gate_callee (f := 28) rfl ?_); refine goesL_ (some 12) rfl rfl Try.func28 (by kernel_rfl) rfl #[.slice A0 l0.length c0] rfl (by (try simp only [List.map_toArray, List.map_cons, List.map_nil]); first | done | rfl | (simp only [List.length_drop, List.length_take]; rfl)) ?_; (with_reducible refine (metrolabref50_Check.calls k _ _ l0 t255 _ ?side1 ?side2 A3.out).mono ?_); (case side1 => repeat (first | exact HR0.out | (with_reducible refine Kd.C_alloc ?_ _) | (with_reducible refine Kd.C_drewN ?_ _) | (with_reducible refine Kd.C_drew ?_))); (case side2 => exact HC0.out); rintro e w' ⟨rfl, ⟨nd, rfl⟩⟩; refine ⟨_, rfl, ?_⟩))
    go_ret2
    exact ⟨_, by first | rfl | (simp [errW_none, errW_some] <;> rfl) | (simp [*, errW_none, errW_some] <;> rfl), by first | exact Kd.R_nil _ _ _ _ _ | exact Kd.N_nil _ _ _ _ _ | exact Kd.V_nil _ _ _ _ _ | exact Kd.Q_nil _ _ _ _ _ | exact Kd.S_nil _ _ _ _ _, by repeat (first | (with_reducible first | exact HB.out | apply below_alloc | apply pw_below_drewN | apply below_drew1) | exact HB.out)⟩

end Go.Proofs.Ytgkgeodphgfgnaa.Pr
/- The plain laws: how many stacks, and what lengths: the reference's answers are the program's. -/
namespace Go.Proofs.Ytgkgeodphgfgnaa.Pr
open Go.RowKit Go.Proofs.YtgkgeodphgfgnaaW.PrintWords Go.Proofs.YtgkgeodphgfgnaaW.PrintLast

theorem givenE_cases (l : List Int) (n : Int) : chk l = 0 ∨ givenE l n = chk l := by
  unfold givenE
  by_cases h : chk l = 0
  · exact .inl h
  · rw [if_neg h]; exact .inr rfl

/-! ### Count -/
def sumTo (f : Nat → Nat) : Nat → Nat
  | 0 => 0
  | m + 1 => sumTo f m + f m
theorem sumTo_front (f : Nat → Nat) : ∀ m, sumTo f (m + 1) = f 0 + sumTo (fun s => f (s + 1)) m
  | 0 => by simp [sumTo]
  | m + 1 => by
    have := sumTo_front f m
    simp only [sumTo] at this ⊢
    omega
theorem sumTo_add (f g : Nat → Nat) : ∀ m, sumTo (fun s => f s + g s) m = sumTo f m + sumTo g m
  | 0 => rfl
  | m + 1 => by
    have := sumTo_add f g m
    simp only [sumTo] at this ⊢
    omega
theorem sumTo_zero (f : Nat → Nat) (h : ∀ s, f s = 0) : ∀ m, sumTo f m = 0
  | 0 => rfl
  | m + 1 => by simp [sumTo, sumTo_zero f h m, h]
theorem countP_range {α : Type} (c : Nat → List α) (p : α → Bool) : ∀ m, ((List.range m).flatMap c).countP p = sumTo (fun s => (c s).countP p) m
  | 0 => rfl
  | m + 1 => by rw [List.range_succ, List.flatMap_append, List.countP_append, countP_range c p m]; simp [sumTo]
/-- How many stacks have the length n. -/
def nStacks : List Int → Int → Nat
  | [], n => if n = 0 then 1 else 0
  | x :: xs, n => nStacks xs (n - x) + nStacks xs n
theorem hit_comp {l xs : List Int} {x : Int} {i : Nat} (h : l.drop i = x :: xs) (n : Int) : (hit l n ∘ fun st => (i : Int) :: st) = hit l (n - x) := by
  funext st
  simp only [Function.comp, hit, tot_cons h, decide_eq_decide]
  omega
theorem hit_nil (l : List Int) (n : Int) : ([[]] : List (List Int)).countP (hit l n) = if n = 0 then 1 else 0 := by
  have : tot l [] = 0 := rfl
  by_cases h : n = 0
  · subst h; simp [hit, this]
  · have h2 : ¬ (0 : Int) = n := fun e => h e.symm
    simp [hit, this, h, h2]
theorem nStacks_is (l : List Int) : ∀ (xs : List Int) (i m : Nat) (n : Int), l.drop i = xs → xs.length < m → sumTo (fun s => (combs s i xs.length).countP (hit l n)) m = nStacks xs n
  | [], i, m, n, hd, hm => by
    obtain ⟨m, rfl⟩ : ∃ k, m = k + 1 := ⟨m - 1, by omega⟩
    rw [sumTo_front, sumTo_zero _ (fun s => by simp [combs])]
    simp only [combs, nStacks, hit_nil, Nat.add_zero]
  | x :: xs, i, m, n, hd, hm => by
    simp only [List.length_cons] at hm
    obtain ⟨m, rfl⟩ : ∃ k, m = k + 1 := ⟨m - 1, by omega⟩
    have hd2 := drop_tail hd
    have h1 := nStacks_is l xs (i + 1) m (n - x) hd2 (by omega)
    have h2 := nStacks_is l xs (i + 1) (m + 1) n hd2 (by omega)
    rw [sumTo_front] at h2 ⊢
    have e : (fun s => (combs (s + 1) i (x :: xs).length).countP (hit l n)) = fun s => (combs s (i + 1) xs.length).countP (hit l (n - x)) + (combs (s + 1) (i + 1) xs.length).countP (hit l n) := by
      funext s
      simp only [List.length_cons, combs, List.countP_append, List.countP_map, hit_comp hd]
    rw [e, sumTo_add, h1]
    simp only [combs] at h2 ⊢
    simp only [nStacks]
    omega
theorem nStacks_neg : ∀ (xs : List Int) (n : Int), (∀ x ∈ xs, 1 ≤ x) → n < 0 → nStacks xs n = 0
  | [], n, _, h => by simp only [nStacks]; rw [if_neg (by omega)]
  | x :: xs, n, hx, h => by
    have h1 := hx x List.mem_cons_self
    have h2 : ∀ y ∈ xs, 1 ≤ y := fun y hy => hx y (List.mem_cons_of_mem _ hy)
    simp only [nStacks]
    rw [nStacks_neg xs (n - x) h2 (by omega), nStacks_neg xs n h2 h]
theorem nStacks_le : ∀ (xs : List Int) (n : Int), nStacks xs n ≤ 2 ^ xs.length
  | [], n => by simp only [nStacks]; split <;> simp
  | x :: xs, n => by
    have h1 := nStacks_le xs (n - x)
    have h2 := nStacks_le xs n
    simp only [nStacks, List.length_cons, Nat.pow_succ]
    omega
theorem g46_cons (x : Int) (xs : List Int) (n : Int) : g46 (x :: xs) n = min (g46 xs n + (if n ≥ x then g46 xs (n - x) else 0)) 1048577 := by
  unfold g46
  rw [cellv]
theorem g46_is : ∀ (xs : List Int) (n : Int), (∀ x ∈ xs, 1 ≤ x) → 0 ≤ n → g46 xs n = min (nStacks xs n : Int) 1048577
  | [], n, _, _ => by
    unfold g46 cellv
    simp only [nStacks]
    split <;> omega
  | x :: xs, n, hx, h0 => by
    have h1 := hx x List.mem_cons_self
    have h2 : ∀ y ∈ xs, 1 ≤ y := fun y hy => hx y (List.mem_cons_of_mem _ hy)
    rw [g46_cons, g46_is xs n h2 h0]
    simp only [nStacks]
    by_cases h : n ≥ x
    · rw [if_pos h, g46_is xs (n - x) h2 (by omega)]
      omega
    · rw [if_neg h, nStacks_neg xs (n - x) h2 (by omega)]
      omega
theorem count_all (l : List Int) (n : Int) : (allS l.length).countP (hit l n) = nStacks l n := by
  unfold allS
  rw [countP_range]
  exact nStacks_is l l 0 (l.length + 1) n (by simp) (by omega)
theorem count_go (l : List Int) (hl : ∀ x ∈ l, 1 ≤ x ∧ x ≤ 100000) (n : Int) (ss : List (List Int)) (hss : ∀ st ∈ ss, (∀ i ∈ st, 0 ≤ i ∧ i < (l.length : Int)) ∧ st.length ≤ 1000) (hlen : ss.length ≤ 1000) :
    ∀ (d j : Nat) (acc : Nat), j ≤ ss.length → ss.length - j = d → acc ≤ j → Ev (fun k => metrolabref50_Count.l0 k l n (acc : Int) ss (j : Int)) (((acc + (ss.drop j).countP (hit l n) : Nat) : Int), 0) := by
  intro d
  induction d with
  | zero =>
    intro j acc hj hd ha
    obtain rfl : j = ss.length := by omega
    refine Ev.const fun k => ?_
    simp only [metrolabref50_Count.l0]
    rw [if_neg (by omega), if_neg (by omega), List.drop_length]
    rfl
  | succ d ih =>
    intro j acc hj hd ha
    obtain ⟨st, hx, hdr⟩ := drop_at' (show j < ss.length by omega)
    obtain ⟨g1, g2⟩ := hss st (List.mem_of_getElem? hx)
    have hc : (ss.drop j).countP (hit l n) = (ss.drop (j + 1)).countP (hit l n) + if hit l n st = true then 1 else 0 := by rw [hdr, List.countP_cons]
    refine Ev.step (f := fun k => (metrolabref50_Total.f k l st).bind fun t => if t = n then metrolabref50_Count.l0 k l n ((acc + 1 : Nat) : Int) ss ((j + 1 : Nat) : Int) else metrolabref50_Count.l0 k l n (acc : Int) ss ((j + 1 : Nat) : Int)) (fun k => ?_) (Ev.bind (total_ev l hl st g1 g2) ?_)
    · simp only [metrolabref50_Count.l0]
      rw [if_pos (by omega), if_pos (by omega), rd_L1_at hx, show wrap64 ((j : Int) + 1) = ((j + 1 : Nat) : Int) by unfold wrap64; omega, show wrap64 ((acc : Int) + 1) = ((acc + 1 : Nat) : Int) by unfold wrap64; omega]
    · by_cases h : tot l st = n
      · have e : hit l n st = true := by simp [hit, h]
        have hih := ih (j + 1) (acc + 1) (by omega) (by omega) (by omega)
        rw [hc, if_pos e]
        simp only [h, if_true]
        rw [show acc + ((ss.drop (j + 1)).countP (hit l n) + 1) = acc + 1 + (ss.drop (j + 1)).countP (hit l n) by omega]
        exact hih
      · have e : ¬ hit l n st = true := by simp [hit, h]
        have hih := ih (j + 1) acc (by omega) (by omega) (by omega)
        rw [hc, if_neg e]
        simp only [h, if_false]
        exact hih
theorem rcount_ev (l : List Int) (n : Int) (h9 : l.length ≤ 9 ∨ chk l ≠ 0) : Ev (fun k => metrolabref50_Count.f k l n) (countV l n) := by
  unfold countV
  refine Ev.bind (rcheck_ev l) ?_
  by_cases hc : chk l = 0
  · obtain ⟨hlen, hasc⟩ := chk_zero.1 hc
    rw [givenE_of hc]
    simp only [hc, if_true]
    rw [rinside_is]
    by_cases hi : 1 ≤ n ∧ n ≤ 100000
    · simp only [hi, decide_true, Option.bind_some, if_true, ne_eq, not_true, if_false, and_self]
      have h99 : l.length ≤ 9 := by rcases h9 with h | h; exact h; exact absurd hc h
      refine Ev.bind (stacks_ev l.length h99) ?_
      have h1 := count_go l hasc.mem n (allS l.length) (fun st hst => by obtain ⟨a, b⟩ := allS_ok l.length st hst; exact ⟨a, by omega⟩) (allS_len l.length h99) (allS l.length).length 0 0 (by omega) (by omega) (by omega)
      rw [List.drop_zero, count_all, Nat.zero_add] at h1
      have h2 := nStacks_le l n
      have h3 : 2 ^ l.length ≤ 2 ^ 9 := Nat.pow_le_pow_right (by omega) h99
      have h4 := g46_is l n (fun x hx => (hasc.mem x hx).1) (by omega)
      have h5 : g46 l n = (nStacks l n : Int) := by omega
      rw [h5, if_neg (by omega)]
      exact h1
    · rw [if_neg hi]
      simp only [hi, decide_false, Option.bind_some]
      exact Ev.now _
  · have hg : givenE l n = chk l := by unfold givenE; rw [if_neg hc]
    rw [hg]
    simp only [hc, if_false, ne_eq, not_false_eq_true, if_true]
    exact Ev.now _
theorem bcount_ev (l : List Int) (n : Int) : Ev (fun _ => blocks_Count.f l n) (countV l n) := ⟨0, fun _ _ => rfl⟩

/-! ### Reach -/
/-- A number put into a row in its order. -/
def insGo (t : Int) : Bool → List Int → List Int
  | false, [] => [t]
  | true, [] => []
  | false, x :: xs => if x ≥ t then t :: (if x = t then insGo t true xs else x :: insGo t true xs) else x :: insGo t false xs
  | true, x :: xs => if x = t then insGo t true xs else x :: insGo t true xs
theorem added_go (l : List Int) (hn : l.length ≤ 1000000) (t : Int) : ∀ (d j : Nat) (b : Bool) (acc : List Int), j ≤ l.length → l.length - j = d → acc.length ≤ 2 * j → Ev (fun k => metrolabref50_Added.l0 k l t acc b (j : Int)) (acc ++ insGo t b (l.drop j)) := by
  intro d
  induction d with
  | zero =>
    intro j b acc hj hd ha
    obtain rfl : j = l.length := by omega
    refine Ev.const fun k => ?_
    simp only [metrolabref50_Added.l0]
    rw [if_neg (by omega), List.drop_length]
    cases b with
    | true => rw [if_pos rfl]; simp [insGo]
    | false => rw [if_neg (by decide), if_pos (by omega)]; simp [insGo]
  | succ d ih =>
    intro j b acc hj hd ha
    obtain ⟨x, hx, hdr⟩ := drop_at (show j < l.length by omega)
    rw [hdr]
    have hw : wrap64 ((j : Int) + 1) = ((j + 1 : Nat) : Int) := by rw [wrap_up (n := l.length) (by omega) (by omega) (by omega)]; rfl
    cases b with
    | true =>
      refine Ev.step (f := fun k => metrolabref50_Added.j1 k l t acc true (j : Int) false) (fun k => ?_) ?_
      · simp only [metrolabref50_Added.l0]
        rw [if_pos (by omega), if_pos True.intro]
      · by_cases he : x = t
        · refine Ev.step (f := fun k => metrolabref50_Added.l0 k l t acc true ((j + 1 : Nat) : Int)) (fun k => ?_) ?_
          · simp only [metrolabref50_Added.j1]
            rw [if_neg (by decide), if_pos (by omega), if_pos (by omega), rd_at hx, if_pos he, hw]
          · simp only [insGo]; rw [if_pos he]
            exact ih (j + 1) true acc (by omega) (by omega) (by omega)
        · refine Ev.step (f := fun k => metrolabref50_Added.l0 k l t (acc ++ [x]) true ((j + 1 : Nat) : Int)) (fun k => ?_) ?_
          · simp only [metrolabref50_Added.j1]
            rw [if_neg (by decide), if_pos (by omega), if_pos (by omega), rd_at hx, if_neg he, if_pos (by omega), hw]
          · simp only [insGo]; rw [if_neg he]
            have := ih (j + 1) true (acc ++ [x]) (by omega) (by omega) (by simp; omega)
            rw [List.append_assoc] at this
            exact this
    | false =>
      by_cases hge : x ≥ t
      · refine Ev.step (f := fun k => metrolabref50_Added.j1 k l t acc false (j : Int) true) (fun k => ?_) ?_
        · simp only [metrolabref50_Added.l0]
          rw [if_pos (by omega), if_neg (by decide), if_pos (by omega), rd_at hx, decide_eq_true hge]
        · by_cases he : x = t
          · refine Ev.step (f := fun k => metrolabref50_Added.l0 k l t (acc ++ [t]) true ((j + 1 : Nat) : Int)) (fun k => ?_) ?_
            · simp only [metrolabref50_Added.j1, Option.bind_some]
              rw [if_pos True.intro, if_pos (by omega), if_pos (by omega), if_pos (by omega), rd_at hx, if_pos he, hw]
            · simp only [insGo]; rw [if_pos hge, if_pos he]
              have := ih (j + 1) true (acc ++ [t]) (by omega) (by omega) (by simp; omega)
              rw [List.append_assoc] at this
              exact this
          · refine Ev.step (f := fun k => metrolabref50_Added.l0 k l t ((acc ++ [t]) ++ [x]) true ((j + 1 : Nat) : Int)) (fun k => ?_) ?_
            · simp only [metrolabref50_Added.j1, Option.bind_some]
              rw [if_pos True.intro, if_pos (by omega), if_pos (by omega), if_pos (by omega), rd_at hx, if_neg he, if_pos (by simp; omega), hw]
            · simp only [insGo]; rw [if_pos hge, if_neg he]
              have := ih (j + 1) true ((acc ++ [t]) ++ [x]) (by omega) (by omega) (by simp; omega)
              rw [show (acc ++ [t]) ++ [x] ++ insGo t true (l.drop (j + 1)) = acc ++ t :: x :: insGo t true (l.drop (j + 1)) by simp] at this
              exact this
      · refine Ev.step (f := fun k => metrolabref50_Added.j1 k l t acc false (j : Int) false) (fun k => ?_) ?_
        · simp only [metrolabref50_Added.l0]
          rw [if_pos (by omega), if_neg (by decide), if_pos (by omega), rd_at hx, decide_eq_false hge]
        · refine Ev.step (f := fun k => metrolabref50_Added.l0 k l t (acc ++ [x]) false ((j + 1 : Nat) : Int)) (fun k => ?_) ?_
          · simp only [metrolabref50_Added.j1]
            rw [if_neg (by decide), if_pos (by omega), if_pos (by omega), rd_at hx, if_neg (show ¬ x = t by omega), if_pos (by omega), hw]
          · simp only [insGo]; rw [if_neg hge]
            have := ih (j + 1) false (acc ++ [x]) (by omega) (by omega) (by simp; omega)
            rw [List.append_assoc] at this
            exact this
theorem added_ev (l : List Int) (hn : l.length ≤ 1000000) (t : Int) : Ev (fun k => metrolabref50_Added.f k l t) (insGo t false l) := by
  have h := added_go l hn t l.length 0 false [] (by omega) (by omega) (by simp)
  rw [List.drop_zero, List.nil_append] at h
  exact Ev.congr (fun _ => rfl) h
/-- A row in its order, no number twice. -/
def Srt (l : List Int) : Prop := l.Pairwise (· < ·)
theorem ins_true_mem (t y : Int) : ∀ l : List Int, y ∈ insGo t true l ↔ y ∈ l ∧ y ≠ t
  | [] => by simp [insGo]
  | x :: xs => by
    have ih := ins_true_mem t y xs
    simp only [insGo]
    by_cases h : x = t
    · rw [if_pos h, ih]
      subst h
      constructor
      · rintro ⟨a, b⟩; exact ⟨List.mem_cons_of_mem _ a, b⟩
      · rintro ⟨a, b⟩
        rcases List.mem_cons.1 a with rfl | a
        · exact absurd rfl b
        · exact ⟨a, b⟩
    · rw [if_neg h, List.mem_cons, ih, List.mem_cons]
      constructor
      · rintro (rfl | ⟨a, b⟩)
        · exact ⟨.inl rfl, h⟩
        · exact ⟨.inr a, b⟩
      · rintro ⟨a | a, b⟩
        · exact .inl a
        · exact .inr ⟨a, b⟩
theorem ins_false_mem (t y : Int) : ∀ l : List Int, y ∈ insGo t false l ↔ y ∈ l ∨ y = t
  | [] => by simp [insGo]
  | x :: xs => by
    have ih := ins_false_mem t y xs
    have it := ins_true_mem t y xs
    simp only [insGo]
    by_cases hge : x ≥ t
    · rw [if_pos hge]
      by_cases h : x = t
      · rw [if_pos h, List.mem_cons, it, List.mem_cons]
        subst h
        by_cases hy : y = x
        · simp [hy]
        · simp [hy]
      · rw [if_neg h, List.mem_cons, List.mem_cons, it, List.mem_cons]
        by_cases hy : y = t
        · simp [hy]
        · simp [hy]
    · rw [if_neg hge, List.mem_cons, ih, List.mem_cons, or_assoc]
theorem ins_true_srt (t : Int) : ∀ l : List Int, Srt l → Srt (insGo t true l)
  | [], _ => List.Pairwise.nil
  | x :: xs, h => by
    obtain ⟨h1, h2⟩ := List.pairwise_cons.1 h
    have ih := ins_true_srt t xs h2
    simp only [insGo]
    split
    · exact ih
    · exact List.pairwise_cons.2 ⟨fun y hy => h1 y ((ins_true_mem t y xs).1 hy).1, ih⟩
theorem ins_false_srt (t : Int) : ∀ l : List Int, Srt l → Srt (insGo t false l)
  | [], _ => by simp [insGo, Srt]
  | x :: xs, h => by
    obtain ⟨h1, h2⟩ := List.pairwise_cons.1 h
    have it := ins_true_srt t xs h2
    simp only [insGo]
    by_cases hge : x ≥ t
    · rw [if_pos hge]
      by_cases he : x = t
      · rw [if_pos he]
        refine List.pairwise_cons.2 ⟨fun y hy => ?_, it⟩
        have := h1 y ((ins_true_mem t y xs).1 hy).1
        omega
      · rw [if_neg he]
        refine List.pairwise_cons.2 ⟨fun y hy => ?_, List.pairwise_cons.2 ⟨fun y hy => h1 y ((ins_true_mem t y xs).1 hy).1, it⟩⟩
        rcases List.mem_cons.1 hy with rfl | hy
        · omega
        · have := h1 y ((ins_true_mem t y xs).1 hy).1
          omega
    · rw [if_neg hge]
      refine List.pairwise_cons.2 ⟨fun y hy => ?_, ins_false_srt t xs h2⟩
      rcases (ins_false_mem t y xs).1 hy with hy | rfl
      · exact h1 y hy
      · omega
theorem srt_ext : ∀ (l m : List Int), Srt l → Srt m → (∀ x, x ∈ l ↔ x ∈ m) → l = m
  | [], [], _, _, _ => rfl
  | [], y :: m, _, _, h => by have := (h y).2 List.mem_cons_self; cases this
  | x :: l, [], _, _, h => by have := (h x).1 List.mem_cons_self; cases this
  | x :: l, y :: m, h1, h2, h => by
    obtain ⟨a1, a2⟩ := List.pairwise_cons.1 h1
    obtain ⟨b1, b2⟩ := List.pairwise_cons.1 h2
    have e : x = y := by
      rcases List.mem_cons.1 ((h x).1 List.mem_cons_self) with e | e
      · exact e
      · rcases List.mem_cons.1 ((h y).2 List.mem_cons_self) with e2 | e2
        · exact e2.symm
        · have := b1 x e
          have := a1 y e2
          omega
    subst e
    rw [srt_ext l m a2 b2 fun z => ?_]
    constructor
    · intro hz
      rcases List.mem_cons.1 ((h z).1 (List.mem_cons_of_mem _ hz)) with rfl | e
      · have := a1 z hz; omega
      · exact e
    · intro hz
      rcases List.mem_cons.1 ((h z).2 (List.mem_cons_of_mem _ hz)) with rfl | e
      · have := b1 z hz; omega
      · exact e
theorem srt_len : ∀ (l : List Int) (a b : Int), Srt l → (∀ x ∈ l, a ≤ x ∧ x < b) → a ≤ b → (l.length : Int) ≤ b - a
  | [], a, b, _, _, h => by simp; omega
  | x :: l, a, b, h1, h2, h => by
    obtain ⟨a1, a2⟩ := List.pairwise_cons.1 h1
    have hx := h2 x List.mem_cons_self
    have := srt_len l (x + 1) b a2 (fun y hy => ⟨by have := a1 y hy; omega, (h2 y (List.mem_cons_of_mem _ hy)).2⟩) (by omega)
    simp only [List.length_cons]
    omega
theorem reachL_mem (l : List Int) (most x : Int) : ∀ k, x ∈ reachL l most k ↔ 1 ≤ x ∧ x < (k : Int) ∧ g59 l x ≤ most
  | 0 => by simp [reachL]; omega
  | k + 1 => by
    have ih := reachL_mem l most x k
    simp only [reachL, List.mem_append, ih]
    by_cases h : 1 ≤ k ∧ g59 l k ≤ most
    · rw [if_pos h, List.mem_singleton]
      constructor
      · rintro (h' | rfl)
        · omega
        · exact ⟨by omega, by omega, h.2⟩
      · rintro ⟨h1, h2, h3⟩
        by_cases e : x = k
        · exact .inr e
        · exact .inl ⟨h1, by omega, h3⟩
    · rw [if_neg h]
      constructor
      · rintro (h' | h')
        · omega
        · cases h'
      · rintro ⟨h1, h2, h3⟩
        by_cases e : x = k
        · subst e
          exact absurd ⟨by omega, h3⟩ h
        · exact .inl ⟨h1, by omega, h3⟩
theorem reachL_srt (l : List Int) (most : Int) : ∀ k, Srt (reachL l most k)
  | 0 => List.Pairwise.nil
  | k + 1 => by
    simp only [reachL]
    refine List.pairwise_append.2 ⟨reachL_srt l most k, ?_, fun a ha b hb => ?_⟩
    · split <;> simp
    · have h1 := (reachL_mem l most a k).1 ha
      split at hb
      · rw [List.mem_singleton] at hb
        omega
      · cases hb
/-- The lengths that the reference gathers. -/
def okS (l : List Int) (most : Int) (st : List Int) : Bool := decide ((st.length : Int) ≤ most) && decide (1 ≤ tot l st ∧ tot l st ≤ 100000)
def gathS (l : List Int) (most : Int) (ss : List (List Int)) (acc : List Int) : List Int := ss.foldl (fun acc st => if okS l most st = true then insGo (tot l st) false acc else acc) acc
theorem gathS_srt (l : List Int) (most : Int) : ∀ (ss : List (List Int)) (acc : List Int), Srt acc → Srt (gathS l most ss acc)
  | [], _, h => h
  | st :: ss, acc, h => by
    show Srt (gathS l most ss (if okS l most st = true then insGo (tot l st) false acc else acc))
    refine gathS_srt l most ss _ ?_
    split
    · exact ins_false_srt _ _ h
    · exact h
theorem gathS_mem (l : List Int) (most x : Int) : ∀ (ss : List (List Int)) (acc : List Int), x ∈ gathS l most ss acc ↔ x ∈ acc ∨ ∃ st ∈ ss, okS l most st = true ∧ tot l st = x
  | [], acc => by simp [gathS]
  | st :: ss, acc => by
    show x ∈ gathS l most ss (if okS l most st = true then insGo (tot l st) false acc else acc) ↔ _
    rw [gathS_mem l most x ss]
    by_cases h : okS l most st = true
    · rw [if_pos h, ins_false_mem]
      constructor
      · rintro ((a | rfl) | ⟨s, b, c⟩)
        · exact .inl a
        · exact .inr ⟨st, List.mem_cons_self, h, rfl⟩
        · exact .inr ⟨s, List.mem_cons_of_mem _ b, c⟩
      · rintro (a | ⟨s, b, c, d⟩)
        · exact .inl (.inl a)
        · rcases List.mem_cons.1 b with rfl | b
          · exact .inl (.inr d.symm)
          · exact .inr ⟨s, b, c, d⟩
    · rw [if_neg h]
      constructor
      · rintro (a | ⟨s, b, c⟩)
        · exact .inl a
        · exact .inr ⟨s, List.mem_cons_of_mem _ b, c⟩
      · rintro (a | ⟨s, b, c, d⟩)
        · exact .inl a
        · rcases List.mem_cons.1 b with rfl | b
          · exact absurd c h
          · exact .inr ⟨s, b, c, d⟩
theorem gath_is (l : List Int) (hl : ∀ x ∈ l, 1 ≤ x ∧ x ≤ 100000) (most : Int) (hm : most ≤ 8) : gathS l most (allS l.length) [] = reachL l most (widthN l) := by
  refine srt_ext _ _ (gathS_srt l most _ [] List.Pairwise.nil) (reachL_srt l most _) fun x => ?_
  have hx1 : ∀ x ∈ l, 1 ≤ x := fun x hx => (hl x hx).1
  rw [gathS_mem, reachL_mem]
  have hs := (sum_bound l hl).1
  have hw : ((widthN l : Nat) : Int) = min l.sum 100000 + 1 := by unfold widthN; omega
  rw [hw]
  constructor
  · rintro (h | ⟨st, h1, h2, rfl⟩)
    · cases h
    · simp only [okS, Bool.and_eq_true, decide_eq_true_eq] at h2
      unfold allS at h1
      obtain ⟨s, hs1, hs2⟩ := List.mem_flatMap.1 h1
      obtain ⟨k1, k2⟩ := combs_low l l s 0 st (by simp) hx1 hs2
      obtain ⟨_, k3⟩ := combs_mem s 0 l.length st hs2
      refine ⟨h2.2.1, ?_, by omega⟩
      by_cases hsum : l.sum < tot l st
      · have := g59_none l (tot l st) k1 hx1 hsum
        omega
      · omega
  · rintro ⟨h1, h2, h3⟩
    have hb := g59_bd l x
    have hf := find_some l l (g59 l x).toNat 0 x (by simp) hx1 (by omega) (by omega) (by omega)
    have hmem := List.mem_of_find?_eq_some hf
    have hhit := List.find?_some hf
    simp only [hit, decide_eq_true_eq] at hhit
    obtain ⟨_, k3⟩ := combs_mem _ 0 l.length _ hmem
    have hle := pickV_le l 0 x
    refine .inr ⟨pickV 0 l x, ?_, ?_, hhit⟩
    · unfold allS
      exact List.mem_flatMap.2 ⟨(g59 l x).toNat, List.mem_range.2 (by omega), hmem⟩
    · simp only [okS, Bool.and_eq_true, decide_eq_true_eq]
      rw [hhit]
      exact ⟨by omega, by omega, by omega⟩
theorem gathS_len (l : List Int) (most : Int) (ss : List (List Int)) (acc : List Int) (h : Srt acc) (h2 : ∀ x ∈ acc, 1 ≤ x ∧ x < 100001) : (gathS l most ss acc).length ≤ 100000 := by
  have := srt_len (gathS l most ss acc) 1 100001 (gathS_srt l most ss acc h) (fun x hx => by
    rcases (gathS_mem l most x ss acc).1 hx with h | ⟨st, _, h3, rfl⟩
    · exact h2 x h
    · simp only [okS, Bool.and_eq_true, decide_eq_true_eq] at h3
      omega) (by omega)
  omega
theorem insGo_len (t : Int) : ∀ (b : Bool) (l : List Int), (insGo t b l).length ≤ l.length + 1
  | false, [] => by simp [insGo]
  | true, [] => by simp [insGo]
  | false, x :: xs => by
    have h1 := insGo_len t true xs
    have h2 := insGo_len t false xs
    have h3 : (insGo t true xs).length ≤ xs.length := by
      clear h1 h2
      induction xs with
      | nil => simp [insGo]
      | cons y ys ih =>
        simp only [insGo]
        split
        · simp only [List.length_cons]; omega
        · simp only [List.length_cons]; omega
    simp only [insGo]
    split
    · split
      · simp only [List.length_cons]; omega
      · simp only [List.length_cons]; omega
    · simp only [List.length_cons]; omega
  | true, x :: xs => by
    have h1 := insGo_len t true xs
    simp only [insGo]
    split
    · simp only [List.length_cons]; omega
    · simp only [List.length_cons]; omega
theorem reach_go (l : List Int) (hl : ∀ x ∈ l, 1 ≤ x ∧ x ≤ 100000) (most : Int) (ss : List (List Int)) (hss : ∀ st ∈ ss, (∀ i ∈ st, 0 ≤ i ∧ i < (l.length : Int)) ∧ st.length ≤ 1000) (hlen : ss.length ≤ 1000) :
    ∀ (d j : Nat) (acc : List Int), j ≤ ss.length → ss.length - j = d → acc.length ≤ j → Ev (fun k => metrolabref50_Reach.l0 k l most acc ss (j : Int)) (if (gathS l most (ss.drop j) acc).length > 16384 then ([], 12) else (gathS l most (ss.drop j) acc, 0)) := by
  intro d
  induction d with
  | zero =>
    intro j acc hj hd ha
    obtain rfl : j = ss.length := by omega
    refine Ev.const fun k => ?_
    simp only [metrolabref50_Reach.l0]
    rw [if_neg (by omega), if_neg (by omega), List.drop_length, if_neg (show ¬ (gathS l most [] acc).length > 16384 by show ¬ acc.length > 16384; omega)]
    rfl
  | succ d ih =>
    intro j acc hj hd ha
    obtain ⟨st, hx, hdr⟩ := drop_at' (show j < ss.length by omega)
    obtain ⟨g1, g2⟩ := hss st (List.mem_of_getElem? hx)
    have hw : wrap64 ((j : Int) + 1) = ((j + 1 : Nat) : Int) := by rw [wrap_up (n := ss.length) (by omega) (by omega) (by omega)]; rfl
    rw [hdr]
    have hstep : gathS l most (st :: ss.drop (j + 1)) acc = gathS l most (ss.drop (j + 1)) (if okS l most st = true then insGo (tot l st) false acc else acc) := rfl
    rw [hstep]
    refine Ev.step (f := fun k => (metrolabref50_Total.f k l st).bind fun t260 => (if (st.length : Int) ≤ most then ((metrolabref50_inside.f t260).bind fun t262 => (if t262 = true then ((metrolabref50_Added.f k acc t260).bind fun t263 => (metrolabref50_Reach.l0 k l most t263 ss ((j + 1 : Nat) : Int))) else (metrolabref50_Reach.l0 k l most acc ss ((j + 1 : Nat) : Int)))) else (metrolabref50_Reach.l0 k l most acc ss ((j + 1 : Nat) : Int)))) (fun k => ?_) (Ev.bind (total_ev l hl st g1 g2) ?_)
    · simp only [metrolabref50_Reach.l0]
      rw [if_pos (by omega), if_pos (by omega), rd_L1_at hx, hw]
    · by_cases hlen2 : (st.length : Int) ≤ most
      · simp only [hlen2, if_true]
        rw [rinside_is]
        by_cases hin : 1 ≤ tot l st ∧ tot l st ≤ 100000
        · have e : okS l most st = true := by simp [okS, hlen2, hin]
          rw [if_pos e]
          simp only [hin, decide_true, Option.bind_some, if_true, and_self]
          refine Ev.bind (added_ev acc (by omega) (tot l st)) ?_
          exact ih (j + 1) _ (by omega) (by omega) (by have := insGo_len (tot l st) false acc; omega)
        · have e : ¬ okS l most st = true := by simp [okS, hin]
          rw [if_neg e]
          simp only [hin, decide_false, Option.bind_some, if_false, Bool.false_eq_true]
          exact ih (j + 1) acc (by omega) (by omega) (by omega)
      · have e : ¬ okS l most st = true := by simp [okS, hlen2]
        rw [if_neg e]
        simp only [hlen2, if_false]
        exact ih (j + 1) acc (by omega) (by omega) (by omega)
theorem rreach_ev (l : List Int) (most : Int) (h9 : l.length ≤ 9 ∨ chk l ≠ 0) : Ev (fun k => metrolabref50_Reach.f k l most) (reachV l most) := by
  unfold reachV
  refine Ev.bind (rcheck_ev l) ?_
  by_cases hc : chk l = 0
  · obtain ⟨hlen, hasc⟩ := chk_zero.1 hc
    have hT : Ev (fun k => metrolabref50_Reach.j0 k l most true) ([], 2) := Ev.const fun k => by
      simp only [metrolabref50_Reach.j0]
      rw [if_pos True.intro]
    simp only [hc, if_true, ne_eq, not_true, if_false]
    by_cases h1 : most < 1
    · rw [if_pos (show most < 1 ∨ most > 8 by omega)]
      simp only [h1, if_true]
      exact hT
    · by_cases h2 : most > 8
      · rw [if_pos (show most < 1 ∨ most > 8 by omega)]
        simp only [h1, if_false, h2, decide_true]
        exact hT
      · rw [if_neg (show ¬ (most < 1 ∨ most > 8) by omega)]
        simp only [h1, if_false, h2, decide_false]
        have h99 : l.length ≤ 9 := by rcases h9 with h | h; exact h; exact absurd hc h
        refine Ev.step (f := fun k => (metrolabref50_Stacks.f k (l.length : Int)).bind fun t256 => (metrolabref50_Reach.l0 k l most ([] : List Int) t256 0)) (fun k => ?_) (Ev.bind (stacks_ev l.length h99) ?_)
        · simp only [metrolabref50_Reach.j0]
          rw [if_neg (by decide)]
        · have h3 := reach_go l hasc.mem most (allS l.length) (fun st hst => by obtain ⟨a, b⟩ := allS_ok l.length st hst; exact ⟨a, by omega⟩) (allS_len l.length h99) (allS l.length).length 0 [] (by omega) (by omega) (by simp)
          rw [List.drop_zero, gath_is l hasc.mem most (by omega)] at h3
          exact h3
  · simp only [hc, if_false, ne_eq, not_false_eq_true, if_true]
    exact Ev.now _
theorem breach_ev (l : List Int) (most : Int) : Ev (fun _ => blocks_Reach.f l most) (reachV l most) := ⟨0, fun _ _ => rfl⟩
theorem reachV_small (l : List Int) (most : Int) : (reachV l most).1.length ≤ 140737488351232 := by
  unfold reachV
  split
  · exact Nat.zero_le _
  · split
    · exact Nat.zero_le _
    · split
      · exact Nat.zero_le _
      · show (reachL l most (widthN l)).length ≤ _
        omega
end Go.Proofs.Ytgkgeodphgfgnaa.Pr
