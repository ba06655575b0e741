/- A part of the statement's proof. -/
import Derived.Test.YtgkgeodphgfgnaaB1
import Derived.Test.YtgkgeodphgfgnaaB2
import Derived.Test.YtgkgeodphgfgnaaB4
-- Printed for this claim by a program of this session, over the kit's printer. Not trusted: Lean checks it.
namespace Go.Proofs.Ytgkgeodphgfgnaa.Pr
open Go.RowKit Go.Proofs.YtgkgeodphgfgnaaW.PrintWords Go.Proofs.YtgkgeodphgfgnaaW.PrintLast Go.Proofs.YtgkgeodphgfgnaaW.PrintMore
attribute [local go_sem] max2_int min2_int max_two min_two max_three min_three max_four min_four
set_option linter.unusedVariables false
set_option linter.unusedSimpArgs false

/-! ### blocks_Length: function 25 -/
def blocks_Length.f (k : Nat) (l0 : List Int) (l1 : List Int) : Option (Int × Int) := (blocks_Check.f k l0).bind fun t346 => (if t346 = 0 then ((blocks_total.f k l0 l1).bind fun bt347 => (some (bt347.1, bt347.2))) else (some (0, t346)))
theorem blocks_Length.mono : ∀ a0 a1 k, LeO (blocks_Length.f k a0 a1) (blocks_Length.f (k + 1) a0 a1) := by
  intro a0 a1 k
  unfold blocks_Length.f
  repeat' first
      | (with_reducible exact blocks_Check.mono _ _)
      | (with_reducible exact blocks_total.mono _ _ _)
      | (with_reducible exact LeO.refl _)
      | (with_reducible exact LeO.none _)
      | (with_reducible refine LeO.ite ?_ ?_)
      | (with_reducible refine LeO.bind ?_ (fun _ => ?_))
      | exact blocks_Check.mono _ _
      | exact blocks_total.mono _ _ _
      | exact LeO.none _
      | refine LeO.ite ?_ ?_
      | refine LeO.bind ?_ (fun _ => ?_)
set_option maxHeartbeats 8000000 in
set_option maxRecDepth 100000 in
theorem blocks_Length.calls (k : Nat) (A0 : Option Addr) (c0 : Nat) (l0 : List Int) (A1 : Option Addr) (c1 : Nat) (l1 : List Int) (r1 : Int) (r2 : Int) (w : World) (hr0 : Kd.C (Kd.int .i64) w A0 l0.length l0) (hc0 : l0.length ≤ c0) (hr1 : Kd.C (Kd.int .i64) w A1 l1.length l1) (hc1 : l1.length ≤ c1) (h : blocks_Length.f k l0 l1 = some (r1, r2)) :
    Calls Try.prog 25 #[.slice A0 l0.length c0, .slice A1 l1.length c1] w fun e w' => e = .returned (.tuple #[.int .i64 r1, .int .i64 r2]) ∧ Drawn0 w w' := by
  have HR0 := Aside0.mk hr0
  have HC0 := Aside0.mk hc0
  clear hr0 hc0
  have HR1 := Aside0.mk hr1
  have HC1 := Aside0.mk hc1
  clear hr1 hc1
  have H : ((blocks_Check.f k l0).bind fun t346 => (if t346 = 0 then ((blocks_total.f k l0 l1).bind fun bt347 => (some (bt347.1, bt347.2))) else (some (0, t346)))) = some (r1, r2) := h
  clear h
  replace H := Option.bind_eq_some_iff.mp H
  obtain ⟨t346, A30, H⟩ := H
  replace H : (if t346 = 0 then ((blocks_total.f k l0 l1).bind fun bt347 => (some (bt347.1, bt347.2))) else (some (0, t346))) = some (r1, r2) := H
  have A3 := Aside0.mk A30
  clear A30
  by_cases c4 : t346 = 0
  · rw [if_pos c4] at H
    have c4b0 : (t346 == 0) = true := beq_iff_eq.mpr c4
    have c4b1 : (t346 != 0) = false := bne_eq_false_iff_eq.mpr c4
    clear c4
    replace H := Option.bind_eq_some_iff.mp H
    obtain ⟨⟨t347, t348⟩, A50, H⟩ := H
    replace H : (some (t347, t348)) = some (r1, r2) := H
    have A5 := Aside0.mk A50
    clear A50
    simp only [Option.some.injEq, Prod.mk.injEq] at H
    obtain ⟨rfl, rfl⟩ := H
    go_enter Try.func25, Try.ntmps25
    go_wp2_with (first | ((with_reducible refine gate_callee (f := 27) rfl ?_); refine goesL_ (some 8) rfl rfl Try.func27 (by kernel_rfl) rfl #[.slice A0 l0.length c0] rfl (by (try simp only [List.map_toArray, List.map_cons, List.map_nil]); first | done | rfl | (simp only [List.length_drop, List.length_take]; rfl)) ?_; (with_reducible refine (blocks_Check.calls k _ _ l0 t346 _ ?side1 ?side2 A3.out).mono ?_); (case side1 => repeat (first | exact HR0.out | (with_reducible refine Kd.C_alloc ?_ _) | (with_reducible refine Kd.C_drewN ?_ _) | (with_reducible refine Kd.C_drew ?_))); (case side2 => exact HC0.out); rintro e w' ⟨rfl, ⟨nd, rfl⟩⟩; refine ⟨_, rfl, ?_⟩) | ((with_reducible refine gate_callee (f := 42) rfl ?_); refine goesL_ (some 14) rfl rfl Try.func42 (by kernel_rfl) rfl #[.slice A0 l0.length c0, .slice A1 l1.length c1] rfl (by (try simp only [List.map_toArray, List.map_cons, List.map_nil]); first | done | rfl | (simp only [List.length_drop, List.length_take]; rfl)) ?_; (with_reducible refine (blocks_total.calls k _ _ l0 _ _ l1 t347 t348 _ ?side1 ?side2 ?side3 ?side4 A5.out).mono ?_); (case side1 => repeat (first | exact HR0.out | (with_reducible refine Kd.C_alloc ?_ _) | (with_reducible refine Kd.C_drewN ?_ _) | (with_reducible refine Kd.C_drew ?_))); (case side2 => exact HC0.out); (case side3 => repeat (first | exact HR1.out | (with_reducible refine Kd.C_alloc ?_ _) | (with_reducible refine Kd.C_drewN ?_ _) | (with_reducible refine Kd.C_drew ?_))); (case side4 => exact HC1.out); rintro e w' ⟨rfl, ⟨nd, rfl⟩⟩; refine ⟨_, rfl, ?_⟩))
    go_ret2
    exact ⟨by first | rfl | (simp; done) | (simp [*]; done), by repeat (first | exact Drawn0.refl _ | apply Drawn0.step)⟩
  · rw [if_neg c4] at H
    have c4b0 : (t346 == 0) = false := beq_eq_false_iff_ne.mpr c4
    have c4b1 : (t346 != 0) = true := bne_iff_ne.mpr c4
    simp only [Option.some.injEq, Prod.mk.injEq] at H
    obtain ⟨rfl, rfl⟩ := H
    go_enter Try.func25, Try.ntmps25
    go_wp2_with (first | ((with_reducible refine gate_callee (f := 27) rfl ?_); refine goesL_ (some 8) rfl rfl Try.func27 (by kernel_rfl) rfl #[.slice A0 l0.length c0] rfl (by (try simp only [List.map_toArray, List.map_cons, List.map_nil]); first | done | rfl | (simp only [List.length_drop, List.length_take]; rfl)) ?_; (with_reducible refine (blocks_Check.calls k _ _ l0 t346 _ ?side1 ?side2 A3.out).mono ?_); (case side1 => repeat (first | exact HR0.out | (with_reducible refine Kd.C_alloc ?_ _) | (with_reducible refine Kd.C_drewN ?_ _) | (with_reducible refine Kd.C_drew ?_))); (case side2 => exact HC0.out); rintro e w' ⟨rfl, ⟨nd, rfl⟩⟩; refine ⟨_, rfl, ?_⟩))
    go_ret2
    exact ⟨by first | rfl | (simp; done) | (simp [*]; done), by repeat (first | exact Drawn0.refl _ | apply Drawn0.step)⟩

end Go.Proofs.Ytgkgeodphgfgnaa.Pr
-- Printed for this claim by a program of this session, over the kit's printer. Not trusted: Lean checks it.
namespace Go.Proofs.Ytgkgeodphgfgnaa.Pr
open Go.RowKit Go.Proofs.YtgkgeodphgfgnaaW.PrintWords Go.Proofs.YtgkgeodphgfgnaaW.PrintLast Go.Proofs.YtgkgeodphgfgnaaW.PrintMore
attribute [local go_sem] max2_int min2_int max_two min_two max_three min_three max_four min_four
set_option linter.unusedVariables false
set_option linter.unusedSimpArgs false

/-! ### metrolabref50_Length: function 26 -/
def metrolabref50_Length.f (k : Nat) (l0 : List Int) (l1 : List Int) : Option (Int × Int) := (metrolabref50_Check.f k l0).bind fun t349 => (if t349 = 0 then ((metrolabref50_stacked.f k l0 l1).bind fun t350 => (if t350 = 0 then ((metrolabref50_Total.f k l0 l1).bind fun t351 => (some (t351, 0))) else (some (0, t350)))) else (some (0, t349)))
theorem metrolabref50_Length.mono : ∀ a0 a1 k, LeO (metrolabref50_Length.f k a0 a1) (metrolabref50_Length.f (k + 1) a0 a1) := by
  intro a0 a1 k
  unfold metrolabref50_Length.f
  repeat' first
      | (with_reducible exact metrolabref50_Check.mono _ _)
      | (with_reducible exact metrolabref50_Total.mono _ _ _)
      | (with_reducible exact metrolabref50_stacked.mono _ _ _)
      | (with_reducible exact LeO.refl _)
      | (with_reducible exact LeO.none _)
      | (with_reducible refine LeO.ite ?_ ?_)
      | (with_reducible refine LeO.bind ?_ (fun _ => ?_))
      | exact metrolabref50_Check.mono _ _
      | exact metrolabref50_Total.mono _ _ _
      | exact metrolabref50_stacked.mono _ _ _
      | exact LeO.none _
      | refine LeO.ite ?_ ?_
      | refine LeO.bind ?_ (fun _ => ?_)
set_option maxHeartbeats 8000000 in
set_option maxRecDepth 100000 in
theorem metrolabref50_Length.calls (k : Nat) (A0 : Option Addr) (c0 : Nat) (l0 : List Int) (A1 : Option Addr) (c1 : Nat) (l1 : List Int) (r1 : Int) (r2 : Int) (w : World) (hr0 : Kd.C (Kd.int .i64) w A0 l0.length l0) (hc0 : l0.length ≤ c0) (hr1 : Kd.C (Kd.int .i64) w A1 l1.length l1) (hc1 : l1.length ≤ c1) (h : metrolabref50_Length.f k l0 l1 = some (r1, r2)) :
    Calls Try.prog 26 #[.slice A0 l0.length c0, .slice A1 l1.length c1] w fun e w' => e = .returned (.tuple #[.int .i64 r1, .int .i64 r2]) ∧ Drawn0 w w' := by
  have HR0 := Aside0.mk hr0
  have HC0 := Aside0.mk hc0
  clear hr0 hc0
  have HR1 := Aside0.mk hr1
  have HC1 := Aside0.mk hc1
  clear hr1 hc1
  have H : ((metrolabref50_Check.f k l0).bind fun t349 => (if t349 = 0 then ((metrolabref50_stacked.f k l0 l1).bind fun t350 => (if t350 = 0 then ((metrolabref50_Total.f k l0 l1).bind fun t351 => (some (t351, 0))) else (some (0, t350)))) else (some (0, t349)))) = some (r1, r2) := h
  clear h
  replace H := Option.bind_eq_some_iff.mp H
  obtain ⟨t349, A30, H⟩ := H
  replace H : (if t349 = 0 then ((metrolabref50_stacked.f k l0 l1).bind fun t350 => (if t350 = 0 then ((metrolabref50_Total.f k l0 l1).bind fun t351 => (some (t351, 0))) else (some (0, t350)))) else (some (0, t349))) = some (r1, r2) := H
  have A3 := Aside0.mk A30
  clear A30
  by_cases c4 : t349 = 0
  · rw [if_pos c4] at H
    have c4b0 : (t349 == 0) = true := beq_iff_eq.mpr c4
    have c4b1 : (t349 != 0) = false := bne_eq_false_iff_eq.mpr c4
    clear c4
    replace H := Option.bind_eq_some_iff.mp H
    obtain ⟨t350, A50, H⟩ := H
    replace H : (if t350 = 0 then ((metrolabref50_Total.f k l0 l1).bind fun t351 => (some (t351, 0))) else (some (0, t350))) = some (r1, r2) := H
    have A5 := Aside0.mk A50
    clear A50
    by_cases c6 : t350 = 0
    · rw [if_pos c6] at H
      have c6b0 : (t350 == 0) = true := beq_iff_eq.mpr c6
      have c6b1 : (t350 != 0) = false := bne_eq_false_iff_eq.mpr c6
      clear c6
      replace H := Option.bind_eq_some_iff.mp H
      obtain ⟨t351, A70, H⟩ := H
      replace H : (some (t351, 0)) = some (r1, r2) := H
      have A7 := Aside0.mk A70
      clear A70
      simp only [Option.some.injEq, Prod.mk.injEq] at H
      obtain ⟨rfl, rfl⟩ := H
      go_enter Try.func26, Try.ntmps26
      go_wp2_with (first | ((with_reducible refine gate_callee (f := 28) rfl ?_); refine goesL_ (some 9) rfl rfl Try.func28 (by kernel_rfl) rfl #[.slice A0 l0.length c0] rfl (by (try simp only [List.map_toArray, List.map_cons, List.map_nil]); first | done | rfl | (simp only [List.length_drop, List.length_take]; rfl)) ?_; (with_reducible refine (metrolabref50_Check.calls k _ _ l0 t349 _ ?side1 ?side2 A3.out).mono ?_); (case side1 => repeat (first | exact HR0.out | (with_reducible refine Kd.C_alloc ?_ _) | (with_reducible refine Kd.C_drewN ?_ _) | (with_reducible refine Kd.C_drew ?_))); (case side2 => exact HC0.out); rintro e w' ⟨rfl, ⟨nd, rfl⟩⟩; refine ⟨_, rfl, ?_⟩) | ((with_reducible refine gate_callee (f := 43) rfl ?_); refine goesL_ (some 15) rfl rfl Try.func43 (by kernel_rfl) rfl #[.slice A0 l0.length c0, .slice A1 l1.length c1] rfl (by (try simp only [List.map_toArray, List.map_cons, List.map_nil]); first | done | rfl | (simp only [List.length_drop, List.length_take]; rfl)) ?_; (with_reducible refine (metrolabref50_stacked.calls k _ _ l0 _ _ l1 t350 _ ?side1 ?side2 ?side3 ?side4 A5.out).mono ?_); (case side1 => repeat (first | exact HR0.out | (with_reducible refine Kd.C_alloc ?_ _) | (with_reducible refine Kd.C_drewN ?_ _) | (with_reducible refine Kd.C_drew ?_))); (case side2 => exact HC0.out); (case side3 => repeat (first | exact HR1.out | (with_reducible refine Kd.C_alloc ?_ _) | (with_reducible refine Kd.C_drewN ?_ _) | (with_reducible refine Kd.C_drew ?_))); (case side4 => exact HC1.out); rintro e w' ⟨rfl, ⟨nd, rfl⟩⟩; refine ⟨_, rfl, ?_⟩) | ((with_reducible refine gate_callee (f := 24) rfl ?_); refine goesL_ (some 21) rfl rfl Try.func24 (by kernel_rfl) rfl #[.slice A0 l0.length c0, .slice A1 l1.length c1] rfl (by (try simp only [List.map_toArray, List.map_cons, List.map_nil]); first | done | rfl | (simp only [List.length_drop, List.length_take]; rfl)) ?_; (with_reducible refine (metrolabref50_Total.calls k _ _ l0 _ _ l1 t351 _ ?side1 ?side2 ?side3 ?side4 A7.out).mono ?_); (case side1 => repeat (first | exact HR0.out | (with_reducible refine Kd.C_alloc ?_ _) | (with_reducible refine Kd.C_drewN ?_ _) | (with_reducible refine Kd.C_drew ?_))); (case side2 => exact HC0.out); (case side3 => repeat (first | exact HR1.out | (with_reducible refine Kd.C_alloc ?_ _) | (with_reducible refine Kd.C_drewN ?_ _) | (with_reducible refine Kd.C_drew ?_))); (case side4 => exact HC1.out); rintro e w' ⟨rfl, ⟨nd, rfl⟩⟩; refine ⟨_, rfl, ?_⟩))
      go_ret2
      exact ⟨by first | rfl | (simp; done) | (simp [*]; done), by repeat (first | exact Drawn0.refl _ | apply Drawn0.step)⟩
    · rw [if_neg c6] at H
      have c6b0 : (t350 == 0) = false := beq_eq_false_iff_ne.mpr c6
      have c6b1 : (t350 != 0) = true := bne_iff_ne.mpr c6
      simp only [Option.some.injEq, Prod.mk.injEq] at H
      obtain ⟨rfl, rfl⟩ := H
      go_enter Try.func26, Try.ntmps26
      go_wp2_with (first | ((with_reducible refine gate_callee (f := 28) rfl ?_); refine goesL_ (some 9) rfl rfl Try.func28 (by kernel_rfl) rfl #[.slice A0 l0.length c0] rfl (by (try simp only [List.map_toArray, List.map_cons, List.map_nil]); first | done | rfl | (simp only [List.length_drop, List.length_take]; rfl)) ?_; (with_reducible refine (metrolabref50_Check.calls k _ _ l0 t349 _ ?side1 ?side2 A3.out).mono ?_); (case side1 => repeat (first | exact HR0.out | (with_reducible refine Kd.C_alloc ?_ _) | (with_reducible refine Kd.C_drewN ?_ _) | (with_reducible refine Kd.C_drew ?_))); (case side2 => exact HC0.out); rintro e w' ⟨rfl, ⟨nd, rfl⟩⟩; refine ⟨_, rfl, ?_⟩) | ((with_reducible refine gate_callee (f := 43) rfl ?_); refine goesL_ (some 15) rfl rfl Try.func43 (by kernel_rfl) rfl #[.slice A0 l0.length c0, .slice A1 l1.length c1] rfl (by (try simp only [List.map_toArray, List.map_cons, List.map_nil]); first | done | rfl | (simp only [List.length_drop, List.length_take]; rfl)) ?_; (with_reducible refine (metrolabref50_stacked.calls k _ _ l0 _ _ l1 t350 _ ?side1 ?side2 ?side3 ?side4 A5.out).mono ?_); (case side1 => repeat (first | exact HR0.out | (with_reducible refine Kd.C_alloc ?_ _) | (with_reducible refine Kd.C_drewN ?_ _) | (with_reducible refine Kd.C_drew ?_))); (case side2 => exact HC0.out); (case side3 => repeat (first | exact HR1.out | (with_reducible refine Kd.C_alloc ?_ _) | (with_reducible refine Kd.C_drewN ?_ _) | (with_reducible refine Kd.C_drew ?_))); (case side4 => exact HC1.out); rintro e w' ⟨rfl, ⟨nd, rfl⟩⟩; refine ⟨_, rfl, ?_⟩))
      go_ret2
      exact ⟨by first | rfl | (simp; done) | (simp [*]; done), by repeat (first | exact Drawn0.refl _ | apply Drawn0.step)⟩
  · rw [if_neg c4] at H
    have c4b0 : (t349 == 0) = false := beq_eq_false_iff_ne.mpr c4
    have c4b1 : (t349 != 0) = true := bne_iff_ne.mpr c4
    simp only [Option.some.injEq, Prod.mk.injEq] at H
    obtain ⟨rfl, rfl⟩ := H
    go_enter Try.func26, Try.ntmps26
    go_wp2_with (first | ((with_reducible refine gate_callee (f := 28) rfl ?_); refine goesL_ (some 9) rfl rfl Try.func28 (by kernel_rfl) rfl #[.slice A0 l0.length c0] rfl (by (try simp only [List.map_toArray, List.map_cons, List.map_nil]); first | done | rfl | (simp only [List.length_drop, List.length_take]; rfl)) ?_; (with_reducible refine (metrolabref50_Check.calls k _ _ l0 t349 _ ?side1 ?side2 A3.out).mono ?_); (case side1 => repeat (first | exact HR0.out | (with_reducible refine Kd.C_alloc ?_ _) | (with_reducible refine Kd.C_drewN ?_ _) | (with_reducible refine Kd.C_drew ?_))); (case side2 => exact HC0.out); rintro e w' ⟨rfl, ⟨nd, rfl⟩⟩; refine ⟨_, rfl, ?_⟩))
    go_ret2
    exact ⟨by first | rfl | (simp; done) | (simp [*]; done), by repeat (first | exact Drawn0.refl _ | apply Drawn0.step)⟩

end Go.Proofs.Ytgkgeodphgfgnaa.Pr
/- The plain laws: Length on both sides. -/
namespace Go.Proofs.Ytgkgeodphgfgnaa.Pr
open Go.RowKit Go.Proofs.YtgkgeodphgfgnaaW.PrintWords Go.Proofs.YtgkgeodphgfgnaaW.PrintLast

theorem stkGo_zero (m : Int) : ∀ (st : List Int) (p : Option Int), stkGo m p st = 0 → ∀ i ∈ st, 0 ≤ i ∧ i < m
  | [], _, _, i, hi => by cases hi
  | x :: st, p, h, i, hi => by
    simp only [stkGo] at h
    by_cases h1 : x < 0 ∨ x ≥ m
    · rw [if_pos h1] at h; exact absurd h (by decide)
    · rw [if_neg h1] at h
      by_cases h2 : p.any (fun y => decide (x ≤ y)) = true
      · rw [if_pos h2] at h; exact absurd h (by decide)
      · rw [if_neg h2] at h
        rcases List.mem_cons.1 hi with rfl | hi
        · omega
        · exact stkGo_zero m st (some x) h i hi
def lengthV (l st : List Int) : Int × Int := if chk l = 0 then totV l st else (0, chk l)
theorem length_ev (l st : List Int) (hn : st.length ≤ 140737488351232) : Ev (fun k => blocks_Length.f k l st) (lengthV l st) := by
  unfold lengthV
  refine Ev.bind (check_ev l) ?_
  by_cases hc : chk l = 0
  · obtain ⟨c1, c2⟩ := chk_zero.1 hc
    simp only [hc, if_true]
    exact Ev.bind (btotal_ev l st c2.mem c1 hn) (Ev.now _)
  · simp only [hc, if_false]
    exact Ev.now _
theorem rlength_ev (l st : List Int) (hn : st.length ≤ 1000) : Ev (fun k => metrolabref50_Length.f k l st) (lengthV l st) := by
  unfold lengthV
  refine Ev.bind (rcheck_ev l) ?_
  by_cases hc : chk l = 0
  · obtain ⟨c1, c2⟩ := chk_zero.1 hc
    simp only [hc, if_true]
    refine Ev.bind (stacked_ev l st (by omega)) ?_
    unfold totV
    by_cases hs : stkV l st = 0
    · simp only [hs, if_true]
      exact Ev.bind (total_ev l c2.mem st (stkGo_zero _ st none hs) hn) (Ev.now _)
    · simp only [hs, if_false]
      exact Ev.now _
  · simp only [hc, if_false]
    exact Ev.now _
end Go.Proofs.Ytgkgeodphgfgnaa.Pr
-- Printed for this claim by a program of this session, over the kit's printer. Not trusted: Lean checks it.
namespace Go.Proofs.Ytgkgeodphgfgnaa.Pr
open Go.RowKit Go.Proofs.YtgkgeodphgfgnaaW.PrintWords Go.Proofs.YtgkgeodphgfgnaaW.PrintLast Go.Proofs.YtgkgeodphgfgnaaW.PrintMore
attribute [local go_sem] max2_int min2_int max_two min_two max_three min_three max_four min_four
set_option linter.unusedVariables false
set_option linter.unusedSimpArgs false

/-! ### metrolablaw50_right: function 29 -/
def metrolablaw50_right.f (k : Nat) (l0 : List Int) (a1 : Int) : Option (Bool) := if (l0.length : Int) ≤ 9 then ((metrolabref50_Check.f k l0).bind fun t360 => (if t360 = 0 then (if a1 ≥ 1 then (some (decide (a1 ≤ 100000))) else (some false)) else (some false))) else (some false)
theorem metrolablaw50_right.mono : ∀ a0 a1 k, LeO (metrolablaw50_right.f k a0 a1) (metrolablaw50_right.f (k + 1) a0 a1) := by
  intro a0 a1 k
  unfold metrolablaw50_right.f
  repeat' first
      | (with_reducible exact metrolabref50_Check.mono _ _)
      | (with_reducible exact LeO.refl _)
      | (with_reducible exact LeO.none _)
      | (with_reducible refine LeO.ite ?_ ?_)
      | (with_reducible refine LeO.bind ?_ (fun _ => ?_))
      | exact metrolabref50_Check.mono _ _
      | exact LeO.none _
      | refine LeO.ite ?_ ?_
      | refine LeO.bind ?_ (fun _ => ?_)
set_option maxHeartbeats 8000000 in
set_option maxRecDepth 100000 in
theorem metrolablaw50_right.calls (k : Nat) (A0 : Option Addr) (c0 : Nat) (l0 : List Int) (a1 : Int) (r : Bool) (w : World) (hr0 : Kd.C (Kd.int .i64) w A0 l0.length l0) (hc0 : l0.length ≤ c0) (h : metrolablaw50_right.f k l0 a1 = some r) :
    Calls Try.prog 29 #[.slice A0 l0.length c0, .int .i64 a1] w fun e w' => e = .returned (.bool r) ∧ Drawn0 w w' := by
  have HR0 := Aside0.mk hr0
  have HC0 := Aside0.mk hc0
  clear hr0 hc0
  have H : (if (l0.length : Int) ≤ 9 then ((metrolabref50_Check.f k l0).bind fun t360 => (if t360 = 0 then (if a1 ≥ 1 then (some (decide (a1 ≤ 100000))) else (some false)) else (some false))) else (some false)) = some r := h
  clear h
  by_cases c3 : (l0.length : Int) ≤ 9
  · rw [if_pos c3] at H
    have c3b0 : decide ((l0.length : Int) ≤ 9) = true := decide_eq_true c3
    have c3b1 : decide (l0.length ≤ 9) = true := decide_eq_true (by omega)
    clear c3
    replace H := Option.bind_eq_some_iff.mp H
    obtain ⟨t360, A40, H⟩ := H
    replace H : (if t360 = 0 then (if a1 ≥ 1 then (some (decide (a1 ≤ 100000))) else (some false)) else (some false)) = some r := H
    have A4 := Aside0.mk A40
    clear A40
    by_cases c5 : t360 = 0
    · rw [if_pos c5] at H
      have c5b0 : (t360 == 0) = true := beq_iff_eq.mpr c5
      have c5b1 : (t360 != 0) = false := bne_eq_false_iff_eq.mpr c5
      clear c5
      by_cases c6 : a1 ≥ 1
      · rw [if_pos c6] at H
        have c6b0 : decide (1 ≤ a1) = true := decide_eq_true c6
        clear c6
        obtain rfl := Option.some.inj H
        go_enter Try.func29, Try.ntmps29
        go_wp2_with (first | (go_at_call 28; (with_reducible refine (metrolabref50_Check.calls k _ _ l0 t360 _ ?side1 ?side2 A4.out).mono ?_); (case side1 => repeat (first | exact HR0.out | (with_reducible refine Kd.C_alloc ?_ _) | (with_reducible refine Kd.C_drewN ?_ _) | (with_reducible refine Kd.C_drew ?_))); (case side2 => exact HC0.out); rintro e w' ⟨rfl, ⟨nd, rfl⟩⟩))
        go_ret
        exact ⟨by first | rfl | (simp; done) | (simp [*]; done), by repeat (first | exact Drawn0.refl _ | apply Drawn0.step)⟩
      · rw [if_neg c6] at H
        have c6b0 : decide (1 ≤ a1) = false := decide_eq_false c6
        clear c6
        obtain rfl := Option.some.inj H
        go_enter Try.func29, Try.ntmps29
        go_wp2_with (first | (go_at_call 28; (with_reducible refine (metrolabref50_Check.calls k _ _ l0 t360 _ ?side1 ?side2 A4.out).mono ?_); (case side1 => repeat (first | exact HR0.out | (with_reducible refine Kd.C_alloc ?_ _) | (with_reducible refine Kd.C_drewN ?_ _) | (with_reducible refine Kd.C_drew ?_))); (case side2 => exact HC0.out); rintro e w' ⟨rfl, ⟨nd, rfl⟩⟩))
        go_ret
        exact ⟨by first | rfl | (simp; done) | (simp [*]; done), by repeat (first | exact Drawn0.refl _ | apply Drawn0.step)⟩
    · rw [if_neg c5] at H
      have c5b0 : (t360 == 0) = false := beq_eq_false_iff_ne.mpr c5
      have c5b1 : (t360 != 0) = true := bne_iff_ne.mpr c5
      obtain rfl := Option.some.inj H
      go_enter Try.func29, Try.ntmps29
      go_wp2_with (first | (go_at_call 28; (with_reducible refine (metrolabref50_Check.calls k _ _ l0 t360 _ ?side1 ?side2 A4.out).mono ?_); (case side1 => repeat (first | exact HR0.out | (with_reducible refine Kd.C_alloc ?_ _) | (with_reducible refine Kd.C_drewN ?_ _) | (with_reducible refine Kd.C_drew ?_))); (case side2 => exact HC0.out); rintro e w' ⟨rfl, ⟨nd, rfl⟩⟩))
      go_ret
      exact ⟨by first | rfl | (simp; done) | (simp [*]; done), by repeat (first | exact Drawn0.refl _ | apply Drawn0.step)⟩
  · rw [if_neg c3] at H
    have c3b0 : decide ((l0.length : Int) ≤ 9) = false := decide_eq_false c3
    have c3b1 : decide (l0.length ≤ 9) = false := decide_eq_false (by omega)
    clear c3
    obtain rfl := Option.some.inj H
    go_enter Try.func29, Try.ntmps29
    go_wp2
    go_ret
    exact ⟨by first | rfl | (simp; done) | (simp [*]; done), by repeat (first | exact Drawn0.refl _ | apply Drawn0.step)⟩

end Go.Proofs.Ytgkgeodphgfgnaa.Pr
-- Printed for this claim by a program of this session, over the kit's printer. Not trusted: Lean checks it.
namespace Go.Proofs.Ytgkgeodphgfgnaa.Pr
open Go.RowKit Go.Proofs.YtgkgeodphgfgnaaW.PrintWords Go.Proofs.YtgkgeodphgfgnaaW.PrintLast Go.Proofs.YtgkgeodphgfgnaaW.PrintMore
attribute [local go_sem] max2_int min2_int max_two min_two max_three min_three max_four min_four
set_option linter.unusedVariables false
set_option linter.unusedSimpArgs false

/-! ### slices_Index_int_int: function 54 -/
def slices_Index_int_int.l0 : Nat → List Int → Int → Int → Int → Option (Int)
  | 0, _, _, _, _ => none
  | k + 1, x0, x1, x7, x8 => if x8 < x7 then (if 0 ≤ x8 then (if x8 < (x0.length : Int) then (if x1 = (rd x0 x8) then (some x8) else (slices_Index_int_int.l0 k x0 x1 x7 (wrap64 (x8 + 1)))) else (none)) else (none)) else (some (-1))
def slices_Index_int_int.f (k : Nat) (l0 : List Int) (a1 : Int) : Option (Int) := slices_Index_int_int.l0 k l0 a1 (l0.length : Int) 0
theorem slices_Index_int_int.mono_l : ∀ k, (∀ y0 y1 y2 y3, LeO (slices_Index_int_int.l0 k y0 y1 y2 y3) (slices_Index_int_int.l0 (k + 1) y0 y1 y2 y3))
  | 0 => fun _ _ _ _ r h => by simp [slices_Index_int_int.l0] at h
  | k + 1 => by
    have ih0 := slices_Index_int_int.mono_l k
    · intro y0 y1 y2 y3
      unfold slices_Index_int_int.l0
      repeat' first
      | (with_reducible exact ih0 _ _ _ _)
      | (with_reducible exact LeO.refl _)
      | (with_reducible exact LeO.none _)
      | (with_reducible refine LeO.ite ?_ ?_)
      | (with_reducible refine LeO.bind ?_ (fun _ => ?_))
      | exact ih0 _ _ _ _
      | exact LeO.none _
      | refine LeO.ite ?_ ?_
      | refine LeO.bind ?_ (fun _ => ?_)
theorem slices_Index_int_int.mono : ∀ a0 a1 k, LeO (slices_Index_int_int.f k a0 a1) (slices_Index_int_int.f (k + 1) a0 a1) := by
  intro a0 a1 k
  have ih0 := slices_Index_int_int.mono_l k
  unfold slices_Index_int_int.f
  repeat' first
      | (with_reducible exact ih0 _ _ _ _)
      | (with_reducible exact LeO.refl _)
      | (with_reducible exact LeO.none _)
      | (with_reducible refine LeO.ite ?_ ?_)
      | (with_reducible refine LeO.bind ?_ (fun _ => ?_))
      | exact ih0 _ _ _ _
      | exact LeO.none _
      | refine LeO.ite ?_ ?_
      | refine LeO.bind ?_ (fun _ => ?_)
set_option maxHeartbeats 8000000 in
set_option maxRecDepth 100000 in
theorem slices_Index_int_int.calls (k : Nat) (A0 : Option Addr) (c0 : Nat) (l0 : List Int) (a1 : Int) (r : Int) (w : World) (hr0 : Kd.C (Kd.int .i64) w A0 l0.length l0) (hc0 : l0.length ≤ c0) (h : slices_Index_int_int.f k l0 a1 = some r) :
    Calls Try.prog 54 #[.slice A0 l0.length c0, .int .i64 a1] w fun e w' => e = .returned (.int .i64 r) ∧ Drawn0 w w' := by
  have HR0 := Aside0.mk hr0
  have HC0 := Aside0.mk hc0
  clear hr0 hc0
  have H : (slices_Index_int_int.l0 k l0 a1 (l0.length : Int) 0) = some r := h
  clear h
  have H' := Aside0.mk H
  clear H
  go_enter Try.func54, Try.ntmps54
  go_wp2
  go_loopg [8] k (fun kq v8 w' => ∃ (x8_1 : Int), v8 = .int .i64 x8_1 ∧ Aside0 (slices_Index_int_int.l0 kq l0 a1 (l0.length : Int) x8_1 = some r) ∧ Aside0 (kq ≤ k) ∧ Drawn0 w w')
  case atStart => exact ⟨(0), (by first | rfl | (simp; done) | (simp [*]; done)), H', ⟨Nat.le_refl _⟩, by repeat (first | exact Drawn0.refl _ | apply Drawn0.step)⟩
  case round =>
    clear H'
    try clear p2
    obtain ⟨x8_1, rfl, HA, HK1, ⟨m1, rfl⟩⟩ := hrel
    cases gk with
    | zero => exact absurd HA.out (by simp [slices_Index_int_int.l0])
    | succ k1 =>
      have H := HA.out
      clear HA
      simp only [slices_Index_int_int.l0] at H
      by_cases c3 : x8_1 < (l0.length : Int)
      · rw [if_pos c3] at H
        have c3b0 : decide (x8_1 < (l0.length : Int)) = true := decide_eq_true c3
        clear c3
        by_cases c4 : 0 ≤ x8_1
        · rw [if_pos c4] at H
          have c4b0 : decide (0 ≤ x8_1) = true := decide_eq_true c4
          clear c4
          by_cases c5 : x8_1 < (l0.length : Int)
          · rw [if_pos c5] at H
            have c5b0 : decide (x8_1 < (l0.length : Int)) = true := decide_eq_true c5
            clear c5
            by_cases c6 : a1 = (rd l0 x8_1)
            · rw [if_pos c6] at H
              have c6b0 : (a1 == (rd l0 x8_1)) = true := beq_iff_eq.mpr c6
              have c6b1 : (a1 != (rd l0 x8_1)) = false := bne_eq_false_iff_eq.mpr c6
              clear c6
              obtain rfl := Option.some.inj H
              have p361 : 0 ≤ (x8_1 : Int) := of_decide_eq_true (by first | (with_reducible assumption) | assumption)
              have q361 : x8_1 < (l0.length : Int) := of_decide_eq_true (by first | (with_reducible assumption) | assumption)
              obtain ⟨ad361, e361, hx361_0⟩ := Kd.at_int HR0.out x8_1 p361 q361
              cases e361
              replace p361 := eq_true p361
              replace q361 := eq_true q361
              go_wp2
              go_ret
              exact ⟨by first | rfl | (simp; done) | (simp [*]; done), by repeat (first | exact Drawn0.refl _ | apply Drawn0.step)⟩
            · rw [if_neg c6] at H
              have c6b0 : (a1 == (rd l0 x8_1)) = false := beq_eq_false_iff_ne.mpr c6
              have c6b1 : (a1 != (rd l0 x8_1)) = true := bne_iff_ne.mpr c6
              have H' := Aside0.mk H
              clear H
              have p361 : 0 ≤ (x8_1 : Int) := of_decide_eq_true (by first | (with_reducible assumption) | assumption)
              have q361 : x8_1 < (l0.length : Int) := of_decide_eq_true (by first | (with_reducible assumption) | assumption)
              obtain ⟨ad361, e361, hx361_0⟩ := Kd.at_int HR0.out x8_1 p361 q361
              cases e361
              replace p361 := eq_true p361
              replace q361 := eq_true q361
              go_wp2
              go_roundg k1
              case measure => have := HK1.out; omega
              case rel => exact ⟨(wrap64 (x8_1 + 1)), (by first | rfl | (simp; done) | (simp [*]; done)), H', ⟨by have := HK1.out; omega⟩, by repeat (first | exact Drawn0.refl _ | apply Drawn0.step)⟩
          · rw [if_neg c5] at H
            exact absurd H (by simp)
        · rw [if_neg c4] at H
          exact absurd H (by simp)
      · rw [if_neg c3] at H
        have c3b0 : decide (x8_1 < (l0.length : Int)) = false := decide_eq_false c3
        clear c3
        obtain rfl := Option.some.inj H
        go_wp2
        go_ret
        exact ⟨by first | rfl | (simp; done) | (simp [*]; done), by repeat (first | exact Drawn0.refl _ | apply Drawn0.step)⟩

end Go.Proofs.Ytgkgeodphgfgnaa.Pr
-- Printed for this claim by a program of this session, over the kit's printer. Not trusted: Lean checks it.
namespace Go.Proofs.Ytgkgeodphgfgnaa.Pr
open Go.RowKit Go.Proofs.YtgkgeodphgfgnaaW.PrintWords Go.Proofs.YtgkgeodphgfgnaaW.PrintLast Go.Proofs.YtgkgeodphgfgnaaW.PrintMore
attribute [local go_sem] max2_int min2_int max_two min_two max_three min_three max_four min_four
set_option linter.unusedVariables false
set_option linter.unusedSimpArgs false

/-! ### slices_Contains_int_int: function 30 -/
def slices_Contains_int_int.f (k : Nat) (l0 : List Int) (a1 : Int) : Option (Bool) := (slices_Index_int_int.f k l0 a1).bind fun t362 => (some (decide (t362 ≥ 0)))
theorem slices_Contains_int_int.mono : ∀ a0 a1 k, LeO (slices_Contains_int_int.f k a0 a1) (slices_Contains_int_int.f (k + 1) a0 a1) := by
  intro a0 a1 k
  unfold slices_Contains_int_int.f
  repeat' first
      | (with_reducible exact slices_Index_int_int.mono _ _ _)
      | (with_reducible exact LeO.refl _)
      | (with_reducible exact LeO.none _)
      | (with_reducible refine LeO.ite ?_ ?_)
      | (with_reducible refine LeO.bind ?_ (fun _ => ?_))
      | exact slices_Index_int_int.mono _ _ _
      | exact LeO.none _
      | refine LeO.ite ?_ ?_
      | refine LeO.bind ?_ (fun _ => ?_)
set_option maxHeartbeats 8000000 in
set_option maxRecDepth 100000 in
theorem slices_Contains_int_int.calls (k : Nat) (A0 : Option Addr) (c0 : Nat) (l0 : List Int) (a1 : Int) (r : Bool) (w : World) (hr0 : Kd.C (Kd.int .i64) w A0 l0.length l0) (hc0 : l0.length ≤ c0) (h : slices_Contains_int_int.f k l0 a1 = some r) :
    Calls Try.prog 30 #[.slice A0 l0.length c0, .int .i64 a1] w fun e w' => e = .returned (.bool r) ∧ Drawn0 w w' := by
  have HR0 := Aside0.mk hr0
  have HC0 := Aside0.mk hc0
  clear hr0 hc0
  have H : ((slices_Index_int_int.f k l0 a1).bind fun t362 => (some (decide (t362 ≥ 0)))) = some r := h
  clear h
  replace H := Option.bind_eq_some_iff.mp H
  obtain ⟨t362, A30, H⟩ := H
  replace H : (some (decide (t362 ≥ 0))) = some r := H
  have A3 := Aside0.mk A30
  clear A30
  obtain rfl := Option.some.inj H
  go_enter Try.func30, Try.ntmps30
  go_wp2_with (first | ((with_reducible refine gate_callee (f := 54) rfl ?_); refine goesL_ (some 7) rfl rfl Try.func54 (by kernel_rfl) rfl #[.slice A0 l0.length c0, .int .i64 a1] rfl (by (try simp only [List.map_toArray, List.map_cons, List.map_nil]); first | done | rfl | (simp only [List.length_drop, List.length_take]; rfl)) ?_; (with_reducible refine (slices_Index_int_int.calls k _ _ l0 a1 t362 _ ?side1 ?side2 A3.out).mono ?_); (case side1 => repeat (first | exact HR0.out | (with_reducible refine Kd.C_alloc ?_ _) | (with_reducible refine Kd.C_drewN ?_ _) | (with_reducible refine Kd.C_drew ?_))); (case side2 => exact HC0.out); rintro e w' ⟨rfl, ⟨nd, rfl⟩⟩; refine ⟨_, rfl, ?_⟩))
  go_ret
  exact ⟨by first | rfl | (simp; done) | (simp [*]; done), by repeat (first | exact Drawn0.refl _ | apply Drawn0.step)⟩

end Go.Proofs.Ytgkgeodphgfgnaa.Pr
/- The plain laws: a block more in the set. -/
namespace Go.Proofs.Ytgkgeodphgfgnaa.Pr
open Go.RowKit Go.Proofs.YtgkgeodphgfgnaaW.PrintWords Go.Proofs.YtgkgeodphgfgnaaW.PrintLast

/-- Where a number stands first, or -1. -/
def idxV (t : Int) : Nat → List Int → Int
  | _, [] => -1
  | i, x :: xs => if t = x then (i : Int) else idxV t (i + 1) xs
theorem index_go (l : List Int) (hn : l.length ≤ 140737488351232) (t : Int) : ∀ (d j : Nat), j ≤ l.length → l.length - j = d → Ev (fun k => slices_Index_int_int.l0 k l t (l.length : Int) (j : Int)) (idxV t j (l.drop j)) := by
  intro d
  induction d with
  | zero =>
    intro j hj hd
    obtain rfl : j = l.length := by omega
    refine Ev.const fun k => ?_
    simp only [slices_Index_int_int.l0]
    rw [if_neg (by omega), List.drop_length]
    rfl
  | succ d ih =>
    intro j hj hd
    obtain ⟨x, hx, hdr⟩ := drop_at (show j < l.length by omega)
    rw [hdr]
    have hj2 : ∀ k, slices_Index_int_int.l0 (k + 1) l t (l.length : Int) (j : Int) = if t = x then some (j : Int) else slices_Index_int_int.l0 k l t (l.length : Int) ((j + 1 : Nat) : Int) := fun k => by
      simp only [slices_Index_int_int.l0]
      rw [if_pos (by omega), if_pos (by omega), if_pos (by omega), rd_at hx, wrap_up (n := l.length) (by omega) (by omega) (by omega)]
      rfl
    simp only [idxV]
    by_cases h : t = x
    · rw [if_pos h]
      exact Ev.const fun k => by rw [hj2, if_pos h]
    · rw [if_neg h]
      exact Ev.step (fun k => by rw [hj2, if_neg h]) (ih (j + 1) (by omega) (by omega))
theorem idxV_mem (t : Int) : ∀ (l : List Int) (i : Nat), idxV t i l ≥ 0 ↔ t ∈ l
  | [], i => by simp [idxV]
  | x :: xs, i => by
    simp only [idxV]
    by_cases h : t = x
    · rw [if_pos h]; simp [h]
    · rw [if_neg h, idxV_mem t xs (i + 1)]; simp [h]
theorem contains_ev (l : List Int) (hn : l.length ≤ 140737488351232) (t : Int) : Ev (fun k => slices_Contains_int_int.f k l t) (decide (t ∈ l)) := by
  have h := index_go l hn t l.length 0 (by omega) (by omega)
  rw [List.drop_zero] at h
  have h2 : Ev (fun k => slices_Index_int_int.f k l t) (idxV t 0 l) := Ev.congr (fun _ => rfl) h
  rw [← decide_eq_decide.2 (idxV_mem t l 0)]
  exact Ev.bind h2 (Ev.now _)
def rightV (l : List Int) (n : Int) : Bool := decide (l.length ≤ 9 ∧ chk l = 0 ∧ 1 ≤ n ∧ n ≤ 100000)
theorem right_ev (l : List Int) (n : Int) : Ev (fun k => metrolablaw50_right.f k l n) (rightV l n) := by
  unfold rightV
  by_cases h : l.length ≤ 9
  · refine Ev.congr (f := fun k => (metrolabref50_Check.f k l).bind fun t => if t = 0 then (if n ≥ 1 then some (decide (n ≤ 100000)) else some false) else some false) (fun k => by unfold metrolablaw50_right.f; rw [if_pos (by omega)]) (Ev.bind (rcheck_ev l) ?_)
    by_cases hc : chk l = 0
    · by_cases h1 : n ≥ 1
      · rw [show decide (l.length ≤ 9 ∧ chk l = 0 ∧ 1 ≤ n ∧ n ≤ 100000) = decide (n ≤ 100000) from decide_eq_decide.2 ⟨fun a => a.2.2.2, fun a => ⟨h, hc, h1, a⟩⟩]
        simp only [hc, h1, if_true]
        exact Ev.now _
      · rw [decide_eq_false (fun a : l.length ≤ 9 ∧ chk l = 0 ∧ 1 ≤ n ∧ n ≤ 100000 => h1 a.2.2.1)]
        simp only [hc, h1, if_true, if_false]
        exact Ev.now _
    · rw [decide_eq_false (fun a : l.length ≤ 9 ∧ chk l = 0 ∧ 1 ≤ n ∧ n ≤ 100000 => hc a.2.1)]
      simp only [hc, if_false]
      exact Ev.now _
  · rw [decide_eq_false (fun hh => h hh.1)]
    exact Ev.const fun k => by unfold metrolablaw50_right.f; rw [if_neg (by omega)]

theorem asc_srt : ∀ (l : List Int) (p : Option Int), Asc p l → Srt l ∧ ∀ y, p = some y → ∀ x ∈ l, y < x
  | [], _, _ => ⟨List.Pairwise.nil, fun _ _ x hx => by cases hx⟩
  | x :: l, p, h => by
    obtain ⟨h1, h2, h3⟩ := h
    obtain ⟨h4, h5⟩ := asc_srt l (some x) h3
    refine ⟨List.pairwise_cons.2 ⟨fun y hy => h5 x rfl y hy, h4⟩, fun y hy z hz => ?_⟩
    have := h2 y hy
    rcases List.mem_cons.1 hz with rfl | hz
    · exact this
    · have := h5 x rfl z hz; omega
theorem srt_asc : ∀ (l : List Int) (p : Option Int), Srt l → (∀ x ∈ l, 1 ≤ x ∧ x ≤ 100000) → (∀ y, p = some y → ∀ x ∈ l, y < x) → Asc p l
  | [], _, _, _, _ => trivial
  | x :: l, p, h, hb, hp => by
    obtain ⟨h1, h2⟩ := List.pairwise_cons.1 h
    exact ⟨hb x List.mem_cons_self, fun y hy => hp y hy x List.mem_cons_self, srt_asc l (some x) h2 (fun y hy => hb y (List.mem_cons_of_mem _ hy)) fun y hy z hz => by cases hy; exact h1 z hz⟩
theorem ins_true_id (t : Int) : ∀ l : List Int, t ∉ l → insGo t true l = l
  | [], _ => rfl
  | x :: xs, h => by
    simp only [insGo]
    rw [if_neg (fun e => h (by rw [e]; exact List.mem_cons_self)), ins_true_id t xs (fun hh => h (List.mem_cons_of_mem _ hh))]
theorem ins_chk {l : List Int} {t : Int} (hc : chk l = 0) (h8 : l.length ≤ 200) (ht : 1 ≤ t ∧ t ≤ 100000) : chk (insGo t false l) = 0 := by
  obtain ⟨_, h2⟩ := chk_zero.1 hc
  have hm := h2.mem
  refine chk_zero.2 ⟨?_, srt_asc _ none (ins_false_srt t l (asc_srt l none h2).1) (fun x hx => ?_) (fun y hy => by cases hy)⟩
  · have := insGo_len t false l; omega
  · rcases (ins_false_mem t x l).1 hx with h | rfl
    · exact hm x h
    · exact ht
theorem nStacks_cons_le (x : Int) (xs : List Int) (n : Int) : nStacks xs n ≤ nStacks (x :: xs) n := by simp only [nStacks]; omega
theorem ins_more (t : Int) : ∀ (l : List Int) (n : Int), t ∉ l → nStacks l n ≤ nStacks (insGo t false l) n ∧ g59 (insGo t false l) n ≤ g59 l n
  | [], n, _ => by
    simp only [insGo]
    refine ⟨nStacks_cons_le t [] n, ?_⟩
    rw [g59_cons]; omega
  | x :: xs, n, h => by
    have h1 : t ∉ xs := fun hh => h (List.mem_cons_of_mem _ hh)
    have h2 : x ≠ t := fun e => h (by rw [e]; exact List.mem_cons_self)
    simp only [insGo]
    by_cases hge : x ≥ t
    · rw [if_pos hge, if_neg h2, ins_true_id t xs h1]
      refine ⟨nStacks_cons_le t (x :: xs) n, ?_⟩
      rw [g59_cons t]; omega
    · rw [if_neg hge]
      obtain ⟨a1, a2⟩ := ins_more t xs n h1
      obtain ⟨b1, b2⟩ := ins_more t xs (n - x) h1
      refine ⟨by simp only [nStacks]; omega, ?_⟩
      rw [g59_cons, g59_cons]
      split <;> omega
theorem stacks_pos (l : List Int) (n : Int) (h0 : 0 ≤ n) (hx : ∀ x ∈ l, 1 ≤ x) (hl : l.length ≤ 200) : 0 < nStacks l n ↔ g59 l n < 258 := by
  rw [← count_all]
  have h := find_all l n h0 hx hl
  constructor
  · intro h1
    by_cases hg : g59 l n ≥ 258
    · rw [if_pos hg, List.find?_eq_none] at h
      obtain ⟨a, ha, hp⟩ := List.countP_pos_iff.1 h1
      exact absurd hp (h a ha)
    · omega
  · intro hg
    rw [if_neg (by omega)] at h
    exact List.countP_pos_iff.2 ⟨_, List.mem_of_find?_eq_some h, List.find?_some h⟩
theorem small_count (l : List Int) (n : Int) (hc : chk l = 0) (h9 : l.length ≤ 9) (h0 : 1 ≤ n ∧ n ≤ 100000) : countV l n = ((nStacks l n : Int), 0) := by
  obtain ⟨_, hasc⟩ := chk_zero.1 hc
  have h2 := nStacks_le l n
  have h3 : 2 ^ l.length ≤ 2 ^ 9 := Nat.pow_le_pow_right (by omega) h9
  have h4 := g46_is l n (fun x hx => (hasc.mem x hx).1) (by omega)
  have h5 : g46 l n = (nStacks l n : Int) := by omega
  unfold countV
  rw [givenE_of hc, if_pos h0, h5, if_neg (by decide), if_neg (by omega)]
theorem small_fewest (l : List Int) (n : Int) (hc : chk l = 0) (h0 : 1 ≤ n ∧ n ≤ 100000) : fewestV l n = if g59 l n ≥ 258 then ([], 6) else (pickV 0 l n, 0) := by
  unfold fewestV
  rw [givenE_of hc, if_pos h0, if_neg (by decide)]
end Go.Proofs.Ytgkgeodphgfgnaa.Pr
