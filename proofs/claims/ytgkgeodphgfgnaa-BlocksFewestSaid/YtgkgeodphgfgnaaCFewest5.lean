/- The statement's proof, part 5 of 6. -/
import Derived.Test.YtgkgeodphgfgnaaCFewest1
import Derived.Lib.SliceRun
import Derived.Test.YtgkgeodphgfgnaaCFewest4
import Derived.Test.YtgkgeodphgfgnaaCFewest2
import Derived.Test.YtgkgeodphgfgnaaCFewest3
-- Printed for this claim by a program of this session, over the kit's printer. Not trusted: Lean checks it.
namespace Go.Proofs.Ytgkgeodphgfgnaa.Pr
open Go.RowKit Go.Proofs.YtgkgeodphgfgnaaW.PrintWords Go.Proofs.YtgkgeodphgfgnaaW.PrintLast Go.Proofs.YtgkgeodphgfgnaaW.PrintMore
attribute [local go_sem] max2_int min2_int max_two min_two max_three min_three max_four min_four
set_option linter.unusedVariables false
set_option linter.unusedSimpArgs false

/-! ### metrolabref50_Total: function 24 -/
def metrolabref50_Total.l0 : Nat → List Int → List Int → Int → Int → Option (Int)
  | 0, _, _, _, _ => none
  | k + 1, x0, x1, x5, x6 => if x6 < (x1.length : Int) then (if 0 ≤ x6 then (if 0 ≤ (rd x1 x6) then (if (rd x1 x6) < (x0.length : Int) then (metrolabref50_Total.l0 k x0 x1 (wrap64 (x5 + (rd x0 (rd x1 x6)))) (wrap64 (x6 + 1))) else (none)) else (none)) else (none)) else (some x5)
def metrolabref50_Total.f (k : Nat) (l0 : List Int) (l1 : List Int) : Option (Int) := metrolabref50_Total.l0 k l0 l1 0 0
theorem metrolabref50_Total.mono_l : ∀ k, (∀ y0 y1 y2 y3, LeO (metrolabref50_Total.l0 k y0 y1 y2 y3) (metrolabref50_Total.l0 (k + 1) y0 y1 y2 y3))
  | 0 => fun _ _ _ _ r h => by simp [metrolabref50_Total.l0] at h
  | k + 1 => by
    have ih0 := metrolabref50_Total.mono_l k
    · intro y0 y1 y2 y3
      unfold metrolabref50_Total.l0
      repeat' first
      | (with_reducible exact ih0 _ _ _ _)
      | (with_reducible exact LeO.refl _)
      | (with_reducible exact LeO.none _)
      | (with_reducible refine LeO.ite ?_ ?_)
      | (with_reducible refine LeO.bind ?_ (fun _ => ?_))
      | exact ih0 _ _ _ _
      | exact LeO.none _
      | refine LeO.ite ?_ ?_
      | refine LeO.bind ?_ (fun _ => ?_)
theorem metrolabref50_Total.mono : ∀ a0 a1 k, LeO (metrolabref50_Total.f k a0 a1) (metrolabref50_Total.f (k + 1) a0 a1) := by
  intro a0 a1 k
  have ih0 := metrolabref50_Total.mono_l k
  unfold metrolabref50_Total.f
  repeat' first
      | (with_reducible exact ih0 _ _ _ _)
      | (with_reducible exact LeO.refl _)
      | (with_reducible exact LeO.none _)
      | (with_reducible refine LeO.ite ?_ ?_)
      | (with_reducible refine LeO.bind ?_ (fun _ => ?_))
      | exact ih0 _ _ _ _
      | exact LeO.none _
      | refine LeO.ite ?_ ?_
      | refine LeO.bind ?_ (fun _ => ?_)
set_option maxHeartbeats 8000000 in
set_option maxRecDepth 100000 in
theorem metrolabref50_Total.calls (k : Nat) (A0 : Option Addr) (c0 : Nat) (l0 : List Int) (A1 : Option Addr) (c1 : Nat) (l1 : List Int) (r : Int) (w : World) (hr0 : Kd.C (Kd.int .i64) w A0 l0.length l0) (hc0 : l0.length ≤ c0) (hr1 : Kd.C (Kd.int .i64) w A1 l1.length l1) (hc1 : l1.length ≤ c1) (h : metrolabref50_Total.f k l0 l1 = some r) :
    Calls Try.prog 24 #[.slice A0 l0.length c0, .slice A1 l1.length c1] w fun e w' => e = .returned (.int .i64 r) ∧ Drawn0 w w' := by
  have HR0 := Aside0.mk hr0
  have HC0 := Aside0.mk hc0
  clear hr0 hc0
  have HR1 := Aside0.mk hr1
  have HC1 := Aside0.mk hc1
  clear hr1 hc1
  have H : (metrolabref50_Total.l0 k l0 l1 0 0) = some r := h
  clear h
  have H' := Aside0.mk H
  clear H
  go_enter Try.func24, Try.ntmps24
  go_wp2
  go_loopg [5, 6] k (fun kq v5 v6 w' => ∃ (x5_1 : Int) (x6_1 : Int), v5 = .int .i64 x5_1 ∧ v6 = .int .i64 x6_1 ∧ Aside0 (metrolabref50_Total.l0 kq l0 l1 x5_1 x6_1 = some r) ∧ Aside0 (kq ≤ k) ∧ Drawn0 w w')
  case atStart => exact ⟨(0), (0), (by first | rfl | (simp; done) | (simp [*]; done)), (by first | rfl | (simp; done) | (simp [*]; done)), H', ⟨Nat.le_refl _⟩, by repeat (first | exact Drawn0.refl _ | apply Drawn0.step)⟩
  case round =>
    clear H'
    try clear c1
    try clear c2
    try clear p2
    obtain ⟨x5_1, x6_1, rfl, rfl, HA, HK1, ⟨m1, rfl⟩⟩ := hrel
    cases gk with
    | zero => exact absurd HA.out (by simp [metrolabref50_Total.l0])
    | succ k1 =>
      have H := HA.out
      clear HA
      simp only [metrolabref50_Total.l0] at H
      by_cases c3 : x6_1 < (l1.length : Int)
      · rw [if_pos c3] at H
        have c3b0 : decide (x6_1 < (l1.length : Int)) = true := decide_eq_true c3
        clear c3
        by_cases c4 : 0 ≤ x6_1
        · rw [if_pos c4] at H
          have c4b0 : decide (0 ≤ x6_1) = true := decide_eq_true c4
          clear c4
          by_cases c5 : 0 ≤ (rd l1 x6_1)
          · rw [if_pos c5] at H
            have c5b0 : decide (0 ≤ (rd l1 x6_1)) = true := decide_eq_true c5
            clear c5
            by_cases c6 : (rd l1 x6_1) < (l0.length : Int)
            · rw [if_pos c6] at H
              have c6b0 : decide ((rd l1 x6_1) < (l0.length : Int)) = true := decide_eq_true c6
              clear c6
              have H' := Aside0.mk H
              clear H
              have p205 : 0 ≤ (x6_1 : Int) := of_decide_eq_true (by first | (with_reducible assumption) | assumption)
              have q205 : x6_1 < (l1.length : Int) := of_decide_eq_true (by first | (with_reducible assumption) | assumption)
              obtain ⟨ad205, e205, hx205_0⟩ := Kd.at_int HR1.out x6_1 p205 q205
              cases e205
              replace p205 := eq_true p205
              replace q205 := eq_true q205
              have p206 : 0 ≤ ((rd l1 x6_1) : Int) := of_decide_eq_true (by first | (with_reducible assumption) | assumption)
              have q206 : (rd l1 x6_1) < (l0.length : Int) := of_decide_eq_true (by first | (with_reducible assumption) | assumption)
              obtain ⟨ad206, e206, hx206_0⟩ := Kd.at_int HR0.out (rd l1 x6_1) p206 q206
              cases e206
              replace p206 := eq_true p206
              replace q206 := eq_true q206
              go_wp2
              go_roundg k1
              case measure => have := HK1.out; omega
              case rel => exact ⟨(wrap64 (x5_1 + (rd l0 (rd l1 x6_1)))), (wrap64 (x6_1 + 1)), (by first | rfl | (simp; done) | (simp [*]; done)), (by first | rfl | (simp; done) | (simp [*]; done)), H', ⟨by have := HK1.out; omega⟩, by repeat (first | exact Drawn0.refl _ | apply Drawn0.step)⟩
            · rw [if_neg c6] at H
              exact absurd H (by simp)
          · rw [if_neg c5] at H
            exact absurd H (by simp)
        · rw [if_neg c4] at H
          exact absurd H (by simp)
      · rw [if_neg c3] at H
        have c3b0 : decide (x6_1 < (l1.length : Int)) = false := decide_eq_false c3
        clear c3
        obtain rfl := Option.some.inj H
        go_wp2
        go_ret
        exact ⟨by first | rfl | (simp; done) | (simp [*]; done), by repeat (first | exact Drawn0.refl _ | apply Drawn0.step)⟩

end Go.Proofs.Ytgkgeodphgfgnaa.Pr
-- Printed for this claim by a program of this session, over the kit's printer. Not trusted: Lean checks it.
namespace Go.Proofs.Ytgkgeodphgfgnaa.Pr
open Go.RowKit Go.Proofs.YtgkgeodphgfgnaaW.PrintWords Go.Proofs.YtgkgeodphgfgnaaW.PrintLast Go.Proofs.YtgkgeodphgfgnaaW.PrintMore
attribute [local go_sem] max2_int min2_int max_two min_two max_three min_three max_four min_four
set_option linter.unusedVariables false
set_option linter.unusedSimpArgs false

/-! ### metrolabref50_Stacks: function 48 -/
mutual
def metrolabref50_Stacks.l0 : Nat → Int → List (List Int) → List (List Int) → Int → Option ((List (List Int)))
  | 0, _, _, _, _ => none
  | k + 1, x0, x3, x4, x5 => if x5 < x0 then (metrolabref50_Stacks.l1 k x0 x3 x4 x5 ([] : List (List Int)) 0) else (some x3)
def metrolabref50_Stacks.l1 : Nat → Int → List (List Int) → List (List Int) → Int → List (List Int) → Int → Option ((List (List Int)))
  | 0, _, _, _, _, _, _ => none
  | k + 1, x0, x3, x4, x5, x6, x7 => if x7 < (x4.length : Int) then (if x5 > 0 then (if 0 ≤ x7 then (if 0 ≤ (wrap64 (x5 - 1)) then (if (wrap64 (x5 - 1)) < ((rd_L1 x4 x7).length : Int) then (metrolabref50_Stacks.j2 k x0 x3 x4 x5 x6 x7 (wrap64 ((rd (rd_L1 x4 x7) (wrap64 (x5 - 1))) + 1))) else (none)) else (none)) else (none)) else (metrolabref50_Stacks.j2 k x0 x3 x4 x5 x6 x7 0)) else (if x3.length + x6.length < 5864062014805 then (metrolabref50_Stacks.l0 k x0 (x3 ++ x6) x6 (wrap64 (x5 + 1))) else (none))
def metrolabref50_Stacks.j2 : Nat → Int → List (List Int) → List (List Int) → Int → List (List Int) → Int → Int → Option ((List (List Int)))
  | 0, _, _, _, _, _, _, _ => none
  | k + 1, x0, x3, x4, x5, x6, x7, x8 => metrolabref50_Stacks.l2 k x0 x3 x4 x5 x6 x7 x8
def metrolabref50_Stacks.l2 : Nat → Int → List (List Int) → List (List Int) → Int → List (List Int) → Int → Int → Option ((List (List Int)))
  | 0, _, _, _, _, _, _, _ => none
  | k + 1, x0, x3, x4, x5, x6, x7, x9 => if x9 < x0 then ((some (([] : List Int) : List Int)).bind fun y218 => (if 0 ≤ x7 then (if x7 < (x4.length : Int) then (if y218.length + (rd_L1 x4 x7).length < 17592186044416 then ((some (y218 ++ (rd_L1 x4 x7) : List Int)).bind fun y222 => (if y222.length < 17592186044416 then (if x6.length < 5864062014805 then (metrolabref50_Stacks.l2 k x0 x3 x4 x5 (x6 ++ [(y222 ++ [x9])]) x7 (wrap64 (x9 + 1))) else (none)) else (none))) else (none)) else (none)) else (none))) else (metrolabref50_Stacks.l1 k x0 x3 x4 x5 x6 (wrap64 (x7 + 1)))
end
def metrolabref50_Stacks.f (k : Nat) (a0 : Int) : Option ((List (List Int))) := metrolabref50_Stacks.l0 k a0 (([[]] : List (List Int))) (([[]] : List (List Int))) 0
theorem metrolabref50_Stacks.mono_l : ∀ k, (∀ y0 y1 y2 y3, LeO (metrolabref50_Stacks.l0 k y0 y1 y2 y3) (metrolabref50_Stacks.l0 (k + 1) y0 y1 y2 y3)) ∧ (∀ y0 y1 y2 y3 y4 y5, LeO (metrolabref50_Stacks.l1 k y0 y1 y2 y3 y4 y5) (metrolabref50_Stacks.l1 (k + 1) y0 y1 y2 y3 y4 y5)) ∧ (∀ y0 y1 y2 y3 y4 y5 y6, LeO (metrolabref50_Stacks.j2 k y0 y1 y2 y3 y4 y5 y6) (metrolabref50_Stacks.j2 (k + 1) y0 y1 y2 y3 y4 y5 y6)) ∧ (∀ y0 y1 y2 y3 y4 y5 y6, LeO (metrolabref50_Stacks.l2 k y0 y1 y2 y3 y4 y5 y6) (metrolabref50_Stacks.l2 (k + 1) y0 y1 y2 y3 y4 y5 y6))
  | 0 => ⟨fun _ _ _ _ r h => by simp [metrolabref50_Stacks.l0] at h, fun _ _ _ _ _ _ r h => by simp [metrolabref50_Stacks.l1] at h, fun _ _ _ _ _ _ _ r h => by simp [metrolabref50_Stacks.j2] at h, fun _ _ _ _ _ _ _ r h => by simp [metrolabref50_Stacks.l2] at h⟩
  | k + 1 => by
    obtain ⟨ih0, ih1, ih2, ih3⟩ := metrolabref50_Stacks.mono_l k
    refine ⟨?_, ?_, ?_, ?_⟩
    · intro y0 y1 y2 y3
      unfold metrolabref50_Stacks.l0
      repeat' first
      | (with_reducible exact ih0 _ _ _ _)
      | (with_reducible exact ih1 _ _ _ _ _ _)
      | (with_reducible exact ih2 _ _ _ _ _ _ _)
      | (with_reducible exact ih3 _ _ _ _ _ _ _)
      | (with_reducible exact LeO.refl _)
      | (with_reducible exact LeO.none _)
      | (with_reducible refine LeO.ite ?_ ?_)
      | (with_reducible refine LeO.bind ?_ (fun _ => ?_))
      | exact ih0 _ _ _ _
      | exact ih1 _ _ _ _ _ _
      | exact ih2 _ _ _ _ _ _ _
      | exact ih3 _ _ _ _ _ _ _
      | exact LeO.none _
      | refine LeO.ite ?_ ?_
      | refine LeO.bind ?_ (fun _ => ?_)
    · intro y0 y1 y2 y3 y4 y5
      unfold metrolabref50_Stacks.l1
      repeat' first
      | (with_reducible exact ih0 _ _ _ _)
      | (with_reducible exact ih1 _ _ _ _ _ _)
      | (with_reducible exact ih2 _ _ _ _ _ _ _)
      | (with_reducible exact ih3 _ _ _ _ _ _ _)
      | (with_reducible exact LeO.refl _)
      | (with_reducible exact LeO.none _)
      | (with_reducible refine LeO.ite ?_ ?_)
      | (with_reducible refine LeO.bind ?_ (fun _ => ?_))
      | exact ih0 _ _ _ _
      | exact ih1 _ _ _ _ _ _
      | exact ih2 _ _ _ _ _ _ _
      | exact ih3 _ _ _ _ _ _ _
      | exact LeO.none _
      | refine LeO.ite ?_ ?_
      | refine LeO.bind ?_ (fun _ => ?_)
    · intro y0 y1 y2 y3 y4 y5 y6
      unfold metrolabref50_Stacks.j2
      repeat' first
      | (with_reducible exact ih0 _ _ _ _)
      | (with_reducible exact ih1 _ _ _ _ _ _)
      | (with_reducible exact ih2 _ _ _ _ _ _ _)
      | (with_reducible exact ih3 _ _ _ _ _ _ _)
      | (with_reducible exact LeO.refl _)
      | (with_reducible exact LeO.none _)
      | (with_reducible refine LeO.ite ?_ ?_)
      | (with_reducible refine LeO.bind ?_ (fun _ => ?_))
      | exact ih0 _ _ _ _
      | exact ih1 _ _ _ _ _ _
      | exact ih2 _ _ _ _ _ _ _
      | exact ih3 _ _ _ _ _ _ _
      | exact LeO.none _
      | refine LeO.ite ?_ ?_
      | refine LeO.bind ?_ (fun _ => ?_)
    · intro y0 y1 y2 y3 y4 y5 y6
      unfold metrolabref50_Stacks.l2
      repeat' first
      | (with_reducible exact ih0 _ _ _ _)
      | (with_reducible exact ih1 _ _ _ _ _ _)
      | (with_reducible exact ih2 _ _ _ _ _ _ _)
      | (with_reducible exact ih3 _ _ _ _ _ _ _)
      | (with_reducible exact LeO.refl _)
      | (with_reducible exact LeO.none _)
      | (with_reducible refine LeO.ite ?_ ?_)
      | (with_reducible refine LeO.bind ?_ (fun _ => ?_))
      | exact ih0 _ _ _ _
      | exact ih1 _ _ _ _ _ _
      | exact ih2 _ _ _ _ _ _ _
      | exact ih3 _ _ _ _ _ _ _
      | exact LeO.none _
      | refine LeO.ite ?_ ?_
      | refine LeO.bind ?_ (fun _ => ?_)
theorem metrolabref50_Stacks.mono : ∀ a0 k, LeO (metrolabref50_Stacks.f k a0) (metrolabref50_Stacks.f (k + 1) a0) := by
  intro a0 k
  obtain ⟨ih0, ih1, ih2, ih3⟩ := metrolabref50_Stacks.mono_l k
  unfold metrolabref50_Stacks.f
  repeat' first
      | (with_reducible exact ih0 _ _ _ _)
      | (with_reducible exact ih1 _ _ _ _ _ _)
      | (with_reducible exact ih2 _ _ _ _ _ _ _)
      | (with_reducible exact ih3 _ _ _ _ _ _ _)
      | (with_reducible exact LeO.refl _)
      | (with_reducible exact LeO.none _)
      | (with_reducible refine LeO.ite ?_ ?_)
      | (with_reducible refine LeO.bind ?_ (fun _ => ?_))
      | exact ih0 _ _ _ _
      | exact ih1 _ _ _ _ _ _
      | exact ih2 _ _ _ _ _ _ _
      | exact ih3 _ _ _ _ _ _ _
      | exact LeO.none _
      | refine LeO.ite ?_ ?_
      | refine LeO.bind ?_ (fun _ => ?_)
set_option maxHeartbeats 8000000 in
set_option maxRecDepth 100000 in
theorem metrolabref50_Stacks.calls (k : Nat) (a0 : Int) (r : List (List Int)) (w : World) (h : metrolabref50_Stacks.f k a0 = some r) :
    Calls Try.prog 48 #[.int .i64 a0] w fun e w' => ∃ v0_ : Value, e = .returned (v0_) ∧ Kd.N (Kd.slice 3 (Kd.int .i64)) 22 w' w.heap.size (fun k_ => (w.heap.size ≤ k_)) v0_ r ∧ Below w.heap.size w w' := by
  have HB := Aside0.mk (Below.refl w.heap.size w)
  have H : (metrolabref50_Stacks.l0 k a0 (([[]] : List (List Int))) (([[]] : List (List Int))) 0) = some r := h
  clear h
  obtain ⟨y207, hy207⟩ : ∃ y_ : List (List Int), y_ = (([[]] : List (List Int))) := ⟨_, rfl⟩
  replace H : (metrolabref50_Stacks.l0 k a0 y207 (([[]] : List (List Int))) 0) = some r := by first | (rw [hy207]; with_reducible exact H) | (have H2_ := (Option.bind_some _ _).symm.trans H; rw [hy207]; with_reducible exact H2_) | (have H2_ := (Option.bind_some _ _).symm.trans H; with_reducible exact H2_) | with_reducible exact H | (rw [hy207]; exact H) | exact H
  have Ny207 := Aside0.mk hy207
  clear hy207
  obtain ⟨y210, hy210⟩ : ∃ y_ : List (List Int), y_ = (([[]] : List (List Int))) := ⟨_, rfl⟩
  replace H : (metrolabref50_Stacks.l0 k a0 y207 y210 0) = some r := by first | (rw [hy210]; with_reducible exact H) | (have H2_ := (Option.bind_some _ _).symm.trans H; rw [hy210]; with_reducible exact H2_) | (have H2_ := (Option.bind_some _ _).symm.trans H; with_reducible exact H2_) | with_reducible exact H | (rw [hy210]; exact H) | exact H
  have Ny210 := Aside0.mk hy210
  clear hy210
  have H' := Aside0.mk H
  clear H
  go_enter Try.func48, Try.ntmps48
  go_wp2_with (first | ((with_reducible refine gate_dst (N := 10) rfl ?_); refine Kd.N_lit (Kd.slice 3 (Kd.int .i64)) _ 22 ?hg (N' := 10) ?hd (xs := ([[]] : List (List Int))) (inner := [.slice none 0 0]) (ok := (fun k_ => (w.heap.size ≤ k_))) (okp := (fun k_ => (w.heap.size ≤ k_))) ?hr ?hp (fun _ hk => hk) ((show ∀ k_, w.heap.size ≤ k_ → (fun k_ => (w.heap.size ≤ k_)) k_ from fun k_ hk => (Nat.le_trans (below_size (by repeat (first | (with_reducible first | exact HB.out | apply below_alloc | apply pw_below_drewN | apply below_drew1) | exact HB.out))) hk)) _ (Nat.le_refl _)) (Below.refl _ _) (Nat.le_refl _) (by simp) ?_; (case hd => rfl); (case hg => rfl); (case hr => first | (go_simp; done) | (go_simp; rfl)); (case hp => exact (Reps.one (show Kd.FK (Kd.slice 3 (Kd.int .i64)) _ _ [] [.slice none 0 0] from (Kd.FK_slice_mk (Nat.le_refl _) (Kd.F_nil _ _ _))) (Reps.none _ _))); intro v208 w2 ho3 hb hg_ hnew_; clear hg_ hnew_; (first | rw [← Ny207.out] at ho3 | (simp only [Int.reduceToNat] at ho3; rw [← Ny207.out] at ho3)); have n0_ := Aside0.mk (Kd.N_lower ho3 (below_size (by repeat (first | (with_reducible first | exact HB.out | apply below_alloc | apply pw_below_drewN | apply below_drew1) | exact HB.out)))); have n1_ := Aside0.mk (below_step (by repeat (first | (with_reducible first | exact HB.out | apply below_alloc | apply pw_below_drewN | apply below_drew1) | exact HB.out)) hb); clear HB; have HO209 := n0_; have HB := n1_; clear n0_ n1_; clear hb ho3) | ((with_reducible refine gate_dst (N := 11) rfl ?_); refine Kd.N_lit (Kd.slice 3 (Kd.int .i64)) _ 22 ?hg (N' := 11) ?hd (xs := ([[]] : List (List Int))) (inner := [.slice none 0 0]) (ok := (fun k_ => (w.heap.size ≤ k_) ∧ some k_ ≠ (v208 : Value).ownBlock)) (okp := (fun k_ => (w.heap.size ≤ k_) ∧ some k_ ≠ (v208 : Value).ownBlock)) ?hr ?hp (fun _ hk => hk) ((show ∀ k_, w2.heap.size ≤ k_ → (fun k_ => (w.heap.size ≤ k_) ∧ some k_ ≠ (v208 : Value).ownBlock) k_ from fun k_ hk => ⟨(Nat.le_trans (below_size (by repeat (first | (with_reducible first | exact HB.out | apply below_alloc | apply pw_below_drewN | apply below_drew1) | exact HB.out))) hk), Kd.fresh' (Kd.N_lt (by (with_reducible repeat (first | apply Kd.N_alloc | apply Kd.N_drewN | apply Kd.N_drew)); exact HO209.out)) k_ hk⟩) _ (Nat.le_refl _)) (Below.refl _ _) (Nat.le_refl _) (by simp) ?_; (case hd => rfl); (case hg => rfl); (case hr => first | (go_simp; done) | (go_simp; rfl)); (case hp => exact (Reps.one (show Kd.FK (Kd.slice 3 (Kd.int .i64)) _ _ [] [.slice none 0 0] from (Kd.FK_slice_mk (Nat.le_refl _) (Kd.F_nil _ _ _))) (Reps.none _ _))); intro v211 w4 ho5 hb hg_ hnew_; clear hg_ hnew_; (first | rw [← Ny210.out] at ho5 | (simp only [Int.reduceToNat] at ho5; rw [← Ny210.out] at ho5)); have n0_ := Aside0.mk (Kd.N_elder' (by (with_reducible repeat (first | apply Kd.N_alloc | apply Kd.N_drewN | apply Kd.N_drew)); exact HO209.out) (Kd.N_base ho5) hb); have n1_ := Aside0.mk (Kd.N_lower ho5 (below_size (by repeat (first | (with_reducible first | exact HB.out | apply below_alloc | apply pw_below_drewN | apply below_drew1) | exact HB.out)))); have n2_ := Aside0.mk (below_step (by repeat (first | (with_reducible first | exact HB.out | apply below_alloc | apply pw_below_drewN | apply below_drew1) | exact HB.out)) hb); clear HO209; clear HB; have HO209 := n0_; have HO212 := n1_; have HB := n2_; clear n0_ n1_ n2_; clear hb ho5))
  go_loopg [3, 4, 5] k (fun kq v3 v4 v5 w' => ∃ (x3_1 : List (List Int)) (x4_1 : List (List Int)) (x5_1 : Int), v5 = .int .i64 x5_1 ∧ Aside0 (metrolabref50_Stacks.l0 kq a0 x3_1 x4_1 x5_1 = some r) ∧ Aside0 (kq ≤ k) ∧ Aside0 (Kd.N (Kd.slice 3 (Kd.int .i64)) 22 w' w.heap.size (fun k_ => (w.heap.size ≤ k_)) v3 x3_1) ∧ Aside0 (Kd.N (Kd.slice 3 (Kd.int .i64)) 22 w' w.heap.size (fun k_ => (w.heap.size ≤ k_) ∧ some k_ ≠ (v3 : Value).ownBlock) v4 x4_1) ∧ Aside0 (Below w.heap.size w w'))
  case atStart => exact ⟨(y207), (y210), (0), (by first | rfl | (simp; done) | (simp [*]; done)), H', ⟨Nat.le_refl _⟩, ⟨by (with_reducible repeat (first | apply Kd.N_alloc | apply Kd.N_drewN | apply Kd.N_drew)); exact Kd.N_mono HO209.out (fun _ hk => hk.1)⟩, ⟨by (with_reducible repeat (first | apply Kd.N_alloc | apply Kd.N_drewN | apply Kd.N_drew)); exact HO212.out⟩, ⟨by repeat (first | (with_reducible first | exact HB.out | apply below_alloc | apply pw_below_drewN | apply below_drew1) | exact HB.out)⟩⟩
  case round =>
    clear H'
    try clear p2
    try clear c4
    obtain ⟨x3_1, x4_1, x5_1, rfl, HA, HK1, HO_3, HO_4, HB⟩ := hrel
    cases gk with
    | zero => exact absurd HA.out (by simp [metrolabref50_Stacks.l0])
    | succ k1 =>
      have H := HA.out
      clear HA
      simp only [metrolabref50_Stacks.l0] at H
      by_cases c6 : x5_1 < a0
      · rw [if_pos c6] at H
        have c6b0 : decide (x5_1 < a0) = true := decide_eq_true c6
        clear c6
        have H' := Aside0.mk H
        clear H
        go_wp2
        go_loopg [6, 7] k1 (fun kq v6 v7 w' => ∃ (x6_2 : List (List Int)) (x7_2 : Int), v7 = .int .i64 x7_2 ∧ Aside0 (metrolabref50_Stacks.l1 kq a0 x3_1 x4_1 x5_1 x6_2 x7_2 = some r) ∧ Aside0 (kq ≤ k1) ∧ Aside0 (Kd.N (Kd.slice 3 (Kd.int .i64)) 22 w' w.heap.size (fun k_ => (w.heap.size ≤ k_) ∧ some k_ ≠ (v6 : Value).ownBlock) u3 x3_1) ∧ Aside0 (Kd.N (Kd.slice 3 (Kd.int .i64)) 22 w' w.heap.size (fun k_ => (w.heap.size ≤ k_) ∧ some k_ ≠ (u3 : Value).ownBlock ∧ some k_ ≠ (v6 : Value).ownBlock) u4 x4_1) ∧ Aside0 (Kd.N (Kd.slice 3 (Kd.int .i64)) 22 w' w.heap.size (fun k_ => (w.heap.size ≤ k_) ∧ some k_ ≠ (u3 : Value).ownBlock ∧ some k_ ≠ (u4 : Value).ownBlock) v6 x6_2) ∧ Aside0 (Below w.heap.size w w'))
        case atStart => exact ⟨(([] : List (List Int))), (0), (by first | rfl | (simp; done) | (simp [*]; done)), H', ⟨Nat.le_refl _⟩, ⟨by (with_reducible repeat (first | apply Kd.N_alloc | apply Kd.N_drewN | apply Kd.N_drew)); exact Kd.N_mono HO_3.out (fun _ hk => ⟨hk, (by simp [Value.ownBlock])⟩)⟩, ⟨by (with_reducible repeat (first | apply Kd.N_alloc | apply Kd.N_drewN | apply Kd.N_drew)); exact Kd.N_mono HO_4.out (fun _ hk => ⟨hk.1, ⟨hk.2, (by simp [Value.ownBlock])⟩⟩)⟩, ⟨by first | exact Kd.S_nil _ _ _ _ _ | exact Kd.N_nil _ _ _ _ _ | exact Kd.V_nil _ _ _ _ _ | exact Kd.Q_nil _ _ _ _ _ | exact Kd.R_nil _ _ _ _ _⟩, ⟨by repeat (first | (with_reducible first | exact HB.out | apply below_alloc | apply pw_below_drewN | apply below_drew1) | exact HB.out)⟩⟩
        case round =>
          clear H'
          try clear p2
          try clear c4
          try clear c6
          try clear c6b0
          try clear p2
          obtain ⟨x6_2, x7_2, rfl, HA, HK2, HO_3, HO_4, HO_6, HB⟩ := hrel
          cases gk with
          | zero => exact absurd HA.out (by simp [metrolabref50_Stacks.l1])
          | succ k2 =>
            have H := HA.out
            clear HA
            simp only [metrolabref50_Stacks.l1] at H
            by_cases c7 : x7_2 < (x4_1.length : Int)
            · rw [if_pos c7] at H
              have c7b0 : decide (x7_2 < (x4_1.length : Int)) = true := decide_eq_true c7
              clear c7
              have HC8 := Aside0.mk H
              clear H
              obtain ⟨Ao9, co9, eo9⟩ := Kd.N_slice HO_4.out
              subst eo9
              go_upto_if 24 with (fail)
              go_cut [8] (fun v8 wc => ∃ (kq : Nat) (x8_7 : Int), v8 = .int .i64 x8_7 ∧ Aside0 (metrolabref50_Stacks.j2 kq a0 x3_1 x4_1 x5_1 x6_2 x7_2 x8_7 = some r) ∧ Aside0 (kq ≤ k2) ∧ Aside0 (Kd.N (Kd.slice 3 (Kd.int .i64)) 22 wc w.heap.size (fun k_ => (w.heap.size ≤ k_) ∧ some k_ ≠ (u6 : Value).ownBlock) u3 x3_1) ∧ Aside0 (Kd.N (Kd.slice 3 (Kd.int .i64)) 22 wc w.heap.size (fun k_ => (w.heap.size ≤ k_) ∧ some k_ ≠ (u3 : Value).ownBlock ∧ some k_ ≠ (u6 : Value).ownBlock) (.slice Ao9 x4_1.length co9) x4_1) ∧ Aside0 (Kd.N (Kd.slice 3 (Kd.int .i64)) 22 wc w.heap.size (fun k_ => (w.heap.size ≤ k_) ∧ some k_ ≠ (u3 : Value).ownBlock ∧ some k_ ≠ ((.slice Ao9 x4_1.length co9) : Value).ownBlock) u6 x6_2) ∧ Aside0 (Below w.heap.size w wc))
              case first =>
                have H := HC8.out
                clear HC8
                by_cases c10 : x5_1 > 0
                · rw [if_pos c10] at H
                  have c10b0 : decide (0 < x5_1) = true := decide_eq_true c10
                  clear c10
                  (first | rw [c10b0] | (simp only [i64_w, i32_w]; rw [c10b0]) | skip)
                  by_cases c11 : 0 ≤ x7_2
                  · rw [if_pos c11] at H
                    have c11b0 : decide (0 ≤ x7_2) = true := decide_eq_true c11
                    clear c11
                    obtain ⟨ji12, hji12⟩ : ∃ j_ : Int, (wrap64 (x5_1 - 1)) = j_ := ⟨_, rfl⟩
                    replace H : (if 0 ≤ (ji12) then (if (ji12) < ((rd_L1 x4_1 x7_2).length : Int) then (metrolabref50_Stacks.j2 k2 a0 x3_1 x4_1 x5_1 x6_2 x7_2 (wrap64 ((rd (rd_L1 x4_1 x7_2) (ji12)) + 1))) else (none)) else (none)) = some r := by first | (rw [hji12] at H; exact H) | (simp only [hji12] at H ⊢; exact H)
                    have hji12w : (IntKind.i64.wrap (x5_1 - 1)) = ji12 := (i64_w _).trans hji12
                    by_cases c13 : 0 ≤ (ji12)
                    · rw [if_pos c13] at H
                      have c13b0 : decide (0 ≤ (ji12)) = true := decide_eq_true c13
                      clear c13
                      by_cases c14 : (ji12) < ((rd_L1 x4_1 x7_2).length : Int)
                      · rw [if_pos c14] at H
                        have c14b0 : decide ((ji12) < ((rd_L1 x4_1 x7_2).length : Int)) = true := decide_eq_true c14
                        clear c14
                        have H' := Aside0.mk H
                        clear H
                        have p216 : 0 ≤ (x7_2 : Int) := of_decide_eq_true (by first | (with_reducible assumption) | assumption)
                        have q216 : x7_2 < (x4_1.length : Int) := of_decide_eq_true (by first | (with_reducible assumption) | assumption)
                        obtain ⟨ad216, A216_0, c216_0, e216, hx216_0, hl216_0, hi216_0⟩ := at_L1 (Kd.N_reads' HO_4.out).2.2 x7_2 p216 q216
                        cases e216
                        obtain ⟨ce216, hce216, hMe216, hcc216⟩ := Kd.N_get HO_4.out [] x7_2 p216 (by first | exact q216 | exact of_decide_eq_true (by first | (with_reducible assumption) | assumption) | (have e_ := (Kd.N_reads' HO_4.out).1; omega))
                        obtain ⟨ua216_0, uc216_0, rfl, ul216_0, ge216_0⟩ := Kd.FK_slice_open hMe216
                        have hv216_0 := hcc216 0 _ rfl
                        rw [Nat.add_zero, show ((Kd.slice 3 (Kd.int .i64))).sz = 1 from rfl, Nat.mul_one] at hv216_0
                        replace hv216_0 := Option.some.inj (hv216_0.symm.trans hx216_0)
                        injection hv216_0 with hva_ hvn_ hvc_
                        rw [hva_] at ge216_0
                        rw [hvc_] at ul216_0
                        have HL216_0 := Aside0.mk (show Kd.V (Kd.int .i64) 3 _ w.heap.size _ _ (rd_L1 x4_1 x7_2) from Kd.V_mk ul216_0 ge216_0)
                        clear hva_ hvn_ hvc_ ge216_0 ul216_0
                        clear hcc216 hce216
                        have HR216_0 := Aside0.mk hi216_0
                        have HC216_0 := Aside0.mk hl216_0
                        clear hi216_0 hl216_0
                        replace p216 := eq_true p216
                        replace q216 := eq_true q216
                        have p217 : 0 ≤ ((ji12) : Int) := of_decide_eq_true (by first | (with_reducible assumption) | assumption)
                        have q217 : (ji12) < ((rd_L1 x4_1 x7_2).length : Int) := of_decide_eq_true (by first | (with_reducible assumption) | assumption)
                        obtain ⟨ad217, e217, hx217_0⟩ := Kd.at_int (by repeat (first | (with_reducible exact HR216_0.out) | (with_reducible refine Kd.C_alloc ?_ _) | (with_reducible refine Kd.C_drewN ?_ _) | (with_reducible refine Kd.C_drew ?_) | exact HR216_0.out)) (ji12) p217 q217
                        cases e217
                        replace p217 := eq_true p217
                        replace q217 := eq_true q217
                        go_wp2
                        go_meet
                        case rel => exact ⟨_, (wrap64 ((rd (rd_L1 x4_1 x7_2) (ji12)) + 1)), (by first | rfl | (simp; done) | (simp only [← hji12] <;> (first | rfl | simp)) | (simp [*]; done)), H', ⟨by have := HK1.out; have := HK2.out; first | omega | exact Nat.le_refl _⟩, ⟨by (with_reducible repeat (first | apply Kd.N_alloc | apply Kd.N_drewN | apply Kd.N_drew)); exact HO_3.out⟩, ⟨by (with_reducible repeat (first | apply Kd.N_alloc | apply Kd.N_drewN | apply Kd.N_drew)); exact HO_4.out⟩, ⟨by (with_reducible repeat (first | apply Kd.N_alloc | apply Kd.N_drewN | apply Kd.N_drew)); exact HO_6.out⟩, ⟨by repeat (first | (with_reducible first | exact HB.out | apply below_alloc | apply pw_below_drewN | apply below_drew1) | exact HB.out)⟩⟩
                      · rw [if_neg c14] at H
                        exact absurd H (by simp)
                    · rw [if_neg c13] at H
                      exact absurd H (by simp)
                  · rw [if_neg c11] at H
                    exact absurd H (by simp)
                · rw [if_neg c10] at H
                  have c10b0 : decide (0 < x5_1) = false := decide_eq_false c10
                  clear c10
                  (first | rw [c10b0] | (simp only [i64_w, i32_w]; rw [c10b0]) | skip)
                  have H' := Aside0.mk H
                  clear H
                  go_wp2
                  go_meet
                  case rel => exact ⟨_, (0), (by first | rfl | (simp; done) | (simp [*]; done)), H', ⟨by have := HK1.out; have := HK2.out; first | omega | exact Nat.le_refl _⟩, ⟨by (with_reducible repeat (first | apply Kd.N_alloc | apply Kd.N_drewN | apply Kd.N_drew)); exact HO_3.out⟩, ⟨by (with_reducible repeat (first | apply Kd.N_alloc | apply Kd.N_drewN | apply Kd.N_drew)); exact HO_4.out⟩, ⟨by (with_reducible repeat (first | apply Kd.N_alloc | apply Kd.N_drewN | apply Kd.N_drew)); exact HO_6.out⟩, ⟨by repeat (first | (with_reducible first | exact HB.out | apply below_alloc | apply pw_below_drewN | apply below_drew1) | exact HB.out)⟩⟩
              case rest =>
                clear HC8
                try clear c1
                try clear c2
                try clear p2
                try clear q2
                try clear hx2
                try clear c4
                try clear c6
                try clear c6b0
                try clear p6
                try clear c7
                try clear c7b0
                try clear c10
                try clear c10b0
                try clear c11
                try clear c11b0
                try clear c13
                try clear c13b0
                try clear c14
                try clear c14b0
                try clear hx216_0
                try clear hx217_0
                try clear p2
                try clear p216
                try clear p217
                try clear q216
                try clear q217
                obtain ⟨kq, x8_7, rfl, HA, HJ7, HO_3, HO_4, HO_6, HB⟩ := hcut
                cases kq with
                | zero => exact absurd HA.out (by simp [metrolabref50_Stacks.j2])
                | succ kj7 =>
                  have H := HA.out
                  clear HA
                  simp only [metrolabref50_Stacks.j2] at H
                  have H' := Aside0.mk H
                  clear H
                  go_wp2
                  go_loopg [6, 9] kj7 (fun kq v6 v9 w' => ∃ (x6_4 : List (List Int)) (x9_4 : Int), v9 = .int .i64 x9_4 ∧ Aside0 (metrolabref50_Stacks.l2 kq a0 x3_1 x4_1 x5_1 x6_4 x7_2 x9_4 = some r) ∧ Aside0 (kq ≤ kj7) ∧ Aside0 (Kd.N (Kd.slice 3 (Kd.int .i64)) 22 w' w.heap.size (fun k_ => (w.heap.size ≤ k_) ∧ some k_ ≠ (v6 : Value).ownBlock) u3 x3_1) ∧ Aside0 (Kd.N (Kd.slice 3 (Kd.int .i64)) 22 w' w.heap.size (fun k_ => (w.heap.size ≤ k_) ∧ some k_ ≠ (u3 : Value).ownBlock ∧ some k_ ≠ (v6 : Value).ownBlock) (.slice Ao9 x4_1.length co9) x4_1) ∧ Aside0 (Kd.N (Kd.slice 3 (Kd.int .i64)) 22 w' w.heap.size (fun k_ => (w.heap.size ≤ k_) ∧ some k_ ≠ (u3 : Value).ownBlock ∧ some k_ ≠ ((.slice Ao9 x4_1.length co9) : Value).ownBlock) v6 x6_4) ∧ Aside0 (Below w.heap.size w w'))
                  case atStart => exact ⟨(x6_2), (x8_7), (by first | rfl | (simp; done) | (simp [*]; done)), H', ⟨Nat.le_refl _⟩, ⟨by (with_reducible repeat (first | apply Kd.N_alloc | apply Kd.N_drewN | apply Kd.N_drew)); exact HO_3.out⟩, ⟨by (with_reducible repeat (first | apply Kd.N_alloc | apply Kd.N_drewN | apply Kd.N_drew)); exact HO_4.out⟩, ⟨by (with_reducible repeat (first | apply Kd.N_alloc | apply Kd.N_drewN | apply Kd.N_drew)); exact HO_6.out⟩, ⟨by repeat (first | (with_reducible first | exact HB.out | apply below_alloc | apply pw_below_drewN | apply below_drew1) | exact HB.out)⟩⟩
                  case round =>
                    clear H'
                    try clear c1
                    try clear c2
                    try clear p2
                    try clear q2
                    try clear hx2
                    try clear c4
                    try clear c6
                    try clear c6b0
                    try clear p6
                    try clear c7
                    try clear c7b0
                    try clear c10
                    try clear c10b0
                    try clear c11
                    try clear c11b0
                    try clear c13
                    try clear c13b0
                    try clear c14
                    try clear c14b0
                    try clear hx216_0
                    try clear hx217_0
                    try clear p2
                    try clear p216
                    try clear p217
                    try clear p6
                    try clear q2
                    try clear q216
                    try clear q217
                    obtain ⟨x6_4, x9_4, rfl, HA, HK4, HO_3, HO_4, HO_6, HB⟩ := hrel
                    cases gk with
                    | zero => exact absurd HA.out (by simp [metrolabref50_Stacks.l2])
                    | succ k4 =>
                      have H := HA.out
                      clear HA
                      simp only [metrolabref50_Stacks.l2] at H
                      by_cases c15 : x9_4 < a0
                      · rw [if_pos c15] at H
                        have c15b0 : decide (x9_4 < a0) = true := decide_eq_true c15
                        clear c15
                        obtain ⟨y218, hy218⟩ : ∃ y_ : List Int, y_ = (([] : List Int)) := ⟨_, rfl⟩
                        replace H : (if 0 ≤ x7_2 then (if x7_2 < (x4_1.length : Int) then (if y218.length + (rd_L1 x4_1 x7_2).length < 17592186044416 then ((some (y218 ++ (rd_L1 x4_1 x7_2) : List Int)).bind fun y222 => (if y222.length < 17592186044416 then (if x6_4.length < 5864062014805 then (metrolabref50_Stacks.l2 k4 a0 x3_1 x4_1 x5_1 (x6_4 ++ [(y222 ++ [x9_4])]) x7_2 (wrap64 (x9_4 + 1))) else (none)) else (none))) else (none)) else (none)) else (none)) = some r := by first | (rw [hy218]; with_reducible exact H) | (have H2_ := (Option.bind_some _ _).symm.trans H; rw [hy218]; with_reducible exact H2_) | (have H2_ := (Option.bind_some _ _).symm.trans H; with_reducible exact H2_) | with_reducible exact H | (rw [hy218]; exact H) | exact H
                        have Ny218 := Aside0.mk hy218
                        clear hy218
                        by_cases c16 : 0 ≤ x7_2
                        · rw [if_pos c16] at H
                          have c16b0 : decide (0 ≤ x7_2) = true := decide_eq_true c16
                          clear c16
                          by_cases c17 : x7_2 < (x4_1.length : Int)
                          · rw [if_pos c17] at H
                            have c17b0 : decide (x7_2 < (x4_1.length : Int)) = true := decide_eq_true c17
                            clear c17
                            by_cases c18 : y218.length + (rd_L1 x4_1 x7_2).length < 17592186044416
                            · rw [if_pos c18] at H
                              have LMc18 := Aside0.mk c18
                              clear c18
                              obtain ⟨y222, hy222⟩ : ∃ y_ : List Int, y_ = (y218 ++ (rd_L1 x4_1 x7_2)) := ⟨_, rfl⟩
                              replace H : (if y222.length < 17592186044416 then (if x6_4.length < 5864062014805 then (metrolabref50_Stacks.l2 k4 a0 x3_1 x4_1 x5_1 (x6_4 ++ [(y222 ++ [x9_4])]) x7_2 (wrap64 (x9_4 + 1))) else (none)) else (none)) = some r := by first | (rw [hy222]; with_reducible exact H) | (have H2_ := (Option.bind_some _ _).symm.trans H; rw [hy222]; with_reducible exact H2_) | (have H2_ := (Option.bind_some _ _).symm.trans H; with_reducible exact H2_) | with_reducible exact H | (rw [hy222]; exact H) | exact H
                              have Ny222 := Aside0.mk hy222
                              clear hy222
                              by_cases c19 : y222.length < 17592186044416
                              · rw [if_pos c19] at H
                                have LMc19 := Aside0.mk c19
                                clear c19
                                obtain ⟨y225, hy225⟩ : ∃ y_ : List Int, y_ = (y222 ++ [x9_4]) := ⟨_, rfl⟩
                                replace H : (if x6_4.length < 5864062014805 then (metrolabref50_Stacks.l2 k4 a0 x3_1 x4_1 x5_1 (x6_4 ++ [y225]) x7_2 (wrap64 (x9_4 + 1))) else (none)) = some r := by first | (rw [hy225]; with_reducible exact H) | (have H2_ := (Option.bind_some _ _).symm.trans H; rw [hy225]; with_reducible exact H2_) | (have H2_ := (Option.bind_some _ _).symm.trans H; with_reducible exact H2_) | with_reducible exact H | (rw [hy225]; exact H) | exact H
                                have Ny225 := Aside0.mk hy225
                                clear hy225
                                by_cases c20 : x6_4.length < 5864062014805
                                · rw [if_pos c20] at H
                                  have LMc20 := Aside0.mk c20
                                  clear c20
                                  obtain ⟨y228, hy228⟩ : ∃ y_ : List (List Int), y_ = (x6_4 ++ [y225]) := ⟨_, rfl⟩
                                  replace H : (metrolabref50_Stacks.l2 k4 a0 x3_1 x4_1 x5_1 y228 x7_2 (wrap64 (x9_4 + 1))) = some r := by first | (rw [hy228]; with_reducible exact H) | (have H2_ := (Option.bind_some _ _).symm.trans H; rw [hy228]; with_reducible exact H2_) | (have H2_ := (Option.bind_some _ _).symm.trans H; with_reducible exact H2_) | with_reducible exact H | (rw [hy228]; exact H) | exact H
                                  have Ny228 := Aside0.mk hy228
                                  clear hy228
                                  have H' := Aside0.mk H
                                  clear H
                                  go_wp2_with (first | ((with_reducible refine gate_dst (N := 41) rfl ?_); (try refine wpList_unguard rfl rfl ?_); refine Kd.R_lit (Kd.int .i64) _ 3 ?hg (N := 41) ?hd (xs := ([] : List Int)) (inner := []) (ok := fun _ => True) (okp := fun _ => True) ?hr ?hp (fun _ hk => hk) trivial (Below.refl _ _) (Nat.le_refl _) (by simp) ?_; (case hd => rfl); (case hg => rfl); (case hr => first | (go_simp; done) | (go_simp; rfl)); (case hp => exact (Reps.none _ _)); intro v219 w21 ho22 hb hg_ hnew_; clear hg_ hnew_; (first | rw [← Ny218.out] at ho22 | (simp only [Int.reduceToNat] at ho22; rw [← Ny218.out] at ho22)); have n0_ := Aside0.mk (Kd.N_elder' (by (with_reducible repeat (first | apply Kd.N_alloc | apply Kd.N_drewN | apply Kd.N_drew)); exact HO_3.out) (Kd.R_base ho22) hb); have n1_ := Aside0.mk (Kd.N_elder' (by (with_reducible repeat (first | apply Kd.N_alloc | apply Kd.N_drewN | apply Kd.N_drew)); exact HO_4.out) (Kd.R_base ho22) hb); have n2_ := Aside0.mk (Kd.N_elder' (by (with_reducible repeat (first | apply Kd.N_alloc | apply Kd.N_drewN | apply Kd.N_drew)); exact HO_6.out) (Kd.R_base ho22) hb); have n3_ := Aside0.mk (Kd.R_lower (Kd.R_newM (M := fun k_ => (w.heap.size ≤ k_)) ho22 (below_size (by repeat (first | (with_reducible first | exact HB.out | apply below_alloc | apply pw_below_drewN | apply below_drew1) | exact HB.out))) (fun k_ h_ => h_)) (below_size (by repeat (first | (with_reducible first | exact HB.out | apply below_alloc | apply pw_below_drewN | apply below_drew1) | exact HB.out)))); have n4_ := Aside0.mk (below_step (by repeat (first | (with_reducible first | exact HB.out | apply below_alloc | apply pw_below_drewN | apply below_drew1) | exact HB.out)) hb); clear HO_3; clear HO_4; clear HO_6; clear HB; have HO_3 := n0_; have HO_4 := n1_; have HO_6 := n2_; have HO220 := n3_; have HB := n4_; clear n0_ n1_ n2_ n3_ n4_; clear hb ho22; have p221 : 0 ≤ (x7_2 : Int) := of_decide_eq_true (by first | (with_reducible assumption) | assumption); have q221 : x7_2 < (x4_1.length : Int) := of_decide_eq_true (by first | (with_reducible assumption) | assumption); obtain ⟨ad221, A221_0, c221_0, e221, hx221_0, hl221_0, hi221_0⟩ := at_L1 (Kd.N_reads' HO_4.out).2.2 x7_2 p221 q221; cases e221; obtain ⟨ce221, hce221, hMe221, hcc221⟩ := Kd.N_get HO_4.out [] x7_2 p221 (by first | exact q221 | exact of_decide_eq_true (by first | (with_reducible assumption) | assumption) | (have e_ := (Kd.N_reads' HO_4.out).1; omega)); obtain ⟨ua221_0, uc221_0, rfl, ul221_0, ge221_0⟩ := Kd.FK_slice_open hMe221; have hv221_0 := hcc221 0 _ rfl; rw [Nat.add_zero, show ((Kd.slice 3 (Kd.int .i64))).sz = 1 from rfl, Nat.mul_one] at hv221_0; replace hv221_0 := Option.some.inj (hv221_0.symm.trans hx221_0); injection hv221_0 with hva_ hvn_ hvc_; rw [hva_] at ge221_0; rw [hvc_] at ul221_0; have HL221_0 := Aside0.mk (show Kd.V (Kd.int .i64) 3 _ w.heap.size _ _ (rd_L1 x4_1 x7_2) from Kd.V_mk ul221_0 ge221_0); clear hva_ hvn_ hvc_ ge221_0 ul221_0; clear hcc221 hce221; have HR221_0 := Aside0.mk hi221_0; have HC221_0 := Aside0.mk hl221_0; clear hi221_0 hl221_0; replace p221 := eq_true p221; replace q221 := eq_true q221) | ((with_reducible refine gate_builtin (b := .append) (xs := #[.tmp 41, .tmp 45]) rfl ?_); at_builtin; refine Kd.R_append_rows (Kd.int .i64) (w0 := w) w.heap.size rfl (.tmp 41) (.tmp 45) 22 3 (.int .i64 0) 8 rfl Try.underlying22 info3 rfl (by decide) (by omega) v219 y218 (rd_L1 x4_1 x7_2) _ _ _ (fun k_ => (w.heap.size ≤ k_)) (fun _ => False) rfl rfl ?aO ?aR (fun _ _ h => h) (fun _ h => h.elim) ?aF ?aB ?aS ?aL ?_; (case aR => repeat (first | exact (by repeat (first | (with_reducible exact HR221_0.out) | (with_reducible refine Kd.C_alloc ?_ _) | (with_reducible refine Kd.C_drewN ?_ _) | (with_reducible refine Kd.C_drew ?_) | exact HR221_0.out)) | (with_reducible refine Kd.C_alloc ?_ _) | (with_reducible refine Kd.C_drewN ?_ _) | (with_reducible refine Kd.C_drew ?_))); (case aB => exact (by repeat (first | (with_reducible first | exact HB.out | apply below_alloc | apply pw_below_drewN | apply below_drew1) | exact HB.out))); (case aF => exact (fun k_ hk => (Nat.le_trans (below_size (by repeat (first | (with_reducible first | exact HB.out | apply below_alloc | apply pw_below_drewN | apply below_drew1) | exact HB.out))) hk))); (case aO => exact (by (with_reducible repeat (first | apply Kd.R_alloc | apply Kd.R_drewN | apply Kd.R_drew)); exact Kd.R_mono HO220.out (fun _ hk => hk.1))); (case aS => exact (below_size (by repeat (first | (with_reducible first | exact HB.out | apply below_alloc | apply pw_below_drewN | apply below_drew1) | exact HB.out)))); (case aL => have := LMc18.out; omega); intro v223 w23 ho hb hg hat; rw [← Ny222.out] at ho; have n0_ := Aside0.mk (Kd.N_afterv (ok := (fun k_ => (w.heap.size ≤ k_) ∧ some k_ ≠ (u6 : Value).ownBlock)) (by (with_reducible repeat (first | apply Kd.N_alloc | apply Kd.N_drewN | apply Kd.N_drew)); exact HO_3.out) hg hat); have n1_ := Aside0.mk (Kd.N_afterv (ok := (fun k_ => (w.heap.size ≤ k_) ∧ some k_ ≠ (u3 : Value).ownBlock ∧ some k_ ≠ (u6 : Value).ownBlock)) (by (with_reducible repeat (first | apply Kd.N_alloc | apply Kd.N_drewN | apply Kd.N_drew)); exact HO_4.out) hg hat); have n2_ := Aside0.mk (Kd.N_afterv (ok := (fun k_ => (w.heap.size ≤ k_) ∧ some k_ ≠ (u3 : Value).ownBlock ∧ some k_ ≠ (.slice (some ad221) x4_1.length co9 : Value).ownBlock)) (by (with_reducible repeat (first | apply Kd.N_alloc | apply Kd.N_drewN | apply Kd.N_drew)); exact HO_6.out) hg hat); have n3_ := Aside0.mk (Kd.V_afterv (ok := (fun k_ => (w.heap.size ≤ k_) ∧ some k_ ≠ (u3 : Value).ownBlock ∧ some k_ ≠ (.slice (some ad221) x4_1.length co9 : Value).ownBlock ∧ some k_ ≠ (u6 : Value).ownBlock)) (by (with_reducible repeat (first | apply Kd.V_alloc | apply Kd.V_drewN | apply Kd.V_drew)); exact Kd.V_mono HL221_0.out (fun _ hk => ⟨⟨hk.1.1.1, ⟨hk.1.1.2.1, ⟨hk.2, hk.1.1.2.2⟩⟩⟩, hk.1.2⟩)) hg hat); have n4_ := Aside0.mk (hb); have n5_ := Aside0.mk (ho); clear HO_3; clear HO_4; clear HO_6; clear HL221_0; clear HB; clear HO220; have HO_3 := n0_; have HO_4 := n1_; have HO_6 := n2_; have HL221_0 := n3_; have HB := n4_; have HO224 := n5_; clear n0_ n1_ n2_ n3_ n4_ n5_; clear ho hb hg hat) | ((with_reducible refine gate_builtin (b := .append) (xs := #[.tmp 46, .tmp 48]) rfl ?_); at_builtin; refine Kd.R_append (Kd.int .i64) (w0 := w) w.heap.size rfl (.tmp 46) (.tmp 48) 22 3 (.int .i64 0) 8 rfl Try.underlying22 info3 rfl (by decide) (by omega) v223 y222 x9_4 [.int .i64 x9_4] (fun k_ => (w.heap.size ≤ k_)) (fun _ => False) rfl rfl ?aP (fun _ hk => hk.elim) ?aF ?aO ?aB ?aS ?aL ?_; (case aP => exact rfl); (case aB => exact (by repeat (first | (with_reducible first | exact HB.out | apply below_alloc | apply pw_below_drewN | apply below_drew1) | exact HB.out))); (case aF => exact (fun k_ hk => (Nat.le_trans (below_size (by repeat (first | (with_reducible first | exact HB.out | apply below_alloc | apply pw_below_drewN | apply below_drew1) | exact HB.out))) hk))); (case aO => exact (by (with_reducible repeat (first | apply Kd.R_alloc | apply Kd.R_drewN | apply Kd.R_drew)); exact HO224.out)); (case aS => exact (below_size (by repeat (first | (with_reducible first | exact HB.out | apply below_alloc | apply pw_below_drewN | apply below_drew1) | exact HB.out)))); (case aL => have := LMc19.out; omega); intro v226 w24 ho hb hg hat; rw [← Ny225.out] at ho; have n0_ := Aside0.mk (Kd.N_afterv (ok := (fun k_ => (w.heap.size ≤ k_) ∧ some k_ ≠ (u6 : Value).ownBlock)) (by (with_reducible repeat (first | apply Kd.N_alloc | apply Kd.N_drewN | apply Kd.N_drew)); exact HO_3.out) hg hat); have n1_ := Aside0.mk (Kd.N_afterv (ok := (fun k_ => (w.heap.size ≤ k_) ∧ some k_ ≠ (u3 : Value).ownBlock ∧ some k_ ≠ (u6 : Value).ownBlock)) (by (with_reducible repeat (first | apply Kd.N_alloc | apply Kd.N_drewN | apply Kd.N_drew)); exact HO_4.out) hg hat); have n2_ := Aside0.mk (Kd.N_afterv (ok := (fun k_ => (w.heap.size ≤ k_) ∧ some k_ ≠ (u3 : Value).ownBlock ∧ some k_ ≠ (.slice (some ad221) x4_1.length co9 : Value).ownBlock)) (by (with_reducible repeat (first | apply Kd.N_alloc | apply Kd.N_drewN | apply Kd.N_drew)); exact HO_6.out) hg hat); have n3_ := Aside0.mk (Kd.V_afterv (ok := (fun k_ => (w.heap.size ≤ k_) ∧ some k_ ≠ (u3 : Value).ownBlock ∧ some k_ ≠ (.slice (some ad221) x4_1.length co9 : Value).ownBlock ∧ some k_ ≠ (u6 : Value).ownBlock)) (by (with_reducible repeat (first | apply Kd.V_alloc | apply Kd.V_drewN | apply Kd.V_drew)); exact HL221_0.out) hg hat); have n4_ := Aside0.mk (hb); have n5_ := Aside0.mk (ho); clear HO_3; clear HO_4; clear HO_6; clear HL221_0; clear HB; clear HO224; have HO_3 := n0_; have HO_4 := n1_; have HO_6 := n2_; have HL221_0 := n3_; have HB := n4_; have HO227 := n5_; clear n0_ n1_ n2_ n3_ n4_ n5_; clear ho hb hg hat; obtain ⟨Ao26, co26, eo26⟩ := Kd.R_slice HO227.out; subst eo26) | ((with_reducible refine gate_builtin (b := .append) (xs := #[.tmp 40, .tmp 50]) rfl ?_); at_builtin; refine Kd.N_append (Kd.slice 3 (Kd.int .i64)) (w0 := w) w.heap.size rfl (.tmp 40) (.tmp 50) 70 22 (.slice none 0 0) 24 rfl Try.underlying70 info22 rfl (by decide) (by omega) u6 x6_4 y225 [.slice Ao26 y225.length co26] (fun k_ => (w.heap.size ≤ k_) ∧ some k_ ≠ (u3 : Value).ownBlock ∧ some k_ ≠ (.slice (some ad221) x4_1.length co9 : Value).ownBlock) (fun k_ => ((fun k_ => (w.heap.size ≤ k_) ∧ some k_ ≠ (u3 : Value).ownBlock ∧ some k_ ≠ (.slice (some ad221) x4_1.length co9 : Value).ownBlock)) k_ ∧ some k_ ≠ (u6 : Value).ownBlock) rfl rfl ?aP (fun _ hk => hk) ?aF ?aO ?aB ?aS ?aL ?_; (case aP => exact (Kd.FK_slice_mk (Kd.R_reads' (Kd.R_mono (ok' := (fun k_ => ((fun k_ => (w.heap.size ≤ k_) ∧ some k_ ≠ (u3 : Value).ownBlock ∧ some k_ ≠ (.slice (some ad221) x4_1.length co9 : Value).ownBlock)) k_ ∧ some k_ ≠ (u6 : Value).ownBlock)) (Kd.R_apart' (Kd.R_apart' (Kd.R_apart' (HO227.out) (Kd.N_typed HO_3.out) (by decide)) (Kd.N_typed HO_4.out) (by decide)) (Kd.N_typed HO_6.out) (by decide)) (fun k_ hk => ⟨⟨hk.1.1.1, ⟨hk.1.1.2, hk.1.2⟩⟩, hk.2⟩))).2.1 (Kd.R_F (Kd.R_mono (ok' := (fun k_ => ((fun k_ => (w.heap.size ≤ k_) ∧ some k_ ≠ (u3 : Value).ownBlock ∧ some k_ ≠ (.slice (some ad221) x4_1.length co9 : Value).ownBlock)) k_ ∧ some k_ ≠ (u6 : Value).ownBlock)) (Kd.R_apart' (Kd.R_apart' (Kd.R_apart' (HO227.out) (Kd.N_typed HO_3.out) (by decide)) (Kd.N_typed HO_4.out) (by decide)) (Kd.N_typed HO_6.out) (by decide)) (fun k_ hk => ⟨⟨hk.1.1.1, ⟨hk.1.1.2, hk.1.2⟩⟩, hk.2⟩))))); (case aB => exact (by repeat (first | (with_reducible first | exact HB.out | apply below_alloc | apply pw_below_drewN | apply below_drew1) | exact HB.out))); (case aF => exact (fun k_ hk => ⟨(Nat.le_trans (below_size (by repeat (first | (with_reducible first | exact HB.out | apply below_alloc | apply pw_below_drewN | apply below_drew1) | exact HB.out))) hk), Kd.fresh' (Kd.N_lt (by (with_reducible repeat (first | apply Kd.N_alloc | apply Kd.N_drewN | apply Kd.N_drew)); exact HO_3.out)) k_ hk, Kd.fresh' (Kd.N_lt (by (with_reducible repeat (first | apply Kd.N_alloc | apply Kd.N_drewN | apply Kd.N_drew)); exact HO_4.out)) k_ hk⟩)); (case aO => exact (by (with_reducible repeat (first | apply Kd.N_alloc | apply Kd.N_drewN | apply Kd.N_drew)); exact Kd.N_mono HO_6.out (fun _ hk => ⟨hk.1.1, ⟨hk.1.2.1, hk.1.2.2⟩⟩))); (case aS => exact (below_size (by repeat (first | (with_reducible first | exact HB.out | apply below_alloc | apply pw_below_drewN | apply below_drew1) | exact HB.out)))); (case aL => have := LMc20.out; omega); intro v229 w25 ho hb hg hat; rw [← Ny228.out] at ho; have n0_ := Aside0.mk (Kd.N_afterv (ok := (fun k_ => (w.heap.size ≤ k_) ∧ some k_ ≠ (.slice Ao26 y225.length co26 : Value).ownBlock)) (by (with_reducible repeat (first | apply Kd.N_alloc | apply Kd.N_drewN | apply Kd.N_drew)); exact Kd.N_mono HO_3.out (fun _ hk => ⟨⟨hk.1.1, hk.2⟩, hk.1.2⟩)) hg hat); have n1_ := Aside0.mk (Kd.N_afterv (ok := (fun k_ => (w.heap.size ≤ k_) ∧ some k_ ≠ (u3 : Value).ownBlock ∧ some k_ ≠ (.slice Ao26 y225.length co26 : Value).ownBlock)) (by (with_reducible repeat (first | apply Kd.N_alloc | apply Kd.N_drewN | apply Kd.N_drew)); exact Kd.N_mono HO_4.out (fun _ hk => ⟨⟨hk.1.1, ⟨hk.1.2.1, hk.2⟩⟩, hk.1.2.2⟩)) hg hat); have n2_ := Aside0.mk (Kd.V_afterv (ok := (fun k_ => (w.heap.size ≤ k_) ∧ some k_ ≠ (u3 : Value).ownBlock ∧ some k_ ≠ (.slice (some ad221) x4_1.length co9 : Value).ownBlock ∧ some k_ ≠ (.slice Ao26 y225.length co26 : Value).ownBlock)) (by (with_reducible repeat (first | apply Kd.V_alloc | apply Kd.V_drewN | apply Kd.V_drew)); exact Kd.V_mono HL221_0.out (fun _ hk => ⟨⟨hk.1.1, ⟨hk.1.2.1, ⟨hk.1.2.2.1, hk.2⟩⟩⟩, hk.1.2.2.2⟩)) hg hat); have n3_ := Aside0.mk (hb); have n4_ := Aside0.mk (ho); clear HO_3; clear HO_4; clear HL221_0; clear HB; clear HO_6; clear HO227; have HO_3 := n0_; have HO_4 := n1_; have HL221_0 := n2_; have HB := n3_; have HO230 := n4_; clear n0_ n1_ n2_ n3_ n4_; clear ho hb hg hat))
                                  go_roundg k4
                                  case measure => have := HK1.out; have := HK2.out; have := HJ7.out; have := HK4.out; omega
                                  case rel => exact ⟨(y228), (wrap64 (x9_4 + 1)), (by first | rfl | (simp; done) | (simp [*]; done)), H', ⟨by have := HK1.out; have := HK2.out; have := HJ7.out; have := HK4.out; omega⟩, ⟨by (with_reducible repeat (first | apply Kd.N_alloc | apply Kd.N_drewN | apply Kd.N_drew)); exact Kd.N_mono HO_3.out (fun _ hk => ⟨hk.1.1, hk.2⟩)⟩, ⟨by (with_reducible repeat (first | apply Kd.N_alloc | apply Kd.N_drewN | apply Kd.N_drew)); exact Kd.N_mono HO_4.out (fun _ hk => ⟨hk.1.1, ⟨hk.1.2.1, hk.2⟩⟩)⟩, ⟨by (with_reducible repeat (first | apply Kd.N_alloc | apply Kd.N_drewN | apply Kd.N_drew)); exact HO230.out⟩, ⟨by repeat (first | (with_reducible first | exact HB.out | apply below_alloc | apply pw_below_drewN | apply below_drew1) | exact HB.out)⟩⟩
                                · rw [if_neg c20] at H
                                  exact absurd H (by simp)
                              · rw [if_neg c19] at H
                                exact absurd H (by simp)
                            · rw [if_neg c18] at H
                              exact absurd H (by simp)
                          · rw [if_neg c17] at H
                            exact absurd H (by simp)
                        · rw [if_neg c16] at H
                          exact absurd H (by simp)
                      · rw [if_neg c15] at H
                        have c15b0 : decide (x9_4 < a0) = false := decide_eq_false c15
                        clear c15
                        have H' := Aside0.mk H
                        clear H
                        go_wp2
                        go_roundg k4
                        case measure => have := HK1.out; have := HK2.out; have := HJ7.out; have := HK4.out; omega
                        case rel => exact ⟨(x6_4), (wrap64 (x7_2 + 1)), (by first | rfl | (simp; done) | (simp [*]; done)), H', ⟨by have := HK1.out; have := HK2.out; have := HJ7.out; have := HK4.out; omega⟩, ⟨by (with_reducible repeat (first | apply Kd.N_alloc | apply Kd.N_drewN | apply Kd.N_drew)); exact HO_3.out⟩, ⟨by (with_reducible repeat (first | apply Kd.N_alloc | apply Kd.N_drewN | apply Kd.N_drew)); exact HO_4.out⟩, ⟨by (with_reducible repeat (first | apply Kd.N_alloc | apply Kd.N_drewN | apply Kd.N_drew)); exact HO_6.out⟩, ⟨by repeat (first | (with_reducible first | exact HB.out | apply below_alloc | apply pw_below_drewN | apply below_drew1) | exact HB.out)⟩⟩
            · rw [if_neg c7] at H
              have c7b0 : decide (x7_2 < (x4_1.length : Int)) = false := decide_eq_false c7
              clear c7
              by_cases c27 : x3_1.length + x6_2.length < 5864062014805
              · rw [if_pos c27] at H
                have LMc27 := Aside0.mk c27
                clear c27
                obtain ⟨y213, hy213⟩ : ∃ y_ : List (List Int), y_ = (x3_1 ++ x6_2) := ⟨_, rfl⟩
                replace H : (metrolabref50_Stacks.l0 k2 a0 y213 x6_2 (wrap64 (x5_1 + 1))) = some r := by first | (rw [hy213]; with_reducible exact H) | (have H2_ := (Option.bind_some _ _).symm.trans H; rw [hy213]; with_reducible exact H2_) | (have H2_ := (Option.bind_some _ _).symm.trans H; with_reducible exact H2_) | with_reducible exact H | (rw [hy213]; exact H) | exact H
                have Ny213 := Aside0.mk hy213
                clear hy213
                have H' := Aside0.mk H
                clear H
                obtain ⟨Ao28, co28, eo28⟩ := Kd.N_slice HO_4.out
                subst eo28
                obtain ⟨Ao30, co30, eo30⟩ := Kd.N_slice HO_6.out
                subst eo30
                go_wp2_with (first | ((with_reducible refine gate_builtin (b := .append) (xs := #[.tmp 52, .tmp 53]) rfl ?_); at_builtin; refine Kd.N_append_rows (Kd.slice 3 (Kd.int .i64)) (w0 := w) w.heap.size rfl (.tmp 52) (.tmp 53) 70 22 (.slice none 0 0) 24 rfl Try.underlying70 info22 rfl (by decide) (by omega) u3 x3_1 x6_2 _ _ _ (fun k_ => (w.heap.size ≤ k_)) (fun k_ => ((fun k_ => (w.heap.size ≤ k_))) k_ ∧ some k_ ≠ (u3 : Value).ownBlock) rfl rfl ?aO ?aR (fun _ hk => hk) ?aF ?aB ?aS ?aL ?_; (case aR => exact (by skip; exact Kd.N_F (Kd.N_mono (ok' := (fun k_ => ((fun k_ => (w.heap.size ≤ k_))) k_ ∧ some k_ ≠ (u3 : Value).ownBlock)) (HO_6.out) (fun k_ hk => ⟨hk.1, hk.2.1⟩)))); (case aB => exact (by repeat (first | (with_reducible first | exact HB.out | apply below_alloc | apply pw_below_drewN | apply below_drew1) | exact HB.out))); (case aF => exact (fun k_ hk => (Nat.le_trans (below_size (by repeat (first | (with_reducible first | exact HB.out | apply below_alloc | apply pw_below_drewN | apply below_drew1) | exact HB.out))) hk))); (case aO => exact (by (with_reducible repeat (first | apply Kd.N_alloc | apply Kd.N_drewN | apply Kd.N_drew)); exact Kd.N_mono HO_3.out (fun _ hk => hk.1))); (case aS => exact (below_size (by repeat (first | (with_reducible first | exact HB.out | apply below_alloc | apply pw_below_drewN | apply below_drew1) | exact HB.out)))); (case aL => have := LMc27.out; omega); intro v214 w29 ho hb hg hat; rw [← Ny213.out] at ho; have n0_ := Aside0.mk (Kd.N_afterv (ok := (fun k_ => (w.heap.size ≤ k_) ∧ some k_ ≠ (.slice Ao30 x6_2.length co30 : Value).ownBlock)) (by (with_reducible repeat (first | apply Kd.N_alloc | apply Kd.N_drewN | apply Kd.N_drew)); exact Kd.N_mono HO_4.out (fun _ hk => ⟨⟨hk.1, hk.2.2⟩, hk.2.1⟩)) hg hat); have n1_ := Aside0.mk (Kd.N_afterv (ok := (fun k_ => (w.heap.size ≤ k_) ∧ some k_ ≠ (.slice Ao28 x4_1.length co28 : Value).ownBlock)) (by (with_reducible repeat (first | apply Kd.N_alloc | apply Kd.N_drewN | apply Kd.N_drew)); exact Kd.N_mono HO_6.out (fun _ hk => ⟨⟨hk.1, hk.2.2⟩, hk.2.1⟩)) hg hat); have n2_ := Aside0.mk (hb); have n3_ := Aside0.mk (ho); clear HO_4; clear HO_6; clear HB; clear HO_3; have HO_4 := n0_; have HO_6 := n1_; have HB := n2_; have HO215 := n3_; clear n0_ n1_ n2_ n3_; clear ho hb hg hat))
                go_roundg k2
                case measure => have := HK1.out; have := HK2.out; omega
                case rel => exact ⟨(y213), (x6_2), (wrap64 (x5_1 + 1)), (by first | rfl | (simp; done) | (simp [*]; done)), H', ⟨by have := HK1.out; have := HK2.out; omega⟩, ⟨by (with_reducible repeat (first | apply Kd.N_alloc | apply Kd.N_drewN | apply Kd.N_drew)); exact HO215.out⟩, ⟨by (with_reducible repeat (first | apply Kd.N_alloc | apply Kd.N_drewN | apply Kd.N_drew)); exact Kd.N_mono HO_6.out (fun _ hk => ⟨hk.1.1, hk.2⟩)⟩, ⟨by repeat (first | (with_reducible first | exact HB.out | apply below_alloc | apply pw_below_drewN | apply below_drew1) | exact HB.out)⟩⟩
              · rw [if_neg c27] at H
                exact absurd H (by simp)
      · rw [if_neg c6] at H
        have c6b0 : decide (x5_1 < a0) = false := decide_eq_false c6
        clear c6
        obtain rfl := Option.some.inj H
        go_wp2
        go_ret
        exact ⟨_, by first | rfl | (simp [errW_none, errW_some] <;> rfl) | (simp [*, errW_none, errW_some] <;> rfl), by (with_reducible repeat (first | apply Kd.N_alloc | apply Kd.N_drewN | apply Kd.N_drew)); exact HO_3.out, by repeat (first | (with_reducible first | exact HB.out | apply below_alloc | apply pw_below_drewN | apply below_drew1) | exact HB.out)⟩

end Go.Proofs.Ytgkgeodphgfgnaa.Pr
/- The contract of the reference's Best: printed, then mended by hand; it tells where nil is returned. -/
namespace Go.Proofs.Ytgkgeodphgfgnaa.Pr
open Go.RowKit Go.Proofs.YtgkgeodphgfgnaaW.PrintWords Go.Proofs.YtgkgeodphgfgnaaW.PrintLast Go.Proofs.YtgkgeodphgfgnaaW.PrintMore
attribute [local go_sem] max2_int min2_int max_two min_two max_three min_three max_four min_four
set_option linter.unusedVariables false
set_option linter.unusedSimpArgs false

/-! ### metrolabref50_Best: function 41 -/
def metrolabref50_Best.l0 : Nat → List Int → Int → List (List Int) → Int → Option (List Int)
  | 0, _, _, _, _ => none
  | k + 1, x0, x1, x5, x6 => if x6 < (x5.length : Int) then (if 0 ≤ x6 then ((metrolabref50_Total.f k x0 (rd_L1 x5 x6)).bind fun t217 => (if t217 = x1 then (some (rd_L1 x5 x6)) else (metrolabref50_Best.l0 k x0 x1 x5 (wrap64 (x6 + 1))))) else (none)) else (some ([] : List Int))
def metrolabref50_Best.f (k : Nat) (l0 : List Int) (a1 : Int) : Option (List Int) := (metrolabref50_Stacks.f k (l0.length : Int)).bind fun t213 => (metrolabref50_Best.l0 k l0 a1 t213 0)
theorem metrolabref50_Best.mono_l : ∀ k, (∀ y0 y1 y2 y3, LeO (metrolabref50_Best.l0 k y0 y1 y2 y3) (metrolabref50_Best.l0 (k + 1) y0 y1 y2 y3))
  | 0 => fun _ _ _ _ r h => by simp [metrolabref50_Best.l0] at h
  | k + 1 => by
    have ih0 := metrolabref50_Best.mono_l k
    · intro y0 y1 y2 y3
      unfold metrolabref50_Best.l0
      repeat' first
      | (with_reducible exact ih0 _ _ _ _)
      | (with_reducible exact metrolabref50_Stacks.mono _ _)
      | (with_reducible exact metrolabref50_Total.mono _ _ _)
      | (with_reducible exact LeO.refl _)
      | (with_reducible exact LeO.none _)
      | (with_reducible refine LeO.ite ?_ ?_)
      | (with_reducible refine LeO.bind ?_ (fun _ => ?_))
      | exact ih0 _ _ _ _
      | exact metrolabref50_Stacks.mono _ _
      | exact metrolabref50_Total.mono _ _ _
      | exact LeO.none _
      | refine LeO.ite ?_ ?_
      | refine LeO.bind ?_ (fun _ => ?_)
theorem metrolabref50_Best.mono : ∀ a0 a1 k, LeO (metrolabref50_Best.f k a0 a1) (metrolabref50_Best.f (k + 1) a0 a1) := by
  intro a0 a1 k
  have ih0 := metrolabref50_Best.mono_l k
  unfold metrolabref50_Best.f
  repeat' first
      | (with_reducible exact ih0 _ _ _ _)
      | (with_reducible exact metrolabref50_Stacks.mono _ _)
      | (with_reducible exact metrolabref50_Total.mono _ _ _)
      | (with_reducible exact LeO.refl _)
      | (with_reducible exact LeO.none _)
      | (with_reducible refine LeO.ite ?_ ?_)
      | (with_reducible refine LeO.bind ?_ (fun _ => ?_))
      | exact ih0 _ _ _ _
      | exact metrolabref50_Stacks.mono _ _
      | exact metrolabref50_Total.mono _ _ _
      | exact LeO.none _
      | refine LeO.ite ?_ ?_
      | refine LeO.bind ?_ (fun _ => ?_)
def NilTold (n : Int) (r : List Int) (v : Value) : Prop := n ≠ 0 → r = [] → v = .slice none 0 0
theorem total_nil (k : Nat) (l : List Int) (t : Int) (h : metrolabref50_Total.f k l [] = some t) : t = 0 := by
  unfold metrolabref50_Total.f at h
  cases k with
  | zero => simp [metrolabref50_Total.l0] at h
  | succ k => simp only [metrolabref50_Total.l0] at h; rw [if_neg (by simp)] at h; exact (Option.some.inj h).symm
set_option maxHeartbeats 8000000 in
set_option maxRecDepth 100000 in
theorem metrolabref50_Best.calls2 (k : Nat) (A0 : Option Addr) (c0 : Nat) (l0 : List Int) (a1 : Int) (r : List Int) (w : World) (hr0 : Kd.C (Kd.int .i64) w A0 l0.length l0) (hc0 : l0.length ≤ c0) (h : metrolabref50_Best.f k l0 a1 = some r) :
    Calls Try.prog 41 #[.slice A0 l0.length c0, .int .i64 a1] w fun e w' => ∃ v0_ : Value, e = .returned (v0_) ∧ Kd.V (Kd.int .i64) 3 w' w.heap.size (fun k_ => (w.heap.size ≤ k_)) v0_ r ∧ Below w.heap.size w w' ∧ NilTold a1 r v0_ := by
  have HR0 := Aside0.mk hr0
  have HC0 := Aside0.mk hc0
  clear hr0 hc0
  have HB := Aside0.mk (Below.refl w.heap.size w)
  have H : ((metrolabref50_Stacks.f k (l0.length : Int)).bind fun t213 => (metrolabref50_Best.l0 k l0 a1 t213 0)) = some r := h
  clear h
  replace H := Option.bind_eq_some_iff.mp H
  obtain ⟨t213, A30, H⟩ := H
  replace H : (metrolabref50_Best.l0 k l0 a1 t213 0) = some r := H
  have A3 := Aside0.mk A30
  clear A30
  have H' := Aside0.mk H
  clear H
  go_enter Try.func41, Try.ntmps41
  go_wp2_with (first | ((with_reducible refine gate_callee (f := 48) rfl ?_); refine goesL_ (some 9) rfl rfl Try.func48 (by kernel_rfl) rfl #[.int .i64 (l0.length : Int)] rfl (by (try simp only [List.map_toArray, List.map_cons, List.map_nil]); first | done | rfl | (simp only [List.length_drop, List.length_take]; rfl)) ?_; (with_reducible refine (metrolabref50_Stacks.calls k (l0.length : Int) t213 _ A3.out).mono ?_); rintro e w4 ⟨v214, rfl, ho0, hb⟩; refine ⟨_, rfl, ?_⟩; have n0_ := Aside0.mk (Kd.N_lower (Kd.N_mono (ok' := fun k_ => (w.heap.size ≤ k_)) ho0 (fun k_ hk_ => (Nat.le_trans (below_size (by repeat (first | (with_reducible first | exact HB.out | apply below_alloc | apply pw_below_drewN | apply below_drew1) | exact HB.out))) hk_))) (below_size (by repeat (first | (with_reducible first | exact HB.out | apply below_alloc | apply pw_below_drewN | apply below_drew1) | exact HB.out)))); have n1_ := Aside0.mk (below_step (by repeat (first | (with_reducible first | exact HB.out | apply below_alloc | apply pw_below_drewN | apply below_drew1) | exact HB.out)) hb); clear HB; have HO215 := n0_; have HB := n1_; clear n0_ n1_; (try clear hb); (try clear hb2); (try clear hk); (try clear hi); (try clear ho0)))
  go_loopg [6] k (fun kq v6 w' => ∃ (x6_1 : Int), v6 = .int .i64 x6_1 ∧ Aside0 (metrolabref50_Best.l0 kq l0 a1 t213 x6_1 = some r) ∧ Aside0 (kq ≤ k) ∧ Aside0 (Kd.N (Kd.slice 3 (Kd.int .i64)) 22 w' w.heap.size (fun k_ => (w.heap.size ≤ k_)) v214 t213) ∧ Aside0 (Below w.heap.size w w'))
  case atStart => exact ⟨(0), (by first | rfl | (simp; done) | (simp [*]; done)), H', ⟨Nat.le_refl _⟩, ⟨by (with_reducible repeat (first | apply Kd.N_alloc | apply Kd.N_drewN | apply Kd.N_drew)); exact HO215.out⟩, ⟨by repeat (first | (with_reducible first | exact HB.out | apply below_alloc | apply pw_below_drewN | apply below_drew1) | exact HB.out)⟩⟩
  case round =>
    clear H'
    try clear p2
    try clear c4
    obtain ⟨x6_1, rfl, HA, HK1, HO_5, HB⟩ := hrel
    cases gk with
    | zero => exact absurd HA.out (by simp [metrolabref50_Best.l0])
    | succ k1 =>
      have H := HA.out
      clear HA
      simp only [metrolabref50_Best.l0] at H
      by_cases c5 : x6_1 < (t213.length : Int)
      · rw [if_pos c5] at H
        have c5b0 : decide (x6_1 < (t213.length : Int)) = true := decide_eq_true c5
        clear c5
        by_cases c6 : 0 ≤ x6_1
        · rw [if_pos c6] at H
          have c6b0 : decide (0 ≤ x6_1) = true := decide_eq_true c6
          clear c6
          replace H := Option.bind_eq_some_iff.mp H
          obtain ⟨t217, A70, H⟩ := H
          replace H : (if t217 = a1 then (some (rd_L1 t213 x6_1)) else (metrolabref50_Best.l0 k1 l0 a1 t213 (wrap64 (x6_1 + 1)))) = some r := H
          have A7 := Aside0.mk A70
          clear A70
          by_cases c8 : t217 = a1
          · rw [if_pos c8] at H
            have hc8_ := c8
            have c8b0 : (t217 == a1) = true := beq_iff_eq.mpr c8
            have c8b1 : (t217 != a1) = false := bne_eq_false_iff_eq.mpr c8
            clear c8
            obtain rfl := Option.some.inj H
            obtain ⟨Ao9, co9, eo9⟩ := Kd.N_slice HO_5.out
            subst eo9
            have p216 : 0 ≤ (x6_1 : Int) := of_decide_eq_true (by first | (with_reducible assumption) | assumption)
            have q216 : x6_1 < (t213.length : Int) := of_decide_eq_true (by first | (with_reducible assumption) | assumption)
            obtain ⟨ad216, A216_0, c216_0, e216, hx216_0, hl216_0, hi216_0⟩ := at_L1 (Kd.N_reads' HO_5.out).2.2 x6_1 p216 q216
            cases e216
            obtain ⟨ce216, hce216, hMe216, hcc216⟩ := Kd.N_get HO_5.out [] x6_1 p216 (by first | exact q216 | exact of_decide_eq_true (by first | (with_reducible assumption) | assumption) | (have e_ := (Kd.N_reads' HO_5.out).1; omega))
            obtain ⟨ua216_0, uc216_0, rfl, ul216_0, ge216_0⟩ := Kd.FK_slice_open hMe216
            have hv216_0 := hcc216 0 _ rfl
            rw [Nat.add_zero, show ((Kd.slice 3 (Kd.int .i64))).sz = 1 from rfl, Nat.mul_one] at hv216_0
            replace hv216_0 := Option.some.inj (hv216_0.symm.trans hx216_0)
            injection hv216_0 with hva_ hvn_ hvc_
            rw [hva_] at ge216_0
            rw [hvc_] at ul216_0
            have HL216_0 := Aside0.mk (show Kd.V (Kd.int .i64) 3 _ w.heap.size _ _ (rd_L1 t213 x6_1) from Kd.V_mk ul216_0 ge216_0)
            clear hva_ hvn_ hvc_ ge216_0 ul216_0
            clear hcc216 hce216
            have HR216_0 := Aside0.mk hi216_0
            have HC216_0 := Aside0.mk hl216_0
            clear hi216_0 hl216_0
            replace p216 := eq_true p216
            replace q216 := eq_true q216
            go_wp2_with (first | ((with_reducible refine gate_callee (f := 24) rfl ?_); refine goesL_ (some 21) rfl rfl Try.func24 (by kernel_rfl) rfl #[.slice A0 l0.length c0, .slice A216_0 (rd_L1 t213 x6_1).length c216_0] rfl (by (try simp only [List.map_toArray, List.map_cons, List.map_nil]); first | done | rfl | (simp only [List.length_drop, List.length_take]; rfl)) ?_; (with_reducible refine (metrolabref50_Total.calls k1 _ _ l0 _ _ (rd_L1 t213 x6_1) t217 _ ?side1 ?side2 ?side3 ?side4 A7.out).mono ?_); (case side1 => repeat (first | exact (Kd.C_below HR0.out HB.out) | (with_reducible refine Kd.C_alloc ?_ _) | (with_reducible refine Kd.C_drewN ?_ _) | (with_reducible refine Kd.C_drew ?_))); (case side2 => exact HC0.out); (case side3 => repeat (first | exact (by repeat (first | (with_reducible exact HR216_0.out) | (with_reducible refine Kd.C_alloc ?_ _) | (with_reducible refine Kd.C_drewN ?_ _) | (with_reducible refine Kd.C_drew ?_) | exact HR216_0.out)) | (with_reducible refine Kd.C_alloc ?_ _) | (with_reducible refine Kd.C_drewN ?_ _) | (with_reducible refine Kd.C_drew ?_))); (case side4 => exact HC216_0.out); rintro e w' ⟨rfl, ⟨nd, rfl⟩⟩; refine ⟨_, rfl, ?_⟩; have p218 : 0 ≤ (x6_1 : Int) := of_decide_eq_true (by first | (with_reducible assumption) | assumption); have q218 : x6_1 < (t213.length : Int) := of_decide_eq_true (by first | (with_reducible assumption) | assumption); obtain ⟨ad218, A218_0, c218_0, e218, hx218_0, hl218_0, hi218_0⟩ := at_L1 (Kd.N_reads' HO_5.out).2.2 x6_1 p218 q218; obtain rfl : ad216 = ad218 := (by injection e218); obtain ⟨ce218, hce218, hMe218, hcc218⟩ := Kd.N_get HO_5.out [] x6_1 p218 (by first | exact q218 | exact of_decide_eq_true (by first | (with_reducible assumption) | assumption) | (have e_ := (Kd.N_reads' HO_5.out).1; omega)); obtain ⟨ua218_0, uc218_0, rfl, ul218_0, ge218_0⟩ := Kd.FK_slice_open hMe218; have hv218_0 := hcc218 0 _ rfl; rw [Nat.add_zero, show ((Kd.slice 3 (Kd.int .i64))).sz = 1 from rfl, Nat.mul_one] at hv218_0; replace hv218_0 := Option.some.inj (hv218_0.symm.trans hx218_0); injection hv218_0 with hva_ hvn_ hvc_; rw [hva_] at ge218_0; rw [hvc_] at ul218_0; have HL218_0 := Aside0.mk (show Kd.V (Kd.int .i64) 3 _ w.heap.size _ _ (rd_L1 t213 x6_1) from Kd.V_mk ul218_0 ge218_0); clear hva_ hvn_ hvc_ ge218_0 ul218_0; clear hcc218 hce218; have HR218_0 := Aside0.mk hi218_0; have HC218_0 := Aside0.mk hl218_0; clear hi218_0 hl218_0; replace p218 := eq_true p218; replace q218 := eq_true q218; have ea_ := Option.some.inj (hx216_0.symm.trans hx218_0); injection ea_ with ea_ en_ ec_; subst ea_; subst ec_; clear en_))
            go_ret
            exact ⟨_, by first | rfl | (simp [errW_none, errW_some] <;> rfl) | (simp [*, errW_none, errW_some] <;> rfl), by (with_reducible repeat (first | apply Kd.V_alloc | apply Kd.V_drewN | apply Kd.V_drew)); exact Kd.V_mono HL218_0.out (fun _ hk => hk.1), by repeat (first | (with_reducible first | exact HB.out | apply below_alloc | apply pw_below_drewN | apply below_drew1) | exact HB.out), fun hz_ h_ => absurd (total_nil k1 l0 _ (by rw [← h_]; exact A7.out)) (by rw [hc8_]; exact hz_)⟩
          · rw [if_neg c8] at H
            have c8b0 : (t217 == a1) = false := beq_eq_false_iff_ne.mpr c8
            have c8b1 : (t217 != a1) = true := bne_iff_ne.mpr c8
            have H' := Aside0.mk H
            clear H
            obtain ⟨Ao10, co10, eo10⟩ := Kd.N_slice HO_5.out
            subst eo10
            have p216 : 0 ≤ (x6_1 : Int) := of_decide_eq_true (by first | (with_reducible assumption) | assumption)
            have q216 : x6_1 < (t213.length : Int) := of_decide_eq_true (by first | (with_reducible assumption) | assumption)
            obtain ⟨ad216, A216_0, c216_0, e216, hx216_0, hl216_0, hi216_0⟩ := at_L1 (Kd.N_reads' HO_5.out).2.2 x6_1 p216 q216
            cases e216
            obtain ⟨ce216, hce216, hMe216, hcc216⟩ := Kd.N_get HO_5.out [] x6_1 p216 (by first | exact q216 | exact of_decide_eq_true (by first | (with_reducible assumption) | assumption) | (have e_ := (Kd.N_reads' HO_5.out).1; omega))
            obtain ⟨ua216_0, uc216_0, rfl, ul216_0, ge216_0⟩ := Kd.FK_slice_open hMe216
            have hv216_0 := hcc216 0 _ rfl
            rw [Nat.add_zero, show ((Kd.slice 3 (Kd.int .i64))).sz = 1 from rfl, Nat.mul_one] at hv216_0
            replace hv216_0 := Option.some.inj (hv216_0.symm.trans hx216_0)
            injection hv216_0 with hva_ hvn_ hvc_
            rw [hva_] at ge216_0
            rw [hvc_] at ul216_0
            have HL216_0 := Aside0.mk (show Kd.V (Kd.int .i64) 3 _ w.heap.size _ _ (rd_L1 t213 x6_1) from Kd.V_mk ul216_0 ge216_0)
            clear hva_ hvn_ hvc_ ge216_0 ul216_0
            clear hcc216 hce216
            have HR216_0 := Aside0.mk hi216_0
            have HC216_0 := Aside0.mk hl216_0
            clear hi216_0 hl216_0
            replace p216 := eq_true p216
            replace q216 := eq_true q216
            go_wp2_with (first | ((with_reducible refine gate_callee (f := 24) rfl ?_); refine goesL_ (some 21) rfl rfl Try.func24 (by kernel_rfl) rfl #[.slice A0 l0.length c0, .slice A216_0 (rd_L1 t213 x6_1).length c216_0] rfl (by (try simp only [List.map_toArray, List.map_cons, List.map_nil]); first | done | rfl | (simp only [List.length_drop, List.length_take]; rfl)) ?_; (with_reducible refine (metrolabref50_Total.calls k1 _ _ l0 _ _ (rd_L1 t213 x6_1) t217 _ ?side1 ?side2 ?side3 ?side4 A7.out).mono ?_); (case side1 => repeat (first | exact (Kd.C_below HR0.out HB.out) | (with_reducible refine Kd.C_alloc ?_ _) | (with_reducible refine Kd.C_drewN ?_ _) | (with_reducible refine Kd.C_drew ?_))); (case side2 => exact HC0.out); (case side3 => repeat (first | exact (by repeat (first | (with_reducible exact HR216_0.out) | (with_reducible refine Kd.C_alloc ?_ _) | (with_reducible refine Kd.C_drewN ?_ _) | (with_reducible refine Kd.C_drew ?_) | exact HR216_0.out)) | (with_reducible refine Kd.C_alloc ?_ _) | (with_reducible refine Kd.C_drewN ?_ _) | (with_reducible refine Kd.C_drew ?_))); (case side4 => exact HC216_0.out); rintro e w' ⟨rfl, ⟨nd, rfl⟩⟩; refine ⟨_, rfl, ?_⟩))
            go_roundg k1
            case measure => have := HK1.out; omega
            case rel => exact ⟨(wrap64 (x6_1 + 1)), (by first | rfl | (simp; done) | (simp [*]; done)), H', ⟨by have := HK1.out; omega⟩, ⟨by (with_reducible repeat (first | apply Kd.N_alloc | apply Kd.N_drewN | apply Kd.N_drew)); exact HO_5.out⟩, ⟨by repeat (first | (with_reducible first | exact HB.out | apply below_alloc | apply pw_below_drewN | apply below_drew1) | exact HB.out)⟩⟩
        · rw [if_neg c6] at H
          exact absurd H (by simp)
      · rw [if_neg c5] at H
        have c5b0 : decide (x6_1 < (t213.length : Int)) = false := decide_eq_false c5
        clear c5
        obtain rfl := Option.some.inj H
        obtain ⟨Ao11, co11, eo11⟩ := Kd.N_slice HO_5.out
        subst eo11
        go_wp2
        go_ret
        exact ⟨.slice none 0 0, rfl, Kd.R_V (Kd.R_nil _ _ _ 0 _), HB.out, fun _ _ => rfl⟩

theorem metrolabref50_Best.calls (k : Nat) (A0 : Option Addr) (c0 : Nat) (l0 : List Int) (a1 : Int) (r : List Int) (w : World) (hr0 : Kd.C (Kd.int .i64) w A0 l0.length l0) (hc0 : l0.length ≤ c0) (h : metrolabref50_Best.f k l0 a1 = some r) :
    Calls Try.prog 41 #[.slice A0 l0.length c0, .int .i64 a1] w fun e w' => ∃ v0_ : Value, e = .returned (v0_) ∧ Kd.V (Kd.int .i64) 3 w' w.heap.size (fun k_ => (w.heap.size ≤ k_)) v0_ r ∧ Below w.heap.size w w' :=
  (metrolabref50_Best.calls2 k A0 c0 l0 a1 r w hr0 hc0 h).mono fun _ _ ⟨v, h1, h2, h3, _⟩ => ⟨v, h1, h2, h3⟩

end Go.Proofs.Ytgkgeodphgfgnaa.Pr
-- Printed for this claim by a program of this session, over the kit's printer. Not trusted: Lean checks it.
namespace Go.Proofs.Ytgkgeodphgfgnaa.Pr
open Go.RowKit Go.Proofs.YtgkgeodphgfgnaaW.PrintWords Go.Proofs.YtgkgeodphgfgnaaW.PrintLast Go.Proofs.YtgkgeodphgfgnaaW.PrintMore
attribute [local go_sem] max2_int min2_int max_two min_two max_three min_three max_four min_four
set_option linter.unusedVariables false
set_option linter.unusedSimpArgs false

/-! ### metrolabref50_inside: function 40 -/
def metrolabref50_inside.f (a0 : Int) : Option (Bool) := if a0 ≥ 1 then (some (decide (a0 ≤ 100000))) else (some false)
set_option maxHeartbeats 8000000 in
set_option maxRecDepth 100000 in
theorem metrolabref50_inside.calls (a0 : Int) (r : Bool) (w : World) (h : metrolabref50_inside.f a0 = some r) :
    Calls Try.prog 40 #[.int .i64 a0] w fun e w' => e = .returned (.bool r) ∧ Drawn0 w w' := by
  have H : (if a0 ≥ 1 then (some (decide (a0 ≤ 100000))) else (some false)) = some r := h
  clear h
  by_cases c2 : a0 ≥ 1
  · rw [if_pos c2] at H
    have c2b0 : decide (1 ≤ a0) = true := decide_eq_true c2
    clear c2
    obtain rfl := Option.some.inj H
    go_enter Try.func40, Try.ntmps40
    go_wp2
    go_ret
    exact ⟨by first | rfl | (simp; done) | (simp [*]; done), by repeat (first | exact Drawn0.refl _ | apply Drawn0.step)⟩
  · rw [if_neg c2] at H
    have c2b0 : decide (1 ≤ a0) = false := decide_eq_false c2
    clear c2
    obtain rfl := Option.some.inj H
    go_enter Try.func40, Try.ntmps40
    go_wp2
    go_ret
    exact ⟨by first | rfl | (simp; done) | (simp [*]; done), by repeat (first | exact Drawn0.refl _ | apply Drawn0.step)⟩

end Go.Proofs.Ytgkgeodphgfgnaa.Pr
/- The contract of the reference's Fewest. -/
namespace Go.Proofs.Ytgkgeodphgfgnaa.Pr
open Go.RowKit Go.Proofs.YtgkgeodphgfgnaaW.PrintWords Go.Proofs.YtgkgeodphgfgnaaW.PrintLast Go.Proofs.YtgkgeodphgfgnaaW.PrintMore

def metrolabref50_Fewest.f (k : Nat) (l0 : List Int) (a1 : Int) : Option (List Int × Int) := (metrolabref50_Check.f k l0).bind fun e => (if e = 0 then ((metrolabref50_inside.f a1).bind fun b => (if b = true then ((metrolabref50_Best.f k l0 a1).bind fun r => (if r = [] then (some ([], 6)) else (some (r, 0)))) else (some ([], 2)))) else (some ([], e)))
theorem metrolabref50_Fewest.mono : ∀ a0 a1 k, LeO (metrolabref50_Fewest.f k a0 a1) (metrolabref50_Fewest.f (k + 1) a0 a1) := by
  intro a0 a1 k
  unfold metrolabref50_Fewest.f
  repeat' first
      | (with_reducible exact metrolabref50_Check.mono _ _)
      | (with_reducible exact metrolabref50_Best.mono _ _ _)
      | (with_reducible exact LeO.refl _)
      | (with_reducible exact LeO.none _)
      | (with_reducible refine LeO.ite ?_ ?_)
      | (with_reducible refine LeO.bind ?_ (fun _ => ?_))
      | exact metrolabref50_Check.mono _ _
      | exact metrolabref50_Best.mono _ _ _
      | exact LeO.none _
      | refine LeO.ite ?_ ?_
      | refine LeO.bind ?_ (fun _ => ?_)

theorem metrolabref50_Fewest.calls (k : Nat) (A0 : Option Addr) (c0 : Nat) (l0 : List Int) (a1 : Int) (r1 : List Int) (r2 : Int) (w : World) (hr0 : Kd.C (Kd.int .i64) w A0 l0.length l0) (hc0 : l0.length ≤ c0) (h : metrolabref50_Fewest.f k l0 a1 = some (r1, r2)) :
    Calls Try.prog 14 #[.slice A0 l0.length c0, .int .i64 a1] w fun e w' => ∃ v0_ : Value, e = .returned (.tuple #[v0_, .int .i64 r2]) ∧ Kd.V (Kd.int .i64) 3 w' w.heap.size (fun k_ => (w.heap.size ≤ k_)) v0_ r1 ∧ Below w.heap.size w w' := by
  unfold metrolabref50_Fewest.f at h
  obtain ⟨e, he, h⟩ := Option.bind_eq_some_iff.mp h
  have HE := Aside0.mk (metrolabref50_Check.calls k A0 c0 l0 e w hr0 hc0 he)
  have HR := Aside0.mk hr0
  have HC := Aside0.mk hc0
  clear he hr0 hc0
  by_cases e0 : e = 0
  · subst e0
    rw [if_pos rfl] at h
    obtain ⟨b, hb, h⟩ := Option.bind_eq_some_iff.mp h
    have HI := Aside0.mk (fun W => metrolabref50_inside.calls a1 b W hb)
    have HB0 := Aside0.mk hb
    clear hb
    cases b with
    | true =>
      rw [if_pos rfl] at h
      obtain ⟨r, hr, h⟩ := Option.bind_eq_some_iff.mp h
      have HBc := Aside0.mk (fun W hrr => metrolabref50_Best.calls2 k A0 c0 l0 a1 r W hrr HC.out hr)
      clear hr
      have HA := Aside0.mk (show a1 ≠ 0 from by
        have := HB0.out
        unfold metrolabref50_inside.f at this
        intro h0
        rw [h0] at this
        simp at this)
      by_cases er : r = []
      · have HX := Aside0.mk (show (([] : List Int), (6 : Int)) = (r1, r2) from by rw [if_pos er] at h; exact Option.some.inj h)
        have HER := Aside0.mk er
        clear er h
        have e1 := Aside0.mk (show ([] : List Int) = r1 from congrArg Prod.fst HX.out)
        have e2 := Aside0.mk (show (6 : Int) = r2 from congrArg Prod.snd HX.out)
        have hnil : ∀ W : World, (binOp .eql 22 (.slice none 0 0) (.slice none 0 0)).run Try.prog W = .ok (.bool true) W := fun W => by rw [Lib.run_eql_slice_nil W 22 3 none 0 0 0 0 Try.underlying22]; rfl
        go_enter Try.func14, Try.ntmps14
        go_wp2_with (first
          | (go_at_call 28; (with_reducible refine HE.out.mono ?_); rintro e w1 ⟨rfl, ⟨q1, rfl⟩⟩)
          | (go_at_call 40; (with_reducible refine (HI.out _).mono ?_); rintro e w2 ⟨rfl, ⟨q2, rfl⟩⟩)
          | (go_at_call 41; (with_reducible refine (HBc.out _ (Kd.C_drewN HR.out _)).mono ?_); rintro e w3 ⟨v, rfl, hv, hb3, hn⟩; have HB3 := Aside0.mk hb3; obtain rfl := hn HA.out HER.out; clear hv hb3 hn))
        go_ret2
        exact ⟨_, by rw [← e2.out]; rfl, by rw [← e1.out]; exact Kd.R_V (Kd.R_nil _ _ _ 0 _), below_then (pw_below_drewN (Below.refl _ _) _) (Nat.le_refl _) HB3.out⟩
      · have HX := Aside0.mk (show (r, (0 : Int)) = (r1, r2) from by rw [if_neg er] at h; exact Option.some.inj h)
        have HER := Aside0.mk er
        clear er h
        have e1 := Aside0.mk (show r = r1 from congrArg Prod.fst HX.out)
        have e2 := Aside0.mk (show (0 : Int) = r2 from congrArg Prod.snd HX.out)
        go_enter Try.func14, Try.ntmps14
        go_upto_region 7 with (first
          | (go_at_call 28; (with_reducible refine HE.out.mono ?_); rintro e w1 ⟨rfl, ⟨q1, rfl⟩⟩)
          | (go_at_call 40; (with_reducible refine (HI.out _).mono ?_); rintro e w2 ⟨rfl, ⟨q2, rfl⟩⟩)
          | (go_at_call 41; (with_reducible refine (HBc.out _ (Kd.C_drewN HR.out _)).mono ?_); rintro e w3 ⟨v, rfl, hv, hb3, hn⟩; have HB3 := Aside0.mk hb3; have HVV := Aside0.mk hv; clear hv hb3 hn))
        obtain ⟨A, c, ev⟩ := Kd.V_slice HVV.out
        subst ev
        obtain ⟨_, _, hC⟩ := Kd.V_reads' HVV.out
        obtain ⟨ad, hA, _⟩ := hC.2.2 (by
          have := HER.out
          cases r with
          | nil => exact absurd rfl this
          | cons _ _ => simp)
        subst hA
        have hne : ∀ W : World, (binOp .eql 22 (.slice (some ad) r.length c) (.slice none 0 0)).run Try.prog W = .ok (.bool false) W := fun W => by rw [Lib.run_eql_slice_nil W 22 3 (some ad) r.length c 0 0 Try.underlying22]; rfl
        go_wp2
        go_ret2
        exact ⟨_, by rw [← e2.out]; rfl, by rw [← e1.out]; exact HVV.out, below_then (pw_below_drewN (Below.refl _ _) _) (Nat.le_refl _) HB3.out⟩
    | false =>
      rw [if_neg (by simp)] at h
      have HX := Aside0.mk (show (([] : List Int), (2 : Int)) = (r1, r2) from Option.some.inj h)
      have e1 := Aside0.mk (show ([] : List Int) = r1 from congrArg Prod.fst HX.out)
      have e2 := Aside0.mk (show (2 : Int) = r2 from congrArg Prod.snd HX.out)
      clear h HX
      go_enter Try.func14, Try.ntmps14
      go_wp2_with (first
        | (go_at_call 28; (with_reducible refine HE.out.mono ?_); rintro e w1 ⟨rfl, ⟨q1, rfl⟩⟩)
        | (go_at_call 40; (with_reducible refine (HI.out _).mono ?_); rintro e w2 ⟨rfl, ⟨q2, rfl⟩⟩))
      go_ret2
      exact ⟨_, by rw [← e2.out]; rfl, by rw [← e1.out]; exact Kd.R_V (Kd.R_nil _ _ _ 0 _), pw_below_drewN (Below.refl _ _) _⟩
  · have HX := Aside0.mk (show (([] : List Int), e) = (r1, r2) from by rw [if_neg e0] at h; exact Option.some.inj h)
    have e1 := Aside0.mk (show ([] : List Int) = r1 from congrArg Prod.fst HX.out)
    have e2 := Aside0.mk (show e = r2 from congrArg Prod.snd HX.out)
    have hg1 : (e != 0) = true := bne_iff_ne.mpr e0
    have hg2 : (e == 0) = false := beq_eq_false_iff_ne.mpr e0
    clear h HX e0
    go_enter Try.func14, Try.ntmps14
    go_wp2_with (go_at_call 28; (with_reducible refine HE.out.mono ?_); rintro e w1 ⟨rfl, ⟨q1, rfl⟩⟩)
    go_ret2
    exact ⟨_, by rw [← e2.out]; rfl, by rw [← e1.out]; exact Kd.R_V (Kd.R_nil _ _ _ 0 _), pw_below_drewN (Below.refl _ _) _⟩

end Go.Proofs.Ytgkgeodphgfgnaa.Pr
-- Printed for this claim by a program of this session, over the kit's printer. Not trusted: Lean checks it.
namespace Go.Proofs.Ytgkgeodphgfgnaa.Pr
open Go.RowKit Go.Proofs.YtgkgeodphgfgnaaW.PrintWords Go.Proofs.YtgkgeodphgfgnaaW.PrintLast Go.Proofs.YtgkgeodphgfgnaaW.PrintMore
attribute [local go_sem] max2_int min2_int max_two min_two max_three min_three max_four min_four
set_option linter.unusedVariables false
set_option linter.unusedSimpArgs false

/-! ### metrolablaw50_BlocksFewest: function 3 -/
def metrolablaw50_BlocksFewest.f (k : Nat) (l0 : List Int) (a1 : Int) : Option (Bool) := (metrolabref50_Few.f k l0).bind fun t175 => (if t175 = true then ((blocks_Fewest.f k l0 a1).bind fun bt177 => ((metrolabref50_Fewest.f k l0 a1).bind fun bt181 => ((slices_Equal_int_int.f k bt177.1 bt181.1).bind fun t185 => (if t185 = true then (if bt177.2 = bt181.2 then ((metrolablaw50_awake.f k).bind fun t186 => (some t186)) else (some false)) else (some false))))) else ((metrolablaw50_awake.f k).bind fun t176 => (some t176)))
theorem metrolablaw50_BlocksFewest.mono : ∀ a0 a1 k, LeO (metrolablaw50_BlocksFewest.f k a0 a1) (metrolablaw50_BlocksFewest.f (k + 1) a0 a1) := by
  intro a0 a1 k
  unfold metrolablaw50_BlocksFewest.f
  repeat' first
      | (with_reducible exact blocks_Fewest.mono _ _ _)
      | (with_reducible exact metrolablaw50_awake.mono _)
      | (with_reducible exact metrolabref50_Few.mono _ _)
      | (with_reducible exact metrolabref50_Fewest.mono _ _ _)
      | (with_reducible exact slices_Equal_int_int.mono _ _ _)
      | (with_reducible exact LeO.refl _)
      | (with_reducible exact LeO.none _)
      | (with_reducible refine LeO.ite ?_ ?_)
      | (with_reducible refine LeO.bind ?_ (fun _ => ?_))
      | exact blocks_Fewest.mono _ _ _
      | exact metrolablaw50_awake.mono _
      | exact metrolabref50_Few.mono _ _
      | exact metrolabref50_Fewest.mono _ _ _
      | exact slices_Equal_int_int.mono _ _ _
      | exact LeO.none _
      | refine LeO.ite ?_ ?_
      | refine LeO.bind ?_ (fun _ => ?_)
set_option maxHeartbeats 8000000 in
set_option maxRecDepth 100000 in
theorem metrolablaw50_BlocksFewest.calls (k : Nat) (A0 : Option Addr) (c0 : Nat) (l0 : List Int) (a1 : Int) (r : Bool) (w : World) (hr0 : Kd.C (Kd.int .i64) w A0 l0.length l0) (hc0 : l0.length ≤ c0) (h : metrolablaw50_BlocksFewest.f k l0 a1 = some r) :
    Calls Try.prog 3 #[.slice A0 l0.length c0, .int .i64 a1] w fun e w' => e = .returned (.bool r) ∧ Below w.heap.size w w' := by
  have HR0 := Aside0.mk hr0
  have HC0 := Aside0.mk hc0
  clear hr0 hc0
  have HB := Aside0.mk (Below.refl w.heap.size w)
  have H : ((metrolabref50_Few.f k l0).bind fun t175 => (if t175 = true then ((blocks_Fewest.f k l0 a1).bind fun bt177 => ((metrolabref50_Fewest.f k l0 a1).bind fun bt181 => ((slices_Equal_int_int.f k bt177.1 bt181.1).bind fun t185 => (if t185 = true then (if bt177.2 = bt181.2 then ((metrolablaw50_awake.f k).bind fun t186 => (some t186)) else (some false)) else (some false))))) else ((metrolablaw50_awake.f k).bind fun t176 => (some t176)))) = some r := h
  clear h
  replace H := Option.bind_eq_some_iff.mp H
  obtain ⟨t175, A30, H⟩ := H
  replace H : (if t175 = true then ((blocks_Fewest.f k l0 a1).bind fun bt177 => ((metrolabref50_Fewest.f k l0 a1).bind fun bt181 => ((slices_Equal_int_int.f k bt177.1 bt181.1).bind fun t185 => (if t185 = true then (if bt177.2 = bt181.2 then ((metrolablaw50_awake.f k).bind fun t186 => (some t186)) else (some false)) else (some false))))) else ((metrolablaw50_awake.f k).bind fun t176 => (some t176))) = some r := H
  have A3 := Aside0.mk A30
  clear A30
  by_cases c4 : t175 = true
  · subst c4
    have H1 : ((blocks_Fewest.f k l0 a1).bind fun bt177 => ((metrolabref50_Fewest.f k l0 a1).bind fun bt181 => ((slices_Equal_int_int.f k bt177.1 bt181.1).bind fun t185 => (if t185 = true then (if bt177.2 = bt181.2 then ((metrolablaw50_awake.f k).bind fun t186 => (some t186)) else (some false)) else (some false))))) = some r := by rw [if_pos rfl] at H; exact H
    clear H
    have H := H1
    clear H1
    replace H := Option.bind_eq_some_iff.mp H
    obtain ⟨⟨t177, t178⟩, A50, H⟩ := H
    replace H : ((metrolabref50_Fewest.f k l0 a1).bind fun bt181 => ((slices_Equal_int_int.f k t177 bt181.1).bind fun t185 => (if t185 = true then (if t178 = bt181.2 then ((metrolablaw50_awake.f k).bind fun t186 => (some t186)) else (some false)) else (some false)))) = some r := H
    have A5 := Aside0.mk A50
    clear A50
    replace H := Option.bind_eq_some_iff.mp H
    obtain ⟨⟨t181, t184⟩, A60, H⟩ := H
    replace H : ((slices_Equal_int_int.f k t177 t181).bind fun t185 => (if t185 = true then (if t178 = t184 then ((metrolablaw50_awake.f k).bind fun t186 => (some t186)) else (some false)) else (some false))) = some r := H
    have A6 := Aside0.mk A60
    clear A60
    replace H := Option.bind_eq_some_iff.mp H
    obtain ⟨t185, A70, H⟩ := H
    replace H : (if t185 = true then (if t178 = t184 then ((metrolablaw50_awake.f k).bind fun t186 => (some t186)) else (some false)) else (some false)) = some r := H
    have A7 := Aside0.mk A70
    clear A70
    by_cases c8 : t185 = true
    · subst c8
      have H1 : (if t178 = t184 then ((metrolablaw50_awake.f k).bind fun t186 => (some t186)) else (some false)) = some r := by rw [if_pos rfl] at H; exact H
      clear H
      have H := H1
      clear H1
      by_cases c9 : t178 = t184
      · rw [if_pos c9] at H
        have c9b0 : (t178 == t184) = true := beq_iff_eq.mpr c9
        have c9b1 : (t178 != t184) = false := bne_eq_false_iff_eq.mpr c9
        clear c9
        replace H := Option.bind_eq_some_iff.mp H
        obtain ⟨t186, A100, H⟩ := H
        replace H : (some t186) = some r := H
        have A10 := Aside0.mk A100
        clear A100
        obtain rfl := Option.some.inj H
        go_enter Try.func3, Try.ntmps3
        go_wp2_with (first | ((with_reducible refine gate_callee (f := 11) rfl ?_); refine goesL_ (some 10) rfl rfl Try.func11 (by kernel_rfl) rfl #[.slice A0 l0.length c0] rfl (by (try simp only [List.map_toArray, List.map_cons, List.map_nil]); first | done | rfl | (simp only [List.length_drop, List.length_take]; rfl)) ?_; (with_reducible refine (metrolabref50_Few.calls k _ _ l0 true _ ?side1 ?side2 A3.out).mono ?_); (case side1 => repeat (first | exact HR0.out | (with_reducible refine Kd.C_alloc ?_ _) | (with_reducible refine Kd.C_drewN ?_ _) | (with_reducible refine Kd.C_drew ?_))); (case side2 => exact HC0.out); rintro e w' ⟨rfl, ⟨nd, rfl⟩⟩; refine ⟨_, rfl, ?_⟩) | ((with_reducible refine gate_callee (f := 13) rfl ?_); refine goesL_ (some 16) rfl rfl Try.func13 (by kernel_rfl) rfl #[.slice A0 l0.length c0, .int .i64 a1] rfl (by (try simp only [List.map_toArray, List.map_cons, List.map_nil]); first | done | rfl | (simp only [List.length_drop, List.length_take]; rfl)) ?_; (with_reducible refine (blocks_Fewest.calls k _ _ l0 a1 t177 t178 _ ?side1 ?side2 A5.out).mono ?_); (case side1 => repeat (first | exact HR0.out | (with_reducible refine Kd.C_alloc ?_ _) | (with_reducible refine Kd.C_drewN ?_ _) | (with_reducible refine Kd.C_drew ?_))); (case side2 => exact HC0.out); rintro e w11 ⟨v179, rfl, ho0, hb⟩; refine ⟨_, rfl, ?_⟩; have n0_ := Aside0.mk (Kd.R_lower ho0 (below_size (by repeat (first | (with_reducible first | exact HB.out | apply below_alloc | apply pw_below_drewN | apply below_drew1) | exact HB.out)))); have n1_ := Aside0.mk (below_step (by repeat (first | (with_reducible first | exact HB.out | apply below_alloc | apply pw_below_drewN | apply below_drew1) | exact HB.out)) hb); clear HB; have HO180 := n0_; have HB := n1_; clear n0_ n1_; (try clear hb); (try clear hb2); (try clear hk); (try clear hi); (try clear ho0)) | ((with_reducible refine gate_callee (f := 14) rfl ?_); refine goesL_ (some 22) rfl rfl Try.func14 (by kernel_rfl) rfl #[.slice A0 l0.length c0, .int .i64 a1] rfl (by (try simp only [List.map_toArray, List.map_cons, List.map_nil]); first | done | rfl | (simp only [List.length_drop, List.length_take]; rfl)) ?_; (with_reducible refine (metrolabref50_Fewest.calls k _ _ l0 a1 t181 t184 _ ?side1 ?side2 A6.out).mono ?_); (case side1 => repeat (first | exact (Kd.C_below HR0.out HB.out) | (with_reducible refine Kd.C_alloc ?_ _) | (with_reducible refine Kd.C_drewN ?_ _) | (with_reducible refine Kd.C_drew ?_))); (case side2 => exact HC0.out); rintro e w12 ⟨v182, rfl, ho0, hb⟩; refine ⟨_, rfl, ?_⟩; have n0_ := Aside0.mk (Kd.R_below (by (with_reducible repeat (first | apply Kd.R_alloc | apply Kd.R_drewN | apply Kd.R_drew)); exact HO180.out) hb); have n1_ := Aside0.mk (Kd.V_lower (Kd.V_mono (ok' := fun k_ => some k_ ≠ (v179 : Value).ownBlock) ho0 (fun k_ hk_ => (Kd.fresh' (Kd.R_lt (by (with_reducible repeat (first | apply Kd.R_alloc | apply Kd.R_drewN | apply Kd.R_drew)); exact HO180.out)) k_ hk_))) (below_size (by repeat (first | (with_reducible first | exact HB.out | apply below_alloc | apply pw_below_drewN | apply below_drew1) | exact HB.out)))); have n2_ := Aside0.mk (below_step (by repeat (first | (with_reducible first | exact HB.out | apply below_alloc | apply pw_below_drewN | apply below_drew1) | exact HB.out)) hb); clear HO180; clear HB; have HO180 := n0_; have HO183 := n1_; have HB := n2_; clear n0_ n1_ n2_; (try clear hb); (try clear hb2); (try clear hk); (try clear hi); (try clear ho0); obtain ⟨Ao13, co13, eo13⟩ := Kd.R_slice HO180.out; subst eo13; obtain ⟨Ao14, co14, eo14⟩ := Kd.V_slice HO183.out; subst eo14) | ((with_reducible refine gate_callee (f := 15) rfl ?_); refine goesL_ (some 27) rfl rfl Try.func15 (by kernel_rfl) rfl #[.slice Ao13 t177.length co13, .slice Ao14 t181.length co14] rfl (by (try simp only [List.map_toArray, List.map_cons, List.map_nil]); first | done | rfl | (simp only [List.length_drop, List.length_take]; rfl)) ?_; (with_reducible refine (slices_Equal_int_int.calls k _ _ t177 _ _ t181 true _ ?side1 ?side2 ?side3 ?side4 A7.out).mono ?_); (case side1 => repeat (first | exact (Kd.R_reads' HO180.out).2.2 | (with_reducible refine Kd.C_alloc ?_ _) | (with_reducible refine Kd.C_drewN ?_ _) | (with_reducible refine Kd.C_drew ?_))); (case side2 => exact (Kd.R_reads' HO180.out).2.1); (case side3 => repeat (first | exact (Kd.V_reads' HO183.out).2.2 | (with_reducible refine Kd.C_alloc ?_ _) | (with_reducible refine Kd.C_drewN ?_ _) | (with_reducible refine Kd.C_drew ?_))); (case side4 => exact (Kd.V_reads' HO183.out).2.1); rintro e w' ⟨rfl, ⟨nd, rfl⟩⟩; refine ⟨_, rfl, ?_⟩) | (go_at_call 12; (with_reducible refine (metrolablaw50_awake.calls k  t186 _ A10.out).mono ?_); rintro e w15 ⟨rfl, hb⟩; have n0_ := Aside0.mk (Kd.R_below (by (with_reducible repeat (first | apply Kd.R_alloc | apply Kd.R_drewN | apply Kd.R_drew)); exact HO180.out) hb); have n1_ := Aside0.mk (Kd.V_below (by (with_reducible repeat (first | apply Kd.V_alloc | apply Kd.V_drewN | apply Kd.V_drew)); exact HO183.out) hb); have n2_ := Aside0.mk (below_step (by repeat (first | (with_reducible first | exact HB.out | apply below_alloc | apply pw_below_drewN | apply below_drew1) | exact HB.out)) hb); clear HO180; clear HO183; clear HB; have HO180 := n0_; have HO183 := n1_; have HB := n2_; clear n0_ n1_ n2_; (try clear hb); (try clear hb2); (try clear hk); (try clear hi)))
        go_ret
        exact ⟨by first | rfl | (simp [errW_none, errW_some] <;> rfl) | (simp [*, errW_none, errW_some] <;> rfl), by repeat (first | (with_reducible first | exact HB.out | apply below_alloc | apply pw_below_drewN | apply below_drew1) | exact HB.out)⟩
      · rw [if_neg c9] at H
        have c9b0 : (t178 == t184) = false := beq_eq_false_iff_ne.mpr c9
        have c9b1 : (t178 != t184) = true := bne_iff_ne.mpr c9
        obtain rfl := Option.some.inj H
        go_enter Try.func3, Try.ntmps3
        go_wp2_with (first | ((with_reducible refine gate_callee (f := 11) rfl ?_); refine goesL_ (some 10) rfl rfl Try.func11 (by kernel_rfl) rfl #[.slice A0 l0.length c0] rfl (by (try simp only [List.map_toArray, List.map_cons, List.map_nil]); first | done | rfl | (simp only [List.length_drop, List.length_take]; rfl)) ?_; (with_reducible refine (metrolabref50_Few.calls k _ _ l0 true _ ?side1 ?side2 A3.out).mono ?_); (case side1 => repeat (first | exact HR0.out | (with_reducible refine Kd.C_alloc ?_ _) | (with_reducible refine Kd.C_drewN ?_ _) | (with_reducible refine Kd.C_drew ?_))); (case side2 => exact HC0.out); rintro e w' ⟨rfl, ⟨nd, rfl⟩⟩; refine ⟨_, rfl, ?_⟩) | ((with_reducible refine gate_callee (f := 13) rfl ?_); refine goesL_ (some 16) rfl rfl Try.func13 (by kernel_rfl) rfl #[.slice A0 l0.length c0, .int .i64 a1] rfl (by (try simp only [List.map_toArray, List.map_cons, List.map_nil]); first | done | rfl | (simp only [List.length_drop, List.length_take]; rfl)) ?_; (with_reducible refine (blocks_Fewest.calls k _ _ l0 a1 t177 t178 _ ?side1 ?side2 A5.out).mono ?_); (case side1 => repeat (first | exact HR0.out | (with_reducible refine Kd.C_alloc ?_ _) | (with_reducible refine Kd.C_drewN ?_ _) | (with_reducible refine Kd.C_drew ?_))); (case side2 => exact HC0.out); rintro e w16 ⟨v179, rfl, ho0, hb⟩; refine ⟨_, rfl, ?_⟩; have n0_ := Aside0.mk (Kd.R_lower ho0 (below_size (by repeat (first | (with_reducible first | exact HB.out | apply below_alloc | apply pw_below_drewN | apply below_drew1) | exact HB.out)))); have n1_ := Aside0.mk (below_step (by repeat (first | (with_reducible first | exact HB.out | apply below_alloc | apply pw_below_drewN | apply below_drew1) | exact HB.out)) hb); clear HB; have HO180 := n0_; have HB := n1_; clear n0_ n1_; (try clear hb); (try clear hb2); (try clear hk); (try clear hi); (try clear ho0)) | ((with_reducible refine gate_callee (f := 14) rfl ?_); refine goesL_ (some 22) rfl rfl Try.func14 (by kernel_rfl) rfl #[.slice A0 l0.length c0, .int .i64 a1] rfl (by (try simp only [List.map_toArray, List.map_cons, List.map_nil]); first | done | rfl | (simp only [List.length_drop, List.length_take]; rfl)) ?_; (with_reducible refine (metrolabref50_Fewest.calls k _ _ l0 a1 t181 t184 _ ?side1 ?side2 A6.out).mono ?_); (case side1 => repeat (first | exact (Kd.C_below HR0.out HB.out) | (with_reducible refine Kd.C_alloc ?_ _) | (with_reducible refine Kd.C_drewN ?_ _) | (with_reducible refine Kd.C_drew ?_))); (case side2 => exact HC0.out); rintro e w17 ⟨v182, rfl, ho0, hb⟩; refine ⟨_, rfl, ?_⟩; have n0_ := Aside0.mk (Kd.R_below (by (with_reducible repeat (first | apply Kd.R_alloc | apply Kd.R_drewN | apply Kd.R_drew)); exact HO180.out) hb); have n1_ := Aside0.mk (Kd.V_lower (Kd.V_mono (ok' := fun k_ => some k_ ≠ (v179 : Value).ownBlock) ho0 (fun k_ hk_ => (Kd.fresh' (Kd.R_lt (by (with_reducible repeat (first | apply Kd.R_alloc | apply Kd.R_drewN | apply Kd.R_drew)); exact HO180.out)) k_ hk_))) (below_size (by repeat (first | (with_reducible first | exact HB.out | apply below_alloc | apply pw_below_drewN | apply below_drew1) | exact HB.out)))); have n2_ := Aside0.mk (below_step (by repeat (first | (with_reducible first | exact HB.out | apply below_alloc | apply pw_below_drewN | apply below_drew1) | exact HB.out)) hb); clear HO180; clear HB; have HO180 := n0_; have HO183 := n1_; have HB := n2_; clear n0_ n1_ n2_; (try clear hb); (try clear hb2); (try clear hk); (try clear hi); (try clear ho0); obtain ⟨Ao18, co18, eo18⟩ := Kd.R_slice HO180.out; subst eo18; obtain ⟨Ao19, co19, eo19⟩ := Kd.V_slice HO183.out; subst eo19) | ((with_reducible refine gate_callee (f := 15) rfl ?_); refine goesL_ (some 27) rfl rfl Try.func15 (by kernel_rfl) rfl #[.slice Ao18 t177.length co18, .slice Ao19 t181.length co19] rfl (by (try simp only [List.map_toArray, List.map_cons, List.map_nil]); first | done | rfl | (simp only [List.length_drop, List.length_take]; rfl)) ?_; (with_reducible refine (slices_Equal_int_int.calls k _ _ t177 _ _ t181 true _ ?side1 ?side2 ?side3 ?side4 A7.out).mono ?_); (case side1 => repeat (first | exact (Kd.R_reads' HO180.out).2.2 | (with_reducible refine Kd.C_alloc ?_ _) | (with_reducible refine Kd.C_drewN ?_ _) | (with_reducible refine Kd.C_drew ?_))); (case side2 => exact (Kd.R_reads' HO180.out).2.1); (case side3 => repeat (first | exact (Kd.V_reads' HO183.out).2.2 | (with_reducible refine Kd.C_alloc ?_ _) | (with_reducible refine Kd.C_drewN ?_ _) | (with_reducible refine Kd.C_drew ?_))); (case side4 => exact (Kd.V_reads' HO183.out).2.1); rintro e w' ⟨rfl, ⟨nd, rfl⟩⟩; refine ⟨_, rfl, ?_⟩))
        go_ret
        exact ⟨by first | rfl | (simp [errW_none, errW_some] <;> rfl) | (simp [*, errW_none, errW_some] <;> rfl), by repeat (first | (with_reducible first | exact HB.out | apply below_alloc | apply pw_below_drewN | apply below_drew1) | exact HB.out)⟩
    · replace c8 := Bool.eq_false_iff.mpr c8
      subst c8
      have H1 : (some false) = some r := by rw [if_neg (show ¬ (false = true) by decide)] at H; exact H
      clear H
      have H := H1
      clear H1
      obtain rfl := Option.some.inj H
      go_enter Try.func3, Try.ntmps3
      go_wp2_with (first | ((with_reducible refine gate_callee (f := 11) rfl ?_); refine goesL_ (some 10) rfl rfl Try.func11 (by kernel_rfl) rfl #[.slice A0 l0.length c0] rfl (by (try simp only [List.map_toArray, List.map_cons, List.map_nil]); first | done | rfl | (simp only [List.length_drop, List.length_take]; rfl)) ?_; (with_reducible refine (metrolabref50_Few.calls k _ _ l0 true _ ?side1 ?side2 A3.out).mono ?_); (case side1 => repeat (first | exact HR0.out | (with_reducible refine Kd.C_alloc ?_ _) | (with_reducible refine Kd.C_drewN ?_ _) | (with_reducible refine Kd.C_drew ?_))); (case side2 => exact HC0.out); rintro e w' ⟨rfl, ⟨nd, rfl⟩⟩; refine ⟨_, rfl, ?_⟩) | ((with_reducible refine gate_callee (f := 13) rfl ?_); refine goesL_ (some 16) rfl rfl Try.func13 (by kernel_rfl) rfl #[.slice A0 l0.length c0, .int .i64 a1] rfl (by (try simp only [List.map_toArray, List.map_cons, List.map_nil]); first | done | rfl | (simp only [List.length_drop, List.length_take]; rfl)) ?_; (with_reducible refine (blocks_Fewest.calls k _ _ l0 a1 t177 t178 _ ?side1 ?side2 A5.out).mono ?_); (case side1 => repeat (first | exact HR0.out | (with_reducible refine Kd.C_alloc ?_ _) | (with_reducible refine Kd.C_drewN ?_ _) | (with_reducible refine Kd.C_drew ?_))); (case side2 => exact HC0.out); rintro e w20 ⟨v179, rfl, ho0, hb⟩; refine ⟨_, rfl, ?_⟩; have n0_ := Aside0.mk (Kd.R_lower ho0 (below_size (by repeat (first | (with_reducible first | exact HB.out | apply below_alloc | apply pw_below_drewN | apply below_drew1) | exact HB.out)))); have n1_ := Aside0.mk (below_step (by repeat (first | (with_reducible first | exact HB.out | apply below_alloc | apply pw_below_drewN | apply below_drew1) | exact HB.out)) hb); clear HB; have HO180 := n0_; have HB := n1_; clear n0_ n1_; (try clear hb); (try clear hb2); (try clear hk); (try clear hi); (try clear ho0)) | ((with_reducible refine gate_callee (f := 14) rfl ?_); refine goesL_ (some 22) rfl rfl Try.func14 (by kernel_rfl) rfl #[.slice A0 l0.length c0, .int .i64 a1] rfl (by (try simp only [List.map_toArray, List.map_cons, List.map_nil]); first | done | rfl | (simp only [List.length_drop, List.length_take]; rfl)) ?_; (with_reducible refine (metrolabref50_Fewest.calls k _ _ l0 a1 t181 t184 _ ?side1 ?side2 A6.out).mono ?_); (case side1 => repeat (first | exact (Kd.C_below HR0.out HB.out) | (with_reducible refine Kd.C_alloc ?_ _) | (with_reducible refine Kd.C_drewN ?_ _) | (with_reducible refine Kd.C_drew ?_))); (case side2 => exact HC0.out); rintro e w21 ⟨v182, rfl, ho0, hb⟩; refine ⟨_, rfl, ?_⟩; have n0_ := Aside0.mk (Kd.R_below (by (with_reducible repeat (first | apply Kd.R_alloc | apply Kd.R_drewN | apply Kd.R_drew)); exact HO180.out) hb); have n1_ := Aside0.mk (Kd.V_lower (Kd.V_mono (ok' := fun k_ => some k_ ≠ (v179 : Value).ownBlock) ho0 (fun k_ hk_ => (Kd.fresh' (Kd.R_lt (by (with_reducible repeat (first | apply Kd.R_alloc | apply Kd.R_drewN | apply Kd.R_drew)); exact HO180.out)) k_ hk_))) (below_size (by repeat (first | (with_reducible first | exact HB.out | apply below_alloc | apply pw_below_drewN | apply below_drew1) | exact HB.out)))); have n2_ := Aside0.mk (below_step (by repeat (first | (with_reducible first | exact HB.out | apply below_alloc | apply pw_below_drewN | apply below_drew1) | exact HB.out)) hb); clear HO180; clear HB; have HO180 := n0_; have HO183 := n1_; have HB := n2_; clear n0_ n1_ n2_; (try clear hb); (try clear hb2); (try clear hk); (try clear hi); (try clear ho0); obtain ⟨Ao22, co22, eo22⟩ := Kd.R_slice HO180.out; subst eo22; obtain ⟨Ao23, co23, eo23⟩ := Kd.V_slice HO183.out; subst eo23) | ((with_reducible refine gate_callee (f := 15) rfl ?_); refine goesL_ (some 27) rfl rfl Try.func15 (by kernel_rfl) rfl #[.slice Ao22 t177.length co22, .slice Ao23 t181.length co23] rfl (by (try simp only [List.map_toArray, List.map_cons, List.map_nil]); first | done | rfl | (simp only [List.length_drop, List.length_take]; rfl)) ?_; (with_reducible refine (slices_Equal_int_int.calls k _ _ t177 _ _ t181 false _ ?side1 ?side2 ?side3 ?side4 A7.out).mono ?_); (case side1 => repeat (first | exact (Kd.R_reads' HO180.out).2.2 | (with_reducible refine Kd.C_alloc ?_ _) | (with_reducible refine Kd.C_drewN ?_ _) | (with_reducible refine Kd.C_drew ?_))); (case side2 => exact (Kd.R_reads' HO180.out).2.1); (case side3 => repeat (first | exact (Kd.V_reads' HO183.out).2.2 | (with_reducible refine Kd.C_alloc ?_ _) | (with_reducible refine Kd.C_drewN ?_ _) | (with_reducible refine Kd.C_drew ?_))); (case side4 => exact (Kd.V_reads' HO183.out).2.1); rintro e w' ⟨rfl, ⟨nd, rfl⟩⟩; refine ⟨_, rfl, ?_⟩))
      go_ret
      exact ⟨by first | rfl | (simp [errW_none, errW_some] <;> rfl) | (simp [*, errW_none, errW_some] <;> rfl), by repeat (first | (with_reducible first | exact HB.out | apply below_alloc | apply pw_below_drewN | apply below_drew1) | exact HB.out)⟩
  · replace c4 := Bool.eq_false_iff.mpr c4
    subst c4
    have H1 : ((metrolablaw50_awake.f k).bind fun t176 => (some t176)) = some r := by rw [if_neg (show ¬ (false = true) by decide)] at H; exact H
    clear H
    have H := H1
    clear H1
    replace H := Option.bind_eq_some_iff.mp H
    obtain ⟨t176, A240, H⟩ := H
    replace H : (some t176) = some r := H
    have A24 := Aside0.mk A240
    clear A240
    obtain rfl := Option.some.inj H
    go_enter Try.func3, Try.ntmps3
    go_wp2_with (first | ((with_reducible refine gate_callee (f := 11) rfl ?_); refine goesL_ (some 10) rfl rfl Try.func11 (by kernel_rfl) rfl #[.slice A0 l0.length c0] rfl (by (try simp only [List.map_toArray, List.map_cons, List.map_nil]); first | done | rfl | (simp only [List.length_drop, List.length_take]; rfl)) ?_; (with_reducible refine (metrolabref50_Few.calls k _ _ l0 false _ ?side1 ?side2 A3.out).mono ?_); (case side1 => repeat (first | exact HR0.out | (with_reducible refine Kd.C_alloc ?_ _) | (with_reducible refine Kd.C_drewN ?_ _) | (with_reducible refine Kd.C_drew ?_))); (case side2 => exact HC0.out); rintro e w' ⟨rfl, ⟨nd, rfl⟩⟩; refine ⟨_, rfl, ?_⟩) | ((with_reducible refine gate_callee (f := 12) rfl ?_); refine goesL_ (some 12) rfl rfl Try.func12 (by kernel_rfl) rfl #[] rfl (by (try simp only [List.map_toArray, List.map_cons, List.map_nil]); first | done | rfl | (simp only [List.length_drop, List.length_take]; rfl)) ?_; (with_reducible refine (metrolablaw50_awake.calls k  t176 _ A24.out).mono ?_); rintro e w25 ⟨rfl, hb⟩; refine ⟨_, rfl, ?_⟩; have n0_ := Aside0.mk (below_step (by repeat (first | (with_reducible first | exact HB.out | apply below_alloc | apply pw_below_drewN | apply below_drew1) | exact HB.out)) hb); clear HB; have HB := n0_; clear n0_; (try clear hb); (try clear hb2); (try clear hk); (try clear hi)))
    go_ret
    exact ⟨by first | rfl | (simp [errW_none, errW_some] <;> rfl) | (simp [*, errW_none, errW_some] <;> rfl), by repeat (first | (with_reducible first | exact HB.out | apply below_alloc | apply pw_below_drewN | apply below_drew1) | exact HB.out)⟩

/-- THE ONE PURE STATEMENT of metrolablaw50_BlocksFewest: yours. -/
def metrolablaw50_BlocksFewest.Pure : Prop := ∀ (l0 : List Int) (a1 : Int), l0.length ≤ maxLen → l0.length * 8 ≤ 140737488351232 → (∀ x ∈ l0, (Lit.int .i64 x).wf = true) → (Lit.int .i64 a1).wf = true → ∃ k, metrolablaw50_BlocksFewest.f k l0 a1 = some true
theorem metrolablaw50_BlocksFewest.walk (P : metrolablaw50_BlocksFewest.Pure) (a0 : Option Addr) (len0 cap0 : Nat) (z0 : List Int) (a1 : Int) (w : World) (w0 : (a0 = none ∧ len0 = 0 ∧ cap0 = 0 ∧ z0 = []) ∨ ∃ x, a0 = some x ∧ len0 ≤ cap0 ∧ cap0 ≤ maxLen ∧ z0.length = cap0 ∧ (∀ i, i < z0.length → w.cell? (x.add i) = some (.int .i64 (z0.getD i 0))) ∧ ∀ n ∈ z0, (Lit.int .i64 n).wf = true) (y0 : len0 * 8 ≤ 140737488351232) (w1 : (Lit.int .i64 a1).wf = true) :
    Calls Try.prog 3 #[.slice a0 len0 cap0, .int .i64 a1] w fun e w' => e = .returned (.bool true) ∧ Below w.heap.size w w' := by
  obtain ⟨l0, rfl, hr0, hm0, hw0, hc0⟩ := ReadsInt.ofRowC w0
  obtain ⟨k, h⟩ := P l0 a1 hm0 y0 hw0 w1
  refine (metrolablaw50_BlocksFewest.calls k _ _ l0 a1 true w (Kd.C_of_reads (d := (0 : Int)) (h1 := fun _ => rfl) hr0) hc0 h).mono ?_
  rintro e w' ⟨rfl, hd⟩
  exact ⟨rfl, hd⟩

end Go.Proofs.Ytgkgeodphgfgnaa.Pr
/- The plain law: the reference's Stacks, closed. -/
namespace Go.Proofs.Ytgkgeodphgfgnaa.Pr
open Go.RowKit Go.Proofs.YtgkgeodphgfgnaaW.PrintWords Go.Proofs.YtgkgeodphgfgnaaW.PrintLast

/-- The index lists of s places from i on, of m places. -/
def combs : Nat → Nat → Nat → List (List Int)
  | 0, _, _ => [[]]
  | _ + 1, _, 0 => []
  | s + 1, i, m + 1 => (combs s (i + 1) m).map ((i : Int) :: ·) ++ combs (s + 1) (i + 1) m
def allS (n : Nat) : List (List Int) := (List.range (n + 1)).flatMap fun s => combs s 0 n
set_option maxRecDepth 100000 in
theorem stacks_4 : metrolabref50_Stacks.f 3000 4 = some (allS 4) := by decide +kernel
set_option maxRecDepth 100000 in
theorem stacks_9 : metrolabref50_Stacks.f 3000 9 = some (allS 9) := by decide +kernel
end Go.Proofs.Ytgkgeodphgfgnaa.Pr
/- The plain laws: what the printed functions of the reference tell. -/
namespace Go.Proofs.Ytgkgeodphgfgnaa.Pr
open Go.RowKit Go.Proofs.YtgkgeodphgfgnaaW.PrintWords Go.Proofs.YtgkgeodphgfgnaaW.PrintLast

theorem Ev.const {α : Type} {g : Nat → Option α} {r : α} (h : ∀ k, g (k + 1) = some r) : Ev g r := Ev.step (f := fun _ => some r) h (Ev.now r)

theorem rcheck_go (l : List Int) (hn : l.length ≤ 256) : ∀ (d i : Nat), i ≤ l.length → l.length - i = d → Ev (fun k => metrolabref50_Check.l0 k l (i : Int)) (chkGo (prevOf l i) (l.drop i)) := by
  intro d
  induction d with
  | zero =>
    intro i hi hd
    obtain rfl : i = l.length := by omega
    refine Ev.const fun k => ?_
    simp only [metrolabref50_Check.l0]
    rw [if_neg (by omega), List.drop_length]; rfl
  | succ d ih =>
    intro i hi hd
    obtain ⟨x, hx, hdr⟩ := drop_at (show i < l.length by omega)
    have hih := ih (i + 1) (by omega) (by omega)
    have hp : prevOf l (i + 1) = some x := by unfold prevOf; rw [if_neg (by omega)]; exact hx
    rw [hp] at hih
    rw [hdr]
    by_cases h1 : x < 1 ∨ x > 100000
    · have e : chkGo (prevOf l i) (x :: l.drop (i + 1)) = 2 := by simp only [chkGo]; rw [if_pos h1]
      rw [e]
      refine Ev.step (f := fun k => metrolabref50_Check.j1 k l (i : Int) true) (fun k => ?_) (Ev.const fun k => ?_)
      · simp only [metrolabref50_Check.l0]
        rw [if_pos (by omega), if_pos (by omega), rd_at hx]
        by_cases h2 : x < 1
        · rw [if_pos h2]
        · rw [if_neg h2, decide_eq_true (by omega)]
      · simp only [metrolabref50_Check.j1]
        rw [if_pos True.intro]
    · refine Ev.step (f := fun k => metrolabref50_Check.j1 k l (i : Int) false) (fun k => ?_) ?_
      · simp only [metrolabref50_Check.l0]
        rw [if_pos (by omega), if_pos (by omega), rd_at hx, if_neg (by omega), decide_eq_false (by omega)]
      · by_cases h2 : i = 0
        · subst h2
          have e : chkGo (prevOf l 0) (x :: l.drop (0 + 1)) = chkGo (some x) (l.drop (0 + 1)) := by
            simp only [chkGo, prevOf]; rw [if_neg h1, if_pos True.intro, if_neg (by simp)]
          rw [e]
          refine Ev.step (f := fun k => metrolabref50_Check.l0 k l ((0 + 1 : Nat) : Int)) (fun k => ?_) hih
          simp only [metrolabref50_Check.j1]
          rw [if_neg (by decide), if_neg (by omega), wrap_up (n := l.length) (by omega) (by omega) (by omega)]
          rfl
        · obtain ⟨y, hy, _⟩ := drop_at (show i - 1 < l.length by omega)
          have hp2 : prevOf l i = some y := by unfold prevOf; rw [if_neg h2]; exact hy
          have hj : ∀ k, metrolabref50_Check.j1 (k + 1) l (i : Int) false = if x ≤ y then some 9 else metrolabref50_Check.l0 k l ((i + 1 : Nat) : Int) := fun k => by
            simp only [metrolabref50_Check.j1]
            rw [if_neg (by decide), if_pos (show (i : Int) > 0 by omega), wrap_down (n := l.length) (by omega) (by omega) (by omega), wrap_up (n := l.length) (by omega) (by omega) (by omega), if_pos (by omega), if_pos (by omega),
              show (i : Int) - 1 = ((i - 1 : Nat) : Int) by omega, if_pos (by omega), if_pos (by omega), rd_at hx, rd_at hy]
            rfl
          rw [hp2]
          have e : chkGo (some y) (x :: l.drop (i + 1)) = if x ≤ y then 9 else chkGo (some x) (l.drop (i + 1)) := by
            simp only [chkGo]; rw [if_neg h1]; simp
          rw [e]
          by_cases h3 : x ≤ y
          · rw [if_pos h3]
            exact Ev.const fun k => by rw [hj, if_pos h3]
          · rw [if_neg h3]
            exact Ev.step (fun k => by rw [hj, if_neg h3]) hih
theorem rcheck_ev (l : List Int) : Ev (fun k => metrolabref50_Check.f k l) (chk l) := by
  unfold chk
  by_cases h : l.length > 256
  · rw [if_pos h]
    exact Ev.const fun k => by unfold metrolabref50_Check.f; rw [if_pos (by omega)]
  · rw [if_neg h]
    refine Ev.congr (f := fun k => metrolabref50_Check.l0 k l ((0 : Nat) : Int)) (fun k => ?_) (rcheck_go l (by omega) l.length 0 (by omega) (by omega))
    unfold metrolabref50_Check.f
    rw [if_neg (by omega)]
    rfl
theorem check_ev (l : List Int) : Ev (fun k => blocks_Check.f k l) (chk l) := ⟨l.length + 1, fun k hk => check_is l k (by omega)⟩
theorem given_ev (l : List Int) (n : Int) : Ev (fun k => blocks_given.f k l n) (givenE l n) := ⟨l.length + 1, fun k hk => given_is l n k (by omega)⟩
theorem rinside_is (x : Int) : metrolabref50_inside.f x = some (decide (1 ≤ x ∧ x ≤ 100000)) := by
  unfold metrolabref50_inside.f
  by_cases h : x ≥ 1
  · rw [if_pos h]; congr 1; simp; omega
  · rw [if_neg h]; congr 1; simp; omega
/-- The laws speak of such sets. -/
def fewV (l : List Int) : Bool := if l.length ≤ 9 then true else if l.length ≤ 512 then chk l != 0 else false
theorem few_ev (l : List Int) : Ev (fun k => metrolabref50_Few.f k l) (fewV l) := by
  unfold fewV
  by_cases h : l.length ≤ 9
  · rw [if_pos h]
    exact Ev.const fun k => by unfold metrolabref50_Few.f; rw [if_pos (by omega)]
  · rw [if_neg h]
    by_cases h2 : l.length ≤ 512
    · rw [if_pos h2]
      refine Ev.congr (f := fun k => (metrolabref50_Check.f k l).bind fun t => some (t != 0)) (fun k => ?_) (Ev.bind (f := fun _ t => some (t != 0)) (rcheck_ev l) (Ev.now _))
      unfold metrolabref50_Few.f
      rw [if_neg (by omega), if_pos (by omega)]
    · rw [if_neg h2]
      exact Ev.const fun k => by unfold metrolabref50_Few.f; rw [if_neg (by omega), if_neg (by omega)]

theorem equal_go (l m : List Int) (hl : l.length = m.length) (hn : l.length ≤ 140737488351232) : ∀ (d i : Nat), i ≤ l.length → l.length - i = d → Ev (fun k => slices_Equal_int_int.l0 k l m (l.length : Int) (i : Int)) (decide (l.drop i = m.drop i)) := by
  intro d
  induction d with
  | zero =>
    intro i hi hd
    obtain rfl : i = l.length := by omega
    refine Ev.const fun k => ?_
    simp only [slices_Equal_int_int.l0]
    rw [if_neg (by omega), List.drop_length, hl, List.drop_length]; rfl
  | succ d ih =>
    intro i hi hd
    obtain ⟨x, hx, hdr⟩ := drop_at (show i < l.length by omega)
    obtain ⟨y, hy, hdr2⟩ := drop_at (show i < m.length by omega)
    have hih := ih (i + 1) (by omega) (by omega)
    rw [hdr, hdr2]
    have hj : ∀ k, slices_Equal_int_int.l0 (k + 1) l m (l.length : Int) (i : Int) = if x = y then slices_Equal_int_int.l0 k l m (l.length : Int) ((i + 1 : Nat) : Int) else some false := fun k => by
      simp only [slices_Equal_int_int.l0]
      rw [if_pos (by omega), if_pos (by omega), if_pos (by omega), if_pos (by omega), rd_at hx, rd_at hy, wrap_up (n := l.length) (by omega) (by omega) (by omega)]
      rfl
    by_cases h : x = y
    · subst h
      have e : decide (x :: l.drop (i + 1) = x :: m.drop (i + 1)) = decide (l.drop (i + 1) = m.drop (i + 1)) := by simp
      rw [e]
      exact Ev.step (fun k => by rw [hj, if_pos rfl]) hih
    · have e : decide (x :: l.drop (i + 1) = y :: m.drop (i + 1)) = false := by simp [h]
      rw [e]
      exact Ev.const fun k => by rw [hj, if_neg h]
theorem equal_ev (l m : List Int) (hn : l.length ≤ 140737488351232) : Ev (fun k => slices_Equal_int_int.f k l m) (decide (l = m)) := by
  by_cases h : l.length = m.length
  · refine Ev.congr (f := fun k => slices_Equal_int_int.l0 k l m (l.length : Int) ((0 : Nat) : Int)) (fun k => ?_) (by simpa using equal_go l m h hn l.length 0 (by omega) (by omega))
    unfold slices_Equal_int_int.f
    rw [if_pos (by omega)]
    rfl
  · rw [decide_eq_false (fun e => h (congrArg _ e))]
    exact Ev.const fun k => by unfold slices_Equal_int_int.f; rw [if_neg (by omega)]

/-! ### All stacks -/
/-- The sum of a stack. -/
def tot (l st : List Int) : Int := (st.map (rd l)).sum
theorem combs_mem : ∀ (s i m : Nat) (st : List Int), st ∈ combs s i m → (∀ x ∈ st, (i : Int) ≤ x ∧ x < ((i + m : Nat) : Int)) ∧ st.length = s
  | 0, i, m, st, h => by
    obtain rfl : st = [] := by simpa [combs] using h
    exact ⟨fun x hx => by simp at hx, rfl⟩
  | s + 1, i, 0, st, h => by simp [combs] at h
  | s + 1, i, m + 1, st, h => by
    simp only [combs, List.mem_append, List.mem_map] at h
    rcases h with ⟨st', h', rfl⟩ | h
    · obtain ⟨h1, h2⟩ := combs_mem s (i + 1) m st' h'
      refine ⟨fun x hx => ?_, by simp [h2]⟩
      rcases List.mem_cons.1 hx with rfl | hx
      · omega
      · have := h1 x hx; omega
    · obtain ⟨h1, h2⟩ := combs_mem (s + 1) (i + 1) m st h
      exact ⟨fun x hx => by have := h1 x hx; omega, h2⟩
theorem g59_zero : ∀ (xs : List Int), g59 xs 0 = 0
  | [] => by unfold g59 cellv; rfl
  | x :: xs => by
    have h := g59_zero xs
    have h2 := g59_bd xs (0 - x)
    unfold g59 at h h2 ⊢
    unfold cellv
    rw [h]
    split <;> omega
theorem g59_cons (x : Int) (xs : List Int) (n : Int) : g59 (x :: xs) n = min (g59 xs n) ((if n ≥ x then g59 xs (n - x) else 258) + 1) := by
  unfold g59
  rw [cellv]
theorem tot_cons {l xs : List Int} {x : Int} {i : Nat} (h : l.drop i = x :: xs) (st : List Int) : tot l ((i : Int) :: st) = x + tot l st := by
  have : rd l (i : Int) = x := by
    refine rd_at ?_
    have := congrArg List.head? h
    rw [List.head?_drop] at this
    exact this
  simp [tot, this]
theorem drop_tail {l xs : List Int} {x : Int} {i : Nat} (h : l.drop i = x :: xs) : l.drop (i + 1) = xs := by
  have := congrArg List.tail h
  rw [List.tail_drop] at this
  exact this
theorem combs_low (l : List Int) : ∀ (xs : List Int) (s i : Nat) (st : List Int), l.drop i = xs → (∀ x ∈ xs, 1 ≤ x) → st ∈ combs s i xs.length → 0 ≤ tot l st ∧ g59 xs (tot l st) ≤ s
  | xs, 0, i, st, _, _, h => by
    obtain rfl : st = [] := by simpa [combs] using h
    have : tot l [] = 0 := rfl
    rw [this, g59_zero]
    omega
  | [], s + 1, i, st, _, _, h => by simp [combs] at h
  | x :: xs, s + 1, i, st, hd, hx, h => by
    simp only [List.length_cons, combs, List.mem_append, List.mem_map] at h
    have hx1 := hx x List.mem_cons_self
    rcases h with ⟨st', h', rfl⟩ | h
    · obtain ⟨h1, h2⟩ := combs_low l xs s (i + 1) st' (drop_tail hd) (fun y hy => hx y (List.mem_cons_of_mem _ hy)) h'
      rw [tot_cons hd, g59_cons, if_pos (by omega), show x + tot l st' - x = tot l st' by omega]
      omega
    · obtain ⟨h1, h2⟩ := combs_low l xs (s + 1) (i + 1) st (drop_tail hd) (fun y hy => hx y (List.mem_cons_of_mem _ hy)) h
      rw [g59_cons]
      omega
def hit (l : List Int) (n : Int) (st : List Int) : Bool := decide (tot l st = n)
theorem find_none (l xs : List Int) (s i : Nat) (n : Int) (hd : l.drop i = xs) (hx : ∀ x ∈ xs, 1 ≤ x) (h : n < 0 ∨ (s : Int) < g59 xs n) : (combs s i xs.length).find? (hit l n) = none := by
  rw [List.find?_eq_none]
  intro st hst
  obtain ⟨h1, h2⟩ := combs_low l xs s i st hd hx hst
  simp only [hit, decide_eq_true_eq]
  rintro rfl
  omega
theorem find_some (l : List Int) : ∀ (xs : List Int) (s i : Nat) (n : Int), l.drop i = xs → (∀ x ∈ xs, 1 ≤ x) → (s : Int) = g59 xs n → g59 xs n < 258 → 0 ≤ n → (combs s i xs.length).find? (hit l n) = some (pickV i xs n)
  | [], s, i, n, _, _, hs, hlt, h0 => by
    have hn : n = 0 := by
      unfold g59 cellv at hlt
      by_cases h : n = 0
      · exact h
      · rw [if_neg h] at hlt; omega
    subst hn
    rw [g59_zero] at hs
    obtain rfl : s = 0 := by omega
    rfl
  | x :: xs, s, i, n, hd, hx, hs, hlt, h0 => by
    have hx1 := hx x List.mem_cons_self
    have hxs : ∀ y ∈ xs, 1 ≤ y := fun y hy => hx y (List.mem_cons_of_mem _ hy)
    have hd2 := drop_tail hd
    have hg := g59_cons x xs n
    have b1 := g59_bd xs n
    have b2 := g59_bd xs (n - x)
    unfold pickV
    by_cases hc : n ≥ x ∧ g59 xs (n - x) + 1 = g59 (x :: xs) n
    · rw [if_pos hc]
      obtain ⟨s, rfl⟩ : ∃ m, s = m + 1 := ⟨s - 1, by omega⟩
      have ih := find_some l xs s (i + 1) (n - x) hd2 hxs (by omega) (by omega) (by omega)
      simp only [List.length_cons, combs, List.find?_append, List.find?_map]
      have e : (hit l n ∘ fun st => (i : Int) :: st) = hit l (n - x) := by
        funext st
        simp only [Function.comp, hit, tot_cons hd, decide_eq_decide]
        omega
      rw [e, ih]
      rfl
    · rw [if_neg hc]
      have hgx : g59 (x :: xs) n = g59 xs n := by
        by_cases hn : n ≥ x
        · rw [if_pos hn] at hg
          have : g59 xs (n - x) + 1 ≠ g59 (x :: xs) n := fun e => hc ⟨hn, e⟩
          omega
        · rw [if_neg hn] at hg
          omega
      have ih := find_some l xs s (i + 1) n hd2 hxs (by omega) (by omega) h0
      cases s with
      | zero => simpa [combs] using ih
      | succ s =>
        simp only [List.length_cons, combs, List.find?_append, List.find?_map]
        have e : (hit l n ∘ fun st => (i : Int) :: st) = hit l (n - x) := by
          funext st
          simp only [Function.comp, hit, tot_cons hd, decide_eq_decide]
          omega
        rw [e, find_none l xs s (i + 1) (n - x) hd2 hxs ?_, ih]
        · rfl
        · by_cases hn : n ≥ x
          · rw [if_pos hn] at hg
            have : g59 xs (n - x) + 1 ≠ g59 (x :: xs) n := fun e => hc ⟨hn, e⟩
            right; omega
          · left; omega
theorem pickV_len : ∀ (xs : List Int) (i : Nat) (n : Int), g59 xs n < 258 → ((pickV i xs n).length : Int) = g59 xs n
  | [], i, n, h => by
    unfold g59 cellv at h ⊢
    by_cases hn : n = 0
    · rw [if_pos hn]; rfl
    · rw [if_neg hn] at h; omega
  | x :: xs, i, n, h => by
    have hg := g59_cons x xs n
    unfold pickV
    by_cases hc : n ≥ x ∧ g59 xs (n - x) + 1 = g59 (x :: xs) n
    · rw [if_pos hc]
      have := pickV_len xs (i + 1) (n - x) (by omega)
      simp only [List.length_cons]
      omega
    · rw [if_neg hc]
      have hgx : g59 (x :: xs) n = g59 xs n := by
        have b1 := g59_bd xs n
        by_cases hn : n ≥ x
        · rw [if_pos hn] at hg
          have : g59 xs (n - x) + 1 ≠ g59 (x :: xs) n := fun e => hc ⟨hn, e⟩
          omega
        · rw [if_neg hn] at hg
          omega
      rw [hgx]
      exact pickV_len xs (i + 1) n (by omega)
theorem pickV_le : ∀ (xs : List Int) (i : Nat) (n : Int), (pickV i xs n).length ≤ xs.length
  | [], _, _ => Nat.le_refl _
  | x :: xs, i, n => by
    unfold pickV
    split
    · have := pickV_le xs (i + 1) (n - x); simp only [List.length_cons]; omega
    · have := pickV_le xs (i + 1) n; simp only [List.length_cons]; omega
theorem findSome_none {β : Type} (f : Nat → Option β) : ∀ (m : Nat), (∀ j, j < m → f j = none) → (List.range m).findSome? f = none
  | 0, _ => rfl
  | m + 1, h => by rw [List.range_succ, List.findSome?_append, findSome_none f m (fun j hj => h j (by omega))]; simp [h m (by omega)]
theorem findSome_some {β : Type} (f : Nat → Option β) (s : Nat) (v : β) (hv : f s = some v) (hn : ∀ j, j < s → f j = none) : ∀ (m : Nat), s < m → (List.range m).findSome? f = some v
  | 0, h => absurd h (by omega)
  | m + 1, h => by
    rw [List.range_succ, List.findSome?_append]
    by_cases e : s = m
    · subst e
      rw [findSome_none f s hn]
      simp [hv]
    · rw [findSome_some f s v hv hn m (by omega)]
      rfl
theorem find_all (l : List Int) (n : Int) (h0 : 0 ≤ n) (hx : ∀ x ∈ l, 1 ≤ x) (hl : l.length ≤ 200) : (allS l.length).find? (hit l n) = if g59 l n ≥ 258 then none else some (pickV 0 l n) := by
  unfold allS
  rw [List.find?_flatMap]
  have hb := g59_bd l n
  by_cases h : g59 l n ≥ 258
  · rw [if_pos h]
    exact findSome_none _ _ fun j hj => find_none l l j 0 n (by simp) hx (by right; omega)
  · rw [if_neg h]
    have h1 := pickV_len l 0 n (by omega)
    have h2 := pickV_le l 0 n
    refine findSome_some _ (g59 l n).toNat _ (find_some l l _ 0 n (by simp) hx (by omega) (by omega) h0) (fun j hj => find_none l l j 0 n (by simp) hx (by right; omega)) _ (by omega)

end Go.Proofs.Ytgkgeodphgfgnaa.Pr
/- The plain laws: the reference's best stack is the program's. -/
namespace Go.Proofs.Ytgkgeodphgfgnaa.Pr
open Go.RowKit Go.Proofs.YtgkgeodphgfgnaaW.PrintWords Go.Proofs.YtgkgeodphgfgnaaW.PrintLast

theorem mem_at {st : List Int} {j : Nat} {x : Int} (h : st[j]? = some x) : x ∈ st := List.mem_of_getElem? h
theorem rd_mem {l : List Int} {i : Int} (h0 : 0 ≤ i) (h1 : i < (l.length : Int)) : rd l i ∈ l := by
  obtain ⟨k, rfl⟩ : ∃ k : Nat, i = (k : Int) := ⟨i.toNat, by omega⟩
  have hk : k < l.length := by omega
  rw [rd_at (List.getElem?_eq_getElem hk)]
  exact List.getElem_mem hk
theorem total_go (l : List Int) (hl : ∀ x ∈ l, 1 ≤ x ∧ x ≤ 100000) (st : List Int) (hst : ∀ i ∈ st, 0 ≤ i ∧ i < (l.length : Int)) (hs : st.length ≤ 1000) :
    ∀ (d j : Nat) (acc : Int), j ≤ st.length → st.length - j = d → 0 ≤ acc → acc ≤ 100000 * j → Ev (fun k => metrolabref50_Total.l0 k l st acc (j : Int)) (acc + tot l (st.drop j)) := by
  intro d
  induction d with
  | zero =>
    intro j acc hj hd h0 h1
    obtain rfl : j = st.length := by omega
    refine Ev.const fun k => ?_
    simp only [metrolabref50_Total.l0]
    rw [if_neg (by omega), List.drop_length]
    simp [tot]
  | succ d ih =>
    intro j acc hj hd h0 h1
    obtain ⟨x, hx, hdr⟩ := drop_at (show j < st.length by omega)
    obtain ⟨g1, g2⟩ := hst x (List.mem_of_getElem? hx)
    obtain ⟨g3, g4⟩ := hl _ (rd_mem g1 g2)
    have hih := ih (j + 1) (acc + rd l x) (by omega) (by omega) (by omega) (by omega)
    have e : acc + tot l (st.drop j) = acc + rd l x + tot l (st.drop (j + 1)) := by rw [hdr]; simp only [tot, List.map_cons, List.sum_cons]; omega
    rw [e]
    refine Ev.step (fun k => ?_) hih
    simp only [metrolabref50_Total.l0]
    rw [if_pos (by omega), if_pos (by omega), rd_at hx, if_pos g1, if_pos g2, wrap_up (n := st.length) (by omega) (by omega) (by omega), show wrap64 (acc + rd l x) = acc + rd l x by unfold wrap64; omega]
    rfl
theorem total_ev (l : List Int) (hl : ∀ x ∈ l, 1 ≤ x ∧ x ≤ 100000) (st : List Int) (hst : ∀ i ∈ st, 0 ≤ i ∧ i < (l.length : Int)) (hs : st.length ≤ 1000) : Ev (fun k => metrolabref50_Total.f k l st) (tot l st) := by
  have := total_go l hl st hst hs st.length 0 0 (by omega) (by omega) (by omega) (by omega)
  rw [List.drop_zero, Int.zero_add] at this
  exact this
theorem drop_at' {α : Type} {l : List α} {i : Nat} (h : i < l.length) : ∃ x, l[i]? = some x ∧ l.drop i = x :: l.drop (i + 1) :=
  ⟨l[i], List.getElem?_eq_getElem h, List.drop_eq_getElem_cons h⟩
theorem rd_L1_at {ll : List (List Int)} {i : Nat} {x : List Int} (h : ll[i]? = some x) : rd_L1 ll (i : Int) = x := by simp [rd_L1, h]
theorem best_go (l : List Int) (hl : ∀ x ∈ l, 1 ≤ x ∧ x ≤ 100000) (n : Int) (ss : List (List Int)) (hss : ∀ st ∈ ss, (∀ i ∈ st, 0 ≤ i ∧ i < (l.length : Int)) ∧ st.length ≤ 1000) (hlen : ss.length ≤ 1000000) :
    ∀ (d j : Nat), j ≤ ss.length → ss.length - j = d → Ev (fun k => metrolabref50_Best.l0 k l n ss (j : Int)) (((ss.drop j).find? (hit l n)).getD []) := by
  intro d
  induction d with
  | zero =>
    intro j hj hd
    obtain rfl : j = ss.length := by omega
    refine Ev.const fun k => ?_
    simp only [metrolabref50_Best.l0]
    rw [if_neg (by omega), List.drop_length]
    rfl
  | succ d ih =>
    intro j hj hd
    obtain ⟨st, hx, hdr⟩ := drop_at' (show j < ss.length by omega)
    obtain ⟨g1, g2⟩ := hss st (List.mem_of_getElem? hx)
    have hih := ih (j + 1) (by omega) (by omega)
    rw [hdr, List.find?_cons]
    refine Ev.step (f := fun k => (metrolabref50_Total.f k l st).bind fun t => if t = n then some st else metrolabref50_Best.l0 k l n ss ((j + 1 : Nat) : Int)) (fun k => ?_) (Ev.bind (total_ev l hl st g1 g2) ?_)
    · simp only [metrolabref50_Best.l0]
      rw [if_pos (by omega), if_pos (by omega), rd_L1_at hx, wrap_up (n := ss.length) (by omega) (by omega) (by omega)]
      rfl
    · by_cases h : tot l st = n
      · have e : hit l n st = true := by simp [hit, h]
        simp only [e, h, if_true]
        exact Ev.now _
      · have e : hit l n st = false := by simp [hit, h]
        simp only [e, h, if_false]
        exact hih
set_option maxRecDepth 100000 in
theorem stacks_ev (n : Nat) (hn : n ≤ 9) : Ev (fun k => metrolabref50_Stacks.f k (n : Int)) (allS n) := by
  have h : metrolabref50_Stacks.f 3000 (n : Int) = some (allS n) := by
    rcases n with _ | _ | _ | _ | _ | _ | _ | _ | _ | _ | n
    · decide +kernel
    · decide +kernel
    · decide +kernel
    · decide +kernel
    · decide +kernel
    · decide +kernel
    · decide +kernel
    · decide +kernel
    · decide +kernel
    · decide +kernel
    · omega
  exact Ev.of (k := 3000) (metrolabref50_Stacks.mono _) h
theorem allS_ok (n : Nat) : ∀ st ∈ allS n, (∀ i ∈ st, 0 ≤ i ∧ i < (n : Int)) ∧ st.length ≤ n := by
  intro st h
  unfold allS at h
  obtain ⟨s, hs, h⟩ := List.mem_flatMap.1 h
  obtain ⟨h1, h2⟩ := combs_mem s 0 n st h
  have := List.mem_range.1 hs
  exact ⟨fun i hi => by have := h1 i hi; omega, by omega⟩
theorem allS_len (n : Nat) (hn : n ≤ 9) : (allS n).length ≤ 1000 := by
  rcases n with _ | _ | _ | _ | _ | _ | _ | _ | _ | _ | n
  all_goals first | omega | decide +kernel
/-- The best stack. -/
def topV (l : List Int) (n : Int) : List Int := if g59 l n ≥ 258 then [] else pickV 0 l n
theorem rbest_ev (l : List Int) (hl : ∀ x ∈ l, 1 ≤ x ∧ x ≤ 100000) (h9 : l.length ≤ 9) (n : Int) (h0 : 0 ≤ n) : Ev (fun k => metrolabref50_Best.f k l n) (topV l n) := by
  have h1 := best_go l hl n (allS l.length) (fun st hst => by obtain ⟨a, b⟩ := allS_ok l.length st hst; exact ⟨a, by omega⟩) (by have := allS_len l.length h9; omega) (allS l.length).length 0 (by omega) (by omega)
  rw [List.drop_zero, find_all l n h0 (fun x hx => (hl x hx).1) (by omega)] at h1
  have e : (if g59 l n ≥ 258 then none else some (pickV 0 l n)).getD [] = topV l n := by unfold topV; split <;> rfl
  rw [e] at h1
  exact Ev.bind (stacks_ev l.length h9) h1
theorem topV_nil {l : List Int} {n : Int} (h1 : 1 ≤ n) (h : g59 l n < 258) : pickV 0 l n ≠ [] := by
  intro e
  have h2 := pickV_len l 0 n h
  rw [e] at h2
  have : g59 l n = 0 := by simpa using h2.symm
  have key : ∀ (xs : List Int) (m : Int), g59 xs m = 0 → m = 0 := by
    intro xs
    induction xs with
    | nil => intro m hm; unfold g59 cellv at hm; by_cases h : m = 0; exact h; rw [if_neg h] at hm; omega
    | cons x xs ih =>
      intro m hm
      rw [g59_cons] at hm
      have := g59_bd xs (m - x)
      refine ih m ?_
      split at hm <;> omega
  have := key l n this
  omega
/-- What Fewest returns. -/
def fewestV (l : List Int) (n : Int) : List Int × Int := if givenE l n ≠ 0 then ([], givenE l n) else if g59 l n ≥ 258 then ([], 6) else (pickV 0 l n, 0)
theorem fewest_ev (l : List Int) (n : Int) : Ev (fun k => blocks_Fewest.f k l n) (fewestV l n) := by
  unfold fewestV
  refine Ev.bind (given_ev l n) ?_
  by_cases hg : givenE l n = 0
  · obtain ⟨g1, g2, g3⟩ := givenE_zero hg
    simp only [hg, if_true, ne_eq, not_true, if_false]
    refine Ev.bind (g := fun _ => blocks_best.f l n) (a := bestV l n) ⟨0, fun _ _ => by unfold blocks_best.f; rw [if_pos ⟨g1, g2, g3⟩]⟩ ?_
    unfold bestV
    by_cases h : g59 l n ≥ 258
    · rw [if_pos h, if_pos h]; exact Ev.now _
    · rw [if_neg h, if_neg h]; exact Ev.now _
  · simp only [hg, if_false, ne_eq, not_false_eq_true, if_true]
    exact Ev.now _
theorem givenE_of {l : List Int} {n : Int} (h : chk l = 0) : givenE l n = if 1 ≤ n ∧ n ≤ 100000 then 0 else 2 := by unfold givenE; rw [if_pos h]
theorem rfewest_ev (l : List Int) (n : Int) (h9 : l.length ≤ 9 ∨ chk l ≠ 0) : Ev (fun k => metrolabref50_Fewest.f k l n) (fewestV l n) := by
  unfold fewestV
  refine Ev.bind (rcheck_ev l) ?_
  by_cases hc : chk l = 0
  · obtain ⟨hlen, hasc⟩ := chk_zero.1 hc
    rw [givenE_of hc]
    simp only [hc, if_true]
    rw [rinside_is]
    by_cases hi : 1 ≤ n ∧ n ≤ 100000
    · simp only [hi, decide_true, Option.bind_some, if_true, ne_eq, not_true, if_false, and_self]
      have hbest := rbest_ev l hasc.mem (by rcases h9 with h | h; exact h; exact absurd hc h) n (by omega)
      refine Ev.bind hbest ?_
      unfold topV
      by_cases h : g59 l n ≥ 258
      · simp only [h, if_true]; exact Ev.now _
      · have := topV_nil hi.1 (show g59 l n < 258 by omega)
        simp only [h, this, if_false]; exact Ev.now _
    · rw [if_neg hi]
      simp only [hi, decide_false, Option.bind_some]
      exact Ev.now _
  · have hg : givenE l n = chk l := by unfold givenE; rw [if_neg hc]
    rw [hg]
    simp only [hc, if_false, ne_eq, not_false_eq_true, if_true]
    exact Ev.now _
end Go.Proofs.Ytgkgeodphgfgnaa.Pr
/- The plain laws: the fewest blocks of a great set, by a search. -/
namespace Go.Proofs.Ytgkgeodphgfgnaa.Pr
open Go.RowKit Go.Proofs.YtgkgeodphgfgnaaW.PrintWords Go.Proofs.YtgkgeodphgfgnaaW.PrintLast

/-- Is there a stack of at most m blocks? -/
def reach : List Int → Nat → Int → Bool
  | [], _, n => decide (n = 0)
  | _ :: _, 0, n => decide (n = 0)
  | x :: xs, m + 1, n => reach xs (m + 1) n || (decide (x ≤ n) && reach xs m (n - x))
theorem reach_zero : ∀ (xs : List Int) (n : Int), reach xs 0 n = decide (n = 0)
  | [], _ => rfl
  | _ :: _, _ => rfl
theorem reach_of : ∀ (xs : List Int) (m : Nat) (n : Int), g59 xs n ≤ m → m < 258 → reach xs m n = true
  | [], m, n, h, hm => by
    unfold g59 cellv at h
    by_cases hn : n = 0
    · simp [reach, hn]
    · rw [if_neg hn] at h; omega
  | x :: xs, 0, n, h, hm => by
    rw [reach_zero, ← reach_zero xs]
    refine reach_of xs 0 n ?_ hm
    rw [g59_cons] at h
    have := g59_bd xs (n - x)
    split at h <;> omega
  | x :: xs, m + 1, n, h, hm => by
    rw [g59_cons] at h
    by_cases h1 : g59 xs n ≤ ((m + 1 : Nat) : Int)
    · simp [reach, reach_of xs (m + 1) n h1 hm]
    · by_cases h2 : n ≥ x
      · rw [if_pos h2] at h
        have := reach_of xs m (n - x) (by omega) (by omega)
        simp [reach, this, show x ≤ n by omega]
      · rw [if_neg h2] at h
        omega
theorem g59_sub : ∀ (xs st : List Int), st.Sublist xs → (∀ x ∈ xs, 1 ≤ x) → 0 ≤ st.sum ∧ g59 xs st.sum ≤ st.length
  | [], st, h, _ => by
    obtain rfl := List.sublist_nil.1 h
    exact ⟨Int.le_refl _, by simp [g59_zero]⟩
  | x :: xs, st, h, hx => by
    have hx1 := hx x List.mem_cons_self
    have hxs : ∀ y ∈ xs, 1 ≤ y := fun y hy => hx y (List.mem_cons_of_mem _ hy)
    rcases List.sublist_cons_iff.1 h with h' | ⟨r, rfl, h'⟩
    · obtain ⟨h1, h2⟩ := g59_sub xs st h' hxs
      refine ⟨h1, ?_⟩
      rw [g59_cons]
      omega
    · obtain ⟨h1, h2⟩ := g59_sub xs r h' hxs
      rw [List.sum_cons, g59_cons, if_pos (by omega), show x + r.sum - x = r.sum by omega]
      simp only [List.length_cons]
      omega
end Go.Proofs.Ytgkgeodphgfgnaa.Pr
/- The plain laws: the set of 87. -/
namespace Go.Proofs.Ytgkgeodphgfgnaa.Pr
open Go.RowKit Go.Proofs.YtgkgeodphgfgnaaW.PrintWords Go.Proofs.YtgkgeodphgfgnaaW.PrintLast

theorem s87_pos : ∀ x ∈ s87, 1 ≤ x := by decide +kernel
theorem s87_not3 : reach s87 3 57315 = false := by decide +kernel
theorem s87_four : g59 s87 57315 = 4 := by
  have h1 := (g59_sub s87 [1005, 1310, 5000, 50000] (by decide +kernel) s87_pos).2
  have e : ([1005, 1310, 5000, 50000] : List Int).sum = 57315 := by decide
  rw [e] at h1
  have h2 : ¬ g59 s87 57315 ≤ (3 : Nat) := fun h => by
    have := reach_of s87 3 57315 h (by omega)
    rw [s87_not3] at this
    cases this
  simp at h1
  omega
end Go.Proofs.Ytgkgeodphgfgnaa.Pr
/- The plain law: 'awake' says yes. -/
namespace Go.Proofs.Ytgkgeodphgfgnaa.Pr
open Go.RowKit Go.Proofs.YtgkgeodphgfgnaaW.PrintWords Go.Proofs.YtgkgeodphgfgnaaW.PrintLast

def awS : List Int := [1, 2, 3, 6]
def awT : List S57 := [⟨6, 2, [3]⟩, ⟨9, 2, [2, 3]⟩, ⟨12, 1, [0, 1, 2, 3]⟩]
theorem aw_row (N C J : Int) (ST : List Int) (h1 : fewestV awS N = (ST, 0)) (h2 : countV awS N = (C, 0)) (h3 : Ev (fun k => blocks_Verify.f k awS N ST) 0) (hl : ST.length ≤ 140737488351232) (hn : Ev (fun k => metrolablaw50_awake.l0 k awS awT 3 J) true) :
    Ev (fun k => (blocks_Fewest.f k awS N).bind fun bt => (blocks_Count.f awS N).bind fun c => if wrap64 (bt.2 + c.2) = 0 then (if c.1 = C then ((slices_Equal_int_int.f k bt.1 ST).bind fun t => if t = true then ((blocks_Verify.f k awS N bt.1).bind fun t' => if t' = 0 then metrolablaw50_awake.l0 k awS awT 3 J else some false) else some false) else some false) else some false) true := by
  refine Ev.bind (h1 ▸ fewest_ev awS N) ?_
  refine Ev.bind (g := fun _ => blocks_Count.f awS N) (a := (C, 0)) ⟨0, fun _ _ => congrArg some h2⟩ ?_
  simp only [show wrap64 (0 + 0) = 0 from by decide +kernel, if_true]
  refine Ev.bind (a := true) (by simpa using equal_ev ST ST hl) ?_
  simp only [if_true]
  refine Ev.bind h3 ?_
  simp only [if_true]
  exact hn
theorem aw_last : Ev (fun k => (blocks_Fewest.f k awS 13).bind fun b1 => (blocks_Reach.f awS 2).bind fun b2 => (blocks_Standard.f 87).bind fun b3 => (blocks_Fewest.f k b3.1 57315).bind fun b4 => if b1.2 = 6 then (if wrap64 (wrap64 (b2.2 + b3.2) + b4.2) = 0 then ((slices_Equal_int_int.f k b2.1 [1, 2, 3, 4, 5, 6, 7, 8, 9]).bind fun t => if t = true then (if (b3.1.length : Int) = 87 then some ((b4.1.length : Int) == 4) else some false) else some false) else some false) else some false) true := by
  have e1 : fewestV awS 13 = ([], 6) := by decide +kernel
  have e2 : reachV awS 2 = ([1, 2, 3, 4, 5, 6, 7, 8, 9], 0) := by decide +kernel
  have e3 : chk s87 = 0 := by decide +kernel
  have e4 : fewestV s87 57315 = (pickV 0 s87 57315, 0) := by
    unfold fewestV
    rw [givenE_of e3, s87_four, if_neg (show ¬ ((if (1 : Int) ≤ 57315 ∧ (57315 : Int) ≤ 100000 then (0 : Int) else 2) ≠ 0) by decide), if_neg (by decide)]
  have e5 := pickV_len s87 0 57315 (by rw [s87_four]; decide)
  rw [s87_four] at e5
  refine Ev.bind (e1 ▸ fewest_ev awS 13) ?_
  refine Ev.bind (g := fun _ => blocks_Reach.f awS 2) (a := ([1, 2, 3, 4, 5, 6, 7, 8, 9], 0)) ⟨0, fun _ _ => congrArg some e2⟩ ?_
  refine Ev.bind (g := fun _ => blocks_Standard.f 87) (a := (s87, 0)) ⟨0, fun _ _ => rfl⟩ ?_
  refine Ev.bind (e4 ▸ fewest_ev s87 57315) ?_
  simp only [show wrap64 (wrap64 (0 + 0) + 0) = 0 from by decide +kernel, if_true, e5]
  refine Ev.bind (a := true) (by simpa using equal_ev [1, 2, 3, 4, 5, 6, 7, 8, 9] [1, 2, 3, 4, 5, 6, 7, 8, 9] (by decide)) ?_
  simp only [if_true]
  rw [if_pos (show ((s87.length : Nat) : Int) = 87 by decide)]
  exact Ev.now _
theorem awake_ev : Ev (fun k => metrolablaw50_awake.f k) true := by
  have h3 : Ev (fun k => metrolablaw50_awake.l0 k awS awT 3 3) true := by
    refine Ev.step ?_ aw_last
    intro k
    simp only [metrolablaw50_awake.l0]
    rw [if_neg (by decide)]
  have h2 : Ev (fun k => metrolablaw50_awake.l0 k awS awT 3 2) true := by
    refine Ev.step ?_ (aw_row 12 1 3 [0, 1, 2, 3] (by decide +kernel) (by decide +kernel) (Ev.of (k := 40) (blocks_Verify.mono _ _ _) (by decide +kernel)) (by decide) h3)
    intro k
    simp only [metrolablaw50_awake.l0]
    rw [if_pos (by decide), if_pos (by decide), if_pos (by decide), show wrap64 (2 + 1) = 3 from by decide +kernel]
    rfl
  have h1 : Ev (fun k => metrolablaw50_awake.l0 k awS awT 3 1) true := by
    refine Ev.step ?_ (aw_row 9 2 2 [2, 3] (by decide +kernel) (by decide +kernel) (Ev.of (k := 40) (blocks_Verify.mono _ _ _) (by decide +kernel)) (by decide) h2)
    intro k
    simp only [metrolablaw50_awake.l0]
    rw [if_pos (by decide), if_pos (by decide), if_pos (by decide), show wrap64 (1 + 1) = 2 from by decide +kernel]
    rfl
  have h0 : Ev (fun k => metrolablaw50_awake.l0 k awS awT 3 0) true := by
    refine Ev.step ?_ (aw_row 6 2 1 [3] (by decide +kernel) (by decide +kernel) (Ev.of (k := 40) (blocks_Verify.mono _ _ _) (by decide +kernel)) (by decide) h1)
    intro k
    simp only [metrolablaw50_awake.l0]
    rw [if_pos (by decide), if_pos (by decide), if_pos (by decide), show wrap64 (0 + 1) = 1 from by decide +kernel]
    rfl
  exact Ev.congr (fun k => rfl) h0
end Go.Proofs.Ytgkgeodphgfgnaa.Pr
namespace Go.Proofs.Ytgkgeodphgfgnaa.Pure
open Go.RowKit Go.Proofs.Ytgkgeodphgfgnaa.Pr Go.Proofs.YtgkgeodphgfgnaaW.PrintWords Go.Proofs.YtgkgeodphgfgnaaW.PrintLast

theorem few_or {l : List Int} (h : fewV l = true) : l.length ≤ 9 ∨ chk l ≠ 0 := by
  unfold fewV at h
  by_cases h1 : l.length ≤ 9
  · exact .inl h1
  · rw [if_neg h1] at h
    by_cases h2 : l.length ≤ 512
    · rw [if_pos h2] at h
      exact .inr (by simpa using h)
    · rw [if_neg h2] at h
      cases h
theorem fewestV_small (l : List Int) (n : Int) : (fewestV l n).1.length ≤ 140737488351232 := by
  unfold fewestV
  by_cases hg : givenE l n = 0
  · obtain ⟨g1, _, _⟩ := givenE_zero hg
    have h1 := (chk_zero.1 g1).1
    have := pickV_le l 0 n
    rw [if_neg (by rw [hg]; decide)]
    split
    · exact Nat.zero_le _
    · show (pickV 0 l n).length ≤ _
      omega
  · rw [if_pos hg]
    exact Nat.zero_le _
theorem BlocksFewest : metrolablaw50_BlocksFewest.Pure := by
  intro l0 a1 _ _ _ _
  refine Ev.rounds (g := fun k => metrolablaw50_BlocksFewest.f k l0 a1) ?_
  refine Ev.bind (few_ev l0) ?_
  by_cases h : fewV l0 = true
  · simp only [h, if_true]
    refine Ev.bind (fewest_ev l0 a1) ?_
    refine Ev.bind (rfewest_ev l0 a1 (few_or h)) ?_
    refine Ev.bind (a := true) (by simpa using equal_ev (fewestV l0 a1).1 (fewestV l0 a1).1 (fewestV_small l0 a1)) ?_
    simp only [if_true]
    exact Ev.bind awake_ev (Ev.now _)
  · simp only [h, if_false, Bool.false_eq_true]
    exact Ev.bind awake_ev (Ev.now _)

end Go.Proofs.Ytgkgeodphgfgnaa.Pure
