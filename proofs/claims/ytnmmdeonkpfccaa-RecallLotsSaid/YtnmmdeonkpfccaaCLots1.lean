/- The statement is proved as it is given, without a condition of ours. -/
import Derived.Test.YtnmmdeonkpfccaaB1
import Derived.Test.YtnmmdeonkpfccaaB3
import Derived.Test.YtnmmdeonkpfccaaB4
import Derived.Test.YtnmmdeonkpfccaaB5
import Derived.Test.YtnmmdeonkpfccaaB6
import Derived.Deep.Slices
import Derived.Deep.Fields
import Derived.ChangeSame
import Derived.SizedLaws
import Derived.Test.YtnmmdeonkpfccaaRows
import Derived.WalkKit
import Derived.ProofKit
import Derived.OpenShut
import Derived.ShutString
import Derived.ChangeOld
import Derived.Below
-- Printed for this claim by a program of this session, over the kit's printer. Not trusted: Lean checks it.
namespace Go.Proofs.Ytnmmdeonkpfccaa.Pr
open Go.RowKit Go.Proofs.YtnmmdeonkpfccaaW.PrintWords Go.Proofs.YtnmmdeonkpfccaaW.PrintLast Go.Proofs.YtnmmdeonkpfccaaW.PrintMore
attribute [local go_sem] max2_int min2_int max_two min_two max_three min_three max_four min_four
set_option linter.unusedVariables false
set_option linter.unusedSimpArgs false

/-! ### metrolabref53_Lots: function 21 -/
def metrolabref53_Lots.l0 : Nat → List (S67) → List ByteArray → Int → Option (List ByteArray × Int)
 | 0, _, _, _ => none
 | k + 1, x0, x5, x6 => if x6 < (x0.length : Int) then (if 0 ≤ x6 then (if ((rd_T67 x0 x6).f0) = 0 then ((metrolabref53_Recalled.f k x0 ((rd_T67 x0 x6).f2)).bind fun t231 => (if t231 = true then ((metrolabref19_Put.f k x5 ((rd_T67 x0 x6).f3)).bind fun t233 => (metrolabref53_Lots.l0 k x0 t233 (wrap64 (x6 + 1)))) else (metrolabref53_Lots.l0 k x0 x5 (wrap64 (x6 + 1))))) else (metrolabref53_Lots.l0 k x0 x5 (wrap64 (x6 + 1)))) else (none)) else (some (x5, 0))
def metrolabref53_Lots.f (k : Nat) (l0 : List (S67)) : Option (List ByteArray × Int) := (metrolabref53_Check.f k l0).bind fun t228 => (if t228 = 0 then (metrolabref53_Lots.l0 k l0 ([] : List ByteArray) 0) else (some (([] : List ByteArray), t228)))
theorem metrolabref53_Lots.mono_l : ∀ k, (∀ y0 y1 y2, LeO (metrolabref53_Lots.l0 k y0 y1 y2) (metrolabref53_Lots.l0 (k + 1) y0 y1 y2))
 | 0 => fun _ _ _ r h => by simp [metrolabref53_Lots.l0] at h
 | k + 1 => by
  have ih0 := metrolabref53_Lots.mono_l k
  ·intro y0 y1 y2
   unfold metrolabref53_Lots.l0
   repeat' first
   | (with_reducible exact ih0 _ _ _)
   | (with_reducible exact metrolabref19_Put.mono _ _ _)
   | (with_reducible exact metrolabref53_Check.mono _ _)
   | (with_reducible exact metrolabref53_Recalled.mono _ _ _)
   | (with_reducible exact LeO.refl _)
   | (with_reducible exact LeO.none _)
   | (with_reducible refine LeO.ite ?_ ?_)
   | (with_reducible refine LeO.bind ?_ (fun _ => ?_))
   | exact ih0 _ _ _
   | exact metrolabref19_Put.mono _ _ _
   | exact metrolabref53_Check.mono _ _
   | exact metrolabref53_Recalled.mono _ _ _
   | exact LeO.none _
   | refine LeO.ite ?_ ?_
   | refine LeO.bind ?_ (fun _ => ?_)
theorem metrolabref53_Lots.mono : ∀ a0 k, LeO (metrolabref53_Lots.f k a0) (metrolabref53_Lots.f (k + 1) a0) := by
 intro a0 k
 have ih0 := metrolabref53_Lots.mono_l k
 unfold metrolabref53_Lots.f
 repeat' first
   | (with_reducible exact ih0 _ _ _)
   | (with_reducible exact metrolabref19_Put.mono _ _ _)
   | (with_reducible exact metrolabref53_Check.mono _ _)
   | (with_reducible exact metrolabref53_Recalled.mono _ _ _)
   | (with_reducible exact LeO.refl _)
   | (with_reducible exact LeO.none _)
   | (with_reducible refine LeO.ite ?_ ?_)
   | (with_reducible refine LeO.bind ?_ (fun _ => ?_))
   | exact ih0 _ _ _
   | exact metrolabref19_Put.mono _ _ _
   | exact metrolabref53_Check.mono _ _
   | exact metrolabref53_Recalled.mono _ _ _
   | exact LeO.none _
   | refine LeO.ite ?_ ?_
   | refine LeO.bind ?_ (fun _ => ?_)
set_option maxHeartbeats 8000000 in
set_option maxRecDepth 100000 in
theorem metrolabref53_Lots.calls (k : Nat) (A0 : Option Addr) (c0 : Nat) (l0 : List (S67)) (r1 : List ByteArray) (r2 : Int) (w : World) (hr0 : Kd.C k67 w A0 l0.length l0) (hc0 : l0.length ≤ c0) (h : metrolabref53_Lots.f k l0 = some (r1, r2)) :
  Calls Try.prog 21 #[.slice A0 l0.length c0] w fun e w' => ∃ v0_ : Value, e = .returned (.tuple #[v0_, .int .i64 r2]) ∧ Kd.R Kd.string 9 w' w.heap.size (fun _ => True) v0_ r1 ∧ Below w.heap.size w w' := by
 have HR0 := Aside0.mk hr0
 have HC0 := Aside0.mk hc0
 clear hr0 hc0
 have HB := Aside0.mk (Below.refl w.heap.size w)
 have H : ((metrolabref53_Check.f k l0).bind fun t228 => (if t228 = 0 then (metrolabref53_Lots.l0 k l0 ([] : List ByteArray) 0) else (some (([] : List ByteArray), t228)))) = some (r1, r2) := h
 clear h
 replace H := Option.bind_eq_some_iff.mp H
 obtain ⟨t228, A20, H⟩ := H
 replace H : (if t228 = 0 then (metrolabref53_Lots.l0 k l0 ([] : List ByteArray) 0) else (some (([] : List ByteArray), t228))) = some (r1, r2) := H
 have A2 := Aside0.mk A20
 clear A20
 by_cases c3 : t228 = 0
 ·rw [if_pos c3] at H
  have c3b0 : (t228 == 0) = true := beq_iff_eq.mpr c3
  have c3b1 : (t228 != 0) = false := bne_eq_false_iff_eq.mpr c3
  clear c3
  have H' := Aside0.mk H
  clear H
  go_enter Try.func21, Try.ntmps21
  go_wp2_with (first | ((with_reducible refine gate_callee (f := 17) rfl ?_); refine goesL_ (some 8) rfl rfl Try.func17 (by kernel_rfl) rfl #[.slice A0 l0.length c0] rfl (by (try simp only [List.map_toArray, List.map_cons, List.map_nil]); first | done | rfl | (simp only [List.length_drop, List.length_take]; rfl)) ?_; (with_reducible refine (metrolabref53_Check.calls k _ _ l0 t228 _ ?side1 ?side2 A2.out).mono ?_); (case side1 => repeat (first | exact HR0.out | (with_reducible refine Kd.C_alloc ?_ _) | (with_reducible refine Kd.C_drewN ?_ _) | (with_reducible refine Kd.C_drew ?_))); (case side2 => exact HC0.out); rintro e w4 ⟨rfl, hb⟩; refine ⟨_, rfl, ?_⟩; have n0_ := Aside0.mk (below_step (by repeat (first | (with_reducible first | exact HB.out | apply below_alloc | apply pw_below_drewN | apply below_drew1) | exact HB.out)) hb); clear HB; have HB := n0_; clear n0_; (try clear hb); (try clear hb2); (try clear hk); (try clear hi)))
  go_loopg [5, 6] k (fun kq v5 v6 w' => ∃ (x5_1 : List ByteArray) (x6_1 : Int), v6 = .int .i64 x6_1 ∧ Aside0 (metrolabref53_Lots.l0 kq l0 x5_1 x6_1 = some (r1, r2)) ∧ Aside0 (kq ≤ k) ∧ Aside0 (Kd.R Kd.string 9 w' w.heap.size (fun _ => True) v5 x5_1) ∧ Aside0 (Below w.heap.size w w'))
  case atStart => exact ⟨(([] : List ByteArray)), (0), (by first | rfl | (simp; done) | (simp [*]; done)), H', ⟨Nat.le_refl _⟩, ⟨by first | exact Kd.R_nil _ _ _ _ _ | exact Kd.N_nil _ _ _ _ _ | exact Kd.V_nil _ _ _ _ _ | exact Kd.Q_nil _ _ _ _ _ | exact Kd.S_nil _ _ _ _ _⟩, ⟨by repeat (first | (with_reducible first | exact HB.out | apply below_alloc | apply pw_below_drewN | apply below_drew1) | exact HB.out)⟩⟩
  case round =>
   clear H'
   try clear c1
   try clear c2
   try clear p2
   try clear c3
   try clear c3b0
   try clear c3b1
   obtain ⟨x5_1, x6_1, rfl, HA, HK1, HO_5, HB⟩ := hrel
   cases gk with
   | zero => exact absurd HA.out (by simp [metrolabref53_Lots.l0])
   | succ k1 =>
    have H := HA.out
    clear HA
    simp only [metrolabref53_Lots.l0] at H
    by_cases c5 : x6_1 < (l0.length : Int)
    ·rw [if_pos c5] at H
     have c5b0 : decide (x6_1 < (l0.length : Int)) = true := decide_eq_true c5
     clear c5
     by_cases c6 : 0 ≤ x6_1
     ·rw [if_pos c6] at H
      have c6b0 : decide (0 ≤ x6_1) = true := decide_eq_true c6
      clear c6
      by_cases c7 : ((rd_T67 l0 x6_1).f0) = 0
      ·rw [if_pos c7] at H
       have c7b0 : (((rd_T67 l0 x6_1).f0) == 0) = true := beq_iff_eq.mpr c7
       have c7b1 : (((rd_T67 l0 x6_1).f0) != 0) = false := bne_eq_false_iff_eq.mpr c7
       clear c7
       replace H := Option.bind_eq_some_iff.mp H
       obtain ⟨t231, A80, H⟩ := H
       replace H : (if t231 = true then ((metrolabref19_Put.f k1 x5_1 ((rd_T67 l0 x6_1).f3)).bind fun t233 => (metrolabref53_Lots.l0 k1 l0 t233 (wrap64 (x6_1 + 1)))) else (metrolabref53_Lots.l0 k1 l0 x5_1 (wrap64 (x6_1 + 1)))) = some (r1, r2) := H
       have A8 := Aside0.mk A80
       clear A80
       by_cases c9 : t231 = true
       ·subst c9
        have H1 : ((metrolabref19_Put.f k1 x5_1 ((rd_T67 l0 x6_1).f3)).bind fun t233 => (metrolabref53_Lots.l0 k1 l0 t233 (wrap64 (x6_1 + 1)))) = some (r1, r2) := by rw [if_pos rfl] at H; exact H
        clear H
        have H := H1
        clear H1
        replace H := Option.bind_eq_some_iff.mp H
        obtain ⟨t233, A100, H⟩ := H
        replace H : (metrolabref53_Lots.l0 k1 l0 t233 (wrap64 (x6_1 + 1))) = some (r1, r2) := H
        have A10 := Aside0.mk A100
        clear A100
        have H' := Aside0.mk H
        clear H
        have p229 : 0 ≤ (x6_1 : Int) := of_decide_eq_true (by first | (with_reducible assumption) | assumption)
        have q229 : x6_1 < (l0.length : Int) := of_decide_eq_true (by first | (with_reducible assumption) | assumption)
        obtain ⟨ad229, e229, hx229_0, hx229_1, hx229_2, hx229_3⟩ := at_T67 HR0.out x6_1 p229 q229
        cases e229
        replace hx229_0 := (HB.out.cell (World.block_lt_of_cell? w _ hx229_0)).trans hx229_0
        replace hx229_1 := (HB.out.cell (World.block_lt_of_cell? w _ hx229_1)).trans hx229_1
        replace hx229_2 := (HB.out.cell (World.block_lt_of_cell? w _ hx229_2)).trans hx229_2
        replace hx229_3 := (HB.out.cell (World.block_lt_of_cell? w _ hx229_3)).trans hx229_3
        replace p229 := eq_true p229
        replace q229 := eq_true q229
        have p230 : 0 ≤ (x6_1 : Int) := of_decide_eq_true (by first | (with_reducible assumption) | assumption)
        have q230 : x6_1 < (l0.length : Int) := of_decide_eq_true (by first | (with_reducible assumption) | assumption)
        obtain ⟨ad230, e230, hx230_0, hx230_1, hx230_2, hx230_3⟩ := at_T67 HR0.out x6_1 p230 q230
        obtain rfl : ad229 = ad230 := (by injection e230)
        replace hx230_0 := (HB.out.cell (World.block_lt_of_cell? w _ hx230_0)).trans hx230_0
        replace hx230_1 := (HB.out.cell (World.block_lt_of_cell? w _ hx230_1)).trans hx230_1
        replace hx230_2 := (HB.out.cell (World.block_lt_of_cell? w _ hx230_2)).trans hx230_2
        replace hx230_3 := (HB.out.cell (World.block_lt_of_cell? w _ hx230_3)).trans hx230_3
        replace p230 := eq_true p230
        replace q230 := eq_true q230
        go_wp2_with (first | (go_at_call 47; (with_reducible refine (metrolabref53_Recalled.calls k1 _ _ l0 ((rd_T67 l0 x6_1).f2) true _ ?side1 ?side2 A8.out).mono ?_); (case side1 => repeat (first | exact (Kd.C_below HR0.out HB.out) | (with_reducible refine Kd.C_alloc ?_ _) | (with_reducible refine Kd.C_drewN ?_ _) | (with_reducible refine Kd.C_drew ?_))); (case side2 => exact HC0.out); rintro e w' ⟨rfl, ⟨nd, rfl⟩⟩; have p232 : 0 ≤ (x6_1 : Int) := of_decide_eq_true (by first | (with_reducible assumption) | assumption); have q232 : x6_1 < (l0.length : Int) := of_decide_eq_true (by first | (with_reducible assumption) | assumption); obtain ⟨ad232, e232, hx232_0, hx232_1, hx232_2, hx232_3⟩ := at_T67 HR0.out x6_1 p232 q232; obtain rfl : ad229 = ad232 := (by injection e232); replace hx232_0 := (HB.out.cell (World.block_lt_of_cell? w _ hx232_0)).trans hx232_0; replace hx232_1 := (HB.out.cell (World.block_lt_of_cell? w _ hx232_1)).trans hx232_1; replace hx232_2 := (HB.out.cell (World.block_lt_of_cell? w _ hx232_2)).trans hx232_2; replace hx232_3 := (HB.out.cell (World.block_lt_of_cell? w _ hx232_3)).trans hx232_3; replace p232 := eq_true p232; replace q232 := eq_true q232; obtain ⟨Ao11, co11, eo11⟩ := Kd.R_slice HO_5.out; subst eo11) | ((with_reducible refine gate_callee (f := 48) rfl ?_); refine goesL_ (some 39) rfl rfl Try.func48 (by kernel_rfl) rfl #[.slice Ao11 x5_1.length co11, .string ((rd_T67 l0 x6_1).f3)] rfl (by (try simp only [List.map_toArray, List.map_cons, List.map_nil]); first | done | rfl | (simp only [List.length_drop, List.length_take]; rfl)) ?_; (with_reducible refine (metrolabref19_Put.calls k1 _ _ x5_1 ((rd_T67 l0 x6_1).f3) t233 _ ?side1 ?side2 A10.out).mono ?_); (case side1 => repeat (first | exact (Kd.R_reads' HO_5.out).2.2 | (with_reducible refine Kd.C_alloc ?_ _) | (with_reducible refine Kd.C_drewN ?_ _) | (with_reducible refine Kd.C_drew ?_))); (case side2 => exact (Kd.R_reads' HO_5.out).2.1); rintro e w12 ⟨v234, rfl, ho0, hb⟩; refine ⟨_, rfl, ?_⟩; have n0_ := Aside0.mk (Kd.R_elder' (by (with_reducible repeat (first | apply Kd.R_alloc | apply Kd.R_drewN | apply Kd.R_drew)); exact HO_5.out) (Kd.R_base ho0) hb); have n1_ := Aside0.mk (Kd.R_lower (Kd.R_new' ho0 (Kd.R_lt (by (with_reducible repeat (first | apply Kd.R_alloc | apply Kd.R_drewN | apply Kd.R_drew)); exact HO_5.out))) (below_size (by repeat (first | (with_reducible first | exact HB.out | apply below_alloc | apply pw_below_drewN | apply below_drew1) | exact HB.out)))); have n2_ := Aside0.mk (below_step (by repeat (first | (with_reducible first | exact HB.out | apply below_alloc | apply pw_below_drewN | apply below_drew1) | exact HB.out)) hb); clear HO_5; clear HB; have HO_5 := n0_; have HO235 := n1_; have HB := n2_; clear n0_ n1_ n2_; (try clear hb); (try clear hb2); (try clear hk); (try clear hi); (try clear ho0)))
        go_roundg k1
        case measure => have := HK1.out; omega
        case rel => exact ⟨(t233), (wrap64 (x6_1 + 1)), (by first | rfl | (simp; done) | (simp [*]; done)), H', ⟨by have := HK1.out; omega⟩, ⟨by (with_reducible repeat (first | apply Kd.R_alloc | apply Kd.R_drewN | apply Kd.R_drew)); exact Kd.R_mono HO235.out (fun _ hk => trivial)⟩, ⟨by repeat (first | (with_reducible first | exact HB.out | apply below_alloc | apply pw_below_drewN | apply below_drew1) | exact HB.out)⟩⟩
       ·replace c9 := Bool.eq_false_iff.mpr c9
        subst c9
        have H1 : (metrolabref53_Lots.l0 k1 l0 x5_1 (wrap64 (x6_1 + 1))) = some (r1, r2) := by rw [if_neg (show ¬ (false = true) by decide)] at H; exact H
        clear H
        have H := H1
        clear H1
        have H' := Aside0.mk H
        clear H
        have p229 : 0 ≤ (x6_1 : Int) := of_decide_eq_true (by first | (with_reducible assumption) | assumption)
        have q229 : x6_1 < (l0.length : Int) := of_decide_eq_true (by first | (with_reducible assumption) | assumption)
        obtain ⟨ad229, e229, hx229_0, hx229_1, hx229_2, hx229_3⟩ := at_T67 HR0.out x6_1 p229 q229
        cases e229
        replace hx229_0 := (HB.out.cell (World.block_lt_of_cell? w _ hx229_0)).trans hx229_0
        replace hx229_1 := (HB.out.cell (World.block_lt_of_cell? w _ hx229_1)).trans hx229_1
        replace hx229_2 := (HB.out.cell (World.block_lt_of_cell? w _ hx229_2)).trans hx229_2
        replace hx229_3 := (HB.out.cell (World.block_lt_of_cell? w _ hx229_3)).trans hx229_3
        replace p229 := eq_true p229
        replace q229 := eq_true q229
        have p230 : 0 ≤ (x6_1 : Int) := of_decide_eq_true (by first | (with_reducible assumption) | assumption)
        have q230 : x6_1 < (l0.length : Int) := of_decide_eq_true (by first | (with_reducible assumption) | assumption)
        obtain ⟨ad230, e230, hx230_0, hx230_1, hx230_2, hx230_3⟩ := at_T67 HR0.out x6_1 p230 q230
        obtain rfl : ad229 = ad230 := (by injection e230)
        replace hx230_0 := (HB.out.cell (World.block_lt_of_cell? w _ hx230_0)).trans hx230_0
        replace hx230_1 := (HB.out.cell (World.block_lt_of_cell? w _ hx230_1)).trans hx230_1
        replace hx230_2 := (HB.out.cell (World.block_lt_of_cell? w _ hx230_2)).trans hx230_2
        replace hx230_3 := (HB.out.cell (World.block_lt_of_cell? w _ hx230_3)).trans hx230_3
        replace p230 := eq_true p230
        replace q230 := eq_true q230
        go_wp2_with (first | (go_at_call 47; (with_reducible refine (metrolabref53_Recalled.calls k1 _ _ l0 ((rd_T67 l0 x6_1).f2) false _ ?side1 ?side2 A8.out).mono ?_); (case side1 => repeat (first | exact (Kd.C_below HR0.out HB.out) | (with_reducible refine Kd.C_alloc ?_ _) | (with_reducible refine Kd.C_drewN ?_ _) | (with_reducible refine Kd.C_drew ?_))); (case side2 => exact HC0.out); rintro e w' ⟨rfl, ⟨nd, rfl⟩⟩))
        go_roundg k1
        case measure => have := HK1.out; omega
        case rel => exact ⟨(x5_1), (wrap64 (x6_1 + 1)), (by first | rfl | (simp; done) | (simp [*]; done)), H', ⟨by have := HK1.out; omega⟩, ⟨by (with_reducible repeat (first | apply Kd.R_alloc | apply Kd.R_drewN | apply Kd.R_drew)); exact HO_5.out⟩, ⟨by repeat (first | (with_reducible first | exact HB.out | apply below_alloc | apply pw_below_drewN | apply below_drew1) | exact HB.out)⟩⟩
      ·rw [if_neg c7] at H
       have c7b0 : (((rd_T67 l0 x6_1).f0) == 0) = false := beq_eq_false_iff_ne.mpr c7
       have c7b1 : (((rd_T67 l0 x6_1).f0) != 0) = true := bne_iff_ne.mpr c7
       have H' := Aside0.mk H
       clear H
       have p229 : 0 ≤ (x6_1 : Int) := of_decide_eq_true (by first | (with_reducible assumption) | assumption)
       have q229 : x6_1 < (l0.length : Int) := of_decide_eq_true (by first | (with_reducible assumption) | assumption)
       obtain ⟨ad229, e229, hx229_0, hx229_1, hx229_2, hx229_3⟩ := at_T67 HR0.out x6_1 p229 q229
       cases e229
       replace hx229_0 := (HB.out.cell (World.block_lt_of_cell? w _ hx229_0)).trans hx229_0
       replace hx229_1 := (HB.out.cell (World.block_lt_of_cell? w _ hx229_1)).trans hx229_1
       replace hx229_2 := (HB.out.cell (World.block_lt_of_cell? w _ hx229_2)).trans hx229_2
       replace hx229_3 := (HB.out.cell (World.block_lt_of_cell? w _ hx229_3)).trans hx229_3
       replace p229 := eq_true p229
       replace q229 := eq_true q229
       go_wp2
       go_roundg k1
       case measure => have := HK1.out; omega
       case rel => exact ⟨(x5_1), (wrap64 (x6_1 + 1)), (by first | rfl | (simp; done) | (simp [*]; done)), H', ⟨by have := HK1.out; omega⟩, ⟨by (with_reducible repeat (first | apply Kd.R_alloc | apply Kd.R_drewN | apply Kd.R_drew)); exact HO_5.out⟩, ⟨by repeat (first | (with_reducible first | exact HB.out | apply below_alloc | apply pw_below_drewN | apply below_drew1) | exact HB.out)⟩⟩
     ·rw [if_neg c6] at H
      exact absurd H (by simp)
    ·rw [if_neg c5] at H
     have c5b0 : decide (x6_1 < (l0.length : Int)) = false := decide_eq_false c5
     clear c5
     simp only [Option.some.injEq, Prod.mk.injEq] at H
     obtain ⟨rfl, rfl⟩ := H
     go_wp2
     go_ret2
     exact ⟨_, by first | rfl | (simp [errW_none, errW_some] <;> rfl) | (simp [*, errW_none, errW_some] <;> rfl), by (with_reducible repeat (first | apply Kd.R_alloc | apply Kd.R_drewN | apply Kd.R_drew)); exact HO_5.out, by repeat (first | (with_reducible first | exact HB.out | apply below_alloc | apply pw_below_drewN | apply below_drew1) | exact HB.out)⟩
 ·rw [if_neg c3] at H
  have c3b0 : (t228 == 0) = false := beq_eq_false_iff_ne.mpr c3
  have c3b1 : (t228 != 0) = true := bne_iff_ne.mpr c3
  simp only [Option.some.injEq, Prod.mk.injEq] at H
  obtain ⟨rfl, rfl⟩ := H
  go_enter Try.func21, Try.ntmps21
  go_wp2_with (first | ((with_reducible refine gate_callee (f := 17) rfl ?_); refine goesL_ (some 8) rfl rfl Try.func17 (by kernel_rfl) rfl #[.slice A0 l0.length c0] rfl (by (try simp only [List.map_toArray, List.map_cons, List.map_nil]); first | done | rfl | (simp only [List.length_drop, List.length_take]; rfl)) ?_; (with_reducible refine (metrolabref53_Check.calls k _ _ l0 t228 _ ?side1 ?side2 A2.out).mono ?_); (case side1 => repeat (first | exact HR0.out | (with_reducible refine Kd.C_alloc ?_ _) | (with_reducible refine Kd.C_drewN ?_ _) | (with_reducible refine Kd.C_drew ?_))); (case side2 => exact HC0.out); rintro e w13 ⟨rfl, hb⟩; refine ⟨_, rfl, ?_⟩; have n0_ := Aside0.mk (below_step (by repeat (first | (with_reducible first | exact HB.out | apply below_alloc | apply pw_below_drewN | apply below_drew1) | exact HB.out)) hb); clear HB; have HB := n0_; clear n0_; (try clear hb); (try clear hb2); (try clear hk); (try clear hi)))
  go_ret2
  exact ⟨_, by first | rfl | (simp [errW_none, errW_some] <;> rfl) | (simp [*, errW_none, errW_some] <;> rfl), by first | exact Kd.R_nil _ _ _ _ _ | exact Kd.N_nil _ _ _ _ _ | exact Kd.V_nil _ _ _ _ _ | exact Kd.Q_nil _ _ _ _ _ | exact Kd.S_nil _ _ _ _ _, by repeat (first | (with_reducible first | exact HB.out | apply below_alloc | apply pw_below_drewN | apply below_drew1) | exact HB.out)⟩

end Go.Proofs.Ytnmmdeonkpfccaa.Pr
-- Printed for this claim by a program of this session, over the kit's printer. Not trusted: Lean checks it.
namespace Go.Proofs.Ytnmmdeonkpfccaa.Pr
open Go.RowKit Go.Proofs.YtnmmdeonkpfccaaW.PrintWords Go.Proofs.YtnmmdeonkpfccaaW.PrintLast Go.Proofs.YtnmmdeonkpfccaaW.PrintMore
attribute [local go_sem] max2_int min2_int max_two min_two max_three min_three max_four min_four
set_option linter.unusedVariables false
set_option linter.unusedSimpArgs false

/-! ### metrolabref53_Unsure: function 23 -/
def metrolabref53_Unsure.l0 : Nat → List (S67) → List ByteArray → Int → Option (List ByteArray × Int)
 | 0, _, _, _ => none
 | k + 1, x0, x5, x6 => if x6 < (x0.length : Int) then ((metrolabref53_State.f k x0 x6).bind fun t237 => (if t237 = 1 then (if 0 ≤ x6 then ((metrolabref19_Put.f k x5 ((rd_T67 x0 x6).f1)).bind fun t239 => (metrolabref53_Unsure.l0 k x0 t239 (wrap64 (x6 + 1)))) else (none)) else (metrolabref53_Unsure.l0 k x0 x5 (wrap64 (x6 + 1))))) else (some (x5, 0))
def metrolabref53_Unsure.f (k : Nat) (l0 : List (S67)) : Option (List ByteArray × Int) := (metrolabref53_Check.f k l0).bind fun t236 => (if t236 = 0 then (metrolabref53_Unsure.l0 k l0 ([] : List ByteArray) 0) else (some (([] : List ByteArray), t236)))
theorem metrolabref53_Unsure.mono_l : ∀ k, (∀ y0 y1 y2, LeO (metrolabref53_Unsure.l0 k y0 y1 y2) (metrolabref53_Unsure.l0 (k + 1) y0 y1 y2))
 | 0 => fun _ _ _ r h => by simp [metrolabref53_Unsure.l0] at h
 | k + 1 => by
  have ih0 := metrolabref53_Unsure.mono_l k
  ·intro y0 y1 y2
   unfold metrolabref53_Unsure.l0
   repeat' first
   | (with_reducible exact ih0 _ _ _)
   | (with_reducible exact metrolabref19_Put.mono _ _ _)
   | (with_reducible exact metrolabref53_Check.mono _ _)
   | (with_reducible exact metrolabref53_State.mono _ _ _)
   | (with_reducible exact LeO.refl _)
   | (with_reducible exact LeO.none _)
   | (with_reducible refine LeO.ite ?_ ?_)
   | (with_reducible refine LeO.bind ?_ (fun _ => ?_))
   | exact ih0 _ _ _
   | exact metrolabref19_Put.mono _ _ _
   | exact metrolabref53_Check.mono _ _
   | exact metrolabref53_State.mono _ _ _
   | exact LeO.none _
   | refine LeO.ite ?_ ?_
   | refine LeO.bind ?_ (fun _ => ?_)
theorem metrolabref53_Unsure.mono : ∀ a0 k, LeO (metrolabref53_Unsure.f k a0) (metrolabref53_Unsure.f (k + 1) a0) := by
 intro a0 k
 have ih0 := metrolabref53_Unsure.mono_l k
 unfold metrolabref53_Unsure.f
 repeat' first
   | (with_reducible exact ih0 _ _ _)
   | (with_reducible exact metrolabref19_Put.mono _ _ _)
   | (with_reducible exact metrolabref53_Check.mono _ _)
   | (with_reducible exact metrolabref53_State.mono _ _ _)
   | (with_reducible exact LeO.refl _)
   | (with_reducible exact LeO.none _)
   | (with_reducible refine LeO.ite ?_ ?_)
   | (with_reducible refine LeO.bind ?_ (fun _ => ?_))
   | exact ih0 _ _ _
   | exact metrolabref19_Put.mono _ _ _
   | exact metrolabref53_Check.mono _ _
   | exact metrolabref53_State.mono _ _ _
   | exact LeO.none _
   | refine LeO.ite ?_ ?_
   | refine LeO.bind ?_ (fun _ => ?_)
set_option maxHeartbeats 8000000 in
set_option maxRecDepth 100000 in
theorem metrolabref53_Unsure.calls (k : Nat) (A0 : Option Addr) (c0 : Nat) (l0 : List (S67)) (r1 : List ByteArray) (r2 : Int) (w : World) (hr0 : Kd.C k67 w A0 l0.length l0) (hc0 : l0.length ≤ c0) (h : metrolabref53_Unsure.f k l0 = some (r1, r2)) :
  Calls Try.prog 23 #[.slice A0 l0.length c0] w fun e w' => ∃ v0_ : Value, e = .returned (.tuple #[v0_, .int .i64 r2]) ∧ Kd.R Kd.string 9 w' w.heap.size (fun _ => True) v0_ r1 ∧ Below w.heap.size w w' := by
 have HR0 := Aside0.mk hr0
 have HC0 := Aside0.mk hc0
 clear hr0 hc0
 have HB := Aside0.mk (Below.refl w.heap.size w)
 have H : ((metrolabref53_Check.f k l0).bind fun t236 => (if t236 = 0 then (metrolabref53_Unsure.l0 k l0 ([] : List ByteArray) 0) else (some (([] : List ByteArray), t236)))) = some (r1, r2) := h
 clear h
 replace H := Option.bind_eq_some_iff.mp H
 obtain ⟨t236, A20, H⟩ := H
 replace H : (if t236 = 0 then (metrolabref53_Unsure.l0 k l0 ([] : List ByteArray) 0) else (some (([] : List ByteArray), t236))) = some (r1, r2) := H
 have A2 := Aside0.mk A20
 clear A20
 by_cases c3 : t236 = 0
 ·rw [if_pos c3] at H
  have c3b0 : (t236 == 0) = true := beq_iff_eq.mpr c3
  have c3b1 : (t236 != 0) = false := bne_eq_false_iff_eq.mpr c3
  clear c3
  have H' := Aside0.mk H
  clear H
  go_enter Try.func23, Try.ntmps23
  go_wp2_with (first | ((with_reducible refine gate_callee (f := 17) rfl ?_); refine goesL_ (some 8) rfl rfl Try.func17 (by kernel_rfl) rfl #[.slice A0 l0.length c0] rfl (by (try simp only [List.map_toArray, List.map_cons, List.map_nil]); first | done | rfl | (simp only [List.length_drop, List.length_take]; rfl)) ?_; (with_reducible refine (metrolabref53_Check.calls k _ _ l0 t236 _ ?side1 ?side2 A2.out).mono ?_); (case side1 => repeat (first | exact HR0.out | (with_reducible refine Kd.C_alloc ?_ _) | (with_reducible refine Kd.C_drewN ?_ _) | (with_reducible refine Kd.C_drew ?_))); (case side2 => exact HC0.out); rintro e w4 ⟨rfl, hb⟩; refine ⟨_, rfl, ?_⟩; have n0_ := Aside0.mk (below_step (by repeat (first | (with_reducible first | exact HB.out | apply below_alloc | apply pw_below_drewN | apply below_drew1) | exact HB.out)) hb); clear HB; have HB := n0_; clear n0_; (try clear hb); (try clear hb2); (try clear hk); (try clear hi)))
  go_loopg [5, 6] k (fun kq v5 v6 w' => ∃ (x5_1 : List ByteArray) (x6_1 : Int), v6 = .int .i64 x6_1 ∧ Aside0 (metrolabref53_Unsure.l0 kq l0 x5_1 x6_1 = some (r1, r2)) ∧ Aside0 (kq ≤ k) ∧ Aside0 (Kd.R Kd.string 9 w' w.heap.size (fun _ => True) v5 x5_1) ∧ Aside0 (Below w.heap.size w w'))
  case atStart => exact ⟨(([] : List ByteArray)), (0), (by first | rfl | (simp; done) | (simp [*]; done)), H', ⟨Nat.le_refl _⟩, ⟨by first | exact Kd.R_nil _ _ _ _ _ | exact Kd.N_nil _ _ _ _ _ | exact Kd.V_nil _ _ _ _ _ | exact Kd.Q_nil _ _ _ _ _ | exact Kd.S_nil _ _ _ _ _⟩, ⟨by repeat (first | (with_reducible first | exact HB.out | apply below_alloc | apply pw_below_drewN | apply below_drew1) | exact HB.out)⟩⟩
  case round =>
   clear H'
   try clear c1
   try clear c2
   try clear p2
   try clear c3
   try clear c3b0
   try clear c3b1
   obtain ⟨x5_1, x6_1, rfl, HA, HK1, HO_5, HB⟩ := hrel
   cases gk with
   | zero => exact absurd HA.out (by simp [metrolabref53_Unsure.l0])
   | succ k1 =>
    have H := HA.out
    clear HA
    simp only [metrolabref53_Unsure.l0] at H
    by_cases c5 : x6_1 < (l0.length : Int)
    ·rw [if_pos c5] at H
     have c5b0 : decide (x6_1 < (l0.length : Int)) = true := decide_eq_true c5
     clear c5
     replace H := Option.bind_eq_some_iff.mp H
     obtain ⟨t237, A60, H⟩ := H
     replace H : (if t237 = 1 then (if 0 ≤ x6_1 then ((metrolabref19_Put.f k1 x5_1 ((rd_T67 l0 x6_1).f1)).bind fun t239 => (metrolabref53_Unsure.l0 k1 l0 t239 (wrap64 (x6_1 + 1)))) else (none)) else (metrolabref53_Unsure.l0 k1 l0 x5_1 (wrap64 (x6_1 + 1)))) = some (r1, r2) := H
     have A6 := Aside0.mk A60
     clear A60
     by_cases c7 : t237 = 1
     ·rw [if_pos c7] at H
      have c7b0 : (t237 == 1) = true := beq_iff_eq.mpr c7
      have c7b1 : (t237 != 1) = false := bne_eq_false_iff_eq.mpr c7
      clear c7
      by_cases c8 : 0 ≤ x6_1
      ·rw [if_pos c8] at H
       have c8b0 : decide (0 ≤ x6_1) = true := decide_eq_true c8
       clear c8
       replace H := Option.bind_eq_some_iff.mp H
       obtain ⟨t239, A90, H⟩ := H
       replace H : (metrolabref53_Unsure.l0 k1 l0 t239 (wrap64 (x6_1 + 1))) = some (r1, r2) := H
       have A9 := Aside0.mk A90
       clear A90
       have H' := Aside0.mk H
       clear H
       go_wp2_with (first | ((with_reducible refine gate_callee (f := 39) rfl ?_); refine goesL_ (some 20) rfl rfl Try.func39 (by kernel_rfl) rfl #[.slice A0 l0.length c0, .int .i64 x6_1] rfl (by (try simp only [List.map_toArray, List.map_cons, List.map_nil]); first | done | rfl | (simp only [List.length_drop, List.length_take]; rfl)) ?_; (with_reducible refine (metrolabref53_State.calls k1 _ _ l0 x6_1 t237 _ ?side1 ?side2 A6.out).mono ?_); (case side1 => repeat (first | exact (Kd.C_below HR0.out HB.out) | (with_reducible refine Kd.C_alloc ?_ _) | (with_reducible refine Kd.C_drewN ?_ _) | (with_reducible refine Kd.C_drew ?_))); (case side2 => exact HC0.out); rintro e w' ⟨rfl, ⟨nd, rfl⟩⟩; refine ⟨_, rfl, ?_⟩; have p238 : 0 ≤ (x6_1 : Int) := of_decide_eq_true (by first | (with_reducible assumption) | assumption); have q238 : x6_1 < (l0.length : Int) := of_decide_eq_true (by first | (with_reducible assumption) | assumption); obtain ⟨ad238, e238, hx238_0, hx238_1, hx238_2, hx238_3⟩ := at_T67 HR0.out x6_1 p238 q238; cases e238; replace hx238_0 := (HB.out.cell (World.block_lt_of_cell? w _ hx238_0)).trans hx238_0; replace hx238_1 := (HB.out.cell (World.block_lt_of_cell? w _ hx238_1)).trans hx238_1; replace hx238_2 := (HB.out.cell (World.block_lt_of_cell? w _ hx238_2)).trans hx238_2; replace hx238_3 := (HB.out.cell (World.block_lt_of_cell? w _ hx238_3)).trans hx238_3; replace p238 := eq_true p238; replace q238 := eq_true q238; obtain ⟨Ao10, co10, eo10⟩ := Kd.R_slice HO_5.out; subst eo10) | ((with_reducible refine gate_callee (f := 48) rfl ?_); refine goesL_ (some 28) rfl rfl Try.func48 (by kernel_rfl) rfl #[.slice Ao10 x5_1.length co10, .string ((rd_T67 l0 x6_1).f1)] rfl (by (try simp only [List.map_toArray, List.map_cons, List.map_nil]); first | done | rfl | (simp only [List.length_drop, List.length_take]; rfl)) ?_; (with_reducible refine (metrolabref19_Put.calls k1 _ _ x5_1 ((rd_T67 l0 x6_1).f1) t239 _ ?side1 ?side2 A9.out).mono ?_); (case side1 => repeat (first | exact (Kd.R_reads' HO_5.out).2.2 | (with_reducible refine Kd.C_alloc ?_ _) | (with_reducible refine Kd.C_drewN ?_ _) | (with_reducible refine Kd.C_drew ?_))); (case side2 => exact (Kd.R_reads' HO_5.out).2.1); rintro e w11 ⟨v240, rfl, ho0, hb⟩; refine ⟨_, rfl, ?_⟩; have n0_ := Aside0.mk (Kd.R_elder' (by (with_reducible repeat (first | apply Kd.R_alloc | apply Kd.R_drewN | apply Kd.R_drew)); exact HO_5.out) (Kd.R_base ho0) hb); have n1_ := Aside0.mk (Kd.R_lower (Kd.R_new' ho0 (Kd.R_lt (by (with_reducible repeat (first | apply Kd.R_alloc | apply Kd.R_drewN | apply Kd.R_drew)); exact HO_5.out))) (below_size (by repeat (first | (with_reducible first | exact HB.out | apply below_alloc | apply pw_below_drewN | apply below_drew1) | exact HB.out)))); have n2_ := Aside0.mk (below_step (by repeat (first | (with_reducible first | exact HB.out | apply below_alloc | apply pw_below_drewN | apply below_drew1) | exact HB.out)) hb); clear HO_5; clear HB; have HO_5 := n0_; have HO241 := n1_; have HB := n2_; clear n0_ n1_ n2_; (try clear hb); (try clear hb2); (try clear hk); (try clear hi); (try clear ho0)))
       go_roundg k1
       case measure => have := HK1.out; omega
       case rel => exact ⟨(t239), (wrap64 (x6_1 + 1)), (by first | rfl | (simp; done) | (simp [*]; done)), H', ⟨by have := HK1.out; omega⟩, ⟨by (with_reducible repeat (first | apply Kd.R_alloc | apply Kd.R_drewN | apply Kd.R_drew)); exact Kd.R_mono HO241.out (fun _ hk => trivial)⟩, ⟨by repeat (first | (with_reducible first | exact HB.out | apply below_alloc | apply pw_below_drewN | apply below_drew1) | exact HB.out)⟩⟩
      ·rw [if_neg c8] at H
       exact absurd H (by simp)
     ·rw [if_neg c7] at H
      have c7b0 : (t237 == 1) = false := beq_eq_false_iff_ne.mpr c7
      have c7b1 : (t237 != 1) = true := bne_iff_ne.mpr c7
      have H' := Aside0.mk H
      clear H
      go_wp2_with (first | ((with_reducible refine gate_callee (f := 39) rfl ?_); refine goesL_ (some 20) rfl rfl Try.func39 (by kernel_rfl) rfl #[.slice A0 l0.length c0, .int .i64 x6_1] rfl (by (try simp only [List.map_toArray, List.map_cons, List.map_nil]); first | done | rfl | (simp only [List.length_drop, List.length_take]; rfl)) ?_; (with_reducible refine (metrolabref53_State.calls k1 _ _ l0 x6_1 t237 _ ?side1 ?side2 A6.out).mono ?_); (case side1 => repeat (first | exact (Kd.C_below HR0.out HB.out) | (with_reducible refine Kd.C_alloc ?_ _) | (with_reducible refine Kd.C_drewN ?_ _) | (with_reducible refine Kd.C_drew ?_))); (case side2 => exact HC0.out); rintro e w' ⟨rfl, ⟨nd, rfl⟩⟩; refine ⟨_, rfl, ?_⟩))
      go_roundg k1
      case measure => have := HK1.out; omega
      case rel => exact ⟨(x5_1), (wrap64 (x6_1 + 1)), (by first | rfl | (simp; done) | (simp [*]; done)), H', ⟨by have := HK1.out; omega⟩, ⟨by (with_reducible repeat (first | apply Kd.R_alloc | apply Kd.R_drewN | apply Kd.R_drew)); exact HO_5.out⟩, ⟨by repeat (first | (with_reducible first | exact HB.out | apply below_alloc | apply pw_below_drewN | apply below_drew1) | exact HB.out)⟩⟩
    ·rw [if_neg c5] at H
     have c5b0 : decide (x6_1 < (l0.length : Int)) = false := decide_eq_false c5
     clear c5
     simp only [Option.some.injEq, Prod.mk.injEq] at H
     obtain ⟨rfl, rfl⟩ := H
     go_wp2
     go_ret2
     exact ⟨_, by first | rfl | (simp [errW_none, errW_some] <;> rfl) | (simp [*, errW_none, errW_some] <;> rfl), by (with_reducible repeat (first | apply Kd.R_alloc | apply Kd.R_drewN | apply Kd.R_drew)); exact HO_5.out, by repeat (first | (with_reducible first | exact HB.out | apply below_alloc | apply pw_below_drewN | apply below_drew1) | exact HB.out)⟩
 ·rw [if_neg c3] at H
  have c3b0 : (t236 == 0) = false := beq_eq_false_iff_ne.mpr c3
  have c3b1 : (t236 != 0) = true := bne_iff_ne.mpr c3
  simp only [Option.some.injEq, Prod.mk.injEq] at H
  obtain ⟨rfl, rfl⟩ := H
  go_enter Try.func23, Try.ntmps23
  go_wp2_with (first | ((with_reducible refine gate_callee (f := 17) rfl ?_); refine goesL_ (some 8) rfl rfl Try.func17 (by kernel_rfl) rfl #[.slice A0 l0.length c0] rfl (by (try simp only [List.map_toArray, List.map_cons, List.map_nil]); first | done | rfl | (simp only [List.length_drop, List.length_take]; rfl)) ?_; (with_reducible refine (metrolabref53_Check.calls k _ _ l0 t236 _ ?side1 ?side2 A2.out).mono ?_); (case side1 => repeat (first | exact HR0.out | (with_reducible refine Kd.C_alloc ?_ _) | (with_reducible refine Kd.C_drewN ?_ _) | (with_reducible refine Kd.C_drew ?_))); (case side2 => exact HC0.out); rintro e w12 ⟨rfl, hb⟩; refine ⟨_, rfl, ?_⟩; have n0_ := Aside0.mk (below_step (by repeat (first | (with_reducible first | exact HB.out | apply below_alloc | apply pw_below_drewN | apply below_drew1) | exact HB.out)) hb); clear HB; have HB := n0_; clear n0_; (try clear hb); (try clear hb2); (try clear hk); (try clear hi)))
  go_ret2
  exact ⟨_, by first | rfl | (simp [errW_none, errW_some] <;> rfl) | (simp [*, errW_none, errW_some] <;> rfl), by first | exact Kd.R_nil _ _ _ _ _ | exact Kd.N_nil _ _ _ _ _ | exact Kd.V_nil _ _ _ _ _ | exact Kd.Q_nil _ _ _ _ _ | exact Kd.S_nil _ _ _ _ _, by repeat (first | (with_reducible first | exact HB.out | apply below_alloc | apply pw_below_drewN | apply below_drew1) | exact HB.out)⟩

end Go.Proofs.Ytnmmdeonkpfccaa.Pr
-- Printed for this claim by a program of this session, over the kit's printer. Not trusted: Lean checks it.
namespace Go.Proofs.Ytnmmdeonkpfccaa.Pr
open Go.RowKit Go.Proofs.YtnmmdeonkpfccaaW.PrintWords Go.Proofs.YtnmmdeonkpfccaaW.PrintLast Go.Proofs.YtnmmdeonkpfccaaW.PrintMore
attribute [local go_sem] max2_int min2_int max_two min_two max_three min_three max_four min_four
set_option linter.unusedVariables false
set_option linter.unusedSimpArgs false

/-! ### metrolablaw53_RecallLots: function 4 -/
def metrolablaw53_RecallLots.f (k : Nat) (l0 : List (S51)) : Option (Bool) := (metrolablaw53_few.f k l0 (⟨#[]⟩ : ByteArray)).bind fun t242 => (if t242 = true then ((recall_Lots.f l0).bind fun bt244 => ((metrolablaw53_own.f k l0).bind fun t248 => ((metrolabref53_Lots.f k t248).bind fun bt251 => ((recall_Unsure.f l0).bind fun bt255 => ((metrolablaw53_own.f k l0).bind fun t259 => ((metrolabref53_Unsure.f k t259).bind fun bt262 => ((metrolablaw53_awake.f).bind fun t266 => (if t266 = true then ((slices_Equal_string_string.f k bt244.1 bt251.1).bind fun t267 => (if t267 = true then (if bt244.2 = bt251.2 then ((slices_Equal_string_string.f k bt255.1 bt262.1).bind fun t268 => (if t268 = true then (some (bt255.2 == bt262.2)) else (some false))) else (some false)) else (some false))) else (some false))))))))) else ((metrolablaw53_awake.f).bind fun t243 => (some t243)))
theorem metrolablaw53_RecallLots.mono : ∀ a0 k, LeO (metrolablaw53_RecallLots.f k a0) (metrolablaw53_RecallLots.f (k + 1) a0) := by
 intro a0 k
 unfold metrolablaw53_RecallLots.f
 repeat' first
   | (with_reducible exact metrolablaw53_few.mono _ _ _)
   | (with_reducible exact metrolablaw53_own.mono _ _)
   | (with_reducible exact metrolabref53_Lots.mono _ _)
   | (with_reducible exact metrolabref53_Unsure.mono _ _)
   | (with_reducible exact slices_Equal_string_string.mono _ _ _)
   | (with_reducible exact LeO.refl _)
   | (with_reducible exact LeO.none _)
   | (with_reducible refine LeO.ite ?_ ?_)
   | (with_reducible refine LeO.bind ?_ (fun _ => ?_))
   | exact metrolablaw53_few.mono _ _ _
   | exact metrolablaw53_own.mono _ _
   | exact metrolabref53_Lots.mono _ _
   | exact metrolabref53_Unsure.mono _ _
   | exact slices_Equal_string_string.mono _ _ _
   | exact LeO.none _
   | refine LeO.ite ?_ ?_
   | refine LeO.bind ?_ (fun _ => ?_)
set_option maxHeartbeats 8000000 in
set_option maxRecDepth 100000 in
theorem metrolablaw53_RecallLots.calls (k : Nat) (A0 : Option Addr) (c0 : Nat) (l0 : List (S51)) (r : Bool) (w : World) (hr0 : Kd.C k51 w A0 l0.length l0) (hc0 : l0.length ≤ c0) (hlaw : Aside0 (r = true)) (h : metrolablaw53_RecallLots.f k l0 = some r) :
  Calls Try.prog 4 #[.slice A0 l0.length c0] w fun e w' => e = .returned (.bool r) ∧ Below w.heap.size w w' := by
 have HR0 := Aside0.mk hr0
 have HC0 := Aside0.mk hc0
 clear hr0 hc0
 have HB := Aside0.mk (Below.refl w.heap.size w)
 have H : ((metrolablaw53_few.f k l0 (⟨#[]⟩ : ByteArray)).bind fun t242 => (if t242 = true then ((recall_Lots.f l0).bind fun bt244 => ((metrolablaw53_own.f k l0).bind fun t248 => ((metrolabref53_Lots.f k t248).bind fun bt251 => ((recall_Unsure.f l0).bind fun bt255 => ((metrolablaw53_own.f k l0).bind fun t259 => ((metrolabref53_Unsure.f k t259).bind fun bt262 => ((metrolablaw53_awake.f).bind fun t266 => (if t266 = true then ((slices_Equal_string_string.f k bt244.1 bt251.1).bind fun t267 => (if t267 = true then (if bt244.2 = bt251.2 then ((slices_Equal_string_string.f k bt255.1 bt262.1).bind fun t268 => (if t268 = true then (some (bt255.2 == bt262.2)) else (some false))) else (some false)) else (some false))) else (some false))))))))) else ((metrolablaw53_awake.f).bind fun t243 => (some t243)))) = some r := h
 clear h
 replace H := Option.bind_eq_some_iff.mp H
 obtain ⟨t242, A20, H⟩ := H
 replace H : (if t242 = true then ((recall_Lots.f l0).bind fun bt244 => ((metrolablaw53_own.f k l0).bind fun t248 => ((metrolabref53_Lots.f k t248).bind fun bt251 => ((recall_Unsure.f l0).bind fun bt255 => ((metrolablaw53_own.f k l0).bind fun t259 => ((metrolabref53_Unsure.f k t259).bind fun bt262 => ((metrolablaw53_awake.f).bind fun t266 => (if t266 = true then ((slices_Equal_string_string.f k bt244.1 bt251.1).bind fun t267 => (if t267 = true then (if bt244.2 = bt251.2 then ((slices_Equal_string_string.f k bt255.1 bt262.1).bind fun t268 => (if t268 = true then (some (bt255.2 == bt262.2)) else (some false))) else (some false)) else (some false))) else (some false))))))))) else ((metrolablaw53_awake.f).bind fun t243 => (some t243))) = some r := H
 have A2 := Aside0.mk A20
 clear A20
 by_cases c3 : t242 = true
 ·subst c3
  have H1 : ((recall_Lots.f l0).bind fun bt244 => ((metrolablaw53_own.f k l0).bind fun t248 => ((metrolabref53_Lots.f k t248).bind fun bt251 => ((recall_Unsure.f l0).bind fun bt255 => ((metrolablaw53_own.f k l0).bind fun t259 => ((metrolabref53_Unsure.f k t259).bind fun bt262 => ((metrolablaw53_awake.f).bind fun t266 => (if t266 = true then ((slices_Equal_string_string.f k bt244.1 bt251.1).bind fun t267 => (if t267 = true then (if bt244.2 = bt251.2 then ((slices_Equal_string_string.f k bt255.1 bt262.1).bind fun t268 => (if t268 = true then (some (bt255.2 == bt262.2)) else (some false))) else (some false)) else (some false))) else (some false))))))))) = some r := by rw [if_pos rfl] at H; exact H
  clear H
  have H := H1
  clear H1
  replace H := Option.bind_eq_some_iff.mp H
  obtain ⟨⟨t244, t245⟩, A40, H⟩ := H
  replace H : ((metrolablaw53_own.f k l0).bind fun t248 => ((metrolabref53_Lots.f k t248).bind fun bt251 => ((recall_Unsure.f l0).bind fun bt255 => ((metrolablaw53_own.f k l0).bind fun t259 => ((metrolabref53_Unsure.f k t259).bind fun bt262 => ((metrolablaw53_awake.f).bind fun t266 => (if t266 = true then ((slices_Equal_string_string.f k t244 bt251.1).bind fun t267 => (if t267 = true then (if t245 = bt251.2 then ((slices_Equal_string_string.f k bt255.1 bt262.1).bind fun t268 => (if t268 = true then (some (bt255.2 == bt262.2)) else (some false))) else (some false)) else (some false))) else (some false)))))))) = some r := H
  have A4 := Aside0.mk A40
  clear A40
  replace H := Option.bind_eq_some_iff.mp H
  obtain ⟨t248, A50, H⟩ := H
  replace H : ((metrolabref53_Lots.f k t248).bind fun bt251 => ((recall_Unsure.f l0).bind fun bt255 => ((metrolablaw53_own.f k l0).bind fun t259 => ((metrolabref53_Unsure.f k t259).bind fun bt262 => ((metrolablaw53_awake.f).bind fun t266 => (if t266 = true then ((slices_Equal_string_string.f k t244 bt251.1).bind fun t267 => (if t267 = true then (if t245 = bt251.2 then ((slices_Equal_string_string.f k bt255.1 bt262.1).bind fun t268 => (if t268 = true then (some (bt255.2 == bt262.2)) else (some false))) else (some false)) else (some false))) else (some false))))))) = some r := H
  have A5 := Aside0.mk A50
  clear A50
  replace H := Option.bind_eq_some_iff.mp H
  obtain ⟨⟨t251, t252⟩, A60, H⟩ := H
  replace H : ((recall_Unsure.f l0).bind fun bt255 => ((metrolablaw53_own.f k l0).bind fun t259 => ((metrolabref53_Unsure.f k t259).bind fun bt262 => ((metrolablaw53_awake.f).bind fun t266 => (if t266 = true then ((slices_Equal_string_string.f k t244 t251).bind fun t267 => (if t267 = true then (if t245 = t252 then ((slices_Equal_string_string.f k bt255.1 bt262.1).bind fun t268 => (if t268 = true then (some (bt255.2 == bt262.2)) else (some false))) else (some false)) else (some false))) else (some false)))))) = some r := H
  have A6 := Aside0.mk A60
  clear A60
  replace H := Option.bind_eq_some_iff.mp H
  obtain ⟨⟨t255, t256⟩, A70, H⟩ := H
  replace H : ((metrolablaw53_own.f k l0).bind fun t259 => ((metrolabref53_Unsure.f k t259).bind fun bt262 => ((metrolablaw53_awake.f).bind fun t266 => (if t266 = true then ((slices_Equal_string_string.f k t244 t251).bind fun t267 => (if t267 = true then (if t245 = t252 then ((slices_Equal_string_string.f k t255 bt262.1).bind fun t268 => (if t268 = true then (some (t256 == bt262.2)) else (some false))) else (some false)) else (some false))) else (some false))))) = some r := H
  have A7 := Aside0.mk A70
  clear A70
  replace H := Option.bind_eq_some_iff.mp H
  obtain ⟨t259, A80, H⟩ := H
  replace H : ((metrolabref53_Unsure.f k t259).bind fun bt262 => ((metrolablaw53_awake.f).bind fun t266 => (if t266 = true then ((slices_Equal_string_string.f k t244 t251).bind fun t267 => (if t267 = true then (if t245 = t252 then ((slices_Equal_string_string.f k t255 bt262.1).bind fun t268 => (if t268 = true then (some (t256 == bt262.2)) else (some false))) else (some false)) else (some false))) else (some false)))) = some r := H
  have A8 := Aside0.mk A80
  clear A80
  replace H := Option.bind_eq_some_iff.mp H
  obtain ⟨⟨t262, t263⟩, A90, H⟩ := H
  replace H : ((metrolablaw53_awake.f).bind fun t266 => (if t266 = true then ((slices_Equal_string_string.f k t244 t251).bind fun t267 => (if t267 = true then (if t245 = t252 then ((slices_Equal_string_string.f k t255 t262).bind fun t268 => (if t268 = true then (some (t256 == t263)) else (some false))) else (some false)) else (some false))) else (some false))) = some r := H
  have A9 := Aside0.mk A90
  clear A90
  replace H := Option.bind_eq_some_iff.mp H
  obtain ⟨t266, A100, H⟩ := H
  replace H : (if t266 = true then ((slices_Equal_string_string.f k t244 t251).bind fun t267 => (if t267 = true then (if t245 = t252 then ((slices_Equal_string_string.f k t255 t262).bind fun t268 => (if t268 = true then (some (t256 == t263)) else (some false))) else (some false)) else (some false))) else (some false)) = some r := H
  have A10 := Aside0.mk A100
  clear A100
  by_cases c11 : t266 = true
  ·subst c11
   have H1 : ((slices_Equal_string_string.f k t244 t251).bind fun t267 => (if t267 = true then (if t245 = t252 then ((slices_Equal_string_string.f k t255 t262).bind fun t268 => (if t268 = true then (some (t256 == t263)) else (some false))) else (some false)) else (some false))) = some r := by rw [if_pos rfl] at H; exact H
   clear H
   have H := H1
   clear H1
   replace H := Option.bind_eq_some_iff.mp H
   obtain ⟨t267, A120, H⟩ := H
   replace H : (if t267 = true then (if t245 = t252 then ((slices_Equal_string_string.f k t255 t262).bind fun t268 => (if t268 = true then (some (t256 == t263)) else (some false))) else (some false)) else (some false)) = some r := H
   have A12 := Aside0.mk A120
   clear A120
   by_cases c13 : t267 = true
   ·subst c13
    have H1 : (if t245 = t252 then ((slices_Equal_string_string.f k t255 t262).bind fun t268 => (if t268 = true then (some (t256 == t263)) else (some false))) else (some false)) = some r := by rw [if_pos rfl] at H; exact H
    clear H
    have H := H1
    clear H1
    by_cases c14 : t245 = t252
    ·rw [if_pos c14] at H
     have c14b0 : (t245 == t252) = true := beq_iff_eq.mpr c14
     have c14b1 : (t245 != t252) = false := bne_eq_false_iff_eq.mpr c14
     clear c14
     replace H := Option.bind_eq_some_iff.mp H
     obtain ⟨t268, A150, H⟩ := H
     replace H : (if t268 = true then (some (t256 == t263)) else (some false)) = some r := H
     have A15 := Aside0.mk A150
     clear A150
     by_cases c16 : t268 = true
     ·subst c16
      have H1 : (some (t256 == t263)) = some r := by rw [if_pos rfl] at H; exact H
      clear H
      have H := H1
      clear H1
      obtain rfl := Option.some.inj H
      go_enter Try.func4, Try.ntmps4
      go_wp2_with (first | ((with_reducible refine gate_callee (f := 9) rfl ?_); refine goesL_ (some 12) rfl rfl Try.func9 (by kernel_rfl) rfl #[.slice A0 l0.length c0, .string (⟨#[]⟩ : ByteArray)] rfl (by (try simp only [List.map_toArray, List.map_cons, List.map_nil]); first | done | rfl | (simp only [List.length_drop, List.length_take]; rfl)) ?_; (with_reducible refine (metrolablaw53_few.calls k _ _ l0 (⟨#[]⟩ : ByteArray) true _ ?side1 ?side2 A2.out).mono ?_); (case side1 => repeat (first | exact HR0.out | (with_reducible refine Kd.C_alloc ?_ _) | (with_reducible refine Kd.C_drewN ?_ _) | (with_reducible refine Kd.C_drew ?_))); (case side2 => exact HC0.out); rintro e w17 ⟨rfl, hb⟩; refine ⟨_, rfl, ?_⟩; have n0_ := Aside0.mk (below_step (by repeat (first | (with_reducible first | exact HB.out | apply below_alloc | apply pw_below_drewN | apply below_drew1) | exact HB.out)) hb); clear HB; have HB := n0_; clear n0_; (try clear hb); (try clear hb2); (try clear hk); (try clear hi)) | ((with_reducible refine gate_callee (f := 20) rfl ?_); refine goesL_ (some 17) rfl rfl Try.func20 (by kernel_rfl) rfl #[.slice A0 l0.length c0] rfl (by (try simp only [List.map_toArray, List.map_cons, List.map_nil]); first | done | rfl | (simp only [List.length_drop, List.length_take]; rfl)) ?_; (with_reducible refine (recall_Lots.calls _ _ l0 t244 t245 _ ?side1 ?side2 A4.out).mono ?_); (case side1 => repeat (first | exact (Kd.C_below HR0.out HB.out) | (with_reducible refine Kd.C_alloc ?_ _) | (with_reducible refine Kd.C_drewN ?_ _) | (with_reducible refine Kd.C_drew ?_))); (case side2 => exact HC0.out); rintro e w18 ⟨v246, rfl, ho0, hb⟩; refine ⟨_, rfl, ?_⟩; have n0_ := Aside0.mk (Kd.R_lower ho0 (below_size (by repeat (first | (with_reducible first | exact HB.out | apply below_alloc | apply pw_below_drewN | apply below_drew1) | exact HB.out)))); have n1_ := Aside0.mk (below_step (by repeat (first | (with_reducible first | exact HB.out | apply below_alloc | apply pw_below_drewN | apply below_drew1) | exact HB.out)) hb); clear HB; have HO247 := n0_; have HB := n1_; clear n0_ n1_; (try clear hb); (try clear hb2); (try clear hk); (try clear hi); (try clear ho0)) | ((with_reducible refine gate_callee (f := 13) rfl ?_); refine goesL_ (some 22) rfl rfl Try.func13 (by kernel_rfl) rfl #[.slice A0 l0.length c0] rfl (by (try simp only [List.map_toArray, List.map_cons, List.map_nil]); first | done | rfl | (simp only [List.length_drop, List.length_take]; rfl)) ?_; (with_reducible refine (metrolablaw53_own.calls k _ _ l0 t248 _ ?side1 ?side2 A5.out).mono ?_); (case side1 => repeat (first | exact (Kd.C_below HR0.out HB.out) | (with_reducible refine Kd.C_alloc ?_ _) | (with_reducible refine Kd.C_drewN ?_ _) | (with_reducible refine Kd.C_drew ?_))); (case side2 => exact HC0.out); rintro e w19 ⟨v249, rfl, ho0, hb⟩; refine ⟨_, rfl, ?_⟩; have n0_ := Aside0.mk (Kd.R_below (by (with_reducible repeat (first | apply Kd.R_alloc | apply Kd.R_drewN | apply Kd.R_drew)); exact HO247.out) hb); have n1_ := Aside0.mk (Kd.R_lower ho0 (below_size (by repeat (first | (with_reducible first | exact HB.out | apply below_alloc | apply pw_below_drewN | apply below_drew1) | exact HB.out)))); have n2_ := Aside0.mk (below_step (by repeat (first | (with_reducible first | exact HB.out | apply below_alloc | apply pw_below_drewN | apply below_drew1) | exact HB.out)) hb); clear HO247; clear HB; have HO247 := n0_; have HO250 := n1_; have HB := n2_; clear n0_ n1_ n2_; (try clear hb); (try clear hb2); (try clear hk); (try clear hi); (try clear ho0); obtain ⟨Ao20, co20, eo20⟩ := Kd.R_slice HO250.out; subst eo20) | ((with_reducible refine gate_callee (f := 21) rfl ?_); refine goesL_ (some 23) rfl rfl Try.func21 (by kernel_rfl) rfl #[.slice Ao20 t248.length co20] rfl (by (try simp only [List.map_toArray, List.map_cons, List.map_nil]); first | done | rfl | (simp only [List.length_drop, List.length_take]; rfl)) ?_; (with_reducible refine (metrolabref53_Lots.calls k _ _ t248 t251 t252 _ ?side1 ?side2 A6.out).mono ?_); (case side1 => repeat (first | exact (Kd.R_reads' HO250.out).2.2 | (with_reducible refine Kd.C_alloc ?_ _) | (with_reducible refine Kd.C_drewN ?_ _) | (with_reducible refine Kd.C_drew ?_))); (case side2 => exact (Kd.R_reads' HO250.out).2.1); rintro e w21 ⟨v253, rfl, ho0, hb⟩; refine ⟨_, rfl, ?_⟩; have n0_ := Aside0.mk (Kd.R_elder' (by (with_reducible repeat (first | apply Kd.R_alloc | apply Kd.R_drewN | apply Kd.R_drew)); exact HO247.out) (Kd.R_base ho0) hb); have n1_ := Aside0.mk (Kd.R_below (by (with_reducible repeat (first | apply Kd.R_alloc | apply Kd.R_drewN | apply Kd.R_drew)); exact HO250.out) hb); have n2_ := Aside0.mk (Kd.R_lower (Kd.R_new' ho0 (Kd.R_lt (by (with_reducible repeat (first | apply Kd.R_alloc | apply Kd.R_drewN | apply Kd.R_drew)); exact HO247.out))) (below_size (by repeat (first | (with_reducible first | exact HB.out | apply below_alloc | apply pw_below_drewN | apply below_drew1) | exact HB.out)))); have n3_ := Aside0.mk (below_step (by repeat (first | (with_reducible first | exact HB.out | apply below_alloc | apply pw_below_drewN | apply below_drew1) | exact HB.out)) hb); clear HO247; clear HO250; clear HB; have HO247 := n0_; have HO250 := n1_; have HO254 := n2_; have HB := n3_; clear n0_ n1_ n2_ n3_; (try clear hb); (try clear hb2); (try clear hk); (try clear hi); (try clear ho0)) | ((with_reducible refine gate_callee (f := 22) rfl ?_); refine goesL_ (some 28) rfl rfl Try.func22 (by kernel_rfl) rfl #[.slice A0 l0.length c0] rfl (by (try simp only [List.map_toArray, List.map_cons, List.map_nil]); first | done | rfl | (simp only [List.length_drop, List.length_take]; rfl)) ?_; (with_reducible refine (recall_Unsure.calls _ _ l0 t255 t256 _ ?side1 ?side2 A7.out).mono ?_); (case side1 => repeat (first | exact (Kd.C_below HR0.out HB.out) | (with_reducible refine Kd.C_alloc ?_ _) | (with_reducible refine Kd.C_drewN ?_ _) | (with_reducible refine Kd.C_drew ?_))); (case side2 => exact HC0.out); rintro e w22 ⟨v257, rfl, ho0, hb⟩; refine ⟨_, rfl, ?_⟩; have n0_ := Aside0.mk (Kd.R_elder' (by (with_reducible repeat (first | apply Kd.R_alloc | apply Kd.R_drewN | apply Kd.R_drew)); exact HO247.out) (Kd.R_base ho0) hb); have n1_ := Aside0.mk (Kd.R_below (by (with_reducible repeat (first | apply Kd.R_alloc | apply Kd.R_drewN | apply Kd.R_drew)); exact HO250.out) hb); have n2_ := Aside0.mk (Kd.R_elder' (by (with_reducible repeat (first | apply Kd.R_alloc | apply Kd.R_drewN | apply Kd.R_drew)); exact HO254.out) (Kd.R_base ho0) hb); have n3_ := Aside0.mk (Kd.R_lower (Kd.R_new' (Kd.R_new' ho0 (Kd.R_lt (by (with_reducible repeat (first | apply Kd.R_alloc | apply Kd.R_drewN | apply Kd.R_drew)); exact HO247.out))) (Kd.R_lt (by (with_reducible repeat (first | apply Kd.R_alloc | apply Kd.R_drewN | apply Kd.R_drew)); exact HO254.out))) (below_size (by repeat (first | (with_reducible first | exact HB.out | apply below_alloc | apply pw_below_drewN | apply below_drew1) | exact HB.out)))); have n4_ := Aside0.mk (below_step (by repeat (first | (with_reducible first | exact HB.out | apply below_alloc | apply pw_below_drewN | apply below_drew1) | exact HB.out)) hb); clear HO247; clear HO250; clear HO254; clear HB; have HO247 := n0_; have HO250 := n1_; have HO254 := n2_; have HO258 := n3_; have HB := n4_; clear n0_ n1_ n2_ n3_ n4_; (try clear hb); (try clear hb2); (try clear hk); (try clear hi); (try clear ho0)) | ((with_reducible refine gate_callee (f := 13) rfl ?_); refine goesL_ (some 33) rfl rfl Try.func13 (by kernel_rfl) rfl #[.slice A0 l0.length c0] rfl (by (try simp only [List.map_toArray, List.map_cons, List.map_nil]); first | done | rfl | (simp only [List.length_drop, List.length_take]; rfl)) ?_; (with_reducible refine (metrolablaw53_own.calls k _ _ l0 t259 _ ?side1 ?side2 A8.out).mono ?_); (case side1 => repeat (first | exact (Kd.C_below HR0.out HB.out) | (with_reducible refine Kd.C_alloc ?_ _) | (with_reducible refine Kd.C_drewN ?_ _) | (with_reducible refine Kd.C_drew ?_))); (case side2 => exact HC0.out); rintro e w23 ⟨v260, rfl, ho0, hb⟩; refine ⟨_, rfl, ?_⟩; have n0_ := Aside0.mk (Kd.R_below (by (with_reducible repeat (first | apply Kd.R_alloc | apply Kd.R_drewN | apply Kd.R_drew)); exact HO247.out) hb); have n1_ := Aside0.mk (Kd.R_elder' (by (with_reducible repeat (first | apply Kd.R_alloc | apply Kd.R_drewN | apply Kd.R_drew)); exact HO250.out) (Kd.R_base ho0) hb); have n2_ := Aside0.mk (Kd.R_below (by (with_reducible repeat (first | apply Kd.R_alloc | apply Kd.R_drewN | apply Kd.R_drew)); exact HO254.out) hb); have n3_ := Aside0.mk (Kd.R_below (by (with_reducible repeat (first | apply Kd.R_alloc | apply Kd.R_drewN | apply Kd.R_drew)); exact HO258.out) hb); have n4_ := Aside0.mk (Kd.R_lower (Kd.R_new' ho0 (Kd.R_lt (by (with_reducible repeat (first | apply Kd.R_alloc | apply Kd.R_drewN | apply Kd.R_drew)); exact HO250.out))) (below_size (by repeat (first | (with_reducible first | exact HB.out | apply below_alloc | apply pw_below_drewN | apply below_drew1) | exact HB.out)))); have n5_ := Aside0.mk (below_step (by repeat (first | (with_reducible first | exact HB.out | apply below_alloc | apply pw_below_drewN | apply below_drew1) | exact HB.out)) hb); clear HO247; clear HO250; clear HO254; clear HO258; clear HB; have HO247 := n0_; have HO250 := n1_; have HO254 := n2_; have HO258 := n3_; have HO261 := n4_; have HB := n5_; clear n0_ n1_ n2_ n3_ n4_ n5_; (try clear hb); (try clear hb2); (try clear hk); (try clear hi); (try clear ho0); obtain ⟨Ao24, co24, eo24⟩ := Kd.R_slice HO261.out; subst eo24) | ((with_reducible refine gate_callee (f := 23) rfl ?_); refine goesL_ (some 34) rfl rfl Try.func23 (by kernel_rfl) rfl #[.slice Ao24 t259.length co24] rfl (by (try simp only [List.map_toArray, List.map_cons, List.map_nil]); first | done | rfl | (simp only [List.length_drop, List.length_take]; rfl)) ?_; (with_reducible refine (metrolabref53_Unsure.calls k _ _ t259 t262 t263 _ ?side1 ?side2 A9.out).mono ?_); (case side1 => repeat (first | exact (Kd.R_reads' HO261.out).2.2 | (with_reducible refine Kd.C_alloc ?_ _) | (with_reducible refine Kd.C_drewN ?_ _) | (with_reducible refine Kd.C_drew ?_))); (case side2 => exact (Kd.R_reads' HO261.out).2.1); rintro e w25 ⟨v264, rfl, ho0, hb⟩; refine ⟨_, rfl, ?_⟩; have n0_ := Aside0.mk (Kd.R_elder' (by (with_reducible repeat (first | apply Kd.R_alloc | apply Kd.R_drewN | apply Kd.R_drew)); exact HO247.out) (Kd.R_base ho0) hb); have n1_ := Aside0.mk (Kd.R_below (by (with_reducible repeat (first | apply Kd.R_alloc | apply Kd.R_drewN | apply Kd.R_drew)); exact HO250.out) hb); have n2_ := Aside0.mk (Kd.R_elder' (by (with_reducible repeat (first | apply Kd.R_alloc | apply Kd.R_drewN | apply Kd.R_drew)); exact HO254.out) (Kd.R_base ho0) hb); have n3_ := Aside0.mk (Kd.R_elder' (by (with_reducible repeat (first | apply Kd.R_alloc | apply Kd.R_drewN | apply Kd.R_drew)); exact HO258.out) (Kd.R_base ho0) hb); have n4_ := Aside0.mk (Kd.R_below (by (with_reducible repeat (first | apply Kd.R_alloc | apply Kd.R_drewN | apply Kd.R_drew)); exact HO261.out) hb); have n5_ := Aside0.mk (Kd.R_lower (Kd.R_new' (Kd.R_new' (Kd.R_new' ho0 (Kd.R_lt (by (with_reducible repeat (first | apply Kd.R_alloc | apply Kd.R_drewN | apply Kd.R_drew)); exact HO247.out))) (Kd.R_lt (by (with_reducible repeat (first | apply Kd.R_alloc | apply Kd.R_drewN | apply Kd.R_drew)); exact HO254.out))) (Kd.R_lt (by (with_reducible repeat (first | apply Kd.R_alloc | apply Kd.R_drewN | apply Kd.R_drew)); exact HO258.out))) (below_size (by repeat (first | (with_reducible first | exact HB.out | apply below_alloc | apply pw_below_drewN | apply below_drew1) | exact HB.out)))); have n6_ := Aside0.mk (below_step (by repeat (first | (with_reducible first | exact HB.out | apply below_alloc | apply pw_below_drewN | apply below_drew1) | exact HB.out)) hb); clear HO247; clear HO250; clear HO254; clear HO258; clear HO261; clear HB; have HO247 := n0_; have HO250 := n1_; have HO254 := n2_; have HO258 := n3_; have HO261 := n4_; have HO265 := n5_; have HB := n6_; clear n0_ n1_ n2_ n3_ n4_ n5_ n6_; (try clear hb); (try clear hb2); (try clear hk); (try clear hi); (try clear ho0)) | ((with_reducible refine gate_callee (f := 10) rfl ?_); refine goesL_ (some 37) rfl rfl Try.func10 (by kernel_rfl) rfl #[] rfl (by (try simp only [List.map_toArray, List.map_cons, List.map_nil]); first | done | rfl | (simp only [List.length_drop, List.length_take]; rfl)) ?_; (with_reducible refine (metrolablaw53_awake.calls  true _ A10.out).mono ?_); rintro e w26 ⟨rfl, hb⟩; refine ⟨_, rfl, ?_⟩; have n0_ := Aside0.mk (Kd.R_below (by (with_reducible repeat (first | apply Kd.R_alloc | apply Kd.R_drewN | apply Kd.R_drew)); exact HO247.out) hb); have n1_ := Aside0.mk (Kd.R_below (by (with_reducible repeat (first | apply Kd.R_alloc | apply Kd.R_drewN | apply Kd.R_drew)); exact HO250.out) hb); have n2_ := Aside0.mk (Kd.R_below (by (with_reducible repeat (first | apply Kd.R_alloc | apply Kd.R_drewN | apply Kd.R_drew)); exact HO254.out) hb); have n3_ := Aside0.mk (Kd.R_below (by (with_reducible repeat (first | apply Kd.R_alloc | apply Kd.R_drewN | apply Kd.R_drew)); exact HO258.out) hb); have n4_ := Aside0.mk (Kd.R_below (by (with_reducible repeat (first | apply Kd.R_alloc | apply Kd.R_drewN | apply Kd.R_drew)); exact HO261.out) hb); have n5_ := Aside0.mk (Kd.R_below (by (with_reducible repeat (first | apply Kd.R_alloc | apply Kd.R_drewN | apply Kd.R_drew)); exact HO265.out) hb); have n6_ := Aside0.mk (below_step (by repeat (first | (with_reducible first | exact HB.out | apply below_alloc | apply pw_below_drewN | apply below_drew1) | exact HB.out)) hb); clear HO247; clear HO250; clear HO254; clear HO258; clear HO261; clear HO265; clear HB; have HO247 := n0_; have HO250 := n1_; have HO254 := n2_; have HO258 := n3_; have HO261 := n4_; have HO265 := n5_; have HB := n6_; clear n0_ n1_ n2_ n3_ n4_ n5_ n6_; (try clear hb); (try clear hb2); (try clear hk); (try clear hi); obtain ⟨Ao27, co27, eo27⟩ := Kd.R_slice HO247.out; subst eo27; obtain ⟨Ao28, co28, eo28⟩ := Kd.R_slice HO254.out; subst eo28) | (go_at_call 19; (with_reducible refine (slices_Equal_string_string.calls k _ _ t244 _ _ t251 true _ ?side1 ?side2 ?side3 ?side4 A12.out).mono ?_); (case side1 => repeat (first | exact (Kd.R_reads' HO247.out).2.2 | (with_reducible refine Kd.C_alloc ?_ _) | (with_reducible refine Kd.C_drewN ?_ _) | (with_reducible refine Kd.C_drew ?_))); (case side2 => exact (Kd.R_reads' HO247.out).2.1); (case side3 => repeat (first | exact (Kd.R_reads' HO254.out).2.2 | (with_reducible refine Kd.C_alloc ?_ _) | (with_reducible refine Kd.C_drewN ?_ _) | (with_reducible refine Kd.C_drew ?_))); (case side4 => exact (Kd.R_reads' HO254.out).2.1); rintro e w' ⟨rfl, ⟨nd, rfl⟩⟩; obtain ⟨Ao29, co29, eo29⟩ := Kd.R_slice HO258.out; subst eo29; obtain ⟨Ao30, co30, eo30⟩ := Kd.R_slice HO265.out; subst eo30) | (go_at_call 19; (with_reducible refine (slices_Equal_string_string.calls k _ _ t255 _ _ t262 true _ ?side1 ?side2 ?side3 ?side4 A15.out).mono ?_); (case side1 => repeat (first | exact (Kd.R_reads' HO258.out).2.2 | (with_reducible refine Kd.C_alloc ?_ _) | (with_reducible refine Kd.C_drewN ?_ _) | (with_reducible refine Kd.C_drew ?_))); (case side2 => exact (Kd.R_reads' HO258.out).2.1); (case side3 => repeat (first | exact (Kd.R_reads' HO265.out).2.2 | (with_reducible refine Kd.C_alloc ?_ _) | (with_reducible refine Kd.C_drewN ?_ _) | (with_reducible refine Kd.C_drew ?_))); (case side4 => exact (Kd.R_reads' HO265.out).2.1); rintro e w' ⟨rfl, ⟨nd, rfl⟩⟩))
      go_ret
      exact ⟨by first | rfl | (simp [errW_none, errW_some] <;> rfl) | (simp [*, errW_none, errW_some] <;> rfl), by repeat (first | (with_reducible first | exact HB.out | apply below_alloc | apply pw_below_drewN | apply below_drew1) | exact HB.out)⟩
     ·replace c16 := Bool.eq_false_iff.mpr c16
      subst c16
      have H1 : (some false) = some r := by rw [if_neg (show ¬ (false = true) by decide)] at H; exact H
      clear H
      have H := H1
      clear H1
      obtain rfl := Option.some.inj H
      exact absurd hlaw.out (by decide)
    ·rw [if_neg c14] at H
     have c14b0 : (t245 == t252) = false := beq_eq_false_iff_ne.mpr c14
     have c14b1 : (t245 != t252) = true := bne_iff_ne.mpr c14
     obtain rfl := Option.some.inj H
     exact absurd hlaw.out (by decide)
   ·replace c13 := Bool.eq_false_iff.mpr c13
    subst c13
    have H1 : (some false) = some r := by rw [if_neg (show ¬ (false = true) by decide)] at H; exact H
    clear H
    have H := H1
    clear H1
    obtain rfl := Option.some.inj H
    exact absurd hlaw.out (by decide)
  ·replace c11 := Bool.eq_false_iff.mpr c11
   subst c11
   have H1 : (some false) = some r := by rw [if_neg (show ¬ (false = true) by decide)] at H; exact H
   clear H
   have H := H1
   clear H1
   obtain rfl := Option.some.inj H
   exact absurd hlaw.out (by decide)
 ·replace c3 := Bool.eq_false_iff.mpr c3
  subst c3
  have H1 : ((metrolablaw53_awake.f).bind fun t243 => (some t243)) = some r := by rw [if_neg (show ¬ (false = true) by decide)] at H; exact H
  clear H
  have H := H1
  clear H1
  replace H := Option.bind_eq_some_iff.mp H
  obtain ⟨t243, A790, H⟩ := H
  replace H : (some t243) = some r := H
  have A79 := Aside0.mk A790
  clear A790
  obtain rfl := Option.some.inj H
  go_enter Try.func4, Try.ntmps4
  go_wp2_with (first | ((with_reducible refine gate_callee (f := 9) rfl ?_); refine goesL_ (some 12) rfl rfl Try.func9 (by kernel_rfl) rfl #[.slice A0 l0.length c0, .string (⟨#[]⟩ : ByteArray)] rfl (by (try simp only [List.map_toArray, List.map_cons, List.map_nil]); first | done | rfl | (simp only [List.length_drop, List.length_take]; rfl)) ?_; (with_reducible refine (metrolablaw53_few.calls k _ _ l0 (⟨#[]⟩ : ByteArray) false _ ?side1 ?side2 A2.out).mono ?_); (case side1 => repeat (first | exact HR0.out | (with_reducible refine Kd.C_alloc ?_ _) | (with_reducible refine Kd.C_drewN ?_ _) | (with_reducible refine Kd.C_drew ?_))); (case side2 => exact HC0.out); rintro e w80 ⟨rfl, hb⟩; refine ⟨_, rfl, ?_⟩; have n0_ := Aside0.mk (below_step (by repeat (first | (with_reducible first | exact HB.out | apply below_alloc | apply pw_below_drewN | apply below_drew1) | exact HB.out)) hb); clear HB; have HB := n0_; clear n0_; (try clear hb); (try clear hb2); (try clear hk); (try clear hi)) | ((with_reducible refine gate_callee (f := 10) rfl ?_); refine goesL_ (some 14) rfl rfl Try.func10 (by kernel_rfl) rfl #[] rfl (by (try simp only [List.map_toArray, List.map_cons, List.map_nil]); first | done | rfl | (simp only [List.length_drop, List.length_take]; rfl)) ?_; (with_reducible refine (metrolablaw53_awake.calls  t243 _ A79.out).mono ?_); rintro e w81 ⟨rfl, hb⟩; refine ⟨_, rfl, ?_⟩; have n0_ := Aside0.mk (below_step (by repeat (first | (with_reducible first | exact HB.out | apply below_alloc | apply pw_below_drewN | apply below_drew1) | exact HB.out)) hb); clear HB; have HB := n0_; clear n0_; (try clear hb); (try clear hb2); (try clear hk); (try clear hi)))
  go_ret
  exact ⟨by first | rfl | (simp [errW_none, errW_some] <;> rfl) | (simp [*, errW_none, errW_some] <;> rfl), by repeat (first | (with_reducible first | exact HB.out | apply below_alloc | apply pw_below_drewN | apply below_drew1) | exact HB.out)⟩

end Go.Proofs.Ytnmmdeonkpfccaa.Pr
/- An argument that is a slice of events, opened. -/
set_option linter.unusedVariables false
namespace Go.Proofs.Ytnmmdeonkpfccaa.Pr
open Go.RowKit Go.ChangeShapes Go.WideShapes Go.Deep Go.Proofs.YtnmmdeonkpfccaaW.PrintWords Go.Proofs.YtnmmdeonkpfccaaW.PrintLast Go.Proofs.YtnmmdeonkpfccaaW.PrintMore

/-- An event that a law may be given. -/
def okEv (x : S51) : Prop := (Lit.int .i64 x.f0).wf = true ∧ x.f1.size ≤ maxLen ∧ x.f2.size ≤ maxLen ∧ x.f3.size ≤ maxLen
variable {H : Type} {enc : TypeId × Value → H} {w : World} {base : Nat} {spare : Nat → Bool} {held : Bool}
set_option maxRecDepth 20000 in
theorem open_event {n : Nat} {cs : List Value} {x : DataW H × List MemPlace} (h : DataW.trod enc Try.prog w base spare held n 51 cs = some x) : ∃ e : S51, cs = [.int .i64 e.f0, .string e.f1, .string e.f2, .string e.f3] ∧ okEv e := by
 obtain ⟨ys, n', hn', hy, hlen, hyl, hf⟩ := DataW.trod_struct Try.underlying51 h
 have hc4 : cs.length = 4 := hlen.trans (by kernel_rfl)
 match cs, hc4 with
 | [c0, c1, c2, c3], _ =>
  match ys, hyl with
  | [y0, y1, y2, y3], _ =>
   have h0 := hf 0 _ rfl
   have h1 := hf 1 _ rfl
   have h2 := hf 2 _ rfl
   have h3 := hf 3 _ rfl
   have e3 : Try.prog.cellsOf 3 = 1 := by kernel_rfl
   have e9 : Try.prog.cellsOf 9 = 1 := by kernel_rfl
   change DataW.trod enc Try.prog w base spare held n' 3 (([c0, c1, c2, c3].drop 0).take (Try.prog.cellsOf 3)) = some y0 at h0
   change DataW.trod enc Try.prog w base spare held n' 9 (([c0, c1, c2, c3].drop 1).take (Try.prog.cellsOf 9)) = some y1 at h1
   change DataW.trod enc Try.prog w base spare held n' 9 (([c0, c1, c2, c3].drop 2).take (Try.prog.cellsOf 9)) = some y2 at h2
   change DataW.trod enc Try.prog w base spare held n' 9 (([c0, c1, c2, c3].drop 3).take (Try.prog.cellsOf 9)) = some y3 at h3
   rw [e3] at h0
   rw [e9] at h1 h2 h3
   obtain ⟨k, hk, _, hw⟩ := DataW.trod_int Try.underlying3 h0
   obtain ⟨s1, hs1, _, z1⟩ := DataW.trod_string Try.underlying9 h1
   obtain ⟨s2, hs2, _, z2⟩ := DataW.trod_string Try.underlying9 h2
   obtain ⟨s3, hs3, _, z3⟩ := DataW.trod_string Try.underlying9 h3
   cases hk; cases hs1; cases hs2; cases hs3
   exact ⟨⟨k, s1, s2, s3⟩, rfl, hw, z1, z2, z3⟩

theorem open_events {fuel : Nat} {cs : List Value} {x : DataW H × List MemPlace} (h : DataW.trod enc Try.prog w base spare held fuel 22 cs = some x) :
  (cs = [.slice none 0 0] ∧ x = (.nil, [])) ∨
  ∃ (a : Addr) (len cap : Nat) (es sp : List (DataW H)) (l : List S51), cs = [.slice (some a) len cap] ∧ len ≤ cap ∧ x.1 = .slice es sp ∧ es.length = len ∧ l.length = len ∧ Kd.C k51 w (some a) len l ∧ ∀ y ∈ l, okEv y := by
 rcases open_slice Try.underlying22 h with h0 | ⟨a, len, cap, m, n, D, Pl, hcs, hb, hl, hm, hmm, hx, hi⟩
 ·exact .inl h0
 ·refine .inr ⟨a, len, cap, (List.range len).map D, (List.range (m - len)).map (fun j => D (len + j)), ?_⟩
  have hC : Try.prog.cellsOf 51 = 4 := by kernel_rfl
  have hlm : len ≤ m := by rw [hmm]; split; exact hl; exact Nat.le_refl _
  have hev : ∀ i, i < len → ∃ e : S51, okEv e ∧ ∀ j u, [Value.int .i64 e.f0, .string e.f1, .string e.f2, .string e.f3][j]? = some u → w.cell? (a.add (i * 4 + j)) = some u := by
   intro i hil
   obtain ⟨cs', hc, ht⟩ := hi i (Nat.lt_of_lt_of_le hil hlm)
   obtain ⟨e, he, hok⟩ := open_event ht
   rw [hC] at hc
   obtain ⟨_, hcl, hat⟩ := World.cells?_some hc
   refine ⟨e, hok, fun j u hj => ?_⟩
   have hj4 : j < 4 := by
    have := (List.getElem?_eq_some_iff.1 hj).1
    simpa using this
   have := hat j hj4
   rw [he, hj, Go.Deep.add_add] at this
   exact this
  have hf : ∃ f : Nat → S51, ∀ i, i < len → okEv (f i) ∧ ∀ j u, [Value.int .i64 (f i).f0, .string (f i).f1, .string (f i).f2, .string (f i).f3][j]? = some u → w.cell? (a.add (i * 4 + j)) = some u := by
   refine ⟨fun i => if hil : i < len then Classical.choose (hev i hil) else z51, fun i hil => ?_⟩
   simp only [dif_pos hil]
   exact Classical.choose_spec (hev i hil)
  obtain ⟨f, hf⟩ := hf
  refine ⟨(List.range len).map f, hcs, hl, by rw [hx], by simp, by simp, ?_, ?_⟩
  ·refine ⟨by simp, by unfold maxLen at hm; omega, fun _ => ⟨a, rfl, fun j p hj => ?_⟩⟩
   have hjl : j < len := by
    have := (List.getElem?_eq_some_iff.1 hj).1
    simpa using this
   have hp : p = f j := by
    rw [List.getElem?_map, List.getElem?_range hjl] at hj
    exact (Option.some.inj hj).symm
   subst hp
   exact ⟨_, rfl, k51_mk w (f j), (hf j hjl).2⟩
  ·intro y hy
   obtain ⟨i, hi', rfl⟩ := List.mem_map.1 hy
   exact (hf i (List.mem_range.1 hi')).1
end Go.Proofs.Ytnmmdeonkpfccaa.Pr
-- The statement about lists that the law comes to.
namespace Go.Proofs.Ytnmmdeonkpfccaa.Pr
open Go.RowKit
def metrolablaw53_RecallLots.Pure : Prop := ∀ (l0 : List S51), l0.length * 56 ≤ 140737488351232 → (∀ x ∈ l0, okEv x) → ∃ k, metrolablaw53_RecallLots.f k l0 = some true
end Go.Proofs.Ytnmmdeonkpfccaa.Pr
/- The plain laws: lots, unsure gauges. -/
set_option linter.unusedVariables false
namespace Go.Proofs.Ytnmmdeonkpfccaa.Pr
open Go.RowKit Go.Proofs.YtnmmdeonkpfccaaW.PrintWords Go.Proofs.YtnmmdeonkpfccaaW.PrintLast Go.Proofs.YtnmmdeonkpfccaaW.PrintMore
theorem lots_go (l : List S51) (hn : l.length ≤ 2513169434915) : ∀ (d i : Nat), i ≤ l.length → l.length - i = d → Ev (fun k => metrolabref53_Lots.l0 k (rl l) (bs (accS (selL l) i)) (i : Int)) (bs (accS (selL l) l.length), 0) := by
 intro d
 induction d with
 | zero =>
  intro i hi hd
  obtain rfl : i = l.length := by omega
  exact Ev.const fun k => by simp only [metrolabref53_Lots.l0]; rw [if_neg (by rw [rl_len]; omega)]
 | succ d ih =>
  intro i hi hd
  obtain ⟨x, hx, hdr⟩ := drop_at (show i < l.length by omega)
  have hih := ih (i + 1) (by omega) (by omega)
  have hal := acc_len (selL l) i
  have hgx := gA_at hx
  have hac : accS (selL l) (i + 1) = (match selL l i with | some q => ins q (accS (selL l) i) | none => accS (selL l) i) := rfl
  by_cases h0 : x.f0 = 0
  ·refine Ev.step (f := fun k => _) (fun k => by simp only [metrolabref53_Lots.l0]; rw [if_pos (by rw [rl_len]; omega), if_pos (by omega), rd67_at hx, if_pos (show x.f0 = 0 from h0)]) ?_
   refine Ev.bind (recalled_ev l hn _) ?_
   by_cases hr : x.f2.data.toList ∈ recL l
   ·have hs : selL l i = some x.f3.data.toList := by unfold selL knd prt; rw [hgx, if_pos ⟨h0, hr⟩]
    rw [hs] at hac
    rw [hac] at hih
    rw [decide_eq_true hr]
    simp only [if_true]
    refine Ev.bind (put_ev _ _ (by omega)) ?_
    rw [wrap_nat (by omega)]; exact hih
   ·have hs : selL l i = none := by unfold selL knd prt; rw [hgx, if_neg (fun h => hr h.2)]
    rw [hs] at hac
    rw [hac] at hih
    rw [decide_eq_false hr]
    simp only [if_neg (show ¬ (false = true) by decide)]
    rw [wrap_nat (by omega)]; exact hih
  ·have hs : selL l i = none := by unfold selL knd prt; rw [hgx, if_neg (fun h => h0 h.1)]
   rw [hs] at hac
   rw [hac] at hih
   refine Ev.step (f := fun k => _) (fun k => by simp only [metrolabref53_Lots.l0]; rw [if_pos (by rw [rl_len]; omega), if_pos (by omega), rd67_at hx, if_neg (show ¬ x.f0 = 0 from h0), wrap_nat (by omega)]) hih
theorem lotK_mem (l : List S51) (q : Nm) : ∀ n, q ∈ lotK l n ↔ ∃ j, j < n ∧ selL l j = some q
 | 0 => by unfold lotK; simp
 | n + 1 => by
  have e : (knd l n = 0 ∧ prt l n ∈ recL l) = ((l.getD n z51).f0 = 0 ∧ (l.getD n z51).f2.data.toList ∈ recL l) := rfl
  have ih := lotK_mem l q n
  unfold lotK
  split
  ·rename_i h
   have hs : selL l n = some (gA l n).f3.data.toList := by unfold selL; exact if_pos h
   rw [List.mem_cons, ih]
   constructor
   ·rintro (e | ⟨j, h1, h2⟩)
    ·exact ⟨n, by omega, by rw [hs, e]; rfl⟩
    ·exact ⟨j, by omega, h2⟩
   ·rintro ⟨j, h1, h2⟩
    by_cases e : j = n
    ·subst e; rw [hs] at h2; exact .inl (Option.some.inj h2).symm
    ·exact .inr ⟨j, by omega, h2⟩
  ·rename_i h
   have hs : selL l n = none := by unfold selL; exact if_neg h
   rw [ih]
   constructor
   ·rintro ⟨j, h1, h2⟩; exact ⟨j, by omega, h2⟩
   ·rintro ⟨j, h1, h2⟩
    by_cases e : j = n
    ·subst e; rw [hs] at h2; cases h2
    ·exact ⟨j, by omega, h2⟩
theorem lots_ev (l : List S51) (hn : l.length ≤ 2513169434915) : Ev (fun k => metrolabref53_Lots.f k (rl l)) (lotsV l) := by
 unfold metrolabref53_Lots.f lotsV
 refine Ev.bind (check_ev l hn) ?_
 by_cases h : checkV l = 0
 ·rw [if_neg (fun h2 => h2 h)]; simp only [if_pos h]
  have := lots_go l hn l.length 0 (by omega) (by omega)
  rw [acc_strs (selL l) l.length (fun q => (lotK_mem l q l.length).symm)] at this
  exact this
 ·rw [if_pos h]; simp only [if_neg h]; exact Ev.now _
theorem unsure_go (l : List S51) (hn : l.length ≤ 2513169434915) : ∀ (d i : Nat), i ≤ l.length → l.length - i = d → Ev (fun k => metrolabref53_Unsure.l0 k (rl l) (bs (accS (selU l) i)) (i : Int)) (bs (accS (selU l) l.length), 0) := by
 intro d
 induction d with
 | zero =>
  intro i hi hd
  obtain rfl : i = l.length := by omega
  exact Ev.const fun k => by simp only [metrolabref53_Unsure.l0]; rw [if_neg (by rw [rl_len]; omega)]
 | succ d ih =>
  intro i hi hd
  obtain ⟨x, hx, hdr⟩ := drop_at (show i < l.length by omega)
  have hih := ih (i + 1) (by omega) (by omega)
  have hal := acc_len (selU l) i
  have hac : accS (selU l) (i + 1) = (match selU l i with | some q => ins q (accS (selU l) i) | none => accS (selU l) i) := rfl
  refine Ev.step (f := fun k => _) (fun k => by simp only [metrolabref53_Unsure.l0]; rw [if_pos (by rw [rl_len]; omega), rd67_at hx]) ?_
  refine Ev.bind (state_ev l hn i (by omega)) ?_
  by_cases hs1 : (stA l i).2 = 1
  ·have hs : selU l i = some x.f1.data.toList := by unfold selU; rw [if_pos hs1, gA_at hx]
   rw [hs] at hac
   rw [hac] at hih
   simp only [if_pos hs1, if_pos (show (0 : Int) ≤ (i : Int) by omega)]
   refine Ev.bind (put_ev _ _ (by omega)) ?_
   rw [wrap_nat (by omega)]; exact hih
  ·have hs : selU l i = none := by unfold selU; rw [if_neg hs1]
   rw [hs] at hac
   rw [hac] at hih
   simp only [if_neg hs1]
   rw [wrap_nat (by omega)]; exact hih
theorem unsK_mem (l : List S51) (q : Nm) : ∀ n, n ≤ l.length → (q ∈ unsK l n ↔ ∃ j, l.length - n ≤ j ∧ j < l.length ∧ selU l j = some q)
 | 0, _ => by
  unfold unsK
  refine ⟨fun h => (List.not_mem_nil h).elim, ?_⟩
  rintro ⟨j, h1, h2, _⟩; omega
 | n + 1, hn => by
  have ih := unsK_mem l q n (by omega)
  have ej : ∀ j, l.length - (n + 1) ≤ j ↔ j = l.length - 1 - n ∨ l.length - n ≤ j := fun j => by omega
  unfold unsK
  rw [evK_gA, chkA_st l n (by omega)]
  split
  ·rename_i h
   have hs : selU l (l.length - 1 - n) = some (gA l (l.length - 1 - n)).f1.data.toList := by unfold selU; rw [if_pos h]
   rw [List.mem_cons, ih]
   constructor
   ·rintro (e | ⟨j, h1, h2⟩)
    ·exact ⟨l.length - 1 - n, by omega, by omega, by rw [hs, e]⟩
    ·exact ⟨j, by omega, h2⟩
   ·rintro ⟨j, h1, h2, h3⟩
    rcases (ej j).1 h1 with rfl | h1
    ·rw [hs] at h3; exact .inl (Option.some.inj h3).symm
    ·exact .inr ⟨j, h1, h2, h3⟩
  ·rename_i h
   have hs : selU l (l.length - 1 - n) = none := by unfold selU; rw [if_neg h]
   rw [ih]
   constructor
   ·rintro ⟨j, h1, h2⟩; exact ⟨j, by omega, h2⟩
   ·rintro ⟨j, h1, h2, h3⟩
    rcases (ej j).1 h1 with rfl | h1
    ·rw [hs] at h3; cases h3
    ·exact ⟨j, h1, h2, h3⟩
theorem unsure_ev (l : List S51) (hn : l.length ≤ 2513169434915) : Ev (fun k => metrolabref53_Unsure.f k (rl l)) (unsureV l) := by
 unfold metrolabref53_Unsure.f unsureV
 refine Ev.bind (check_ev l hn) ?_
 by_cases h : checkV l = 0
 ·rw [if_neg (fun h2 => h2 h)]; simp only [if_pos h]
  have := unsure_go l hn l.length 0 (by omega) (by omega)
  rw [acc_strs (selU l) l.length (fun q => by rw [unsK_mem l q l.length (Nat.le_refl _)]; simp)] at this
  exact this
 ·rw [if_pos h]; simp only [if_neg h]; exact Ev.now _
theorem lotsV_len (l : List S51) : (lotsV l).1.length ≤ l.length := by
 unfold lotsV
 split
 ·exact Nat.zero_le _
 ·exact sel_len (acc_strs (selL l) l.length (fun q => (lotK_mem l q l.length).symm))
theorem unsureV_len (l : List S51) : (unsureV l).1.length ≤ l.length := by
 unfold unsureV
 split
 ·exact Nat.zero_le _
 ·exact sel_len (acc_strs (selU l) l.length (fun q => by rw [unsK_mem l q l.length (Nat.le_refl _)]; simp))
end Go.Proofs.Ytnmmdeonkpfccaa.Pr
/- The statement about lists that RecallLots comes to. -/
namespace Go.Proofs.Ytnmmdeonkpfccaa.Pure
open Go.RowKit Go.Proofs.Ytnmmdeonkpfccaa.Pr Go.Proofs.YtnmmdeonkpfccaaW.PrintWords Go.Proofs.YtnmmdeonkpfccaaW.PrintLast
theorem RecallLots : metrolablaw53_RecallLots.Pure := by
 intro l0 hl _
 have hn : l0.length ≤ 2513169434915 := by omega
 refine Ev.rounds (g := fun k => metrolablaw53_RecallLots.f k l0) ?_
 obtain ⟨b, hb⟩ := few_ev l0 ⟨#[]⟩ hn
 refine Ev.bind hb ?_
 cases b
 ·simp only [if_neg (show ¬ (false = true) by decide)]
  exact Ev.bind (now_ev (show metrolablaw53_awake.f = some true from rfl)) (Ev.now _)
 ·simp only [if_true]
  refine Ev.bind (now_ev rfl) (Ev.bind (own_ev l0 hn) (Ev.bind (lots_ev l0 hn) (Ev.bind (now_ev rfl) (Ev.bind (own_ev l0 hn) (Ev.bind (unsure_ev l0 hn) (Ev.bind (now_ev (show metrolablaw53_awake.f = some true from rfl)) ?_))))))
  simp only [if_true]
  refine Ev.bind (eqS_ev _ (Nat.le_trans (lotsV_len l0) hn)) ?_
  simp only [if_true]
  refine Ev.bind (eqS_ev _ (Nat.le_trans (unsureV_len l0) hn)) ?_
  simp only [if_true, beq_self_eq_true]
  exact Ev.now _
end Go.Proofs.Ytnmmdeonkpfccaa.Pure
/- The row of the law RecallLots, out of its statement about lists and the walk. -/
namespace Go.Proofs.Ytnmmdeonkpfccaa.recallLots
open Go.ChangeShapes Go.WideShapes Go.ChangeAt Go.RowKit
open Go.ChangeMaps (open_string shut_string)
set_option linter.unusedVariables false
theorem own : ownKnob Try.prog.godebug = none := by kernel_rfl
theorem laidOut : laidOutB Try.prog = true := by kernel_rfl
set_option maxRecDepth 100000 in
theorem lifted (os : Os) (started : os.Started) (H : Type) (enc : TypeId × Value → H) :
  ReturnsInHanded {} Try.checked os 4 .any (Rows.recallLotsSpec.pre6 enc Try.prog Try.f4 Rows.recallLotsRow.domain false) (Rows.recallLotsSpec.post enc Try.prog Try.f4 false true false false) := by
 refine returnsInHanded_of_change_sized (C := Try.checked) own started (by kernel_rfl) Try.func4
  (ChangeSpec.witness6 (enc := enc) (C := Try.checked) false ⟨#[], #[.slice none 0 0], []⟩ 8 (by kernel_rfl) (by kernel_rfl) (by kernel_rfl) (by kernel_rfl)) ?_
 intro W base args ds gs before hval0 hW hcnd hsz0 _
 have hsz : (DataW.weightsEach Try.prog (Try.f4.params.toList ++ Rows.recallLotsSpec.plain.varTypes Try.prog) (ds ++ gs)).all (· ≤ reachBytes) = true := hsz0
 have hval : ∀ (j : Nat) t v, Try.f4.params[j]? = some t → args[j]? = some v → Value.okWide Try.prog W .any base t v := hval0
 have hW' := hW
 obtain ⟨p, q, hA0, hV, rfl, hfz, hnd⟩ := hW
 have hA : DataW.TrodAll enc Try.prog W 0 (fun _ => true) true Try.f4.params.toList args.toList ds p := hA0
 rw [Try.params4] at hA hval hsz
 obtain ⟨v0, vs0, d0, ds0, p0, q0, hargs, rfl, rfl, h0, r0⟩ := trodAll_cons hA
 obtain ⟨rfl, rfl, rfl⟩ := trodAll_nil r0
 obtain rfl : args = #[v0] := by cases args; simp_all
 obtain ⟨rfl, rfl⟩ := trodVars_none hV
 obtain ⟨a0, len0, cap0, rfl⟩ := okWide_slice Try.underlying22 (hval 0 22 v0 rfl rfl)
 have k0 := h0
 have lt0 : ∀ x ∈ p0, x.block < W.heap.size := by obtain ⟨m, hm⟩ := k0; exact DataW.trod_lt m _ _ _ hm
 obtain ⟨z0, rfl, hC0, hcap0, hev0, y0⟩ : ∃ zs : List Pr.S51, len0 = zs.length ∧ YtnmmdeonkpfccaaW.PrintWords.Kd.C Pr.k51 W a0 zs.length zs ∧ zs.length ≤ cap0 ∧ (∀ y ∈ zs, Pr.okEv y) ∧ zs.length * 56 ≤ 140737488351232 := by
  obtain ⟨fuel, hf⟩ := h0
  rcases Pr.open_events hf with ⟨hcs, _⟩ | ⟨a, len, cap, es, sp, l, hcs, hl, hx, hes, hll, hC, hok⟩
  ·simp [Value.cells] at hcs
   obtain ⟨rfl, rfl, rfl⟩ := hcs
   exact ⟨[], rfl, ⟨rfl, (by simp only [List.length_nil]; omega), fun h => absurd h (by simp only [List.length_nil]; omega)⟩, Nat.le_refl _, (fun _ h => by cases h), by simp⟩
  ·simp [Value.cells] at hcs
   obtain ⟨rfl, rfl, rfl⟩ := hcs
   have z := sized_slice hsz (j := 0) (t := 22) rfl (congrArg some hx) Try.underlying22
   rw [show Try.prog.bytesOf 51 = 56 by kernel_rfl, hes, ← hll] at z
   exact ⟨l, hll.symm, hll ▸ hC, hll ▸ hl, hok, Nat.le_trans (Nat.mul_le_mul_right _ (Nat.le_add_right _ _)) z⟩
 clear hA0 hval0 hsz0 hsz
 obtain ⟨k, hk⟩ := Pure.RecallLots z0 y0 hev0
 refine (Pr.metrolablaw53_RecallLots.calls k a0 cap0 z0 true W hC0 hcap0 ⟨rfl⟩ hk).mono fun e W' ⟨he, bel⟩ => ?_
 subst he
 exact ⟨_, rfl, _, _, _, [], _, [], hW', trodAll_mk1 (shut_bool Try.underlying4 _), (trodAll_cons_mk (Below.trod laidOut (by kernel_rfl) (of_decide_eq_true (by kernel_rfl)) k0 bel lt0) trodAll_mk0), rfl, bel.frame _, fun h => by cases h⟩
theorem over : Rows.recallLotsRow.holds Try.pinned (OpenSpec.ofChange Rows.recallLotsSpec) :=
 OpenClaim.holds_of_wide 4 Try.f4 rfl rfl rfl rfl rfl rfl rfl ⟨rfl, rfl, rfl, rfl, rfl⟩ rfl rfl rfl rfl rfl (by kernel_rfl) Try.func4 (by kernel_rfl)
  (of_decide_eq_true (by kernel_rfl)) (by unfold Func.isWrapper; first | (rw [if_pos (by decide +kernel)]; kernel_rfl) | (rw [if_neg (by decide +kernel)]; exact ⟨rfl, rfl⟩))
  (fun os started H enc _ => lifted os started H enc)
theorem proved : Rows.RecallLotsSaid := over
#print axioms proved
end Go.Proofs.Ytnmmdeonkpfccaa.recallLots
namespace Go.Proofs.Ytnmmdeonkpfccaa
/-- The row, under a short name, for the claim. -/
theorem recallLots_holds : Rows.RecallLotsSaid := recallLots.proved
end Go.Proofs.Ytnmmdeonkpfccaa
