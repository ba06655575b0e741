/- The statement is proved as it is given, without a condition of ours. -/
import Derived.Test.YtgkgeodphgfgnaaB1
import Derived.Test.YtgkgeodphgfgnaaB4
import Derived.Test.YtgkgeodphgfgnaaB3
import Derived.Test.YtgkgeodphgfgnaaB2
import Derived.Test.YtgkgeodphgfgnaaRows
import Derived.WalkKit
import Derived.ProofKit
import Derived.OpenShut
import Derived.ShutString
import Derived.ChangeOld
import Derived.Below
import Derived.SizedLaws
-- Printed for this claim by a program of this session, over the kit's printer. Not trusted: Lean checks it.
namespace Go.Proofs.Ytgkgeodphgfgnaa.Pr
open Go.RowKit Go.Proofs.YtgkgeodphgfgnaaW.PrintWords Go.Proofs.YtgkgeodphgfgnaaW.PrintLast Go.Proofs.YtgkgeodphgfgnaaW.PrintMore
attribute [local go_sem] max2_int min2_int max_two min_two max_three min_three max_four min_four
set_option linter.unusedVariables false
set_option linter.unusedSimpArgs false

/-! ### metrolabref50_steps: function 52 -/
def metrolabref50_steps.l0 : Nat → List Int → Int → Int → Int → Option (List Int)
  | 0, _, _, _, _ => none
  | k + 1, x0, x2, x3, x9 => if x9 ≤ x2 then ((metrolabref50_Added.f k x0 x9).bind fun t282 => (metrolabref50_steps.l0 k t282 x2 x3 (wrap64 (x9 + x3)))) else (some x0)
def metrolabref50_steps.f (k : Nat) (l0 : List Int) (a1 : Int) (a2 : Int) (a3 : Int) : Option (List Int) := metrolabref50_steps.l0 k l0 a2 a3 a1
theorem metrolabref50_steps.mono_l : ∀ k, (∀ y0 y1 y2 y3, LeO (metrolabref50_steps.l0 k y0 y1 y2 y3) (metrolabref50_steps.l0 (k + 1) y0 y1 y2 y3))
  | 0 => fun _ _ _ _ r h => by simp [metrolabref50_steps.l0] at h
  | k + 1 => by
    have ih0 := metrolabref50_steps.mono_l k
    · intro y0 y1 y2 y3
      unfold metrolabref50_steps.l0
      repeat' first
      | (with_reducible exact ih0 _ _ _ _)
      | (with_reducible exact metrolabref50_Added.mono _ _ _)
      | (with_reducible exact LeO.refl _)
      | (with_reducible exact LeO.none _)
      | (with_reducible refine LeO.ite ?_ ?_)
      | (with_reducible refine LeO.bind ?_ (fun _ => ?_))
      | exact ih0 _ _ _ _
      | exact metrolabref50_Added.mono _ _ _
      | exact LeO.none _
      | refine LeO.ite ?_ ?_
      | refine LeO.bind ?_ (fun _ => ?_)
theorem metrolabref50_steps.mono : ∀ a0 a1 a2 a3 k, LeO (metrolabref50_steps.f k a0 a1 a2 a3) (metrolabref50_steps.f (k + 1) a0 a1 a2 a3) := by
  intro a0 a1 a2 a3 k
  have ih0 := metrolabref50_steps.mono_l k
  unfold metrolabref50_steps.f
  repeat' first
      | (with_reducible exact ih0 _ _ _ _)
      | (with_reducible exact metrolabref50_Added.mono _ _ _)
      | (with_reducible exact LeO.refl _)
      | (with_reducible exact LeO.none _)
      | (with_reducible refine LeO.ite ?_ ?_)
      | (with_reducible refine LeO.bind ?_ (fun _ => ?_))
      | exact ih0 _ _ _ _
      | exact metrolabref50_Added.mono _ _ _
      | exact LeO.none _
      | refine LeO.ite ?_ ?_
      | refine LeO.bind ?_ (fun _ => ?_)
set_option maxHeartbeats 8000000 in
set_option maxRecDepth 100000 in
theorem metrolabref50_steps.calls (k : Nat) (P0_ : Nat → Prop) (A0 : Option Addr) (c0 : Nat) (l0 : List Int) (a1 : Int) (a2 : Int) (a3 : Int) (r : List Int) (w : World) (hs0 : Kd.V (Kd.int .i64) 3 w w.heap.size (fun k_ => P0_ k_) (.slice A0 l0.length c0) l0) (h : metrolabref50_steps.f k l0 a1 a2 a3 = some r) :
    Calls Try.prog 52 #[.slice A0 l0.length c0, .int .i64 a1, .int .i64 a2, .int .i64 a3] w fun e w' => ∃ v0_ : Value, e = .returned (v0_) ∧ Kd.V (Kd.int .i64) 3 w' w.heap.size (fun k_ => (P0_ k_ ∨ w.heap.size ≤ k_)) v0_ r ∧ Below w.heap.size w w' := by
  have HO0 := Aside0.mk (show Kd.V (Kd.int .i64) 3 w w.heap.size (fun k_ => (P0_ k_ ∨ w.heap.size ≤ k_)) (.slice A0 l0.length c0) l0 from Kd.V_mono hs0 (fun k_ hk => .inl hk))
  have HB := Aside0.mk (Below.refl w.heap.size w)
  have H : (metrolabref50_steps.l0 k l0 a2 a3 a1) = some r := h
  clear h
  have H' := Aside0.mk H
  clear H
  go_enter Try.func52, Try.ntmps52
  go_wp2
  go_loopg [0, 9] k (fun kq v0 v9 w' => ∃ (x0_1 : List Int) (x9_1 : Int), v9 = .int .i64 x9_1 ∧ Aside0 (metrolabref50_steps.l0 kq x0_1 a2 a3 x9_1 = some r) ∧ Aside0 (kq ≤ k) ∧ Aside0 (Kd.V (Kd.int .i64) 3 w' w.heap.size (fun k_ => (P0_ k_ ∨ w.heap.size ≤ k_)) v0 x0_1) ∧ Aside0 (Below w.heap.size w w'))
  case atStart => exact ⟨(l0), (a1), (by first | rfl | (simp; done) | (simp [*]; done)), H', ⟨Nat.le_refl _⟩, ⟨by (with_reducible repeat (first | apply Kd.V_alloc | apply Kd.V_drewN | apply Kd.V_drew)); exact HO0.out⟩, ⟨by repeat (first | (with_reducible first | exact HB.out | apply below_alloc | apply pw_below_drewN | apply below_drew1) | exact HB.out)⟩⟩
  case round =>
    clear H'
    try clear p2
    obtain ⟨x0_1, x9_1, rfl, HA, HK1, HO_0, HB⟩ := hrel
    cases gk with
    | zero => exact absurd HA.out (by simp [metrolabref50_steps.l0])
    | succ k1 =>
      have H := HA.out
      clear HA
      simp only [metrolabref50_steps.l0] at H
      by_cases c5 : x9_1 ≤ a2
      · rw [if_pos c5] at H
        have c5b0 : decide (x9_1 ≤ a2) = true := decide_eq_true c5
        clear c5
        replace H := Option.bind_eq_some_iff.mp H
        obtain ⟨t282, A60, H⟩ := H
        replace H : (metrolabref50_steps.l0 k1 t282 a2 a3 (wrap64 (x9_1 + a3))) = some r := H
        have A6 := Aside0.mk A60
        clear A60
        have H' := Aside0.mk H
        clear H
        obtain ⟨Ao7, co7, eo7⟩ := Kd.V_slice HO_0.out
        subst eo7
        go_wp2_with (first | ((with_reducible refine gate_callee (f := 31) rfl ?_); refine goesL_ (some 19) rfl rfl Try.func31 (by kernel_rfl) rfl #[.slice Ao7 x0_1.length co7, .int .i64 x9_1] rfl (by (try simp only [List.map_toArray, List.map_cons, List.map_nil]); first | done | rfl | (simp only [List.length_drop, List.length_take]; rfl)) ?_; (with_reducible refine (metrolabref50_Added.calls k1 _ _ x0_1 x9_1 t282 _ ?side1 ?side2 A6.out).mono ?_); (case side1 => repeat (first | exact (Kd.V_reads' HO_0.out).2.2 | (with_reducible refine Kd.C_alloc ?_ _) | (with_reducible refine Kd.C_drewN ?_ _) | (with_reducible refine Kd.C_drew ?_))); (case side2 => exact (Kd.V_reads' HO_0.out).2.1); rintro e w8 ⟨v283, rfl, ho0, hb⟩; refine ⟨_, rfl, ?_⟩; have n0_ := Aside0.mk (Kd.V_elder' (by (with_reducible repeat (first | apply Kd.V_alloc | apply Kd.V_drewN | apply Kd.V_drew)); exact HO_0.out) (Kd.R_base ho0) hb); have n1_ := Aside0.mk (Kd.R_lower (Kd.R_newM (M := fun k_ => (w.heap.size ≤ k_)) ho0 (below_size (by repeat (first | (with_reducible first | exact HB.out | apply below_alloc | apply pw_below_drewN | apply below_drew1) | exact HB.out))) (fun k_ h_ => h_)) (below_size (by repeat (first | (with_reducible first | exact HB.out | apply below_alloc | apply pw_below_drewN | apply below_drew1) | exact HB.out)))); have n2_ := Aside0.mk (below_step (by repeat (first | (with_reducible first | exact HB.out | apply below_alloc | apply pw_below_drewN | apply below_drew1) | exact HB.out)) hb); clear HO_0; clear HB; have HO_0 := n0_; have HO284 := n1_; have HB := n2_; clear n0_ n1_ n2_; (try clear hb); (try clear hb2); (try clear hk); (try clear hi); (try clear ho0)))
        go_roundg k1
        case measure => have := HK1.out; omega
        case rel => exact ⟨(t282), (wrap64 (x9_1 + a3)), (by first | rfl | (simp; done) | (simp [*]; done)), H', ⟨by have := HK1.out; omega⟩, ⟨Kd.V_mono (Kd.R_V (by (with_reducible repeat (first | apply Kd.R_alloc | apply Kd.R_drewN | apply Kd.R_drew)); exact Kd.R_mono HO284.out (fun _ hk => hk.1))) (fun k_ hk => by first | exact ⟨(.inr (hk.1)), hk.2⟩ | exact (.inr (hk)))⟩, ⟨by repeat (first | (with_reducible first | exact HB.out | apply below_alloc | apply pw_below_drewN | apply below_drew1) | exact HB.out)⟩⟩
      · rw [if_neg c5] at H
        have c5b0 : decide (x9_1 ≤ a2) = false := decide_eq_false c5
        clear c5
        obtain rfl := Option.some.inj H
        go_wp2
        go_ret
        exact ⟨_, by first | rfl | (simp [errW_none, errW_some] <;> rfl) | (simp [*, errW_none, errW_some] <;> rfl), by (with_reducible repeat (first | apply Kd.V_alloc | apply Kd.V_drewN | apply Kd.V_drew)); exact HO_0.out, by repeat (first | (with_reducible first | exact HB.out | apply below_alloc | apply pw_below_drewN | apply below_drew1) | exact HB.out)⟩

end Go.Proofs.Ytgkgeodphgfgnaa.Pr
-- Printed for this claim by a program of this session, over the kit's printer. Not trusted: Lean checks it.
namespace Go.Proofs.Ytgkgeodphgfgnaa.Pr
open Go.RowKit Go.Proofs.YtgkgeodphgfgnaaW.PrintWords Go.Proofs.YtgkgeodphgfgnaaW.PrintLast Go.Proofs.YtgkgeodphgfgnaaW.PrintMore
attribute [local go_sem] max2_int min2_int max_two min_two max_three min_three max_four min_four
set_option linter.unusedVariables false
set_option linter.unusedSimpArgs false

/-! ### metrolabref50_Standard: function 23 -/
def metrolabref50_Standard.f (k : Nat) (a0 : Int) : Option (List Int × Int) := if a0 = 32 then ((metrolabref50_steps.f k (([1005] : List Int)) 1010 1090 10).bind fun t288 => ((metrolabref50_steps.f k t288 1100 1900 100).bind fun t291 => ((metrolabref50_steps.f k t291 1000 9000 1000).bind fun t294 => ((metrolabref50_steps.f k t294 10000 30000 10000).bind fun t297 => ((metrolabref50_steps.f k t297 50000 50000 1).bind fun t300 => (some (t300, 0))))))) else (if a0 = 47 then ((metrolabref50_steps.f k (([1005] : List Int)) 1010 1190 10).bind fun t306 => ((metrolabref50_steps.f k t306 1200 1900 100).bind fun t309 => ((metrolabref50_steps.f k t309 1000 9000 1000).bind fun t312 => ((metrolabref50_steps.f k t312 10000 100000 10000).bind fun t315 => (some (t315, 0)))))) else (if a0 = 87 then ((metrolabref50_steps.f k ([] : List Int) 1001 1009 1).bind fun t318 => ((metrolabref50_steps.f k t318 1010 1490 10).bind fun t321 => ((metrolabref50_steps.f k t321 500 9500 500).bind fun t324 => ((metrolabref50_steps.f k t324 10000 100000 10000).bind fun t327 => (some (t327, 0)))))) else (some (([] : List Int), 1))))
theorem metrolabref50_Standard.mono : ∀ a0 k, LeO (metrolabref50_Standard.f k a0) (metrolabref50_Standard.f (k + 1) a0) := by
  intro a0 k
  unfold metrolabref50_Standard.f
  repeat' first
      | (with_reducible exact metrolabref50_steps.mono _ _ _ _ _)
      | (with_reducible exact LeO.refl _)
      | (with_reducible exact LeO.none _)
      | (with_reducible refine LeO.ite ?_ ?_)
      | (with_reducible refine LeO.bind ?_ (fun _ => ?_))
      | exact metrolabref50_steps.mono _ _ _ _ _
      | exact LeO.none _
      | refine LeO.ite ?_ ?_
      | refine LeO.bind ?_ (fun _ => ?_)
set_option maxHeartbeats 8000000 in
set_option maxRecDepth 100000 in
theorem metrolabref50_Standard.calls (k : Nat) (a0 : Int) (r1 : List Int) (r2 : Int) (w : World) (h : metrolabref50_Standard.f k a0 = some (r1, r2)) :
    Calls Try.prog 23 #[.int .i64 a0] w fun e w' => ∃ v0_ : Value, e = .returned (.tuple #[v0_, .int .i64 r2]) ∧ Kd.V (Kd.int .i64) 3 w' w.heap.size (fun k_ => (w.heap.size ≤ k_)) v0_ r1 ∧ Below w.heap.size w w' := by
  have HB := Aside0.mk (Below.refl w.heap.size w)
  have H : (if a0 = 32 then ((metrolabref50_steps.f k (([1005] : List Int)) 1010 1090 10).bind fun t288 => ((metrolabref50_steps.f k t288 1100 1900 100).bind fun t291 => ((metrolabref50_steps.f k t291 1000 9000 1000).bind fun t294 => ((metrolabref50_steps.f k t294 10000 30000 10000).bind fun t297 => ((metrolabref50_steps.f k t297 50000 50000 1).bind fun t300 => (some (t300, 0))))))) else (if a0 = 47 then ((metrolabref50_steps.f k (([1005] : List Int)) 1010 1190 10).bind fun t306 => ((metrolabref50_steps.f k t306 1200 1900 100).bind fun t309 => ((metrolabref50_steps.f k t309 1000 9000 1000).bind fun t312 => ((metrolabref50_steps.f k t312 10000 100000 10000).bind fun t315 => (some (t315, 0)))))) else (if a0 = 87 then ((metrolabref50_steps.f k ([] : List Int) 1001 1009 1).bind fun t318 => ((metrolabref50_steps.f k t318 1010 1490 10).bind fun t321 => ((metrolabref50_steps.f k t321 500 9500 500).bind fun t324 => ((metrolabref50_steps.f k t324 10000 100000 10000).bind fun t327 => (some (t327, 0)))))) else (some (([] : List Int), 1))))) = some (r1, r2) := h
  clear h
  by_cases c2 : a0 = 32
  · rw [if_pos c2] at H
    have c2b0 : (a0 == 32) = true := beq_iff_eq.mpr c2
    have c2b1 : (a0 != 32) = false := bne_eq_false_iff_eq.mpr c2
    clear c2
    obtain ⟨y285, hy285⟩ : ∃ y_ : List Int, y_ = (([1005] : List Int)) := ⟨_, rfl⟩
    replace H : ((metrolabref50_steps.f k y285 1010 1090 10).bind fun t288 => ((metrolabref50_steps.f k t288 1100 1900 100).bind fun t291 => ((metrolabref50_steps.f k t291 1000 9000 1000).bind fun t294 => ((metrolabref50_steps.f k t294 10000 30000 10000).bind fun t297 => ((metrolabref50_steps.f k t297 50000 50000 1).bind fun t300 => (some (t300, 0))))))) = some (r1, r2) := by first | (rw [hy285]; with_reducible exact H) | (have H2_ := (Option.bind_some _ _).symm.trans H; rw [hy285]; with_reducible exact H2_) | (have H2_ := (Option.bind_some _ _).symm.trans H; with_reducible exact H2_) | with_reducible exact H | (rw [hy285]; exact H) | exact H
    have Ny285 := Aside0.mk hy285
    clear hy285
    replace H := Option.bind_eq_some_iff.mp H
    obtain ⟨t288, A30, H⟩ := H
    replace H : ((metrolabref50_steps.f k t288 1100 1900 100).bind fun t291 => ((metrolabref50_steps.f k t291 1000 9000 1000).bind fun t294 => ((metrolabref50_steps.f k t294 10000 30000 10000).bind fun t297 => ((metrolabref50_steps.f k t297 50000 50000 1).bind fun t300 => (some (t300, 0)))))) = some (r1, r2) := H
    have A3 := Aside0.mk A30
    clear A30
    replace H := Option.bind_eq_some_iff.mp H
    obtain ⟨t291, A40, H⟩ := H
    replace H : ((metrolabref50_steps.f k t291 1000 9000 1000).bind fun t294 => ((metrolabref50_steps.f k t294 10000 30000 10000).bind fun t297 => ((metrolabref50_steps.f k t297 50000 50000 1).bind fun t300 => (some (t300, 0))))) = some (r1, r2) := H
    have A4 := Aside0.mk A40
    clear A40
    replace H := Option.bind_eq_some_iff.mp H
    obtain ⟨t294, A50, H⟩ := H
    replace H : ((metrolabref50_steps.f k t294 10000 30000 10000).bind fun t297 => ((metrolabref50_steps.f k t297 50000 50000 1).bind fun t300 => (some (t300, 0)))) = some (r1, r2) := H
    have A5 := Aside0.mk A50
    clear A50
    replace H := Option.bind_eq_some_iff.mp H
    obtain ⟨t297, A60, H⟩ := H
    replace H : ((metrolabref50_steps.f k t297 50000 50000 1).bind fun t300 => (some (t300, 0))) = some (r1, r2) := H
    have A6 := Aside0.mk A60
    clear A60
    replace H := Option.bind_eq_some_iff.mp H
    obtain ⟨t300, A70, H⟩ := H
    replace H : (some (t300, 0)) = some (r1, r2) := H
    have A7 := Aside0.mk A70
    clear A70
    simp only [Option.some.injEq, Prod.mk.injEq] at H
    obtain ⟨rfl, rfl⟩ := H
    go_enter Try.func23, Try.ntmps23
    go_wp2_with (first | ((with_reducible refine gate_dst (N := 10) rfl ?_); (try refine wpList_unguard rfl rfl ?_); refine Kd.R_lit (Kd.int .i64) _ 3 ?hg (N := 10) ?hd (xs := ([1005] : List Int)) (inner := [.int .i64 1005]) (ok := fun _ => True) (okp := fun _ => True) ?hr ?hp (fun _ hk => hk) trivial (Below.refl _ _) (Nat.le_refl _) (by simp) ?_; (case hd => rfl); (case hg => rfl); (case hr => first | (go_simp; done) | (go_simp; rfl)); (case hp => exact (Reps.one (show Kd.M (Kd.int .i64) _ _ _ 1005 [.int .i64 1005] from rfl) (Reps.none _ _))); intro v286 w8 ho9 hb hg_ hnew_; clear hg_ hnew_; (first | rw [← Ny285.out] at ho9 | (simp only [Int.reduceToNat] at ho9; rw [← Ny285.out] at ho9)); have n0_ := Aside0.mk (Kd.R_lower (Kd.R_newM (M := fun k_ => (w.heap.size ≤ k_)) ho9 (below_size (by repeat (first | (with_reducible first | exact HB.out | apply below_alloc | apply pw_below_drewN | apply below_drew1) | exact HB.out))) (fun k_ h_ => h_)) (below_size (by repeat (first | (with_reducible first | exact HB.out | apply below_alloc | apply pw_below_drewN | apply below_drew1) | exact HB.out)))); have n1_ := Aside0.mk (below_step (by repeat (first | (with_reducible first | exact HB.out | apply below_alloc | apply pw_below_drewN | apply below_drew1) | exact HB.out)) hb); clear HB; have HO287 := n0_; have HB := n1_; clear n0_ n1_; clear hb ho9; obtain ⟨Ao10, co10, eo10⟩ := Kd.R_slice HO287.out; subst eo10) | ((with_reducible refine gate_callee (f := 52) rfl ?_); refine goesL_ (some 11) rfl rfl Try.func52 (by kernel_rfl) rfl #[.slice Ao10 y285.length co10, .int .i64 1010, .int .i64 1090, .int .i64 10] rfl (by (try simp only [List.map_toArray, List.map_cons, List.map_nil]); first | done | rfl | (simp only [List.length_drop, List.length_take]; rfl)) ?_; (with_reducible refine (metrolabref50_steps.calls k (fun k_ => some k_ = (.slice Ao10 y285.length co10 : Value).ownBlock) _ _ y285 1010 1090 10 t288 _ ?side1 A3.out).mono ?_); (case side1 => exact Kd.R_V (Kd.R_tight rfl (HO287.out))); rintro e w11 ⟨v289, rfl, ho0, hb⟩; refine ⟨_, rfl, ?_⟩; have n0_ := Aside0.mk (Kd.R_below (by (with_reducible repeat (first | apply Kd.R_alloc | apply Kd.R_drewN | apply Kd.R_drew)); exact HO287.out) hb); have n1_ := Aside0.mk (Kd.V_lower (Kd.V_mono (ok' := fun k_ => (w.heap.size ≤ k_)) ho0 (fun k_ hk_ => Or.elim hk_ (fun hs_ => ((HO287.out).1 k_ hs_.symm).1) (fun hn_ => (Nat.le_trans (below_size (by repeat (first | (with_reducible first | exact HB.out | apply below_alloc | apply pw_below_drewN | apply below_drew1) | exact HB.out))) hn_)))) (below_size (by repeat (first | (with_reducible first | exact HB.out | apply below_alloc | apply pw_below_drewN | apply below_drew1) | exact HB.out)))); have n2_ := Aside0.mk (below_step (by repeat (first | (with_reducible first | exact HB.out | apply below_alloc | apply pw_below_drewN | apply below_drew1) | exact HB.out)) hb); clear HO287; clear HB; have HO287 := n0_; have HO290 := n1_; have HB := n2_; clear n0_ n1_ n2_; (try clear hb); (try clear hb2); (try clear hk); (try clear hi); (try clear ho0); obtain ⟨Ao12, co12, eo12⟩ := Kd.V_slice HO290.out; subst eo12) | ((with_reducible refine gate_callee (f := 52) rfl ?_); refine goesL_ (some 12) rfl rfl Try.func52 (by kernel_rfl) rfl #[.slice Ao12 t288.length co12, .int .i64 1100, .int .i64 1900, .int .i64 100] rfl (by (try simp only [List.map_toArray, List.map_cons, List.map_nil]); first | done | rfl | (simp only [List.length_drop, List.length_take]; rfl)) ?_; (with_reducible refine (metrolabref50_steps.calls k (fun k_ => (w.heap.size ≤ k_)) _ _ t288 1100 1900 100 t291 _ ?side1 A4.out).mono ?_); (case side1 => exact HO290.out); rintro e w13 ⟨v292, rfl, ho0, hb⟩; refine ⟨_, rfl, ?_⟩; have n0_ := Aside0.mk (Kd.R_below (by (with_reducible repeat (first | apply Kd.R_alloc | apply Kd.R_drewN | apply Kd.R_drew)); exact HO287.out) hb); have n1_ := Aside0.mk (Kd.V_below (by (with_reducible repeat (first | apply Kd.V_alloc | apply Kd.V_drewN | apply Kd.V_drew)); exact HO290.out) hb); have n2_ := Aside0.mk (Kd.V_lower (Kd.V_mono (ok' := fun k_ => (w.heap.size ≤ k_)) ho0 (fun k_ hk_ => Or.elim hk_ (fun hs_ => hs_) (fun hn_ => (Nat.le_trans (below_size (by repeat (first | (with_reducible first | exact HB.out | apply below_alloc | apply pw_below_drewN | apply below_drew1) | exact HB.out))) hn_)))) (below_size (by repeat (first | (with_reducible first | exact HB.out | apply below_alloc | apply pw_below_drewN | apply below_drew1) | exact HB.out)))); have n3_ := Aside0.mk (below_step (by repeat (first | (with_reducible first | exact HB.out | apply below_alloc | apply pw_below_drewN | apply below_drew1) | exact HB.out)) hb); clear HO287; clear HO290; clear HB; have HO287 := n0_; have HO290 := n1_; have HO293 := n2_; have HB := n3_; clear n0_ n1_ n2_ n3_; (try clear hb); (try clear hb2); (try clear hk); (try clear hi); (try clear ho0); obtain ⟨Ao14, co14, eo14⟩ := Kd.V_slice HO293.out; subst eo14) | ((with_reducible refine gate_callee (f := 52) rfl ?_); refine goesL_ (some 14) rfl rfl Try.func52 (by kernel_rfl) rfl #[.slice Ao14 t291.length co14, .int .i64 1000, .int .i64 9000, .int .i64 1000] rfl (by (try simp only [List.map_toArray, List.map_cons, List.map_nil]); first | done | rfl | (simp only [List.length_drop, List.length_take]; rfl)) ?_; (with_reducible refine (metrolabref50_steps.calls k (fun k_ => (w.heap.size ≤ k_)) _ _ t291 1000 9000 1000 t294 _ ?side1 A5.out).mono ?_); (case side1 => exact HO293.out); rintro e w15 ⟨v295, rfl, ho0, hb⟩; refine ⟨_, rfl, ?_⟩; have n0_ := Aside0.mk (Kd.R_below (by (with_reducible repeat (first | apply Kd.R_alloc | apply Kd.R_drewN | apply Kd.R_drew)); exact HO287.out) hb); have n1_ := Aside0.mk (Kd.V_below (by (with_reducible repeat (first | apply Kd.V_alloc | apply Kd.V_drewN | apply Kd.V_drew)); exact HO290.out) hb); have n2_ := Aside0.mk (Kd.V_below (by (with_reducible repeat (first | apply Kd.V_alloc | apply Kd.V_drewN | apply Kd.V_drew)); exact HO293.out) hb); have n3_ := Aside0.mk (Kd.V_lower (Kd.V_mono (ok' := fun k_ => (w.heap.size ≤ k_)) ho0 (fun k_ hk_ => Or.elim hk_ (fun hs_ => hs_) (fun hn_ => (Nat.le_trans (below_size (by repeat (first | (with_reducible first | exact HB.out | apply below_alloc | apply pw_below_drewN | apply below_drew1) | exact HB.out))) hn_)))) (below_size (by repeat (first | (with_reducible first | exact HB.out | apply below_alloc | apply pw_below_drewN | apply below_drew1) | exact HB.out)))); have n4_ := Aside0.mk (below_step (by repeat (first | (with_reducible first | exact HB.out | apply below_alloc | apply pw_below_drewN | apply below_drew1) | exact HB.out)) hb); clear HO287; clear HO290; clear HO293; clear HB; have HO287 := n0_; have HO290 := n1_; have HO293 := n2_; have HO296 := n3_; have HB := n4_; clear n0_ n1_ n2_ n3_ n4_; (try clear hb); (try clear hb2); (try clear hk); (try clear hi); (try clear ho0); obtain ⟨Ao16, co16, eo16⟩ := Kd.V_slice HO296.out; subst eo16) | ((with_reducible refine gate_callee (f := 52) rfl ?_); refine goesL_ (some 15) rfl rfl Try.func52 (by kernel_rfl) rfl #[.slice Ao16 t294.length co16, .int .i64 10000, .int .i64 30000, .int .i64 10000] rfl (by (try simp only [List.map_toArray, List.map_cons, List.map_nil]); first | done | rfl | (simp only [List.length_drop, List.length_take]; rfl)) ?_; (with_reducible refine (metrolabref50_steps.calls k (fun k_ => (w.heap.size ≤ k_)) _ _ t294 10000 30000 10000 t297 _ ?side1 A6.out).mono ?_); (case side1 => exact HO296.out); rintro e w17 ⟨v298, rfl, ho0, hb⟩; refine ⟨_, rfl, ?_⟩; have n0_ := Aside0.mk (Kd.R_below (by (with_reducible repeat (first | apply Kd.R_alloc | apply Kd.R_drewN | apply Kd.R_drew)); exact HO287.out) hb); have n1_ := Aside0.mk (Kd.V_below (by (with_reducible repeat (first | apply Kd.V_alloc | apply Kd.V_drewN | apply Kd.V_drew)); exact HO290.out) hb); have n2_ := Aside0.mk (Kd.V_below (by (with_reducible repeat (first | apply Kd.V_alloc | apply Kd.V_drewN | apply Kd.V_drew)); exact HO293.out) hb); have n3_ := Aside0.mk (Kd.V_below (by (with_reducible repeat (first | apply Kd.V_alloc | apply Kd.V_drewN | apply Kd.V_drew)); exact HO296.out) hb); have n4_ := Aside0.mk (Kd.V_lower (Kd.V_mono (ok' := fun k_ => (w.heap.size ≤ k_)) ho0 (fun k_ hk_ => Or.elim hk_ (fun hs_ => hs_) (fun hn_ => (Nat.le_trans (below_size (by repeat (first | (with_reducible first | exact HB.out | apply below_alloc | apply pw_below_drewN | apply below_drew1) | exact HB.out))) hn_)))) (below_size (by repeat (first | (with_reducible first | exact HB.out | apply below_alloc | apply pw_below_drewN | apply below_drew1) | exact HB.out)))); have n5_ := Aside0.mk (below_step (by repeat (first | (with_reducible first | exact HB.out | apply below_alloc | apply pw_below_drewN | apply below_drew1) | exact HB.out)) hb); clear HO287; clear HO290; clear HO293; clear HO296; clear HB; have HO287 := n0_; have HO290 := n1_; have HO293 := n2_; have HO296 := n3_; have HO299 := n4_; have HB := n5_; clear n0_ n1_ n2_ n3_ n4_ n5_; (try clear hb); (try clear hb2); (try clear hk); (try clear hi); (try clear ho0); obtain ⟨Ao18, co18, eo18⟩ := Kd.V_slice HO299.out; subst eo18) | ((with_reducible refine gate_callee (f := 52) rfl ?_); refine goesL_ (some 16) rfl rfl Try.func52 (by kernel_rfl) rfl #[.slice Ao18 t297.length co18, .int .i64 50000, .int .i64 50000, .int .i64 1] rfl (by (try simp only [List.map_toArray, List.map_cons, List.map_nil]); first | done | rfl | (simp only [List.length_drop, List.length_take]; rfl)) ?_; (with_reducible refine (metrolabref50_steps.calls k (fun k_ => (w.heap.size ≤ k_)) _ _ t297 50000 50000 1 t300 _ ?side1 A7.out).mono ?_); (case side1 => exact HO299.out); rintro e w19 ⟨v301, rfl, ho0, hb⟩; refine ⟨_, rfl, ?_⟩; have n0_ := Aside0.mk (Kd.R_below (by (with_reducible repeat (first | apply Kd.R_alloc | apply Kd.R_drewN | apply Kd.R_drew)); exact HO287.out) hb); have n1_ := Aside0.mk (Kd.V_below (by (with_reducible repeat (first | apply Kd.V_alloc | apply Kd.V_drewN | apply Kd.V_drew)); exact HO290.out) hb); have n2_ := Aside0.mk (Kd.V_below (by (with_reducible repeat (first | apply Kd.V_alloc | apply Kd.V_drewN | apply Kd.V_drew)); exact HO293.out) hb); have n3_ := Aside0.mk (Kd.V_below (by (with_reducible repeat (first | apply Kd.V_alloc | apply Kd.V_drewN | apply Kd.V_drew)); exact HO296.out) hb); have n4_ := Aside0.mk (Kd.V_below (by (with_reducible repeat (first | apply Kd.V_alloc | apply Kd.V_drewN | apply Kd.V_drew)); exact HO299.out) hb); have n5_ := Aside0.mk (Kd.V_lower (Kd.V_mono (ok' := fun k_ => (w.heap.size ≤ k_)) ho0 (fun k_ hk_ => Or.elim hk_ (fun hs_ => hs_) (fun hn_ => (Nat.le_trans (below_size (by repeat (first | (with_reducible first | exact HB.out | apply below_alloc | apply pw_below_drewN | apply below_drew1) | exact HB.out))) hn_)))) (below_size (by repeat (first | (with_reducible first | exact HB.out | apply below_alloc | apply pw_below_drewN | apply below_drew1) | exact HB.out)))); have n6_ := Aside0.mk (below_step (by repeat (first | (with_reducible first | exact HB.out | apply below_alloc | apply pw_below_drewN | apply below_drew1) | exact HB.out)) hb); clear HO287; clear HO290; clear HO293; clear HO296; clear HO299; clear HB; have HO287 := n0_; have HO290 := n1_; have HO293 := n2_; have HO296 := n3_; have HO299 := n4_; have HO302 := n5_; have HB := n6_; clear n0_ n1_ n2_ n3_ n4_ n5_ n6_; (try clear hb); (try clear hb2); (try clear hk); (try clear hi); (try clear ho0)))
    go_ret2
    exact ⟨_, by first | rfl | (simp [errW_none, errW_some] <;> rfl) | (simp [*, errW_none, errW_some] <;> rfl), by (with_reducible repeat (first | apply Kd.V_alloc | apply Kd.V_drewN | apply Kd.V_drew)); exact HO302.out, by repeat (first | (with_reducible first | exact HB.out | apply below_alloc | apply pw_below_drewN | apply below_drew1) | exact HB.out)⟩
  · rw [if_neg c2] at H
    have c2b0 : (a0 == 32) = false := beq_eq_false_iff_ne.mpr c2
    have c2b1 : (a0 != 32) = true := bne_iff_ne.mpr c2
    by_cases c20 : a0 = 47
    · rw [if_pos c20] at H
      have c20b0 : (a0 == 47) = true := beq_iff_eq.mpr c20
      have c20b1 : (a0 != 47) = false := bne_eq_false_iff_eq.mpr c20
      clear c20
      obtain ⟨y303, hy303⟩ : ∃ y_ : List Int, y_ = (([1005] : List Int)) := ⟨_, rfl⟩
      replace H : ((metrolabref50_steps.f k y303 1010 1190 10).bind fun t306 => ((metrolabref50_steps.f k t306 1200 1900 100).bind fun t309 => ((metrolabref50_steps.f k t309 1000 9000 1000).bind fun t312 => ((metrolabref50_steps.f k t312 10000 100000 10000).bind fun t315 => (some (t315, 0)))))) = some (r1, r2) := by first | (rw [hy303]; with_reducible exact H) | (have H2_ := (Option.bind_some _ _).symm.trans H; rw [hy303]; with_reducible exact H2_) | (have H2_ := (Option.bind_some _ _).symm.trans H; with_reducible exact H2_) | with_reducible exact H | (rw [hy303]; exact H) | exact H
      have Ny303 := Aside0.mk hy303
      clear hy303
      replace H := Option.bind_eq_some_iff.mp H
      obtain ⟨t306, A210, H⟩ := H
      replace H : ((metrolabref50_steps.f k t306 1200 1900 100).bind fun t309 => ((metrolabref50_steps.f k t309 1000 9000 1000).bind fun t312 => ((metrolabref50_steps.f k t312 10000 100000 10000).bind fun t315 => (some (t315, 0))))) = some (r1, r2) := H
      have A21 := Aside0.mk A210
      clear A210
      replace H := Option.bind_eq_some_iff.mp H
      obtain ⟨t309, A220, H⟩ := H
      replace H : ((metrolabref50_steps.f k t309 1000 9000 1000).bind fun t312 => ((metrolabref50_steps.f k t312 10000 100000 10000).bind fun t315 => (some (t315, 0)))) = some (r1, r2) := H
      have A22 := Aside0.mk A220
      clear A220
      replace H := Option.bind_eq_some_iff.mp H
      obtain ⟨t312, A230, H⟩ := H
      replace H : ((metrolabref50_steps.f k t312 10000 100000 10000).bind fun t315 => (some (t315, 0))) = some (r1, r2) := H
      have A23 := Aside0.mk A230
      clear A230
      replace H := Option.bind_eq_some_iff.mp H
      obtain ⟨t315, A240, H⟩ := H
      replace H : (some (t315, 0)) = some (r1, r2) := H
      have A24 := Aside0.mk A240
      clear A240
      simp only [Option.some.injEq, Prod.mk.injEq] at H
      obtain ⟨rfl, rfl⟩ := H
      go_enter Try.func23, Try.ntmps23
      go_wp2_with (first | ((with_reducible refine gate_dst (N := 19) rfl ?_); (try refine wpList_unguard rfl rfl ?_); refine Kd.R_lit (Kd.int .i64) _ 3 ?hg (N := 19) ?hd (xs := ([1005] : List Int)) (inner := [.int .i64 1005]) (ok := fun _ => True) (okp := fun _ => True) ?hr ?hp (fun _ hk => hk) trivial (Below.refl _ _) (Nat.le_refl _) (by simp) ?_; (case hd => rfl); (case hg => rfl); (case hr => first | (go_simp; done) | (go_simp; rfl)); (case hp => exact (Reps.one (show Kd.M (Kd.int .i64) _ _ _ 1005 [.int .i64 1005] from rfl) (Reps.none _ _))); intro v304 w25 ho26 hb hg_ hnew_; clear hg_ hnew_; (first | rw [← Ny303.out] at ho26 | (simp only [Int.reduceToNat] at ho26; rw [← Ny303.out] at ho26)); have n0_ := Aside0.mk (Kd.R_lower (Kd.R_newM (M := fun k_ => (w.heap.size ≤ k_)) ho26 (below_size (by repeat (first | (with_reducible first | exact HB.out | apply below_alloc | apply pw_below_drewN | apply below_drew1) | exact HB.out))) (fun k_ h_ => h_)) (below_size (by repeat (first | (with_reducible first | exact HB.out | apply below_alloc | apply pw_below_drewN | apply below_drew1) | exact HB.out)))); have n1_ := Aside0.mk (below_step (by repeat (first | (with_reducible first | exact HB.out | apply below_alloc | apply pw_below_drewN | apply below_drew1) | exact HB.out)) hb); clear HB; have HO305 := n0_; have HB := n1_; clear n0_ n1_; clear hb ho26; obtain ⟨Ao27, co27, eo27⟩ := Kd.R_slice HO305.out; subst eo27) | ((with_reducible refine gate_callee (f := 52) rfl ?_); refine goesL_ (some 20) rfl rfl Try.func52 (by kernel_rfl) rfl #[.slice Ao27 y303.length co27, .int .i64 1010, .int .i64 1190, .int .i64 10] rfl (by (try simp only [List.map_toArray, List.map_cons, List.map_nil]); first | done | rfl | (simp only [List.length_drop, List.length_take]; rfl)) ?_; (with_reducible refine (metrolabref50_steps.calls k (fun k_ => some k_ = (.slice Ao27 y303.length co27 : Value).ownBlock) _ _ y303 1010 1190 10 t306 _ ?side1 A21.out).mono ?_); (case side1 => exact Kd.R_V (Kd.R_tight rfl (HO305.out))); rintro e w28 ⟨v307, rfl, ho0, hb⟩; refine ⟨_, rfl, ?_⟩; have n0_ := Aside0.mk (Kd.R_below (by (with_reducible repeat (first | apply Kd.R_alloc | apply Kd.R_drewN | apply Kd.R_drew)); exact HO305.out) hb); have n1_ := Aside0.mk (Kd.V_lower (Kd.V_mono (ok' := fun k_ => (w.heap.size ≤ k_)) ho0 (fun k_ hk_ => Or.elim hk_ (fun hs_ => ((HO305.out).1 k_ hs_.symm).1) (fun hn_ => (Nat.le_trans (below_size (by repeat (first | (with_reducible first | exact HB.out | apply below_alloc | apply pw_below_drewN | apply below_drew1) | exact HB.out))) hn_)))) (below_size (by repeat (first | (with_reducible first | exact HB.out | apply below_alloc | apply pw_below_drewN | apply below_drew1) | exact HB.out)))); have n2_ := Aside0.mk (below_step (by repeat (first | (with_reducible first | exact HB.out | apply below_alloc | apply pw_below_drewN | apply below_drew1) | exact HB.out)) hb); clear HO305; clear HB; have HO305 := n0_; have HO308 := n1_; have HB := n2_; clear n0_ n1_ n2_; (try clear hb); (try clear hb2); (try clear hk); (try clear hi); (try clear ho0); obtain ⟨Ao29, co29, eo29⟩ := Kd.V_slice HO308.out; subst eo29) | ((with_reducible refine gate_callee (f := 52) rfl ?_); refine goesL_ (some 21) rfl rfl Try.func52 (by kernel_rfl) rfl #[.slice Ao29 t306.length co29, .int .i64 1200, .int .i64 1900, .int .i64 100] rfl (by (try simp only [List.map_toArray, List.map_cons, List.map_nil]); first | done | rfl | (simp only [List.length_drop, List.length_take]; rfl)) ?_; (with_reducible refine (metrolabref50_steps.calls k (fun k_ => (w.heap.size ≤ k_)) _ _ t306 1200 1900 100 t309 _ ?side1 A22.out).mono ?_); (case side1 => exact HO308.out); rintro e w30 ⟨v310, rfl, ho0, hb⟩; refine ⟨_, rfl, ?_⟩; have n0_ := Aside0.mk (Kd.R_below (by (with_reducible repeat (first | apply Kd.R_alloc | apply Kd.R_drewN | apply Kd.R_drew)); exact HO305.out) hb); have n1_ := Aside0.mk (Kd.V_below (by (with_reducible repeat (first | apply Kd.V_alloc | apply Kd.V_drewN | apply Kd.V_drew)); exact HO308.out) hb); have n2_ := Aside0.mk (Kd.V_lower (Kd.V_mono (ok' := fun k_ => (w.heap.size ≤ k_)) ho0 (fun k_ hk_ => Or.elim hk_ (fun hs_ => hs_) (fun hn_ => (Nat.le_trans (below_size (by repeat (first | (with_reducible first | exact HB.out | apply below_alloc | apply pw_below_drewN | apply below_drew1) | exact HB.out))) hn_)))) (below_size (by repeat (first | (with_reducible first | exact HB.out | apply below_alloc | apply pw_below_drewN | apply below_drew1) | exact HB.out)))); have n3_ := Aside0.mk (below_step (by repeat (first | (with_reducible first | exact HB.out | apply below_alloc | apply pw_below_drewN | apply below_drew1) | exact HB.out)) hb); clear HO305; clear HO308; clear HB; have HO305 := n0_; have HO308 := n1_; have HO311 := n2_; have HB := n3_; clear n0_ n1_ n2_ n3_; (try clear hb); (try clear hb2); (try clear hk); (try clear hi); (try clear ho0); obtain ⟨Ao31, co31, eo31⟩ := Kd.V_slice HO311.out; subst eo31) | ((with_reducible refine gate_callee (f := 52) rfl ?_); refine goesL_ (some 23) rfl rfl Try.func52 (by kernel_rfl) rfl #[.slice Ao31 t309.length co31, .int .i64 1000, .int .i64 9000, .int .i64 1000] rfl (by (try simp only [List.map_toArray, List.map_cons, List.map_nil]); first | done | rfl | (simp only [List.length_drop, List.length_take]; rfl)) ?_; (with_reducible refine (metrolabref50_steps.calls k (fun k_ => (w.heap.size ≤ k_)) _ _ t309 1000 9000 1000 t312 _ ?side1 A23.out).mono ?_); (case side1 => exact HO311.out); rintro e w32 ⟨v313, rfl, ho0, hb⟩; refine ⟨_, rfl, ?_⟩; have n0_ := Aside0.mk (Kd.R_below (by (with_reducible repeat (first | apply Kd.R_alloc | apply Kd.R_drewN | apply Kd.R_drew)); exact HO305.out) hb); have n1_ := Aside0.mk (Kd.V_below (by (with_reducible repeat (first | apply Kd.V_alloc | apply Kd.V_drewN | apply Kd.V_drew)); exact HO308.out) hb); have n2_ := Aside0.mk (Kd.V_below (by (with_reducible repeat (first | apply Kd.V_alloc | apply Kd.V_drewN | apply Kd.V_drew)); exact HO311.out) hb); have n3_ := Aside0.mk (Kd.V_lower (Kd.V_mono (ok' := fun k_ => (w.heap.size ≤ k_)) ho0 (fun k_ hk_ => Or.elim hk_ (fun hs_ => hs_) (fun hn_ => (Nat.le_trans (below_size (by repeat (first | (with_reducible first | exact HB.out | apply below_alloc | apply pw_below_drewN | apply below_drew1) | exact HB.out))) hn_)))) (below_size (by repeat (first | (with_reducible first | exact HB.out | apply below_alloc | apply pw_below_drewN | apply below_drew1) | exact HB.out)))); have n4_ := Aside0.mk (below_step (by repeat (first | (with_reducible first | exact HB.out | apply below_alloc | apply pw_below_drewN | apply below_drew1) | exact HB.out)) hb); clear HO305; clear HO308; clear HO311; clear HB; have HO305 := n0_; have HO308 := n1_; have HO311 := n2_; have HO314 := n3_; have HB := n4_; clear n0_ n1_ n2_ n3_ n4_; (try clear hb); (try clear hb2); (try clear hk); (try clear hi); (try clear ho0); obtain ⟨Ao33, co33, eo33⟩ := Kd.V_slice HO314.out; subst eo33) | ((with_reducible refine gate_callee (f := 52) rfl ?_); refine goesL_ (some 24) rfl rfl Try.func52 (by kernel_rfl) rfl #[.slice Ao33 t312.length co33, .int .i64 10000, .int .i64 100000, .int .i64 10000] rfl (by (try simp only [List.map_toArray, List.map_cons, List.map_nil]); first | done | rfl | (simp only [List.length_drop, List.length_take]; rfl)) ?_; (with_reducible refine (metrolabref50_steps.calls k (fun k_ => (w.heap.size ≤ k_)) _ _ t312 10000 100000 10000 t315 _ ?side1 A24.out).mono ?_); (case side1 => exact HO314.out); rintro e w34 ⟨v316, rfl, ho0, hb⟩; refine ⟨_, rfl, ?_⟩; have n0_ := Aside0.mk (Kd.R_below (by (with_reducible repeat (first | apply Kd.R_alloc | apply Kd.R_drewN | apply Kd.R_drew)); exact HO305.out) hb); have n1_ := Aside0.mk (Kd.V_below (by (with_reducible repeat (first | apply Kd.V_alloc | apply Kd.V_drewN | apply Kd.V_drew)); exact HO308.out) hb); have n2_ := Aside0.mk (Kd.V_below (by (with_reducible repeat (first | apply Kd.V_alloc | apply Kd.V_drewN | apply Kd.V_drew)); exact HO311.out) hb); have n3_ := Aside0.mk (Kd.V_below (by (with_reducible repeat (first | apply Kd.V_alloc | apply Kd.V_drewN | apply Kd.V_drew)); exact HO314.out) hb); have n4_ := Aside0.mk (Kd.V_lower (Kd.V_mono (ok' := fun k_ => (w.heap.size ≤ k_)) ho0 (fun k_ hk_ => Or.elim hk_ (fun hs_ => hs_) (fun hn_ => (Nat.le_trans (below_size (by repeat (first | (with_reducible first | exact HB.out | apply below_alloc | apply pw_below_drewN | apply below_drew1) | exact HB.out))) hn_)))) (below_size (by repeat (first | (with_reducible first | exact HB.out | apply below_alloc | apply pw_below_drewN | apply below_drew1) | exact HB.out)))); have n5_ := Aside0.mk (below_step (by repeat (first | (with_reducible first | exact HB.out | apply below_alloc | apply pw_below_drewN | apply below_drew1) | exact HB.out)) hb); clear HO305; clear HO308; clear HO311; clear HO314; clear HB; have HO305 := n0_; have HO308 := n1_; have HO311 := n2_; have HO314 := n3_; have HO317 := n4_; have HB := n5_; clear n0_ n1_ n2_ n3_ n4_ n5_; (try clear hb); (try clear hb2); (try clear hk); (try clear hi); (try clear ho0)))
      go_ret2
      exact ⟨_, by first | rfl | (simp [errW_none, errW_some] <;> rfl) | (simp [*, errW_none, errW_some] <;> rfl), by (with_reducible repeat (first | apply Kd.V_alloc | apply Kd.V_drewN | apply Kd.V_drew)); exact HO317.out, by repeat (first | (with_reducible first | exact HB.out | apply below_alloc | apply pw_below_drewN | apply below_drew1) | exact HB.out)⟩
    · rw [if_neg c20] at H
      have c20b0 : (a0 == 47) = false := beq_eq_false_iff_ne.mpr c20
      have c20b1 : (a0 != 47) = true := bne_iff_ne.mpr c20
      by_cases c35 : a0 = 87
      · rw [if_pos c35] at H
        have c35b0 : (a0 == 87) = true := beq_iff_eq.mpr c35
        have c35b1 : (a0 != 87) = false := bne_eq_false_iff_eq.mpr c35
        clear c35
        replace H := Option.bind_eq_some_iff.mp H
        obtain ⟨t318, A360, H⟩ := H
        replace H : ((metrolabref50_steps.f k t318 1010 1490 10).bind fun t321 => ((metrolabref50_steps.f k t321 500 9500 500).bind fun t324 => ((metrolabref50_steps.f k t324 10000 100000 10000).bind fun t327 => (some (t327, 0))))) = some (r1, r2) := H
        have A36 := Aside0.mk A360
        clear A360
        replace H := Option.bind_eq_some_iff.mp H
        obtain ⟨t321, A370, H⟩ := H
        replace H : ((metrolabref50_steps.f k t321 500 9500 500).bind fun t324 => ((metrolabref50_steps.f k t324 10000 100000 10000).bind fun t327 => (some (t327, 0)))) = some (r1, r2) := H
        have A37 := Aside0.mk A370
        clear A370
        replace H := Option.bind_eq_some_iff.mp H
        obtain ⟨t324, A380, H⟩ := H
        replace H : ((metrolabref50_steps.f k t324 10000 100000 10000).bind fun t327 => (some (t327, 0))) = some (r1, r2) := H
        have A38 := Aside0.mk A380
        clear A380
        replace H := Option.bind_eq_some_iff.mp H
        obtain ⟨t327, A390, H⟩ := H
        replace H : (some (t327, 0)) = some (r1, r2) := H
        have A39 := Aside0.mk A390
        clear A390
        simp only [Option.some.injEq, Prod.mk.injEq] at H
        obtain ⟨rfl, rfl⟩ := H
        go_enter Try.func23, Try.ntmps23
        go_wp2_with (first | ((with_reducible refine gate_callee (f := 52) rfl ?_); refine goesL_ (some 27) rfl rfl Try.func52 (by kernel_rfl) rfl #[.slice none 0 0, .int .i64 1001, .int .i64 1009, .int .i64 1] rfl (by (try simp only [List.map_toArray, List.map_cons, List.map_nil]); first | done | rfl | (simp only [List.length_drop, List.length_take]; rfl)) ?_; (refine (metrolabref50_steps.calls k (fun k_ => False) _ _ ([] : List Int) 1001 1009 1 t318 _ ?side1 A36.out).mono ?_); (case side1 => exact Kd.V_nil _ _ _ _ _); rintro e w40 ⟨v319, rfl, ho0, hb⟩; refine ⟨_, rfl, ?_⟩; have n0_ := Aside0.mk (Kd.V_lower (Kd.V_mono (ok' := fun k_ => (w.heap.size ≤ k_)) ho0 (fun k_ hk_ => Or.elim hk_ (fun hs_ => (hs_).elim) (fun hn_ => (Nat.le_trans (below_size (by repeat (first | (with_reducible first | exact HB.out | apply below_alloc | apply pw_below_drewN | apply below_drew1) | exact HB.out))) hn_)))) (below_size (by repeat (first | (with_reducible first | exact HB.out | apply below_alloc | apply pw_below_drewN | apply below_drew1) | exact HB.out)))); have n1_ := Aside0.mk (below_step (by repeat (first | (with_reducible first | exact HB.out | apply below_alloc | apply pw_below_drewN | apply below_drew1) | exact HB.out)) hb); clear HB; have HO320 := n0_; have HB := n1_; clear n0_ n1_; (try clear hb); (try clear hb2); (try clear hk); (try clear hi); (try clear ho0); obtain ⟨Ao41, co41, eo41⟩ := Kd.V_slice HO320.out; subst eo41) | ((with_reducible refine gate_callee (f := 52) rfl ?_); refine goesL_ (some 28) rfl rfl Try.func52 (by kernel_rfl) rfl #[.slice Ao41 t318.length co41, .int .i64 1010, .int .i64 1490, .int .i64 10] rfl (by (try simp only [List.map_toArray, List.map_cons, List.map_nil]); first | done | rfl | (simp only [List.length_drop, List.length_take]; rfl)) ?_; (with_reducible refine (metrolabref50_steps.calls k (fun k_ => (w.heap.size ≤ k_)) _ _ t318 1010 1490 10 t321 _ ?side1 A37.out).mono ?_); (case side1 => exact HO320.out); rintro e w42 ⟨v322, rfl, ho0, hb⟩; refine ⟨_, rfl, ?_⟩; have n0_ := Aside0.mk (Kd.V_below (by (with_reducible repeat (first | apply Kd.V_alloc | apply Kd.V_drewN | apply Kd.V_drew)); exact HO320.out) hb); have n1_ := Aside0.mk (Kd.V_lower (Kd.V_mono (ok' := fun k_ => (w.heap.size ≤ k_)) ho0 (fun k_ hk_ => Or.elim hk_ (fun hs_ => hs_) (fun hn_ => (Nat.le_trans (below_size (by repeat (first | (with_reducible first | exact HB.out | apply below_alloc | apply pw_below_drewN | apply below_drew1) | exact HB.out))) hn_)))) (below_size (by repeat (first | (with_reducible first | exact HB.out | apply below_alloc | apply pw_below_drewN | apply below_drew1) | exact HB.out)))); have n2_ := Aside0.mk (below_step (by repeat (first | (with_reducible first | exact HB.out | apply below_alloc | apply pw_below_drewN | apply below_drew1) | exact HB.out)) hb); clear HO320; clear HB; have HO320 := n0_; have HO323 := n1_; have HB := n2_; clear n0_ n1_ n2_; (try clear hb); (try clear hb2); (try clear hk); (try clear hi); (try clear ho0); obtain ⟨Ao43, co43, eo43⟩ := Kd.V_slice HO323.out; subst eo43) | ((with_reducible refine gate_callee (f := 52) rfl ?_); refine goesL_ (some 30) rfl rfl Try.func52 (by kernel_rfl) rfl #[.slice Ao43 t321.length co43, .int .i64 500, .int .i64 9500, .int .i64 500] rfl (by (try simp only [List.map_toArray, List.map_cons, List.map_nil]); first | done | rfl | (simp only [List.length_drop, List.length_take]; rfl)) ?_; (with_reducible refine (metrolabref50_steps.calls k (fun k_ => (w.heap.size ≤ k_)) _ _ t321 500 9500 500 t324 _ ?side1 A38.out).mono ?_); (case side1 => exact HO323.out); rintro e w44 ⟨v325, rfl, ho0, hb⟩; refine ⟨_, rfl, ?_⟩; have n0_ := Aside0.mk (Kd.V_below (by (with_reducible repeat (first | apply Kd.V_alloc | apply Kd.V_drewN | apply Kd.V_drew)); exact HO320.out) hb); have n1_ := Aside0.mk (Kd.V_below (by (with_reducible repeat (first | apply Kd.V_alloc | apply Kd.V_drewN | apply Kd.V_drew)); exact HO323.out) hb); have n2_ := Aside0.mk (Kd.V_lower (Kd.V_mono (ok' := fun k_ => (w.heap.size ≤ k_)) ho0 (fun k_ hk_ => Or.elim hk_ (fun hs_ => hs_) (fun hn_ => (Nat.le_trans (below_size (by repeat (first | (with_reducible first | exact HB.out | apply below_alloc | apply pw_below_drewN | apply below_drew1) | exact HB.out))) hn_)))) (below_size (by repeat (first | (with_reducible first | exact HB.out | apply below_alloc | apply pw_below_drewN | apply below_drew1) | exact HB.out)))); have n3_ := Aside0.mk (below_step (by repeat (first | (with_reducible first | exact HB.out | apply below_alloc | apply pw_below_drewN | apply below_drew1) | exact HB.out)) hb); clear HO320; clear HO323; clear HB; have HO320 := n0_; have HO323 := n1_; have HO326 := n2_; have HB := n3_; clear n0_ n1_ n2_ n3_; (try clear hb); (try clear hb2); (try clear hk); (try clear hi); (try clear ho0); obtain ⟨Ao45, co45, eo45⟩ := Kd.V_slice HO326.out; subst eo45) | ((with_reducible refine gate_callee (f := 52) rfl ?_); refine goesL_ (some 31) rfl rfl Try.func52 (by kernel_rfl) rfl #[.slice Ao45 t324.length co45, .int .i64 10000, .int .i64 100000, .int .i64 10000] rfl (by (try simp only [List.map_toArray, List.map_cons, List.map_nil]); first | done | rfl | (simp only [List.length_drop, List.length_take]; rfl)) ?_; (with_reducible refine (metrolabref50_steps.calls k (fun k_ => (w.heap.size ≤ k_)) _ _ t324 10000 100000 10000 t327 _ ?side1 A39.out).mono ?_); (case side1 => exact HO326.out); rintro e w46 ⟨v328, rfl, ho0, hb⟩; refine ⟨_, rfl, ?_⟩; have n0_ := Aside0.mk (Kd.V_below (by (with_reducible repeat (first | apply Kd.V_alloc | apply Kd.V_drewN | apply Kd.V_drew)); exact HO320.out) hb); have n1_ := Aside0.mk (Kd.V_below (by (with_reducible repeat (first | apply Kd.V_alloc | apply Kd.V_drewN | apply Kd.V_drew)); exact HO323.out) hb); have n2_ := Aside0.mk (Kd.V_below (by (with_reducible repeat (first | apply Kd.V_alloc | apply Kd.V_drewN | apply Kd.V_drew)); exact HO326.out) hb); have n3_ := Aside0.mk (Kd.V_lower (Kd.V_mono (ok' := fun k_ => (w.heap.size ≤ k_)) ho0 (fun k_ hk_ => Or.elim hk_ (fun hs_ => hs_) (fun hn_ => (Nat.le_trans (below_size (by repeat (first | (with_reducible first | exact HB.out | apply below_alloc | apply pw_below_drewN | apply below_drew1) | exact HB.out))) hn_)))) (below_size (by repeat (first | (with_reducible first | exact HB.out | apply below_alloc | apply pw_below_drewN | apply below_drew1) | exact HB.out)))); have n4_ := Aside0.mk (below_step (by repeat (first | (with_reducible first | exact HB.out | apply below_alloc | apply pw_below_drewN | apply below_drew1) | exact HB.out)) hb); clear HO320; clear HO323; clear HO326; clear HB; have HO320 := n0_; have HO323 := n1_; have HO326 := n2_; have HO329 := n3_; have HB := n4_; clear n0_ n1_ n2_ n3_ n4_; (try clear hb); (try clear hb2); (try clear hk); (try clear hi); (try clear ho0)))
        go_ret2
        exact ⟨_, by first | rfl | (simp [errW_none, errW_some] <;> rfl) | (simp [*, errW_none, errW_some] <;> rfl), by (with_reducible repeat (first | apply Kd.V_alloc | apply Kd.V_drewN | apply Kd.V_drew)); exact HO329.out, by repeat (first | (with_reducible first | exact HB.out | apply below_alloc | apply pw_below_drewN | apply below_drew1) | exact HB.out)⟩
      · rw [if_neg c35] at H
        have c35b0 : (a0 == 87) = false := beq_eq_false_iff_ne.mpr c35
        have c35b1 : (a0 != 87) = true := bne_iff_ne.mpr c35
        simp only [Option.some.injEq, Prod.mk.injEq] at H
        obtain ⟨rfl, rfl⟩ := H
        go_enter Try.func23, Try.ntmps23
        go_wp2
        go_ret2
        exact ⟨_, by first | rfl | (simp [errW_none, errW_some] <;> rfl) | (simp [*, errW_none, errW_some] <;> rfl), Kd.R_V (by first | exact Kd.R_nil _ _ _ _ _ | exact Kd.R_nil _ _ _ 0 _ | exact Kd.N_nil _ _ _ _ _ | exact Kd.V_nil _ _ _ _ _ | exact Kd.Q_nil _ _ _ _ _ | exact Kd.S_nil _ _ _ _ _), by repeat (first | (with_reducible first | exact HB.out | apply below_alloc | apply pw_below_drewN | apply below_drew1) | exact HB.out)⟩

end Go.Proofs.Ytgkgeodphgfgnaa.Pr
-- Printed for this claim by a program of this session, over the kit's printer. Not trusted: Lean checks it.
namespace Go.Proofs.Ytgkgeodphgfgnaa.Pr
open Go.RowKit Go.Proofs.YtgkgeodphgfgnaaW.PrintWords Go.Proofs.YtgkgeodphgfgnaaW.PrintLast Go.Proofs.YtgkgeodphgfgnaaW.PrintMore
attribute [local go_sem] max2_int min2_int max_two min_two max_three min_three max_four min_four
set_option linter.unusedVariables false
set_option linter.unusedSimpArgs false

/-! ### metrolablaw50_BlocksStandard: function 6 -/
def metrolablaw50_BlocksStandard.j0 : Nat → Int → List Int → Int → Bool → Option (Bool)
  | 0, _, _, _, _ => none
  | k + 1, x1, x5, x8, x29 => if x29 = true then (some false) else (if x8 = 0 then ((blocks_Fewest.f k x5 (wrap64 (3000 + (wrap64 ((Int.tmod (wrap64 (x1)) 3400) * 5))))).bind fun bt339 => (if bt339.2 = 0 then (if (bt339.1.length : Int) ≤ 5 then ((metrolabref50_Total.f k x5 bt339.1).bind fun t343 => (if t343 = (wrap64 (3000 + (wrap64 ((Int.tmod (wrap64 (x1)) 3400) * 5)))) then ((metrolablaw50_awake.f k).bind fun t344 => (some t344)) else (some false))) else (some false)) else (some false))) else ((metrolablaw50_awake.f k).bind fun t345 => (some t345)))
def metrolablaw50_BlocksStandard.f (k : Nat) (a0 : Int) (a1 : Int) : Option (Bool) := (blocks_Standard.f a0).bind fun bt330 => ((metrolabref50_Standard.f k a0).bind fun bt334 => ((slices_Equal_int_int.f k bt330.1 bt334.1).bind fun t338 => (if t338 = true then (metrolablaw50_BlocksStandard.j0 k a1 bt330.1 bt334.2 (bt330.2 != bt334.2)) else (metrolablaw50_BlocksStandard.j0 k a1 bt330.1 bt334.2 true))))
theorem metrolablaw50_BlocksStandard.mono_l : ∀ k, (∀ y0 y1 y2 y3, LeO (metrolablaw50_BlocksStandard.j0 k y0 y1 y2 y3) (metrolablaw50_BlocksStandard.j0 (k + 1) y0 y1 y2 y3))
  | 0 => fun _ _ _ _ r h => by simp [metrolablaw50_BlocksStandard.j0] at h
  | k + 1 => by
    have ih0 := metrolablaw50_BlocksStandard.mono_l k
    · intro y0 y1 y2 y3
      unfold metrolablaw50_BlocksStandard.j0
      repeat' first
      | (with_reducible exact ih0 _ _ _ _)
      | (with_reducible exact blocks_Fewest.mono _ _ _)
      | (with_reducible exact metrolablaw50_awake.mono _)
      | (with_reducible exact metrolabref50_Standard.mono _ _)
      | (with_reducible exact metrolabref50_Total.mono _ _ _)
      | (with_reducible exact slices_Equal_int_int.mono _ _ _)
      | (with_reducible exact LeO.refl _)
      | (with_reducible exact LeO.none _)
      | (with_reducible refine LeO.ite ?_ ?_)
      | (with_reducible refine LeO.bind ?_ (fun _ => ?_))
      | exact ih0 _ _ _ _
      | exact blocks_Fewest.mono _ _ _
      | exact metrolablaw50_awake.mono _
      | exact metrolabref50_Standard.mono _ _
      | exact metrolabref50_Total.mono _ _ _
      | exact slices_Equal_int_int.mono _ _ _
      | exact LeO.none _
      | refine LeO.ite ?_ ?_
      | refine LeO.bind ?_ (fun _ => ?_)
theorem metrolablaw50_BlocksStandard.mono : ∀ a0 a1 k, LeO (metrolablaw50_BlocksStandard.f k a0 a1) (metrolablaw50_BlocksStandard.f (k + 1) a0 a1) := by
  intro a0 a1 k
  have ih0 := metrolablaw50_BlocksStandard.mono_l k
  unfold metrolablaw50_BlocksStandard.f
  repeat' first
      | (with_reducible exact ih0 _ _ _ _)
      | (with_reducible exact blocks_Fewest.mono _ _ _)
      | (with_reducible exact metrolablaw50_awake.mono _)
      | (with_reducible exact metrolabref50_Standard.mono _ _)
      | (with_reducible exact metrolabref50_Total.mono _ _ _)
      | (with_reducible exact slices_Equal_int_int.mono _ _ _)
      | (with_reducible exact LeO.refl _)
      | (with_reducible exact LeO.none _)
      | (with_reducible refine LeO.ite ?_ ?_)
      | (with_reducible refine LeO.bind ?_ (fun _ => ?_))
      | exact ih0 _ _ _ _
      | exact blocks_Fewest.mono _ _ _
      | exact metrolablaw50_awake.mono _
      | exact metrolabref50_Standard.mono _ _
      | exact metrolabref50_Total.mono _ _ _
      | exact slices_Equal_int_int.mono _ _ _
      | exact LeO.none _
      | refine LeO.ite ?_ ?_
      | refine LeO.bind ?_ (fun _ => ?_)
set_option maxHeartbeats 8000000 in
set_option maxRecDepth 100000 in
theorem metrolablaw50_BlocksStandard.calls (k : Nat) (a0 : Int) (a1 : Int) (r : Bool) (w : World) (h : metrolablaw50_BlocksStandard.f k a0 a1 = some r) :
    Calls Try.prog 6 #[.int .i64 a0, .int .u16 a1] w fun e w' => e = .returned (.bool r) ∧ Below w.heap.size w w' := by
  have HB := Aside0.mk (Below.refl w.heap.size w)
  have H : ((blocks_Standard.f a0).bind fun bt330 => ((metrolabref50_Standard.f k a0).bind fun bt334 => ((slices_Equal_int_int.f k bt330.1 bt334.1).bind fun t338 => (if t338 = true then (metrolablaw50_BlocksStandard.j0 k a1 bt330.1 bt334.2 (bt330.2 != bt334.2)) else (metrolablaw50_BlocksStandard.j0 k a1 bt330.1 bt334.2 true))))) = some r := h
  clear h
  replace H := Option.bind_eq_some_iff.mp H
  obtain ⟨⟨t330, t331⟩, A30, H⟩ := H
  replace H : ((metrolabref50_Standard.f k a0).bind fun bt334 => ((slices_Equal_int_int.f k t330 bt334.1).bind fun t338 => (if t338 = true then (metrolablaw50_BlocksStandard.j0 k a1 t330 bt334.2 (t331 != bt334.2)) else (metrolablaw50_BlocksStandard.j0 k a1 t330 bt334.2 true)))) = some r := H
  have A3 := Aside0.mk A30
  clear A30
  replace H := Option.bind_eq_some_iff.mp H
  obtain ⟨⟨t334, t337⟩, A40, H⟩ := H
  replace H : ((slices_Equal_int_int.f k t330 t334).bind fun t338 => (if t338 = true then (metrolablaw50_BlocksStandard.j0 k a1 t330 t337 (t331 != t337)) else (metrolablaw50_BlocksStandard.j0 k a1 t330 t337 true))) = some r := H
  have A4 := Aside0.mk A40
  clear A40
  have HC5 := Aside0.mk H
  clear H
  go_enter Try.func6, Try.ntmps6
  go_upto_region 3 with (first | ((with_reducible refine gate_callee (f := 22) rfl ?_); refine goesL_ (some 13) rfl rfl Try.func22 (by kernel_rfl) rfl #[.int .i64 a0] rfl (by (try simp only [List.map_toArray, List.map_cons, List.map_nil]); first | done | rfl | (simp only [List.length_drop, List.length_take]; rfl)) ?_; (with_reducible refine (blocks_Standard.calls a0 t330 t331 _ A3.out).mono ?_); rintro e w6 ⟨v332, rfl, ho0, hb⟩; refine ⟨_, rfl, ?_⟩; have n0_ := Aside0.mk (Kd.R_lower ho0 (below_size (by repeat (first | (with_reducible first | exact HB.out | apply below_alloc | apply pw_below_drewN | apply below_drew1) | exact HB.out)))); have n1_ := Aside0.mk (below_step (by repeat (first | (with_reducible first | exact HB.out | apply below_alloc | apply pw_below_drewN | apply below_drew1) | exact HB.out)) hb); clear HB; have HO333 := n0_; have HB := n1_; clear n0_ n1_; (try clear hb); (try clear hb2); (try clear hk); (try clear hi); (try clear ho0)) | ((with_reducible refine gate_callee (f := 23) rfl ?_); refine goesL_ (some 18) rfl rfl Try.func23 (by kernel_rfl) rfl #[.int .i64 a0] rfl (by (try simp only [List.map_toArray, List.map_cons, List.map_nil]); first | done | rfl | (simp only [List.length_drop, List.length_take]; rfl)) ?_; (with_reducible refine (metrolabref50_Standard.calls k a0 t334 t337 _ A4.out).mono ?_); rintro e w7 ⟨v335, rfl, ho0, hb⟩; refine ⟨_, rfl, ?_⟩; have n0_ := Aside0.mk (Kd.R_below (by (with_reducible repeat (first | apply Kd.R_alloc | apply Kd.R_drewN | apply Kd.R_drew)); exact HO333.out) hb); have n1_ := Aside0.mk (Kd.V_lower (Kd.V_mono (ok' := fun k_ => some k_ ≠ (v332 : Value).ownBlock) ho0 (fun k_ hk_ => (Kd.fresh' (Kd.R_lt (by (with_reducible repeat (first | apply Kd.R_alloc | apply Kd.R_drewN | apply Kd.R_drew)); exact HO333.out)) k_ hk_))) (below_size (by repeat (first | (with_reducible first | exact HB.out | apply below_alloc | apply pw_below_drewN | apply below_drew1) | exact HB.out)))); have n2_ := Aside0.mk (below_step (by repeat (first | (with_reducible first | exact HB.out | apply below_alloc | apply pw_below_drewN | apply below_drew1) | exact HB.out)) hb); clear HO333; clear HB; have HO333 := n0_; have HO336 := n1_; have HB := n2_; clear n0_ n1_ n2_; (try clear hb); (try clear hb2); (try clear hk); (try clear hi); (try clear ho0)))
  (try simp only [Act.put, List.setIfInBounds_toArray, List.set_cons_zero, List.set_cons_succ])
  go_cut [29] (fun v29 wc => ∃ (kq : Nat) (x29_4 : Bool), v29 = .bool x29_4 ∧ Aside0 (metrolablaw50_BlocksStandard.j0 kq a1 t330 t337 x29_4 = some r) ∧ Aside0 (kq ≤ k) ∧ Aside0 (Kd.R (Kd.int .i64) 3 wc w.heap.size (fun _ => True) v332 t330) ∧ Aside0 (Below w.heap.size w wc))
  case first =>
    have H := HC5.out
    clear HC5
    replace H := Option.bind_eq_some_iff.mp H
    obtain ⟨t338, A80, H⟩ := H
    replace H : (if t338 = true then (metrolablaw50_BlocksStandard.j0 k a1 t330 t337 (t331 != t337)) else (metrolablaw50_BlocksStandard.j0 k a1 t330 t337 true)) = some r := H
    have A8 := Aside0.mk A80
    clear A80
    by_cases c9 : t338 = true
    · subst c9
      have H1 : (metrolablaw50_BlocksStandard.j0 k a1 t330 t337 (t331 != t337)) = some r := by rw [if_pos rfl] at H; exact H
      clear H
      have H := H1
      clear H1
      have H' := Aside0.mk H
      clear H
      obtain ⟨Ao10, co10, eo10⟩ := Kd.R_slice HO333.out
      subst eo10
      obtain ⟨Ao11, co11, eo11⟩ := Kd.V_slice HO336.out
      subst eo11
      go_wp2_with (first | ((with_reducible refine gate_callee (f := 15) rfl ?_); refine goesL_ (some 23) rfl rfl Try.func15 (by kernel_rfl) rfl #[.slice Ao10 t330.length co10, .slice Ao11 t334.length co11] rfl (by (try simp only [List.map_toArray, List.map_cons, List.map_nil]); first | done | rfl | (simp only [List.length_drop, List.length_take]; rfl)) ?_; (with_reducible refine (slices_Equal_int_int.calls k _ _ t330 _ _ t334 true _ ?side1 ?side2 ?side3 ?side4 A8.out).mono ?_); (case side1 => repeat (first | exact (Kd.R_reads' HO333.out).2.2 | (with_reducible refine Kd.C_alloc ?_ _) | (with_reducible refine Kd.C_drewN ?_ _) | (with_reducible refine Kd.C_drew ?_))); (case side2 => exact (Kd.R_reads' HO333.out).2.1); (case side3 => repeat (first | exact (Kd.V_reads' HO336.out).2.2 | (with_reducible refine Kd.C_alloc ?_ _) | (with_reducible refine Kd.C_drewN ?_ _) | (with_reducible refine Kd.C_drew ?_))); (case side4 => exact (Kd.V_reads' HO336.out).2.1); rintro e w' ⟨rfl, ⟨nd, rfl⟩⟩; refine ⟨_, rfl, ?_⟩))
      go_meet
      case rel => exact ⟨_, ((t331 != t337)), (by first | rfl | (simp; done) | (simp [*]; done)), H', ⟨by first | omega | exact Nat.le_refl _⟩, ⟨by (with_reducible repeat (first | apply Kd.R_alloc | apply Kd.R_drewN | apply Kd.R_drew)); exact HO333.out⟩, ⟨by repeat (first | (with_reducible first | exact HB.out | apply below_alloc | apply pw_below_drewN | apply below_drew1) | exact HB.out)⟩⟩
    · replace c9 := Bool.eq_false_iff.mpr c9
      subst c9
      have H1 : (metrolablaw50_BlocksStandard.j0 k a1 t330 t337 true) = some r := by rw [if_neg (show ¬ (false = true) by decide)] at H; exact H
      clear H
      have H := H1
      clear H1
      have H' := Aside0.mk H
      clear H
      obtain ⟨Ao12, co12, eo12⟩ := Kd.R_slice HO333.out
      subst eo12
      obtain ⟨Ao13, co13, eo13⟩ := Kd.V_slice HO336.out
      subst eo13
      go_wp2_with (first | ((with_reducible refine gate_callee (f := 15) rfl ?_); refine goesL_ (some 23) rfl rfl Try.func15 (by kernel_rfl) rfl #[.slice Ao12 t330.length co12, .slice Ao13 t334.length co13] rfl (by (try simp only [List.map_toArray, List.map_cons, List.map_nil]); first | done | rfl | (simp only [List.length_drop, List.length_take]; rfl)) ?_; (with_reducible refine (slices_Equal_int_int.calls k _ _ t330 _ _ t334 false _ ?side1 ?side2 ?side3 ?side4 A8.out).mono ?_); (case side1 => repeat (first | exact (Kd.R_reads' HO333.out).2.2 | (with_reducible refine Kd.C_alloc ?_ _) | (with_reducible refine Kd.C_drewN ?_ _) | (with_reducible refine Kd.C_drew ?_))); (case side2 => exact (Kd.R_reads' HO333.out).2.1); (case side3 => repeat (first | exact (Kd.V_reads' HO336.out).2.2 | (with_reducible refine Kd.C_alloc ?_ _) | (with_reducible refine Kd.C_drewN ?_ _) | (with_reducible refine Kd.C_drew ?_))); (case side4 => exact (Kd.V_reads' HO336.out).2.1); rintro e w' ⟨rfl, ⟨nd, rfl⟩⟩; refine ⟨_, rfl, ?_⟩))
      go_meet
      case rel => exact ⟨_, (true), (by first | rfl | (simp; done) | (simp [*]; done)), H', ⟨by first | omega | exact Nat.le_refl _⟩, ⟨by (with_reducible repeat (first | apply Kd.R_alloc | apply Kd.R_drewN | apply Kd.R_drew)); exact HO333.out⟩, ⟨by repeat (first | (with_reducible first | exact HB.out | apply below_alloc | apply pw_below_drewN | apply below_drew1) | exact HB.out)⟩⟩
  case rest =>
    clear HC5
    try clear c1
    try clear c2
    try clear p2
    try clear c6
    try clear c9
    obtain ⟨kq, x29_4, rfl, HA, HJ4, HO_5, HB⟩ := hcut
    cases kq with
    | zero => exact absurd HA.out (by simp [metrolablaw50_BlocksStandard.j0])
    | succ kj4 =>
      have H := HA.out
      clear HA
      simp only [metrolablaw50_BlocksStandard.j0] at H
      by_cases c14 : x29_4 = true
      · subst c14
        have H1 : (some false) = some r := by rw [if_pos rfl] at H; exact H
        clear H
        have H := H1
        clear H1
        obtain rfl := Option.some.inj H
        go_wp2
        go_ret
        exact ⟨by first | rfl | (simp [errW_none, errW_some] <;> rfl) | (simp [*, errW_none, errW_some] <;> rfl), by repeat (first | (with_reducible first | exact HB.out | apply below_alloc | apply pw_below_drewN | apply below_drew1) | exact HB.out)⟩
      · replace c14 := Bool.eq_false_iff.mpr c14
        subst c14
        have H1 : (if t337 = 0 then ((blocks_Fewest.f kj4 t330 (wrap64 (3000 + (wrap64 ((Int.tmod (wrap64 (a1)) 3400) * 5))))).bind fun bt339 => (if bt339.2 = 0 then (if (bt339.1.length : Int) ≤ 5 then ((metrolabref50_Total.f kj4 t330 bt339.1).bind fun t343 => (if t343 = (wrap64 (3000 + (wrap64 ((Int.tmod (wrap64 (a1)) 3400) * 5)))) then ((metrolablaw50_awake.f kj4).bind fun t344 => (some t344)) else (some false))) else (some false)) else (some false))) else ((metrolablaw50_awake.f kj4).bind fun t345 => (some t345))) = some r := by rw [if_neg (show ¬ (false = true) by decide)] at H; exact H
        clear H
        have H := H1
        clear H1
        by_cases c15 : t337 = 0
        · rw [if_pos c15] at H
          have c15b0 : (t337 == 0) = true := beq_iff_eq.mpr c15
          have c15b1 : (t337 != 0) = false := bne_eq_false_iff_eq.mpr c15
          clear c15
          replace H := Option.bind_eq_some_iff.mp H
          obtain ⟨⟨t339, t340⟩, A160, H⟩ := H
          replace H : (if t340 = 0 then (if (t339.length : Int) ≤ 5 then ((metrolabref50_Total.f kj4 t330 t339).bind fun t343 => (if t343 = (wrap64 (3000 + (wrap64 ((Int.tmod (wrap64 (a1)) 3400) * 5)))) then ((metrolablaw50_awake.f kj4).bind fun t344 => (some t344)) else (some false))) else (some false)) else (some false)) = some r := H
          have A16 := Aside0.mk A160
          clear A160
          by_cases c17 : t340 = 0
          · rw [if_pos c17] at H
            have c17b0 : (t340 == 0) = true := beq_iff_eq.mpr c17
            have c17b1 : (t340 != 0) = false := bne_eq_false_iff_eq.mpr c17
            clear c17
            by_cases c18 : (t339.length : Int) ≤ 5
            · rw [if_pos c18] at H
              have c18b0 : decide ((t339.length : Int) ≤ 5) = true := decide_eq_true c18
              have c18b1 : decide (t339.length ≤ 5) = true := decide_eq_true (by omega)
              clear c18
              replace H := Option.bind_eq_some_iff.mp H
              obtain ⟨t343, A190, H⟩ := H
              replace H : (if t343 = (wrap64 (3000 + (wrap64 ((Int.tmod (wrap64 (a1)) 3400) * 5)))) then ((metrolablaw50_awake.f kj4).bind fun t344 => (some t344)) else (some false)) = some r := H
              have A19 := Aside0.mk A190
              clear A190
              by_cases c20 : t343 = (wrap64 (3000 + (wrap64 ((Int.tmod (wrap64 (a1)) 3400) * 5))))
              · rw [if_pos c20] at H
                have c20b0 : (t343 == (wrap64 (3000 + (wrap64 ((Int.tmod (wrap64 (a1)) 3400) * 5))))) = true := beq_iff_eq.mpr c20
                have c20b1 : (t343 != (wrap64 (3000 + (wrap64 ((Int.tmod (wrap64 (a1)) 3400) * 5))))) = false := bne_eq_false_iff_eq.mpr c20
                clear c20
                replace H := Option.bind_eq_some_iff.mp H
                obtain ⟨t344, A210, H⟩ := H
                replace H : (some t344) = some r := H
                have A21 := Aside0.mk A210
                clear A210
                obtain rfl := Option.some.inj H
                obtain ⟨Ao22, co22, eo22⟩ := Kd.R_slice HO_5.out
                subst eo22
                go_wp2_with (first | ((with_reducible refine gate_callee (f := 13) rfl ?_); refine goesL_ (some 41) rfl rfl Try.func13 (by kernel_rfl) rfl #[.slice Ao22 t330.length co22, .int .i64 (wrap64 (3000 + (wrap64 ((Int.tmod (wrap64 (a1)) 3400) * 5))))] rfl (by (try simp only [List.map_toArray, List.map_cons, List.map_nil]); first | done | rfl | (simp only [List.length_drop, List.length_take]; rfl)) ?_; (with_reducible refine (blocks_Fewest.calls kj4 _ _ t330 (wrap64 (3000 + (wrap64 ((Int.tmod (wrap64 (a1)) 3400) * 5)))) t339 t340 _ ?side1 ?side2 A16.out).mono ?_); (case side1 => repeat (first | exact (Kd.R_reads' HO_5.out).2.2 | (with_reducible refine Kd.C_alloc ?_ _) | (with_reducible refine Kd.C_drewN ?_ _) | (with_reducible refine Kd.C_drew ?_))); (case side2 => exact (Kd.R_reads' HO_5.out).2.1); rintro e w23 ⟨v341, rfl, ho0, hb⟩; refine ⟨_, rfl, ?_⟩; have n0_ := Aside0.mk (Kd.R_elder' (by (with_reducible repeat (first | apply Kd.R_alloc | apply Kd.R_drewN | apply Kd.R_drew)); exact HO_5.out) (Kd.R_base ho0) hb); have n1_ := Aside0.mk (Kd.R_lower (Kd.R_new' ho0 (Kd.R_lt (by (with_reducible repeat (first | apply Kd.R_alloc | apply Kd.R_drewN | apply Kd.R_drew)); exact HO_5.out))) (below_size (by repeat (first | (with_reducible first | exact HB.out | apply below_alloc | apply pw_below_drewN | apply below_drew1) | exact HB.out)))); have n2_ := Aside0.mk (below_step (by repeat (first | (with_reducible first | exact HB.out | apply below_alloc | apply pw_below_drewN | apply below_drew1) | exact HB.out)) hb); clear HO_5; clear HB; have HO_5 := n0_; have HO342 := n1_; have HB := n2_; clear n0_ n1_ n2_; (try clear hb); (try clear hb2); (try clear hk); (try clear hi); (try clear ho0); obtain ⟨Ao24, co24, eo24⟩ := Kd.R_slice HO342.out; subst eo24) | (go_at_call 24; (with_reducible refine (metrolabref50_Total.calls kj4 _ _ t330 _ _ t339 t343 _ ?side1 ?side2 ?side3 ?side4 A19.out).mono ?_); (case side1 => repeat (first | exact (Kd.R_reads' HO_5.out).2.2 | (with_reducible refine Kd.C_alloc ?_ _) | (with_reducible refine Kd.C_drewN ?_ _) | (with_reducible refine Kd.C_drew ?_))); (case side2 => exact (Kd.R_reads' HO_5.out).2.1); (case side3 => repeat (first | exact (Kd.R_reads' HO342.out).2.2 | (with_reducible refine Kd.C_alloc ?_ _) | (with_reducible refine Kd.C_drewN ?_ _) | (with_reducible refine Kd.C_drew ?_))); (case side4 => exact (Kd.R_reads' HO342.out).2.1); rintro e w' ⟨rfl, ⟨nd, rfl⟩⟩) | (go_at_call 12; (with_reducible refine (metrolablaw50_awake.calls kj4  t344 _ A21.out).mono ?_); rintro e w25 ⟨rfl, hb⟩; have n0_ := Aside0.mk (Kd.R_below (by (with_reducible repeat (first | apply Kd.R_alloc | apply Kd.R_drewN | apply Kd.R_drew)); exact HO_5.out) hb); have n1_ := Aside0.mk (Kd.R_below (by (with_reducible repeat (first | apply Kd.R_alloc | apply Kd.R_drewN | apply Kd.R_drew)); exact HO342.out) hb); have n2_ := Aside0.mk (below_step (by repeat (first | (with_reducible first | exact HB.out | apply below_alloc | apply pw_below_drewN | apply below_drew1) | exact HB.out)) hb); clear HO_5; clear HO342; clear HB; have HO_5 := n0_; have HO342 := n1_; have HB := n2_; clear n0_ n1_ n2_; (try clear hb); (try clear hb2); (try clear hk); (try clear hi)))
                go_ret
                exact ⟨by first | rfl | (simp [errW_none, errW_some] <;> rfl) | (simp [*, errW_none, errW_some] <;> rfl), by repeat (first | (with_reducible first | exact HB.out | apply below_alloc | apply pw_below_drewN | apply below_drew1) | exact HB.out)⟩
              · rw [if_neg c20] at H
                have c20b0 : (t343 == (wrap64 (3000 + (wrap64 ((Int.tmod (wrap64 (a1)) 3400) * 5))))) = false := beq_eq_false_iff_ne.mpr c20
                have c20b1 : (t343 != (wrap64 (3000 + (wrap64 ((Int.tmod (wrap64 (a1)) 3400) * 5))))) = true := bne_iff_ne.mpr c20
                obtain rfl := Option.some.inj H
                obtain ⟨Ao26, co26, eo26⟩ := Kd.R_slice HO_5.out
                subst eo26
                go_wp2_with (first | ((with_reducible refine gate_callee (f := 13) rfl ?_); refine goesL_ (some 41) rfl rfl Try.func13 (by kernel_rfl) rfl #[.slice Ao26 t330.length co26, .int .i64 (wrap64 (3000 + (wrap64 ((Int.tmod (wrap64 (a1)) 3400) * 5))))] rfl (by (try simp only [List.map_toArray, List.map_cons, List.map_nil]); first | done | rfl | (simp only [List.length_drop, List.length_take]; rfl)) ?_; (with_reducible refine (blocks_Fewest.calls kj4 _ _ t330 (wrap64 (3000 + (wrap64 ((Int.tmod (wrap64 (a1)) 3400) * 5)))) t339 t340 _ ?side1 ?side2 A16.out).mono ?_); (case side1 => repeat (first | exact (Kd.R_reads' HO_5.out).2.2 | (with_reducible refine Kd.C_alloc ?_ _) | (with_reducible refine Kd.C_drewN ?_ _) | (with_reducible refine Kd.C_drew ?_))); (case side2 => exact (Kd.R_reads' HO_5.out).2.1); rintro e w27 ⟨v341, rfl, ho0, hb⟩; refine ⟨_, rfl, ?_⟩; have n0_ := Aside0.mk (Kd.R_elder' (by (with_reducible repeat (first | apply Kd.R_alloc | apply Kd.R_drewN | apply Kd.R_drew)); exact HO_5.out) (Kd.R_base ho0) hb); have n1_ := Aside0.mk (Kd.R_lower (Kd.R_new' ho0 (Kd.R_lt (by (with_reducible repeat (first | apply Kd.R_alloc | apply Kd.R_drewN | apply Kd.R_drew)); exact HO_5.out))) (below_size (by repeat (first | (with_reducible first | exact HB.out | apply below_alloc | apply pw_below_drewN | apply below_drew1) | exact HB.out)))); have n2_ := Aside0.mk (below_step (by repeat (first | (with_reducible first | exact HB.out | apply below_alloc | apply pw_below_drewN | apply below_drew1) | exact HB.out)) hb); clear HO_5; clear HB; have HO_5 := n0_; have HO342 := n1_; have HB := n2_; clear n0_ n1_ n2_; (try clear hb); (try clear hb2); (try clear hk); (try clear hi); (try clear ho0); obtain ⟨Ao28, co28, eo28⟩ := Kd.R_slice HO342.out; subst eo28) | (go_at_call 24; (with_reducible refine (metrolabref50_Total.calls kj4 _ _ t330 _ _ t339 t343 _ ?side1 ?side2 ?side3 ?side4 A19.out).mono ?_); (case side1 => repeat (first | exact (Kd.R_reads' HO_5.out).2.2 | (with_reducible refine Kd.C_alloc ?_ _) | (with_reducible refine Kd.C_drewN ?_ _) | (with_reducible refine Kd.C_drew ?_))); (case side2 => exact (Kd.R_reads' HO_5.out).2.1); (case side3 => repeat (first | exact (Kd.R_reads' HO342.out).2.2 | (with_reducible refine Kd.C_alloc ?_ _) | (with_reducible refine Kd.C_drewN ?_ _) | (with_reducible refine Kd.C_drew ?_))); (case side4 => exact (Kd.R_reads' HO342.out).2.1); rintro e w' ⟨rfl, ⟨nd, rfl⟩⟩))
                go_ret
                exact ⟨by first | rfl | (simp [errW_none, errW_some] <;> rfl) | (simp [*, errW_none, errW_some] <;> rfl), by repeat (first | (with_reducible first | exact HB.out | apply below_alloc | apply pw_below_drewN | apply below_drew1) | exact HB.out)⟩
            · rw [if_neg c18] at H
              have c18b0 : decide ((t339.length : Int) ≤ 5) = false := decide_eq_false c18
              have c18b1 : decide (t339.length ≤ 5) = false := decide_eq_false (by omega)
              clear c18
              obtain rfl := Option.some.inj H
              obtain ⟨Ao29, co29, eo29⟩ := Kd.R_slice HO_5.out
              subst eo29
              go_wp2_with (first | ((with_reducible refine gate_callee (f := 13) rfl ?_); refine goesL_ (some 41) rfl rfl Try.func13 (by kernel_rfl) rfl #[.slice Ao29 t330.length co29, .int .i64 (wrap64 (3000 + (wrap64 ((Int.tmod (wrap64 (a1)) 3400) * 5))))] rfl (by (try simp only [List.map_toArray, List.map_cons, List.map_nil]); first | done | rfl | (simp only [List.length_drop, List.length_take]; rfl)) ?_; (with_reducible refine (blocks_Fewest.calls kj4 _ _ t330 (wrap64 (3000 + (wrap64 ((Int.tmod (wrap64 (a1)) 3400) * 5)))) t339 t340 _ ?side1 ?side2 A16.out).mono ?_); (case side1 => repeat (first | exact (Kd.R_reads' HO_5.out).2.2 | (with_reducible refine Kd.C_alloc ?_ _) | (with_reducible refine Kd.C_drewN ?_ _) | (with_reducible refine Kd.C_drew ?_))); (case side2 => exact (Kd.R_reads' HO_5.out).2.1); rintro e w30 ⟨v341, rfl, ho0, hb⟩; refine ⟨_, rfl, ?_⟩; have n0_ := Aside0.mk (Kd.R_elder' (by (with_reducible repeat (first | apply Kd.R_alloc | apply Kd.R_drewN | apply Kd.R_drew)); exact HO_5.out) (Kd.R_base ho0) hb); have n1_ := Aside0.mk (Kd.R_lower (Kd.R_new' ho0 (Kd.R_lt (by (with_reducible repeat (first | apply Kd.R_alloc | apply Kd.R_drewN | apply Kd.R_drew)); exact HO_5.out))) (below_size (by repeat (first | (with_reducible first | exact HB.out | apply below_alloc | apply pw_below_drewN | apply below_drew1) | exact HB.out)))); have n2_ := Aside0.mk (below_step (by repeat (first | (with_reducible first | exact HB.out | apply below_alloc | apply pw_below_drewN | apply below_drew1) | exact HB.out)) hb); clear HO_5; clear HB; have HO_5 := n0_; have HO342 := n1_; have HB := n2_; clear n0_ n1_ n2_; (try clear hb); (try clear hb2); (try clear hk); (try clear hi); (try clear ho0); obtain ⟨Ao31, co31, eo31⟩ := Kd.R_slice HO342.out; subst eo31))
              go_ret
              exact ⟨by first | rfl | (simp [errW_none, errW_some] <;> rfl) | (simp [*, errW_none, errW_some] <;> rfl), by repeat (first | (with_reducible first | exact HB.out | apply below_alloc | apply pw_below_drewN | apply below_drew1) | exact HB.out)⟩
          · rw [if_neg c17] at H
            have c17b0 : (t340 == 0) = false := beq_eq_false_iff_ne.mpr c17
            have c17b1 : (t340 != 0) = true := bne_iff_ne.mpr c17
            obtain rfl := Option.some.inj H
            obtain ⟨Ao32, co32, eo32⟩ := Kd.R_slice HO_5.out
            subst eo32
            go_wp2_with (first | ((with_reducible refine gate_callee (f := 13) rfl ?_); refine goesL_ (some 41) rfl rfl Try.func13 (by kernel_rfl) rfl #[.slice Ao32 t330.length co32, .int .i64 (wrap64 (3000 + (wrap64 ((Int.tmod (wrap64 (a1)) 3400) * 5))))] rfl (by (try simp only [List.map_toArray, List.map_cons, List.map_nil]); first | done | rfl | (simp only [List.length_drop, List.length_take]; rfl)) ?_; (with_reducible refine (blocks_Fewest.calls kj4 _ _ t330 (wrap64 (3000 + (wrap64 ((Int.tmod (wrap64 (a1)) 3400) * 5)))) t339 t340 _ ?side1 ?side2 A16.out).mono ?_); (case side1 => repeat (first | exact (Kd.R_reads' HO_5.out).2.2 | (with_reducible refine Kd.C_alloc ?_ _) | (with_reducible refine Kd.C_drewN ?_ _) | (with_reducible refine Kd.C_drew ?_))); (case side2 => exact (Kd.R_reads' HO_5.out).2.1); rintro e w33 ⟨v341, rfl, ho0, hb⟩; refine ⟨_, rfl, ?_⟩; have n0_ := Aside0.mk (Kd.R_elder' (by (with_reducible repeat (first | apply Kd.R_alloc | apply Kd.R_drewN | apply Kd.R_drew)); exact HO_5.out) (Kd.R_base ho0) hb); have n1_ := Aside0.mk (Kd.R_lower (Kd.R_new' ho0 (Kd.R_lt (by (with_reducible repeat (first | apply Kd.R_alloc | apply Kd.R_drewN | apply Kd.R_drew)); exact HO_5.out))) (below_size (by repeat (first | (with_reducible first | exact HB.out | apply below_alloc | apply pw_below_drewN | apply below_drew1) | exact HB.out)))); have n2_ := Aside0.mk (below_step (by repeat (first | (with_reducible first | exact HB.out | apply below_alloc | apply pw_below_drewN | apply below_drew1) | exact HB.out)) hb); clear HO_5; clear HB; have HO_5 := n0_; have HO342 := n1_; have HB := n2_; clear n0_ n1_ n2_; (try clear hb); (try clear hb2); (try clear hk); (try clear hi); (try clear ho0)))
            go_ret
            exact ⟨by first | rfl | (simp [errW_none, errW_some] <;> rfl) | (simp [*, errW_none, errW_some] <;> rfl), by repeat (first | (with_reducible first | exact HB.out | apply below_alloc | apply pw_below_drewN | apply below_drew1) | exact HB.out)⟩
        · rw [if_neg c15] at H
          have c15b0 : (t337 == 0) = false := beq_eq_false_iff_ne.mpr c15
          have c15b1 : (t337 != 0) = true := bne_iff_ne.mpr c15
          replace H := Option.bind_eq_some_iff.mp H
          obtain ⟨t345, A340, H⟩ := H
          replace H : (some t345) = some r := H
          have A34 := Aside0.mk A340
          clear A340
          obtain rfl := Option.some.inj H
          go_wp2_with (first | ((with_reducible refine gate_callee (f := 12) rfl ?_); refine goesL_ (some 32) rfl rfl Try.func12 (by kernel_rfl) rfl #[] rfl (by (try simp only [List.map_toArray, List.map_cons, List.map_nil]); first | done | rfl | (simp only [List.length_drop, List.length_take]; rfl)) ?_; (with_reducible refine (metrolablaw50_awake.calls kj4  t345 _ A34.out).mono ?_); rintro e w35 ⟨rfl, hb⟩; refine ⟨_, rfl, ?_⟩; have n0_ := Aside0.mk (Kd.R_below (by (with_reducible repeat (first | apply Kd.R_alloc | apply Kd.R_drewN | apply Kd.R_drew)); exact HO_5.out) hb); have n1_ := Aside0.mk (below_step (by repeat (first | (with_reducible first | exact HB.out | apply below_alloc | apply pw_below_drewN | apply below_drew1) | exact HB.out)) hb); clear HO_5; clear HB; have HO_5 := n0_; have HB := n1_; clear n0_ n1_; (try clear hb); (try clear hb2); (try clear hk); (try clear hi)))
          go_ret
          exact ⟨by first | rfl | (simp [errW_none, errW_some] <;> rfl) | (simp [*, errW_none, errW_some] <;> rfl), by repeat (first | (with_reducible first | exact HB.out | apply below_alloc | apply pw_below_drewN | apply below_drew1) | exact HB.out)⟩

/-- THE ONE PURE STATEMENT of metrolablaw50_BlocksStandard: yours. -/
def metrolablaw50_BlocksStandard.Pure : Prop := ∀ (a0 : Int) (a1 : Int), (Lit.int .i64 a0).wf = true → (Lit.int .u16 a1).wf = true → ∃ k, metrolablaw50_BlocksStandard.f k a0 a1 = some true
theorem metrolablaw50_BlocksStandard.walk (P : metrolablaw50_BlocksStandard.Pure) (a0 : Int) (a1 : Int) (w : World) (w0 : (Lit.int .i64 a0).wf = true) (w1 : (Lit.int .u16 a1).wf = true) :
    Calls Try.prog 6 #[.int .i64 a0, .int .u16 a1] w fun e w' => e = .returned (.bool true) ∧ Below w.heap.size w w' := by
  obtain ⟨k, h⟩ := P a0 a1 w0 w1
  refine (metrolablaw50_BlocksStandard.calls k a0 a1 true w h).mono ?_
  rintro e w' ⟨rfl, hd⟩
  exact ⟨rfl, hd⟩

end Go.Proofs.Ytgkgeodphgfgnaa.Pr
/- The plain laws: the best stack is a stack. -/
namespace Go.Proofs.Ytgkgeodphgfgnaa.Pr
open Go.RowKit Go.Proofs.YtgkgeodphgfgnaaW.PrintWords Go.Proofs.YtgkgeodphgfgnaaW.PrintLast

theorem pick_tot (l : List Int) (n : Int) (hl : chk l = 0) (h0 : 0 ≤ n) (h : g59 l n < 258) : tot l (pickV 0 l n) = n ∧ ∀ i ∈ pickV 0 l n, 0 ≤ i ∧ i < (l.length : Int) := by
  obtain ⟨_, hasc⟩ := chk_zero.1 hl
  have hb := g59_bd l n
  have hf := find_some l l (g59 l n).toNat 0 n (by simp) (fun x hx => (hasc.mem x hx).1) (by omega) h h0
  have hhit := List.find?_some hf
  simp only [hit, decide_eq_true_eq] at hhit
  obtain ⟨h1, _⟩ := combs_mem _ 0 l.length _ (List.mem_of_find?_eq_some hf)
  exact ⟨hhit, fun i hi => by have := h1 i hi; omega⟩
theorem pickV_up : ∀ (xs : List Int) (i : Nat) (n : Int), ∀ j ∈ pickV i xs n, (i : Int) ≤ j
  | [], _, _, j, h => by simp [pickV] at h
  | x :: xs, i, n, j, h => by
    unfold pickV at h
    split at h
    · rcases List.mem_cons.1 h with rfl | h
      · exact Int.le_refl _
      · have := pickV_up xs (i + 1) (n - x) j h; omega
    · have := pickV_up xs (i + 1) n j h; omega
theorem pickV_srt : ∀ (xs : List Int) (i : Nat) (n : Int), (pickV i xs n).Pairwise (· < ·)
  | [], _, _ => List.Pairwise.nil
  | x :: xs, i, n => by
    unfold pickV
    split
    · exact List.pairwise_cons.2 ⟨fun j hj => by have := pickV_up xs (i + 1) (n - x) j hj; omega, pickV_srt xs (i + 1) (n - x)⟩
    · exact pickV_srt xs (i + 1) n
theorem stkGo_srt (m : Int) : ∀ (st : List Int) (p : Option Int), st.Pairwise (· < ·) → (∀ i ∈ st, 0 ≤ i ∧ i < m) → (∀ y, p = some y → ∀ i ∈ st, y < i) → stkGo m p st = 0
  | [], _, _, _, _ => rfl
  | x :: st, p, h, hb, hp => by
    obtain ⟨h1, h2⟩ := List.pairwise_cons.1 h
    have := hb x List.mem_cons_self
    simp only [stkGo]
    rw [if_neg (by omega), if_neg]
    · exact stkGo_srt m st (some x) h2 (fun i hi => hb i (List.mem_cons_of_mem _ hi)) (fun y hy i hi => by cases hy; exact h1 i hi)
    · cases p with
      | none => simp
      | some y => have := hp y rfl x List.mem_cons_self; simp; omega
theorem pick_stk (l : List Int) (n : Int) (hl : chk l = 0) (h0 : 0 ≤ n) (h : g59 l n < 258) : stkV l (pickV 0 l n) = 0 :=
  stkGo_srt _ _ none (pickV_srt l 0 n) (pick_tot l n hl h0 h).2 (fun y hy => by cases hy)
end Go.Proofs.Ytgkgeodphgfgnaa.Pr
/- The plain laws: the standard sets: the reference's, and five blocks for each length. -/
namespace Go.Proofs.Ytgkgeodphgfgnaa.Pr
open Go.RowKit Go.Proofs.YtgkgeodphgfgnaaW.PrintWords Go.Proofs.YtgkgeodphgfgnaaW.PrintLast

theorem rstandard_ev (a0 : Int) : Ev (fun k => metrolabref50_Standard.f k a0) (stdV a0) := by
  by_cases h1 : a0 = 32
  · subst h1; exact Ev.of (k := 400) (metrolabref50_Standard.mono _) (by decide +kernel)
  · by_cases h2 : a0 = 47
    · subst h2; exact Ev.of (k := 400) (metrolabref50_Standard.mono _) (by decide +kernel)
    · by_cases h3 : a0 = 87
      · subst h3; exact Ev.of (k := 400) (metrolabref50_Standard.mono _) (by decide +kernel)
      · have e : stdV a0 = ([], 1) := by unfold stdV; rw [if_neg h1, if_neg h2, if_neg h3]
        rw [e]
        exact Ev.const fun k => by unfold metrolabref50_Standard.f; rw [if_neg h1, if_neg h2, if_neg h3]
def subB : List Int → List Int → Bool
  | [], st => st.isEmpty
  | _ :: _, [] => true
  | y :: ys, x :: xs => if x = y then subB ys xs else subB ys (x :: xs)
theorem subB_ok : ∀ (ys xs : List Int), subB ys xs = true → xs.Sublist ys
  | [], xs, h => by
    have : xs = [] := by simpa [subB] using h
    subst this
    exact List.Sublist.refl _
  | y :: ys, [], _ => List.nil_sublist _
  | y :: ys, x :: xs, h => by
    simp only [subB] at h
    by_cases e : x = y
    · rw [if_pos e] at h
      subst e
      exact (subB_ok ys xs h).cons_cons x
    · rw [if_neg e] at h
      exact (subB_ok ys (x :: xs) h).cons y
def certA (n : Int) : List Int :=
  let a := if n % 10 = 5 then 1005 else 0
  let n1 := n - a
  let d := n1 % 100
  let b := if d = 0 then 0 else 1000 + d
  let n2 := n1 - b
  let h := n2 % 1000
  let c := if h = 0 then 0 else 1000 + h
  let n3 := n2 - c
  let t := if n3 ≥ 10000 then 10000 else 0
  let k := n3 - t
  [if k = 1000 then k else 0, a, b, c, if k = 1000 then 0 else k, t].filter (· != 0)
def certB (n : Int) : List Int :=
  let a := if n % 10 = 5 then 1005 else 0
  let n1 := n - a
  let d := n1 % 500
  let b := if d = 0 then 0 else 1000 + d
  let n3 := n1 - b
  let t := if n3 ≥ 10000 then 10000 else 0
  let k := n3 - t
  [if k ≤ 1000 then k else 0, a, b, if k ≤ 1000 then 0 else k, t].filter (· != 0)
def okAll (s : List Int) (cert : Int → List Int) : Bool := (List.range 3400).all fun q => subB s (cert (3000 + (q : Int) * 5)) && decide ((cert (3000 + (q : Int) * 5)).sum = 3000 + (q : Int) * 5) && decide ((cert (3000 + (q : Int) * 5)).length ≤ 5)
theorem okAll_five {s : List Int} {cert : Int → List Int} (h : okAll s cert = true) (hs : ∀ x ∈ s, 1 ≤ x) (q : Nat) (hq : q < 3400) : g59 s (3000 + (q : Int) * 5) ≤ 5 := by
  unfold okAll at h
  have h1 := List.all_eq_true.1 h q (List.mem_range.2 hq)
  simp only [Bool.and_eq_true, decide_eq_true_eq] at h1
  obtain ⟨⟨h2, h3⟩, h4⟩ := h1
  have h5 := (g59_sub s _ (subB_ok _ _ h2) hs).2
  rw [h3] at h5
  omega
theorem five32 : okAll s32 certA = true := by decide +kernel
theorem five47 : okAll s47 certA = true := by decide +kernel
theorem five87 : okAll s87 certB = true := by decide +kernel
theorem std_good (a0 : Int) (h : (stdV a0).2 = 0) : chk (stdV a0).1 = 0 ∧ ∀ q : Nat, q < 3400 → g59 (stdV a0).1 (3000 + (q : Int) * 5) ≤ 5 := by
  unfold stdV at h ⊢
  by_cases h1 : a0 = 32
  · rw [if_pos h1]
    exact ⟨by decide +kernel, okAll_five five32 (by decide +kernel)⟩
  · rw [if_neg h1] at h ⊢
    by_cases h2 : a0 = 47
    · rw [if_pos h2]
      exact ⟨by decide +kernel, okAll_five five47 (by decide +kernel)⟩
    · rw [if_neg h2] at h ⊢
      by_cases h3 : a0 = 87
      · rw [if_pos h3]
        exact ⟨by decide +kernel, okAll_five five87 (by decide +kernel)⟩
      · rw [if_neg h3] at h
        exact absurd h (by decide)
end Go.Proofs.Ytgkgeodphgfgnaa.Pr
namespace Go.Proofs.Ytgkgeodphgfgnaa.Pure
open Go.RowKit Go.Proofs.Ytgkgeodphgfgnaa.Pr Go.Proofs.YtgkgeodphgfgnaaW.PrintWords Go.Proofs.YtgkgeodphgfgnaaW.PrintLast

theorem stdV_small (n : Int) : (stdV n).1.length ≤ 140737488351232 := by
  unfold stdV
  split
  · decide
  · split
    · decide
    · split
      · decide
      · decide
theorem BlocksStandard : metrolablaw50_BlocksStandard.Pure := by
  intro a0 a1 _ hw
  refine Ev.rounds (g := fun k => metrolablaw50_BlocksStandard.f k a0 a1) ?_
  refine Ev.bind (g := fun _ => blocks_Standard.f a0) (a := stdV a0) ⟨0, fun _ _ => rfl⟩ ?_
  refine Ev.bind (rstandard_ev a0) ?_
  refine Ev.bind (a := true) (by simpa using equal_ev (stdV a0).1 (stdV a0).1 (stdV_small a0)) ?_
  simp only [if_true, bne_self_eq_false]
  have ha : 0 ≤ a1 ∧ a1 ≤ 65535 := by
    obtain ⟨h1, h2⟩ := Bool.and_eq_true_iff.1 (show (decide (IntKind.u16.min ≤ a1) && decide (a1 ≤ IntKind.u16.max)) = true from hw)
    exact ⟨of_decide_eq_true h1, of_decide_eq_true h2⟩
  obtain ⟨a, rfl⟩ : ∃ a : Nat, a1 = (a : Int) := ⟨a1.toNat, by omega⟩
  have e1 : wrap64 (a : Int) = (a : Int) := by unfold wrap64; omega
  have e2 : Int.tmod (a : Int) 3400 = ((a % 3400 : Nat) : Int) := by rw [Int.tmod_eq_emod_of_nonneg (by omega)]; omega
  have hq : a % 3400 < 3400 := Nat.mod_lt _ (by omega)
  obtain ⟨q, hqe⟩ : ∃ q, q = a % 3400 := ⟨_, rfl⟩
  rw [← hqe] at e2 hq
  have e3 : wrap64 (3000 + wrap64 (Int.tmod (wrap64 (a : Int)) 3400 * 5)) = 3000 + (q : Int) * 5 := by
    rw [e1, e2]; unfold wrap64; omega
  by_cases hs : (stdV a0).2 = 0
  · obtain ⟨h1, h2⟩ := std_good a0 hs
    have h3 := h2 q hq
    have h4 : fewestV (stdV a0).1 (3000 + (q : Int) * 5) = (pickV 0 (stdV a0).1 (3000 + (q : Int) * 5), 0) := by
      unfold fewestV
      rw [givenE_of h1, if_pos (show 1 ≤ 3000 + (q : Int) * 5 ∧ 3000 + (q : Int) * 5 ≤ 100000 by omega), if_neg (by decide), if_neg (by omega)]
    have h5 := pickV_len (stdV a0).1 0 (3000 + (q : Int) * 5) (by omega)
    obtain ⟨h6, h7⟩ := pick_tot (stdV a0).1 (3000 + (q : Int) * 5) h1 (by omega) (by omega)
    refine Ev.step (f := fun k => (blocks_Fewest.f k (stdV a0).1 (3000 + (q : Int) * 5)).bind fun bt339 => (if bt339.2 = 0 then (if (bt339.1.length : Int) ≤ 5 then ((metrolabref50_Total.f k (stdV a0).1 bt339.1).bind fun t343 => (if t343 = 3000 + (q : Int) * 5 then ((metrolablaw50_awake.f k).bind fun t344 => (some t344)) else (some false))) else (some false)) else (some false))) (fun k => ?_) ?_
    · simp only [metrolablaw50_BlocksStandard.j0]
      rw [if_neg (by decide), if_pos hs, e3]
    · refine Ev.bind (h4 ▸ fewest_ev _ _) ?_
      have h8 : ((pickV 0 (stdV a0).1 (3000 + (q : Int) * 5)).length : Int) ≤ 5 := by omega
      simp only [if_true, h8]
      refine Ev.bind (total_ev _ (chk_zero.1 h1).2.mem _ h7 (by omega)) ?_
      simp only [h6, if_true]
      exact Ev.bind awake_ev (Ev.now _)
  · refine Ev.step (f := fun k => (metrolablaw50_awake.f k).bind fun t => some t) (fun k => ?_) (Ev.bind awake_ev (Ev.now _))
    simp only [metrolablaw50_BlocksStandard.j0]
    rw [if_neg (by decide), if_neg hs]

end Go.Proofs.Ytgkgeodphgfgnaa.Pure
-- PRINTED by print.py: the row of the law metrolablaw50_BlocksStandard, out of its Pure (the session's) and the printed walk. Not trusted: Lean checks it.
namespace Go.Proofs.Ytgkgeodphgfgnaa.blocksStandard
open Go.ChangeShapes Go.WideShapes Go.ChangeAt Go.RowKit
open Go.ChangeMaps (open_string shut_string)
set_option linter.unusedVariables false
theorem own : ownKnob Try.prog.godebug = none := by kernel_rfl
set_option maxRecDepth 100000 in
theorem lifted (os : Os) (started : os.Started) (H : Type) (enc : TypeId × Value → H) :
    ReturnsInHanded {} Try.checked os 6 .any (Rows.blocksStandardSpec.pre6 enc Try.prog Try.f6 Rows.blocksStandardRow.domain false) (Rows.blocksStandardSpec.post enc Try.prog Try.f6 false true false false) := by
  refine returnsInHanded_of_change_sized (C := Try.checked) own started (by kernel_rfl) Try.func6
    (ChangeSpec.witness6 (enc := enc) (C := Try.checked) false ⟨#[], #[.int .i64 0, .int .u16 0], []⟩ 8 (by kernel_rfl) (by kernel_rfl) (by kernel_rfl) (by kernel_rfl)) ?_
  intro W base args ds gs before hval0 hW hcnd hsz0 _
  have hsz : (DataW.weightsEach Try.prog (Try.f6.params.toList ++ Rows.blocksStandardSpec.plain.varTypes Try.prog) (ds ++ gs)).all (· ≤ reachBytes) = true := hsz0
  have hval : ∀ (j : Nat) t v, Try.f6.params[j]? = some t → args[j]? = some v → Value.okWide Try.prog W .any base t v := hval0
  have hW' := hW
  obtain ⟨p, q, hA0, hV, rfl, hfz, hnd⟩ := hW
  have hA : DataW.TrodAll enc Try.prog W 0 (fun _ => true) true Try.f6.params.toList args.toList ds p := hA0
  rw [Try.params6] at hA hval hsz
  obtain ⟨v0, vs0, d0, ds0, p0, q0, hargs, rfl, rfl, h0, r0⟩ := trodAll_cons hA
  obtain ⟨v1, vs1, d1, ds1, p1, q1, rfl, rfl, rfl, h1, r1⟩ := trodAll_cons r0
  obtain ⟨rfl, rfl, rfl⟩ := trodAll_nil r1
  obtain rfl : args = #[v0, v1] := by cases args; simp_all
  obtain ⟨rfl, rfl⟩ := trodVars_none hV
  obtain ⟨a0, rfl, rfl, rfl, w0⟩ := open_int Try.underlying3 (hval 0 3 v0 rfl rfl) h0
  obtain ⟨a1, rfl, rfl, rfl, w1⟩ := open_int Try.underlying40 (hval 1 40 v1 rfl rfl) h1
  clear hA0 hval0 hsz0 hsz
  refine (Pr.metrolablaw50_BlocksStandard.walk Pure.BlocksStandard a0 a1 W w0 w1).mono fun e W' ⟨he, bel⟩ => ?_
  subst he
  exact ⟨_, rfl, _, _, _, [], _, [], hW', trodAll_mk1 (shut_bool Try.underlying4 _), (trodAll_cons_mk (shut_int Try.underlying3 w0) (trodAll_cons_mk (shut_int Try.underlying40 w1) trodAll_mk0)), rfl, bel.frame _, fun h => by cases h⟩
theorem over : Rows.blocksStandardRow.holds Try.pinned (OpenSpec.ofChange Rows.blocksStandardSpec) :=
  OpenClaim.holds_of_wide 6 Try.f6 rfl rfl rfl rfl rfl rfl rfl ⟨rfl, rfl, rfl, rfl, rfl⟩ rfl rfl rfl rfl rfl (by kernel_rfl) Try.func6 (by kernel_rfl)
    (of_decide_eq_true (by kernel_rfl)) (by unfold Func.isWrapper; first | (rw [if_pos (by decide +kernel)]; kernel_rfl) | (rw [if_neg (by decide +kernel)]; exact ⟨rfl, rfl⟩))
    (fun os started H enc _ => lifted os started H enc)
theorem proved : Rows.BlocksStandardSaid := over
#print axioms proved
end Go.Proofs.Ytgkgeodphgfgnaa.blocksStandard
namespace Go.Proofs.Ytgkgeodphgfgnaa
/-- The row, under a short name, for the claim. -/
theorem blocksStandard_holds : Rows.BlocksStandardSaid := blocksStandard.proved
end Go.Proofs.Ytgkgeodphgfgnaa
