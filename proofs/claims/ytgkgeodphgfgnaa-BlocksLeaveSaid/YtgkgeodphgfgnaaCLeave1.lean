/- The statement is proved as it is given, without a condition of ours. -/
import Derived.Test.YtgkgeodphgfgnaaB1
import Derived.Sort.OwnSortedInts
import Derived.Test.YtgkgeodphgfgnaaB3
import Derived.Test.YtgkgeodphgfgnaaB2
import Derived.Test.YtgkgeodphgfgnaaB5
import Derived.Test.YtgkgeodphgfgnaaB4
import Derived.Test.YtgkgeodphgfgnaaRows
import Derived.WalkKit
import Derived.ProofKit
import Derived.OpenShut
import Derived.ShutString
import Derived.ChangeOld
import Derived.Below
import Derived.SizedLaws
import Derived.Test.YtgkgeodphgfgnaaWSized
/- The contracts of slices.Clone and slices.Delete, in the printed form. -/
namespace Go.Proofs.Ytgkgeodphgfgnaa.Pr
open Go.RowKit Go.Shelf
open Go.Proofs.YtgkgeodphgfgnaaW.PrintWords Go.Proofs.YtgkgeodphgfgnaaW.PrintLast Go.Proofs.YtgkgeodphgfgnaaW.PrintMore

theorem spot_none {w : World} {a : Addr} {v : Value} (h : w.cell? a = some v) : a.spot = none := by
  unfold World.cell? at h
  split at h
  · split at h
    · cases h
    · rename_i hs
      cases hh : a.spot with
      | none => rfl
      | some _ => rw [hh] at hs; simp at hs
  · cases h
def slices_Clone_int_int.f (l : List Int) : Option (List Int) := if l = [] ∨ l.length > 17592186044416 then none else some l
theorem slices_Clone_int_int.calls (A0 : Option Addr) (c0 : Nat) (l0 : List Int) (r : List Int) (w : World) (hr0 : Kd.C (Kd.int .i64) w A0 l0.length l0) (hc0 : l0.length ≤ c0) (h : slices_Clone_int_int.f l0 = some r) :
    Calls Try.prog 33 #[.slice A0 l0.length c0] w fun e w' => ∃ v0_ : Value, e = .returned v0_ ∧ Kd.R (Kd.int .i64) 3 w' w.heap.size (fun _ => True) v0_ r ∧ Below w.heap.size w w' := by
  unfold slices_Clone_int_int.f at h
  split at h
  · cases h
  · rename_i hn
    obtain rfl := Option.some.inj h
    have hbig : l0.length ≤ 17592186044416 := by
      have := fun hh => hn (.inr hh)
      omega
    have hpos : 0 < l0.length := by
      cases l0 with
      | nil => exact absurd (.inl rfl) hn
      | cons _ _ => simp
    obtain ⟨ad, x0, hA, hc, _⟩ := at_nat hr0 0 hpos
    subst hA
    obtain ⟨b, off, spot⟩ := ad
    obtain rfl : spot = none := spot_none hc
    refine (Try.slices_Clone_int b off l0.length c0 l0 w (Nat.le_refl _) (by omega) fun j hj => ?_).mono ?_
    · obtain ⟨ad, x, hA, hc, hx, _⟩ := at_nat hr0 j hj
      cases hA
      rw [List.getD_eq_getElem?_getD, hx]
      have e : Addr.add ⟨b, off, none⟩ j = ⟨b, off + j, none⟩ := by
        unfold Addr.add
        split
        · rename_i h0; rw [h0, Nat.add_zero]
        · rfl
      rw [e] at hc
      exact hc
    · rintro e w' ⟨v', rfl, ho, _, hb⟩
      rw [List.take_length] at ho
      exact ⟨v', rfl, Kd.R_of_own (enc := Value.int .i64) (h1 := fun _ => rfl) ho (fun _ _ => trivial), hb⟩

def slices_Delete_int_int.f (l : List Int) (i j : Int) : Option (List Int) := if l ≠ [] ∧ 0 ≤ i ∧ i ≤ j ∧ j ≤ (l.length : Int) then some (l.take i.toNat ++ l.drop j.toNat) else none
open Go.Sort in
theorem slices_Delete_int_int.calls (P0_ : Nat → Prop) (u9000_ : Value) (l0 : List Int) (a1 : Int) (a2 : Int) (r : List Int) (w0 w : World) (hB : Below w0.heap.size w0 w) (ho0 : Kd.R (Kd.int .i64) 3 w w0.heap.size P0_ u9000_ l0) (h : slices_Delete_int_int.f l0 a1 a2 = some r) :
    Calls Try.prog 32 #[u9000_, .int .i64 a1, .int .i64 a2] w fun e w' => ∃ v0_ : Value, e = .returned v0_ ∧ Kd.R (Kd.int .i64) 3 w' w0.heap.size (fun k_ => (P0_ k_ ∨ w.heap.size ≤ k_)) v0_ r ∧ Below w0.heap.size w0 w' ∧ Kept w w' (fun k_ => P0_ k_) := by
  unfold slices_Delete_int_int.f at h
  split at h
  · rename_i hc
    obtain ⟨hne, h0, h1, h2⟩ := hc
    obtain rfl := Option.some.inj h
    obtain ⟨i, rfl⟩ : ∃ i : Nat, a1 = (i : Int) := ⟨a1.toNat, by omega⟩
    obtain ⟨j, rfl⟩ : ∃ j : Nat, a2 = (j : Int) := ⟨a2.toNat, by omega⟩
    have ho := ho0.1
    have hpos : l0.length ≠ 0 := fun e => hne (List.eq_nil_of_length_eq_zero e)
    have hown' : w.ownsRow w0.heap.size 3 1 u9000_ l0.length (l0.map (Value.int .i64)) := Kd.own_of_R (enc := Value.int .i64) (h1 := fun _ => rfl) ho0
    rcases hown'.2 with ⟨_, e0⟩ | ⟨g, cap, cur, rfl, hg, hgb, hn, hcap, hcs, htk⟩
    · exact absurd e0 hpos
    · have hOK : P0_ g := ho g rfl
      have hgl := (Array.getElem?_eq_some_iff.1 hgb).1
      refine (Try.slices_Delete_int g 0 cap i j l0 w (holds_of_blockI hgb (by simpa using htk)) hn (by have := hcap; simp only [maxLen] at this; omega) (by omega) (by omega)).mono ?_
      rintro e w' ⟨rfl, q, rfl⟩
      have hrow := ownsRow_sortedI (n := q) (os := #[]) (ss := l0) (ts := l0.take i ++ l0.drop j ++ List.replicate (j - i) 0) (by simp; omega) hg hgb hn hcap (by simpa using hcs)
      have hG := grownBy_sortedI (w := w) (g := g) (n := q) (os := #[]) (l0.take i ++ l0.drop j ++ List.replicate (j - i) 0).toArray
      rw [grow_empty] at hrow hG
      refine ⟨_, rfl, ?_, hB.grown hG hB.size (fun k e => by cases e; exact hg), Kept.of_grown hG (Kept.refl _ _) (fun k e => by cases e; exact .inl hOK)⟩
      have hlen : (l0.take i ++ l0.drop j).length = l0.length - (j - i) := by simp; omega
      refine Kd.R_of_own (enc := Value.int .i64) (h1 := fun _ => rfl) ?_ (fun k e => by cases e; exact .inl hOK)
      show World.ownsRow _ _ 3 1 _ (l0.take i ++ l0.drop j).length ((l0.take i ++ l0.drop j).map (Value.int .i64))
      rcases hrow.2 with ⟨e0, _⟩ | ⟨g2, cap2, cur2, e2, hg2, hgb2, hn2, hcap2, hcs2, htk2⟩
      · cases e0
      · cases e2
        refine ⟨by simp, .inr ⟨g, cap, cur2, by rw [hlen], hg2, hgb2, by omega, hcap2, hcs2, ?_⟩⟩
        have h3 := congrArg (List.take ((l0.take i ++ l0.drop j).length * 1)) htk2
        rw [List.take_take, Nat.min_eq_left (by simp; omega)] at h3
        rw [h3, Nat.mul_one, List.map_append (f := Value.int .i64) (l₁ := l0.take i ++ l0.drop j), List.take_left' (by simp)]
  · cases h
end Go.Proofs.Ytgkgeodphgfgnaa.Pr
-- Printed for this claim by a program of this session, over the kit's printer. Not trusted: Lean checks it.
namespace Go.Proofs.Ytgkgeodphgfgnaa.Pr
open Go.RowKit Go.Proofs.YtgkgeodphgfgnaaW.PrintWords Go.Proofs.YtgkgeodphgfgnaaW.PrintLast Go.Proofs.YtgkgeodphgfgnaaW.PrintMore
attribute [local go_sem] max2_int min2_int max_two min_two max_three min_three max_four min_four
set_option linter.unusedVariables false
set_option linter.unusedSimpArgs false

/-! ### metrolablaw50_BlocksLeave: function 9 -/
def metrolablaw50_BlocksLeave.j0 : Nat → List Int → Int → Int → List Int → Bool → Option (Bool)
  | 0, _, _, _, _, _ => none
  | k + 1, x0, x1, x2, x7, x49 => if x49 = true then (some false) else (if (x7.length : Int) = 0 then (none) else (if 0 ≤ (Int.tmod (wrap64 (x2)) (x7.length : Int)) then (if (Int.tmod (wrap64 (x2)) (x7.length : Int)) < (x7.length : Int) then ((slices_Clone_int_int.f x0).bind fun t393 => ((slices_Delete_int_int.f t393 (rd x7 (Int.tmod (wrap64 (x2)) (x7.length : Int))) (wrap64 ((rd x7 (Int.tmod (wrap64 (x2)) (x7.length : Int))) + 1))).bind fun t396 => (if 0 ≤ (rd x7 (Int.tmod (wrap64 (x2)) (x7.length : Int))) then (if (rd x7 (Int.tmod (wrap64 (x2)) (x7.length : Int))) < (x0.length : Int) then (if x1 = (rd x0 (rd x7 (Int.tmod (wrap64 (x2)) (x7.length : Int)))) then (if (x7.length : Int) = 1 then ((metrolablaw50_awake.f k).bind fun t400 => (some t400)) else (some false)) else ((blocks_Fewest.f k t396 (wrap64 (x1 - (rd x0 (rd x7 (Int.tmod (wrap64 (x2)) (x7.length : Int))))))).bind fun bt402 => (if bt402.2 = 0 then (if (bt402.1.length : Int) = (wrap64 ((x7.length : Int) - 1)) then ((metrolablaw50_awake.f k).bind fun t406 => (some t406)) else (some false)) else (some false)))) else (none)) else (none)))) else (none)) else (none)))
def metrolablaw50_BlocksLeave.f (k : Nat) (l0 : List Int) (a1 : Int) (a2 : Int) : Option (Bool) := (metrolablaw50_right.f k l0 a1).bind fun t383 => (if t383 = true then ((blocks_Fewest.f k l0 a1).bind fun bt385 => (if bt385.2 = 0 then ((blocks_Length.f k l0 bt385.1).bind fun bt390 => (if bt390.2 = 0 then (if bt390.1 = a1 then (metrolablaw50_BlocksLeave.j0 k l0 a1 a2 bt385.1 ((bt385.1.length : Int) == 0)) else (metrolablaw50_BlocksLeave.j0 k l0 a1 a2 bt385.1 true)) else (metrolablaw50_BlocksLeave.j0 k l0 a1 a2 bt385.1 true))) else (if bt385.2 = 6 then ((metrolablaw50_awake.f k).bind fun t389 => (some t389)) else (some false)))) else ((metrolablaw50_awake.f k).bind fun t384 => (some t384)))
theorem metrolablaw50_BlocksLeave.mono_l : ∀ k, (∀ y0 y1 y2 y3 y4, LeO (metrolablaw50_BlocksLeave.j0 k y0 y1 y2 y3 y4) (metrolablaw50_BlocksLeave.j0 (k + 1) y0 y1 y2 y3 y4))
  | 0 => fun _ _ _ _ _ r h => by simp [metrolablaw50_BlocksLeave.j0] at h
  | k + 1 => by
    have ih0 := metrolablaw50_BlocksLeave.mono_l k
    · intro y0 y1 y2 y3 y4
      unfold metrolablaw50_BlocksLeave.j0
      repeat' first
      | (with_reducible exact ih0 _ _ _ _ _)
      | (with_reducible exact blocks_Fewest.mono _ _ _)
      | (with_reducible exact blocks_Length.mono _ _ _)
      | (with_reducible exact metrolablaw50_awake.mono _)
      | (with_reducible exact metrolablaw50_right.mono _ _ _)
      | (with_reducible exact LeO.refl _)
      | (with_reducible exact LeO.none _)
      | (with_reducible refine LeO.ite ?_ ?_)
      | (with_reducible refine LeO.bind ?_ (fun _ => ?_))
      | exact ih0 _ _ _ _ _
      | exact blocks_Fewest.mono _ _ _
      | exact blocks_Length.mono _ _ _
      | exact metrolablaw50_awake.mono _
      | exact metrolablaw50_right.mono _ _ _
      | exact LeO.none _
      | refine LeO.ite ?_ ?_
      | refine LeO.bind ?_ (fun _ => ?_)
theorem metrolablaw50_BlocksLeave.mono : ∀ a0 a1 a2 k, LeO (metrolablaw50_BlocksLeave.f k a0 a1 a2) (metrolablaw50_BlocksLeave.f (k + 1) a0 a1 a2) := by
  intro a0 a1 a2 k
  have ih0 := metrolablaw50_BlocksLeave.mono_l k
  unfold metrolablaw50_BlocksLeave.f
  repeat' first
      | (with_reducible exact ih0 _ _ _ _ _)
      | (with_reducible exact blocks_Fewest.mono _ _ _)
      | (with_reducible exact blocks_Length.mono _ _ _)
      | (with_reducible exact metrolablaw50_awake.mono _)
      | (with_reducible exact metrolablaw50_right.mono _ _ _)
      | (with_reducible exact LeO.refl _)
      | (with_reducible exact LeO.none _)
      | (with_reducible refine LeO.ite ?_ ?_)
      | (with_reducible refine LeO.bind ?_ (fun _ => ?_))
      | exact ih0 _ _ _ _ _
      | exact blocks_Fewest.mono _ _ _
      | exact blocks_Length.mono _ _ _
      | exact metrolablaw50_awake.mono _
      | exact metrolablaw50_right.mono _ _ _
      | exact LeO.none _
      | refine LeO.ite ?_ ?_
      | refine LeO.bind ?_ (fun _ => ?_)
set_option maxHeartbeats 8000000 in
set_option maxRecDepth 100000 in
theorem metrolablaw50_BlocksLeave.calls (k : Nat) (A0 : Option Addr) (c0 : Nat) (l0 : List Int) (a1 : Int) (a2 : Int) (r : Bool) (w : World) (hr0 : Kd.C (Kd.int .i64) w A0 l0.length l0) (hc0 : l0.length ≤ c0) (h : metrolablaw50_BlocksLeave.f k l0 a1 a2 = some r) :
    Calls Try.prog 9 #[.slice A0 l0.length c0, .int .i64 a1, .int .u8 a2] w fun e w' => e = .returned (.bool r) ∧ Below w.heap.size w w' := by
  have HR0 := Aside0.mk hr0
  have HC0 := Aside0.mk hc0
  clear hr0 hc0
  have HB := Aside0.mk (Below.refl w.heap.size w)
  have H : ((metrolablaw50_right.f k l0 a1).bind fun t383 => (if t383 = true then ((blocks_Fewest.f k l0 a1).bind fun bt385 => (if bt385.2 = 0 then ((blocks_Length.f k l0 bt385.1).bind fun bt390 => (if bt390.2 = 0 then (if bt390.1 = a1 then (metrolablaw50_BlocksLeave.j0 k l0 a1 a2 bt385.1 ((bt385.1.length : Int) == 0)) else (metrolablaw50_BlocksLeave.j0 k l0 a1 a2 bt385.1 true)) else (metrolablaw50_BlocksLeave.j0 k l0 a1 a2 bt385.1 true))) else (if bt385.2 = 6 then ((metrolablaw50_awake.f k).bind fun t389 => (some t389)) else (some false)))) else ((metrolablaw50_awake.f k).bind fun t384 => (some t384)))) = some r := h
  clear h
  replace H := Option.bind_eq_some_iff.mp H
  obtain ⟨t383, A40, H⟩ := H
  replace H : (if t383 = true then ((blocks_Fewest.f k l0 a1).bind fun bt385 => (if bt385.2 = 0 then ((blocks_Length.f k l0 bt385.1).bind fun bt390 => (if bt390.2 = 0 then (if bt390.1 = a1 then (metrolablaw50_BlocksLeave.j0 k l0 a1 a2 bt385.1 ((bt385.1.length : Int) == 0)) else (metrolablaw50_BlocksLeave.j0 k l0 a1 a2 bt385.1 true)) else (metrolablaw50_BlocksLeave.j0 k l0 a1 a2 bt385.1 true))) else (if bt385.2 = 6 then ((metrolablaw50_awake.f k).bind fun t389 => (some t389)) else (some false)))) else ((metrolablaw50_awake.f k).bind fun t384 => (some t384))) = some r := H
  have A4 := Aside0.mk A40
  clear A40
  by_cases c5 : t383 = true
  · subst c5
    have H1 : ((blocks_Fewest.f k l0 a1).bind fun bt385 => (if bt385.2 = 0 then ((blocks_Length.f k l0 bt385.1).bind fun bt390 => (if bt390.2 = 0 then (if bt390.1 = a1 then (metrolablaw50_BlocksLeave.j0 k l0 a1 a2 bt385.1 ((bt385.1.length : Int) == 0)) else (metrolablaw50_BlocksLeave.j0 k l0 a1 a2 bt385.1 true)) else (metrolablaw50_BlocksLeave.j0 k l0 a1 a2 bt385.1 true))) else (if bt385.2 = 6 then ((metrolablaw50_awake.f k).bind fun t389 => (some t389)) else (some false)))) = some r := by rw [if_pos rfl] at H; exact H
    clear H
    have H := H1
    clear H1
    replace H := Option.bind_eq_some_iff.mp H
    obtain ⟨⟨t385, t386⟩, A60, H⟩ := H
    replace H : (if t386 = 0 then ((blocks_Length.f k l0 t385).bind fun bt390 => (if bt390.2 = 0 then (if bt390.1 = a1 then (metrolablaw50_BlocksLeave.j0 k l0 a1 a2 t385 ((t385.length : Int) == 0)) else (metrolablaw50_BlocksLeave.j0 k l0 a1 a2 t385 true)) else (metrolablaw50_BlocksLeave.j0 k l0 a1 a2 t385 true))) else (if t386 = 6 then ((metrolablaw50_awake.f k).bind fun t389 => (some t389)) else (some false))) = some r := H
    have A6 := Aside0.mk A60
    clear A60
    by_cases c7 : t386 = 0
    · rw [if_pos c7] at H
      have c7b0 : (t386 == 0) = true := beq_iff_eq.mpr c7
      have c7b1 : (t386 != 0) = false := bne_eq_false_iff_eq.mpr c7
      clear c7
      replace H := Option.bind_eq_some_iff.mp H
      obtain ⟨⟨t390, t391⟩, A80, H⟩ := H
      replace H : (if t391 = 0 then (if t390 = a1 then (metrolablaw50_BlocksLeave.j0 k l0 a1 a2 t385 ((t385.length : Int) == 0)) else (metrolablaw50_BlocksLeave.j0 k l0 a1 a2 t385 true)) else (metrolablaw50_BlocksLeave.j0 k l0 a1 a2 t385 true)) = some r := H
      have A8 := Aside0.mk A80
      clear A80
      have HC9 := Aside0.mk H
      clear H
      go_enter Try.func9, Try.ntmps9
      go_upto_region 7 with (first | ((with_reducible refine gate_callee (f := 29) rfl ?_); refine goesL_ (some 16) rfl rfl Try.func29 (by kernel_rfl) rfl #[.slice A0 l0.length c0, .int .i64 a1] rfl (by (try simp only [List.map_toArray, List.map_cons, List.map_nil]); first | done | rfl | (simp only [List.length_drop, List.length_take]; rfl)) ?_; (with_reducible refine (metrolablaw50_right.calls k _ _ l0 a1 true _ ?side1 ?side2 A4.out).mono ?_); (case side1 => repeat (first | exact HR0.out | (with_reducible refine Kd.C_alloc ?_ _) | (with_reducible refine Kd.C_drewN ?_ _) | (with_reducible refine Kd.C_drew ?_))); (case side2 => exact HC0.out); rintro e w' ⟨rfl, ⟨nd, rfl⟩⟩; refine ⟨_, rfl, ?_⟩) | ((with_reducible refine gate_callee (f := 13) rfl ?_); refine goesL_ (some 22) rfl rfl Try.func13 (by kernel_rfl) rfl #[.slice A0 l0.length c0, .int .i64 a1] rfl (by (try simp only [List.map_toArray, List.map_cons, List.map_nil]); first | done | rfl | (simp only [List.length_drop, List.length_take]; rfl)) ?_; (with_reducible refine (blocks_Fewest.calls k _ _ l0 a1 t385 t386 _ ?side1 ?side2 A6.out).mono ?_); (case side1 => repeat (first | exact HR0.out | (with_reducible refine Kd.C_alloc ?_ _) | (with_reducible refine Kd.C_drewN ?_ _) | (with_reducible refine Kd.C_drew ?_))); (case side2 => exact HC0.out); rintro e w10 ⟨v387, rfl, ho0, hb⟩; refine ⟨_, rfl, ?_⟩; have n0_ := Aside0.mk (Kd.R_lower ho0 (below_size (by repeat (first | (with_reducible first | exact HB.out | apply below_alloc | apply pw_below_drewN | apply below_drew1) | exact HB.out)))); have n1_ := Aside0.mk (below_step (by repeat (first | (with_reducible first | exact HB.out | apply below_alloc | apply pw_below_drewN | apply below_drew1) | exact HB.out)) hb); clear HB; have HO388 := n0_; have HB := n1_; clear n0_ n1_; (try clear hb); (try clear hb2); (try clear hk); (try clear hi); (try clear ho0); obtain ⟨Ao11, co11, eo11⟩ := Kd.R_slice HO388.out; subst eo11) | ((with_reducible refine gate_callee (f := 25) rfl ?_); refine goesL_ (some 35) rfl rfl Try.func25 (by kernel_rfl) rfl #[.slice A0 l0.length c0, .slice Ao11 t385.length co11] rfl (by (try simp only [List.map_toArray, List.map_cons, List.map_nil]); first | done | rfl | (simp only [List.length_drop, List.length_take]; rfl)) ?_; (with_reducible refine (blocks_Length.calls k _ _ l0 _ _ t385 t390 t391 _ ?side1 ?side2 ?side3 ?side4 A8.out).mono ?_); (case side1 => repeat (first | exact (Kd.C_below HR0.out HB.out) | (with_reducible refine Kd.C_alloc ?_ _) | (with_reducible refine Kd.C_drewN ?_ _) | (with_reducible refine Kd.C_drew ?_))); (case side2 => exact HC0.out); (case side3 => repeat (first | exact (Kd.R_reads' HO388.out).2.2 | (with_reducible refine Kd.C_alloc ?_ _) | (with_reducible refine Kd.C_drewN ?_ _) | (with_reducible refine Kd.C_drew ?_))); (case side4 => exact (Kd.R_reads' HO388.out).2.1); rintro e w' ⟨rfl, ⟨nd, rfl⟩⟩; refine ⟨_, rfl, ?_⟩))
      (try simp only [Act.put, List.setIfInBounds_toArray, List.set_cons_zero, List.set_cons_succ])
      go_cut [49] (fun v49 wc => ∃ (kq : Nat) (x49_8 : Bool), v49 = .bool x49_8 ∧ Aside0 (metrolablaw50_BlocksLeave.j0 kq l0 a1 a2 t385 x49_8 = some r) ∧ Aside0 (kq ≤ k) ∧ Aside0 (Kd.R (Kd.int .i64) 3 wc w.heap.size (fun _ => True) (.slice Ao11 t385.length co11) t385) ∧ Aside0 (Below w.heap.size w wc))
      case first =>
        have H := HC9.out
        clear HC9
        by_cases c12 : t391 = 0
        · rw [if_pos c12] at H
          have c12b0 : (t391 == 0) = true := beq_iff_eq.mpr c12
          have c12b1 : (t391 != 0) = false := bne_eq_false_iff_eq.mpr c12
          clear c12
          (first | rw [c12b0] | (simp only [i64_w, i32_w]; rw [c12b0]) | skip)
          by_cases c13 : t390 = a1
          · rw [if_pos c13] at H
            have c13b0 : (t390 == a1) = true := beq_iff_eq.mpr c13
            have c13b1 : (t390 != a1) = false := bne_eq_false_iff_eq.mpr c13
            clear c13
            have H' := Aside0.mk H
            clear H
            go_wp2
            go_meet
            case rel => exact ⟨_, (((t385.length : Int) == 0)), (by first | rfl | (simp; done) | (simp [*]; done)), H', ⟨by first | omega | exact Nat.le_refl _⟩, ⟨by (with_reducible repeat (first | apply Kd.R_alloc | apply Kd.R_drewN | apply Kd.R_drew)); exact HO388.out⟩, ⟨by repeat (first | (with_reducible first | exact HB.out | apply below_alloc | apply pw_below_drewN | apply below_drew1) | exact HB.out)⟩⟩
          · rw [if_neg c13] at H
            have c13b0 : (t390 == a1) = false := beq_eq_false_iff_ne.mpr c13
            have c13b1 : (t390 != a1) = true := bne_iff_ne.mpr c13
            have H' := Aside0.mk H
            clear H
            go_wp2
            go_meet
            case rel => exact ⟨_, (true), (by first | rfl | (simp; done) | (simp [*]; done)), H', ⟨by first | omega | exact Nat.le_refl _⟩, ⟨by (with_reducible repeat (first | apply Kd.R_alloc | apply Kd.R_drewN | apply Kd.R_drew)); exact HO388.out⟩, ⟨by repeat (first | (with_reducible first | exact HB.out | apply below_alloc | apply pw_below_drewN | apply below_drew1) | exact HB.out)⟩⟩
        · rw [if_neg c12] at H
          have c12b0 : (t391 == 0) = false := beq_eq_false_iff_ne.mpr c12
          have c12b1 : (t391 != 0) = true := bne_iff_ne.mpr c12
          (first | rw [c12b0] | (simp only [i64_w, i32_w]; rw [c12b0]) | skip)
          have H' := Aside0.mk H
          clear H
          go_wp2
          go_meet
          case rel => exact ⟨_, (true), (by first | rfl | (simp; done) | (simp [*]; done)), H', ⟨by first | omega | exact Nat.le_refl _⟩, ⟨by (with_reducible repeat (first | apply Kd.R_alloc | apply Kd.R_drewN | apply Kd.R_drew)); exact HO388.out⟩, ⟨by repeat (first | (with_reducible first | exact HB.out | apply below_alloc | apply pw_below_drewN | apply below_drew1) | exact HB.out)⟩⟩
      case rest =>
        clear HC9
        try clear c1
        try clear c2
        try clear p2
        try clear c5
        try clear c7
        try clear c7b0
        try clear c7b1
        try clear c9
        try clear c12
        try clear c12b0
        try clear c12b1
        try clear c13
        try clear c13b0
        try clear c13b1
        obtain ⟨kq, x49_8, rfl, HA, HJ8, HO_7, HB⟩ := hcut
        cases kq with
        | zero => exact absurd HA.out (by simp [metrolablaw50_BlocksLeave.j0])
        | succ kj8 =>
          have H := HA.out
          clear HA
          simp only [metrolablaw50_BlocksLeave.j0] at H
          by_cases c14 : x49_8 = true
          · subst c14
            have H1 : (some false) = some r := by rw [if_pos rfl] at H; exact H
            clear H
            have H := H1
            clear H1
            obtain rfl := Option.some.inj H
            go_wp2
            go_ret
            exact ⟨by first | rfl | (simp [errW_none, errW_some] <;> rfl) | (simp [*, errW_none, errW_some] <;> rfl), by repeat (first | (with_reducible first | exact HB.out | apply below_alloc | apply pw_below_drewN | apply below_drew1) | exact HB.out)⟩
          · replace c14 := Bool.eq_false_iff.mpr c14
            subst c14
            have H1 : (if (t385.length : Int) = 0 then (none) else (if 0 ≤ (Int.tmod (wrap64 (a2)) (t385.length : Int)) then (if (Int.tmod (wrap64 (a2)) (t385.length : Int)) < (t385.length : Int) then ((slices_Clone_int_int.f l0).bind fun t393 => ((slices_Delete_int_int.f t393 (rd t385 (Int.tmod (wrap64 (a2)) (t385.length : Int))) (wrap64 ((rd t385 (Int.tmod (wrap64 (a2)) (t385.length : Int))) + 1))).bind fun t396 => (if 0 ≤ (rd t385 (Int.tmod (wrap64 (a2)) (t385.length : Int))) then (if (rd t385 (Int.tmod (wrap64 (a2)) (t385.length : Int))) < (l0.length : Int) then (if a1 = (rd l0 (rd t385 (Int.tmod (wrap64 (a2)) (t385.length : Int)))) then (if (t385.length : Int) = 1 then ((metrolablaw50_awake.f kj8).bind fun t400 => (some t400)) else (some false)) else ((blocks_Fewest.f kj8 t396 (wrap64 (a1 - (rd l0 (rd t385 (Int.tmod (wrap64 (a2)) (t385.length : Int))))))).bind fun bt402 => (if bt402.2 = 0 then (if (bt402.1.length : Int) = (wrap64 ((t385.length : Int) - 1)) then ((metrolablaw50_awake.f kj8).bind fun t406 => (some t406)) else (some false)) else (some false)))) else (none)) else (none)))) else (none)) else (none))) = some r := by rw [if_neg (show ¬ (false = true) by decide)] at H; exact H
            clear H
            have H := H1
            clear H1
            by_cases c15 : (t385.length : Int) = 0
            · rw [if_pos c15] at H
              exact absurd H (by simp)
            · rw [if_neg c15] at H
              have c15b0 : ((t385.length : Int) == 0) = false := beq_eq_false_iff_ne.mpr c15
              have c15b1 : ((t385.length : Int) != 0) = true := bne_iff_ne.mpr c15
              have c15b2 : ¬ (t385 = []) := fun h_ => c15 (by rw [h_]; rfl)
              obtain ⟨ji16, hji16⟩ : ∃ j_ : Int, (Int.tmod (wrap64 (a2)) (t385.length : Int)) = j_ := ⟨_, rfl⟩
              replace H : (if 0 ≤ (ji16) then (if (ji16) < (t385.length : Int) then ((slices_Clone_int_int.f l0).bind fun t393 => ((slices_Delete_int_int.f t393 (rd t385 (ji16)) (wrap64 ((rd t385 (ji16)) + 1))).bind fun t396 => (if 0 ≤ (rd t385 (ji16)) then (if (rd t385 (ji16)) < (l0.length : Int) then (if a1 = (rd l0 (rd t385 (ji16))) then (if (t385.length : Int) = 1 then ((metrolablaw50_awake.f kj8).bind fun t400 => (some t400)) else (some false)) else ((blocks_Fewest.f kj8 t396 (wrap64 (a1 - (rd l0 (rd t385 (ji16)))))).bind fun bt402 => (if bt402.2 = 0 then (if (bt402.1.length : Int) = (wrap64 ((t385.length : Int) - 1)) then ((metrolablaw50_awake.f kj8).bind fun t406 => (some t406)) else (some false)) else (some false)))) else (none)) else (none)))) else (none)) else (none)) = some r := by first | (rw [hji16] at H; exact H) | (simp only [hji16] at H ⊢; exact H)
              by_cases c17 : 0 ≤ (ji16)
              · rw [if_pos c17] at H
                have c17b0 : decide (0 ≤ (ji16)) = true := decide_eq_true c17
                clear c17
                by_cases c18 : (ji16) < (t385.length : Int)
                · rw [if_pos c18] at H
                  have c18b0 : decide ((ji16) < (t385.length : Int)) = true := decide_eq_true c18
                  clear c18
                  replace H := Option.bind_eq_some_iff.mp H
                  obtain ⟨t393, A190, H⟩ := H
                  replace H : ((slices_Delete_int_int.f t393 (rd t385 (ji16)) (wrap64 ((rd t385 (ji16)) + 1))).bind fun t396 => (if 0 ≤ (rd t385 (ji16)) then (if (rd t385 (ji16)) < (l0.length : Int) then (if a1 = (rd l0 (rd t385 (ji16))) then (if (t385.length : Int) = 1 then ((metrolablaw50_awake.f kj8).bind fun t400 => (some t400)) else (some false)) else ((blocks_Fewest.f kj8 t396 (wrap64 (a1 - (rd l0 (rd t385 (ji16)))))).bind fun bt402 => (if bt402.2 = 0 then (if (bt402.1.length : Int) = (wrap64 ((t385.length : Int) - 1)) then ((metrolablaw50_awake.f kj8).bind fun t406 => (some t406)) else (some false)) else (some false)))) else (none)) else (none))) = some r := H
                  have A19 := Aside0.mk A190
                  clear A190
                  replace H := Option.bind_eq_some_iff.mp H
                  obtain ⟨t396, A200, H⟩ := H
                  replace H : (if 0 ≤ (rd t385 (ji16)) then (if (rd t385 (ji16)) < (l0.length : Int) then (if a1 = (rd l0 (rd t385 (ji16))) then (if (t385.length : Int) = 1 then ((metrolablaw50_awake.f kj8).bind fun t400 => (some t400)) else (some false)) else ((blocks_Fewest.f kj8 t396 (wrap64 (a1 - (rd l0 (rd t385 (ji16)))))).bind fun bt402 => (if bt402.2 = 0 then (if (bt402.1.length : Int) = (wrap64 ((t385.length : Int) - 1)) then ((metrolablaw50_awake.f kj8).bind fun t406 => (some t406)) else (some false)) else (some false)))) else (none)) else (none)) = some r := H
                  have A20 := Aside0.mk A200
                  clear A200
                  by_cases c21 : 0 ≤ (rd t385 (ji16))
                  · rw [if_pos c21] at H
                    have c21b0 : decide (0 ≤ (rd t385 (ji16))) = true := decide_eq_true c21
                    clear c21
                    by_cases c22 : (rd t385 (ji16)) < (l0.length : Int)
                    · rw [if_pos c22] at H
                      have c22b0 : decide ((rd t385 (ji16)) < (l0.length : Int)) = true := decide_eq_true c22
                      clear c22
                      by_cases c23 : a1 = (rd l0 (rd t385 (ji16)))
                      · rw [if_pos c23] at H
                        have c23b0 : (a1 == (rd l0 (rd t385 (ji16)))) = true := beq_iff_eq.mpr c23
                        have c23b1 : (a1 != (rd l0 (rd t385 (ji16)))) = false := bne_eq_false_iff_eq.mpr c23
                        clear c23
                        by_cases c24 : (t385.length : Int) = 1
                        · rw [if_pos c24] at H
                          have c24b0 : ((t385.length : Int) == 1) = true := beq_iff_eq.mpr c24
                          have c24b1 : ((t385.length : Int) != 1) = false := bne_eq_false_iff_eq.mpr c24
                          clear c24
                          replace H := Option.bind_eq_some_iff.mp H
                          obtain ⟨t400, A250, H⟩ := H
                          replace H : (some t400) = some r := H
                          have A25 := Aside0.mk A250
                          clear A250
                          obtain rfl := Option.some.inj H
                          have p392 : 0 ≤ ((ji16) : Int) := of_decide_eq_true (by first | (with_reducible assumption) | assumption)
                          have q392 : (ji16) < (t385.length : Int) := of_decide_eq_true (by first | (with_reducible assumption) | assumption)
                          obtain ⟨ad392, e392, hx392_0⟩ := Kd.at_int (Kd.R_reads' HO_7.out).2.2 (ji16) p392 q392
                          cases e392
                          replace p392 := eq_true p392
                          replace q392 := eq_true q392
                          go_wp2_with (first | ((with_reducible refine gate_callee (f := 33) rfl ?_); refine goesL_ (some 59) rfl rfl Try.func33 (by kernel_rfl) rfl #[.slice A0 l0.length c0] rfl (by (try simp only [List.map_toArray, List.map_cons, List.map_nil]); first | done | rfl | (simp only [List.length_drop, List.length_take]; rfl)) ?_; (with_reducible refine (slices_Clone_int_int.calls _ _ l0 t393 _ ?side1 ?side2 A19.out).mono ?_); (case side1 => repeat (first | exact (Kd.C_below HR0.out HB.out) | (with_reducible refine Kd.C_alloc ?_ _) | (with_reducible refine Kd.C_drewN ?_ _) | (with_reducible refine Kd.C_drew ?_))); (case side2 => exact HC0.out); rintro e w26 ⟨v394, rfl, ho0, hb⟩; refine ⟨_, rfl, ?_⟩; have n0_ := Aside0.mk (Kd.R_elder' (by (with_reducible repeat (first | apply Kd.R_alloc | apply Kd.R_drewN | apply Kd.R_drew)); exact HO_7.out) (Kd.R_base ho0) hb); have n1_ := Aside0.mk (Kd.R_lower (Kd.R_new' ho0 (Kd.R_lt (by (with_reducible repeat (first | apply Kd.R_alloc | apply Kd.R_drewN | apply Kd.R_drew)); exact HO_7.out))) (below_size (by repeat (first | (with_reducible first | exact HB.out | apply below_alloc | apply pw_below_drewN | apply below_drew1) | exact HB.out)))); have n2_ := Aside0.mk (below_step (by repeat (first | (with_reducible first | exact HB.out | apply below_alloc | apply pw_below_drewN | apply below_drew1) | exact HB.out)) hb); clear HO_7; clear HB; have HO_7 := n0_; have HO395 := n1_; have HB := n2_; clear n0_ n1_ n2_; (try clear hb); (try clear hb2); (try clear hk); (try clear hi); (try clear ho0); obtain ⟨Ao27, co27, eo27⟩ := Kd.R_slice HO395.out; subst eo27) | ((with_reducible refine gate_callee (f := 32) rfl ?_); refine goesL_ (some 63) rfl rfl Try.func32 (by kernel_rfl) rfl #[.slice Ao27 t393.length co27, .int .i64 (rd t385 (ji16)), .int .i64 (wrap64 ((rd t385 (ji16)) + 1))] rfl (by (try simp only [List.map_toArray, List.map_cons, List.map_nil]); first | done | (simp only [hji16]; rfl) | rfl | (simp only [List.length_drop, List.length_take]; rfl)) ?_; (with_reducible refine (slices_Delete_int_int.calls (fun k_ => some k_ = (.slice Ao27 t393.length co27 : Value).ownBlock) (.slice Ao27 t393.length co27) t393 (rd t385 (ji16)) (wrap64 ((rd t385 (ji16)) + 1)) t396 w _ ?side1 ?side2 A20.out).mono ?_); (case side1 => repeat (first | (with_reducible first | exact HB.out | apply below_alloc | apply pw_below_drewN | apply below_drew1) | exact HB.out)); (case side2 => exact Kd.R_tight rfl HO395.out); rintro e w28 ⟨v397, rfl, ho0, hb, hkp⟩; refine ⟨_, rfl, ?_⟩; have n0_ := Aside0.mk (Kd.R_mono (ok' := fun k_ => some k_ ≠ (v397 : Value).ownBlock) (Kd.R_keptB (HO_7.out) hkp (fun k_ hk_ hs_ => (hk_.2) hs_)) (fun k_ hk_ => fun e_ => Or.elim (ho0.1 k_ e_.symm) (fun hs_ => hk_.2.1 hs_) (fun hn_ => Nat.not_le.2 hk_.2.2 hn_))); have n1_ := Aside0.mk (Kd.R_mono (ok' := fun k_ => some k_ ≠ (.slice (some ad392) t385.length co11 : Value).ownBlock) ho0 (fun k_ hk_ => Or.elim hk_ (fun hs_ => fun e_ => (((HO_7.out).1 k_ e_.symm).2) hs_) (fun hn_ => (Kd.fresh' (Kd.R_lt (by (with_reducible repeat (first | apply Kd.R_alloc | apply Kd.R_drewN | apply Kd.R_drew)); exact HO_7.out)) k_ hn_)))); have n2_ := Aside0.mk (hb); clear HO_7; clear HB; clear HO395; have HO_7 := n0_; have HO398 := n1_; have HB := n2_; clear n0_ n1_ n2_; (try clear hb); (try clear hkp); (try clear ho0); have p399 : 0 ≤ ((rd t385 (ji16)) : Int) := of_decide_eq_true (by first | (with_reducible assumption) | assumption); have q399 : (rd t385 (ji16)) < (l0.length : Int) := of_decide_eq_true (by first | (with_reducible assumption) | assumption); obtain ⟨ad399, e399, hx399_0⟩ := Kd.at_int HR0.out (rd t385 (ji16)) p399 q399; cases e399; replace hx399_0 := (HB.out.cell (World.block_lt_of_cell? w _ hx399_0)).trans hx399_0; replace p399 := eq_true p399; replace q399 := eq_true q399) | (go_at_call 12; (with_reducible refine (metrolablaw50_awake.calls kj8  t400 _ A25.out).mono ?_); rintro e w29 ⟨rfl, hb⟩; have n0_ := Aside0.mk (Kd.R_below (by (with_reducible repeat (first | apply Kd.R_alloc | apply Kd.R_drewN | apply Kd.R_drew)); exact HO_7.out) hb); have n1_ := Aside0.mk (Kd.R_below (by (with_reducible repeat (first | apply Kd.R_alloc | apply Kd.R_drewN | apply Kd.R_drew)); exact HO398.out) hb); have n2_ := Aside0.mk (below_step (by repeat (first | (with_reducible first | exact HB.out | apply below_alloc | apply pw_below_drewN | apply below_drew1) | exact HB.out)) hb); clear HO_7; clear HO398; clear HB; have HO_7 := n0_; have HO398 := n1_; have HB := n2_; clear n0_ n1_ n2_; (try clear hb); (try clear hb2); (try clear hk); (try clear hi)))
                          go_ret
                          exact ⟨by first | rfl | (simp [errW_none, errW_some] <;> rfl) | (simp only [← hji16]; first | rfl | (simp [errW_none, errW_some] <;> rfl)) | (simp [*, errW_none, errW_some] <;> rfl), by repeat (first | (with_reducible first | exact HB.out | apply below_alloc | apply pw_below_drewN | apply below_drew1) | exact HB.out)⟩
                        · rw [if_neg c24] at H
                          have c24b0 : ((t385.length : Int) == 1) = false := beq_eq_false_iff_ne.mpr c24
                          have c24b1 : ((t385.length : Int) != 1) = true := bne_iff_ne.mpr c24
                          obtain rfl := Option.some.inj H
                          have p392 : 0 ≤ ((ji16) : Int) := of_decide_eq_true (by first | (with_reducible assumption) | assumption)
                          have q392 : (ji16) < (t385.length : Int) := of_decide_eq_true (by first | (with_reducible assumption) | assumption)
                          obtain ⟨ad392, e392, hx392_0⟩ := Kd.at_int (Kd.R_reads' HO_7.out).2.2 (ji16) p392 q392
                          cases e392
                          replace p392 := eq_true p392
                          replace q392 := eq_true q392
                          go_wp2_with (first | ((with_reducible refine gate_callee (f := 33) rfl ?_); refine goesL_ (some 59) rfl rfl Try.func33 (by kernel_rfl) rfl #[.slice A0 l0.length c0] rfl (by (try simp only [List.map_toArray, List.map_cons, List.map_nil]); first | done | rfl | (simp only [List.length_drop, List.length_take]; rfl)) ?_; (with_reducible refine (slices_Clone_int_int.calls _ _ l0 t393 _ ?side1 ?side2 A19.out).mono ?_); (case side1 => repeat (first | exact (Kd.C_below HR0.out HB.out) | (with_reducible refine Kd.C_alloc ?_ _) | (with_reducible refine Kd.C_drewN ?_ _) | (with_reducible refine Kd.C_drew ?_))); (case side2 => exact HC0.out); rintro e w30 ⟨v394, rfl, ho0, hb⟩; refine ⟨_, rfl, ?_⟩; have n0_ := Aside0.mk (Kd.R_elder' (by (with_reducible repeat (first | apply Kd.R_alloc | apply Kd.R_drewN | apply Kd.R_drew)); exact HO_7.out) (Kd.R_base ho0) hb); have n1_ := Aside0.mk (Kd.R_lower (Kd.R_new' ho0 (Kd.R_lt (by (with_reducible repeat (first | apply Kd.R_alloc | apply Kd.R_drewN | apply Kd.R_drew)); exact HO_7.out))) (below_size (by repeat (first | (with_reducible first | exact HB.out | apply below_alloc | apply pw_below_drewN | apply below_drew1) | exact HB.out)))); have n2_ := Aside0.mk (below_step (by repeat (first | (with_reducible first | exact HB.out | apply below_alloc | apply pw_below_drewN | apply below_drew1) | exact HB.out)) hb); clear HO_7; clear HB; have HO_7 := n0_; have HO395 := n1_; have HB := n2_; clear n0_ n1_ n2_; (try clear hb); (try clear hb2); (try clear hk); (try clear hi); (try clear ho0); obtain ⟨Ao31, co31, eo31⟩ := Kd.R_slice HO395.out; subst eo31) | ((with_reducible refine gate_callee (f := 32) rfl ?_); refine goesL_ (some 63) rfl rfl Try.func32 (by kernel_rfl) rfl #[.slice Ao31 t393.length co31, .int .i64 (rd t385 (ji16)), .int .i64 (wrap64 ((rd t385 (ji16)) + 1))] rfl (by (try simp only [List.map_toArray, List.map_cons, List.map_nil]); first | done | (simp only [hji16]; rfl) | rfl | (simp only [List.length_drop, List.length_take]; rfl)) ?_; (with_reducible refine (slices_Delete_int_int.calls (fun k_ => some k_ = (.slice Ao31 t393.length co31 : Value).ownBlock) (.slice Ao31 t393.length co31) t393 (rd t385 (ji16)) (wrap64 ((rd t385 (ji16)) + 1)) t396 w _ ?side1 ?side2 A20.out).mono ?_); (case side1 => repeat (first | (with_reducible first | exact HB.out | apply below_alloc | apply pw_below_drewN | apply below_drew1) | exact HB.out)); (case side2 => exact Kd.R_tight rfl HO395.out); rintro e w32 ⟨v397, rfl, ho0, hb, hkp⟩; refine ⟨_, rfl, ?_⟩; have n0_ := Aside0.mk (Kd.R_mono (ok' := fun k_ => some k_ ≠ (v397 : Value).ownBlock) (Kd.R_keptB (HO_7.out) hkp (fun k_ hk_ hs_ => (hk_.2) hs_)) (fun k_ hk_ => fun e_ => Or.elim (ho0.1 k_ e_.symm) (fun hs_ => hk_.2.1 hs_) (fun hn_ => Nat.not_le.2 hk_.2.2 hn_))); have n1_ := Aside0.mk (Kd.R_mono (ok' := fun k_ => some k_ ≠ (.slice (some ad392) t385.length co11 : Value).ownBlock) ho0 (fun k_ hk_ => Or.elim hk_ (fun hs_ => fun e_ => (((HO_7.out).1 k_ e_.symm).2) hs_) (fun hn_ => (Kd.fresh' (Kd.R_lt (by (with_reducible repeat (first | apply Kd.R_alloc | apply Kd.R_drewN | apply Kd.R_drew)); exact HO_7.out)) k_ hn_)))); have n2_ := Aside0.mk (hb); clear HO_7; clear HB; clear HO395; have HO_7 := n0_; have HO398 := n1_; have HB := n2_; clear n0_ n1_ n2_; (try clear hb); (try clear hkp); (try clear ho0); have p399 : 0 ≤ ((rd t385 (ji16)) : Int) := of_decide_eq_true (by first | (with_reducible assumption) | assumption); have q399 : (rd t385 (ji16)) < (l0.length : Int) := of_decide_eq_true (by first | (with_reducible assumption) | assumption); obtain ⟨ad399, e399, hx399_0⟩ := Kd.at_int HR0.out (rd t385 (ji16)) p399 q399; cases e399; replace hx399_0 := (HB.out.cell (World.block_lt_of_cell? w _ hx399_0)).trans hx399_0; replace p399 := eq_true p399; replace q399 := eq_true q399))
                          go_ret
                          exact ⟨by first | rfl | (simp [errW_none, errW_some] <;> rfl) | (simp only [← hji16]; first | rfl | (simp [errW_none, errW_some] <;> rfl)) | (simp [*, errW_none, errW_some] <;> rfl), by repeat (first | (with_reducible first | exact HB.out | apply below_alloc | apply pw_below_drewN | apply below_drew1) | exact HB.out)⟩
                      · rw [if_neg c23] at H
                        have c23b0 : (a1 == (rd l0 (rd t385 (ji16)))) = false := beq_eq_false_iff_ne.mpr c23
                        have c23b1 : (a1 != (rd l0 (rd t385 (ji16)))) = true := bne_iff_ne.mpr c23
                        replace H := Option.bind_eq_some_iff.mp H
                        obtain ⟨⟨t402, t403⟩, A330, H⟩ := H
                        replace H : (if t403 = 0 then (if (t402.length : Int) = (wrap64 ((t385.length : Int) - 1)) then ((metrolablaw50_awake.f kj8).bind fun t406 => (some t406)) else (some false)) else (some false)) = some r := H
                        have A33 := Aside0.mk A330
                        clear A330
                        by_cases c34 : t403 = 0
                        · rw [if_pos c34] at H
                          have c34b0 : (t403 == 0) = true := beq_iff_eq.mpr c34
                          have c34b1 : (t403 != 0) = false := bne_eq_false_iff_eq.mpr c34
                          clear c34
                          by_cases c35 : (t402.length : Int) = (wrap64 ((t385.length : Int) - 1))
                          · rw [if_pos c35] at H
                            have c35b0 : ((t402.length : Int) == (wrap64 ((t385.length : Int) - 1))) = true := beq_iff_eq.mpr c35
                            have c35b1 : ((t402.length : Int) != (wrap64 ((t385.length : Int) - 1))) = false := bne_eq_false_iff_eq.mpr c35
                            clear c35
                            replace H := Option.bind_eq_some_iff.mp H
                            obtain ⟨t406, A360, H⟩ := H
                            replace H : (some t406) = some r := H
                            have A36 := Aside0.mk A360
                            clear A360
                            obtain rfl := Option.some.inj H
                            have p392 : 0 ≤ ((ji16) : Int) := of_decide_eq_true (by first | (with_reducible assumption) | assumption)
                            have q392 : (ji16) < (t385.length : Int) := of_decide_eq_true (by first | (with_reducible assumption) | assumption)
                            obtain ⟨ad392, e392, hx392_0⟩ := Kd.at_int (Kd.R_reads' HO_7.out).2.2 (ji16) p392 q392
                            cases e392
                            replace p392 := eq_true p392
                            replace q392 := eq_true q392
                            go_wp2_with (first | ((with_reducible refine gate_callee (f := 33) rfl ?_); refine goesL_ (some 59) rfl rfl Try.func33 (by kernel_rfl) rfl #[.slice A0 l0.length c0] rfl (by (try simp only [List.map_toArray, List.map_cons, List.map_nil]); first | done | rfl | (simp only [List.length_drop, List.length_take]; rfl)) ?_; (with_reducible refine (slices_Clone_int_int.calls _ _ l0 t393 _ ?side1 ?side2 A19.out).mono ?_); (case side1 => repeat (first | exact (Kd.C_below HR0.out HB.out) | (with_reducible refine Kd.C_alloc ?_ _) | (with_reducible refine Kd.C_drewN ?_ _) | (with_reducible refine Kd.C_drew ?_))); (case side2 => exact HC0.out); rintro e w37 ⟨v394, rfl, ho0, hb⟩; refine ⟨_, rfl, ?_⟩; have n0_ := Aside0.mk (Kd.R_elder' (by (with_reducible repeat (first | apply Kd.R_alloc | apply Kd.R_drewN | apply Kd.R_drew)); exact HO_7.out) (Kd.R_base ho0) hb); have n1_ := Aside0.mk (Kd.R_lower (Kd.R_new' ho0 (Kd.R_lt (by (with_reducible repeat (first | apply Kd.R_alloc | apply Kd.R_drewN | apply Kd.R_drew)); exact HO_7.out))) (below_size (by repeat (first | (with_reducible first | exact HB.out | apply below_alloc | apply pw_below_drewN | apply below_drew1) | exact HB.out)))); have n2_ := Aside0.mk (below_step (by repeat (first | (with_reducible first | exact HB.out | apply below_alloc | apply pw_below_drewN | apply below_drew1) | exact HB.out)) hb); clear HO_7; clear HB; have HO_7 := n0_; have HO395 := n1_; have HB := n2_; clear n0_ n1_ n2_; (try clear hb); (try clear hb2); (try clear hk); (try clear hi); (try clear ho0); obtain ⟨Ao38, co38, eo38⟩ := Kd.R_slice HO395.out; subst eo38) | ((with_reducible refine gate_callee (f := 32) rfl ?_); refine goesL_ (some 63) rfl rfl Try.func32 (by kernel_rfl) rfl #[.slice Ao38 t393.length co38, .int .i64 (rd t385 (ji16)), .int .i64 (wrap64 ((rd t385 (ji16)) + 1))] rfl (by (try simp only [List.map_toArray, List.map_cons, List.map_nil]); first | done | (simp only [hji16]; rfl) | rfl | (simp only [List.length_drop, List.length_take]; rfl)) ?_; (with_reducible refine (slices_Delete_int_int.calls (fun k_ => some k_ = (.slice Ao38 t393.length co38 : Value).ownBlock) (.slice Ao38 t393.length co38) t393 (rd t385 (ji16)) (wrap64 ((rd t385 (ji16)) + 1)) t396 w _ ?side1 ?side2 A20.out).mono ?_); (case side1 => repeat (first | (with_reducible first | exact HB.out | apply below_alloc | apply pw_below_drewN | apply below_drew1) | exact HB.out)); (case side2 => exact Kd.R_tight rfl HO395.out); rintro e w39 ⟨v397, rfl, ho0, hb, hkp⟩; refine ⟨_, rfl, ?_⟩; have n0_ := Aside0.mk (Kd.R_mono (ok' := fun k_ => some k_ ≠ (v397 : Value).ownBlock) (Kd.R_keptB (HO_7.out) hkp (fun k_ hk_ hs_ => (hk_.2) hs_)) (fun k_ hk_ => fun e_ => Or.elim (ho0.1 k_ e_.symm) (fun hs_ => hk_.2.1 hs_) (fun hn_ => Nat.not_le.2 hk_.2.2 hn_))); have n1_ := Aside0.mk (Kd.R_mono (ok' := fun k_ => some k_ ≠ (.slice (some ad392) t385.length co11 : Value).ownBlock) ho0 (fun k_ hk_ => Or.elim hk_ (fun hs_ => fun e_ => (((HO_7.out).1 k_ e_.symm).2) hs_) (fun hn_ => (Kd.fresh' (Kd.R_lt (by (with_reducible repeat (first | apply Kd.R_alloc | apply Kd.R_drewN | apply Kd.R_drew)); exact HO_7.out)) k_ hn_)))); have n2_ := Aside0.mk (hb); clear HO_7; clear HB; clear HO395; have HO_7 := n0_; have HO398 := n1_; have HB := n2_; clear n0_ n1_ n2_; (try clear hb); (try clear hkp); (try clear ho0); have p399 : 0 ≤ ((rd t385 (ji16)) : Int) := of_decide_eq_true (by first | (with_reducible assumption) | assumption); have q399 : (rd t385 (ji16)) < (l0.length : Int) := of_decide_eq_true (by first | (with_reducible assumption) | assumption); obtain ⟨ad399, e399, hx399_0⟩ := Kd.at_int HR0.out (rd t385 (ji16)) p399 q399; cases e399; replace hx399_0 := (HB.out.cell (World.block_lt_of_cell? w _ hx399_0)).trans hx399_0; replace p399 := eq_true p399; replace q399 := eq_true q399; have p401 : 0 ≤ ((rd t385 (ji16)) : Int) := of_decide_eq_true (by first | (with_reducible assumption) | assumption); have q401 : (rd t385 (ji16)) < (l0.length : Int) := of_decide_eq_true (by first | (with_reducible assumption) | assumption); obtain ⟨ad401, e401, hx401_0⟩ := Kd.at_int HR0.out (rd t385 (ji16)) p401 q401; obtain rfl : ad399 = ad401 := (by injection e401); replace hx401_0 := (HB.out.cell (World.block_lt_of_cell? w _ hx401_0)).trans hx401_0; replace p401 := eq_true p401; replace q401 := eq_true q401; obtain ⟨Ao40, co40, eo40⟩ := Kd.R_slice HO398.out; subst eo40) | ((with_reducible refine gate_callee (f := 13) rfl ?_); refine goesL_ (some 84) rfl rfl Try.func13 (by kernel_rfl) rfl #[.slice Ao40 t396.length co40, .int .i64 (wrap64 (a1 - (rd l0 (rd t385 (ji16)))))] rfl (by (try simp only [List.map_toArray, List.map_cons, List.map_nil]); first | done | (simp only [hji16]; rfl) | rfl | (simp only [List.length_drop, List.length_take]; rfl)) ?_; (with_reducible refine (blocks_Fewest.calls kj8 _ _ t396 (wrap64 (a1 - (rd l0 (rd t385 (ji16))))) t402 t403 _ ?side1 ?side2 A33.out).mono ?_); (case side1 => repeat (first | exact (Kd.R_reads' HO398.out).2.2 | (with_reducible refine Kd.C_alloc ?_ _) | (with_reducible refine Kd.C_drewN ?_ _) | (with_reducible refine Kd.C_drew ?_))); (case side2 => exact (Kd.R_reads' HO398.out).2.1); rintro e w41 ⟨v404, rfl, ho0, hb⟩; refine ⟨_, rfl, ?_⟩; have n0_ := Aside0.mk (Kd.R_elder' (by (with_reducible repeat (first | apply Kd.R_alloc | apply Kd.R_drewN | apply Kd.R_drew)); exact HO_7.out) (Kd.R_base ho0) hb); have n1_ := Aside0.mk (Kd.R_elder' (by (with_reducible repeat (first | apply Kd.R_alloc | apply Kd.R_drewN | apply Kd.R_drew)); exact HO398.out) (Kd.R_base ho0) hb); have n2_ := Aside0.mk (Kd.R_lower (Kd.R_new' (Kd.R_new' ho0 (Kd.R_lt (by (with_reducible repeat (first | apply Kd.R_alloc | apply Kd.R_drewN | apply Kd.R_drew)); exact HO_7.out))) (Kd.R_lt (by (with_reducible repeat (first | apply Kd.R_alloc | apply Kd.R_drewN | apply Kd.R_drew)); exact HO398.out))) (below_size (by repeat (first | (with_reducible first | exact HB.out | apply below_alloc | apply pw_below_drewN | apply below_drew1) | exact HB.out)))); have n3_ := Aside0.mk (below_step (by repeat (first | (with_reducible first | exact HB.out | apply below_alloc | apply pw_below_drewN | apply below_drew1) | exact HB.out)) hb); clear HO_7; clear HO398; clear HB; have HO_7 := n0_; have HO398 := n1_; have HO405 := n2_; have HB := n3_; clear n0_ n1_ n2_ n3_; (try clear hb); (try clear hb2); (try clear hk); (try clear hi); (try clear ho0); obtain ⟨Ao42, co42, eo42⟩ := Kd.R_slice HO405.out; subst eo42) | (go_at_call 12; (with_reducible refine (metrolablaw50_awake.calls kj8  t406 _ A36.out).mono ?_); rintro e w43 ⟨rfl, hb⟩; have n0_ := Aside0.mk (Kd.R_below (by (with_reducible repeat (first | apply Kd.R_alloc | apply Kd.R_drewN | apply Kd.R_drew)); exact HO_7.out) hb); have n1_ := Aside0.mk (Kd.R_below (by (with_reducible repeat (first | apply Kd.R_alloc | apply Kd.R_drewN | apply Kd.R_drew)); exact HO398.out) hb); have n2_ := Aside0.mk (Kd.R_below (by (with_reducible repeat (first | apply Kd.R_alloc | apply Kd.R_drewN | apply Kd.R_drew)); exact HO405.out) hb); have n3_ := Aside0.mk (below_step (by repeat (first | (with_reducible first | exact HB.out | apply below_alloc | apply pw_below_drewN | apply below_drew1) | exact HB.out)) hb); clear HO_7; clear HO398; clear HO405; clear HB; have HO_7 := n0_; have HO398 := n1_; have HO405 := n2_; have HB := n3_; clear n0_ n1_ n2_ n3_; (try clear hb); (try clear hb2); (try clear hk); (try clear hi)))
                            go_ret
                            exact ⟨by first | rfl | (simp [errW_none, errW_some] <;> rfl) | (simp only [← hji16]; first | rfl | (simp [errW_none, errW_some] <;> rfl)) | (simp [*, errW_none, errW_some] <;> rfl), by repeat (first | (with_reducible first | exact HB.out | apply below_alloc | apply pw_below_drewN | apply below_drew1) | exact HB.out)⟩
                          · rw [if_neg c35] at H
                            have c35b0 : ((t402.length : Int) == (wrap64 ((t385.length : Int) - 1))) = false := beq_eq_false_iff_ne.mpr c35
                            have c35b1 : ((t402.length : Int) != (wrap64 ((t385.length : Int) - 1))) = true := bne_iff_ne.mpr c35
                            obtain rfl := Option.some.inj H
                            have p392 : 0 ≤ ((ji16) : Int) := of_decide_eq_true (by first | (with_reducible assumption) | assumption)
                            have q392 : (ji16) < (t385.length : Int) := of_decide_eq_true (by first | (with_reducible assumption) | assumption)
                            obtain ⟨ad392, e392, hx392_0⟩ := Kd.at_int (Kd.R_reads' HO_7.out).2.2 (ji16) p392 q392
                            cases e392
                            replace p392 := eq_true p392
                            replace q392 := eq_true q392
                            go_wp2_with (first | ((with_reducible refine gate_callee (f := 33) rfl ?_); refine goesL_ (some 59) rfl rfl Try.func33 (by kernel_rfl) rfl #[.slice A0 l0.length c0] rfl (by (try simp only [List.map_toArray, List.map_cons, List.map_nil]); first | done | rfl | (simp only [List.length_drop, List.length_take]; rfl)) ?_; (with_reducible refine (slices_Clone_int_int.calls _ _ l0 t393 _ ?side1 ?side2 A19.out).mono ?_); (case side1 => repeat (first | exact (Kd.C_below HR0.out HB.out) | (with_reducible refine Kd.C_alloc ?_ _) | (with_reducible refine Kd.C_drewN ?_ _) | (with_reducible refine Kd.C_drew ?_))); (case side2 => exact HC0.out); rintro e w44 ⟨v394, rfl, ho0, hb⟩; refine ⟨_, rfl, ?_⟩; have n0_ := Aside0.mk (Kd.R_elder' (by (with_reducible repeat (first | apply Kd.R_alloc | apply Kd.R_drewN | apply Kd.R_drew)); exact HO_7.out) (Kd.R_base ho0) hb); have n1_ := Aside0.mk (Kd.R_lower (Kd.R_new' ho0 (Kd.R_lt (by (with_reducible repeat (first | apply Kd.R_alloc | apply Kd.R_drewN | apply Kd.R_drew)); exact HO_7.out))) (below_size (by repeat (first | (with_reducible first | exact HB.out | apply below_alloc | apply pw_below_drewN | apply below_drew1) | exact HB.out)))); have n2_ := Aside0.mk (below_step (by repeat (first | (with_reducible first | exact HB.out | apply below_alloc | apply pw_below_drewN | apply below_drew1) | exact HB.out)) hb); clear HO_7; clear HB; have HO_7 := n0_; have HO395 := n1_; have HB := n2_; clear n0_ n1_ n2_; (try clear hb); (try clear hb2); (try clear hk); (try clear hi); (try clear ho0); obtain ⟨Ao45, co45, eo45⟩ := Kd.R_slice HO395.out; subst eo45) | ((with_reducible refine gate_callee (f := 32) rfl ?_); refine goesL_ (some 63) rfl rfl Try.func32 (by kernel_rfl) rfl #[.slice Ao45 t393.length co45, .int .i64 (rd t385 (ji16)), .int .i64 (wrap64 ((rd t385 (ji16)) + 1))] rfl (by (try simp only [List.map_toArray, List.map_cons, List.map_nil]); first | done | (simp only [hji16]; rfl) | rfl | (simp only [List.length_drop, List.length_take]; rfl)) ?_; (with_reducible refine (slices_Delete_int_int.calls (fun k_ => some k_ = (.slice Ao45 t393.length co45 : Value).ownBlock) (.slice Ao45 t393.length co45) t393 (rd t385 (ji16)) (wrap64 ((rd t385 (ji16)) + 1)) t396 w _ ?side1 ?side2 A20.out).mono ?_); (case side1 => repeat (first | (with_reducible first | exact HB.out | apply below_alloc | apply pw_below_drewN | apply below_drew1) | exact HB.out)); (case side2 => exact Kd.R_tight rfl HO395.out); rintro e w46 ⟨v397, rfl, ho0, hb, hkp⟩; refine ⟨_, rfl, ?_⟩; have n0_ := Aside0.mk (Kd.R_mono (ok' := fun k_ => some k_ ≠ (v397 : Value).ownBlock) (Kd.R_keptB (HO_7.out) hkp (fun k_ hk_ hs_ => (hk_.2) hs_)) (fun k_ hk_ => fun e_ => Or.elim (ho0.1 k_ e_.symm) (fun hs_ => hk_.2.1 hs_) (fun hn_ => Nat.not_le.2 hk_.2.2 hn_))); have n1_ := Aside0.mk (Kd.R_mono (ok' := fun k_ => some k_ ≠ (.slice (some ad392) t385.length co11 : Value).ownBlock) ho0 (fun k_ hk_ => Or.elim hk_ (fun hs_ => fun e_ => (((HO_7.out).1 k_ e_.symm).2) hs_) (fun hn_ => (Kd.fresh' (Kd.R_lt (by (with_reducible repeat (first | apply Kd.R_alloc | apply Kd.R_drewN | apply Kd.R_drew)); exact HO_7.out)) k_ hn_)))); have n2_ := Aside0.mk (hb); clear HO_7; clear HB; clear HO395; have HO_7 := n0_; have HO398 := n1_; have HB := n2_; clear n0_ n1_ n2_; (try clear hb); (try clear hkp); (try clear ho0); have p399 : 0 ≤ ((rd t385 (ji16)) : Int) := of_decide_eq_true (by first | (with_reducible assumption) | assumption); have q399 : (rd t385 (ji16)) < (l0.length : Int) := of_decide_eq_true (by first | (with_reducible assumption) | assumption); obtain ⟨ad399, e399, hx399_0⟩ := Kd.at_int HR0.out (rd t385 (ji16)) p399 q399; cases e399; replace hx399_0 := (HB.out.cell (World.block_lt_of_cell? w _ hx399_0)).trans hx399_0; replace p399 := eq_true p399; replace q399 := eq_true q399; have p401 : 0 ≤ ((rd t385 (ji16)) : Int) := of_decide_eq_true (by first | (with_reducible assumption) | assumption); have q401 : (rd t385 (ji16)) < (l0.length : Int) := of_decide_eq_true (by first | (with_reducible assumption) | assumption); obtain ⟨ad401, e401, hx401_0⟩ := Kd.at_int HR0.out (rd t385 (ji16)) p401 q401; obtain rfl : ad399 = ad401 := (by injection e401); replace hx401_0 := (HB.out.cell (World.block_lt_of_cell? w _ hx401_0)).trans hx401_0; replace p401 := eq_true p401; replace q401 := eq_true q401; obtain ⟨Ao47, co47, eo47⟩ := Kd.R_slice HO398.out; subst eo47) | ((with_reducible refine gate_callee (f := 13) rfl ?_); refine goesL_ (some 84) rfl rfl Try.func13 (by kernel_rfl) rfl #[.slice Ao47 t396.length co47, .int .i64 (wrap64 (a1 - (rd l0 (rd t385 (ji16)))))] rfl (by (try simp only [List.map_toArray, List.map_cons, List.map_nil]); first | done | (simp only [hji16]; rfl) | rfl | (simp only [List.length_drop, List.length_take]; rfl)) ?_; (with_reducible refine (blocks_Fewest.calls kj8 _ _ t396 (wrap64 (a1 - (rd l0 (rd t385 (ji16))))) t402 t403 _ ?side1 ?side2 A33.out).mono ?_); (case side1 => repeat (first | exact (Kd.R_reads' HO398.out).2.2 | (with_reducible refine Kd.C_alloc ?_ _) | (with_reducible refine Kd.C_drewN ?_ _) | (with_reducible refine Kd.C_drew ?_))); (case side2 => exact (Kd.R_reads' HO398.out).2.1); rintro e w48 ⟨v404, rfl, ho0, hb⟩; refine ⟨_, rfl, ?_⟩; have n0_ := Aside0.mk (Kd.R_elder' (by (with_reducible repeat (first | apply Kd.R_alloc | apply Kd.R_drewN | apply Kd.R_drew)); exact HO_7.out) (Kd.R_base ho0) hb); have n1_ := Aside0.mk (Kd.R_elder' (by (with_reducible repeat (first | apply Kd.R_alloc | apply Kd.R_drewN | apply Kd.R_drew)); exact HO398.out) (Kd.R_base ho0) hb); have n2_ := Aside0.mk (Kd.R_lower (Kd.R_new' (Kd.R_new' ho0 (Kd.R_lt (by (with_reducible repeat (first | apply Kd.R_alloc | apply Kd.R_drewN | apply Kd.R_drew)); exact HO_7.out))) (Kd.R_lt (by (with_reducible repeat (first | apply Kd.R_alloc | apply Kd.R_drewN | apply Kd.R_drew)); exact HO398.out))) (below_size (by repeat (first | (with_reducible first | exact HB.out | apply below_alloc | apply pw_below_drewN | apply below_drew1) | exact HB.out)))); have n3_ := Aside0.mk (below_step (by repeat (first | (with_reducible first | exact HB.out | apply below_alloc | apply pw_below_drewN | apply below_drew1) | exact HB.out)) hb); clear HO_7; clear HO398; clear HB; have HO_7 := n0_; have HO398 := n1_; have HO405 := n2_; have HB := n3_; clear n0_ n1_ n2_ n3_; (try clear hb); (try clear hb2); (try clear hk); (try clear hi); (try clear ho0); obtain ⟨Ao49, co49, eo49⟩ := Kd.R_slice HO405.out; subst eo49))
                            go_ret
                            exact ⟨by first | rfl | (simp [errW_none, errW_some] <;> rfl) | (simp only [← hji16]; first | rfl | (simp [errW_none, errW_some] <;> rfl)) | (simp [*, errW_none, errW_some] <;> rfl), by repeat (first | (with_reducible first | exact HB.out | apply below_alloc | apply pw_below_drewN | apply below_drew1) | exact HB.out)⟩
                        · rw [if_neg c34] at H
                          have c34b0 : (t403 == 0) = false := beq_eq_false_iff_ne.mpr c34
                          have c34b1 : (t403 != 0) = true := bne_iff_ne.mpr c34
                          obtain rfl := Option.some.inj H
                          have p392 : 0 ≤ ((ji16) : Int) := of_decide_eq_true (by first | (with_reducible assumption) | assumption)
                          have q392 : (ji16) < (t385.length : Int) := of_decide_eq_true (by first | (with_reducible assumption) | assumption)
                          obtain ⟨ad392, e392, hx392_0⟩ := Kd.at_int (Kd.R_reads' HO_7.out).2.2 (ji16) p392 q392
                          cases e392
                          replace p392 := eq_true p392
                          replace q392 := eq_true q392
                          go_wp2_with (first | ((with_reducible refine gate_callee (f := 33) rfl ?_); refine goesL_ (some 59) rfl rfl Try.func33 (by kernel_rfl) rfl #[.slice A0 l0.length c0] rfl (by (try simp only [List.map_toArray, List.map_cons, List.map_nil]); first | done | rfl | (simp only [List.length_drop, List.length_take]; rfl)) ?_; (with_reducible refine (slices_Clone_int_int.calls _ _ l0 t393 _ ?side1 ?side2 A19.out).mono ?_); (case side1 => repeat (first | exact (Kd.C_below HR0.out HB.out) | (with_reducible refine Kd.C_alloc ?_ _) | (with_reducible refine Kd.C_drewN ?_ _) | (with_reducible refine Kd.C_drew ?_))); (case side2 => exact HC0.out); rintro e w50 ⟨v394, rfl, ho0, hb⟩; refine ⟨_, rfl, ?_⟩; have n0_ := Aside0.mk (Kd.R_elder' (by (with_reducible repeat (first | apply Kd.R_alloc | apply Kd.R_drewN | apply Kd.R_drew)); exact HO_7.out) (Kd.R_base ho0) hb); have n1_ := Aside0.mk (Kd.R_lower (Kd.R_new' ho0 (Kd.R_lt (by (with_reducible repeat (first | apply Kd.R_alloc | apply Kd.R_drewN | apply Kd.R_drew)); exact HO_7.out))) (below_size (by repeat (first | (with_reducible first | exact HB.out | apply below_alloc | apply pw_below_drewN | apply below_drew1) | exact HB.out)))); have n2_ := Aside0.mk (below_step (by repeat (first | (with_reducible first | exact HB.out | apply below_alloc | apply pw_below_drewN | apply below_drew1) | exact HB.out)) hb); clear HO_7; clear HB; have HO_7 := n0_; have HO395 := n1_; have HB := n2_; clear n0_ n1_ n2_; (try clear hb); (try clear hb2); (try clear hk); (try clear hi); (try clear ho0); obtain ⟨Ao51, co51, eo51⟩ := Kd.R_slice HO395.out; subst eo51) | ((with_reducible refine gate_callee (f := 32) rfl ?_); refine goesL_ (some 63) rfl rfl Try.func32 (by kernel_rfl) rfl #[.slice Ao51 t393.length co51, .int .i64 (rd t385 (ji16)), .int .i64 (wrap64 ((rd t385 (ji16)) + 1))] rfl (by (try simp only [List.map_toArray, List.map_cons, List.map_nil]); first | done | (simp only [hji16]; rfl) | rfl | (simp only [List.length_drop, List.length_take]; rfl)) ?_; (with_reducible refine (slices_Delete_int_int.calls (fun k_ => some k_ = (.slice Ao51 t393.length co51 : Value).ownBlock) (.slice Ao51 t393.length co51) t393 (rd t385 (ji16)) (wrap64 ((rd t385 (ji16)) + 1)) t396 w _ ?side1 ?side2 A20.out).mono ?_); (case side1 => repeat (first | (with_reducible first | exact HB.out | apply below_alloc | apply pw_below_drewN | apply below_drew1) | exact HB.out)); (case side2 => exact Kd.R_tight rfl HO395.out); rintro e w52 ⟨v397, rfl, ho0, hb, hkp⟩; refine ⟨_, rfl, ?_⟩; have n0_ := Aside0.mk (Kd.R_mono (ok' := fun k_ => some k_ ≠ (v397 : Value).ownBlock) (Kd.R_keptB (HO_7.out) hkp (fun k_ hk_ hs_ => (hk_.2) hs_)) (fun k_ hk_ => fun e_ => Or.elim (ho0.1 k_ e_.symm) (fun hs_ => hk_.2.1 hs_) (fun hn_ => Nat.not_le.2 hk_.2.2 hn_))); have n1_ := Aside0.mk (Kd.R_mono (ok' := fun k_ => some k_ ≠ (.slice (some ad392) t385.length co11 : Value).ownBlock) ho0 (fun k_ hk_ => Or.elim hk_ (fun hs_ => fun e_ => (((HO_7.out).1 k_ e_.symm).2) hs_) (fun hn_ => (Kd.fresh' (Kd.R_lt (by (with_reducible repeat (first | apply Kd.R_alloc | apply Kd.R_drewN | apply Kd.R_drew)); exact HO_7.out)) k_ hn_)))); have n2_ := Aside0.mk (hb); clear HO_7; clear HB; clear HO395; have HO_7 := n0_; have HO398 := n1_; have HB := n2_; clear n0_ n1_ n2_; (try clear hb); (try clear hkp); (try clear ho0); have p399 : 0 ≤ ((rd t385 (ji16)) : Int) := of_decide_eq_true (by first | (with_reducible assumption) | assumption); have q399 : (rd t385 (ji16)) < (l0.length : Int) := of_decide_eq_true (by first | (with_reducible assumption) | assumption); obtain ⟨ad399, e399, hx399_0⟩ := Kd.at_int HR0.out (rd t385 (ji16)) p399 q399; cases e399; replace hx399_0 := (HB.out.cell (World.block_lt_of_cell? w _ hx399_0)).trans hx399_0; replace p399 := eq_true p399; replace q399 := eq_true q399; have p401 : 0 ≤ ((rd t385 (ji16)) : Int) := of_decide_eq_true (by first | (with_reducible assumption) | assumption); have q401 : (rd t385 (ji16)) < (l0.length : Int) := of_decide_eq_true (by first | (with_reducible assumption) | assumption); obtain ⟨ad401, e401, hx401_0⟩ := Kd.at_int HR0.out (rd t385 (ji16)) p401 q401; obtain rfl : ad399 = ad401 := (by injection e401); replace hx401_0 := (HB.out.cell (World.block_lt_of_cell? w _ hx401_0)).trans hx401_0; replace p401 := eq_true p401; replace q401 := eq_true q401; obtain ⟨Ao53, co53, eo53⟩ := Kd.R_slice HO398.out; subst eo53) | ((with_reducible refine gate_callee (f := 13) rfl ?_); refine goesL_ (some 84) rfl rfl Try.func13 (by kernel_rfl) rfl #[.slice Ao53 t396.length co53, .int .i64 (wrap64 (a1 - (rd l0 (rd t385 (ji16)))))] rfl (by (try simp only [List.map_toArray, List.map_cons, List.map_nil]); first | done | (simp only [hji16]; rfl) | rfl | (simp only [List.length_drop, List.length_take]; rfl)) ?_; (with_reducible refine (blocks_Fewest.calls kj8 _ _ t396 (wrap64 (a1 - (rd l0 (rd t385 (ji16))))) t402 t403 _ ?side1 ?side2 A33.out).mono ?_); (case side1 => repeat (first | exact (Kd.R_reads' HO398.out).2.2 | (with_reducible refine Kd.C_alloc ?_ _) | (with_reducible refine Kd.C_drewN ?_ _) | (with_reducible refine Kd.C_drew ?_))); (case side2 => exact (Kd.R_reads' HO398.out).2.1); rintro e w54 ⟨v404, rfl, ho0, hb⟩; refine ⟨_, rfl, ?_⟩; have n0_ := Aside0.mk (Kd.R_elder' (by (with_reducible repeat (first | apply Kd.R_alloc | apply Kd.R_drewN | apply Kd.R_drew)); exact HO_7.out) (Kd.R_base ho0) hb); have n1_ := Aside0.mk (Kd.R_elder' (by (with_reducible repeat (first | apply Kd.R_alloc | apply Kd.R_drewN | apply Kd.R_drew)); exact HO398.out) (Kd.R_base ho0) hb); have n2_ := Aside0.mk (Kd.R_lower (Kd.R_new' (Kd.R_new' ho0 (Kd.R_lt (by (with_reducible repeat (first | apply Kd.R_alloc | apply Kd.R_drewN | apply Kd.R_drew)); exact HO_7.out))) (Kd.R_lt (by (with_reducible repeat (first | apply Kd.R_alloc | apply Kd.R_drewN | apply Kd.R_drew)); exact HO398.out))) (below_size (by repeat (first | (with_reducible first | exact HB.out | apply below_alloc | apply pw_below_drewN | apply below_drew1) | exact HB.out)))); have n3_ := Aside0.mk (below_step (by repeat (first | (with_reducible first | exact HB.out | apply below_alloc | apply pw_below_drewN | apply below_drew1) | exact HB.out)) hb); clear HO_7; clear HO398; clear HB; have HO_7 := n0_; have HO398 := n1_; have HO405 := n2_; have HB := n3_; clear n0_ n1_ n2_ n3_; (try clear hb); (try clear hb2); (try clear hk); (try clear hi); (try clear ho0)))
                          go_ret
                          exact ⟨by first | rfl | (simp [errW_none, errW_some] <;> rfl) | (simp only [← hji16]; first | rfl | (simp [errW_none, errW_some] <;> rfl)) | (simp [*, errW_none, errW_some] <;> rfl), by repeat (first | (with_reducible first | exact HB.out | apply below_alloc | apply pw_below_drewN | apply below_drew1) | exact HB.out)⟩
                    · rw [if_neg c22] at H
                      exact absurd H (by simp)
                  · rw [if_neg c21] at H
                    exact absurd H (by simp)
                · rw [if_neg c18] at H
                  exact absurd H (by simp)
              · rw [if_neg c17] at H
                exact absurd H (by simp)
    · rw [if_neg c7] at H
      have c7b0 : (t386 == 0) = false := beq_eq_false_iff_ne.mpr c7
      have c7b1 : (t386 != 0) = true := bne_iff_ne.mpr c7
      by_cases c55 : t386 = 6
      · rw [if_pos c55] at H
        have c55b0 : (t386 == 6) = true := beq_iff_eq.mpr c55
        have c55b1 : (t386 != 6) = false := bne_eq_false_iff_eq.mpr c55
        clear c55
        replace H := Option.bind_eq_some_iff.mp H
        obtain ⟨t389, A560, H⟩ := H
        replace H : (some t389) = some r := H
        have A56 := Aside0.mk A560
        clear A560
        obtain rfl := Option.some.inj H
        go_enter Try.func9, Try.ntmps9
        go_wp2_with (first | ((with_reducible refine gate_callee (f := 29) rfl ?_); refine goesL_ (some 16) rfl rfl Try.func29 (by kernel_rfl) rfl #[.slice A0 l0.length c0, .int .i64 a1] rfl (by (try simp only [List.map_toArray, List.map_cons, List.map_nil]); first | done | rfl | (simp only [List.length_drop, List.length_take]; rfl)) ?_; (with_reducible refine (metrolablaw50_right.calls k _ _ l0 a1 true _ ?side1 ?side2 A4.out).mono ?_); (case side1 => repeat (first | exact HR0.out | (with_reducible refine Kd.C_alloc ?_ _) | (with_reducible refine Kd.C_drewN ?_ _) | (with_reducible refine Kd.C_drew ?_))); (case side2 => exact HC0.out); rintro e w' ⟨rfl, ⟨nd, rfl⟩⟩; refine ⟨_, rfl, ?_⟩) | ((with_reducible refine gate_callee (f := 13) rfl ?_); refine goesL_ (some 22) rfl rfl Try.func13 (by kernel_rfl) rfl #[.slice A0 l0.length c0, .int .i64 a1] rfl (by (try simp only [List.map_toArray, List.map_cons, List.map_nil]); first | done | rfl | (simp only [List.length_drop, List.length_take]; rfl)) ?_; (with_reducible refine (blocks_Fewest.calls k _ _ l0 a1 t385 t386 _ ?side1 ?side2 A6.out).mono ?_); (case side1 => repeat (first | exact HR0.out | (with_reducible refine Kd.C_alloc ?_ _) | (with_reducible refine Kd.C_drewN ?_ _) | (with_reducible refine Kd.C_drew ?_))); (case side2 => exact HC0.out); rintro e w57 ⟨v387, rfl, ho0, hb⟩; refine ⟨_, rfl, ?_⟩; have n0_ := Aside0.mk (Kd.R_lower ho0 (below_size (by repeat (first | (with_reducible first | exact HB.out | apply below_alloc | apply pw_below_drewN | apply below_drew1) | exact HB.out)))); have n1_ := Aside0.mk (below_step (by repeat (first | (with_reducible first | exact HB.out | apply below_alloc | apply pw_below_drewN | apply below_drew1) | exact HB.out)) hb); clear HB; have HO388 := n0_; have HB := n1_; clear n0_ n1_; (try clear hb); (try clear hb2); (try clear hk); (try clear hi); (try clear ho0)) | (go_at_call 12; (with_reducible refine (metrolablaw50_awake.calls k  t389 _ A56.out).mono ?_); rintro e w58 ⟨rfl, hb⟩; have n0_ := Aside0.mk (Kd.R_below (by (with_reducible repeat (first | apply Kd.R_alloc | apply Kd.R_drewN | apply Kd.R_drew)); exact HO388.out) hb); have n1_ := Aside0.mk (below_step (by repeat (first | (with_reducible first | exact HB.out | apply below_alloc | apply pw_below_drewN | apply below_drew1) | exact HB.out)) hb); clear HO388; clear HB; have HO388 := n0_; have HB := n1_; clear n0_ n1_; (try clear hb); (try clear hb2); (try clear hk); (try clear hi)))
        go_ret
        exact ⟨by first | rfl | (simp [errW_none, errW_some] <;> rfl) | (simp [*, errW_none, errW_some] <;> rfl), by repeat (first | (with_reducible first | exact HB.out | apply below_alloc | apply pw_below_drewN | apply below_drew1) | exact HB.out)⟩
      · rw [if_neg c55] at H
        have c55b0 : (t386 == 6) = false := beq_eq_false_iff_ne.mpr c55
        have c55b1 : (t386 != 6) = true := bne_iff_ne.mpr c55
        obtain rfl := Option.some.inj H
        go_enter Try.func9, Try.ntmps9
        go_wp2_with (first | ((with_reducible refine gate_callee (f := 29) rfl ?_); refine goesL_ (some 16) rfl rfl Try.func29 (by kernel_rfl) rfl #[.slice A0 l0.length c0, .int .i64 a1] rfl (by (try simp only [List.map_toArray, List.map_cons, List.map_nil]); first | done | rfl | (simp only [List.length_drop, List.length_take]; rfl)) ?_; (with_reducible refine (metrolablaw50_right.calls k _ _ l0 a1 true _ ?side1 ?side2 A4.out).mono ?_); (case side1 => repeat (first | exact HR0.out | (with_reducible refine Kd.C_alloc ?_ _) | (with_reducible refine Kd.C_drewN ?_ _) | (with_reducible refine Kd.C_drew ?_))); (case side2 => exact HC0.out); rintro e w' ⟨rfl, ⟨nd, rfl⟩⟩; refine ⟨_, rfl, ?_⟩) | ((with_reducible refine gate_callee (f := 13) rfl ?_); refine goesL_ (some 22) rfl rfl Try.func13 (by kernel_rfl) rfl #[.slice A0 l0.length c0, .int .i64 a1] rfl (by (try simp only [List.map_toArray, List.map_cons, List.map_nil]); first | done | rfl | (simp only [List.length_drop, List.length_take]; rfl)) ?_; (with_reducible refine (blocks_Fewest.calls k _ _ l0 a1 t385 t386 _ ?side1 ?side2 A6.out).mono ?_); (case side1 => repeat (first | exact HR0.out | (with_reducible refine Kd.C_alloc ?_ _) | (with_reducible refine Kd.C_drewN ?_ _) | (with_reducible refine Kd.C_drew ?_))); (case side2 => exact HC0.out); rintro e w59 ⟨v387, rfl, ho0, hb⟩; refine ⟨_, rfl, ?_⟩; have n0_ := Aside0.mk (Kd.R_lower ho0 (below_size (by repeat (first | (with_reducible first | exact HB.out | apply below_alloc | apply pw_below_drewN | apply below_drew1) | exact HB.out)))); have n1_ := Aside0.mk (below_step (by repeat (first | (with_reducible first | exact HB.out | apply below_alloc | apply pw_below_drewN | apply below_drew1) | exact HB.out)) hb); clear HB; have HO388 := n0_; have HB := n1_; clear n0_ n1_; (try clear hb); (try clear hb2); (try clear hk); (try clear hi); (try clear ho0)))
        go_ret
        exact ⟨by first | rfl | (simp [errW_none, errW_some] <;> rfl) | (simp [*, errW_none, errW_some] <;> rfl), by repeat (first | (with_reducible first | exact HB.out | apply below_alloc | apply pw_below_drewN | apply below_drew1) | exact HB.out)⟩
  · replace c5 := Bool.eq_false_iff.mpr c5
    subst c5
    have H1 : ((metrolablaw50_awake.f k).bind fun t384 => (some t384)) = some r := by rw [if_neg (show ¬ (false = true) by decide)] at H; exact H
    clear H
    have H := H1
    clear H1
    replace H := Option.bind_eq_some_iff.mp H
    obtain ⟨t384, A600, H⟩ := H
    replace H : (some t384) = some r := H
    have A60 := Aside0.mk A600
    clear A600
    obtain rfl := Option.some.inj H
    go_enter Try.func9, Try.ntmps9
    go_wp2_with (first | ((with_reducible refine gate_callee (f := 29) rfl ?_); refine goesL_ (some 16) rfl rfl Try.func29 (by kernel_rfl) rfl #[.slice A0 l0.length c0, .int .i64 a1] rfl (by (try simp only [List.map_toArray, List.map_cons, List.map_nil]); first | done | rfl | (simp only [List.length_drop, List.length_take]; rfl)) ?_; (with_reducible refine (metrolablaw50_right.calls k _ _ l0 a1 false _ ?side1 ?side2 A4.out).mono ?_); (case side1 => repeat (first | exact HR0.out | (with_reducible refine Kd.C_alloc ?_ _) | (with_reducible refine Kd.C_drewN ?_ _) | (with_reducible refine Kd.C_drew ?_))); (case side2 => exact HC0.out); rintro e w' ⟨rfl, ⟨nd, rfl⟩⟩; refine ⟨_, rfl, ?_⟩) | ((with_reducible refine gate_callee (f := 12) rfl ?_); refine goesL_ (some 18) rfl rfl Try.func12 (by kernel_rfl) rfl #[] rfl (by (try simp only [List.map_toArray, List.map_cons, List.map_nil]); first | done | rfl | (simp only [List.length_drop, List.length_take]; rfl)) ?_; (with_reducible refine (metrolablaw50_awake.calls k  t384 _ A60.out).mono ?_); rintro e w61 ⟨rfl, hb⟩; refine ⟨_, rfl, ?_⟩; have n0_ := Aside0.mk (below_step (by repeat (first | (with_reducible first | exact HB.out | apply below_alloc | apply pw_below_drewN | apply below_drew1) | exact HB.out)) hb); clear HB; have HB := n0_; clear n0_; (try clear hb); (try clear hb2); (try clear hk); (try clear hi)))
    go_ret
    exact ⟨by first | rfl | (simp [errW_none, errW_some] <;> rfl) | (simp [*, errW_none, errW_some] <;> rfl), by repeat (first | (with_reducible first | exact HB.out | apply below_alloc | apply pw_below_drewN | apply below_drew1) | exact HB.out)⟩

/-- THE ONE PURE STATEMENT of metrolablaw50_BlocksLeave: yours. -/
def metrolablaw50_BlocksLeave.Pure : Prop := ∀ (l0 : List Int) (a1 : Int) (a2 : Int), l0.length ≤ maxLen → l0.length * 8 ≤ 140737488351232 → (∀ x ∈ l0, (Lit.int .i64 x).wf = true) → (Lit.int .i64 a1).wf = true → (Lit.int .u8 a2).wf = true → ∃ k, metrolablaw50_BlocksLeave.f k l0 a1 a2 = some true
theorem metrolablaw50_BlocksLeave.walk (P : metrolablaw50_BlocksLeave.Pure) (a0 : Option Addr) (len0 cap0 : Nat) (z0 : List Int) (a1 : Int) (a2 : Int) (w : World) (w0 : (a0 = none ∧ len0 = 0 ∧ cap0 = 0 ∧ z0 = []) ∨ ∃ x, a0 = some x ∧ len0 ≤ cap0 ∧ cap0 ≤ maxLen ∧ z0.length = cap0 ∧ (∀ i, i < z0.length → w.cell? (x.add i) = some (.int .i64 (z0.getD i 0))) ∧ ∀ n ∈ z0, (Lit.int .i64 n).wf = true) (y0 : len0 * 8 ≤ 140737488351232) (w1 : (Lit.int .i64 a1).wf = true) (w2 : (Lit.int .u8 a2).wf = true) :
    Calls Try.prog 9 #[.slice a0 len0 cap0, .int .i64 a1, .int .u8 a2] w fun e w' => e = .returned (.bool true) ∧ Below w.heap.size w w' := by
  obtain ⟨l0, rfl, hr0, hm0, hw0, hc0⟩ := ReadsInt.ofRowC w0
  obtain ⟨k, h⟩ := P l0 a1 a2 hm0 y0 hw0 w1 w2
  refine (metrolablaw50_BlocksLeave.calls k _ _ l0 a1 a2 true w (Kd.C_of_reads (d := (0 : Int)) (h1 := fun _ => rfl) hr0) hc0 h).mono ?_
  rintro e w' ⟨rfl, hd⟩
  exact ⟨rfl, hd⟩

end Go.Proofs.Ytgkgeodphgfgnaa.Pr
/- The plain laws: one step of the law BlocksLeave. -/
namespace Go.Proofs.Ytgkgeodphgfgnaa.Pr
open Go.RowKit Go.Proofs.YtgkgeodphgfgnaaW.PrintWords Go.Proofs.YtgkgeodphgfgnaaW.PrintLast
set_option maxHeartbeats 400000 in
theorem leave_step (k : Nat) (x0 : List Int) (x1 x2 : Int) (x7 oth : List Int) (m t x : Int) (e2 : Int.tmod (wrap64 x2) (x7.length : Int) = m) (q0 : ¬ ((x7.length : Int) = 0)) (q1 : 0 ≤ m) (q2 : m < (x7.length : Int)) (r1 : rd x7 m = t)
    (hcl : slices_Clone_int_int.f x0 = some x0) (hdel : slices_Delete_int_int.f x0 t (wrap64 (t + 1)) = some oth) (q3 : 0 ≤ t) (q4 : t < (x0.length : Int)) (r2 : rd x0 t = x) :
    metrolablaw50_BlocksLeave.j0 (k + 1) x0 x1 x2 x7 false = if x1 = x then (if (x7.length : Int) = 1 then ((metrolablaw50_awake.f k).bind fun t400 => (some t400)) else (some false)) else ((blocks_Fewest.f k oth (wrap64 (x1 - x))).bind fun bt402 => (if bt402.2 = 0 then (if (bt402.1.length : Int) = (wrap64 ((x7.length : Int) - 1)) then ((metrolablaw50_awake.f k).bind fun t406 => (some t406)) else (some false)) else (some false))) := by
  rw [metrolablaw50_BlocksLeave.j0, if_neg (by decide), if_neg q0, e2, if_pos q1, if_pos q2, r1, hcl, Option.bind_some, hdel, Option.bind_some, if_pos q3, if_pos q4, r2]
end Go.Proofs.Ytgkgeodphgfgnaa.Pr
/- The plain laws: a set without one of the blocks of a stack. -/
namespace Go.Proofs.Ytgkgeodphgfgnaa.Pr
open Go.RowKit Go.Proofs.YtgkgeodphgfgnaaW.PrintWords Go.Proofs.YtgkgeodphgfgnaaW.PrintLast

/-- The set without the block at a place. -/
def without : List Int → Nat → List Int
  | [], _ => []
  | _ :: xs, 0 => xs
  | x :: xs, t + 1 => x :: without xs t
theorem without_is : ∀ (l : List Int) (t : Nat), without l t = l.take t ++ l.drop (t + 1)
  | [], t => by simp [without]
  | x :: xs, 0 => by simp [without]
  | x :: xs, t + 1 => by simp [without, without_is xs t]
theorem without_sub : ∀ (l : List Int) (t : Nat), (without l t).Sublist l
  | [], _ => List.Sublist.refl _
  | x :: xs, 0 => List.sublist_cons_self x xs
  | x :: xs, t + 1 => (without_sub xs t).cons_cons x
theorem g59_neg : ∀ (xs : List Int) (m : Int), (∀ x ∈ xs, 1 ≤ x) → m < 0 → g59 xs m = 258
  | [], m, _, h => by unfold g59 cellv; rw [if_neg (by omega)]
  | x :: xs, m, hx, h => by
    have h1 := hx x List.mem_cons_self
    rw [g59_cons, g59_neg xs m (fun y hy => hx y (List.mem_cons_of_mem _ hy)) h, if_neg (by omega)]
    decide
theorem put_back : ∀ (l : List Int) (t : Nat) (x m : Int), l[t]? = some x → 1 ≤ x → 0 ≤ m → g59 l (m + x) ≤ g59 (without l t) m + 1
  | [], t, x, m, h, _, _ => by simp at h
  | y :: ys, 0, x, m, h, h1, h0 => by
    obtain rfl : y = x := by simpa using h
    rw [g59_cons, if_pos (by omega), show m + y - y = m by omega]
    simp only [without]
    omega
  | y :: ys, t + 1, x, m, h, h1, h0 => by
    have h' : ys[t]? = some x := by simpa using h
    have a := put_back ys t x m h' h1 h0
    have b1 := g59_bd ys (m + x)
    have b2 := g59_bd ys (m + x - y)
    simp only [without]
    rw [g59_cons, g59_cons]
    by_cases hy : m ≥ y
    · have b := put_back ys t x (m - y) h' h1 (by omega)
      rw [show m - y + x = m + x - y by omega] at b
      rw [if_pos hy, if_pos (by omega)]
      omega
    · rw [if_neg hy]
      omega
theorem pickV_lo : ∀ (xs : List Int) (i : Nat) (n : Int), ∀ j ∈ pickV i xs n, (i : Int) ≤ j
  | [], _, _, j, h => by simp [pickV] at h
  | x :: xs, i, n, j, h => by
    unfold pickV at h
    split at h
    · rcases List.mem_cons.1 h with rfl | h
      · exact Int.le_refl _
      · have := pickV_lo xs (i + 1) (n - x) j h; omega
    · have := pickV_lo xs (i + 1) n j h; omega
theorem take_out : ∀ (xs : List Int) (i t : Nat) (n x : Int), (∀ y ∈ xs, 1 ≤ y) → ((i + t : Nat) : Int) ∈ pickV i xs n → g59 xs n < 258 → xs[t]? = some x → g59 (without xs t) (n - x) ≤ g59 xs n - 1
  | [], i, t, n, x, _, h, _, _ => by simp [pickV] at h
  | y :: ys, i, t, n, x, hp, h, hlt, hx => by
    have hy1 := hp y List.mem_cons_self
    have hps : ∀ z ∈ ys, 1 ≤ z := fun z hz => hp z (List.mem_cons_of_mem _ hz)
    have hg := g59_cons y ys n
    have b1 := g59_bd ys n
    have b2 := g59_bd ys (n - y)
    unfold pickV at h
    by_cases hc : n ≥ y ∧ g59 ys (n - y) + 1 = g59 (y :: ys) n
    · rw [if_pos hc] at h
      cases t with
      | zero =>
        obtain rfl : y = x := by simpa using hx
        simp only [without]
        omega
      | succ t =>
        have h' : ((i + 1 + t : Nat) : Int) ∈ pickV (i + 1) ys (n - y) := by
          rcases List.mem_cons.1 h with e | h
          · omega
          · rw [show i + 1 + t = i + (t + 1) by omega]; exact h
        have ih := take_out ys (i + 1) t (n - y) x hps h' (by omega) (by simpa using hx)
        simp only [without]
        rw [g59_cons]
        by_cases hn : n - x ≥ y
        · rw [if_pos hn, show n - x - y = n - y - x by omega]
          omega
        · have := g59_neg (without ys t) (n - y - x) (fun z hz => hps z ((without_sub ys t).subset hz)) (by omega)
          omega
    · rw [if_neg hc] at h
      have hgx : g59 (y :: ys) n = g59 ys n := by
        by_cases hn : n ≥ y
        · rw [if_pos hn] at hg
          have : g59 ys (n - y) + 1 ≠ g59 (y :: ys) n := fun e => hc ⟨hn, e⟩
          omega
        · rw [if_neg hn] at hg
          omega
      cases t with
      | zero =>
        have := pickV_lo ys (i + 1) n _ h
        omega
      | succ t =>
        have ih := take_out ys (i + 1) t n x hps (by rw [show i + 1 + t = i + (t + 1) by omega]; exact h) (by omega) (by simpa using hx)
        simp only [without]
        rw [g59_cons]
        omega
theorem without_chk {l : List Int} (hc : chk l = 0) (t : Nat) : chk (without l t) = 0 := by
  obtain ⟨h1, h2⟩ := chk_zero.1 hc
  have hs := without_sub l t
  refine chk_zero.2 ⟨by have := hs.length_le; omega, srt_asc _ none (List.Pairwise.sublist hs (asc_srt l none h2).1) (fun x hx => h2.mem x (hs.subset hx)) (fun y hy => by cases hy)⟩
/-- A stack for n without its block at t: for the rest, one block fewer. -/
theorem leave_one {l : List Int} {n x : Int} {t : Nat} (hc : chk l = 0) (_h1 : 1 ≤ n) (hlt : g59 l n < 258) (ht : (t : Int) ∈ pickV 0 l n) (hx : l[t]? = some x) (hne : n ≠ x) :
    1 ≤ n - x ∧ g59 (without l t) (n - x) = g59 l n - 1 := by
  obtain ⟨_, hasc⟩ := chk_zero.1 hc
  have hp : ∀ y ∈ l, 1 ≤ y := fun y hy => (hasc.mem y hy).1
  have a := take_out l 0 t n x hp (by simpa using ht) hlt hx
  have hn : 0 ≤ n - x := by
    by_cases h : n - x < 0
    · have := g59_neg (without l t) (n - x) (fun z hz => hp z ((without_sub l t).subset hz)) h
      omega
    · omega
  have b := put_back l t x (n - x) hx (hp x (List.mem_of_getElem? hx)) hn
  rw [show n - x + x = n by omega] at b
  exact ⟨by omega, by omega⟩
theorem one_block {l : List Int} {n : Int} {t : Nat} (hc : chk l = 0) (h1 : 1 ≤ n) (hx : l[t]? = some n) (hlt : g59 l n < 258) : (pickV 0 l n).length = 1 := by
  obtain ⟨_, hasc⟩ := chk_zero.1 hc
  have hs := (g59_sub l [n] (List.singleton_sublist.2 (List.mem_of_getElem? hx)) (fun y hy => (hasc.mem y hy).1)).2
  simp at hs
  have hl := pickV_len l 0 n hlt
  have hne := topV_nil h1 hlt
  have : (pickV 0 l n).length ≠ 0 := fun e => hne (List.eq_nil_of_length_eq_zero e)
  omega
end Go.Proofs.Ytgkgeodphgfgnaa.Pr
/- The plain laws: the best stack is a stack. -/
namespace Go.Proofs.Ytgkgeodphgfgnaa.Pr
open Go.RowKit Go.Proofs.YtgkgeodphgfgnaaW.PrintWords Go.Proofs.YtgkgeodphgfgnaaW.PrintLast

theorem pick_tot (l : List Int) (n : Int) (hl : chk l = 0) (h0 : 0 ≤ n) (h : g59 l n < 258) : tot l (pickV 0 l n) = n ∧ ∀ i ∈ pickV 0 l n, 0 ≤ i ∧ i < (l.length : Int) := by
  obtain ⟨_, hasc⟩ := chk_zero.1 hl
  have hb := g59_bd l n
  have hf := find_some l l (g59 l n).toNat 0 n (by simp) (fun x hx => (hasc.mem x hx).1) (by omega) h h0
  have hhit := List.find?_some hf
  simp only [hit, decide_eq_true_eq] at hhit
  obtain ⟨h1, _⟩ := combs_mem _ 0 l.length _ (List.mem_of_find?_eq_some hf)
  exact ⟨hhit, fun i hi => by have := h1 i hi; omega⟩
theorem pickV_up : ∀ (xs : List Int) (i : Nat) (n : Int), ∀ j ∈ pickV i xs n, (i : Int) ≤ j
  | [], _, _, j, h => by simp [pickV] at h
  | x :: xs, i, n, j, h => by
    unfold pickV at h
    split at h
    · rcases List.mem_cons.1 h with rfl | h
      · exact Int.le_refl _
      · have := pickV_up xs (i + 1) (n - x) j h; omega
    · have := pickV_up xs (i + 1) n j h; omega
theorem pickV_srt : ∀ (xs : List Int) (i : Nat) (n : Int), (pickV i xs n).Pairwise (· < ·)
  | [], _, _ => List.Pairwise.nil
  | x :: xs, i, n => by
    unfold pickV
    split
    · exact List.pairwise_cons.2 ⟨fun j hj => by have := pickV_up xs (i + 1) (n - x) j hj; omega, pickV_srt xs (i + 1) (n - x)⟩
    · exact pickV_srt xs (i + 1) n
theorem stkGo_srt (m : Int) : ∀ (st : List Int) (p : Option Int), st.Pairwise (· < ·) → (∀ i ∈ st, 0 ≤ i ∧ i < m) → (∀ y, p = some y → ∀ i ∈ st, y < i) → stkGo m p st = 0
  | [], _, _, _, _ => rfl
  | x :: st, p, h, hb, hp => by
    obtain ⟨h1, h2⟩ := List.pairwise_cons.1 h
    have := hb x List.mem_cons_self
    simp only [stkGo]
    rw [if_neg (by omega), if_neg]
    · exact stkGo_srt m st (some x) h2 (fun i hi => hb i (List.mem_cons_of_mem _ hi)) (fun y hy i hi => by cases hy; exact h1 i hi)
    · cases p with
      | none => simp
      | some y => have := hp y rfl x List.mem_cons_self; simp; omega
theorem pick_stk (l : List Int) (n : Int) (hl : chk l = 0) (h0 : 0 ≤ n) (h : g59 l n < 258) : stkV l (pickV 0 l n) = 0 :=
  stkGo_srt _ _ none (pickV_srt l 0 n) (pick_tot l n hl h0 h).2 (fun y hy => by cases hy)
end Go.Proofs.Ytgkgeodphgfgnaa.Pr
namespace Go.Proofs.Ytgkgeodphgfgnaa.Pure
open Go.RowKit Go.Proofs.Ytgkgeodphgfgnaa.Pr Go.Proofs.YtgkgeodphgfgnaaW.PrintWords Go.Proofs.YtgkgeodphgfgnaaW.PrintLast

theorem wr1 {t : Nat} (h : t ≤ 1000) : wrap64 ((t : Int) + 1) = ((t + 1 : Nat) : Int) := by unfold wrap64; omega
theorem wr2 {a x : Int} (h1 : 1 ≤ a ∧ a ≤ 100000) (h2 : 1 ≤ x ∧ x ≤ 100000) : wrap64 (a - x) = a - x := by unfold wrap64; omega
theorem wr3 {n : Nat} (h : n ≤ 1000) : wrap64 ((n : Int) - 1) = (n : Int) - 1 := by unfold wrap64; omega
theorem wr4 {a : Nat} (h : a ≤ 1000) : wrap64 (a : Int) = (a : Int) := by unfold wrap64; omega
theorem clone_ok {l : List Int} {t : Nat} (h9 : l.length ≤ 9) (h : t < l.length) : slices_Clone_int_int.f l = some l := by
  unfold slices_Clone_int_int.f
  refine if_neg ?_
  rintro (e | e)
  · rw [e] at h; simp at h
  · omega
theorem delete_ok {l : List Int} {t : Nat} (h : t < l.length) : slices_Delete_int_int.f l (t : Int) ((t + 1 : Nat) : Int) = some (without l t) := by
  unfold slices_Delete_int_int.f
  rw [if_pos ⟨by intro e; rw [e] at h; simp at h, by omega, by omega, by omega⟩, without_is]
  rfl
set_option maxHeartbeats 1000000 in
theorem BlocksLeave : metrolablaw50_BlocksLeave.Pure := by
  intro l0 a1 a2 _ hb _ _ hw
  refine Ev.rounds (g := fun k => metrolablaw50_BlocksLeave.f k l0 a1 a2) ?_
  have hA : Ev (fun k => (metrolablaw50_awake.f k).bind fun t => some t) true := Ev.bind awake_ev (Ev.now _)
  refine Ev.bind (right_ev l0 a1) ?_
  by_cases hr : rightV l0 a1 = true
  · simp only [hr, if_true]
    obtain ⟨h9, hc, hn1, hn2⟩ := of_decide_eq_true hr
    obtain ⟨_, hasc⟩ := chk_zero.1 hc
    refine Ev.bind (fewest_ev l0 a1) ?_
    have f1 := small_fewest l0 a1 hc ⟨hn1, hn2⟩
    by_cases hg : g59 l0 a1 ≥ 258
    · rw [if_pos hg] at f1
      rw [f1]
      simp only [show ¬ ((6 : Int) = 0) by decide, if_false, if_true]
      exact hA
    · rw [if_neg hg] at f1
      rw [f1]
      simp only [if_true]
      have hlt : g59 l0 a1 < 258 := by omega
      obtain ⟨h6, h7⟩ := pick_tot l0 a1 hc (by omega) hlt
      have hle := pickV_le l0 0 a1
      have hl5 := pickV_len l0 0 a1 hlt
      have hne := topV_nil hn1 hlt
      have hpos : (pickV 0 l0 a1).length ≠ 0 := fun e => hne (List.eq_nil_of_length_eq_zero e)
      obtain ⟨l, hl⟩ : ∃ l, l = pickV 0 l0 a1 := ⟨_, rfl⟩
      rw [← hl] at h6 h7 hle hl5 hne hpos ⊢
      have hst : stkV l0 l = 0 := by
        rw [hl]
        exact pick_stk l0 a1 hc (by omega) hlt
      refine Ev.bind (length_ev l0 l (by omega)) ?_
      have e1 : lengthV l0 l = (a1, 0) := by
        unfold lengthV totV
        rw [if_pos hc, if_pos hst, h6]
      rw [e1]
      simp only [if_true]
      rw [show ((l.length : Int) == 0) = false from beq_eq_false_iff_ne.2 (by omega)]
      obtain ⟨w1, w2⟩ := Bool.and_eq_true_iff.1 (show (decide (IntKind.u8.min ≤ a2) && decide (a2 ≤ IntKind.u8.max)) = true from hw)
      have ha1 : (0 : Int) ≤ a2 := of_decide_eq_true w1
      have ha2 : a2 ≤ 255 := of_decide_eq_true w2
      obtain ⟨a, rfl⟩ : ∃ a : Nat, a2 = (a : Int) := ⟨a2.toNat, by omega⟩
      obtain ⟨m, hm⟩ : ∃ m, m = a % l.length := ⟨_, rfl⟩
      have hml : m < l.length := by rw [hm]; exact Nat.mod_lt _ (by omega)
      have q0 : ¬ ((l.length : Int) = 0) := fun e => hpos (Int.ofNat_eq_zero.1 e)
      have q2 : (m : Int) < (l.length : Int) := Int.ofNat_lt.2 hml
      have e2 : Int.tmod (wrap64 (a : Int)) (l.length : Int) = (m : Int) := by
        rw [wr4 (by omega), hm, Int.tmod_eq_emod_of_nonneg (Int.natCast_nonneg a)]
        rfl
      obtain ⟨y, hy, _⟩ := drop_at hml
      obtain ⟨y1, y2⟩ := h7 y (List.mem_of_getElem? hy)
      obtain ⟨t, rfl⟩ : ∃ t : Nat, y = (t : Int) := ⟨y.toNat, by omega⟩
      obtain ⟨x, hx, _⟩ := drop_at (show t < l0.length by omega)
      have hxm := hasc.mem x (List.mem_of_getElem? hx)
      have hmem : (t : Int) ∈ pickV 0 l0 a1 := by rw [← hl]; exact List.mem_of_getElem? hy
      have htl : t < l0.length := by omega
      have e3 := wr1 (t := t) (by omega)
      have e4 := wr2 (a := a1) (x := x) ⟨hn1, hn2⟩ hxm
      have e5 := wr3 (n := l.length) (by omega)
      have hcl := clone_ok h9 htl
      have hdel := delete_ok htl
      clear hm
      rw [← e3] at hdel
      refine Ev.step (fun k => leave_step k l0 a1 (a : Int) l (without l0 t) (m : Int) (t : Int) x e2 q0 (Int.natCast_nonneg m) q2 (rd_at hy) hcl hdel (Int.natCast_nonneg t) y2 (rd_at hx)) ?_
      rw [e4, e5]
      by_cases hax : a1 = x
      · have h1 : l.length = 1 := by
          rw [hl]
          refine one_block (t := t) hc hn1 ?_ hlt
          rw [hax]; exact hx
        rw [h1]
        simp only [hax, if_true]
        exact hA
      · obtain ⟨k1, k2⟩ := leave_one hc hn1 hlt hmem hx hax
        simp only [hax, if_false]
        refine Ev.bind (fewest_ev (without l0 t) (a1 - x)) ?_
        rw [small_fewest (without l0 t) (a1 - x) (without_chk hc t) ⟨k1, by omega⟩, if_neg (by omega)]
        have k3 := pickV_len (without l0 t) 0 (a1 - x) (by omega)
        have k4 : ((pickV 0 (without l0 t) (a1 - x)).length : Int) = (l.length : Int) - 1 := by omega
        simp only [if_true, k4]
        exact hA
  · simp only [hr, if_false, Bool.false_eq_true]
    exact hA

end Go.Proofs.Ytgkgeodphgfgnaa.Pure
-- PRINTED by print.py: the row of the law metrolablaw50_BlocksLeave, out of its Pure (the session's) and the printed walk. Not trusted: Lean checks it.
namespace Go.Proofs.Ytgkgeodphgfgnaa.blocksLeave
open Go.ChangeShapes Go.WideShapes Go.ChangeAt Go.RowKit
open Go.ChangeMaps (open_string shut_string)
set_option linter.unusedVariables false
theorem own : ownKnob Try.prog.godebug = none := by kernel_rfl
theorem laidOut : laidOutB Try.prog = true := by kernel_rfl
def IsRow (k : IntKind) (w : World) (a : Option Addr) (len cap : Nat) (zs : List Int) : Prop :=
  (a = none ∧ len = 0 ∧ cap = 0 ∧ zs = []) ∨
  ∃ x, a = some x ∧ len ≤ cap ∧ cap ≤ maxLen ∧ zs.length = cap ∧ (∀ i, i < zs.length → w.cell? (x.add i) = some (.int k (zs.getD i 0))) ∧ ∀ n ∈ zs, (Lit.int k n).wf = true
set_option maxRecDepth 100000 in
theorem lifted (os : Os) (started : os.Started) (H : Type) (enc : TypeId × Value → H) :
    ReturnsInHanded {} Try.checked os 9 .any (Rows.blocksLeaveSpec.pre6 enc Try.prog Try.f9 Rows.blocksLeaveRow.domain false) (Rows.blocksLeaveSpec.post enc Try.prog Try.f9 false true false false) := by
  refine returnsInHanded_of_change_sized (C := Try.checked) own started (by kernel_rfl) Try.func9
    (ChangeSpec.witness6 (enc := enc) (C := Try.checked) false ⟨#[], #[.slice none 0 0, .int .i64 0, .int .u8 0], []⟩ 8 (by kernel_rfl) (by kernel_rfl) (by kernel_rfl) (by kernel_rfl)) ?_
  intro W base args ds gs before hval0 hW hcnd hsz0 _
  have hsz : (DataW.weightsEach Try.prog (Try.f9.params.toList ++ Rows.blocksLeaveSpec.plain.varTypes Try.prog) (ds ++ gs)).all (· ≤ reachBytes) = true := hsz0
  have hval : ∀ (j : Nat) t v, Try.f9.params[j]? = some t → args[j]? = some v → Value.okWide Try.prog W .any base t v := hval0
  have hW' := hW
  obtain ⟨p, q, hA0, hV, rfl, hfz, hnd⟩ := hW
  have hA : DataW.TrodAll enc Try.prog W 0 (fun _ => true) true Try.f9.params.toList args.toList ds p := hA0
  rw [Try.params9] at hA hval hsz
  obtain ⟨v0, vs0, d0, ds0, p0, q0, hargs, rfl, rfl, h0, r0⟩ := trodAll_cons hA
  obtain ⟨v1, vs1, d1, ds1, p1, q1, rfl, rfl, rfl, h1, r1⟩ := trodAll_cons r0
  obtain ⟨v2, vs2, d2, ds2, p2, q2, rfl, rfl, rfl, h2, r2⟩ := trodAll_cons r1
  obtain ⟨rfl, rfl, rfl⟩ := trodAll_nil r2
  obtain rfl : args = #[v0, v1, v2] := by cases args; simp_all
  obtain ⟨rfl, rfl⟩ := trodVars_none hV
  obtain ⟨a0, len0, cap0, rfl⟩ := okWide_slice Try.underlying22 (hval 0 22 v0 rfl rfl)
  have k0 := h0
  have lt0 : ∀ x ∈ p0, x.block < W.heap.size := by obtain ⟨m, hm⟩ := k0; exact DataW.trod_lt m _ _ _ hm
  obtain ⟨z0, w0⟩ : ∃ zs, IsRow .i64 W a0 len0 cap0 zs := by
    obtain ⟨fuel, hf⟩ := h0
    rcases open_ints Try.underlying22 Try.underlying3 (by kernel_rfl) hf with ⟨hcs, _⟩ | ⟨x, l, c, zs, hcs, _, hl, hm, hz, _, hcell, hwz⟩
    · simp [Value.cells] at hcs
      obtain ⟨rfl, rfl, rfl⟩ := hcs
      exact ⟨[], .inl ⟨rfl, rfl, rfl, rfl⟩⟩
    · simp [Value.cells] at hcs
      obtain ⟨rfl, rfl, rfl⟩ := hcs
      exact ⟨zs, .inr ⟨_, rfl, hl, hm, by simpa using hz, hcell, hwz⟩⟩
  have y0 : len0 * 8 ≤ 140737488351232 := Go.Proofs.YtgkgeodphgfgnaaW.PrintWords.sized_ints hsz (j := 0) (t := 22) rfl rfl Try.underlying22 Try.underlying3 (by kernel_rfl) (by kernel_rfl) h0
  obtain ⟨a1, rfl, rfl, rfl, w1⟩ := open_int Try.underlying3 (hval 1 3 v1 rfl rfl) h1
  obtain ⟨a2, rfl, rfl, rfl, w2⟩ := open_int Try.underlying5 (hval 2 5 v2 rfl rfl) h2
  clear hA0 hval0 hsz0 hsz
  refine (Pr.metrolablaw50_BlocksLeave.walk Pure.BlocksLeave a0 len0 cap0 z0 a1 a2 W w0 y0 w1 w2).mono fun e W' ⟨he, bel⟩ => ?_
  subst he
  exact ⟨_, rfl, _, _, _, [], _, [], hW', trodAll_mk1 (shut_bool Try.underlying4 _), (trodAll_cons_mk (Below.trod laidOut (by kernel_rfl) (of_decide_eq_true (by kernel_rfl)) k0 bel lt0) (trodAll_cons_mk (shut_int Try.underlying3 w1) (trodAll_cons_mk (shut_int Try.underlying5 w2) trodAll_mk0))), rfl, bel.frame _, fun h => by cases h⟩
theorem over : Rows.blocksLeaveRow.holds Try.pinned (OpenSpec.ofChange Rows.blocksLeaveSpec) :=
  OpenClaim.holds_of_wide 9 Try.f9 rfl rfl rfl rfl rfl rfl rfl ⟨rfl, rfl, rfl, rfl, rfl⟩ rfl rfl rfl rfl rfl (by kernel_rfl) Try.func9 (by kernel_rfl)
    (of_decide_eq_true (by kernel_rfl)) (by unfold Func.isWrapper; first | (rw [if_pos (by decide +kernel)]; kernel_rfl) | (rw [if_neg (by decide +kernel)]; exact ⟨rfl, rfl⟩))
    (fun os started H enc _ => lifted os started H enc)
theorem proved : Rows.BlocksLeaveSaid := over
#print axioms proved
end Go.Proofs.Ytgkgeodphgfgnaa.blocksLeave
namespace Go.Proofs.Ytgkgeodphgfgnaa
/-- The row, under a short name, for the claim. -/
theorem blocksLeave_holds : Rows.BlocksLeaveSaid := blocksLeave.proved
end Go.Proofs.Ytgkgeodphgfgnaa
