/- The statement is proved as it is given, without a condition of ours. -/
import Derived.Test.YtnmmdeonkpfccaaB1
import Derived.Test.YtnmmdeonkpfccaaB4
import Derived.Test.YtnmmdeonkpfccaaB5
import Derived.Test.YtnmmdeonkpfccaaB3
import Derived.Test.YtnmmdeonkpfccaaB6
import Derived.Deep.Slices
import Derived.Deep.Fields
import Derived.ChangeSame
import Derived.SizedLaws
import Derived.Test.YtnmmdeonkpfccaaRows
import Derived.WalkKit
import Derived.ProofKit
import Derived.OpenShut
import Derived.ShutString
import Derived.ChangeOld
import Derived.Below
-- Printed for this claim by a program of this session, over the kit's printer. Not trusted: Lean checks it.
namespace Go.Proofs.Ytnmmdeonkpfccaa.Pr
open Go.RowKit Go.Proofs.YtnmmdeonkpfccaaW.PrintWords Go.Proofs.YtnmmdeonkpfccaaW.PrintLast Go.Proofs.YtnmmdeonkpfccaaW.PrintMore
attribute [local go_sem] max2_int min2_int max_two min_two max_three min_three max_four min_four
set_option linter.unusedVariables false
set_option linter.unusedSimpArgs false

/-! ### metrolablaw53_RecallStates: function 3 -/
def metrolablaw53_RecallStates.f (k : Nat) (l0 : List (S51)) : Option (Bool) := (metrolablaw53_few.f k l0 (⟨#[]⟩ : ByteArray)).bind fun t196 => (if t196 = true then ((recall_States.f l0).bind fun bt198 => ((metrolablaw53_own.f k l0).bind fun t202 => ((metrolabref53_States.f k t202).bind fun bt205 => ((recall_Parts.f l0).bind fun bt209 => ((metrolablaw53_own.f k l0).bind fun t213 => ((metrolabref53_Parts.f k t213).bind fun bt216 => ((metrolablaw53_awake.f).bind fun t220 => (if t220 = true then ((recall_Check.f l0).bind fun t221 => ((metrolablaw53_own.f k l0).bind fun t222 => ((metrolabref53_Check.f k t222).bind fun t225 => (if t221 = t225 then ((slices_Equal_int_int.f k bt198.1 bt205.1).bind fun t226 => (if t226 = true then (if bt198.2 = bt205.2 then ((slices_Equal_string_string.f k bt209.1 bt216.1).bind fun t227 => (if t227 = true then (some (bt209.2 == bt216.2)) else (some false))) else (some false)) else (some false))) else (some false))))) else (some false))))))))) else ((metrolablaw53_awake.f).bind fun t197 => (some t197)))
theorem metrolablaw53_RecallStates.mono : ∀ a0 k, LeO (metrolablaw53_RecallStates.f k a0) (metrolablaw53_RecallStates.f (k + 1) a0) := by
 intro a0 k
 unfold metrolablaw53_RecallStates.f
 repeat' first
   | (with_reducible exact metrolablaw53_few.mono _ _ _)
   | (with_reducible exact metrolablaw53_own.mono _ _)
   | (with_reducible exact metrolabref53_Check.mono _ _)
   | (with_reducible exact metrolabref53_Parts.mono _ _)
   | (with_reducible exact metrolabref53_States.mono _ _)
   | (with_reducible exact slices_Equal_int_int.mono _ _ _)
   | (with_reducible exact slices_Equal_string_string.mono _ _ _)
   | (with_reducible exact LeO.refl _)
   | (with_reducible exact LeO.none _)
   | (with_reducible refine LeO.ite ?_ ?_)
   | (with_reducible refine LeO.bind ?_ (fun _ => ?_))
   | exact metrolablaw53_few.mono _ _ _
   | exact metrolablaw53_own.mono _ _
   | exact metrolabref53_Check.mono _ _
   | exact metrolabref53_Parts.mono _ _
   | exact metrolabref53_States.mono _ _
   | exact slices_Equal_int_int.mono _ _ _
   | exact slices_Equal_string_string.mono _ _ _
   | exact LeO.none _
   | refine LeO.ite ?_ ?_
   | refine LeO.bind ?_ (fun _ => ?_)
set_option maxHeartbeats 8000000 in
set_option maxRecDepth 100000 in
theorem metrolablaw53_RecallStates.calls (k : Nat) (A0 : Option Addr) (c0 : Nat) (l0 : List (S51)) (r : Bool) (w : World) (hr0 : Kd.C k51 w A0 l0.length l0) (hc0 : l0.length ≤ c0) (hlaw : Aside0 (r = true)) (h : metrolablaw53_RecallStates.f k l0 = some r) :
  Calls Try.prog 3 #[.slice A0 l0.length c0] w fun e w' => e = .returned (.bool r) ∧ Below w.heap.size w w' := by
 have HR0 := Aside0.mk hr0
 have HC0 := Aside0.mk hc0
 clear hr0 hc0
 have HB := Aside0.mk (Below.refl w.heap.size w)
 have H : ((metrolablaw53_few.f k l0 (⟨#[]⟩ : ByteArray)).bind fun t196 => (if t196 = true then ((recall_States.f l0).bind fun bt198 => ((metrolablaw53_own.f k l0).bind fun t202 => ((metrolabref53_States.f k t202).bind fun bt205 => ((recall_Parts.f l0).bind fun bt209 => ((metrolablaw53_own.f k l0).bind fun t213 => ((metrolabref53_Parts.f k t213).bind fun bt216 => ((metrolablaw53_awake.f).bind fun t220 => (if t220 = true then ((recall_Check.f l0).bind fun t221 => ((metrolablaw53_own.f k l0).bind fun t222 => ((metrolabref53_Check.f k t222).bind fun t225 => (if t221 = t225 then ((slices_Equal_int_int.f k bt198.1 bt205.1).bind fun t226 => (if t226 = true then (if bt198.2 = bt205.2 then ((slices_Equal_string_string.f k bt209.1 bt216.1).bind fun t227 => (if t227 = true then (some (bt209.2 == bt216.2)) else (some false))) else (some false)) else (some false))) else (some false))))) else (some false))))))))) else ((metrolablaw53_awake.f).bind fun t197 => (some t197)))) = some r := h
 clear h
 replace H := Option.bind_eq_some_iff.mp H
 obtain ⟨t196, A20, H⟩ := H
 replace H : (if t196 = true then ((recall_States.f l0).bind fun bt198 => ((metrolablaw53_own.f k l0).bind fun t202 => ((metrolabref53_States.f k t202).bind fun bt205 => ((recall_Parts.f l0).bind fun bt209 => ((metrolablaw53_own.f k l0).bind fun t213 => ((metrolabref53_Parts.f k t213).bind fun bt216 => ((metrolablaw53_awake.f).bind fun t220 => (if t220 = true then ((recall_Check.f l0).bind fun t221 => ((metrolablaw53_own.f k l0).bind fun t222 => ((metrolabref53_Check.f k t222).bind fun t225 => (if t221 = t225 then ((slices_Equal_int_int.f k bt198.1 bt205.1).bind fun t226 => (if t226 = true then (if bt198.2 = bt205.2 then ((slices_Equal_string_string.f k bt209.1 bt216.1).bind fun t227 => (if t227 = true then (some (bt209.2 == bt216.2)) else (some false))) else (some false)) else (some false))) else (some false))))) else (some false))))))))) else ((metrolablaw53_awake.f).bind fun t197 => (some t197))) = some r := H
 have A2 := Aside0.mk A20
 clear A20
 by_cases c3 : t196 = true
 ·subst c3
  have H1 : ((recall_States.f l0).bind fun bt198 => ((metrolablaw53_own.f k l0).bind fun t202 => ((metrolabref53_States.f k t202).bind fun bt205 => ((recall_Parts.f l0).bind fun bt209 => ((metrolablaw53_own.f k l0).bind fun t213 => ((metrolabref53_Parts.f k t213).bind fun bt216 => ((metrolablaw53_awake.f).bind fun t220 => (if t220 = true then ((recall_Check.f l0).bind fun t221 => ((metrolablaw53_own.f k l0).bind fun t222 => ((metrolabref53_Check.f k t222).bind fun t225 => (if t221 = t225 then ((slices_Equal_int_int.f k bt198.1 bt205.1).bind fun t226 => (if t226 = true then (if bt198.2 = bt205.2 then ((slices_Equal_string_string.f k bt209.1 bt216.1).bind fun t227 => (if t227 = true then (some (bt209.2 == bt216.2)) else (some false))) else (some false)) else (some false))) else (some false))))) else (some false))))))))) = some r := by rw [if_pos rfl] at H; exact H
  clear H
  have H := H1
  clear H1
  replace H := Option.bind_eq_some_iff.mp H
  obtain ⟨⟨t198, t199⟩, A40, H⟩ := H
  replace H : ((metrolablaw53_own.f k l0).bind fun t202 => ((metrolabref53_States.f k t202).bind fun bt205 => ((recall_Parts.f l0).bind fun bt209 => ((metrolablaw53_own.f k l0).bind fun t213 => ((metrolabref53_Parts.f k t213).bind fun bt216 => ((metrolablaw53_awake.f).bind fun t220 => (if t220 = true then ((recall_Check.f l0).bind fun t221 => ((metrolablaw53_own.f k l0).bind fun t222 => ((metrolabref53_Check.f k t222).bind fun t225 => (if t221 = t225 then ((slices_Equal_int_int.f k t198 bt205.1).bind fun t226 => (if t226 = true then (if t199 = bt205.2 then ((slices_Equal_string_string.f k bt209.1 bt216.1).bind fun t227 => (if t227 = true then (some (bt209.2 == bt216.2)) else (some false))) else (some false)) else (some false))) else (some false))))) else (some false)))))))) = some r := H
  have A4 := Aside0.mk A40
  clear A40
  replace H := Option.bind_eq_some_iff.mp H
  obtain ⟨t202, A50, H⟩ := H
  replace H : ((metrolabref53_States.f k t202).bind fun bt205 => ((recall_Parts.f l0).bind fun bt209 => ((metrolablaw53_own.f k l0).bind fun t213 => ((metrolabref53_Parts.f k t213).bind fun bt216 => ((metrolablaw53_awake.f).bind fun t220 => (if t220 = true then ((recall_Check.f l0).bind fun t221 => ((metrolablaw53_own.f k l0).bind fun t222 => ((metrolabref53_Check.f k t222).bind fun t225 => (if t221 = t225 then ((slices_Equal_int_int.f k t198 bt205.1).bind fun t226 => (if t226 = true then (if t199 = bt205.2 then ((slices_Equal_string_string.f k bt209.1 bt216.1).bind fun t227 => (if t227 = true then (some (bt209.2 == bt216.2)) else (some false))) else (some false)) else (some false))) else (some false))))) else (some false))))))) = some r := H
  have A5 := Aside0.mk A50
  clear A50
  replace H := Option.bind_eq_some_iff.mp H
  obtain ⟨⟨t205, t206⟩, A60, H⟩ := H
  replace H : ((recall_Parts.f l0).bind fun bt209 => ((metrolablaw53_own.f k l0).bind fun t213 => ((metrolabref53_Parts.f k t213).bind fun bt216 => ((metrolablaw53_awake.f).bind fun t220 => (if t220 = true then ((recall_Check.f l0).bind fun t221 => ((metrolablaw53_own.f k l0).bind fun t222 => ((metrolabref53_Check.f k t222).bind fun t225 => (if t221 = t225 then ((slices_Equal_int_int.f k t198 t205).bind fun t226 => (if t226 = true then (if t199 = t206 then ((slices_Equal_string_string.f k bt209.1 bt216.1).bind fun t227 => (if t227 = true then (some (bt209.2 == bt216.2)) else (some false))) else (some false)) else (some false))) else (some false))))) else (some false)))))) = some r := H
  have A6 := Aside0.mk A60
  clear A60
  replace H := Option.bind_eq_some_iff.mp H
  obtain ⟨⟨t209, t210⟩, A70, H⟩ := H
  replace H : ((metrolablaw53_own.f k l0).bind fun t213 => ((metrolabref53_Parts.f k t213).bind fun bt216 => ((metrolablaw53_awake.f).bind fun t220 => (if t220 = true then ((recall_Check.f l0).bind fun t221 => ((metrolablaw53_own.f k l0).bind fun t222 => ((metrolabref53_Check.f k t222).bind fun t225 => (if t221 = t225 then ((slices_Equal_int_int.f k t198 t205).bind fun t226 => (if t226 = true then (if t199 = t206 then ((slices_Equal_string_string.f k t209 bt216.1).bind fun t227 => (if t227 = true then (some (t210 == bt216.2)) else (some false))) else (some false)) else (some false))) else (some false))))) else (some false))))) = some r := H
  have A7 := Aside0.mk A70
  clear A70
  replace H := Option.bind_eq_some_iff.mp H
  obtain ⟨t213, A80, H⟩ := H
  replace H : ((metrolabref53_Parts.f k t213).bind fun bt216 => ((metrolablaw53_awake.f).bind fun t220 => (if t220 = true then ((recall_Check.f l0).bind fun t221 => ((metrolablaw53_own.f k l0).bind fun t222 => ((metrolabref53_Check.f k t222).bind fun t225 => (if t221 = t225 then ((slices_Equal_int_int.f k t198 t205).bind fun t226 => (if t226 = true then (if t199 = t206 then ((slices_Equal_string_string.f k t209 bt216.1).bind fun t227 => (if t227 = true then (some (t210 == bt216.2)) else (some false))) else (some false)) else (some false))) else (some false))))) else (some false)))) = some r := H
  have A8 := Aside0.mk A80
  clear A80
  replace H := Option.bind_eq_some_iff.mp H
  obtain ⟨⟨t216, t217⟩, A90, H⟩ := H
  replace H : ((metrolablaw53_awake.f).bind fun t220 => (if t220 = true then ((recall_Check.f l0).bind fun t221 => ((metrolablaw53_own.f k l0).bind fun t222 => ((metrolabref53_Check.f k t222).bind fun t225 => (if t221 = t225 then ((slices_Equal_int_int.f k t198 t205).bind fun t226 => (if t226 = true then (if t199 = t206 then ((slices_Equal_string_string.f k t209 t216).bind fun t227 => (if t227 = true then (some (t210 == t217)) else (some false))) else (some false)) else (some false))) else (some false))))) else (some false))) = some r := H
  have A9 := Aside0.mk A90
  clear A90
  replace H := Option.bind_eq_some_iff.mp H
  obtain ⟨t220, A100, H⟩ := H
  replace H : (if t220 = true then ((recall_Check.f l0).bind fun t221 => ((metrolablaw53_own.f k l0).bind fun t222 => ((metrolabref53_Check.f k t222).bind fun t225 => (if t221 = t225 then ((slices_Equal_int_int.f k t198 t205).bind fun t226 => (if t226 = true then (if t199 = t206 then ((slices_Equal_string_string.f k t209 t216).bind fun t227 => (if t227 = true then (some (t210 == t217)) else (some false))) else (some false)) else (some false))) else (some false))))) else (some false)) = some r := H
  have A10 := Aside0.mk A100
  clear A100
  by_cases c11 : t220 = true
  ·subst c11
   have H1 : ((recall_Check.f l0).bind fun t221 => ((metrolablaw53_own.f k l0).bind fun t222 => ((metrolabref53_Check.f k t222).bind fun t225 => (if t221 = t225 then ((slices_Equal_int_int.f k t198 t205).bind fun t226 => (if t226 = true then (if t199 = t206 then ((slices_Equal_string_string.f k t209 t216).bind fun t227 => (if t227 = true then (some (t210 == t217)) else (some false))) else (some false)) else (some false))) else (some false))))) = some r := by rw [if_pos rfl] at H; exact H
   clear H
   have H := H1
   clear H1
   replace H := Option.bind_eq_some_iff.mp H
   obtain ⟨t221, A120, H⟩ := H
   replace H : ((metrolablaw53_own.f k l0).bind fun t222 => ((metrolabref53_Check.f k t222).bind fun t225 => (if t221 = t225 then ((slices_Equal_int_int.f k t198 t205).bind fun t226 => (if t226 = true then (if t199 = t206 then ((slices_Equal_string_string.f k t209 t216).bind fun t227 => (if t227 = true then (some (t210 == t217)) else (some false))) else (some false)) else (some false))) else (some false)))) = some r := H
   have A12 := Aside0.mk A120
   clear A120
   replace H := Option.bind_eq_some_iff.mp H
   obtain ⟨t222, A130, H⟩ := H
   replace H : ((metrolabref53_Check.f k t222).bind fun t225 => (if t221 = t225 then ((slices_Equal_int_int.f k t198 t205).bind fun t226 => (if t226 = true then (if t199 = t206 then ((slices_Equal_string_string.f k t209 t216).bind fun t227 => (if t227 = true then (some (t210 == t217)) else (some false))) else (some false)) else (some false))) else (some false))) = some r := H
   have A13 := Aside0.mk A130
   clear A130
   replace H := Option.bind_eq_some_iff.mp H
   obtain ⟨t225, A140, H⟩ := H
   replace H : (if t221 = t225 then ((slices_Equal_int_int.f k t198 t205).bind fun t226 => (if t226 = true then (if t199 = t206 then ((slices_Equal_string_string.f k t209 t216).bind fun t227 => (if t227 = true then (some (t210 == t217)) else (some false))) else (some false)) else (some false))) else (some false)) = some r := H
   have A14 := Aside0.mk A140
   clear A140
   by_cases c15 : t221 = t225
   ·rw [if_pos c15] at H
    have c15b0 : (t221 == t225) = true := beq_iff_eq.mpr c15
    have c15b1 : (t221 != t225) = false := bne_eq_false_iff_eq.mpr c15
    clear c15
    replace H := Option.bind_eq_some_iff.mp H
    obtain ⟨t226, A160, H⟩ := H
    replace H : (if t226 = true then (if t199 = t206 then ((slices_Equal_string_string.f k t209 t216).bind fun t227 => (if t227 = true then (some (t210 == t217)) else (some false))) else (some false)) else (some false)) = some r := H
    have A16 := Aside0.mk A160
    clear A160
    by_cases c17 : t226 = true
    ·subst c17
     have H1 : (if t199 = t206 then ((slices_Equal_string_string.f k t209 t216).bind fun t227 => (if t227 = true then (some (t210 == t217)) else (some false))) else (some false)) = some r := by rw [if_pos rfl] at H; exact H
     clear H
     have H := H1
     clear H1
     by_cases c18 : t199 = t206
     ·rw [if_pos c18] at H
      have c18b0 : (t199 == t206) = true := beq_iff_eq.mpr c18
      have c18b1 : (t199 != t206) = false := bne_eq_false_iff_eq.mpr c18
      clear c18
      replace H := Option.bind_eq_some_iff.mp H
      obtain ⟨t227, A190, H⟩ := H
      replace H : (if t227 = true then (some (t210 == t217)) else (some false)) = some r := H
      have A19 := Aside0.mk A190
      clear A190
      by_cases c20 : t227 = true
      ·subst c20
       have H1 : (some (t210 == t217)) = some r := by rw [if_pos rfl] at H; exact H
       clear H
       have H := H1
       clear H1
       obtain rfl := Option.some.inj H
       go_enter Try.func3, Try.ntmps3
       go_wp2_with (first | ((with_reducible refine gate_callee (f := 9) rfl ?_); refine goesL_ (some 12) rfl rfl Try.func9 (by kernel_rfl) rfl #[.slice A0 l0.length c0, .string (⟨#[]⟩ : ByteArray)] rfl (by (try simp only [List.map_toArray, List.map_cons, List.map_nil]); first | done | rfl | (simp only [List.length_drop, List.length_take]; rfl)) ?_; (with_reducible refine (metrolablaw53_few.calls k _ _ l0 (⟨#[]⟩ : ByteArray) true _ ?side1 ?side2 A2.out).mono ?_); (case side1 => repeat (first | exact HR0.out | (with_reducible refine Kd.C_alloc ?_ _) | (with_reducible refine Kd.C_drewN ?_ _) | (with_reducible refine Kd.C_drew ?_))); (case side2 => exact HC0.out); rintro e w21 ⟨rfl, hb⟩; refine ⟨_, rfl, ?_⟩; have n0_ := Aside0.mk (below_step (by repeat (first | (with_reducible first | exact HB.out | apply below_alloc | apply pw_below_drewN | apply below_drew1) | exact HB.out)) hb); clear HB; have HB := n0_; clear n0_; (try clear hb); (try clear hb2); (try clear hk); (try clear hi)) | ((with_reducible refine gate_callee (f := 11) rfl ?_); refine goesL_ (some 17) rfl rfl Try.func11 (by kernel_rfl) rfl #[.slice A0 l0.length c0] rfl (by (try simp only [List.map_toArray, List.map_cons, List.map_nil]); first | done | rfl | (simp only [List.length_drop, List.length_take]; rfl)) ?_; (with_reducible refine (recall_States.calls _ _ l0 t198 t199 _ ?side1 ?side2 A4.out).mono ?_); (case side1 => repeat (first | exact (Kd.C_below HR0.out HB.out) | (with_reducible refine Kd.C_alloc ?_ _) | (with_reducible refine Kd.C_drewN ?_ _) | (with_reducible refine Kd.C_drew ?_))); (case side2 => exact HC0.out); rintro e w22 ⟨v200, rfl, ho0, hb⟩; refine ⟨_, rfl, ?_⟩; have n0_ := Aside0.mk (Kd.R_lower ho0 (below_size (by repeat (first | (with_reducible first | exact HB.out | apply below_alloc | apply pw_below_drewN | apply below_drew1) | exact HB.out)))); have n1_ := Aside0.mk (below_step (by repeat (first | (with_reducible first | exact HB.out | apply below_alloc | apply pw_below_drewN | apply below_drew1) | exact HB.out)) hb); clear HB; have HO201 := n0_; have HB := n1_; clear n0_ n1_; (try clear hb); (try clear hb2); (try clear hk); (try clear hi); (try clear ho0)) | ((with_reducible refine gate_callee (f := 13) rfl ?_); refine goesL_ (some 22) rfl rfl Try.func13 (by kernel_rfl) rfl #[.slice A0 l0.length c0] rfl (by (try simp only [List.map_toArray, List.map_cons, List.map_nil]); first | done | rfl | (simp only [List.length_drop, List.length_take]; rfl)) ?_; (with_reducible refine (metrolablaw53_own.calls k _ _ l0 t202 _ ?side1 ?side2 A5.out).mono ?_); (case side1 => repeat (first | exact (Kd.C_below HR0.out HB.out) | (with_reducible refine Kd.C_alloc ?_ _) | (with_reducible refine Kd.C_drewN ?_ _) | (with_reducible refine Kd.C_drew ?_))); (case side2 => exact HC0.out); rintro e w23 ⟨v203, rfl, ho0, hb⟩; refine ⟨_, rfl, ?_⟩; have n0_ := Aside0.mk (Kd.R_below (by (with_reducible repeat (first | apply Kd.R_alloc | apply Kd.R_drewN | apply Kd.R_drew)); exact HO201.out) hb); have n1_ := Aside0.mk (Kd.R_lower ho0 (below_size (by repeat (first | (with_reducible first | exact HB.out | apply below_alloc | apply pw_below_drewN | apply below_drew1) | exact HB.out)))); have n2_ := Aside0.mk (below_step (by repeat (first | (with_reducible first | exact HB.out | apply below_alloc | apply pw_below_drewN | apply below_drew1) | exact HB.out)) hb); clear HO201; clear HB; have HO201 := n0_; have HO204 := n1_; have HB := n2_; clear n0_ n1_ n2_; (try clear hb); (try clear hb2); (try clear hk); (try clear hi); (try clear ho0); obtain ⟨Ao24, co24, eo24⟩ := Kd.R_slice HO204.out; subst eo24) | ((with_reducible refine gate_callee (f := 12) rfl ?_); refine goesL_ (some 23) rfl rfl Try.func12 (by kernel_rfl) rfl #[.slice Ao24 t202.length co24] rfl (by (try simp only [List.map_toArray, List.map_cons, List.map_nil]); first | done | rfl | (simp only [List.length_drop, List.length_take]; rfl)) ?_; (with_reducible refine (metrolabref53_States.calls k _ _ t202 t205 t206 _ ?side1 ?side2 A6.out).mono ?_); (case side1 => repeat (first | exact (Kd.R_reads' HO204.out).2.2 | (with_reducible refine Kd.C_alloc ?_ _) | (with_reducible refine Kd.C_drewN ?_ _) | (with_reducible refine Kd.C_drew ?_))); (case side2 => exact (Kd.R_reads' HO204.out).2.1); rintro e w25 ⟨v207, rfl, ho0, hb⟩; refine ⟨_, rfl, ?_⟩; have n0_ := Aside0.mk (Kd.R_elder' (by (with_reducible repeat (first | apply Kd.R_alloc | apply Kd.R_drewN | apply Kd.R_drew)); exact HO201.out) (Kd.R_base ho0) hb); have n1_ := Aside0.mk (Kd.R_below (by (with_reducible repeat (first | apply Kd.R_alloc | apply Kd.R_drewN | apply Kd.R_drew)); exact HO204.out) hb); have n2_ := Aside0.mk (Kd.R_lower (Kd.R_new' ho0 (Kd.R_lt (by (with_reducible repeat (first | apply Kd.R_alloc | apply Kd.R_drewN | apply Kd.R_drew)); exact HO201.out))) (below_size (by repeat (first | (with_reducible first | exact HB.out | apply below_alloc | apply pw_below_drewN | apply below_drew1) | exact HB.out)))); have n3_ := Aside0.mk (below_step (by repeat (first | (with_reducible first | exact HB.out | apply below_alloc | apply pw_below_drewN | apply below_drew1) | exact HB.out)) hb); clear HO201; clear HO204; clear HB; have HO201 := n0_; have HO204 := n1_; have HO208 := n2_; have HB := n3_; clear n0_ n1_ n2_ n3_; (try clear hb); (try clear hb2); (try clear hk); (try clear hi); (try clear ho0)) | ((with_reducible refine gate_callee (f := 14) rfl ?_); refine goesL_ (some 28) rfl rfl Try.func14 (by kernel_rfl) rfl #[.slice A0 l0.length c0] rfl (by (try simp only [List.map_toArray, List.map_cons, List.map_nil]); first | done | rfl | (simp only [List.length_drop, List.length_take]; rfl)) ?_; (with_reducible refine (recall_Parts.calls _ _ l0 t209 t210 _ ?side1 ?side2 A7.out).mono ?_); (case side1 => repeat (first | exact (Kd.C_below HR0.out HB.out) | (with_reducible refine Kd.C_alloc ?_ _) | (with_reducible refine Kd.C_drewN ?_ _) | (with_reducible refine Kd.C_drew ?_))); (case side2 => exact HC0.out); rintro e w26 ⟨v211, rfl, ho0, hb⟩; refine ⟨_, rfl, ?_⟩; have n0_ := Aside0.mk (Kd.R_below (by (with_reducible repeat (first | apply Kd.R_alloc | apply Kd.R_drewN | apply Kd.R_drew)); exact HO201.out) hb); have n1_ := Aside0.mk (Kd.R_below (by (with_reducible repeat (first | apply Kd.R_alloc | apply Kd.R_drewN | apply Kd.R_drew)); exact HO204.out) hb); have n2_ := Aside0.mk (Kd.R_below (by (with_reducible repeat (first | apply Kd.R_alloc | apply Kd.R_drewN | apply Kd.R_drew)); exact HO208.out) hb); have n3_ := Aside0.mk (Kd.R_lower ho0 (below_size (by repeat (first | (with_reducible first | exact HB.out | apply below_alloc | apply pw_below_drewN | apply below_drew1) | exact HB.out)))); have n4_ := Aside0.mk (below_step (by repeat (first | (with_reducible first | exact HB.out | apply below_alloc | apply pw_below_drewN | apply below_drew1) | exact HB.out)) hb); clear HO201; clear HO204; clear HO208; clear HB; have HO201 := n0_; have HO204 := n1_; have HO208 := n2_; have HO212 := n3_; have HB := n4_; clear n0_ n1_ n2_ n3_ n4_; (try clear hb); (try clear hb2); (try clear hk); (try clear hi); (try clear ho0)) | ((with_reducible refine gate_callee (f := 13) rfl ?_); refine goesL_ (some 33) rfl rfl Try.func13 (by kernel_rfl) rfl #[.slice A0 l0.length c0] rfl (by (try simp only [List.map_toArray, List.map_cons, List.map_nil]); first | done | rfl | (simp only [List.length_drop, List.length_take]; rfl)) ?_; (with_reducible refine (metrolablaw53_own.calls k _ _ l0 t213 _ ?side1 ?side2 A8.out).mono ?_); (case side1 => repeat (first | exact (Kd.C_below HR0.out HB.out) | (with_reducible refine Kd.C_alloc ?_ _) | (with_reducible refine Kd.C_drewN ?_ _) | (with_reducible refine Kd.C_drew ?_))); (case side2 => exact HC0.out); rintro e w27 ⟨v214, rfl, ho0, hb⟩; refine ⟨_, rfl, ?_⟩; have n0_ := Aside0.mk (Kd.R_below (by (with_reducible repeat (first | apply Kd.R_alloc | apply Kd.R_drewN | apply Kd.R_drew)); exact HO201.out) hb); have n1_ := Aside0.mk (Kd.R_elder' (by (with_reducible repeat (first | apply Kd.R_alloc | apply Kd.R_drewN | apply Kd.R_drew)); exact HO204.out) (Kd.R_base ho0) hb); have n2_ := Aside0.mk (Kd.R_below (by (with_reducible repeat (first | apply Kd.R_alloc | apply Kd.R_drewN | apply Kd.R_drew)); exact HO208.out) hb); have n3_ := Aside0.mk (Kd.R_below (by (with_reducible repeat (first | apply Kd.R_alloc | apply Kd.R_drewN | apply Kd.R_drew)); exact HO212.out) hb); have n4_ := Aside0.mk (Kd.R_lower (Kd.R_new' ho0 (Kd.R_lt (by (with_reducible repeat (first | apply Kd.R_alloc | apply Kd.R_drewN | apply Kd.R_drew)); exact HO204.out))) (below_size (by repeat (first | (with_reducible first | exact HB.out | apply below_alloc | apply pw_below_drewN | apply below_drew1) | exact HB.out)))); have n5_ := Aside0.mk (below_step (by repeat (first | (with_reducible first | exact HB.out | apply below_alloc | apply pw_below_drewN | apply below_drew1) | exact HB.out)) hb); clear HO201; clear HO204; clear HO208; clear HO212; clear HB; have HO201 := n0_; have HO204 := n1_; have HO208 := n2_; have HO212 := n3_; have HO215 := n4_; have HB := n5_; clear n0_ n1_ n2_ n3_ n4_ n5_; (try clear hb); (try clear hb2); (try clear hk); (try clear hi); (try clear ho0); obtain ⟨Ao28, co28, eo28⟩ := Kd.R_slice HO215.out; subst eo28) | ((with_reducible refine gate_callee (f := 15) rfl ?_); refine goesL_ (some 34) rfl rfl Try.func15 (by kernel_rfl) rfl #[.slice Ao28 t213.length co28] rfl (by (try simp only [List.map_toArray, List.map_cons, List.map_nil]); first | done | rfl | (simp only [List.length_drop, List.length_take]; rfl)) ?_; (with_reducible refine (metrolabref53_Parts.calls k _ _ t213 t216 t217 _ ?side1 ?side2 A9.out).mono ?_); (case side1 => repeat (first | exact (Kd.R_reads' HO215.out).2.2 | (with_reducible refine Kd.C_alloc ?_ _) | (with_reducible refine Kd.C_drewN ?_ _) | (with_reducible refine Kd.C_drew ?_))); (case side2 => exact (Kd.R_reads' HO215.out).2.1); rintro e w29 ⟨v218, rfl, ho0, hb⟩; refine ⟨_, rfl, ?_⟩; have n0_ := Aside0.mk (Kd.R_below (by (with_reducible repeat (first | apply Kd.R_alloc | apply Kd.R_drewN | apply Kd.R_drew)); exact HO201.out) hb); have n1_ := Aside0.mk (Kd.R_below (by (with_reducible repeat (first | apply Kd.R_alloc | apply Kd.R_drewN | apply Kd.R_drew)); exact HO204.out) hb); have n2_ := Aside0.mk (Kd.R_below (by (with_reducible repeat (first | apply Kd.R_alloc | apply Kd.R_drewN | apply Kd.R_drew)); exact HO208.out) hb); have n3_ := Aside0.mk (Kd.R_elder' (by (with_reducible repeat (first | apply Kd.R_alloc | apply Kd.R_drewN | apply Kd.R_drew)); exact HO212.out) (Kd.R_base ho0) hb); have n4_ := Aside0.mk (Kd.R_below (by (with_reducible repeat (first | apply Kd.R_alloc | apply Kd.R_drewN | apply Kd.R_drew)); exact HO215.out) hb); have n5_ := Aside0.mk (Kd.R_lower (Kd.R_new' ho0 (Kd.R_lt (by (with_reducible repeat (first | apply Kd.R_alloc | apply Kd.R_drewN | apply Kd.R_drew)); exact HO212.out))) (below_size (by repeat (first | (with_reducible first | exact HB.out | apply below_alloc | apply pw_below_drewN | apply below_drew1) | exact HB.out)))); have n6_ := Aside0.mk (below_step (by repeat (first | (with_reducible first | exact HB.out | apply below_alloc | apply pw_below_drewN | apply below_drew1) | exact HB.out)) hb); clear HO201; clear HO204; clear HO208; clear HO212; clear HO215; clear HB; have HO201 := n0_; have HO204 := n1_; have HO208 := n2_; have HO212 := n3_; have HO215 := n4_; have HO219 := n5_; have HB := n6_; clear n0_ n1_ n2_ n3_ n4_ n5_ n6_; (try clear hb); (try clear hb2); (try clear hk); (try clear hi); (try clear ho0)) | ((with_reducible refine gate_callee (f := 10) rfl ?_); refine goesL_ (some 37) rfl rfl Try.func10 (by kernel_rfl) rfl #[] rfl (by (try simp only [List.map_toArray, List.map_cons, List.map_nil]); first | done | rfl | (simp only [List.length_drop, List.length_take]; rfl)) ?_; (with_reducible refine (metrolablaw53_awake.calls  true _ A10.out).mono ?_); rintro e w30 ⟨rfl, hb⟩; refine ⟨_, rfl, ?_⟩; have n0_ := Aside0.mk (Kd.R_below (by (with_reducible repeat (first | apply Kd.R_alloc | apply Kd.R_drewN | apply Kd.R_drew)); exact HO201.out) hb); have n1_ := Aside0.mk (Kd.R_below (by (with_reducible repeat (first | apply Kd.R_alloc | apply Kd.R_drewN | apply Kd.R_drew)); exact HO204.out) hb); have n2_ := Aside0.mk (Kd.R_below (by (with_reducible repeat (first | apply Kd.R_alloc | apply Kd.R_drewN | apply Kd.R_drew)); exact HO208.out) hb); have n3_ := Aside0.mk (Kd.R_below (by (with_reducible repeat (first | apply Kd.R_alloc | apply Kd.R_drewN | apply Kd.R_drew)); exact HO212.out) hb); have n4_ := Aside0.mk (Kd.R_below (by (with_reducible repeat (first | apply Kd.R_alloc | apply Kd.R_drewN | apply Kd.R_drew)); exact HO215.out) hb); have n5_ := Aside0.mk (Kd.R_below (by (with_reducible repeat (first | apply Kd.R_alloc | apply Kd.R_drewN | apply Kd.R_drew)); exact HO219.out) hb); have n6_ := Aside0.mk (below_step (by repeat (first | (with_reducible first | exact HB.out | apply below_alloc | apply pw_below_drewN | apply below_drew1) | exact HB.out)) hb); clear HO201; clear HO204; clear HO208; clear HO212; clear HO215; clear HO219; clear HB; have HO201 := n0_; have HO204 := n1_; have HO208 := n2_; have HO212 := n3_; have HO215 := n4_; have HO219 := n5_; have HB := n6_; clear n0_ n1_ n2_ n3_ n4_ n5_ n6_; (try clear hb); (try clear hb2); (try clear hk); (try clear hi)) | (go_at_call 16; (with_reducible refine (recall_Check.calls _ _ l0 t221 _ ?side1 ?side2 A12.out).mono ?_); (case side1 => repeat (first | exact (Kd.C_below HR0.out HB.out) | (with_reducible refine Kd.C_alloc ?_ _) | (with_reducible refine Kd.C_drewN ?_ _) | (with_reducible refine Kd.C_drew ?_))); (case side2 => exact HC0.out); rintro e w31 ⟨rfl, hb⟩; have n0_ := Aside0.mk (Kd.R_below (by (with_reducible repeat (first | apply Kd.R_alloc | apply Kd.R_drewN | apply Kd.R_drew)); exact HO201.out) hb); have n1_ := Aside0.mk (Kd.R_below (by (with_reducible repeat (first | apply Kd.R_alloc | apply Kd.R_drewN | apply Kd.R_drew)); exact HO204.out) hb); have n2_ := Aside0.mk (Kd.R_below (by (with_reducible repeat (first | apply Kd.R_alloc | apply Kd.R_drewN | apply Kd.R_drew)); exact HO208.out) hb); have n3_ := Aside0.mk (Kd.R_below (by (with_reducible repeat (first | apply Kd.R_alloc | apply Kd.R_drewN | apply Kd.R_drew)); exact HO212.out) hb); have n4_ := Aside0.mk (Kd.R_below (by (with_reducible repeat (first | apply Kd.R_alloc | apply Kd.R_drewN | apply Kd.R_drew)); exact HO215.out) hb); have n5_ := Aside0.mk (Kd.R_below (by (with_reducible repeat (first | apply Kd.R_alloc | apply Kd.R_drewN | apply Kd.R_drew)); exact HO219.out) hb); have n6_ := Aside0.mk (below_step (by repeat (first | (with_reducible first | exact HB.out | apply below_alloc | apply pw_below_drewN | apply below_drew1) | exact HB.out)) hb); clear HO201; clear HO204; clear HO208; clear HO212; clear HO215; clear HO219; clear HB; have HO201 := n0_; have HO204 := n1_; have HO208 := n2_; have HO212 := n3_; have HO215 := n4_; have HO219 := n5_; have HB := n6_; clear n0_ n1_ n2_ n3_ n4_ n5_ n6_; (try clear hb); (try clear hb2); (try clear hk); (try clear hi)) | (go_at_call 13; (with_reducible refine (metrolablaw53_own.calls k _ _ l0 t222 _ ?side1 ?side2 A13.out).mono ?_); (case side1 => repeat (first | exact (Kd.C_below HR0.out HB.out) | (with_reducible refine Kd.C_alloc ?_ _) | (with_reducible refine Kd.C_drewN ?_ _) | (with_reducible refine Kd.C_drew ?_))); (case side2 => exact HC0.out); rintro e w32 ⟨v223, rfl, ho0, hb⟩; have n0_ := Aside0.mk (Kd.R_below (by (with_reducible repeat (first | apply Kd.R_alloc | apply Kd.R_drewN | apply Kd.R_drew)); exact HO201.out) hb); have n1_ := Aside0.mk (Kd.R_elder' (by (with_reducible repeat (first | apply Kd.R_alloc | apply Kd.R_drewN | apply Kd.R_drew)); exact HO204.out) (Kd.R_base ho0) hb); have n2_ := Aside0.mk (Kd.R_below (by (with_reducible repeat (first | apply Kd.R_alloc | apply Kd.R_drewN | apply Kd.R_drew)); exact HO208.out) hb); have n3_ := Aside0.mk (Kd.R_below (by (with_reducible repeat (first | apply Kd.R_alloc | apply Kd.R_drewN | apply Kd.R_drew)); exact HO212.out) hb); have n4_ := Aside0.mk (Kd.R_elder' (by (with_reducible repeat (first | apply Kd.R_alloc | apply Kd.R_drewN | apply Kd.R_drew)); exact HO215.out) (Kd.R_base ho0) hb); have n5_ := Aside0.mk (Kd.R_below (by (with_reducible repeat (first | apply Kd.R_alloc | apply Kd.R_drewN | apply Kd.R_drew)); exact HO219.out) hb); have n6_ := Aside0.mk (Kd.R_lower (Kd.R_new' (Kd.R_new' ho0 (Kd.R_lt (by (with_reducible repeat (first | apply Kd.R_alloc | apply Kd.R_drewN | apply Kd.R_drew)); exact HO204.out))) (Kd.R_lt (by (with_reducible repeat (first | apply Kd.R_alloc | apply Kd.R_drewN | apply Kd.R_drew)); exact HO215.out))) (below_size (by repeat (first | (with_reducible first | exact HB.out | apply below_alloc | apply pw_below_drewN | apply below_drew1) | exact HB.out)))); have n7_ := Aside0.mk (below_step (by repeat (first | (with_reducible first | exact HB.out | apply below_alloc | apply pw_below_drewN | apply below_drew1) | exact HB.out)) hb); clear HO201; clear HO204; clear HO208; clear HO212; clear HO215; clear HO219; clear HB; have HO201 := n0_; have HO204 := n1_; have HO208 := n2_; have HO212 := n3_; have HO215 := n4_; have HO219 := n5_; have HO224 := n6_; have HB := n7_; clear n0_ n1_ n2_ n3_ n4_ n5_ n6_ n7_; (try clear hb); (try clear hb2); (try clear hk); (try clear hi); (try clear ho0); obtain ⟨Ao33, co33, eo33⟩ := Kd.R_slice HO224.out; subst eo33) | (go_at_call 17; (with_reducible refine (metrolabref53_Check.calls k _ _ t222 t225 _ ?side1 ?side2 A14.out).mono ?_); (case side1 => repeat (first | exact (Kd.R_reads' HO224.out).2.2 | (with_reducible refine Kd.C_alloc ?_ _) | (with_reducible refine Kd.C_drewN ?_ _) | (with_reducible refine Kd.C_drew ?_))); (case side2 => exact (Kd.R_reads' HO224.out).2.1); rintro e w34 ⟨rfl, hb⟩; have n0_ := Aside0.mk (Kd.R_below (by (with_reducible repeat (first | apply Kd.R_alloc | apply Kd.R_drewN | apply Kd.R_drew)); exact HO201.out) hb); have n1_ := Aside0.mk (Kd.R_below (by (with_reducible repeat (first | apply Kd.R_alloc | apply Kd.R_drewN | apply Kd.R_drew)); exact HO204.out) hb); have n2_ := Aside0.mk (Kd.R_below (by (with_reducible repeat (first | apply Kd.R_alloc | apply Kd.R_drewN | apply Kd.R_drew)); exact HO208.out) hb); have n3_ := Aside0.mk (Kd.R_below (by (with_reducible repeat (first | apply Kd.R_alloc | apply Kd.R_drewN | apply Kd.R_drew)); exact HO212.out) hb); have n4_ := Aside0.mk (Kd.R_below (by (with_reducible repeat (first | apply Kd.R_alloc | apply Kd.R_drewN | apply Kd.R_drew)); exact HO215.out) hb); have n5_ := Aside0.mk (Kd.R_below (by (with_reducible repeat (first | apply Kd.R_alloc | apply Kd.R_drewN | apply Kd.R_drew)); exact HO219.out) hb); have n6_ := Aside0.mk (Kd.R_below (by (with_reducible repeat (first | apply Kd.R_alloc | apply Kd.R_drewN | apply Kd.R_drew)); exact HO224.out) hb); have n7_ := Aside0.mk (below_step (by repeat (first | (with_reducible first | exact HB.out | apply below_alloc | apply pw_below_drewN | apply below_drew1) | exact HB.out)) hb); clear HO201; clear HO204; clear HO208; clear HO212; clear HO215; clear HO219; clear HO224; clear HB; have HO201 := n0_; have HO204 := n1_; have HO208 := n2_; have HO212 := n3_; have HO215 := n4_; have HO219 := n5_; have HO224 := n6_; have HB := n7_; clear n0_ n1_ n2_ n3_ n4_ n5_ n6_ n7_; (try clear hb); (try clear hb2); (try clear hk); (try clear hi); obtain ⟨Ao35, co35, eo35⟩ := Kd.R_slice HO201.out; subst eo35; obtain ⟨Ao36, co36, eo36⟩ := Kd.R_slice HO208.out; subst eo36) | (go_at_call 18; (with_reducible refine (slices_Equal_int_int.calls k _ _ t198 _ _ t205 true _ ?side1 ?side2 ?side3 ?side4 A16.out).mono ?_); (case side1 => repeat (first | exact (Kd.R_reads' HO201.out).2.2 | (with_reducible refine Kd.C_alloc ?_ _) | (with_reducible refine Kd.C_drewN ?_ _) | (with_reducible refine Kd.C_drew ?_))); (case side2 => exact (Kd.R_reads' HO201.out).2.1); (case side3 => repeat (first | exact (Kd.R_reads' HO208.out).2.2 | (with_reducible refine Kd.C_alloc ?_ _) | (with_reducible refine Kd.C_drewN ?_ _) | (with_reducible refine Kd.C_drew ?_))); (case side4 => exact (Kd.R_reads' HO208.out).2.1); rintro e w' ⟨rfl, ⟨nd, rfl⟩⟩; obtain ⟨Ao37, co37, eo37⟩ := Kd.R_slice HO212.out; subst eo37; obtain ⟨Ao38, co38, eo38⟩ := Kd.R_slice HO219.out; subst eo38) | (go_at_call 19; (with_reducible refine (slices_Equal_string_string.calls k _ _ t209 _ _ t216 true _ ?side1 ?side2 ?side3 ?side4 A19.out).mono ?_); (case side1 => repeat (first | exact (Kd.R_reads' HO212.out).2.2 | (with_reducible refine Kd.C_alloc ?_ _) | (with_reducible refine Kd.C_drewN ?_ _) | (with_reducible refine Kd.C_drew ?_))); (case side2 => exact (Kd.R_reads' HO212.out).2.1); (case side3 => repeat (first | exact (Kd.R_reads' HO219.out).2.2 | (with_reducible refine Kd.C_alloc ?_ _) | (with_reducible refine Kd.C_drewN ?_ _) | (with_reducible refine Kd.C_drew ?_))); (case side4 => exact (Kd.R_reads' HO219.out).2.1); rintro e w' ⟨rfl, ⟨nd, rfl⟩⟩))
       go_ret
       exact ⟨by first | rfl | (simp [errW_none, errW_some] <;> rfl) | (simp [*, errW_none, errW_some] <;> rfl), by repeat (first | (with_reducible first | exact HB.out | apply below_alloc | apply pw_below_drewN | apply below_drew1) | exact HB.out)⟩
      ·replace c20 := Bool.eq_false_iff.mpr c20
       subst c20
       have H1 : (some false) = some r := by rw [if_neg (show ¬ (false = true) by decide)] at H; exact H
       clear H
       have H := H1
       clear H1
       obtain rfl := Option.some.inj H
       exact absurd hlaw.out (by decide)
     ·rw [if_neg c18] at H
      have c18b0 : (t199 == t206) = false := beq_eq_false_iff_ne.mpr c18
      have c18b1 : (t199 != t206) = true := bne_iff_ne.mpr c18
      obtain rfl := Option.some.inj H
      exact absurd hlaw.out (by decide)
    ·replace c17 := Bool.eq_false_iff.mpr c17
     subst c17
     have H1 : (some false) = some r := by rw [if_neg (show ¬ (false = true) by decide)] at H; exact H
     clear H
     have H := H1
     clear H1
     obtain rfl := Option.some.inj H
     exact absurd hlaw.out (by decide)
   ·rw [if_neg c15] at H
    have c15b0 : (t221 == t225) = false := beq_eq_false_iff_ne.mpr c15
    have c15b1 : (t221 != t225) = true := bne_iff_ne.mpr c15
    obtain rfl := Option.some.inj H
    exact absurd hlaw.out (by decide)
  ·replace c11 := Bool.eq_false_iff.mpr c11
   subst c11
   have H1 : (some false) = some r := by rw [if_neg (show ¬ (false = true) by decide)] at H; exact H
   clear H
   have H := H1
   clear H1
   obtain rfl := Option.some.inj H
   exact absurd hlaw.out (by decide)
 ·replace c3 := Bool.eq_false_iff.mpr c3
  subst c3
  have H1 : ((metrolablaw53_awake.f).bind fun t197 => (some t197)) = some r := by rw [if_neg (show ¬ (false = true) by decide)] at H; exact H
  clear H
  have H := H1
  clear H1
  replace H := Option.bind_eq_some_iff.mp H
  obtain ⟨t197, A1130, H⟩ := H
  replace H : (some t197) = some r := H
  have A113 := Aside0.mk A1130
  clear A1130
  obtain rfl := Option.some.inj H
  go_enter Try.func3, Try.ntmps3
  go_wp2_with (first | ((with_reducible refine gate_callee (f := 9) rfl ?_); refine goesL_ (some 12) rfl rfl Try.func9 (by kernel_rfl) rfl #[.slice A0 l0.length c0, .string (⟨#[]⟩ : ByteArray)] rfl (by (try simp only [List.map_toArray, List.map_cons, List.map_nil]); first | done | rfl | (simp only [List.length_drop, List.length_take]; rfl)) ?_; (with_reducible refine (metrolablaw53_few.calls k _ _ l0 (⟨#[]⟩ : ByteArray) false _ ?side1 ?side2 A2.out).mono ?_); (case side1 => repeat (first | exact HR0.out | (with_reducible refine Kd.C_alloc ?_ _) | (with_reducible refine Kd.C_drewN ?_ _) | (with_reducible refine Kd.C_drew ?_))); (case side2 => exact HC0.out); rintro e w114 ⟨rfl, hb⟩; refine ⟨_, rfl, ?_⟩; have n0_ := Aside0.mk (below_step (by repeat (first | (with_reducible first | exact HB.out | apply below_alloc | apply pw_below_drewN | apply below_drew1) | exact HB.out)) hb); clear HB; have HB := n0_; clear n0_; (try clear hb); (try clear hb2); (try clear hk); (try clear hi)) | ((with_reducible refine gate_callee (f := 10) rfl ?_); refine goesL_ (some 14) rfl rfl Try.func10 (by kernel_rfl) rfl #[] rfl (by (try simp only [List.map_toArray, List.map_cons, List.map_nil]); first | done | rfl | (simp only [List.length_drop, List.length_take]; rfl)) ?_; (with_reducible refine (metrolablaw53_awake.calls  t197 _ A113.out).mono ?_); rintro e w115 ⟨rfl, hb⟩; refine ⟨_, rfl, ?_⟩; have n0_ := Aside0.mk (below_step (by repeat (first | (with_reducible first | exact HB.out | apply below_alloc | apply pw_below_drewN | apply below_drew1) | exact HB.out)) hb); clear HB; have HB := n0_; clear n0_; (try clear hb); (try clear hb2); (try clear hk); (try clear hi)))
  go_ret
  exact ⟨by first | rfl | (simp [errW_none, errW_some] <;> rfl) | (simp [*, errW_none, errW_some] <;> rfl), by repeat (first | (with_reducible first | exact HB.out | apply below_alloc | apply pw_below_drewN | apply below_drew1) | exact HB.out)⟩

end Go.Proofs.Ytnmmdeonkpfccaa.Pr
/- An argument that is a slice of events, opened. -/
set_option linter.unusedVariables false
namespace Go.Proofs.Ytnmmdeonkpfccaa.Pr
open Go.RowKit Go.ChangeShapes Go.WideShapes Go.Deep Go.Proofs.YtnmmdeonkpfccaaW.PrintWords Go.Proofs.YtnmmdeonkpfccaaW.PrintLast Go.Proofs.YtnmmdeonkpfccaaW.PrintMore

/-- An event that a law may be given. -/
def okEv (x : S51) : Prop := (Lit.int .i64 x.f0).wf = true ∧ x.f1.size ≤ maxLen ∧ x.f2.size ≤ maxLen ∧ x.f3.size ≤ maxLen
variable {H : Type} {enc : TypeId × Value → H} {w : World} {base : Nat} {spare : Nat → Bool} {held : Bool}
set_option maxRecDepth 20000 in
theorem open_event {n : Nat} {cs : List Value} {x : DataW H × List MemPlace} (h : DataW.trod enc Try.prog w base spare held n 51 cs = some x) : ∃ e : S51, cs = [.int .i64 e.f0, .string e.f1, .string e.f2, .string e.f3] ∧ okEv e := by
 obtain ⟨ys, n', hn', hy, hlen, hyl, hf⟩ := DataW.trod_struct Try.underlying51 h
 have hc4 : cs.length = 4 := hlen.trans (by kernel_rfl)
 match cs, hc4 with
 | [c0, c1, c2, c3], _ =>
  match ys, hyl with
  | [y0, y1, y2, y3], _ =>
   have h0 := hf 0 _ rfl
   have h1 := hf 1 _ rfl
   have h2 := hf 2 _ rfl
   have h3 := hf 3 _ rfl
   have e3 : Try.prog.cellsOf 3 = 1 := by kernel_rfl
   have e9 : Try.prog.cellsOf 9 = 1 := by kernel_rfl
   change DataW.trod enc Try.prog w base spare held n' 3 (([c0, c1, c2, c3].drop 0).take (Try.prog.cellsOf 3)) = some y0 at h0
   change DataW.trod enc Try.prog w base spare held n' 9 (([c0, c1, c2, c3].drop 1).take (Try.prog.cellsOf 9)) = some y1 at h1
   change DataW.trod enc Try.prog w base spare held n' 9 (([c0, c1, c2, c3].drop 2).take (Try.prog.cellsOf 9)) = some y2 at h2
   change DataW.trod enc Try.prog w base spare held n' 9 (([c0, c1, c2, c3].drop 3).take (Try.prog.cellsOf 9)) = some y3 at h3
   rw [e3] at h0
   rw [e9] at h1 h2 h3
   obtain ⟨k, hk, _, hw⟩ := DataW.trod_int Try.underlying3 h0
   obtain ⟨s1, hs1, _, z1⟩ := DataW.trod_string Try.underlying9 h1
   obtain ⟨s2, hs2, _, z2⟩ := DataW.trod_string Try.underlying9 h2
   obtain ⟨s3, hs3, _, z3⟩ := DataW.trod_string Try.underlying9 h3
   cases hk; cases hs1; cases hs2; cases hs3
   exact ⟨⟨k, s1, s2, s3⟩, rfl, hw, z1, z2, z3⟩

theorem open_events {fuel : Nat} {cs : List Value} {x : DataW H × List MemPlace} (h : DataW.trod enc Try.prog w base spare held fuel 22 cs = some x) :
  (cs = [.slice none 0 0] ∧ x = (.nil, [])) ∨
  ∃ (a : Addr) (len cap : Nat) (es sp : List (DataW H)) (l : List S51), cs = [.slice (some a) len cap] ∧ len ≤ cap ∧ x.1 = .slice es sp ∧ es.length = len ∧ l.length = len ∧ Kd.C k51 w (some a) len l ∧ ∀ y ∈ l, okEv y := by
 rcases open_slice Try.underlying22 h with h0 | ⟨a, len, cap, m, n, D, Pl, hcs, hb, hl, hm, hmm, hx, hi⟩
 ·exact .inl h0
 ·refine .inr ⟨a, len, cap, (List.range len).map D, (List.range (m - len)).map (fun j => D (len + j)), ?_⟩
  have hC : Try.prog.cellsOf 51 = 4 := by kernel_rfl
  have hlm : len ≤ m := by rw [hmm]; split; exact hl; exact Nat.le_refl _
  have hev : ∀ i, i < len → ∃ e : S51, okEv e ∧ ∀ j u, [Value.int .i64 e.f0, .string e.f1, .string e.f2, .string e.f3][j]? = some u → w.cell? (a.add (i * 4 + j)) = some u := by
   intro i hil
   obtain ⟨cs', hc, ht⟩ := hi i (Nat.lt_of_lt_of_le hil hlm)
   obtain ⟨e, he, hok⟩ := open_event ht
   rw [hC] at hc
   obtain ⟨_, hcl, hat⟩ := World.cells?_some hc
   refine ⟨e, hok, fun j u hj => ?_⟩
   have hj4 : j < 4 := by
    have := (List.getElem?_eq_some_iff.1 hj).1
    simpa using this
   have := hat j hj4
   rw [he, hj, Go.Deep.add_add] at this
   exact this
  have hf : ∃ f : Nat → S51, ∀ i, i < len → okEv (f i) ∧ ∀ j u, [Value.int .i64 (f i).f0, .string (f i).f1, .string (f i).f2, .string (f i).f3][j]? = some u → w.cell? (a.add (i * 4 + j)) = some u := by
   refine ⟨fun i => if hil : i < len then Classical.choose (hev i hil) else z51, fun i hil => ?_⟩
   simp only [dif_pos hil]
   exact Classical.choose_spec (hev i hil)
  obtain ⟨f, hf⟩ := hf
  refine ⟨(List.range len).map f, hcs, hl, by rw [hx], by simp, by simp, ?_, ?_⟩
  ·refine ⟨by simp, by unfold maxLen at hm; omega, fun _ => ⟨a, rfl, fun j p hj => ?_⟩⟩
   have hjl : j < len := by
    have := (List.getElem?_eq_some_iff.1 hj).1
    simpa using this
   have hp : p = f j := by
    rw [List.getElem?_map, List.getElem?_range hjl] at hj
    exact (Option.some.inj hj).symm
   subst hp
   exact ⟨_, rfl, k51_mk w (f j), (hf j hjl).2⟩
  ·intro y hy
   obtain ⟨i, hi', rfl⟩ := List.mem_map.1 hy
   exact (hf i (List.mem_range.1 hi')).1
end Go.Proofs.Ytnmmdeonkpfccaa.Pr
-- The statement about lists that the law comes to.
namespace Go.Proofs.Ytnmmdeonkpfccaa.Pr
open Go.RowKit
def metrolablaw53_RecallStates.Pure : Prop := ∀ (l0 : List S51), l0.length * 56 ≤ 140737488351232 → (∀ x ∈ l0, okEv x) → ∃ k, metrolablaw53_RecallStates.f k l0 = some true
end Go.Proofs.Ytnmmdeonkpfccaa.Pr
/- The statement about lists that RecallStates comes to. -/
namespace Go.Proofs.Ytnmmdeonkpfccaa.Pure
open Go.RowKit Go.Proofs.Ytnmmdeonkpfccaa.Pr Go.Proofs.YtnmmdeonkpfccaaW.PrintWords Go.Proofs.YtnmmdeonkpfccaaW.PrintLast
theorem RecallStates : metrolablaw53_RecallStates.Pure := by
 intro l0 hl _
 have hn : l0.length ≤ 2513169434915 := by omega
 refine Ev.rounds (g := fun k => metrolablaw53_RecallStates.f k l0) ?_
 obtain ⟨b, hb⟩ := few_ev l0 ⟨#[]⟩ hn
 refine Ev.bind hb ?_
 cases b
 ·simp only [if_neg (show ¬ (false = true) by decide)]
  exact Ev.bind (now_ev (show metrolablaw53_awake.f = some true from rfl)) (Ev.now _)
 ·simp only [if_true]
  refine Ev.bind (now_ev rfl) (Ev.bind (own_ev l0 hn) (Ev.bind (states_ev l0 hn) (Ev.bind (now_ev rfl) (Ev.bind (own_ev l0 hn) (Ev.bind (parts_ev l0 hn) (Ev.bind (now_ev (show metrolablaw53_awake.f = some true from rfl)) ?_))))))
  simp only [if_true]
  refine Ev.bind (now_ev rfl) (Ev.bind (own_ev l0 hn) (Ev.bind (check_ev l0 hn) ?_))
  simp only [if_true]
  refine Ev.bind (eqI_ev _ (Nat.le_trans (statesV_len l0) hn)) ?_
  simp only [if_true]
  refine Ev.bind (eqS_ev _ (Nat.le_trans (partsV_len l0) hn)) ?_
  simp only [if_true, beq_self_eq_true]
  exact Ev.now _
end Go.Proofs.Ytnmmdeonkpfccaa.Pure
/- The row of the law RecallStates, out of its statement about lists and the walk. -/
namespace Go.Proofs.Ytnmmdeonkpfccaa.recallStates
open Go.ChangeShapes Go.WideShapes Go.ChangeAt Go.RowKit
open Go.ChangeMaps (open_string shut_string)
set_option linter.unusedVariables false
theorem own : ownKnob Try.prog.godebug = none := by kernel_rfl
theorem laidOut : laidOutB Try.prog = true := by kernel_rfl
set_option maxRecDepth 100000 in
theorem lifted (os : Os) (started : os.Started) (H : Type) (enc : TypeId × Value → H) :
  ReturnsInHanded {} Try.checked os 3 .any (Rows.recallStatesSpec.pre6 enc Try.prog Try.f3 Rows.recallStatesRow.domain false) (Rows.recallStatesSpec.post enc Try.prog Try.f3 false true false false) := by
 refine returnsInHanded_of_change_sized (C := Try.checked) own started (by kernel_rfl) Try.func3
  (ChangeSpec.witness6 (enc := enc) (C := Try.checked) false ⟨#[], #[.slice none 0 0], []⟩ 8 (by kernel_rfl) (by kernel_rfl) (by kernel_rfl) (by kernel_rfl)) ?_
 intro W base args ds gs before hval0 hW hcnd hsz0 _
 have hsz : (DataW.weightsEach Try.prog (Try.f3.params.toList ++ Rows.recallStatesSpec.plain.varTypes Try.prog) (ds ++ gs)).all (· ≤ reachBytes) = true := hsz0
 have hval : ∀ (j : Nat) t v, Try.f3.params[j]? = some t → args[j]? = some v → Value.okWide Try.prog W .any base t v := hval0
 have hW' := hW
 obtain ⟨p, q, hA0, hV, rfl, hfz, hnd⟩ := hW
 have hA : DataW.TrodAll enc Try.prog W 0 (fun _ => true) true Try.f3.params.toList args.toList ds p := hA0
 rw [Try.params3] at hA hval hsz
 obtain ⟨v0, vs0, d0, ds0, p0, q0, hargs, rfl, rfl, h0, r0⟩ := trodAll_cons hA
 obtain ⟨rfl, rfl, rfl⟩ := trodAll_nil r0
 obtain rfl : args = #[v0] := by cases args; simp_all
 obtain ⟨rfl, rfl⟩ := trodVars_none hV
 obtain ⟨a0, len0, cap0, rfl⟩ := okWide_slice Try.underlying22 (hval 0 22 v0 rfl rfl)
 have k0 := h0
 have lt0 : ∀ x ∈ p0, x.block < W.heap.size := by obtain ⟨m, hm⟩ := k0; exact DataW.trod_lt m _ _ _ hm
 obtain ⟨z0, rfl, hC0, hcap0, hev0, y0⟩ : ∃ zs : List Pr.S51, len0 = zs.length ∧ YtnmmdeonkpfccaaW.PrintWords.Kd.C Pr.k51 W a0 zs.length zs ∧ zs.length ≤ cap0 ∧ (∀ y ∈ zs, Pr.okEv y) ∧ zs.length * 56 ≤ 140737488351232 := by
  obtain ⟨fuel, hf⟩ := h0
  rcases Pr.open_events hf with ⟨hcs, _⟩ | ⟨a, len, cap, es, sp, l, hcs, hl, hx, hes, hll, hC, hok⟩
  ·simp [Value.cells] at hcs
   obtain ⟨rfl, rfl, rfl⟩ := hcs
   exact ⟨[], rfl, ⟨rfl, (by simp only [List.length_nil]; omega), fun h => absurd h (by simp only [List.length_nil]; omega)⟩, Nat.le_refl _, (fun _ h => by cases h), by simp⟩
  ·simp [Value.cells] at hcs
   obtain ⟨rfl, rfl, rfl⟩ := hcs
   have z := sized_slice hsz (j := 0) (t := 22) rfl (congrArg some hx) Try.underlying22
   rw [show Try.prog.bytesOf 51 = 56 by kernel_rfl, hes, ← hll] at z
   exact ⟨l, hll.symm, hll ▸ hC, hll ▸ hl, hok, Nat.le_trans (Nat.mul_le_mul_right _ (Nat.le_add_right _ _)) z⟩
 clear hA0 hval0 hsz0 hsz
 obtain ⟨k, hk⟩ := Pure.RecallStates z0 y0 hev0
 refine (Pr.metrolablaw53_RecallStates.calls k a0 cap0 z0 true W hC0 hcap0 ⟨rfl⟩ hk).mono fun e W' ⟨he, bel⟩ => ?_
 subst he
 exact ⟨_, rfl, _, _, _, [], _, [], hW', trodAll_mk1 (shut_bool Try.underlying4 _), (trodAll_cons_mk (Below.trod laidOut (by kernel_rfl) (of_decide_eq_true (by kernel_rfl)) k0 bel lt0) trodAll_mk0), rfl, bel.frame _, fun h => by cases h⟩
theorem over : Rows.recallStatesRow.holds Try.pinned (OpenSpec.ofChange Rows.recallStatesSpec) :=
 OpenClaim.holds_of_wide 3 Try.f3 rfl rfl rfl rfl rfl rfl rfl ⟨rfl, rfl, rfl, rfl, rfl⟩ rfl rfl rfl rfl rfl (by kernel_rfl) Try.func3 (by kernel_rfl)
  (of_decide_eq_true (by kernel_rfl)) (by unfold Func.isWrapper; first | (rw [if_pos (by decide +kernel)]; kernel_rfl) | (rw [if_neg (by decide +kernel)]; exact ⟨rfl, rfl⟩))
  (fun os started H enc _ => lifted os started H enc)
theorem proved : Rows.RecallStatesSaid := over
#print axioms proved
end Go.Proofs.Ytnmmdeonkpfccaa.recallStates
namespace Go.Proofs.Ytnmmdeonkpfccaa
/-- The row, under a short name, for the claim. -/
theorem recallStates_holds : Rows.RecallStatesSaid := recallStates.proved
end Go.Proofs.Ytnmmdeonkpfccaa
