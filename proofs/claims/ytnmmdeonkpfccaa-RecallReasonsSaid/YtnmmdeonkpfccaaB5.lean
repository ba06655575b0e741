/- A part of the statement's proof. -/
import Derived.Test.YtnmmdeonkpfccaaB1
import Derived.Test.YtnmmdeonkpfccaaB4
import Derived.Test.YtnmmdeonkpfccaaB3
import Derived.RegionTactic
import Derived.ChangeAlike
import Derived.Sort.QuietIn
import Derived.Stop.RegionWithIn
import Derived.RangeFuncCalls
namespace Go.Proofs.Ytnmmdeonkpfccaa.Pr
open Go.RowKit Go.Proofs.YtnmmdeonkpfccaaW.PrintWords Go.Proofs.YtnmmdeonkpfccaaW.PrintLast Go.Proofs.YtnmmdeonkpfccaaW.PrintMore
attribute [local go_sem] max2_int min2_int max_two min_two max_three min_three max_four min_four
set_option linter.unusedVariables false
set_option linter.unusedSimpArgs false

/-! ### metrolabref53_All: function 42 -/
def metrolabref53_All.l0 : Nat → List (S67) → List ByteArray → Int → Option (List ByteArray)
 | 0,_,_,_ => none
 | k + 1,x0,x3,x4 => if x4 < (x0.length : Int) then (if 0 ≤ x4 then (if ((rd_T67 x0 x4).f0) = 0 then ((metrolabref53_Recalled.f k x0 ((rd_T67 x0 x4).f2)).bind fun t183 => (if t183 = true then ((metrolabref19_Put.f k x3 ((rd_T67 x0 x4).f2)).bind fun t185 => (metrolabref53_All.l0 k x0 t185 (wrap64 (x4 + 1)))) else (metrolabref53_All.l0 k x0 x3 (wrap64 (x4 + 1))))) else (metrolabref53_All.l0 k x0 x3 (wrap64 (x4 + 1)))) else (none)) else (some x3)
def metrolabref53_All.f (k : Nat) (l0 : List (S67)) : Option (List ByteArray):=metrolabref53_All.l0 k l0 ([] : List ByteArray) 0
theorem metrolabref53_All.mono_l : ∀ k,(∀ y0 y1 y2,LeO (metrolabref53_All.l0 k y0 y1 y2) (metrolabref53_All.l0 (k + 1) y0 y1 y2))
 | 0 => fun _ _ _ r h => by simp [metrolabref53_All.l0] at h
 | k + 1 => by
  have ih0:=metrolabref53_All.mono_l k
  ·intro y0 y1 y2
   unfold metrolabref53_All.l0
   repeat' first
   | (with_reducible exact ih0 _ _ _)
   | (with_reducible exact metrolabref19_Put.mono _ _ _)
   | (with_reducible exact metrolabref53_Recalled.mono _ _ _)
   | (with_reducible exact LeO.refl _)
   | (with_reducible exact LeO.none _)
   | (with_reducible refine LeO.ite ?_ ?_)
   | (with_reducible refine LeO.bind ?_ (fun _ => ?_))
   | exact ih0 _ _ _
   | exact metrolabref19_Put.mono _ _ _
   | exact metrolabref53_Recalled.mono _ _ _
   | exact LeO.none _
   | refine LeO.ite ?_ ?_
   | refine LeO.bind ?_ (fun _ => ?_)
theorem metrolabref53_All.mono : ∀ a0 k,LeO (metrolabref53_All.f k a0) (metrolabref53_All.f (k + 1) a0):=by
 intro a0 k
 have ih0:=metrolabref53_All.mono_l k
 unfold metrolabref53_All.f
 repeat' first
   | (with_reducible exact ih0 _ _ _)
   | (with_reducible exact metrolabref19_Put.mono _ _ _)
   | (with_reducible exact metrolabref53_Recalled.mono _ _ _)
   | (with_reducible exact LeO.refl _)
   | (with_reducible exact LeO.none _)
   | (with_reducible refine LeO.ite ?_ ?_)
   | (with_reducible refine LeO.bind ?_ (fun _ => ?_))
   | exact ih0 _ _ _
   | exact metrolabref19_Put.mono _ _ _
   | exact metrolabref53_Recalled.mono _ _ _
   | exact LeO.none _
   | refine LeO.ite ?_ ?_
   | refine LeO.bind ?_ (fun _ => ?_)
set_option maxHeartbeats 8000000 in
set_option maxRecDepth 100000 in
theorem metrolabref53_All.calls (k : Nat) (A0 : Option Addr) (c0 : Nat) (l0 : List (S67)) (r : List ByteArray) (w : World) (hr0 : Kd.C k67 w A0 l0.length l0) (hc0 : l0.length ≤ c0) (h : metrolabref53_All.f k l0 = some r) :
  Calls Try.prog 42 #[.slice A0 l0.length c0] w fun e w' => ∃ v0_ : Value,e = .returned (v0_) ∧ Kd.R Kd.string 9 w' w.heap.size (fun _ => True) v0_ r ∧ Below w.heap.size w w':=by
 have HR0:=Aside0.mk hr0
 have HC0:=Aside0.mk hc0
 clear hr0 hc0
 have HB:=Aside0.mk (Below.refl w.heap.size w)
 have H : (metrolabref53_All.l0 k l0 ([] : List ByteArray) 0) = some r:=h
 clear h
 have H':=Aside0.mk H
 clear H
 go_enter Try.func42,Try.ntmps42
 go_wp2
 go_loopg [3,4] k (fun kq v3 v4 w' => ∃ (x3_1 : List ByteArray) (x4_1 : Int),v4 = .int .i64 x4_1 ∧ Aside0 (metrolabref53_All.l0 kq l0 x3_1 x4_1 = some r) ∧ Aside0 (kq ≤ k) ∧ Aside0 (Kd.R Kd.string 9 w' w.heap.size (fun _ => True) v3 x3_1) ∧ Aside0 (Below w.heap.size w w'))
 case atStart => exact ⟨(([] : List ByteArray)),(0),(by first | rfl | (simp;done) | (simp [*];done)),H',⟨Nat.le_refl _⟩,⟨by first | exact Kd.R_nil _ _ _ _ _ | exact Kd.N_nil _ _ _ _ _ | exact Kd.V_nil _ _ _ _ _ | exact Kd.Q_nil _ _ _ _ _ | exact Kd.S_nil _ _ _ _ _⟩,⟨by repeat (first | (with_reducible first | exact HB.out | apply below_alloc | apply pw_below_drewN | apply below_drew1) | exact HB.out)⟩⟩
 case round =>
  clear H'
  obtain ⟨x3_1,x4_1,rfl,HA,HK1,HO_3,HB⟩:=hrel
  cases gk with
  | zero => exact absurd HA.out (by simp [metrolabref53_All.l0])
  | succ k1 =>
   have H:=HA.out
   clear HA
   simp only [metrolabref53_All.l0] at H
   by_cases c2 : x4_1 < (l0.length : Int)
   ·rw [if_pos c2] at H
    have c2b0 : decide (x4_1 < (l0.length : Int)) = true:=decide_eq_true c2
    clear c2
    by_cases c3 : 0 ≤ x4_1
    ·rw [if_pos c3] at H
     have c3b0 : decide (0 ≤ x4_1) = true:=decide_eq_true c3
     clear c3
     by_cases c4 : ((rd_T67 l0 x4_1).f0) = 0
     ·rw [if_pos c4] at H
      have c4b0 : (((rd_T67 l0 x4_1).f0) == 0) = true:=beq_iff_eq.mpr c4
      have c4b1 : (((rd_T67 l0 x4_1).f0) != 0) = false:=bne_eq_false_iff_eq.mpr c4
      clear c4
      replace H:=Option.bind_eq_some_iff.mp H
      obtain ⟨t183,A50,H⟩:=H
      replace H : (if t183 = true then ((metrolabref19_Put.f k1 x3_1 ((rd_T67 l0 x4_1).f2)).bind fun t185 => (metrolabref53_All.l0 k1 l0 t185 (wrap64 (x4_1 + 1)))) else (metrolabref53_All.l0 k1 l0 x3_1 (wrap64 (x4_1 + 1)))) = some r:=H
      have A5:=Aside0.mk A50
      clear A50
      by_cases c6 : t183 = true
      ·subst c6
       have H1 : ((metrolabref19_Put.f k1 x3_1 ((rd_T67 l0 x4_1).f2)).bind fun t185 => (metrolabref53_All.l0 k1 l0 t185 (wrap64 (x4_1 + 1)))) = some r:=by rw [if_pos rfl] at H;exact H
       clear H
       have H:=H1
       clear H1
       replace H:=Option.bind_eq_some_iff.mp H
       obtain ⟨t185,A70,H⟩:=H
       replace H : (metrolabref53_All.l0 k1 l0 t185 (wrap64 (x4_1 + 1))) = some r:=H
       have A7:=Aside0.mk A70
       clear A70
       have H':=Aside0.mk H
       clear H
       have p181 : 0 ≤ (x4_1 : Int):=of_decide_eq_true (by first | (with_reducible assumption) | assumption)
       have q181 : x4_1 < (l0.length : Int):=of_decide_eq_true (by first | (with_reducible assumption) | assumption)
       obtain ⟨ad181,e181,hx181_0,hx181_1,hx181_2,hx181_3⟩:=at_T67 HR0.out x4_1 p181 q181
       cases e181
       replace hx181_0:=(HB.out.cell (World.block_lt_of_cell? w _ hx181_0)).trans hx181_0
       replace hx181_1:=(HB.out.cell (World.block_lt_of_cell? w _ hx181_1)).trans hx181_1
       replace hx181_2:=(HB.out.cell (World.block_lt_of_cell? w _ hx181_2)).trans hx181_2
       replace hx181_3:=(HB.out.cell (World.block_lt_of_cell? w _ hx181_3)).trans hx181_3
       replace p181:=eq_true p181
       replace q181:=eq_true q181
       have p182 : 0 ≤ (x4_1 : Int):=of_decide_eq_true (by first | (with_reducible assumption) | assumption)
       have q182 : x4_1 < (l0.length : Int):=of_decide_eq_true (by first | (with_reducible assumption) | assumption)
       obtain ⟨ad182,e182,hx182_0,hx182_1,hx182_2,hx182_3⟩:=at_T67 HR0.out x4_1 p182 q182
       obtain rfl : ad181 = ad182:=(by injection e182)
       replace hx182_0:=(HB.out.cell (World.block_lt_of_cell? w _ hx182_0)).trans hx182_0
       replace hx182_1:=(HB.out.cell (World.block_lt_of_cell? w _ hx182_1)).trans hx182_1
       replace hx182_2:=(HB.out.cell (World.block_lt_of_cell? w _ hx182_2)).trans hx182_2
       replace hx182_3:=(HB.out.cell (World.block_lt_of_cell? w _ hx182_3)).trans hx182_3
       replace p182:=eq_true p182
       replace q182:=eq_true q182
       go_wp2_with (first | (go_at_call 47;(with_reducible refine (metrolabref53_Recalled.calls k1 _ _ l0 ((rd_T67 l0 x4_1).f2) true _ ?side1 ?side2 A5.out).mono ?_);(case side1 => repeat (first | exact (Kd.C_below HR0.out HB.out) | (with_reducible refine Kd.C_alloc ?_ _) | (with_reducible refine Kd.C_drewN ?_ _) | (with_reducible refine Kd.C_drew ?_)));(case side2 => exact HC0.out);rintro e w' ⟨rfl,⟨nd,rfl⟩⟩;have p184 : 0 ≤ (x4_1 : Int):=of_decide_eq_true (by first | (with_reducible assumption) | assumption);have q184 : x4_1 < (l0.length : Int):=of_decide_eq_true (by first | (with_reducible assumption) | assumption);obtain ⟨ad184,e184,hx184_0,hx184_1,hx184_2,hx184_3⟩:=at_T67 HR0.out x4_1 p184 q184;obtain rfl : ad181 = ad184:=(by injection e184);replace hx184_0:=(HB.out.cell (World.block_lt_of_cell? w _ hx184_0)).trans hx184_0;replace hx184_1:=(HB.out.cell (World.block_lt_of_cell? w _ hx184_1)).trans hx184_1;replace hx184_2:=(HB.out.cell (World.block_lt_of_cell? w _ hx184_2)).trans hx184_2;replace hx184_3:=(HB.out.cell (World.block_lt_of_cell? w _ hx184_3)).trans hx184_3;replace p184:=eq_true p184;replace q184:=eq_true q184;obtain ⟨Ao8,co8,eo8⟩:=Kd.R_slice HO_3.out;subst eo8) | ((with_reducible refine gate_callee (f:=48) rfl ?_);refine goesL_ (some 32) rfl rfl Try.func48 (by kernel_rfl) rfl #[.slice Ao8 x3_1.length co8,.string ((rd_T67 l0 x4_1).f2)] rfl (by (try simp only [List.map_toArray,List.map_cons,List.map_nil]);first | done | rfl | (simp only [List.length_drop,List.length_take];rfl)) ?_;(with_reducible refine (metrolabref19_Put.calls k1 _ _ x3_1 ((rd_T67 l0 x4_1).f2) t185 _ ?side1 ?side2 A7.out).mono ?_);(case side1 => repeat (first | exact (Kd.R_reads' HO_3.out).2.2 | (with_reducible refine Kd.C_alloc ?_ _) | (with_reducible refine Kd.C_drewN ?_ _) | (with_reducible refine Kd.C_drew ?_)));(case side2 => exact (Kd.R_reads' HO_3.out).2.1);rintro e w9 ⟨v186,rfl,ho0,hb⟩;refine ⟨_,rfl,?_⟩;have n0_:=Aside0.mk (Kd.R_elder' (by (with_reducible repeat (first | apply Kd.R_alloc | apply Kd.R_drewN | apply Kd.R_drew));exact HO_3.out) (Kd.R_base ho0) hb);have n1_:=Aside0.mk (Kd.R_lower (Kd.R_new' ho0 (Kd.R_lt (by (with_reducible repeat (first | apply Kd.R_alloc | apply Kd.R_drewN | apply Kd.R_drew));exact HO_3.out))) (below_size (by repeat (first | (with_reducible first | exact HB.out | apply below_alloc | apply pw_below_drewN | apply below_drew1) | exact HB.out))));have n2_:=Aside0.mk (below_step (by repeat (first | (with_reducible first | exact HB.out | apply below_alloc | apply pw_below_drewN | apply below_drew1) | exact HB.out)) hb);clear HO_3;clear HB;have HO_3:=n0_;have HO187:=n1_;have HB:=n2_;clear n0_ n1_ n2_;(try clear hb);(try clear hb2);(try clear hk);(try clear hi);(try clear ho0)))
       go_roundg k1
       case measure => have:=HK1.out;omega
       case rel => exact ⟨(t185),(wrap64 (x4_1 + 1)),(by first | rfl | (simp;done) | (simp [*];done)),H',⟨by have:=HK1.out;omega⟩,⟨by (with_reducible repeat (first | apply Kd.R_alloc | apply Kd.R_drewN | apply Kd.R_drew));exact Kd.R_mono HO187.out (fun _ hk => trivial)⟩,⟨by repeat (first | (with_reducible first | exact HB.out | apply below_alloc | apply pw_below_drewN | apply below_drew1) | exact HB.out)⟩⟩
      ·replace c6:=Bool.eq_false_iff.mpr c6
       subst c6
       have H1 : (metrolabref53_All.l0 k1 l0 x3_1 (wrap64 (x4_1 + 1))) = some r:=by rw [if_neg (show ¬ (false = true) by decide)] at H;exact H
       clear H
       have H:=H1
       clear H1
       have H':=Aside0.mk H
       clear H
       have p181 : 0 ≤ (x4_1 : Int):=of_decide_eq_true (by first | (with_reducible assumption) | assumption)
       have q181 : x4_1 < (l0.length : Int):=of_decide_eq_true (by first | (with_reducible assumption) | assumption)
       obtain ⟨ad181,e181,hx181_0,hx181_1,hx181_2,hx181_3⟩:=at_T67 HR0.out x4_1 p181 q181
       cases e181
       replace hx181_0:=(HB.out.cell (World.block_lt_of_cell? w _ hx181_0)).trans hx181_0
       replace hx181_1:=(HB.out.cell (World.block_lt_of_cell? w _ hx181_1)).trans hx181_1
       replace hx181_2:=(HB.out.cell (World.block_lt_of_cell? w _ hx181_2)).trans hx181_2
       replace hx181_3:=(HB.out.cell (World.block_lt_of_cell? w _ hx181_3)).trans hx181_3
       replace p181:=eq_true p181
       replace q181:=eq_true q181
       have p182 : 0 ≤ (x4_1 : Int):=of_decide_eq_true (by first | (with_reducible assumption) | assumption)
       have q182 : x4_1 < (l0.length : Int):=of_decide_eq_true (by first | (with_reducible assumption) | assumption)
       obtain ⟨ad182,e182,hx182_0,hx182_1,hx182_2,hx182_3⟩:=at_T67 HR0.out x4_1 p182 q182
       obtain rfl : ad181 = ad182:=(by injection e182)
       replace hx182_0:=(HB.out.cell (World.block_lt_of_cell? w _ hx182_0)).trans hx182_0
       replace hx182_1:=(HB.out.cell (World.block_lt_of_cell? w _ hx182_1)).trans hx182_1
       replace hx182_2:=(HB.out.cell (World.block_lt_of_cell? w _ hx182_2)).trans hx182_2
       replace hx182_3:=(HB.out.cell (World.block_lt_of_cell? w _ hx182_3)).trans hx182_3
       replace p182:=eq_true p182
       replace q182:=eq_true q182
       go_wp2_with (first | (go_at_call 47;(with_reducible refine (metrolabref53_Recalled.calls k1 _ _ l0 ((rd_T67 l0 x4_1).f2) false _ ?side1 ?side2 A5.out).mono ?_);(case side1 => repeat (first | exact (Kd.C_below HR0.out HB.out) | (with_reducible refine Kd.C_alloc ?_ _) | (with_reducible refine Kd.C_drewN ?_ _) | (with_reducible refine Kd.C_drew ?_)));(case side2 => exact HC0.out);rintro e w' ⟨rfl,⟨nd,rfl⟩⟩))
       go_roundg k1
       case measure => have:=HK1.out;omega
       case rel => exact ⟨(x3_1),(wrap64 (x4_1 + 1)),(by first | rfl | (simp;done) | (simp [*];done)),H',⟨by have:=HK1.out;omega⟩,⟨by (with_reducible repeat (first | apply Kd.R_alloc | apply Kd.R_drewN | apply Kd.R_drew));exact HO_3.out⟩,⟨by repeat (first | (with_reducible first | exact HB.out | apply below_alloc | apply pw_below_drewN | apply below_drew1) | exact HB.out)⟩⟩
     ·rw [if_neg c4] at H
      have c4b0 : (((rd_T67 l0 x4_1).f0) == 0) = false:=beq_eq_false_iff_ne.mpr c4
      have c4b1 : (((rd_T67 l0 x4_1).f0) != 0) = true:=bne_iff_ne.mpr c4
      have H':=Aside0.mk H
      clear H
      have p181 : 0 ≤ (x4_1 : Int):=of_decide_eq_true (by first | (with_reducible assumption) | assumption)
      have q181 : x4_1 < (l0.length : Int):=of_decide_eq_true (by first | (with_reducible assumption) | assumption)
      obtain ⟨ad181,e181,hx181_0,hx181_1,hx181_2,hx181_3⟩:=at_T67 HR0.out x4_1 p181 q181
      cases e181
      replace hx181_0:=(HB.out.cell (World.block_lt_of_cell? w _ hx181_0)).trans hx181_0
      replace hx181_1:=(HB.out.cell (World.block_lt_of_cell? w _ hx181_1)).trans hx181_1
      replace hx181_2:=(HB.out.cell (World.block_lt_of_cell? w _ hx181_2)).trans hx181_2
      replace hx181_3:=(HB.out.cell (World.block_lt_of_cell? w _ hx181_3)).trans hx181_3
      replace p181:=eq_true p181
      replace q181:=eq_true q181
      go_wp2
      go_roundg k1
      case measure => have:=HK1.out;omega
      case rel => exact ⟨(x3_1),(wrap64 (x4_1 + 1)),(by first | rfl | (simp;done) | (simp [*];done)),H',⟨by have:=HK1.out;omega⟩,⟨by (with_reducible repeat (first | apply Kd.R_alloc | apply Kd.R_drewN | apply Kd.R_drew));exact HO_3.out⟩,⟨by repeat (first | (with_reducible first | exact HB.out | apply below_alloc | apply pw_below_drewN | apply below_drew1) | exact HB.out)⟩⟩
    ·rw [if_neg c3] at H
     exact absurd H (by simp)
   ·rw [if_neg c2] at H
    have c2b0 : decide (x4_1 < (l0.length : Int)) = false:=decide_eq_false c2
    clear c2
    obtain rfl:=Option.some.inj H
    go_wp2
    go_ret
    exact ⟨_,by first | rfl | (simp [errW_none,errW_some] <;> rfl) | (simp [*,errW_none,errW_some] <;> rfl),by (with_reducible repeat (first | apply Kd.R_alloc | apply Kd.R_drewN | apply Kd.R_drew));exact HO_3.out,by repeat (first | (with_reducible first | exact HB.out | apply below_alloc | apply pw_below_drewN | apply below_drew1) | exact HB.out)⟩

end Go.Proofs.Ytnmmdeonkpfccaa.Pr
namespace Go.Proofs.Ytnmmdeonkpfccaa.Pr
open Go.RowKit Go.Proofs.YtnmmdeonkpfccaaW.PrintWords Go.Proofs.YtnmmdeonkpfccaaW.PrintLast Go.Proofs.YtnmmdeonkpfccaaW.PrintMore
attribute [local go_sem] max2_int min2_int max_two min_two max_three min_three max_four min_four
set_option linter.unusedVariables false
set_option linter.unusedSimpArgs false

/-! ### metrolabref53_Parts: function 15 -/
def metrolabref53_Parts.f (k : Nat) (l0 : List (S67)) : Option (List ByteArray × Int):=(metrolabref53_Check.f k l0).bind fun t188 => (if t188 = 0 then ((metrolabref53_All.f k l0).bind fun t189 => (some (t189,0))) else (some (([] : List ByteArray),t188)))
theorem metrolabref53_Parts.mono : ∀ a0 k,LeO (metrolabref53_Parts.f k a0) (metrolabref53_Parts.f (k + 1) a0):=by
 intro a0 k
 unfold metrolabref53_Parts.f
 repeat' first
   | (with_reducible exact metrolabref53_All.mono _ _)
   | (with_reducible exact metrolabref53_Check.mono _ _)
   | (with_reducible exact LeO.refl _)
   | (with_reducible exact LeO.none _)
   | (with_reducible refine LeO.ite ?_ ?_)
   | (with_reducible refine LeO.bind ?_ (fun _ => ?_))
   | exact metrolabref53_All.mono _ _
   | exact metrolabref53_Check.mono _ _
   | exact LeO.none _
   | refine LeO.ite ?_ ?_
   | refine LeO.bind ?_ (fun _ => ?_)
set_option maxHeartbeats 8000000 in
set_option maxRecDepth 100000 in
theorem metrolabref53_Parts.calls (k : Nat) (A0 : Option Addr) (c0 : Nat) (l0 : List (S67)) (r1 : List ByteArray) (r2 : Int) (w : World) (hr0 : Kd.C k67 w A0 l0.length l0) (hc0 : l0.length ≤ c0) (h : metrolabref53_Parts.f k l0 = some (r1,r2)) :
  Calls Try.prog 15 #[.slice A0 l0.length c0] w fun e w' => ∃ v0_ : Value,e = .returned (.tuple #[v0_,.int .i64 r2]) ∧ Kd.R Kd.string 9 w' w.heap.size (fun _ => True) v0_ r1 ∧ Below w.heap.size w w':=by
 have HR0:=Aside0.mk hr0
 have HC0:=Aside0.mk hc0
 clear hr0 hc0
 have HB:=Aside0.mk (Below.refl w.heap.size w)
 have H : ((metrolabref53_Check.f k l0).bind fun t188 => (if t188 = 0 then ((metrolabref53_All.f k l0).bind fun t189 => (some (t189,0))) else (some (([] : List ByteArray),t188)))) = some (r1,r2):=h
 clear h
 replace H:=Option.bind_eq_some_iff.mp H
 obtain ⟨t188,A20,H⟩:=H
 replace H : (if t188 = 0 then ((metrolabref53_All.f k l0).bind fun t189 => (some (t189,0))) else (some (([] : List ByteArray),t188))) = some (r1,r2):=H
 have A2:=Aside0.mk A20
 clear A20
 by_cases c3 : t188 = 0
 ·rw [if_pos c3] at H
  have c3b0 : (t188 == 0) = true:=beq_iff_eq.mpr c3
  have c3b1 : (t188 != 0) = false:=bne_eq_false_iff_eq.mpr c3
  clear c3
  replace H:=Option.bind_eq_some_iff.mp H
  obtain ⟨t189,A40,H⟩:=H
  replace H : (some (t189,0)) = some (r1,r2):=H
  have A4:=Aside0.mk A40
  clear A40
  simp only [Option.some.injEq,Prod.mk.injEq] at H
  obtain ⟨rfl,rfl⟩:=H
  go_enter Try.func15,Try.ntmps15
  go_wp2_with (first | ((with_reducible refine gate_callee (f:=17) rfl ?_);refine goesL_ (some 6) rfl rfl Try.func17 (by kernel_rfl) rfl #[.slice A0 l0.length c0] rfl (by (try simp only [List.map_toArray,List.map_cons,List.map_nil]);first | done | rfl | (simp only [List.length_drop,List.length_take];rfl)) ?_;(with_reducible refine (metrolabref53_Check.calls k _ _ l0 t188 _ ?side1 ?side2 A2.out).mono ?_);(case side1 => repeat (first | exact HR0.out | (with_reducible refine Kd.C_alloc ?_ _) | (with_reducible refine Kd.C_drewN ?_ _) | (with_reducible refine Kd.C_drew ?_)));(case side2 => exact HC0.out);rintro e w5 ⟨rfl,hb⟩;refine ⟨_,rfl,?_⟩;have n0_:=Aside0.mk (below_step (by repeat (first | (with_reducible first | exact HB.out | apply below_alloc | apply pw_below_drewN | apply below_drew1) | exact HB.out)) hb);clear HB;have HB:=n0_;clear n0_;(try clear hb);(try clear hb2);(try clear hk);(try clear hi)) | ((with_reducible refine gate_callee (f:=42) rfl ?_);refine goesL_ (some 11) rfl rfl Try.func42 (by kernel_rfl) rfl #[.slice A0 l0.length c0] rfl (by (try simp only [List.map_toArray,List.map_cons,List.map_nil]);first | done | rfl | (simp only [List.length_drop,List.length_take];rfl)) ?_;(with_reducible refine (metrolabref53_All.calls k _ _ l0 t189 _ ?side1 ?side2 A4.out).mono ?_);(case side1 => repeat (first | exact (Kd.C_below HR0.out HB.out) | (with_reducible refine Kd.C_alloc ?_ _) | (with_reducible refine Kd.C_drewN ?_ _) | (with_reducible refine Kd.C_drew ?_)));(case side2 => exact HC0.out);rintro e w6 ⟨v190,rfl,ho0,hb⟩;refine ⟨_,rfl,?_⟩;have n0_:=Aside0.mk (Kd.R_lower ho0 (below_size (by repeat (first | (with_reducible first | exact HB.out | apply below_alloc | apply pw_below_drewN | apply below_drew1) | exact HB.out))));have n1_:=Aside0.mk (below_step (by repeat (first | (with_reducible first | exact HB.out | apply below_alloc | apply pw_below_drewN | apply below_drew1) | exact HB.out)) hb);clear HB;have HO191:=n0_;have HB:=n1_;clear n0_ n1_;(try clear hb);(try clear hb2);(try clear hk);(try clear hi);(try clear ho0)))
  go_ret2
  exact ⟨_,by first | rfl | (simp [errW_none,errW_some] <;> rfl) | (simp [*,errW_none,errW_some] <;> rfl),by (with_reducible repeat (first | apply Kd.R_alloc | apply Kd.R_drewN | apply Kd.R_drew));exact HO191.out,by repeat (first | (with_reducible first | exact HB.out | apply below_alloc | apply pw_below_drewN | apply below_drew1) | exact HB.out)⟩
 ·rw [if_neg c3] at H
  have c3b0 : (t188 == 0) = false:=beq_eq_false_iff_ne.mpr c3
  have c3b1 : (t188 != 0) = true:=bne_iff_ne.mpr c3
  simp only [Option.some.injEq,Prod.mk.injEq] at H
  obtain ⟨rfl,rfl⟩:=H
  go_enter Try.func15,Try.ntmps15
  go_wp2_with (first | ((with_reducible refine gate_callee (f:=17) rfl ?_);refine goesL_ (some 6) rfl rfl Try.func17 (by kernel_rfl) rfl #[.slice A0 l0.length c0] rfl (by (try simp only [List.map_toArray,List.map_cons,List.map_nil]);first | done | rfl | (simp only [List.length_drop,List.length_take];rfl)) ?_;(with_reducible refine (metrolabref53_Check.calls k _ _ l0 t188 _ ?side1 ?side2 A2.out).mono ?_);(case side1 => repeat (first | exact HR0.out | (with_reducible refine Kd.C_alloc ?_ _) | (with_reducible refine Kd.C_drewN ?_ _) | (with_reducible refine Kd.C_drew ?_)));(case side2 => exact HC0.out);rintro e w7 ⟨rfl,hb⟩;refine ⟨_,rfl,?_⟩;have n0_:=Aside0.mk (below_step (by repeat (first | (with_reducible first | exact HB.out | apply below_alloc | apply pw_below_drewN | apply below_drew1) | exact HB.out)) hb);clear HB;have HB:=n0_;clear n0_;(try clear hb);(try clear hb2);(try clear hk);(try clear hi)))
  go_ret2
  exact ⟨_,by first | rfl | (simp [errW_none,errW_some] <;> rfl) | (simp [*,errW_none,errW_some] <;> rfl),by first | exact Kd.R_nil _ _ _ _ _ | exact Kd.N_nil _ _ _ _ _ | exact Kd.V_nil _ _ _ _ _ | exact Kd.Q_nil _ _ _ _ _ | exact Kd.S_nil _ _ _ _ _,by repeat (first | (with_reducible first | exact HB.out | apply below_alloc | apply pw_below_drewN | apply below_drew1) | exact HB.out)⟩

end Go.Proofs.Ytnmmdeonkpfccaa.Pr
/- recall.kept: the parts that a suspicion names, without those that it clears. -/
set_option linter.unusedVariables false
namespace Go.Proofs.Ytnmmdeonkpfccaa.Pr
open Go.RowKit Go.Shelf Go.Maps Go.Proofs.YtnmmdeonkpfccaaW.PrintWords Go.Proofs.YtnmmdeonkpfccaaW.PrintLast Go.Proofs.YtnmmdeonkpfccaaW.PrintMore
open Go.Proofs.Ytnmmdeonkpfccaa.Rg
attribute [local go_sem] Oper.semAt_some

def evK (l : List S51) (k : Nat) : S51:=l.getD (l.length - 1 - k) z51
/-- What was named, and what was cleared, k events from behind. -/
def keptS (p : S51 → Int → Bool) (l : List S51) : Nat → List (List UInt8) × List (List UInt8)
 | 0 => ([],[])
 | k + 1 => if (evK l k).f0 = 3 ∨ (chkA l k).2 = 2 then ((keptS p l k).1,(evK l k).f2.data.toList :: (keptS p l k).2)
  else if (evK l k).f0 = 0 ∧ p (evK l k) (chkA l k).2 = true then ((evK l k).f2.data.toList :: (keptS p l k).1,(keptS p l k).2) else keptS p l k
def keptL (p : S51 → Int → Bool) (l : List S51) : List (List UInt8):=(keptS p l l.length).1.filter fun q => !decide (q ∈ (keptS p l l.length).2)

theorem fSet_drop (O N : List (List UInt8)) : dropF (fSet O) (fun q => decide (q ∈ N)) = fSet (O.filter fun q => !decide (q ∈ N)):=by
 funext q
 unfold dropF fSet
 by_cases h : q ∈ N
 ·rw [if_pos (decide_eq_true h),if_neg (by rw [List.mem_filter];rintro ⟨_,h2⟩;simp [h] at h2)]
 ·rw [if_neg (by simpa using h)]
  by_cases h2 : q ∈ O
  ·rw [if_pos h2,if_pos (List.mem_filter.2 ⟨h2,by simp [h]⟩)]
  ·rw [if_neg h2,if_neg (fun h3 => h2 (List.mem_filter.1 h3).1)]

set_option maxHeartbeats 1000000 in
theorem never72 (s : ByteArray) (hs : s.size ≤ maxLen) (val : Value) (Bn bn n : Nat) (N : List (List UInt8)) (W : World) (hb : W.cell? ⟨Bn,0,none⟩ = some (.map (some bn))) (hm : MapF Try.prog 9 W bn n (fSet N)) :
  Calls Try.prog 72 #[.string s,val,.pointer (some ⟨Bn,0,none⟩)] W fun e w' => e = .returned (.bool (decide (s.data.toList ∈ N))) ∧ w' = W:=by
 have HV:=Aside0.mk (show (fSet N s.data.toList).getD (.bool false) = .bool (decide (s.data.toList ∈ N)) from by unfold fSet;by_cases h : s.data.toList ∈ N <;> simp [h])
 go_enter Try.func72,Try.ntmps72
 go_wp2_with (at_lookup;refine wpList_lookF rfl _ _ 49 rfl 9 4 Try.underlying9 Try.underlying49 (Try.zeroValue4 _) rfl hm s rfl hs _ HV.out ?_)
 go_ret
 exact ⟨rfl,rfl⟩
set_option maxHeartbeats 1000000 in
theorem never56 (s : ByteArray) (hs : s.size ≤ maxLen) (val : Value) (Bn bn n : Nat) (N : List (List UInt8)) (W : World) (hb : W.cell? ⟨Bn,0,none⟩ = some (.map (some bn))) (hm : MapF Try.prog 9 W bn n (fSet N)) :
  Calls Try.prog 56 #[.string s,val,.pointer (some ⟨Bn,0,none⟩)] W fun e w' => e = .returned (.bool (decide (s.data.toList ∈ N))) ∧ w' = W:=by
 have HV:=Aside0.mk (show (fSet N s.data.toList).getD (.bool false) = .bool (decide (s.data.toList ∈ N)) from by unfold fSet;by_cases h : s.data.toList ∈ N <;> simp [h])
 go_enter Try.func56,Try.ntmps56
 go_wp2_with (at_lookup;refine wpList_lookF rfl _ _ 49 rfl 9 4 Try.underlying9 Try.underlying49 (Try.zeroValue4 _) rfl hm s rfl hs _ HV.out ?_)
 go_ret
 exact ⟨rfl,rfl⟩

/-- maps.DeleteFunc with such a closure. -/
theorem delete_ok (g : Nat) (eg : ∀ args w,(callFunc g args).run Try.prog w = .ok (.enter g args) w)
  (hgc : ∀ (s : ByteArray) (_ : s.size ≤ maxLen) (val : Value) (Bn bn n : Nat) (N : List (List UInt8)) (W : World) (_ : W.cell? ⟨Bn,0,none⟩ = some (.map (some bn))) (_ : MapF Try.prog 9 W bn n (fSet N)),
   Calls Try.prog g #[.string s,val,.pointer (some ⟨Bn,0,none⟩)] W fun e w' => e = .returned (.bool (decide (s.data.toList ∈ N))) ∧ w' = W)
  (b n Bn bn nn : Nat) (O N : List (List UInt8)) (w : World) (hO : MapF Try.prog 9 w b n (fSet O)) (hb : w.cell? ⟨Bn,0,none⟩ = some (.map (some bn))) (hN : MapF Try.prog 9 w bn nn (fSet N)) (hne : bn ≠ b) (hne2 : Bn ≠ b) :
  Calls Try.prog 55 #[.map (some b),.func (.func g) #[] #[.pointer (some ⟨Bn,0,none⟩)]] w fun e w' => e = .returned (.tuple #[]) ∧ MapF Try.prog 9 w' b n (fSet (O.filter fun q => !decide (q ∈ N))) ∧ w.grownBy w' (some b):=by
 obtain ⟨D,hown,ht⟩:=hO
 have hlt : Bn < w.heap.size:=World.block_lt_of_cell? w _ hb
 refine (AnyDf.maps_DeleteFunc Try.del55 (string_keyed Try.underlying9) RV (fun kl _ => match kl with | .string q => decide (q ∈ N) | _ => false) g #[.pointer (some ⟨Bn,0,none⟩)] b n D w eg hown ?_).mono ?_
 ·intro W key val kl yd yp hg hk _
  obtain ⟨x,rfl,rfl,hx⟩:=Maps.keyOf_str Try.underlying9 hk
  have hbW : W.cell? ⟨Bn,0,none⟩ = some (.map (some bn)):=(World.cell?_of_block (hg.block Bn hlt (by simpa using hne2))).trans hb
  have:=hgc ⟨x.toArray⟩ (by simpa [ByteArray.size] using hx) val Bn bn nn N W hbW (hN.kept hg (by simpa using hne))
  refine Calls.mono this ?_
  rintro e w' ⟨rfl,rfl⟩
  exact ⟨by simp,World.grownBy.refl _ _⟩
 ·rintro e w' ⟨rfl,h1,h2⟩
  refine ⟨rfl,⟨_,h1,?_⟩,h2⟩
  rw [← fSet_drop]
  exact ht.drop hown.isMap _ _ (fun q d => rfl)
/-- Of what lay in X only blocks of C have turned. -/
def NearC (C : Nat → Prop) (X Y : World) : Prop:=X.os = Y.os ∧ X.tape = Y.tape ∧ X.output = Y.output ∧ KeepC C X Y
theorem NearC.refl (C : Nat → Prop) (X : World) : NearC C X X:=⟨rfl,rfl,rfl,KeepC.refl _ _⟩
theorem NearC.alloc {C : Nat → Prop} {X Y : World} (h : NearC C X Y) (o : Obj) : NearC C X (Y.alloc o):=⟨h.1,h.2.1,h.2.2.1,h.2.2.2.alloc o⟩
theorem NearC.grown {C : Nat → Prop} {M : Nat} {X Y Z : World} (h : NearC C X Y) (hg : Y.grownBy Z (some M)) (hM : C M) : NearC C X Z :=
 ⟨h.1.trans hg.os.symm,h.2.1.trans hg.tape.symm,h.2.2.1.trans hg.output.symm,h.2.2.2.grown hg (fun k e => by cases e;exact .inr hM)⟩
theorem NearC.below {C : Nat → Prop} {X Y Z : World} (h : NearC C X Y) (hb : Below Y.heap.size Y Z) : NearC C X Z:=⟨h.1.trans hb.os.symm,h.2.1.trans hb.tape.symm,h.2.2.1.trans hb.output.symm,h.2.2.2.of_below hb⟩
theorem NearC.setCell {C : Nat → Prop} {X Y : World} (h : NearC C X Y) {p : Addr} (hp : X.heap.size ≤ p.block ∨ C p.block) (u : Value) : NearC C X (Y.setCell p u):=⟨h.1,h.2.1,h.2.2.1,h.2.2.2.setCell hp u⟩
/-- A closure that judges an event and a state. -/
def Judges (fs : Nat) (lbs : Array Value) (p : S51 → Int → Bool) (w : World) : Prop:=∀ (W : World) (x : S51) (s : Int),Below w.heap.size w W → Calls Try.prog fs (#[evV x,.int .i64 s] ++ lbs) W fun e w' => e = .returned (.bool (p x s)) ∧ Below W.heap.size W w'

set_option maxRecDepth 100000 in
set_option maxHeartbeats 1000000 in
theorem kept_ok (A0 : Option Addr) (c0 : Nat) (l : List (S51)) (fs : Nat) (lbs : Array Value) (p : S51 → Int → Bool) (w : World) (hr0 : Kd.C k51 w A0 l.length l) (hl : l.length ≤ 4096) (hg : ∀ x ∈ l,x.f1.size ≤ 24) (hg2 : ∀ x ∈ l,x.f2.size ≤ 24)
  (eg : ∀ args w,(callFunc fs args).run Try.prog w = .ok (.enter fs args) w) (hj : Judges fs lbs p w) :
  Calls Try.prog 53 #[.slice A0 l.length c0,.func (.func fs) #[] lbs] w fun e w' => ∃ b,e = .returned (.map (some b)) ∧ w.heap.size ≤ b ∧ MapF Try.prog 9 w' b 4096 (fSet (keptL p l)) ∧ Below w.heap.size w w':=by
 have hlt:=slice_lt hr0
 have HR0:=Aside0.mk hr0
 have HG:=Aside0.mk hg
 have HG2:=Aside0.mk hg2
 have HLT:=Aside0.mk hlt
 have HJJ:=Aside0.mk hj
 have hmm:=@run_makeMap Try.prog
 have hf38 : Fence.wide.fn 38:=trivial
 have hf55 : Fence.wide.fn 55:=trivial
 clear hr0 hg hg2 hlt hj
 refine (callsIn_wide (n:=3)).1 ?_
 refine callsIn_of_wp_marks Try.func53 rfl trivial ?_ rfl
 simp only [Try.ntmps53,List.size_toArray,List.length_cons,List.length_nil,Nat.reduceAdd,Nat.reduceSub,Array.replicate_succ,Array.replicate_zero,List.push_toArray,List.append_toArray,List.nil_append,List.cons_append]
 obtain ⟨W6,hW6⟩ : ∃ W6,(((((w.alloc (Obj.cells #[Value.slice A0 l.length c0] 22)).alloc (Obj.cells #[Value.func (.func fs) #[] lbs] 80)).alloc (Obj.map #[] 0)).alloc (Obj.cells #[Value.map (some (w.heap.size + 2))] 49)).alloc (Obj.map #[] 0)).alloc (Obj.cells #[Value.map (some (w.heap.size + 4))] 49) = W6:=⟨_,rfl⟩
 have hs6 : W6.heap.size = w.heap.size + 6:=by rw [← hW6];simp
 have hb6 : Below w.heap.size w W6:=by rw [← hW6];exact ((((((Below.refl _ w).alloc (Nat.le_refl _) _).alloc (by simp) _).alloc (by simp;omega) _).alloc (by simp;omega) _).alloc (by simp;omega) _).alloc (by simp;omega) _
 have k0 : W6.heap[w.heap.size]? = some (.cells #[.slice A0 l.length c0] 22):=by rw [← hW6];exact blk_alloc (blk_alloc (blk_alloc (blk_alloc (blk_alloc (blk_new _ _) _) _) _) _) _
 have k1 : W6.heap[w.heap.size + 1]? = some (.cells #[.func (.func fs) #[] lbs] 80):=by
  rw [← hW6]
  have:=blk_new (w.alloc (Obj.cells #[Value.slice A0 l.length c0] 22)) (Obj.cells #[Value.func (.func fs) #[] lbs] 80)
  rw [World.size_alloc] at this
  exact blk_alloc (blk_alloc (blk_alloc (blk_alloc this _) _) _) _
 have k2 : MapF Try.prog 9 W6 (w.heap.size + 2) 0 (fSet []):=by
  rw [← hW6,fSet_nil]
  have:=MapF.made ((w.alloc (Obj.cells #[Value.slice A0 l.length c0] 22)).alloc (Obj.cells #[Value.func (.func fs) #[] lbs] 80)) Try.prog 9
  rw [World.size_alloc,World.size_alloc] at this
  exact ((this.alloc _).alloc _).alloc _
 have k3 : W6.heap[w.heap.size + 3]? = some (.cells #[.map (some (w.heap.size + 2))] 49):=by
  rw [← hW6]
  have:=blk_new (((w.alloc (Obj.cells #[Value.slice A0 l.length c0] 22)).alloc (Obj.cells #[Value.func (.func fs) #[] lbs] 80)).alloc (Obj.map #[] 0)) (Obj.cells #[Value.map (some (w.heap.size + 2))] 49)
  rw [World.size_alloc,World.size_alloc,World.size_alloc] at this
  exact blk_alloc (blk_alloc this _) _
 have k4 : MapF Try.prog 9 W6 (w.heap.size + 4) 0 (fSet []):=by
  rw [← hW6,fSet_nil]
  have:=MapF.made ((((w.alloc (Obj.cells #[Value.slice A0 l.length c0] 22)).alloc (Obj.cells #[Value.func (.func fs) #[] lbs] 80)).alloc (Obj.map #[] 0)).alloc (Obj.cells #[Value.map (some (w.heap.size + 2))] 49)) Try.prog 9
  rw [World.size_alloc,World.size_alloc,World.size_alloc,World.size_alloc] at this
  exact this.alloc _
 have k5 : W6.heap[w.heap.size + 5]? = some (.cells #[.map (some (w.heap.size + 4))] 49):=by
  rw [← hW6]
  have:=blk_new (((((w.alloc (Obj.cells #[Value.slice A0 l.length c0] 22)).alloc (Obj.cells #[Value.func (.func fs) #[] lbs] 80)).alloc (Obj.map #[] 0)).alloc (Obj.cells #[Value.map (some (w.heap.size + 2))] 49)).alloc (Obj.map #[] 0)) (Obj.cells #[Value.map (some (w.heap.size + 4))] 49)
  rw [World.size_alloc,World.size_alloc,World.size_alloc,World.size_alloc,World.size_alloc] at this
  exact this
 have hc60 : W6.cell? ⟨w.heap.size,0,none⟩ = some (.slice A0 l.length c0):=(blk_cell k0 0).trans rfl
 gi_wp2_with ((first | refine ⟨fun h => absurd h (by decide),?_⟩ | skip);gi_at_call 38;refine (states_in _ A0 c0 l.length _).mono ?_;rintro e w' ⟨rfl,rfl⟩)
 obtain ⟨Wl,hWl⟩ : ∃ Wl,W6.alloc (Obj.cells #[Value.slice A0 l.length c0] 22) = Wl:=⟨_,rfl⟩
 have hsl : Wl.heap.size = w.heap.size + 7:=by rw [← hWl];simp;omega
 have hbl : Below w.heap.size w Wl:=by rw [← hWl];exact hb6.alloc (by omega) _
 have hL0 : Wl.cell? ⟨w.heap.size + 6,0,none⟩ = some (.slice A0 l.length c0):=by
  rw [← hWl]
  have:=blk_new W6 (Obj.cells #[Value.slice A0 l.length c0] 22)
  rw [hs6] at this
  exact (blk_cell this 0).trans rfl
 have q0 : Wl.heap[w.heap.size]? = some (.cells #[.slice A0 l.length c0] 22):=by rw [← hWl];exact blk_alloc k0 _
 have q1 : Wl.heap[w.heap.size + 1]? = some (.cells #[.func (.func fs) #[] lbs] 80):=by rw [← hWl];exact blk_alloc k1 _
 have q2 : MapF Try.prog 9 Wl (w.heap.size + 2) 0 (fSet []):=by rw [← hWl];exact k2.alloc _
 have q3 : Wl.heap[w.heap.size + 3]? = some (.cells #[.map (some (w.heap.size + 2))] 49):=by rw [← hWl];exact blk_alloc k3 _
 have q4 : MapF Try.prog 9 Wl (w.heap.size + 4) 0 (fSet []):=by rw [← hWl];exact k4.alloc _
 have q5 : Wl.heap[w.heap.size + 5]? = some (.cells #[.map (some (w.heap.size + 4))] 49):=by rw [← hWl];exact blk_alloc k5 _
 rw [hWl]
 clear hWl hf38 hW6 hs6 hb6 k0 k1 k2 k3 k4 k5 hc60
 refine rangeB2 (gf:=64) (lb:=#[.pointer (some ⟨w.heap.size + 6,0,none⟩)]) rfl (enters_of Try.func64 (by kernel_rfl) rfl) (fun i => i = w.heap.size + 2 ∨ i = w.heap.size + 4) (fun i hi => by omega)
  (states_seq _ A0 c0 (w.heap.size + 6) l Wl hl HG.out (Kd.C_below HR0.out hbl) (fun ad ha hne h => by have:=HLT.out ad ha hne;omega) (fun ad ha hne => by have:=HLT.out ad ha hne;omega) hL0 (fun h => by omega)) (fun _ => rfl)
  (fun pre Wr => ∃ (k : Nat),k ≤ l.length ∧ pre = statK l k ∧ MapF Try.prog 9 Wr (w.heap.size + 2) k (fSet (keptS p l k).1) ∧ MapF Try.prog 9 Wr (w.heap.size + 4) k (fSet (keptS p l k).2) ∧
   (∀ i,(i = w.heap.size ∨ i = w.heap.size + 1 ∨ i = w.heap.size + 3 ∨ i = w.heap.size + 5) → Wr.heap[i]? = Wl.heap[i]?) ∧ Below w.heap.size w Wr)
  ?hI ⟨0,by omega,rfl,q2,q4,fun _ _ => rfl,hbl⟩ ?round ?done
 case hI =>
  rintro pre Wr Wr' ⟨k,hk,hp,hm1,hm2,hb,hB⟩ hsz hsz2 h1 h2 h3 h4
  exact ⟨k,hk,hp,hm1.same (h4 _ (by omega)),hm2.same (h4 _ (by omega)),fun i hi => (h4 i (by omega)).trans (hb i hi),below_reads hB (by omega) hsz2 h1 h2 h3 h4⟩
 case round =>
  rintro m pre ⟨i,a,s⟩ Wr hI hsz hpf
  have HI:=Aside0.mk hI
  have Q0:=Aside0.mk q0
  have Q1:=Aside0.mk q1
  have Q3:=Aside0.mk q3
  have Q5:=Aside0.mk q5
  clear hI hpf q0 q1 q2 q3 q4 q5 hL0 hbl
  simp only [encS,pairV]
  gi_wp2
  obtain ⟨k,hk,hp,hm1,hm2,hb,hB⟩:=HI.out
  refine ⟨(KeepC.refl _ _).alloc _,⟨k,hk,hp,hm1.alloc _,hm2.alloc _,fun i hi => (Below.heap_alloc _ _ _ (by omega)).trans (hb i hi),hB.alloc (by omega) _⟩,?_⟩
  clear k hk hp hm1 hm2 hb hB
  rintro m2 pre2 W2 hone ⟨k,hk,hp,hm1,hm2,hb,hB⟩ hsz2 ⟨k',hk',hpk⟩
  obtain ⟨rfl,hx⟩:=statK_next hp hpk
  simp only [Prod.mk.injEq] at hx
  obtain ⟨hi,hc⟩:=hx
  have hcs : s = (chkA l k).2:=by rw [← hc]
  have hbx : W2.heap[Wr.heap.size]? = some (.cells #[.int .i64 a,.int .i64 s] 65):=(hone.2.2.2.2 _ (by omega)).trans (blk_new _ _)
  have hszr : Wr.heap.size + 1 = W2.heap.size:=by rw [← hone.1];simp
  have hc1 : W2.cell? ⟨Wr.heap.size,1,none⟩ = some (.int .i64 s):=(blk_cell hbx 1).trans rfl
  have hl2 : W2.cell? ⟨w.heap.size,0,none⟩ = some (.slice A0 l.length c0):=(blk_cell ((hb _ (by omega)).trans Q0.out) 0).trans rfl
  have hi0 : 0 ≤ i:=by rw [hi];omega
  have hi1 : i < (l.length : Int):=by rw [hi];omega
  obtain ⟨x,hx⟩ : ∃ x,x = evK l k:=⟨_,rfl⟩
  have hrd : rd_T51 l i = x:=by unfold rd_T51;rw [hx,hi];unfold evK;congr 1;omega
  have hxm : x.f2.size ≤ 24:=by
   refine HG2.out x ?_
   rw [hx];unfold evK
   rw [List.getD_eq_getElem?_getD,List.getElem?_eq_getElem (by omega)]
   exact List.getElem_mem _
  have hxm2 : x.f2.size ≤ maxLen:=by unfold maxLen;omega
  obtain ⟨ad,e1,hx0,hx1,hx2,hx3⟩:=at_T51 HR0.out i hi0 hi1
  cases e1
  rw [hrd] at hx0 hx1 hx2 hx3
  replace hx0:=(hB.cell (World.block_lt_of_cell? w _ hx0)).trans hx0
  replace hx1:=(hB.cell (World.block_lt_of_cell? w _ hx1)).trans hx1
  replace hx2:=(hB.cell (World.block_lt_of_cell? w _ hx2)).trans hx2
  replace hx3:=(hB.cell (World.block_lt_of_cell? w _ hx3)).trans hx3
  have HM1:=Aside0.mk hm1
  have HM2:=Aside0.mk hm2
  have HBL:=Aside0.mk hb
  have HP:=Aside0.mk hpk
  have HBB:=Aside0.mk hB
  have HCS:=Aside0.mk hcs
  have HX:=Aside0.mk hx
  have HBX:=Aside0.mk hbx
  have HKS:=Aside0.mk (show keptS p l (k + 1) = if x.f0 = 3 ∨ s = 2 then ((keptS p l k).1,x.f2.data.toList :: (keptS p l k).2) else if x.f0 = 0 ∧ p x s = true then (x.f2.data.toList :: (keptS p l k).1,(keptS p l k).2) else keptS p l k from by rw [hcs,hx];rfl)
  clear hm1 hm2 hb hpk hB hcs hi hc hp hbx hone HI hx hrd
  have hBA : ∀ o : Obj,Below W2.heap.size W2 (W2.alloc o):=fun o => (Below.refl _ W2).alloc (Nat.le_refl _) o
  have hcA:=fun o : Obj => ((hBA o).cell (p:=⟨Wr.heap.size,1,none⟩) (show Wr.heap.size < _ by omega)).trans hc1
  have h3A:=fun o : Obj => ((hBA o).cell (p:=⟨w.heap.size + 1 + 1 + 1,0,none⟩) (show w.heap.size + 1 + 1 + 1 < _ by omega)).trans ((blk_cell ((HBL.out _ (by omega)).trans Q3.out) 0).trans rfl : W2.cell? ⟨w.heap.size + 1 + 1 + 1,0,none⟩ = some (.map (some (w.heap.size + 2))))
  have h5A:=fun o : Obj => ((hBA o).cell (p:=⟨w.heap.size + 1 + 1 + 1 + 1 + 1,0,none⟩) (show w.heap.size + 1 + 1 + 1 + 1 + 1 < _ by omega)).trans ((blk_cell ((HBL.out _ (by omega)).trans Q5.out) 0).trans rfl : W2.cell? ⟨w.heap.size + 1 + 1 + 1 + 1 + 1,0,none⟩ = some (.map (some (w.heap.size + 4))))
  have h1A:=fun o : Obj => ((hBA o).cell (p:=⟨w.heap.size + 1,0,none⟩) (show w.heap.size + 1 < _ by omega)).trans ((blk_cell ((HBL.out _ (by omega)).trans Q1.out) 0).trans rfl : W2.cell? ⟨w.heap.size + 1,0,none⟩ = some (.func (.func fs) #[] lbs))
  have FIN:=Aside0.mk (show ∀ W',NearC (fun i => i = w.heap.size + 2 ∨ i = w.heap.size + 4) W2 W' → MapF Try.prog 9 W' (w.heap.size + 2) (k + 1) (fSet (keptS p l (k + 1)).1) → MapF Try.prog 9 W' (w.heap.size + 4) (k + 1) (fSet (keptS p l (k + 1)).2) →
    KeepC (fun i => i = w.heap.size + 2 ∨ i = w.heap.size + 4) W2 W' ∧ ∃ k,k ≤ l.length ∧ pre2 ++ [(i,a,s)] = statK l k ∧ MapF Try.prog 9 W' (w.heap.size + 2) k (fSet (keptS p l k).1) ∧ MapF Try.prog 9 W' (w.heap.size + 4) k (fSet (keptS p l k).2) ∧
     (∀ i,(i = w.heap.size ∨ i = w.heap.size + 1 ∨ i = w.heap.size + 3 ∨ i = w.heap.size + 5) → W'.heap[i]? = Wl.heap[i]?) ∧ Below w.heap.size w W' from by
   intro W' hn h1 h2
   exact ⟨hn.2.2.2,k + 1,hk',HP.out,h1,h2,fun i hi => (hn.2.2.2.same i (by omega) (by omega)).trans (HBL.out i hi),below_reads HBB.out (Nat.le_refl _) hn.2.2.2.size hn.1 hn.2.1 hn.2.2.1 (fun i hi => hn.2.2.2.same i (by omega) (by omega))⟩)
  clear hBA
  by_cases k3 : x.f0 = 3
  ·rw [k3] at hx0
   have HK2:=Aside0.mk (HKS.out.trans (if_pos (.inl k3)))
   clear k3
   gi_wp2_with (gi_at_mapUpdate;refine wpListIn_storeF rfl _ _ _ 49 rfl 9 4 Try.underlying9 Try.underlying49 rfl (HM2.out.alloc _) (by unfold maxLen;omega) x.f2 rfl hxm2 (.bool true) rfl ?_;intro w8 hs8 hg8;have HS8:=Aside0.mk hs8;have HG8:=Aside0.mk hg8;clear hs8 hg8)
   exact FIN.out _ (((NearC.refl _ _).alloc _).grown HG8.out (.inr rfl)) (by rw [HK2.out];exact (((HM1.out.alloc _).kept HG8.out (by simp)).mono (Nat.le_succ _))) (by rw [HK2.out,← fSet_put];exact HS8.out)
  ·have k3b : (x.f0 == 3) = false:=beq_eq_false_iff_ne.mpr k3
   by_cases k2 : s = 2
   ·have HK2:=Aside0.mk (HKS.out.trans (if_pos (.inr k2)))
    rw [k2] at hc1 hcA
    clear k3 k2
    gi_wp2_with (gi_at_mapUpdate;refine wpListIn_storeF rfl _ _ _ 49 rfl 9 4 Try.underlying9 Try.underlying49 rfl (HM2.out.alloc _) (by unfold maxLen;omega) x.f2 rfl hxm2 (.bool true) rfl ?_;intro w8 hs8 hg8;have HS8:=Aside0.mk hs8;have HG8:=Aside0.mk hg8;clear hs8 hg8)
    exact FIN.out _ (((NearC.refl _ _).alloc _).grown HG8.out (.inr rfl)) (by rw [HK2.out];exact (((HM1.out.alloc _).kept HG8.out (by simp)).mono (Nat.le_succ _))) (by rw [HK2.out,← fSet_put];exact HS8.out)
   ·have k2b : (s == 2) = false:=beq_eq_false_iff_ne.mpr k2
    have HKN:=Aside0.mk (HKS.out.trans (if_neg (by rintro (h | h);exact k3 h;exact k2 h)))
    by_cases k0 : x.f0 = 0
    ·obtain ⟨r,hr⟩ : ∃ r,r = p x s:=⟨_,rfl⟩
     have HJ0:=Aside0.mk (show ∀ W,Below w.heap.size w W → Calls Try.prog fs (#[.agg #[.int .i64 0,.string x.f1,.string x.f2,.string x.f3],.int .i64 s] ++ lbs) W fun e w' => e = .returned (.bool r) ∧ Below W.heap.size W w' from fun W hW => by
      have:=HJJ.out W x s hW
      unfold evV at this
      rw [k0,← hr] at this
      exact this)
     rw [k0] at hx0
     have hff : Fence.wide.fn fs:=trivial
     cases r with
     | true =>
      have HK2:=Aside0.mk (HKN.out.trans (if_pos ⟨k0,hr.symm⟩))
      clear k3 k2 k0 hr HKN
      gi_wp2_with (first | ((first | refine ⟨fun h => absurd (show false = true from h) (by decide),?_⟩ | skip);gi_at_fn fs;refine (CallsIn.inRound _ (callsIn_wide.2 (HJ0.out _ (HBB.out.alloc (by omega) _)))).mono ?_;rintro e w9 ⟨rfl,hb9⟩;have HB9:=Aside0.mk hb9;have HM19:=Aside0.mk ((HM1.out.alloc (.cells #[.int .i64 0,.string x.f1,.string x.f2,.string x.f3] 51)).below hb9);have HM29:=Aside0.mk ((HM2.out.alloc (.cells #[.int .i64 0,.string x.f1,.string x.f2,.string x.f3] 51)).below hb9);have hx29 : w9.cell? ⟨W2.heap.size,2,none⟩ = some (.string x.f2):=(blk_cell (blk_below (blk_new W2 (.cells #[.int .i64 0,.string x.f1,.string x.f2,.string x.f3] 51)) hb9) 2).trans rfl;have hv39 : w9.cell? ⟨w.heap.size + 1 + 1 + 1,0,none⟩ = some (.map (some (w.heap.size + 2))):=(blk_cell (blk_below (blk_alloc ((HBL.out _ (by omega)).trans Q3.out) (.cells #[.int .i64 0,.string x.f1,.string x.f2,.string x.f3] 51)) hb9) 0).trans rfl;clear hb9) | (gi_at_mapUpdate;refine wpListIn_storeF rfl _ _ _ 49 rfl 9 4 Try.underlying9 Try.underlying49 rfl HM19.out (by unfold maxLen;omega) x.f2 rfl hxm2 (.bool true) rfl ?_;intro w8 hs8 hg8;have HS8:=Aside0.mk hs8;have HG8:=Aside0.mk hg8;clear hs8 hg8))
      exact FIN.out _ ((((NearC.refl _ _).alloc _).below HB9.out).grown HG8.out (.inl rfl)) (by rw [HK2.out,← fSet_put];exact HS8.out) (by rw [HK2.out];exact (HM29.out.kept HG8.out (by simp)).mono (Nat.le_succ _))
     | false =>
      have HK2:=Aside0.mk (HKN.out.trans (if_neg (by rintro ⟨_,h⟩;rw [← hr] at h;cases h)))
      clear k3 k2 k0 hr HKN
      gi_wp2_with (first | ((first | refine ⟨fun h => absurd (show false = true from h) (by decide),?_⟩ | skip);gi_at_fn fs;refine (CallsIn.inRound _ (callsIn_wide.2 (HJ0.out _ (HBB.out.alloc (by omega) _)))).mono ?_;rintro e w9 ⟨rfl,hb9⟩;have HB9:=Aside0.mk hb9;have HM19:=Aside0.mk ((HM1.out.alloc (.cells #[.int .i64 0,.string x.f1,.string x.f2,.string x.f3] 51)).below hb9);have HM29:=Aside0.mk ((HM2.out.alloc (.cells #[.int .i64 0,.string x.f1,.string x.f2,.string x.f3] 51)).below hb9);have hx29 : w9.cell? ⟨W2.heap.size,2,none⟩ = some (.string x.f2):=(blk_cell (blk_below (blk_new W2 (.cells #[.int .i64 0,.string x.f1,.string x.f2,.string x.f3] 51)) hb9) 2).trans rfl;have hv39 : w9.cell? ⟨w.heap.size + 1 + 1 + 1,0,none⟩ = some (.map (some (w.heap.size + 2))):=(blk_cell (blk_below (blk_alloc ((HBL.out _ (by omega)).trans Q3.out) (.cells #[.int .i64 0,.string x.f1,.string x.f2,.string x.f3] 51)) hb9) 0).trans rfl;clear hb9) | (gi_at_mapUpdate;refine wpListIn_storeF rfl _ _ _ 49 rfl 9 4 Try.underlying9 Try.underlying49 rfl HM19.out (by unfold maxLen;omega) x.f2 rfl hxm2 (.bool true) rfl ?_;intro w8 hs8 hg8;have HS8:=Aside0.mk hs8;have HG8:=Aside0.mk hg8;clear hs8 hg8))
      exact FIN.out _ (((NearC.refl _ _).alloc _).below HB9.out) (by rw [HK2.out];exact HM19.out.mono (Nat.le_succ _)) (by rw [HK2.out];exact HM29.out.mono (Nat.le_succ _))
    ·have k0b : (x.f0 == 0) = false:=beq_eq_false_iff_ne.mpr k0
     have HK2:=Aside0.mk (HKN.out.trans (if_neg (fun h => k0 h.1)))
     clear k3 k2 k0 HKN
     gi_wp2
     refine ⟨fun _ h => (by cases h),?_⟩
     gi_wp2
     exact FIN.out (W2.alloc (.cells #[.int .i64 x.f0,.string x.f1,.string x.f2,.string x.f3] 51)) ((NearC.refl _ _).alloc _) (by rw [HK2.out];exact (HM1.out.alloc _).mono (Nat.le_succ _)) (by rw [HK2.out];exact (HM2.out.alloc _).mono (Nat.le_succ _))
 case done =>
  rintro xs W' rfl ⟨k,hk,hp,hm1,hm2,hb,hB⟩ hK hsz
  obtain rfl:=statK_inj hp
  have hc3 : W'.cell? ⟨w.heap.size + 1 + 1 + 1,0,none⟩ = some (.map (some (w.heap.size + 2))):=(blk_cell ((hb _ (by omega)).trans q3) 0).trans rfl
  have hc5 : W'.cell? ⟨w.heap.size + 1 + 1 + 1 + 1 + 1,0,none⟩ = some (.map (some (w.heap.size + 4))):=(blk_cell ((hb _ (by omega)).trans q5) 0).trans rfl
  have hdel:=delete_ok 72 (enters_of Try.func72 (by kernel_rfl) rfl) never72 (w.heap.size + 2) l.length (w.heap.size + 1 + 1 + 1 + 1 + 1) (w.heap.size + 4) l.length _ _ W' hm1 hc5 hm2 (by omega) (by omega)
  rw [hsl] at hK
  have HDEL:=Aside0.mk hdel
  have HB:=Aside0.mk hB
  clear hdel hm1 hm2 hb hB q0 q1 q2 q3 q4 q5 hbl hL0 hp
  gi_wp2_with ((first | refine ⟨fun h => absurd h (by decide),?_⟩ | skip);gi_at_call 55;refine (callsIn_wide.2 HDEL.out).mono ?_;rintro e w9 ⟨rfl,hm9,hg9⟩;have HM9:=Aside0.mk hm9;have HG9:=Aside0.mk hg9;have hc39 : w9.cell? ⟨w.heap.size + 1 + 1 + 1,0,none⟩ = some (.map (some (w.heap.size + 2))):=(World.cell?_of_block (hg9.block (w.heap.size + 3) (by omega) (by simp))).trans hc3;clear hm9 hg9)
  have hK9 : w9.heap[w.heap.size + 7]? = some (.deferred (some [])):=(HG9.out.block (w.heap.size + 7) (by omega) (by simp)).trans hK
  have hD:=(Array.getElem?_eq_some_iff.1 hK9).1
  refine ⟨by simp,.inl ⟨_,_,rfl,run_takeDeferred hK9,?_⟩⟩
  refine ⟨_,results_tmp (fn:=Try.f53) rfl _ _ _,w.heap.size + 2,rfl,by omega,?_,?_⟩
  ·exact (HM9.out.same (World.putObj_heap_other (by omega))).mono hl
  ·exact below_reads (HB.out.grown HG9.out HB.out.size (fun k e => by cases e;omega)) (Nat.le_refl _) (by simp) rfl rfl rfl (fun i hi => World.putObj_heap_other (by omega))
end Go.Proofs.Ytnmmdeonkpfccaa.Pr
/- recall.recalled, recall.Parts, recall.Lots. -/
set_option linter.unusedVariables false
namespace Go.Proofs.Ytnmmdeonkpfccaa.Pr
open Go.RowKit Go.Shelf Go.Maps Go.Proofs.YtnmmdeonkpfccaaW.PrintWords Go.Proofs.YtnmmdeonkpfccaaW.PrintLast Go.Proofs.YtnmmdeonkpfccaaW.PrintMore
open Go.Proofs.Ytnmmdeonkpfccaa.Rg

set_option maxHeartbeats 1000000 in
theorem judges68 (w : World) : Judges 68 #[] (fun _ s => s == 3) w:=by
 intro W x s hW
 show Calls Try.prog 68 #[.agg #[.int .i64 x.f0,.string x.f1,.string x.f2,.string x.f3],.int .i64 s] W _
 go_enter Try.func68,Try.ntmps68
 go_wp2
 go_ret
 exact ⟨rfl,(Below.refl _ W).alloc (Nat.le_refl _) _⟩

def recL (l : List S51) : List (List UInt8):=keptL (fun _ s => s == 3) l
theorem recalled_ok (A0 : Option Addr) (c0 : Nat) (l : List (S51)) (w : World) (hr0 : Kd.C k51 w A0 l.length l) (hck : checkV l = 0) :
  Calls Try.prog 41 #[.slice A0 l.length c0] w fun e w' => ∃ b,e = .returned (.map (some b)) ∧ w.heap.size ≤ b ∧ MapF Try.prog 9 w' b 4096 (fSet (recL l)) ∧ Below w.heap.size w w':=by
 obtain ⟨hl,hnx⟩:=check_zero hck
 have hk:=kept_ok A0 c0 l 68 #[] (fun _ s => s == 3) w hr0 hl (fun x hx => (namesX_zero (hnx x hx)).2.1) (fun x hx => (namesX_zero (hnx x hx)).2.2.1) (enters_of Try.func68 (by kernel_rfl) rfl) (judges68 w)
 go_enter Try.func41,Try.ntmps41
 go_wp2_with (go_at_call 53;refine hk.mono ?_;rintro e w1 ⟨b,rfl,h1,h2,h3⟩)
 go_ret
 exact ⟨b,rfl,h1,h2,h3⟩

def partsV (l : List S51) : List ByteArray × Int:=if checkV l ≠ 0 then ([],checkV l) else (strs (recL l),0)
def recall_Parts.f (l : List S51) : Option (List ByteArray × Int):=some (partsV l)
set_option maxHeartbeats 1000000 in
set_option maxRecDepth 100000 in
theorem recall_Parts.calls (A0 : Option Addr) (c0 : Nat) (l0 : List (S51)) (r1 : List ByteArray) (r2 : Int) (w : World) (hr0 : Kd.C k51 w A0 l0.length l0) (hc0 : l0.length ≤ c0) (h : recall_Parts.f l0 = some (r1,r2)) :
  Calls Try.prog 14 #[.slice A0 l0.length c0] w fun e w' => ∃ v0_ : Value,e = .returned (.tuple #[v0_,.int .i64 r2]) ∧ Kd.R Kd.string 9 w' w.heap.size (fun _ => True) v0_ r1 ∧ Below w.heap.size w w':=by
 have e:=Option.some.inj h
 clear h
 have HR0:=Aside0.mk hr0
 by_cases hck : checkV l0 = 0
 ·have hr : r1 = strs (recL l0) ∧ r2 = 0:=by unfold partsV at e;rw [if_neg (by rw [hck];decide)] at e;cases e;exact ⟨rfl,rfl⟩
  obtain ⟨rfl,rfl⟩:=hr
  have HCK:=Aside0.mk (recall_Check.calls A0 c0 l0 0 w hr0 hc0 (congrArg some hck))
  have HH:=Aside0.mk hck
  clear e hck hr0
  go_enter Try.func14,Try.ntmps14
  go_wp2_with (first | (go_at_call 16;refine HCK.out.mono ?_;rintro e w1 ⟨rfl,hb1⟩;have HB1:=Aside0.mk hb1;clear hb1) | (go_at_call 41;refine (recalled_ok A0 c0 l0 _ (Kd.C_below HR0.out HB1.out) HH.out).mono ?_;rintro e w2 ⟨b,rfl,h1,h2,h3⟩;have H1:=Aside0.mk h1;have H2:=Aside0.mk h2;have H3:=Aside0.mk h3;clear h1 h2 h3) | (go_at_call 40;refine (sorted_ok b 4096 (recL l0) _ H2.out (by omega)).mono ?_;rintro e w3 ⟨v,rfl,h4,h5⟩;have H4:=Aside0.mk h4;have H5:=Aside0.mk h5;clear h4 h5))
  go_ret2
  have hb2:=HB1.out.trans (H3.out.mono HB1.out.size)
  exact ⟨_,rfl,R_base H4.out hb2.size,hb2.trans (H5.out.mono hb2.size)⟩
 ·obtain ⟨g,hg⟩ : ∃ g,g = checkV l0:=⟨_,rfl⟩
  have hr : r1 = [] ∧ r2 = g:=by unfold partsV at e;rw [if_pos hck] at e;cases e;exact ⟨rfl,hg.symm⟩
  obtain ⟨rfl,rfl⟩:=hr
  have HCK:=Aside0.mk (recall_Check.calls A0 c0 l0 r2 w hr0 hc0 (congrArg some hg.symm))
  rw [← hg] at hck
  have hg1 : (r2 != 0) = true:=bne_iff_ne.mpr hck
  have hg2 : (r2 == 0) = false:=beq_eq_false_iff_ne.mpr hck
  clear e hg hck hr0
  go_enter Try.func14,Try.ntmps14
  go_wp2_with (go_at_call 16;refine HCK.out.mono ?_;rintro e w1 ⟨rfl,hb1⟩;have HB1:=Aside0.mk hb1;clear hb1)
  go_ret2
  exact ⟨_,rfl,Kd.R_nil _ _ _ _ _,HB1.out⟩
/-- The recalled lots among the first k events. -/
def lotK (l : List S51) : Nat → List (List UInt8)
 | 0 => []
 | k + 1 => if (l.getD k z51).f0 = 0 ∧ (l.getD k z51).f2.data.toList ∈ recL l then (l.getD k z51).f3.data.toList :: lotK l k else lotK l k
def lotsV (l : List S51) : List ByteArray × Int:=if checkV l ≠ 0 then ([],checkV l) else (strs (lotK l l.length),0)
def recall_Lots.f (l : List S51) : Option (List ByteArray × Int):=some (lotsV l)
set_option maxHeartbeats 1000000 in
set_option maxRecDepth 100000 in
theorem recall_Lots.calls (A0 : Option Addr) (c0 : Nat) (l0 : List (S51)) (r1 : List ByteArray) (r2 : Int) (w : World) (hr0 : Kd.C k51 w A0 l0.length l0) (hc0 : l0.length ≤ c0) (h : recall_Lots.f l0 = some (r1,r2)) :
  Calls Try.prog 20 #[.slice A0 l0.length c0] w fun e w' => ∃ v0_ : Value,e = .returned (.tuple #[v0_,.int .i64 r2]) ∧ Kd.R Kd.string 9 w' w.heap.size (fun _ => True) v0_ r1 ∧ Below w.heap.size w w':=by
 have e:=Option.some.inj h
 clear h
 have HR0:=Aside0.mk hr0
 by_cases hck : checkV l0 = 0
 ·have hr : r1 = strs (lotK l0 l0.length) ∧ r2 = 0:=by unfold lotsV at e;rw [if_neg (by rw [hck];decide)] at e;cases e;exact ⟨rfl,rfl⟩
  obtain ⟨rfl,rfl⟩:=hr
  have HCK:=Aside0.mk (recall_Check.calls A0 c0 l0 0 w hr0 hc0 (congrArg some hck))
  have HH:=Aside0.mk hck
  obtain ⟨hl,hnx⟩:=check_zero hck
  have HNX:=Aside0.mk hnx
  have hu51:=Try.underlying51
  have hmm:=@run_makeMap Try.prog
  clear e hck hr0 hnx
  go_enter Try.func20,Try.ntmps20
  go_wp2_with (first | (go_at_call 16;refine HCK.out.mono ?_;rintro e w1 ⟨rfl,hb1⟩;have HB1:=Aside0.mk hb1;clear hb1) | (go_at_call 41;refine (recalled_ok A0 c0 l0 _ (Kd.C_below HR0.out HB1.out) HH.out).mono ?_;rintro e w2 ⟨b,rfl,h1,h2,h3⟩;have H1:=Aside0.mk h1;have H2:=Aside0.mk h2;have H3:=Aside0.mk h3;clear h1 h2 h3))
  have hsz2:=H3.out.size
  have hsz1:=HB1.out.size
  have hb2:=H2.out.lt
  have hb1:=H1.out
  go_loopw [19] (fun vi wr => ∃ (k : Nat),k ≤ l0.length ∧ vi = .int .i64 (k : Int) ∧ Aside0 (Below w.heap.size w wr) ∧ Aside0 (MapF Try.prog 9 wr b 4096 (fSet (recL l0))) ∧ Aside0 (MapF Try.prog 9 wr w2.heap.size k (fSet (lotK l0 k)))) (fun vi _ => l0.length - (intOf vi).toNat)
  case atStart => exact ⟨0,by omega,rfl,⟨(HB1.out.trans (H3.out.mono HB1.out.size)).alloc (by omega) _⟩,⟨H2.out.alloc _⟩,⟨by rw [show lotK l0 0 = [] from rfl,fSet_nil];exact MapF.made w2 Try.prog 9⟩⟩
  case round =>
   obtain ⟨k,hk,rfl,HB,HM,HL⟩:=hrel
   by_cases hlt : k < l0.length
   ·obtain ⟨x,hx⟩ : ∃ x,x = l0.getD k z51:=⟨_,rfl⟩
    have hxg : x = l0[k]:=by rw [hx,List.getD_eq_getElem?_getD,List.getElem?_eq_getElem hlt];rfl
    have hrd : rd_T51 l0 (k : Int) = x:=by unfold rd_T51;rw [Int.toNat_natCast,hx]
    obtain ⟨hkind,hs1,hs2,hs3⟩:=namesX_zero (HNX.out x (by rw [hxg];exact List.getElem_mem _))
    have hm2 : x.f2.size ≤ maxLen:=by unfold maxLen;omega
    have hm3 : x.f3.size ≤ maxLen:=by unfold maxLen;omega
    obtain ⟨ad,e1,hx0,hx1,hx2,hx3⟩:=at_T51 HR0.out (k : Int) (by omega) (by omega)
    cases e1
    rw [hrd,Int.toNat_natCast] at hx0 hx1 hx2 hx3
    replace hx0:=(HB.out.cell (World.block_lt_of_cell? w _ hx0)).trans hx0
    replace hx1:=(HB.out.cell (World.block_lt_of_cell? w _ hx1)).trans hx1
    replace hx2:=(HB.out.cell (World.block_lt_of_cell? w _ hx2)).trans hx2
    replace hx3:=(HB.out.cell (World.block_lt_of_cell? w _ hx3)).trans hx3
    have HLK:=Aside0.mk (show lotK l0 (k + 1) = if x.f0 = 0 ∧ x.f2.data.toList ∈ recL l0 then x.f3.data.toList :: lotK l0 k else lotK l0 k from by rw [hx];rfl)
    obtain ⟨gn,hgn⟩ : ∃ gn,gn = decide (x.f2.data.toList ∈ recL l0):=⟨_,rfl⟩
    have HGN:=Aside0.mk (show (fSet (recL l0) x.f2.data.toList).getD (.bool false) = .bool gn from by rw [hgn];unfold fSet;by_cases hh : x.f2.data.toList ∈ recL l0 <;> simp [hh])
    have hszr:=HB.out.size
    clear hx hrd hxg hs1 hs2 hs3 hkind
    by_cases k0 : x.f0 = 0
    ·rw [k0] at hx0
     cases gn with
     | true =>
      have HK2:=Aside0.mk (HLK.out.trans (if_pos ⟨k0,of_decide_eq_true hgn.symm⟩))
      clear k0 hgn HLK
      go_wp2_with (first | (at_lookup;refine wpList_unguard rfl rfl ?_;refine wpList_lookF rfl _ _ 49 rfl 9 4 Try.underlying9 Try.underlying49 (Try.zeroValue4 _) rfl (HM.out.alloc _) x.f2 rfl hm2 (.bool true) HGN.out ?_) | (at_mapUpdate;refine wpList_storeF rfl _ _ _ 49 rfl 9 4 Try.underlying9 Try.underlying49 rfl (HL.out.alloc _) (by unfold maxLen;omega) x.f3 rfl hm3 (.bool true) rfl ?_;intro w9 hs9 hg9;have HS9:=Aside0.mk hs9;have HG9:=Aside0.mk hg9;clear hs9 hg9))
      go_roundw
      case rel => exact ⟨k + 1,by omega,by go_num,⟨(HB.out.alloc hszr _).grown HG9.out (by simp;omega) (fun k e => by cases e;omega)⟩,⟨(HM.out.alloc _).kept HG9.out (by simp;omega)⟩,⟨by rw [HK2.out,← fSet_put];exact HS9.out⟩⟩
      case measure => (simp [intOf] <;> omega)
     | false =>
      have HK2:=Aside0.mk (HLK.out.trans (if_neg (by rintro ⟨_,h⟩;rw [decide_eq_true h] at hgn;cases hgn)))
      clear k0 hgn HLK
      go_wp2_with (first | (at_lookup;refine wpList_unguard rfl rfl ?_;refine wpList_lookF rfl _ _ 49 rfl 9 4 Try.underlying9 Try.underlying49 (Try.zeroValue4 _) rfl (HM.out.alloc _) x.f2 rfl hm2 (.bool false) HGN.out ?_))
      go_roundw
      case rel => exact ⟨k + 1,by omega,by go_num,⟨HB.out.alloc hszr _⟩,⟨HM.out.alloc _⟩,⟨by rw [HK2.out];exact (HL.out.alloc _).mono (Nat.le_succ _)⟩⟩
      case measure => (simp [intOf] <;> omega)
    ·have k0b : (x.f0 == 0) = false:=beq_eq_false_iff_ne.mpr k0
     have HK2:=Aside0.mk (HLK.out.trans (if_neg (fun h => k0 h.1)))
     clear k0 hgn HLK
     go_wp2
     go_roundw
     case rel => exact ⟨k + 1,by omega,by go_num,⟨HB.out.alloc hszr _⟩,⟨HM.out.alloc _⟩,⟨by rw [HK2.out];exact (HL.out.alloc _).mono (Nat.le_succ _)⟩⟩
     case measure => (simp [intOf] <;> omega)
   ·obtain rfl : k = l0.length:=by omega
    go_wp2_with (go_at_call 40;refine (sorted_ok w2.heap.size l0.length (lotK l0 l0.length) _ HL.out (by omega)).mono ?_;rintro e w3 ⟨v,rfl,h4,h5⟩;have H4:=Aside0.mk h4;have H5:=Aside0.mk h5;clear h4 h5)
    go_ret2
    exact ⟨_,rfl,R_base H4.out HB.out.size,HB.out.trans (H5.out.mono HB.out.size)⟩
 ·obtain ⟨g,hg⟩ : ∃ g,g = checkV l0:=⟨_,rfl⟩
  have hr : r1 = [] ∧ r2 = g:=by unfold lotsV at e;rw [if_pos hck] at e;cases e;exact ⟨rfl,hg.symm⟩
  obtain ⟨rfl,rfl⟩:=hr
  have HCK:=Aside0.mk (recall_Check.calls A0 c0 l0 r2 w hr0 hc0 (congrArg some hg.symm))
  rw [← hg] at hck
  have hg1 : (r2 != 0) = true:=bne_iff_ne.mpr hck
  have hg2 : (r2 == 0) = false:=beq_eq_false_iff_ne.mpr hck
  clear e hg hck hr0
  go_enter Try.func20,Try.ntmps20
  go_wp2_with (go_at_call 16;refine HCK.out.mono ?_;rintro e w1 ⟨rfl,hb1⟩;have HB1:=Aside0.mk hb1;clear hb1)
  go_ret2
  exact ⟨_,rfl,Kd.R_nil _ _ _ _ _,HB1.out⟩
end Go.Proofs.Ytnmmdeonkpfccaa.Pr
/- The contract of recall.Unsure. -/
set_option linter.unusedVariables false
namespace Go.Proofs.Ytnmmdeonkpfccaa.Pr
open Go.RowKit Go.Shelf Go.Maps Go.Proofs.YtnmmdeonkpfccaaW.PrintWords Go.Proofs.YtnmmdeonkpfccaaW.PrintLast Go.Proofs.YtnmmdeonkpfccaaW.PrintMore
open Go.Proofs.Ytnmmdeonkpfccaa.Rg
attribute [local go_sem] Oper.semAt_some

/-- The gauges with an open measurement among the last k events. -/
def unsK (l : List S51) : Nat → List (List UInt8)
 | 0 => []
 | k + 1 => if (chkA l k).2 = 1 then (evK l k).f1.data.toList :: unsK l k else unsK l k
def unsureV (l : List S51) : List ByteArray × Int:=if checkV l ≠ 0 then ([],checkV l) else (strs (unsK l l.length),0)
def recall_Unsure.f (l : List S51) : Option (List ByteArray × Int):=some (unsureV l)

set_option maxRecDepth 100000 in
set_option maxHeartbeats 2000000 in
theorem Unsure_ok (A0 : Option Addr) (c0 : Nat) (l : List (S51)) (w : World) (hr0 : Kd.C k51 w A0 l.length l) (hc0 : l.length ≤ c0) (hck : checkV l = 0) :
  Calls Try.prog 22 #[.slice A0 l.length c0] w fun e w' => ∃ v,e = .returned (.tuple #[v,.int .i64 0]) ∧ Kd.R Kd.string 9 w' w.heap.size (fun _ => True) v (strs (unsK l l.length)) ∧ Below w.heap.size w w':=by
 obtain ⟨hl,hnx⟩:=check_zero hck
 have hg : ∀ x ∈ l,x.f1.size ≤ 24:=fun x hx => (namesX_zero (hnx x hx)).2.1
 have hlt:=slice_lt hr0
 have HCK:=Aside0.mk (fun W hr => recall_Check.calls A0 c0 l 0 W hr hc0 (congrArg some hck))
 have HR0:=Aside0.mk hr0
 have HG:=Aside0.mk hg
 have HLT:=Aside0.mk hlt
 have hmm:=@run_makeMap Try.prog
 have hf16 : Fence.wide.fn 16:=trivial
 have hf38 : Fence.wide.fn 38:=trivial
 have hf40 : Fence.wide.fn 40:=trivial
 have hb1 : Below w.heap.size w (w.alloc (.cells #[.slice A0 l.length c0] 22)):=(Below.refl _ w).alloc (Nat.le_refl _) _
 have HB0:=Aside0.mk hb1
 clear hr0 hnx hg hlt hck hb1
 refine (callsIn_wide (n:=3)).1 ?_
 refine callsIn_of_wp_marks Try.func22 rfl trivial ?_ rfl
 simp only [Try.ntmps22,List.size_toArray,List.length_cons,List.length_nil,Nat.reduceAdd,Nat.reduceSub,Array.replicate_succ,Array.replicate_zero,List.push_toArray,List.append_toArray,List.nil_append,List.cons_append]
 gi_wp2_with (first | ((first | refine ⟨fun h => absurd h (by decide),?_⟩ | skip);gi_at_call 16;refine (callsIn_wide.2 (HCK.out _ (Kd.C_below HR0.out HB0.out))).mono ?_;rintro e w1 ⟨rfl,hb1⟩;have HB1:=Aside0.mk hb1;have hl1 : w1.cell? ⟨w.heap.size,0,none⟩ = some (.slice A0 l.length c0):=(blk_cell (blk_below (blk_new w (.cells #[.slice A0 l.length c0] 22)) hb1) 0).trans rfl;have hs1 : w.heap.size + 1 ≤ w1.heap.size:=(by have:=hb1.size;simpa using this);have hl3 : ((w1.alloc (.map #[] 0)).alloc (.cells #[.map (some w1.heap.size)] 49)).cell? ⟨w.heap.size,0,none⟩ = some (.slice A0 l.length c0):=((((Below.refl w1.heap.size w1).alloc (Nat.le_refl _) _).alloc (by simp) _).cell (p:=⟨w.heap.size,0,none⟩) (by show w.heap.size < w1.heap.size;omega)).trans hl1;clear hb1) | ((first | refine ⟨fun h => absurd h (by decide),?_⟩ | skip);gi_at_call 38;refine (states_in _ A0 c0 l.length _).mono ?_;rintro e w' ⟨rfl,rfl⟩))
 obtain ⟨Wl,hWl⟩ : ∃ Wl,(((w1.alloc (Obj.map #[] 0)).alloc (Obj.cells #[Value.map (some w1.heap.size)] 49)).alloc (Obj.cells #[Value.slice A0 l.length c0] 22)) = Wl:=⟨_,rfl⟩
 have hsl : Wl.heap.size = w1.heap.size + 3:=by rw [← hWl];simp
 have hb3 : Below w1.heap.size w1 Wl:=by rw [← hWl];exact (((Below.refl _ w1).alloc (Nat.le_refl _) _).alloc (by simp) _).alloc (by simp;omega) _
 have q0 : Wl.heap[w.heap.size]? = some (.cells #[.slice A0 l.length c0] 22):=(hb3.block _ (by omega)).trans (blk_below (blk_new w (.cells #[.slice A0 l.length c0] 22)) HB1.out)
 have q1 : MapF Try.prog 9 Wl w1.heap.size 0 (fSet (unsK l 0)):=by
  rw [← hWl,show unsK l 0 = [] from rfl,fSet_nil]
  exact ((MapF.made w1 Try.prog 9).alloc _).alloc _
 have q2 : Wl.heap[w1.heap.size + 1]? = some (.cells #[.map (some w1.heap.size)] 49):=by
  rw [← hWl]
  have:=blk_new (w1.alloc (Obj.map #[] 0)) (Obj.cells #[Value.map (some w1.heap.size)] 49)
  rw [World.size_alloc] at this
  exact blk_alloc this _
 have hL0 : Wl.cell? ⟨w1.heap.size + 2,0,none⟩ = some (.slice A0 l.length c0):=by
  rw [← hWl]
  have:=blk_new ((w1.alloc (Obj.map #[] 0)).alloc (Obj.cells #[Value.map (some w1.heap.size)] 49)) (Obj.cells #[Value.slice A0 l.length c0] 22)
  rw [World.size_alloc,World.size_alloc] at this
  exact (blk_cell this 0).trans rfl
 rw [hWl]
 clear hWl hf16 hf38 hl1 hl3
 have hbw : Below w.heap.size w Wl:=(HB0.out.trans (HB1.out.mono HB0.out.size)).trans (hb3.mono (by omega))
 refine rangeB2 (gf:=64) (lb:=#[.pointer (some ⟨w1.heap.size + 2,0,none⟩)]) rfl (enters_of Try.func64 (by kernel_rfl) rfl) (fun i => i = w1.heap.size) (fun i hi => by omega)
  (states_seq _ A0 c0 (w1.heap.size + 2) l Wl hl HG.out (Kd.C_below HR0.out hbw) (fun ad ha hne h => by have:=HLT.out ad ha hne;omega) (fun ad ha hne => by have:=HLT.out ad ha hne;omega) hL0 (fun h => by omega)) (fun _ => rfl)
  (fun pre Wr => ∃ (k : Nat),k ≤ l.length ∧ pre = statK l k ∧ MapF Try.prog 9 Wr w1.heap.size k (fSet (unsK l k)) ∧ (∀ i,(i = w.heap.size ∨ i = w1.heap.size + 1) → Wr.heap[i]? = Wl.heap[i]?) ∧ Below w.heap.size w Wr)
  ?hI ⟨0,by omega,rfl,q1,fun _ _ => rfl,hbw⟩ ?round ?done
 case hI =>
  rintro pre Wr Wr' ⟨k,hk,hp,hm1,hb,hB⟩ hsz hsz2 h1 h2 h3 h4
  exact ⟨k,hk,hp,hm1.same (h4 _ (by omega)),fun i hi => (h4 i (by omega)).trans (hb i hi),below_reads hB (by omega) hsz2 h1 h2 h3 h4⟩
 case round =>
  rintro m pre ⟨i,a,s⟩ Wr hI hsz hpf
  have HI:=Aside0.mk hI
  have Q0:=Aside0.mk q0
  have Q2:=Aside0.mk q2
  clear hI hpf q0 q1 q2 hL0 hbw hb3
  simp only [encS,pairV]
  gi_wp2
  obtain ⟨k,hk,hp,hm1,hb,hB⟩:=HI.out
  refine ⟨(KeepC.refl _ _).alloc _,⟨k,hk,hp,hm1.alloc _,fun i hi => (Below.heap_alloc _ _ _ (by omega)).trans (hb i hi),hB.alloc (by omega) _⟩,?_⟩
  clear k hk hp hm1 hb hB
  rintro m2 pre2 W2 hone ⟨k,hk,hp,hm1,hb,hB⟩ hsz2 ⟨k',hk',hpk⟩
  obtain ⟨rfl,hx⟩:=statK_next hp hpk
  simp only [Prod.mk.injEq] at hx
  obtain ⟨hi,hc⟩:=hx
  have hcs : s = (chkA l k).2:=by rw [← hc]
  have hbx : W2.heap[Wr.heap.size]? = some (.cells #[.int .i64 a,.int .i64 s] 65):=(hone.2.2.2.2 _ (by omega)).trans (blk_new _ _)
  have hc1 : W2.cell? ⟨Wr.heap.size,1,none⟩ = some (.int .i64 s):=(blk_cell hbx 1).trans rfl
  have hl2 : W2.cell? ⟨w.heap.size,0,none⟩ = some (.slice A0 l.length c0):=(blk_cell ((hb _ (by omega)).trans Q0.out) 0).trans rfl
  have hm2 : W2.cell? ⟨w1.heap.size + 1,0,none⟩ = some (.map (some w1.heap.size)):=(blk_cell ((hb _ (by omega)).trans Q2.out) 0).trans rfl
  have hi0 : 0 ≤ i:=by rw [hi];omega
  have hi1 : i < (l.length : Int):=by rw [hi];omega
  obtain ⟨x,hx⟩ : ∃ x,x = evK l k:=⟨_,rfl⟩
  have hrd : rd_T51 l i = x:=by unfold rd_T51;rw [hx,hi];unfold evK;congr 1;omega
  have hxm : x.f1.size ≤ 24:=by
   refine HG.out x ?_
   rw [hx];unfold evK
   rw [List.getD_eq_getElem?_getD,List.getElem?_eq_getElem (by omega)]
   exact List.getElem_mem _
  have hxm2 : x.f1.size ≤ maxLen:=by unfold maxLen;omega
  obtain ⟨ad,e1,hx0,hx1,hx2,hx3⟩:=at_T51 HR0.out i hi0 hi1
  cases e1
  rw [hrd] at hx0 hx1 hx2 hx3
  replace hx1:=(hB.cell (World.block_lt_of_cell? w _ hx1)).trans hx1
  have HM1:=Aside0.mk hm1
  have HBL:=Aside0.mk hb
  have HP:=Aside0.mk hpk
  have HBB:=Aside0.mk hB
  have HKS:=Aside0.mk (show unsK l (k + 1) = if s = 1 then x.f1.data.toList :: unsK l k else unsK l k from by rw [hcs,hx];rfl)
  have FIN:=Aside0.mk (show ∀ W',NearC (fun i => i = w1.heap.size) W2 W' → MapF Try.prog 9 W' w1.heap.size (k + 1) (fSet (unsK l (k + 1))) →
    KeepC (fun i => i = w1.heap.size) W2 W' ∧ ∃ k,k ≤ l.length ∧ pre2 ++ [(i,a,s)] = statK l k ∧ MapF Try.prog 9 W' w1.heap.size k (fSet (unsK l k)) ∧ (∀ i,(i = w.heap.size ∨ i = w1.heap.size + 1) → W'.heap[i]? = Wl.heap[i]?) ∧ Below w.heap.size w W' from by
   intro W' hn h1
   exact ⟨hn.2.2.2,k + 1,hk',HP.out,h1,fun i hi => (hn.2.2.2.same i (by omega) (by omega)).trans (HBL.out i hi),below_reads HBB.out (Nat.le_refl _) hn.2.2.2.size hn.1 hn.2.1 hn.2.2.1 (fun i hi => hn.2.2.2.same i (by omega) (by omega))⟩)
  clear hm1 hb hpk hB hcs hi hc hp hbx hone HI hx hrd hx0 hx2 hx3
  by_cases k1 : s = 1
  ·rw [k1] at hc1
   have HK2:=Aside0.mk (HKS.out.trans (if_pos k1))
   obtain ⟨w8,hrun,hm8,hg8⟩:=(show MapF Try.prog 9 W2.drew w1.heap.size k (fSet (unsK l k)) from HM1.out.same rfl).store Try.underlying9 Try.underlying49 (by unfold maxLen;omega) (s:=x.f1) hxm2 (.bool true)
   have HM8:=Aside0.mk hm8
   have HN8:=Aside0.mk (show NearC (fun i => i = w1.heap.size) W2 w8 from NearC.grown (Y:=W2.drew) ⟨rfl,rfl,rfl,(KeepC.refl _ _).drew⟩ hg8 rfl)
   have hz : ¬ i < 0:=by omega
   clear k1 hm8 hg8
   gi_wp2
   gi_region
   all_goals exact FIN.out _ HN8.out (by rw [HK2.out,← fSet_put];exact HM8.out)
  ·have k1b : (s == 1) = false:=beq_eq_false_iff_ne.mpr k1
   have HK2:=Aside0.mk (HKS.out.trans (if_neg k1))
   clear k1
   gi_wp2
   exact FIN.out _ (NearC.refl _ _) (by rw [HK2.out];exact HM1.out.mono (Nat.le_succ _))
 case done =>
  rintro xs W' rfl ⟨k,hk,hp,hm1,hb,hB⟩ hK hsz
  obtain rfl:=statK_inj hp
  have hc3 : W'.cell? ⟨w1.heap.size + 1,0,none⟩ = some (.map (some w1.heap.size)):=(blk_cell ((hb _ (by omega)).trans q2) 0).trans rfl
  rw [hsl] at hK
  have HS:=Aside0.mk (sorted_ok w1.heap.size l.length (unsK l l.length) W' hm1 (by omega))
  have HB:=Aside0.mk hB
  clear hm1 hb hB q0 q1 q2 hbw hL0 hp
  gi_wp2_with ((first | refine ⟨fun h => absurd h (by decide),?_⟩ | skip);gi_at_call 40;refine (callsIn_wide.2 HS.out).mono ?_;rintro e w9 ⟨v,rfl,h4,h5⟩;have H4:=Aside0.mk h4;have H5:=Aside0.mk h5;clear h4 h5)
  have hK9 : w9.heap[w1.heap.size + 3]? = some (.deferred (some [])):=(H5.out.block (w1.heap.size + 3) (by omega)).trans hK
  have hD:=(Array.getElem?_eq_some_iff.1 hK9).1
  refine ⟨by simp,.inl ⟨_,_,rfl,run_takeDeferred hK9,?_⟩⟩
  refine ⟨_,results_tmp2 (fn:=Try.f22) rfl _ _ _,_,rfl,?_,?_⟩
  ·exact R_base (Kd.R_of_own (enc:=Value.string) (h1:=fun _ => rfl) (ownsRow_putObj (Kd.own_of_R (enc:=Value.string) (h1:=fun _ => rfl) H4.out) _ hK9 rfl) (fun _ _ => trivial)) HB.out.size
  ·exact below_reads (HB.out.trans (H5.out.mono HB.out.size)) (Nat.le_refl _) (by simp) rfl rfl rfl (fun i hi => World.putObj_heap_other (by omega))
set_option maxRecDepth 100000 in
set_option maxHeartbeats 1000000 in
theorem recall_Unsure.calls (A0 : Option Addr) (c0 : Nat) (l0 : List (S51)) (r1 : List ByteArray) (r2 : Int) (w : World) (hr0 : Kd.C k51 w A0 l0.length l0) (hc0 : l0.length ≤ c0) (h : recall_Unsure.f l0 = some (r1,r2)) :
  Calls Try.prog 22 #[.slice A0 l0.length c0] w fun e w' => ∃ v0_ : Value,e = .returned (.tuple #[v0_,.int .i64 r2]) ∧ Kd.R Kd.string 9 w' w.heap.size (fun _ => True) v0_ r1 ∧ Below w.heap.size w w':=by
 have e:=Option.some.inj h
 clear h
 by_cases hck : checkV l0 = 0
 ·have hr : r1 = strs (unsK l0 l0.length) ∧ r2 = 0:=by unfold unsureV at e;rw [if_neg (by rw [hck];decide)] at e;cases e;exact ⟨rfl,rfl⟩
  obtain ⟨rfl,rfl⟩:=hr
  exact Unsure_ok A0 c0 l0 w hr0 hc0 hck
 ·obtain ⟨g,hg⟩ : ∃ g,g = checkV l0:=⟨_,rfl⟩
  have hr : r1 = [] ∧ r2 = g:=by unfold unsureV at e;rw [if_pos hck] at e;cases e;exact ⟨rfl,hg.symm⟩
  obtain ⟨rfl,rfl⟩:=hr
  have hb0 : Below w.heap.size w (w.alloc (.cells #[.slice A0 l0.length c0] 22)):=(Below.refl _ w).alloc (Nat.le_refl _) _
  have HB0:=Aside0.mk hb0
  have HCK:=Aside0.mk (recall_Check.calls A0 c0 l0 r2 _ (Kd.C_below hr0 hb0) hc0 (congrArg some hg.symm))
  rw [← hg] at hck
  have hg1 : (r2 != 0) = true:=bne_iff_ne.mpr hck
  have hg2 : (r2 == 0) = false:=beq_eq_false_iff_ne.mpr hck
  clear e hg hck hr0 hb0
  go_enter Try.func22,Try.ntmps22
  go_wp2_with (go_at_call 16;refine HCK.out.mono ?_;rintro e w1 ⟨rfl,hb1⟩;have HB1:=Aside0.mk hb1;clear hb1)
  go_ret2
  exact ⟨_,rfl,Kd.R_nil _ _ _ _ _,HB0.out.trans (HB1.out.mono HB0.out.size)⟩
end Go.Proofs.Ytnmmdeonkpfccaa.Pr
/- The plain laws: recalled parts, lots, unsure gauges, on both sides. -/
set_option linter.unusedVariables false
namespace Go.Proofs.Ytnmmdeonkpfccaa.Pr
open Go.RowKit Go.Proofs.YtnmmdeonkpfccaaW.PrintWords Go.Proofs.YtnmmdeonkpfccaaW.PrintLast Go.Proofs.YtnmmdeonkpfccaaW.PrintMore

abbrev knd (l : List S51) (i : Nat) : Int:=(gA l i).f0
abbrev prt (l : List S51) (i : Nat) : Nm:=(gA l i).f2.data.toList
theorem evK_gA (l : List S51) (k : Nat) : evK l k = gA l (l.length - 1 - k):=rfl
theorem st_meas {l : List S51} {i : Nat} (h : (stA l i).2 ≠ 0) : knd l i = 0:=by
 refine Classical.byContradiction fun h0 => h ?_
 unfold stA;rw [if_neg h0]
theorem kept_mem (p : S51 → Int → Bool) (l : List S51) (q : Nm) : ∀ n,n ≤ l.length →
  (q ∈ (keptS p l n).1 ↔ ∃ j,l.length - n ≤ j ∧ j < l.length ∧ knd l j = 0 ∧ (stA l j).2 ≠ 2 ∧ p (gA l j) (stA l j).2 = true ∧ prt l j = q) ∧
  (q ∈ (keptS p l n).2 ↔ ∃ j,l.length - n ≤ j ∧ j < l.length ∧ (knd l j = 3 ∨ (stA l j).2 = 2) ∧ prt l j = q):=by
 intro n
 induction n with
 | zero =>
  intro _
  unfold keptS
  refine ⟨⟨fun h => (List.not_mem_nil h).elim,?_⟩,⟨fun h => (List.not_mem_nil h).elim,?_⟩⟩ <;> rintro ⟨j,h1,h2,_⟩ <;> omega
 | succ n ih =>
  intro hn
  obtain ⟨ih1,ih2⟩:=ih (by omega)
  have ej : ∀ j,l.length - (n + 1) ≤ j ↔ j = l.length - 1 - n ∨ l.length - n ≤ j:=fun j => by omega
  unfold keptS
  rw [evK_gA,chkA_st l n (by omega)]
  have hlt : l.length - 1 - n < l.length:=by omega
  split
  ·rename_i hc
   refine ⟨ih1.trans ⟨?_,?_⟩,?_⟩
   ·rintro ⟨j,h1,h2⟩;exact ⟨j,by omega,h2⟩
   ·rintro ⟨j,h1,h2,h3,h4,h5⟩
    rcases (ej j).1 h1 with rfl | h1
    ·rcases hc with hc | hc
     ·have : (0 : Int) = 3:=h3.symm.trans hc;omega
     ·exact absurd hc h4
    ·exact ⟨j,h1,h2,h3,h4,h5⟩
   ·rw [List.mem_cons,ih2]
    constructor
    ·rintro (e | ⟨j,h1,h2⟩)
     ·exact ⟨_,by omega,hlt,hc,e.symm⟩
     ·exact ⟨j,by omega,h2⟩
    ·rintro ⟨j,h1,h2,h3,h4⟩
     rcases (ej j).1 h1 with rfl | h1
     ·exact .inl h4.symm
     ·exact .inr ⟨j,h1,h2,h3,h4⟩
  ·rename_i hc
   have hc3 : ∀ j,l.length - (n + 1) ≤ j → j < l.length → (knd l j = 3 ∨ (stA l j).2 = 2) → l.length - n ≤ j:=by
    intro j h1 h2 h3
    rcases (ej j).1 h1 with rfl | h1
    ·exact absurd h3 hc
    ·exact h1
   have ih2' : q ∈ (keptS p l n).2 ↔ ∃ j,l.length - (n + 1) ≤ j ∧ j < l.length ∧ (knd l j = 3 ∨ (stA l j).2 = 2) ∧ prt l j = q :=
    ih2.trans ⟨fun ⟨j,h1,h2⟩ => ⟨j,by omega,h2⟩,fun ⟨j,h1,h2,h3,h4⟩ => ⟨j,hc3 j h1 h2 h3,h2,h3,h4⟩⟩
   split
   ·rename_i hp
    refine ⟨?_,ih2'⟩
    rw [List.mem_cons,ih1]
    constructor
    ·rintro (e | ⟨j,h1,h2⟩)
     ·exact ⟨_,by omega,hlt,hp.1,fun h => hc (.inr h),hp.2,e.symm⟩
     ·exact ⟨j,by omega,h2⟩
    ·rintro ⟨j,h1,h2,h3,h4,h5,h6⟩
     rcases (ej j).1 h1 with rfl | h1
     ·exact .inl h6.symm
     ·exact .inr ⟨j,h1,h2,h3,h4,h5,h6⟩
   ·rename_i hp
    refine ⟨ih1.trans ⟨fun ⟨j,h1,h2⟩ => ⟨j,by omega,h2⟩,?_⟩,ih2'⟩
    rintro ⟨j,h1,h2,h3,h4,h5,h6⟩
    rcases (ej j).1 h1 with rfl | h1
    ·exact absurd ⟨h3,h5⟩ hp
    ·exact ⟨j,h1,h2,h3,h4,h5,h6⟩
theorem keptL_mem (p : S51 → Int → Bool) (l : List S51) (q : Nm) : q ∈ keptL p l ↔ (∃ j,j < l.length ∧ knd l j = 0 ∧ (stA l j).2 ≠ 2 ∧ p (gA l j) (stA l j).2 = true ∧ prt l j = q) ∧ ¬ ∃ j,j < l.length ∧ (knd l j = 3 ∨ (stA l j).2 = 2) ∧ prt l j = q:=by
 unfold keptL
 obtain ⟨h1,h2⟩:=kept_mem p l q l.length (Nat.le_refl _)
 rw [List.mem_filter,h1]
 simp only [Nat.sub_self,Nat.zero_le,true_and] at h2 ⊢
 rw [Bool.not_eq_true',decide_eq_false_iff_not,h2]
theorem recL_mem (l : List S51) (q : Nm) : q ∈ recL l ↔ (∃ j,j < l.length ∧ (stA l j).2 = 3 ∧ prt l j = q) ∧ ¬ ∃ j,j < l.length ∧ (knd l j = 3 ∨ (stA l j).2 = 2) ∧ prt l j = q:=by
 unfold recL
 rw [keptL_mem]
 refine and_congr_left fun _ => ⟨?_,?_⟩
 ·rintro ⟨j,h1,h2,h3,h4,h5⟩;exact ⟨j,h1,by simpa using h4,h5⟩
 ·rintro ⟨j,h1,h2,h3⟩;exact ⟨j,h1,st_meas (by omega),by omega,by rw [h2];rfl,h3⟩
theorem any_wd (l : List S51) (q : Nm) : l.any (wdP q) = true ↔ ∃ j,j < l.length ∧ knd l j = 3 ∧ prt l j = q:=by
 rw [List.any_eq_true]
 constructor
 ·rintro ⟨x,hx,h⟩
  obtain ⟨j,hj,e⟩:=List.getElem_of_mem hx
  have:=gA_at (List.getElem?_eq_getElem hj)
  refine ⟨j,hj,?_⟩
  unfold knd prt
  rw [this,e]
  exact of_decide_eq_true h
 ·rintro ⟨j,hj,h⟩
  have:=gA_at (List.getElem?_eq_getElem hj)
  unfold knd prt at h
  rw [this] at h
  exact ⟨_,List.getElem_mem hj,decide_eq_true h⟩
theorem firstA_some (l : List S51) (q : Nm) (s : Int) : ∀ (d i : Nat),(firstA l q s d i = -1 ∧ ¬ ∃ j,i ≤ j ∧ j < i + d ∧ prt l j = q ∧ (stA l j).2 = s) ∨ ∃ j : Nat,firstA l q s d i = (j : Int) ∧ i ≤ j ∧ j < i + d ∧ prt l j = q ∧ (stA l j).2 = s ∧ ∀ m,i ≤ m → m < j → ¬ (prt l m = q ∧ (stA l m).2 = s)
 | 0,i => .inl ⟨rfl,by rintro ⟨j,h1,h2,_⟩;omega⟩
 | d + 1,i => by
  unfold firstA
  by_cases h : (gA l i).f2.data.toList = q ∧ (stA l i).2 = s
  ·rw [if_pos h];exact .inr ⟨i,rfl,Nat.le_refl _,by omega,h.1,h.2,fun m h1 h2 => by omega⟩
  ·rw [if_neg h]
   rcases firstA_some l q s d (i + 1) with ⟨h1,h2⟩ | ⟨j,h1,h2,h3,h4,h5,h6⟩
   ·refine .inl ⟨h1,?_⟩
    rintro ⟨j,k1,k2,k3,k4⟩
    by_cases e : j = i
    ·subst e;exact h ⟨k3,k4⟩
    ·exact h2 ⟨j,by omega,by omega,k3,k4⟩
   ·refine .inr ⟨j,h1,by omega,by omega,h4,h5,fun m k1 k2 => ?_⟩
    by_cases e : m = i
    ·subst e;exact h
    ·exact h6 m (by omega) k2
theorem firstA_iff (l : List S51) (q : Nm) (s : Int) : (0 ≤ firstA l q s l.length 0 ↔ ∃ j,j < l.length ∧ (stA l j).2 = s ∧ prt l j = q):=by
 rcases firstA_some l q s l.length 0 with ⟨h1,h2⟩ | ⟨j,h1,h2,h3,h4,h5,h6⟩
 ·rw [h1]
  refine ⟨fun h => by omega,?_⟩
  rintro ⟨j,k1,k2,k3⟩;exact absurd ⟨j,by omega,by omega,k3,k2⟩ h2
 ·rw [h1];exact ⟨fun _ => ⟨j,by omega,h5,h4⟩,fun _ => by omega⟩
theorem recalled_ev (l : List S51) (hn : l.length ≤ 2513169434915) (a : ByteArray) : Ev (fun k => metrolabref53_Recalled.f k (rl l) a) (decide (a.data.toList ∈ recL l)):=by
 unfold metrolabref53_Recalled.f
 refine Ev.bind (first_ev l hn a 3) ?_
 by_cases h3 : firstA l a.data.toList 3 l.length 0 ≥ 0
 ·simp only [if_pos h3]
  have m3:=(firstA_iff l _ 3).1 h3
  refine Ev.bind (first_ev l hn a 2) ?_
  by_cases h2 : firstA l a.data.toList 2 l.length 0 < 0
  ·simp only [if_pos h2]
   refine Ev.bind (withdrawn_ev l hn a) ?_
   have e : (!l.any (wdP a.data.toList)) = decide (a.data.toList ∈ recL l):=by
    rw [Bool.eq_iff_iff,decide_eq_true_iff,recL_mem,Bool.not_eq_true',← Bool.not_eq_true,any_wd]
    constructor
    ·intro h
     refine ⟨m3,?_⟩
     rintro ⟨j,k1,k2 | k2,k3⟩
     ·exact h ⟨j,k1,k2,k3⟩
     ·have:=(firstA_iff l a.data.toList 2).2 ⟨j,k1,k2,k3⟩;omega
    ·rintro ⟨_,h⟩ ⟨j,k1,k2,k3⟩
     exact h ⟨j,k1,.inl k2,k3⟩
   rw [e];exact Ev.now _
  ·simp only [if_neg h2]
   have e : decide (a.data.toList ∈ recL l) = false:=decide_eq_false fun h => by
    obtain ⟨j,k1,k2,k3⟩:=(firstA_iff l a.data.toList 2).1 (by omega)
    exact ((recL_mem _ _).1 h).2 ⟨j,k1,.inr k2,k3⟩
   rw [e];exact Ev.now _
 ·simp only [if_neg h3]
  have e : decide (a.data.toList ∈ recL l) = false:=decide_eq_false fun h => h3 ((firstA_iff l _ 3).2 ((recL_mem _ _).1 h).1)
  rw [e];exact Ev.now _
def selP (l : List S51) (i : Nat) : Option Nm:=if knd l i = 0 ∧ prt l i ∈ recL l then some (prt l i) else none
def selL (l : List S51) (i : Nat) : Option Nm:=if knd l i = 0 ∧ prt l i ∈ recL l then some (gA l i).f3.data.toList else none
def selU (l : List S51) (i : Nat) : Option Nm:=if (stA l i).2 = 1 then some (gA l i).f1.data.toList else none
theorem all_go (l : List S51) (hn : l.length ≤ 2513169434915) : ∀ (d i : Nat),i ≤ l.length → l.length - i = d → Ev (fun k => metrolabref53_All.l0 k (rl l) (bs (accS (selP l) i)) (i : Int)) (bs (accS (selP l) l.length)):=by
 intro d
 induction d with
 | zero =>
  intro i hi hd
  obtain rfl : i = l.length:=by omega
  exact Ev.const fun k => by simp only [metrolabref53_All.l0];rw [if_neg (by rw [rl_len];omega)]
 | succ d ih =>
  intro i hi hd
  obtain ⟨x,hx,hdr⟩:=drop_at (show i < l.length by omega)
  have hih:=ih (i + 1) (by omega) (by omega)
  have hal:=acc_len (selP l) i
  have hac : accS (selP l) (i + 1) = (match selP l i with | some q => ins q (accS (selP l) i) | none => accS (selP l) i):=rfl
  have hgx:=gA_at hx
  by_cases h0 : x.f0 = 0
  ·refine Ev.step (f:=fun k => _) (fun k => by simp only [metrolabref53_All.l0];rw [if_pos (by rw [rl_len];omega),if_pos (by omega),rd67_at hx,if_pos (show x.f0 = 0 from h0)]) ?_
   refine Ev.bind (recalled_ev l hn _) ?_
   by_cases hr : x.f2.data.toList ∈ recL l
   ·have hs : selP l i = some x.f2.data.toList:=by unfold selP knd prt;rw [hgx,if_pos ⟨h0,hr⟩]
    rw [hs] at hac;rw [hac] at hih
    rw [decide_eq_true hr]
    simp only [if_true]
    refine Ev.bind (put_ev _ _ (by omega)) ?_
    rw [wrap_nat (by omega)];exact hih
   ·have hs : selP l i = none:=by unfold selP knd prt;rw [hgx,if_neg (fun h => hr h.2)]
    rw [hs] at hac;rw [hac] at hih
    rw [decide_eq_false hr]
    simp only [if_neg (show ¬ (false = true) by decide)]
    rw [wrap_nat (by omega)];exact hih
  ·have hs : selP l i = none:=by unfold selP knd prt;rw [hgx,if_neg (fun h => h0 h.1)]
   rw [hs] at hac;rw [hac] at hih
   refine Ev.step (f:=fun k => _) (fun k => by simp only [metrolabref53_All.l0];rw [if_pos (by rw [rl_len];omega),if_pos (by omega),rd67_at hx,if_neg (show ¬ x.f0 = 0 from h0),wrap_nat (by omega)]) hih
theorem acc_strs (sel : Nat → Option Nm) (n : Nat) {S : List Nm} (h : ∀ q,(∃ j,j < n ∧ sel j = some q) ↔ q ∈ S) : bs (accS sel n) = strs S:=(strs_of (acc_asc sel n) fun q => (acc_mem sel n).trans (h q)).symm
theorem selP_mem (l : List S51) (q : Nm) : (∃ j,j < l.length ∧ selP l j = some q) ↔ q ∈ recL l:=by
 unfold selP
 constructor
 ·rintro ⟨j,h1,h2⟩
  split at h2
  ·rename_i h;obtain rfl:=Option.some.inj h2;exact h.2
  ·cases h2
 ·intro h
  obtain ⟨⟨j,h1,h2,h3⟩,_⟩:=(recL_mem l q).1 h
  exact ⟨j,h1,by rw [if_pos ⟨st_meas (by omega),by rw [h3];exact h⟩,h3]⟩
theorem all_ev (l : List S51) (hn : l.length ≤ 2513169434915) : Ev (fun k => metrolabref53_All.f k (rl l)) (strs (recL l)):=by
 have:=all_go l hn l.length 0 (by omega) (by omega)
 rw [acc_strs _ l.length (selP_mem l)] at this
 exact this
theorem parts_ev (l : List S51) (hn : l.length ≤ 2513169434915) : Ev (fun k => metrolabref53_Parts.f k (rl l)) (partsV l):=by
 unfold metrolabref53_Parts.f partsV
 refine Ev.bind (check_ev l hn) ?_
 by_cases h : checkV l = 0
 ·rw [if_neg (fun h2 => h2 h)];simp only [if_pos h];exact Ev.bind (all_ev l hn) (Ev.now _)
 ·rw [if_pos h];simp only [if_neg h];exact Ev.now _
end Go.Proofs.Ytnmmdeonkpfccaa.Pr
namespace Go.Proofs.Ytnmmdeonkpfccaa.Pr
open Go.RowKit Go.Proofs.YtnmmdeonkpfccaaW.PrintWords Go.Proofs.YtnmmdeonkpfccaaW.PrintLast Go.Proofs.YtnmmdeonkpfccaaW.PrintMore
attribute [local go_sem] max2_int min2_int max_two min_two max_three min_three max_four min_four
set_option linter.unusedVariables false
set_option linter.unusedSimpArgs false

/-! ### slices_Equal_int_int: function 18 -/
def slices_Equal_int_int.l0 : Nat → List Int → List Int → Int → Int → Option (Bool)
 | 0,_,_,_,_ => none
 | k + 1,x0,x1,x12,x13 => if x13 < x12 then (if 0 ≤ x13 then (if x13 < (x0.length : Int) then (if x13 < (x1.length : Int) then (if (rd x0 x13) = (rd x1 x13) then (slices_Equal_int_int.l0 k x0 x1 x12 (wrap64 (x13 + 1))) else (some false)) else (none)) else (none)) else (none)) else (some true)
def slices_Equal_int_int.f (k : Nat) (l0 : List Int) (l1 : List Int) : Option (Bool):=if (l0.length : Int) = (l1.length : Int) then (slices_Equal_int_int.l0 k l0 l1 (l0.length : Int) 0) else (some false)
theorem slices_Equal_int_int.mono_l : ∀ k,(∀ y0 y1 y2 y3,LeO (slices_Equal_int_int.l0 k y0 y1 y2 y3) (slices_Equal_int_int.l0 (k + 1) y0 y1 y2 y3))
 | 0 => fun _ _ _ _ r h => by simp [slices_Equal_int_int.l0] at h
 | k + 1 => by
  have ih0:=slices_Equal_int_int.mono_l k
  ·intro y0 y1 y2 y3
   unfold slices_Equal_int_int.l0
   repeat' first
   | (with_reducible exact ih0 _ _ _ _)
   | (with_reducible exact LeO.refl _)
   | (with_reducible exact LeO.none _)
   | (with_reducible refine LeO.ite ?_ ?_)
   | (with_reducible refine LeO.bind ?_ (fun _ => ?_))
   | exact ih0 _ _ _ _
   | exact LeO.none _
   | refine LeO.ite ?_ ?_
   | refine LeO.bind ?_ (fun _ => ?_)
theorem slices_Equal_int_int.mono : ∀ a0 a1 k,LeO (slices_Equal_int_int.f k a0 a1) (slices_Equal_int_int.f (k + 1) a0 a1):=by
 intro a0 a1 k
 have ih0:=slices_Equal_int_int.mono_l k
 unfold slices_Equal_int_int.f
 repeat' first
   | (with_reducible exact ih0 _ _ _ _)
   | (with_reducible exact LeO.refl _)
   | (with_reducible exact LeO.none _)
   | (with_reducible refine LeO.ite ?_ ?_)
   | (with_reducible refine LeO.bind ?_ (fun _ => ?_))
   | exact ih0 _ _ _ _
   | exact LeO.none _
   | refine LeO.ite ?_ ?_
   | refine LeO.bind ?_ (fun _ => ?_)
set_option maxHeartbeats 8000000 in
set_option maxRecDepth 100000 in
theorem slices_Equal_int_int.calls (k : Nat) (A0 : Option Addr) (c0 : Nat) (l0 : List Int) (A1 : Option Addr) (c1 : Nat) (l1 : List Int) (r : Bool) (w : World) (hr0 : Kd.C (Kd.int .i64) w A0 l0.length l0) (hc0 : l0.length ≤ c0) (hr1 : Kd.C (Kd.int .i64) w A1 l1.length l1) (hc1 : l1.length ≤ c1) (h : slices_Equal_int_int.f k l0 l1 = some r) :
  Calls Try.prog 18 #[.slice A0 l0.length c0,.slice A1 l1.length c1] w fun e w' => e = .returned (.bool r) ∧ Drawn0 w w':=by
 have HR0:=Aside0.mk hr0
 have HC0:=Aside0.mk hc0
 clear hr0 hc0
 have HR1:=Aside0.mk hr1
 have HC1:=Aside0.mk hc1
 clear hr1 hc1
 have H : (if (l0.length : Int) = (l1.length : Int) then (slices_Equal_int_int.l0 k l0 l1 (l0.length : Int) 0) else (some false)) = some r:=h
 clear h
 by_cases c3 : (l0.length : Int) = (l1.length : Int)
 ·rw [if_pos c3] at H
  have c3b0 : ((l0.length : Int) == (l1.length : Int)) = true:=beq_iff_eq.mpr c3
  have c3b1 : ((l0.length : Int) != (l1.length : Int)) = false:=bne_eq_false_iff_eq.mpr c3
  have c3b2 : (l0.length == l1.length) = true:=by first | simpa using c3 | (simp at c3 ⊢;omega)
  clear c3
  have H':=Aside0.mk H
  clear H
  go_enter Try.func18,Try.ntmps18
  go_wp2
  repeat (go_quiet (fail);try go_wp2)
  go_loopg [13] k (fun kq v13 w' => ∃ (x13_1 : Int),v13 = .int .i64 x13_1 ∧ Aside0 (slices_Equal_int_int.l0 kq l0 l1 (l0.length : Int) x13_1 = some r) ∧ Aside0 (kq ≤ k) ∧ Drawn0 w w')
  case atStart => exact ⟨(0),(by first | rfl | (simp;done) | (simp [*];done)),H',⟨Nat.le_refl _⟩,by repeat (first | exact Drawn0.refl _ | apply Drawn0.step)⟩
  case round =>
   clear H'
   try clear c1
   try clear p2
   try clear c3
   try clear c3b0
   try clear c3b1
   try clear c3b2
   obtain ⟨x13_1,rfl,HA,HK1,⟨m1,rfl⟩⟩:=hrel
   cases gk with
   | zero => exact absurd HA.out (by simp [slices_Equal_int_int.l0])
   | succ k1 =>
    have H:=HA.out
    clear HA
    simp only [slices_Equal_int_int.l0] at H
    by_cases c4 : x13_1 < (l0.length : Int)
    ·rw [if_pos c4] at H
     have c4b0 : decide (x13_1 < (l0.length : Int)) = true:=decide_eq_true c4
     clear c4
     by_cases c5 : 0 ≤ x13_1
     ·rw [if_pos c5] at H
      have c5b0 : decide (0 ≤ x13_1) = true:=decide_eq_true c5
      clear c5
      by_cases c6 : x13_1 < (l0.length : Int)
      ·rw [if_pos c6] at H
       have c6b0 : decide (x13_1 < (l0.length : Int)) = true:=decide_eq_true c6
       clear c6
       by_cases c7 : x13_1 < (l1.length : Int)
       ·rw [if_pos c7] at H
        have c7b0 : decide (x13_1 < (l1.length : Int)) = true:=decide_eq_true c7
        clear c7
        by_cases c8 : (rd l0 x13_1) = (rd l1 x13_1)
        ·rw [if_pos c8] at H
         have c8b0 : ((rd l0 x13_1) == (rd l1 x13_1)) = true:=beq_iff_eq.mpr c8
         have c8b1 : ((rd l0 x13_1) != (rd l1 x13_1)) = false:=bne_eq_false_iff_eq.mpr c8
         clear c8
         have H':=Aside0.mk H
         clear H
         have p192 : 0 ≤ (x13_1 : Int):=of_decide_eq_true (by first | (with_reducible assumption) | assumption)
         have q192 : x13_1 < (l0.length : Int):=of_decide_eq_true (by first | (with_reducible assumption) | assumption)
         obtain ⟨ad192,e192,hx192_0⟩:=Kd.at_int HR0.out x13_1 p192 q192
         cases e192
         replace p192:=eq_true p192
         replace q192:=eq_true q192
         have p193 : 0 ≤ (x13_1 : Int):=of_decide_eq_true (by first | (with_reducible assumption) | assumption)
         have q193 : x13_1 < (l1.length : Int):=of_decide_eq_true (by first | (with_reducible assumption) | assumption)
         obtain ⟨ad193,e193,hx193_0⟩:=Kd.at_int HR1.out x13_1 p193 q193
         cases e193
         replace p193:=eq_true p193
         replace q193:=eq_true q193
         go_wp2
         repeat (go_quiet (fail);try go_wp2)
         go_roundg k1
         case measure => have:=HK1.out;omega
         case rel => exact ⟨(wrap64 (x13_1 + 1)),(by first | rfl | (simp;done) | (simp [*];done)),H',⟨by have:=HK1.out;omega⟩,by repeat (first | exact Drawn0.refl _ | apply Drawn0.step)⟩
        ·rw [if_neg c8] at H
         have c8b0 : ((rd l0 x13_1) == (rd l1 x13_1)) = false:=beq_eq_false_iff_ne.mpr c8
         have c8b1 : ((rd l0 x13_1) != (rd l1 x13_1)) = true:=bne_iff_ne.mpr c8
         obtain rfl:=Option.some.inj H
         have p192 : 0 ≤ (x13_1 : Int):=of_decide_eq_true (by first | (with_reducible assumption) | assumption)
         have q192 : x13_1 < (l0.length : Int):=of_decide_eq_true (by first | (with_reducible assumption) | assumption)
         obtain ⟨ad192,e192,hx192_0⟩:=Kd.at_int HR0.out x13_1 p192 q192
         cases e192
         replace p192:=eq_true p192
         replace q192:=eq_true q192
         have p193 : 0 ≤ (x13_1 : Int):=of_decide_eq_true (by first | (with_reducible assumption) | assumption)
         have q193 : x13_1 < (l1.length : Int):=of_decide_eq_true (by first | (with_reducible assumption) | assumption)
         obtain ⟨ad193,e193,hx193_0⟩:=Kd.at_int HR1.out x13_1 p193 q193
         cases e193
         replace p193:=eq_true p193
         replace q193:=eq_true q193
         go_wp2
         repeat (go_quiet (fail);try go_wp2)
         go_ret
         exact ⟨by first | rfl | (simp;done) | (simp [*];done),by repeat (first | exact Drawn0.refl _ | apply Drawn0.step)⟩
       ·rw [if_neg c7] at H
        exact absurd H (by simp)
      ·rw [if_neg c6] at H
       exact absurd H (by simp)
     ·rw [if_neg c5] at H
      exact absurd H (by simp)
    ·rw [if_neg c4] at H
     have c4b0 : decide (x13_1 < (l0.length : Int)) = false:=decide_eq_false c4
     clear c4
     obtain rfl:=Option.some.inj H
     go_wp2
     repeat (go_quiet (fail);try go_wp2)
     go_ret
     exact ⟨by first | rfl | (simp;done) | (simp [*];done),by repeat (first | exact Drawn0.refl _ | apply Drawn0.step)⟩
 ·rw [if_neg c3] at H
  have c3b0 : ((l0.length : Int) == (l1.length : Int)) = false:=beq_eq_false_iff_ne.mpr c3
  have c3b1 : ((l0.length : Int) != (l1.length : Int)) = true:=bne_iff_ne.mpr c3
  have c3b2 : (l0.length == l1.length) = false:=by first | simpa using c3 | (simp at c3 ⊢;omega)
  obtain rfl:=Option.some.inj H
  go_enter Try.func18,Try.ntmps18
  go_wp2
  repeat (go_quiet (fail);try go_wp2)
  go_ret
  exact ⟨by first | rfl | (simp;done) | (simp [*];done),by repeat (first | exact Drawn0.refl _ | apply Drawn0.step)⟩

end Go.Proofs.Ytnmmdeonkpfccaa.Pr
namespace Go.Proofs.Ytnmmdeonkpfccaa.Pr
open Go.RowKit Go.Proofs.YtnmmdeonkpfccaaW.PrintWords Go.Proofs.YtnmmdeonkpfccaaW.PrintLast Go.Proofs.YtnmmdeonkpfccaaW.PrintMore
attribute [local go_sem] max2_int min2_int max_two min_two max_three min_three max_four min_four
set_option linter.unusedVariables false
set_option linter.unusedSimpArgs false

/-! ### slices_Equal_string_string: function 19 -/
def slices_Equal_string_string.l0 : Nat → List ByteArray → List ByteArray → Int → Int → Option (Bool)
 | 0,_,_,_,_ => none
 | k + 1,x0,x1,x12,x13 => if x13 < x12 then (if 0 ≤ x13 then (if x13 < (x0.length : Int) then (if x13 < (x1.length : Int) then (if (rdOf ByteArray.empty x0 x13).toList = (rdOf ByteArray.empty x1 x13).toList then (slices_Equal_string_string.l0 k x0 x1 x12 (wrap64 (x13 + 1))) else (some false)) else (none)) else (none)) else (none)) else (some true)
def slices_Equal_string_string.f (k : Nat) (l0 : List ByteArray) (l1 : List ByteArray) : Option (Bool):=if (l0.length : Int) = (l1.length : Int) then (slices_Equal_string_string.l0 k l0 l1 (l0.length : Int) 0) else (some false)
theorem slices_Equal_string_string.mono_l : ∀ k,(∀ y0 y1 y2 y3,LeO (slices_Equal_string_string.l0 k y0 y1 y2 y3) (slices_Equal_string_string.l0 (k + 1) y0 y1 y2 y3))
 | 0 => fun _ _ _ _ r h => by simp [slices_Equal_string_string.l0] at h
 | k + 1 => by
  have ih0:=slices_Equal_string_string.mono_l k
  ·intro y0 y1 y2 y3
   unfold slices_Equal_string_string.l0
   repeat' first
   | (with_reducible exact ih0 _ _ _ _)
   | (with_reducible exact LeO.refl _)
   | (with_reducible exact LeO.none _)
   | (with_reducible refine LeO.ite ?_ ?_)
   | (with_reducible refine LeO.bind ?_ (fun _ => ?_))
   | exact ih0 _ _ _ _
   | exact LeO.none _
   | refine LeO.ite ?_ ?_
   | refine LeO.bind ?_ (fun _ => ?_)
theorem slices_Equal_string_string.mono : ∀ a0 a1 k,LeO (slices_Equal_string_string.f k a0 a1) (slices_Equal_string_string.f (k + 1) a0 a1):=by
 intro a0 a1 k
 have ih0:=slices_Equal_string_string.mono_l k
 unfold slices_Equal_string_string.f
 repeat' first
   | (with_reducible exact ih0 _ _ _ _)
   | (with_reducible exact LeO.refl _)
   | (with_reducible exact LeO.none _)
   | (with_reducible refine LeO.ite ?_ ?_)
   | (with_reducible refine LeO.bind ?_ (fun _ => ?_))
   | exact ih0 _ _ _ _
   | exact LeO.none _
   | refine LeO.ite ?_ ?_
   | refine LeO.bind ?_ (fun _ => ?_)
set_option maxHeartbeats 8000000 in
set_option maxRecDepth 100000 in
theorem slices_Equal_string_string.calls (k : Nat) (A0 : Option Addr) (c0 : Nat) (l0 : List ByteArray) (A1 : Option Addr) (c1 : Nat) (l1 : List ByteArray) (r : Bool) (w : World) (hr0 : Kd.C Kd.string w A0 l0.length l0) (hc0 : l0.length ≤ c0) (hr1 : Kd.C Kd.string w A1 l1.length l1) (hc1 : l1.length ≤ c1) (h : slices_Equal_string_string.f k l0 l1 = some r) :
  Calls Try.prog 19 #[.slice A0 l0.length c0,.slice A1 l1.length c1] w fun e w' => e = .returned (.bool r) ∧ Drawn0 w w':=by
 have HR0:=Aside0.mk hr0
 have HC0:=Aside0.mk hc0
 clear hr0 hc0
 have HR1:=Aside0.mk hr1
 have HC1:=Aside0.mk hc1
 clear hr1 hc1
 have H : (if (l0.length : Int) = (l1.length : Int) then (slices_Equal_string_string.l0 k l0 l1 (l0.length : Int) 0) else (some false)) = some r:=h
 clear h
 by_cases c3 : (l0.length : Int) = (l1.length : Int)
 ·rw [if_pos c3] at H
  have c3b0 : ((l0.length : Int) == (l1.length : Int)) = true:=beq_iff_eq.mpr c3
  have c3b1 : ((l0.length : Int) != (l1.length : Int)) = false:=bne_eq_false_iff_eq.mpr c3
  have c3b2 : (l0.length == l1.length) = true:=by first | simpa using c3 | (simp at c3 ⊢;omega)
  clear c3
  have H':=Aside0.mk H
  clear H
  go_enter Try.func19,Try.ntmps19
  go_wp2
  repeat (go_quiet (fail);try go_wp2)
  go_loopg [13] k (fun kq v13 w' => ∃ (x13_1 : Int),v13 = .int .i64 x13_1 ∧ Aside0 (slices_Equal_string_string.l0 kq l0 l1 (l0.length : Int) x13_1 = some r) ∧ Aside0 (kq ≤ k) ∧ Drawn0 w w')
  case atStart => exact ⟨(0),(by first | rfl | (simp;done) | (simp [*];done)),H',⟨Nat.le_refl _⟩,by repeat (first | exact Drawn0.refl _ | apply Drawn0.step)⟩
  case round =>
   clear H'
   try clear c1
   try clear p2
   try clear c3
   try clear c3b0
   try clear c3b1
   try clear c3b2
   obtain ⟨x13_1,rfl,HA,HK1,⟨m1,rfl⟩⟩:=hrel
   cases gk with
   | zero => exact absurd HA.out (by simp [slices_Equal_string_string.l0])
   | succ k1 =>
    have H:=HA.out
    clear HA
    simp only [slices_Equal_string_string.l0] at H
    by_cases c4 : x13_1 < (l0.length : Int)
    ·rw [if_pos c4] at H
     have c4b0 : decide (x13_1 < (l0.length : Int)) = true:=decide_eq_true c4
     clear c4
     by_cases c5 : 0 ≤ x13_1
     ·rw [if_pos c5] at H
      have c5b0 : decide (0 ≤ x13_1) = true:=decide_eq_true c5
      clear c5
      by_cases c6 : x13_1 < (l0.length : Int)
      ·rw [if_pos c6] at H
       have c6b0 : decide (x13_1 < (l0.length : Int)) = true:=decide_eq_true c6
       clear c6
       by_cases c7 : x13_1 < (l1.length : Int)
       ·rw [if_pos c7] at H
        have c7b0 : decide (x13_1 < (l1.length : Int)) = true:=decide_eq_true c7
        clear c7
        by_cases c8 : (rdOf ByteArray.empty l0 x13_1).toList = (rdOf ByteArray.empty l1 x13_1).toList
        ·rw [if_pos c8] at H
         have c8b0 : ((rdOf ByteArray.empty l0 x13_1).toList == (rdOf ByteArray.empty l1 x13_1).toList) = true:=beq_iff_eq.mpr c8
         have c8b1 : ((rdOf ByteArray.empty l0 x13_1).toList != (rdOf ByteArray.empty l1 x13_1).toList) = false:=bne_eq_false_iff_eq.mpr c8
         clear c8
         have H':=Aside0.mk H
         clear H
         have p194 : 0 ≤ (x13_1 : Int):=of_decide_eq_true (by first | (with_reducible assumption) | assumption)
         have q194 : x13_1 < (l0.length : Int):=of_decide_eq_true (by first | (with_reducible assumption) | assumption)
         obtain ⟨ad194,e194,hx194_0⟩:=Kd.at_string HR0.out x13_1 p194 q194
         cases e194
         replace p194:=eq_true p194
         replace q194:=eq_true q194
         have p195 : 0 ≤ (x13_1 : Int):=of_decide_eq_true (by first | (with_reducible assumption) | assumption)
         have q195 : x13_1 < (l1.length : Int):=of_decide_eq_true (by first | (with_reducible assumption) | assumption)
         obtain ⟨ad195,e195,hx195_0⟩:=Kd.at_string HR1.out x13_1 p195 q195
         cases e195
         replace p195:=eq_true p195
         replace q195:=eq_true q195
         go_wp2
         repeat (go_quiet (fail);try go_wp2)
         go_roundg k1
         case measure => have:=HK1.out;omega
         case rel => exact ⟨(wrap64 (x13_1 + 1)),(by first | rfl | (simp;done) | (simp [*];done)),H',⟨by have:=HK1.out;omega⟩,by repeat (first | exact Drawn0.refl _ | apply Drawn0.step)⟩
        ·rw [if_neg c8] at H
         have c8b0 : ((rdOf ByteArray.empty l0 x13_1).toList == (rdOf ByteArray.empty l1 x13_1).toList) = false:=beq_eq_false_iff_ne.mpr c8
         have c8b1 : ((rdOf ByteArray.empty l0 x13_1).toList != (rdOf ByteArray.empty l1 x13_1).toList) = true:=bne_iff_ne.mpr c8
         obtain rfl:=Option.some.inj H
         have p194 : 0 ≤ (x13_1 : Int):=of_decide_eq_true (by first | (with_reducible assumption) | assumption)
         have q194 : x13_1 < (l0.length : Int):=of_decide_eq_true (by first | (with_reducible assumption) | assumption)
         obtain ⟨ad194,e194,hx194_0⟩:=Kd.at_string HR0.out x13_1 p194 q194
         cases e194
         replace p194:=eq_true p194
         replace q194:=eq_true q194
         have p195 : 0 ≤ (x13_1 : Int):=of_decide_eq_true (by first | (with_reducible assumption) | assumption)
         have q195 : x13_1 < (l1.length : Int):=of_decide_eq_true (by first | (with_reducible assumption) | assumption)
         obtain ⟨ad195,e195,hx195_0⟩:=Kd.at_string HR1.out x13_1 p195 q195
         cases e195
         replace p195:=eq_true p195
         replace q195:=eq_true q195
         go_wp2
         repeat (go_quiet (fail);try go_wp2)
         go_ret
         exact ⟨by first | rfl | (simp;done) | (simp [*];done),by repeat (first | exact Drawn0.refl _ | apply Drawn0.step)⟩
       ·rw [if_neg c7] at H
        exact absurd H (by simp)
      ·rw [if_neg c6] at H
       exact absurd H (by simp)
     ·rw [if_neg c5] at H
      exact absurd H (by simp)
    ·rw [if_neg c4] at H
     have c4b0 : decide (x13_1 < (l0.length : Int)) = false:=decide_eq_false c4
     clear c4
     obtain rfl:=Option.some.inj H
     go_wp2
     repeat (go_quiet (fail);try go_wp2)
     go_ret
     exact ⟨by first | rfl | (simp;done) | (simp [*];done),by repeat (first | exact Drawn0.refl _ | apply Drawn0.step)⟩
 ·rw [if_neg c3] at H
  have c3b0 : ((l0.length : Int) == (l1.length : Int)) = false:=beq_eq_false_iff_ne.mpr c3
  have c3b1 : ((l0.length : Int) != (l1.length : Int)) = true:=bne_iff_ne.mpr c3
  have c3b2 : (l0.length == l1.length) = false:=by first | simpa using c3 | (simp at c3 ⊢;omega)
  obtain rfl:=Option.some.inj H
  go_enter Try.func19,Try.ntmps19
  go_wp2
  repeat (go_quiet (fail);try go_wp2)
  go_ret
  exact ⟨by first | rfl | (simp;done) | (simp [*];done),by repeat (first | exact Drawn0.refl _ | apply Drawn0.step)⟩

end Go.Proofs.Ytnmmdeonkpfccaa.Pr
/- The plain laws: equal lists, and how long the answers are. -/
set_option linter.unusedVariables false
namespace Go.Proofs.Ytnmmdeonkpfccaa.Pr
open Go.RowKit Go.Proofs.YtnmmdeonkpfccaaW.PrintWords Go.Proofs.YtnmmdeonkpfccaaW.PrintLast Go.Proofs.YtnmmdeonkpfccaaW.PrintMore

theorem eqI_go (l : List Int) (hn : l.length ≤ 2513169434915) : ∀ (d i : Nat),i ≤ l.length → l.length - i = d → Ev (fun k => slices_Equal_int_int.l0 k l l (l.length : Int) (i : Int)) true:=by
 intro d
 induction d with
 | zero =>
  intro i hi hd
  exact Ev.const fun k => by simp only [slices_Equal_int_int.l0];rw [if_neg (by omega)]
 | succ d ih =>
  intro i hi hd
  refine Ev.step (f:=fun k => slices_Equal_int_int.l0 k l l (l.length : Int) ((i + 1 : Nat) : Int)) (fun k => ?_) (ih (i + 1) (by omega) (by omega))
  simp only [slices_Equal_int_int.l0]
  rw [if_pos (by omega),if_pos (by omega),if_pos (by omega),if_pos (by omega),if_pos True.intro,wrap_nat (by omega)]
theorem eqI_ev (l : List Int) (hn : l.length ≤ 2513169434915) : Ev (fun k => slices_Equal_int_int.f k l l) true:=by
 unfold slices_Equal_int_int.f
 simp only [if_true]
 exact eqI_go l hn l.length 0 (by omega) (by omega)
theorem eqS_go (l : List ByteArray) (hn : l.length ≤ 2513169434915) : ∀ (d i : Nat),i ≤ l.length → l.length - i = d → Ev (fun k => slices_Equal_string_string.l0 k l l (l.length : Int) (i : Int)) true:=by
 intro d
 induction d with
 | zero =>
  intro i hi hd
  exact Ev.const fun k => by simp only [slices_Equal_string_string.l0];rw [if_neg (by omega)]
 | succ d ih =>
  intro i hi hd
  refine Ev.step (f:=fun k => slices_Equal_string_string.l0 k l l (l.length : Int) ((i + 1 : Nat) : Int)) (fun k => ?_) (ih (i + 1) (by omega) (by omega))
  simp only [slices_Equal_string_string.l0]
  rw [if_pos (by omega),if_pos (by omega),if_pos (by omega),if_pos (by omega),if_pos True.intro,wrap_nat (by omega)]
theorem eqS_ev (l : List ByteArray) (hn : l.length ≤ 2513169434915) : Ev (fun k => slices_Equal_string_string.f k l l) true:=by
 unfold slices_Equal_string_string.f
 simp only [if_true]
 exact eqS_go l hn l.length 0 (by omega) (by omega)
theorem statesV_len (l : List S51) : (statesV l).1.length ≤ l.length:=by
 unfold statesV
 split
 ·exact Nat.zero_le _
 ·show (statesL l).length ≤ _
  unfold statesL;rw [List.length_map,List.length_range];exact Nat.le_refl _
theorem sel_len {l : List S51} {S : List Nm} {sel : Nat → Option Nm} (h : bs (accS sel l.length) = strs S) : (strs S).length ≤ l.length:=by rw [← h,bs_len];exact acc_len sel _
theorem partsV_len (l : List S51) : (partsV l).1.length ≤ l.length:=by
 unfold partsV
 split
 ·exact Nat.zero_le _
 ·exact sel_len (acc_strs (selP l) l.length (selP_mem l))
theorem now_ev {α : Type} {o : Option α} {r : α} (h : o = some r) : Ev (fun _ => o) r:=by rw [h];exact Ev.now _
end Go.Proofs.Ytnmmdeonkpfccaa.Pr
namespace Go.Proofs.Ytnmmdeonkpfccaa.Pr
open Go.RowKit Go.Proofs.YtnmmdeonkpfccaaW.PrintWords Go.Proofs.YtnmmdeonkpfccaaW.PrintLast Go.Proofs.YtnmmdeonkpfccaaW.PrintMore
attribute [local go_sem] max2_int min2_int max_two min_two max_three min_three max_four min_four
set_option linter.unusedVariables false
set_option linter.unusedSimpArgs false

/-! ### metrolablaw53_Seven: function 37 -/
def metrolablaw53_Seven.f  : Option ((List (S51))):=some (([(⟨0,(⟨#[103]⟩ : ByteArray),(⟨#[112,49]⟩ : ByteArray),(⟨#[88]⟩ : ByteArray)⟩ : S51),(⟨0,(⟨#[104]⟩ : ByteArray),(⟨#[112,50]⟩ : ByteArray),(⟨#[88]⟩ : ByteArray)⟩ : S51),(⟨1,(⟨#[103]⟩ : ByteArray),(⟨#[]⟩ : ByteArray),(⟨#[]⟩ : ByteArray)⟩ : S51),(⟨0,(⟨#[103]⟩ : ByteArray),(⟨#[112,49]⟩ : ByteArray),(⟨#[88]⟩ : ByteArray)⟩ : S51),(⟨0,(⟨#[103]⟩ : ByteArray),(⟨#[112,51]⟩ : ByteArray),(⟨#[89]⟩ : ByteArray)⟩ : S51),(⟨2,(⟨#[103]⟩ : ByteArray),(⟨#[]⟩ : ByteArray),(⟨#[]⟩ : ByteArray)⟩ : S51),(⟨2,(⟨#[104]⟩ : ByteArray),(⟨#[]⟩ : ByteArray),(⟨#[]⟩ : ByteArray)⟩ : S51)] : List (S51)))
set_option maxHeartbeats 8000000 in
set_option maxRecDepth 100000 in
theorem metrolablaw53_Seven.calls  (r : List (S51)) (w : World) (h : metrolablaw53_Seven.f  = some r) :
  Calls Try.prog 37 #[] w fun e w' => ∃ v0_ : Value,e = .returned (v0_) ∧ Kd.R k51 51 w' w.heap.size (fun _ => True) v0_ r ∧ Below w.heap.size w w':=by
 have hu51:=Try.underlying51
 have HB:=Aside0.mk (Below.refl w.heap.size w)
 have H : (some (([(⟨0,(⟨#[103]⟩ : ByteArray),(⟨#[112,49]⟩ : ByteArray),(⟨#[88]⟩ : ByteArray)⟩ : S51),(⟨0,(⟨#[104]⟩ : ByteArray),(⟨#[112,50]⟩ : ByteArray),(⟨#[88]⟩ : ByteArray)⟩ : S51),(⟨1,(⟨#[103]⟩ : ByteArray),(⟨#[]⟩ : ByteArray),(⟨#[]⟩ : ByteArray)⟩ : S51),(⟨0,(⟨#[103]⟩ : ByteArray),(⟨#[112,49]⟩ : ByteArray),(⟨#[88]⟩ : ByteArray)⟩ : S51),(⟨0,(⟨#[103]⟩ : ByteArray),(⟨#[112,51]⟩ : ByteArray),(⟨#[89]⟩ : ByteArray)⟩ : S51),(⟨2,(⟨#[103]⟩ : ByteArray),(⟨#[]⟩ : ByteArray),(⟨#[]⟩ : ByteArray)⟩ : S51),(⟨2,(⟨#[104]⟩ : ByteArray),(⟨#[]⟩ : ByteArray),(⟨#[]⟩ : ByteArray)⟩ : S51)] : List (S51)))) = some r:=h
 clear h
 obtain ⟨y478,hy478⟩ : ∃ y_ : List (S51),y_ = (([(⟨0,(⟨#[103]⟩ : ByteArray),(⟨#[112,49]⟩ : ByteArray),(⟨#[88]⟩ : ByteArray)⟩ : S51),(⟨0,(⟨#[104]⟩ : ByteArray),(⟨#[112,50]⟩ : ByteArray),(⟨#[88]⟩ : ByteArray)⟩ : S51),(⟨1,(⟨#[103]⟩ : ByteArray),(⟨#[]⟩ : ByteArray),(⟨#[]⟩ : ByteArray)⟩ : S51),(⟨0,(⟨#[103]⟩ : ByteArray),(⟨#[112,49]⟩ : ByteArray),(⟨#[88]⟩ : ByteArray)⟩ : S51),(⟨0,(⟨#[103]⟩ : ByteArray),(⟨#[112,51]⟩ : ByteArray),(⟨#[89]⟩ : ByteArray)⟩ : S51),(⟨2,(⟨#[103]⟩ : ByteArray),(⟨#[]⟩ : ByteArray),(⟨#[]⟩ : ByteArray)⟩ : S51),(⟨2,(⟨#[104]⟩ : ByteArray),(⟨#[]⟩ : ByteArray),(⟨#[]⟩ : ByteArray)⟩ : S51)] : List (S51))):=⟨_,rfl⟩
 replace H : (some y478) = some r:=by first | (rw [hy478];with_reducible exact H) | (have H2_:=(Option.bind_some _ _).symm.trans H;rw [hy478];with_reducible exact H2_) | (have H2_:=(Option.bind_some _ _).symm.trans H;with_reducible exact H2_) | with_reducible exact H | (rw [hy478];exact H) | exact H
 have Ny478:=Aside0.mk hy478
 clear hy478
 obtain rfl:=Option.some.inj H
 go_enter Try.func37,Try.ntmps37
 go_wp2_with (first | ((with_reducible refine gate_dst (N:=8) rfl ?_);(try refine wpList_unguard rfl rfl ?_);refine Kd.R_lit k51 _ 51 ?hg (N:=8) ?hd (xs:=([(⟨0,(⟨#[103]⟩ : ByteArray),(⟨#[112,49]⟩ : ByteArray),(⟨#[88]⟩ : ByteArray)⟩ : S51),(⟨0,(⟨#[104]⟩ : ByteArray),(⟨#[112,50]⟩ : ByteArray),(⟨#[88]⟩ : ByteArray)⟩ : S51),(⟨1,(⟨#[103]⟩ : ByteArray),(⟨#[]⟩ : ByteArray),(⟨#[]⟩ : ByteArray)⟩ : S51),(⟨0,(⟨#[103]⟩ : ByteArray),(⟨#[112,49]⟩ : ByteArray),(⟨#[88]⟩ : ByteArray)⟩ : S51),(⟨0,(⟨#[103]⟩ : ByteArray),(⟨#[112,51]⟩ : ByteArray),(⟨#[89]⟩ : ByteArray)⟩ : S51),(⟨2,(⟨#[103]⟩ : ByteArray),(⟨#[]⟩ : ByteArray),(⟨#[]⟩ : ByteArray)⟩ : S51),(⟨2,(⟨#[104]⟩ : ByteArray),(⟨#[]⟩ : ByteArray),(⟨#[]⟩ : ByteArray)⟩ : S51)] : List (S51))) (inner:=[.int .i64 0,.string (⟨#[103]⟩ : ByteArray),.string (⟨#[112,49]⟩ : ByteArray),.string (⟨#[88]⟩ : ByteArray),.int .i64 0,.string (⟨#[104]⟩ : ByteArray),.string (⟨#[112,50]⟩ : ByteArray),.string (⟨#[88]⟩ : ByteArray),.int .i64 1,.string (⟨#[103]⟩ : ByteArray),.string (⟨#[]⟩ : ByteArray),.string (⟨#[]⟩ : ByteArray),.int .i64 0,.string (⟨#[103]⟩ : ByteArray),.string (⟨#[112,49]⟩ : ByteArray),.string (⟨#[88]⟩ : ByteArray),.int .i64 0,.string (⟨#[103]⟩ : ByteArray),.string (⟨#[112,51]⟩ : ByteArray),.string (⟨#[89]⟩ : ByteArray),.int .i64 2,.string (⟨#[103]⟩ : ByteArray),.string (⟨#[]⟩ : ByteArray),.string (⟨#[]⟩ : ByteArray),.int .i64 2,.string (⟨#[104]⟩ : ByteArray),.string (⟨#[]⟩ : ByteArray),.string (⟨#[]⟩ : ByteArray)]) (ok:=fun _ => True) (okp:=fun _ => True) ?hr ?hp (fun _ hk => hk) trivial (Below.refl _ _) (Nat.le_refl _) (by simp) ?_;(case hd => rfl);(case hg => rfl);(case hr => first | (go_simp;done) | (go_simp;rfl));(case hp => exact (Reps.c4 (show Kd.M k51 _ _ _ (⟨0,(⟨#[103]⟩ : ByteArray),(⟨#[112,49]⟩ : ByteArray),(⟨#[88]⟩ : ByteArray)⟩ : S51) [.int .i64 0,.string (⟨#[103]⟩ : ByteArray),.string (⟨#[112,49]⟩ : ByteArray),.string (⟨#[88]⟩ : ByteArray)] from (k51_mkM _ _ _ (⟨0,(⟨#[103]⟩ : ByteArray),(⟨#[112,49]⟩ : ByteArray),(⟨#[88]⟩ : ByteArray)⟩ : S51) )) (Reps.c4 (show Kd.M k51 _ _ _ (⟨0,(⟨#[104]⟩ : ByteArray),(⟨#[112,50]⟩ : ByteArray),(⟨#[88]⟩ : ByteArray)⟩ : S51) [.int .i64 0,.string (⟨#[104]⟩ : ByteArray),.string (⟨#[112,50]⟩ : ByteArray),.string (⟨#[88]⟩ : ByteArray)] from (k51_mkM _ _ _ (⟨0,(⟨#[104]⟩ : ByteArray),(⟨#[112,50]⟩ : ByteArray),(⟨#[88]⟩ : ByteArray)⟩ : S51) )) (Reps.c4 (show Kd.M k51 _ _ _ (⟨1,(⟨#[103]⟩ : ByteArray),(⟨#[]⟩ : ByteArray),(⟨#[]⟩ : ByteArray)⟩ : S51) [.int .i64 1,.string (⟨#[103]⟩ : ByteArray),.string (⟨#[]⟩ : ByteArray),.string (⟨#[]⟩ : ByteArray)] from (k51_mkM _ _ _ (⟨1,(⟨#[103]⟩ : ByteArray),(⟨#[]⟩ : ByteArray),(⟨#[]⟩ : ByteArray)⟩ : S51) )) (Reps.c4 (show Kd.M k51 _ _ _ (⟨0,(⟨#[103]⟩ : ByteArray),(⟨#[112,49]⟩ : ByteArray),(⟨#[88]⟩ : ByteArray)⟩ : S51) [.int .i64 0,.string (⟨#[103]⟩ : ByteArray),.string (⟨#[112,49]⟩ : ByteArray),.string (⟨#[88]⟩ : ByteArray)] from (k51_mkM _ _ _ (⟨0,(⟨#[103]⟩ : ByteArray),(⟨#[112,49]⟩ : ByteArray),(⟨#[88]⟩ : ByteArray)⟩ : S51) )) (Reps.c4 (show Kd.M k51 _ _ _ (⟨0,(⟨#[103]⟩ : ByteArray),(⟨#[112,51]⟩ : ByteArray),(⟨#[89]⟩ : ByteArray)⟩ : S51) [.int .i64 0,.string (⟨#[103]⟩ : ByteArray),.string (⟨#[112,51]⟩ : ByteArray),.string (⟨#[89]⟩ : ByteArray)] from (k51_mkM _ _ _ (⟨0,(⟨#[103]⟩ : ByteArray),(⟨#[112,51]⟩ : ByteArray),(⟨#[89]⟩ : ByteArray)⟩ : S51) )) (Reps.c4 (show Kd.M k51 _ _ _ (⟨2,(⟨#[103]⟩ : ByteArray),(⟨#[]⟩ : ByteArray),(⟨#[]⟩ : ByteArray)⟩ : S51) [.int .i64 2,.string (⟨#[103]⟩ : ByteArray),.string (⟨#[]⟩ : ByteArray),.string (⟨#[]⟩ : ByteArray)] from (k51_mkM _ _ _ (⟨2,(⟨#[103]⟩ : ByteArray),(⟨#[]⟩ : ByteArray),(⟨#[]⟩ : ByteArray)⟩ : S51) )) (Reps.c4 (show Kd.M k51 _ _ _ (⟨2,(⟨#[104]⟩ : ByteArray),(⟨#[]⟩ : ByteArray),(⟨#[]⟩ : ByteArray)⟩ : S51) [.int .i64 2,.string (⟨#[104]⟩ : ByteArray),.string (⟨#[]⟩ : ByteArray),.string (⟨#[]⟩ : ByteArray)] from (k51_mkM _ _ _ (⟨2,(⟨#[104]⟩ : ByteArray),(⟨#[]⟩ : ByteArray),(⟨#[]⟩ : ByteArray)⟩ : S51) )) (Reps.none _ _)))))))));intro v479 w1 ho2 hb hg_ hnew_;clear hg_ hnew_;(first | rw [← Ny478.out] at ho2 | (simp only [Int.reduceToNat] at ho2;rw [← Ny478.out] at ho2));have n0_:=Aside0.mk (Kd.R_lower ho2 (below_size (by repeat (first | (with_reducible first | exact HB.out | apply below_alloc | apply pw_below_drewN | apply below_drew1) | exact HB.out))));have n1_:=Aside0.mk (below_step (by repeat (first | (with_reducible first | exact HB.out | apply below_alloc | apply pw_below_drewN | apply below_drew1) | exact HB.out)) hb);clear HB;have HO480:=n0_;have HB:=n1_;clear n0_ n1_;clear hb ho2))
 go_ret
 exact ⟨_,by first | rfl | (simp [errW_none,errW_some] <;> rfl) | (simp [*,errW_none,errW_some] <;> rfl),by (with_reducible repeat (first | apply Kd.R_alloc | apply Kd.R_drewN | apply Kd.R_drew));exact HO480.out,by repeat (first | (with_reducible first | exact HB.out | apply below_alloc | apply pw_below_drewN | apply below_drew1) | exact HB.out)⟩

end Go.Proofs.Ytnmmdeonkpfccaa.Pr
/- slices.ContainsFunc over events with the closure of recall.Reason. -/
set_option linter.unusedVariables false
namespace Go.Proofs.Ytnmmdeonkpfccaa.Pr
open Go.RowKit Go.Shelf Go.Maps Go.Proofs.YtnmmdeonkpfccaaW.PrintWords Go.Proofs.YtnmmdeonkpfccaaW.PrintLast Go.Proofs.YtnmmdeonkpfccaaW.PrintMore
open Go.Proofs.Ytnmmdeonkpfccaa.Rg

instance inhS51 : Inhabited S51:=⟨z51⟩
def measP (s : ByteArray) (x : S51) : Bool:=x.f0 == 0 && decide (x.f2.data.toList = s.data.toList)
def evL (x : S51) : List Value:=[.int .i64 x.f0,.string x.f1,.string x.f2,.string x.f3]

set_option maxHeartbeats 1000000 in
set_option maxRecDepth 100000 in
theorem judges50 (g : ByteArray) (Bg : Nat) (w : World) (hb : w.cell? ⟨Bg,0,none⟩ = some (.string g)) : PredBelow Try.prog 50 #[.pointer (some ⟨Bg,0,none⟩)] (fun x => .agg (evL x).toArray) (measP g) w:=by
 intro W x hW
 show Calls Try.prog 50 #[.agg #[.int .i64 x.f0,.string x.f1,.string x.f2,.string x.f3],.pointer (some ⟨Bg,0,none⟩)] W _
 have hbl:=World.block_lt_of_cell? w _ hb
 have hbW : W.cell? ⟨Bg,0,none⟩ = some (.string g):=(hW.cell (p:=⟨Bg,0,none⟩) hbl).trans hb
 have hbB : ∀ o : Obj,(W.alloc o).cell? ⟨Bg,0,none⟩ = some (.string g):=fun o => (((Below.refl _ W).alloc (Nat.le_refl _) o).cell (p:=⟨Bg,0,none⟩) (Nat.lt_of_lt_of_le hbl hW.size)).trans hbW
 have HB:=Aside0.mk (show ∀ o : Obj,Below w.heap.size w (W.alloc o) from fun o => hW.alloc hW.size o)
 by_cases h0 : x.f0 = 0
 ·obtain ⟨r,hr⟩ : ∃ r,r = decide (x.f2.data.toList = g.data.toList):=⟨_,rfl⟩
  have hrr : measP g x = r:=by rw [hr];unfold measP;rw [h0];rfl
  rw [hrr]
  have he : (x.f2.toList == g.toList) = r:=by rw [hr,ByteArray.toList_eq,ByteArray.toList_eq];exact Bool.eq_iff_iff.2 (by simp)
  have he2 : decide (x.f2.toList = g.toList) = r:=by rw [hr,ByteArray.toList_eq,ByteArray.toList_eq]
  rw [h0]
  clear hr hrr h0
  go_enter Try.func50,Try.ntmps50
  go_wp2
  go_ret
  exact ⟨rfl,HB.out _⟩
 ·have h0b : (x.f0 == 0) = false:=beq_eq_false_iff_ne.mpr h0
  have hr : measP g x = false:=by unfold measP;rw [h0b];rfl
  rw [hr]
  clear h0
  go_enter Try.func50,Try.ntmps50
  go_wp2
  go_ret
  exact ⟨rfl,HB.out _⟩

set_option maxHeartbeats 1000000 in
set_option maxRecDepth 100000 in
theorem index_none (A0 : Option Addr) (c0 : Nat) (fv : Value) (w : World) : Calls Try.prog 58 #[.slice A0 0 c0,fv] w fun e w' => e = .returned (.int .i64 (-1)) ∧ Below w.heap.size w w':=by
 go_enter Try.func58,Try.ntmps58
 go_wp2
 go_loopw [8] (fun v wr => v = .int .i64 0 ∧ wr = w) (fun _ _ => 0)
 case atStart => exact ⟨rfl,rfl⟩
 case round =>
  obtain ⟨rfl,rfl⟩:=hrel
  go_wp2
  go_ret
  exact ⟨rfl,Below.refl _ _⟩
theorem has_ok (A0 : Option Addr) (c0 : Nat) (l : List S51) (g : ByteArray) (Bg : Nat) (w : World) (hr0 : Kd.C k51 w A0 l.length l) (hl : l.length ≤ 4096) (hb : w.cell? ⟨Bg,0,none⟩ = some (.string g)) :
  Calls Try.prog 29 #[.slice A0 l.length c0,.func (.func 50) #[] #[.pointer (some ⟨Bg,0,none⟩)]] w fun e w' => e = .returned (.bool (l.any (measP g))) ∧ Below w.heap.size w w':=by
 cases l with
 | nil =>
  show Calls Try.prog 29 #[.slice A0 0 c0,.func (.func 50) #[] #[.pointer (some ⟨Bg,0,none⟩)]] w _
  go_enter Try.func29,Try.ntmps29
  go_wp2_with (go_at_call 58;refine (index_none A0 c0 _ w).mono ?_;rintro e w1 ⟨rfl,hb1⟩)
  go_ret
  exact ⟨rfl,hb1⟩
 | cons y r =>
  obtain ⟨ad,e1,h0,_⟩:=at_T51 hr0 0 (Int.le_refl _) (by simp)
  subst e1
  obtain ⟨b,off,spot⟩:=ad
  have hs : spot = none:=by
   unfold World.cell? at h0
   split at h0
   ·split at h0
    ·cases h0
    ·rename_i hs
     simp [Addr.add] at hs
     exact hs
   ·cases h0
  subst hs
  have hblk : b < w.heap.size:=by
   have:=World.block_lt_of_cell? w _ h0
   simpa [Addr.add] using this
  have:=AnyQ.slices_ContainsFunc Try.cf29 4 Try.isAgg51 Try.sizeOf51 evL (fun _ => rfl) (measP g) 50 #[.pointer (some ⟨Bg,0,none⟩)] (enters_of Try.func50 (by kernel_rfl) rfl) b off (y :: r).length c0 (y :: r) w (judges50 g Bg w hb) (Nat.le_refl _) (by omega) hblk ?_
  ·rw [List.take_length] at this
   exact this
  ·intro j hj i v hv
   obtain ⟨ad,e,k0,k1,k2,k3⟩:=at_T51 hr0 (j : Int) (by omega) (by omega)
   cases e
   have hrd : rd_T51 (y :: r) (j : Int) = (y :: r)[j]!:=by unfold rd_T51;rw [Int.toNat_natCast,List.getD_eq_getElem?_getD,List.getElem!_eq_getElem?_getD];rfl
   have hadd : (Addr.add ⟨b,off,none⟩ ((j : Int).toNat * 4)) = ⟨b,off + j * 4,none⟩:=by
    rw [Int.toNat_natCast]
    unfold Addr.add
    split
    ·rename_i h;rw [h];rfl
    ·rfl
   rw [hadd,hrd] at k0 k1 k2 k3
   match i,hv with
   | 0,hv => cases hv;exact k0
   | 1,hv => cases hv;exact k1
   | 2,hv => cases hv;exact k2
   | 3,hv => cases hv;exact k3
end Go.Proofs.Ytnmmdeonkpfccaa.Pr
/- The contract of recall.Reason. -/
set_option linter.unusedVariables false
namespace Go.Proofs.Ytnmmdeonkpfccaa.Pr
open Go.RowKit Go.Shelf Go.Maps Go.Proofs.YtnmmdeonkpfccaaW.PrintWords Go.Proofs.YtnmmdeonkpfccaaW.PrintLast Go.Proofs.YtnmmdeonkpfccaaW.PrintMore
open Go.Proofs.Ytnmmdeonkpfccaa.Rg
attribute [local go_sem] Oper.semAt_some

/-- The reason among the last k events. -/
def reasK (l : List S51) (g : ByteArray) : Nat → Int × Int
 | 0 => (0,0)
 | k + 1 => if (evK l k).f0 = 0 ∧ (evK l k).f2.data.toList = g.data.toList ∧ (chkA l k).2 = 3 then ((l.length : Int) - 1 - k,(chkA l k).1) else reasK l g k
def reasonV (l : List S51) (g : ByteArray) : Int × Int × Int :=
 if checkV l ≠ 0 then (0,0,checkV l) else if nameL g.data.toList ≠ 0 then (0,0,nameL g.data.toList)
 else if l.any (measP g) = false then (0,0,6) else if g.data.toList ∉ recL l then (0,0,14) else ((reasK l g l.length).1,(reasK l g l.length).2,0)
def recall_Reason.f (l : List S51) (g : ByteArray) : Option (Int × Int × Int):=some (reasonV l g)

theorem results_cct {fn : Func} {p q u : Tmp} (h : fn.results = #[.cell p 3,.cell q 3,.tmp u]) (tmps : Array Value) (w : World) {ap aq : Addr} {vp vq : Value} (hp : tmps[p]?.getD undef = .pointer (some ap)) (hq : tmps[q]?.getD undef = .pointer (some aq))
  (h1 : w.cell? ap = some vp) (h2 : w.cell? aq = some vq) : (results fn tmps).run Try.prog w = .ok (.tuple #[vp,vq,tmps.getD u undef]) w:=by
 have e : ∀ {a : Addr} {v : Value},w.cell? a = some v → (loadVar 3 a).run Try.prog w = .ok v w:=by
  intro a v hc
  simp [loadVar,Try.isAgg3,Sem.run_bind,Result.andThen,go_sem,hc]
 simp only [results,h]
 simp [Sem.run_bind,Result.andThen,hp,hq,asAddr,e h1,e h2]

theorem two_cells {w1 : World} {n : Nat} {z2 z3 : Value} (u v : Value) (C2 : w1.heap[n + 2]? = some (.cells #[z2] 3)) (C3 : w1.heap[n + 3]? = some (.cells #[z3] 3)) :
  ((w1.setCell ⟨n + 1 + 1,0,none⟩ u).setCell ⟨n + 1 + 1 + 1,0,none⟩ v).heap[n + 2]? = some (.cells #[u] 3) ∧ ((w1.setCell ⟨n + 1 + 1,0,none⟩ u).setCell ⟨n + 1 + 1 + 1,0,none⟩ v).heap[n + 3]? = some (.cells #[v] 3):=by
 refine ⟨?_,?_⟩
 ·rw [Below.heap_setCell _ _ _ _ (show n + 2 ≠ n + 1 + 1 + 1 by omega)]
  exact blk_put C2 0 u rfl
 ·refine blk_put (cs:=#[z3]) ?_ 0 v rfl
  rw [Below.heap_setCell _ _ _ _ (show n + 1 + 1 + 1 ≠ n + 1 + 1 by omega)]
  exact C3
/-- The world behind the heads of Reason. -/
theorem reason_world (A0 : Option Addr) (c0 : Nat) (l0 : List S51) (a1 : ByteArray) (w W4 : World) (hW4 : (((w.alloc (.cells #[.slice A0 l0.length c0] 22)).alloc (.cells #[.string a1] 9)).alloc (.cells #[.int .i64 0] 3)).alloc (.cells #[.int .i64 0] 3) = W4) :
  W4.heap.size = w.heap.size + 4 ∧ Below w.heap.size w W4 ∧ W4.heap[w.heap.size]? = some (.cells #[.slice A0 l0.length c0] 22) ∧ W4.heap[w.heap.size + 1]? = some (.cells #[.string a1] 9) ∧ W4.heap[w.heap.size + 2]? = some (.cells #[.int .i64 0] 3) ∧ W4.heap[w.heap.size + 3]? = some (.cells #[.int .i64 0] 3):=by
 subst hW4
 refine ⟨by simp,((((Below.refl _ w).alloc (Nat.le_refl _) _).alloc (by simp) _).alloc (by simp;omega) _).alloc (by simp;omega) _,blk_alloc (blk_alloc (blk_alloc (blk_new _ _) _) _) _,?_,?_,?_⟩
 ·have:=blk_new (w.alloc (.cells #[.slice A0 l0.length c0] 22)) (.cells #[.string a1] 9)
  rw [World.size_alloc] at this
  exact blk_alloc (blk_alloc this _) _
 ·have:=blk_new ((w.alloc (.cells #[.slice A0 l0.length c0] 22)).alloc (.cells #[.string a1] 9)) (.cells #[.int .i64 0] 3)
  rw [World.size_alloc,World.size_alloc] at this
  exact blk_alloc this _
 ·have:=blk_new (((w.alloc (.cells #[.slice A0 l0.length c0] 22)).alloc (.cells #[.string a1] 9)).alloc (.cells #[.int .i64 0] 3)) (.cells #[.int .i64 0] 3)
  rw [World.size_alloc,World.size_alloc,World.size_alloc] at this
  exact this

/-- The boxes of Reason. -/
def RB (w : World) (A0 : Option Addr) (c0 len : Nat) (a1 : ByteArray) (z2 z3 : Value) (W : World) : Prop :=
 W.heap[w.heap.size]? = some (.cells #[.slice A0 len c0] 22) ∧ W.heap[w.heap.size + 1]? = some (.cells #[.string a1] 9) ∧ W.heap[w.heap.size + 2]? = some (.cells #[z2] 3) ∧ W.heap[w.heap.size + 3]? = some (.cells #[z3] 3) ∧ Below w.heap.size w W
theorem RB.below {w : World} {A0 : Option Addr} {c0 len : Nat} {a1 : ByteArray} {z2 z3 : Value} {W W' : World} (h : RB w A0 c0 len a1 z2 z3 W) (hb : Below W.heap.size W W') : RB w A0 c0 len a1 z2 z3 W' :=
 ⟨blk_below h.1 hb,blk_below h.2.1 hb,blk_below h.2.2.1 hb,blk_below h.2.2.2.1 hb,h.2.2.2.2.trans (hb.mono h.2.2.2.2.size)⟩
theorem RB.drew {w : World} {A0 : Option Addr} {c0 len : Nat} {a1 : ByteArray} {z2 z3 : Value} {W : World} (h : RB w A0 c0 len a1 z2 z3 W) : RB w A0 c0 len a1 z2 z3 W.drew:=⟨h.1,h.2.1,h.2.2.1,h.2.2.2.1,h.2.2.2.2.drew⟩
theorem RB.cells {w : World} {A0 : Option Addr} {c0 len : Nat} {a1 : ByteArray} {z2 z3 : Value} {W : World} (h : RB w A0 c0 len a1 z2 z3 W) :
  W.cell? ⟨w.heap.size,0,none⟩ = some (.slice A0 len c0) ∧ W.cell? ⟨w.heap.size + 1,0,none⟩ = some (.string a1) ∧ W.cell? ⟨w.heap.size + 1 + 1,0,none⟩ = some z2 ∧ W.frozen? ⟨w.heap.size + 1 + 1,0,none⟩ = false ∧
  W.cell? ⟨w.heap.size + 1 + 1 + 1,0,none⟩ = some z3 ∧ W.frozen? ⟨w.heap.size + 1 + 1 + 1,0,none⟩ = false ∧ (∀ u : Value,(W.setCell ⟨w.heap.size + 1 + 1,0,none⟩ u).cell? ⟨w.heap.size + 1 + 1 + 1,0,none⟩ = some z3):=by
 obtain ⟨h0,h1,h2,h3,_⟩:=h
 have e3 : W.cell? ⟨w.heap.size + 1 + 1 + 1,0,none⟩ = some z3:=(blk_cell h3 0).trans rfl
 exact ⟨(blk_cell h0 0).trans rfl,(blk_cell h1 0).trans rfl,(blk_cell h2 0).trans rfl,blk_frozen h2 0,e3,blk_frozen h3 0,fun u => (World.cell?_of_block (Below.heap_setCell _ _ _ _ (show w.heap.size + 1 + 1 + 1 ≠ w.heap.size + 1 + 1 by omega))).trans e3⟩
theorem RB.start (A0 : Option Addr) (c0 : Nat) (l0 : List S51) (a1 : ByteArray) (w W4 : World) (hW4 : (((w.alloc (.cells #[.slice A0 l0.length c0] 22)).alloc (.cells #[.string a1] 9)).alloc (.cells #[.int .i64 0] 3)).alloc (.cells #[.int .i64 0] 3) = W4) : RB w A0 c0 l0.length a1 (.int .i64 0) (.int .i64 0) W4:=by
 obtain ⟨_,hb4,q0,q1,q2,q3⟩:=reason_world A0 c0 l0 a1 w W4 hW4
 exact ⟨q0,q1,q2,q3,hb4⟩
/-- The two numbers set to nought, at the end. -/
theorem RB.zero {w : World} {A0 : Option Addr} {c0 len : Nat} {a1 : ByteArray} {z2 z3 : Value} {W : World} (h : RB w A0 c0 len a1 z2 z3 W) (u v : Value) :
  ((W.setCell ⟨w.heap.size + 1 + 1,0,none⟩ u).setCell ⟨w.heap.size + 1 + 1 + 1,0,none⟩ v).cell? ⟨w.heap.size + 1 + 1,0,none⟩ = some u ∧ ((W.setCell ⟨w.heap.size + 1 + 1,0,none⟩ u).setCell ⟨w.heap.size + 1 + 1 + 1,0,none⟩ v).cell? ⟨w.heap.size + 1 + 1 + 1,0,none⟩ = some v ∧
   Below w.heap.size w ((W.setCell ⟨w.heap.size + 1 + 1,0,none⟩ u).setCell ⟨w.heap.size + 1 + 1 + 1,0,none⟩ v):=by
 obtain ⟨t2,t3⟩:=two_cells u v h.2.2.1 h.2.2.2.1
 exact ⟨(blk_cell t2 0).trans rfl,(blk_cell t3 0).trans rfl,(h.2.2.2.2.setCell (p:=⟨w.heap.size + 1 + 1,0,none⟩) (show w.heap.size ≤ w.heap.size + 1 + 1 by omega) _).setCell (p:=⟨w.heap.size + 1 + 1 + 1,0,none⟩) (show w.heap.size ≤ w.heap.size + 1 + 1 + 1 by omega) _⟩

set_option maxHeartbeats 1000000 in
set_option maxRecDepth 100000 in
theorem Reason_err1 (A0 : Option Addr) (c0 : Nat) (l0 : List (S51)) (a1 : ByteArray) (g : Int) (w : World) (hr0 : Kd.C k51 w A0 l0.length l0) (hc0 : l0.length ≤ c0) (hg : checkV l0 = g) (hne : g ≠ 0) :
  Calls Try.prog 24 #[.slice A0 l0.length c0,.string a1] w fun e w' => e = .returned (.tuple #[.int .i64 0,.int .i64 0,.int .i64 g]) ∧ Below w.heap.size w w':=by
 obtain ⟨W4,hW4⟩ : ∃ W4,(((w.alloc (.cells #[.slice A0 l0.length c0] 22)).alloc (.cells #[.string a1] 9)).alloc (.cells #[.int .i64 0] 3)).alloc (.cells #[.int .i64 0] 3) = W4:=⟨_,rfl⟩
 have R0:=Aside0.mk (RB.start A0 c0 l0 a1 w W4 hW4)
 have k0:=R0.out.cells.1
 have HR0:=Aside0.mk hr0
 have HCK:=Aside0.mk (recall_Check.calls A0 c0 l0 g _ (Kd.C_below hr0 R0.out.2.2.2.2) hc0 (congrArg some hg))
 have hg1 : (g != 0) = true:=bne_iff_ne.mpr hne
 have hg2 : (g == 0) = false:=beq_eq_false_iff_ne.mpr hne
 clear hr0 hg hne
 go_enter Try.func24,Try.ntmps24
 go_wp2_with (go_at_call 16;refine HCK.out.mono ?_;rintro e w1 ⟨rfl,hb1⟩;have R1:=Aside0.mk (R0.out.below hb1);obtain ⟨u0,u1,u2,u3,u4,u5,u6⟩:=R1.out.cells;clear hb1 k0)
 obtain ⟨t2,t3,t4⟩:=R1.out.zero (.int .i64 0) (.int .i64 0)
 refine bodyPost_ret (results_cct rfl _ _ rfl rfl t2 t3) rfl ?_
 exact ⟨rfl,t4⟩

set_option maxHeartbeats 1000000 in
set_option maxRecDepth 100000 in
theorem Reason_err2 (A0 : Option Addr) (c0 : Nat) (l0 : List (S51)) (a1 : ByteArray) (g : Int) (w : World) (hr0 : Kd.C k51 w A0 l0.length l0) (hc0 : l0.length ≤ c0) (hck : checkV l0 = 0) (hg : nameL a1.data.toList = g) (hne : g ≠ 0) :
  Calls Try.prog 24 #[.slice A0 l0.length c0,.string a1] w fun e w' => e = .returned (.tuple #[.int .i64 0,.int .i64 0,.int .i64 g]) ∧ Below w.heap.size w w':=by
 obtain ⟨W4,hW4⟩ : ∃ W4,(((w.alloc (.cells #[.slice A0 l0.length c0] 22)).alloc (.cells #[.string a1] 9)).alloc (.cells #[.int .i64 0] 3)).alloc (.cells #[.int .i64 0] 3) = W4:=⟨_,rfl⟩
 have R0:=Aside0.mk (RB.start A0 c0 l0 a1 w W4 hW4)
 have k0:=R0.out.cells.1
 have HR0:=Aside0.mk hr0
 have HCK:=Aside0.mk (recall_Check.calls A0 c0 l0 0 _ (Kd.C_below hr0 R0.out.2.2.2.2) hc0 (congrArg some hck))
 have HN:=Aside0.mk (fun W => dimension_Name.calls a1 g W (congrArg some hg))
 have hg1 : (g != 0) = true:=bne_iff_ne.mpr hne
 have hg2 : (g == 0) = false:=beq_eq_false_iff_ne.mpr hne
 clear hr0 hg hne hck
 go_enter Try.func24,Try.ntmps24
 go_wp2_with (first | (go_at_call 16;refine HCK.out.mono ?_;rintro e w1 ⟨rfl,hb1⟩;have R1:=Aside0.mk (R0.out.below hb1);obtain ⟨u0,u1,u2,u3,u4,u5,u6⟩:=R1.out.cells;clear hb1 k0) | (go_at_call 49;refine (HN.out _).mono ?_;rintro e w2 ⟨rfl,hb2⟩;have R2:=Aside0.mk (R1.out.below hb2);clear u0 u1 u2 u3 u4 u5 u6;obtain ⟨u0,u1,u2,u3,u4,u5,u6⟩:=R2.out.cells;clear hb2))
 obtain ⟨t2,t3,t4⟩:=R2.out.zero (.int .i64 0) (.int .i64 0)
 refine bodyPost_ret (results_cct rfl _ _ rfl rfl t2 t3) rfl ?_
 exact ⟨rfl,t4⟩

set_option maxHeartbeats 1000000 in
set_option maxRecDepth 100000 in
theorem Reason_err3 (A0 : Option Addr) (c0 : Nat) (l0 : List (S51)) (a1 : ByteArray) (w : World) (hr0 : Kd.C k51 w A0 l0.length l0) (hc0 : l0.length ≤ c0) (hck : checkV l0 = 0) (hg : nameL a1.data.toList = 0) (hh : l0.any (measP a1) = false) :
  Calls Try.prog 24 #[.slice A0 l0.length c0,.string a1] w fun e w' => e = .returned (.tuple #[.int .i64 0,.int .i64 0,.int .i64 6]) ∧ Below w.heap.size w w':=by
 obtain ⟨W4,hW4⟩ : ∃ W4,(((w.alloc (.cells #[.slice A0 l0.length c0] 22)).alloc (.cells #[.string a1] 9)).alloc (.cells #[.int .i64 0] 3)).alloc (.cells #[.int .i64 0] 3) = W4:=⟨_,rfl⟩
 have R0:=Aside0.mk (RB.start A0 c0 l0 a1 w W4 hW4)
 have k0:=R0.out.cells.1
 have HR0:=Aside0.mk hr0
 have HCK:=Aside0.mk (recall_Check.calls A0 c0 l0 0 _ (Kd.C_below hr0 R0.out.2.2.2.2) hc0 (congrArg some hck))
 have HN:=Aside0.mk (fun W => dimension_Name.calls a1 0 W (congrArg some hg))
 have HHS:=Aside0.mk (fun W (hR : RB w A0 c0 l0.length a1 (.int .i64 0) (.int .i64 0) W) => has_ok A0 c0 l0 a1 (w.heap.size + 1) W (Kd.C_below hr0 hR.2.2.2.2) (check_zero hck).1 hR.cells.2.1)
 rw [hh] at HHS
 clear hr0 hg hck hh
 go_enter Try.func24,Try.ntmps24
 go_wp2_with (first | (go_at_call 16;refine HCK.out.mono ?_;rintro e w1 ⟨rfl,hb1⟩;have R1:=Aside0.mk (R0.out.below hb1);obtain ⟨u0,u1,u2,u3,u4,u5,u6⟩:=R1.out.cells;clear hb1 k0) | (go_at_call 49;refine (HN.out _).mono ?_;rintro e w2 ⟨rfl,hb2⟩;have R2:=Aside0.mk (R1.out.below hb2);clear u0 u1 u2 u3 u4 u5 u6;obtain ⟨u0,u1,u2,u3,u4,u5,u6⟩:=R2.out.cells;clear hb2) | (go_at_call 29;refine (HHS.out _ R2.out).mono ?_;rintro e w3 ⟨rfl,hb3⟩;have R3:=Aside0.mk (R2.out.below hb3);clear u0 u1 u2 u3 u4 u5 u6;obtain ⟨u0,u1,u2,u3,u4,u5,u6⟩:=R3.out.cells;clear hb3))
 obtain ⟨t2,t3,t4⟩:=R3.out.zero (.int .i64 0) (.int .i64 0)
 refine bodyPost_ret (results_cct rfl _ _ rfl rfl t2 t3) rfl ?_
 exact ⟨rfl,t4⟩
set_option maxHeartbeats 2000000 in
set_option maxRecDepth 100000 in
theorem Reason_err4 (A0 : Option Addr) (c0 : Nat) (l0 : List (S51)) (a1 : ByteArray) (w : World) (hr0 : Kd.C k51 w A0 l0.length l0) (hc0 : l0.length ≤ c0) (hck : checkV l0 = 0) (hg : nameL a1.data.toList = 0) (hh : l0.any (measP a1) = true) (hm : a1.data.toList ∉ recL l0) :
  Calls Try.prog 24 #[.slice A0 l0.length c0,.string a1] w fun e w' => e = .returned (.tuple #[.int .i64 0,.int .i64 0,.int .i64 14]) ∧ Below w.heap.size w w':=by
 obtain ⟨W4,hW4⟩ : ∃ W4,(((w.alloc (.cells #[.slice A0 l0.length c0] 22)).alloc (.cells #[.string a1] 9)).alloc (.cells #[.int .i64 0] 3)).alloc (.cells #[.int .i64 0] 3) = W4:=⟨_,rfl⟩
 have R0:=Aside0.mk (RB.start A0 c0 l0 a1 w W4 hW4)
 have k0:=R0.out.cells.1
 have HR0:=Aside0.mk hr0
 have HCK:=Aside0.mk (recall_Check.calls A0 c0 l0 0 _ (Kd.C_below hr0 R0.out.2.2.2.2) hc0 (congrArg some hck))
 have HN:=Aside0.mk (fun W => dimension_Name.calls a1 0 W (congrArg some hg))
 have HHS:=Aside0.mk (fun W (hR : RB w A0 c0 l0.length a1 (.int .i64 0) (.int .i64 0) W) => has_ok A0 c0 l0 a1 (w.heap.size + 1) W (Kd.C_below hr0 hR.2.2.2.2) (check_zero hck).1 hR.cells.2.1)
 rw [hh] at HHS
 have hm2 : a1.size ≤ maxLen:=by
  have:=nameL_len hg
  rw [Array.length_toList] at this
  unfold maxLen
  have h2 : a1.size = a1.data.size:=rfl
  omega
 have HLK:=Aside0.mk (fun (b : Nat) (W : World) (h2 : MapF Try.prog 9 W b 4096 (fSet (recL l0))) => (h2.look Try.underlying9 Try.underlying49 (Try.zeroValue4 W) hm2 false).trans (show _ = Result.ok (.bool false) W from by rw [if_neg (by decide)];unfold fSet;rw [if_neg hm];rfl))
 have HH:=Aside0.mk hck
 clear hr0 hg hck hh hm
 go_enter Try.func24,Try.ntmps24
 go_wp2_with (first | (go_at_call 16;refine HCK.out.mono ?_;rintro e w1 ⟨rfl,hb1⟩;have R1:=Aside0.mk (R0.out.below hb1);obtain ⟨u0,u1,u2,u3,u4,u5,u6⟩:=R1.out.cells;clear hb1 k0) | (go_at_call 49;refine (HN.out _).mono ?_;rintro e w2 ⟨rfl,hb2⟩;have R2:=Aside0.mk (R1.out.below hb2);clear u0 u1 u2 u3 u4 u5 u6;obtain ⟨u0,u1,u2,u3,u4,u5,u6⟩:=R2.out.cells;clear hb2) | (go_at_call 29;refine (HHS.out _ R2.out).mono ?_;rintro e w3 ⟨rfl,hb3⟩;have R3:=Aside0.mk (R2.out.below hb3);clear u0 u1 u2 u3 u4 u5 u6;obtain ⟨u0,u1,u2,u3,u4,u5,u6⟩:=R3.out.cells;clear hb3))
 go_region_with (go_at_call 41;refine (recalled_ok A0 c0 l0 _ (Kd.C_below HR0.out R3.out.drew.2.2.2.2) HH.out).mono ?_;rintro e w5 ⟨b,rfl,h1,h2,h3⟩;have R5:=Aside0.mk (R3.out.drew.below h3);clear u0 u1 u2 u3 u4 u5 u6;obtain ⟨u0,u1,u2,u3,u4,u5,u6⟩:=R5.out.cells;have hlk:=HLK.out b w5 h2;clear h1 h2 h3)
 all_goals
  go_wp2
  obtain ⟨t2,t3,t4⟩:=R5.out.zero (.int .i64 0) (.int .i64 0)
  refine bodyPost_ret (results_cct rfl _ _ rfl rfl t2 t3) rfl ?_
  exact ⟨rfl,t4⟩
end Go.Proofs.Ytnmmdeonkpfccaa.Pr
/- A region that draws its order and only reads, in a round of a range over a function. -/
set_option linter.unusedVariables false
namespace Go.Proofs.Ytnmmdeonkpfccaa.Rg
open Go Go.RowKit
theorem oper_round {F : Fence} {n : Nat} {P : Program} {o : Oper} {a : Act} {w : World} {K : Act → World → Prop} {Q : Exit → Act → World → Prop} (l : Nat) (hro : F.round = none) (hnd : ∀ c,o.op ≠ .defer c) (h : o.wpIn F n P a w K Q) : o.wpIn (F.inRound l) n P a w K Q:=by
 unfold Oper.wpIn at *
 refine ⟨h.1,?_⟩
 have h2:=h.2
 rw [hro,Oper.semAt_none] at h2
 rw [Oper.semAt_eq _ _ _ hnd]
 generalize (execOp a.eval o).run P w = r at *
 cases r with
 | ok x w' => cases x <;> exact h2
 | halt x w' => cases x <;> exact h2
theorem wpAnyIn_round {F : Fence} {n : Nat} {P : Program} {md : Region.Mode} {ops : Array Oper} {Q : Exit → Act → World → Prop} (l : Nat) (hro : F.round = none) (hnd : ∀ (i : Nat) (o : Oper),ops[i]? = some o → ∀ c,o.op ≠ .defer c) :
  ∀ (fuel : Nat) (listed : Array Bool) (a : Act) (w : World),wpAnyIn F n P md ops Q fuel listed a w → wpAnyIn (F.inRound l) n P md ops Q fuel listed a w
 | 0,_,_,_,h => h
 | fuel + 1,listed,a,w,h => ⟨h.1,fun i hi => by
   have h2:=wpOpIn_mono (fun a' w' h' => wpAnyIn_round l hro hnd fuel _ a' w' h') (h.2 i hi)
   unfold wpOpIn at *
   split
   ·rename_i ho;simp only [ho] at h2;exact h2
   ·rename_i o ho
    simp only [ho] at h2
    split
    ·rename_i hw;simp only [hw,if_true] at h2;exact oper_round l hro (hnd i o ho) h2
    ·rename_i hw;simp only [hw] at h2;exact h2⟩
/-- No operation of the list defers. -/
def noDefer (l : List Oper) : Bool:=l.all fun o => match o.op with | .defer _ => false | _ => true
theorem region_quiet_round {n : Nat} {P : Program} {r id : Nat} {Q : Exit → Act → World → Prop} {a : Act} {w : World} {l : List Oper} (hnd : noDefer l = true) (hm : P.follows .mixedOrders = true) (hB : Region.lexB .any l.toArray = true)
  (h : wpQuietIn Fence.wide n P l.toArray (fun w' => ∃ n,w' = w.drewN n) (fun a' => ∀ w',(∃ n,w' = w.drewN n) → Q .normal a' w') l a) : (Code.region id l.toArray true).wpIn (Fence.wide.inRound r) n P Q a w:=by
 simp only [Region.lexB,Bool.and_eq_true] at hB
 refine wpIn_region_any hm (wpAnyIn_round r rfl (fun i o ho c hc => ?_) _ _ _ _ (wpAnyIn_of_quiet (C:=fun w' => ∃ n,w' = w.drewN n) (Q:=fun a' => ∀ w',(∃ n,w' = w.drewN n) → Q .normal a' w') rfl (fun _ w' hw' h => h w' hw') _ _ _ _ ⟨1,rfl⟩ ?_))
 ·have hmem : o ∈ l:=by
   rw [List.getElem?_toArray] at ho
   exact List.mem_of_getElem? ho
  have:=(List.all_eq_true.1 hnd) o hmem
  rw [hc] at this
  cases this
 ·have:=wpAnyQIn_lex (F:=Fence.wide) (n:=n) (C:=fun w' => ∃ n,w' = w.drewN n) (md:=.any) hB.1 l 0 (Array.replicate l.toArray.size false) a (by simp) (by simpa using hB.2) h
  simpa using this
end Go.Proofs.Ytnmmdeonkpfccaa.Rg
/- The contract of recall.Reason: the main path. -/
set_option linter.unusedVariables false
namespace Go.Proofs.Ytnmmdeonkpfccaa.Pr
open Go.RowKit Go.Shelf Go.Maps Go.Proofs.YtnmmdeonkpfccaaW.PrintWords Go.Proofs.YtnmmdeonkpfccaaW.PrintLast Go.Proofs.YtnmmdeonkpfccaaW.PrintMore
open Go.Proofs.Ytnmmdeonkpfccaa.Rg
attribute [local go_sem] Oper.semAt_some

theorem RB.reads {w : World} {A0 : Option Addr} {c0 len : Nat} {a1 : ByteArray} {z2 z3 : Value} {W W' : World} {B : Nat} (h : RB w A0 c0 len a1 z2 z3 W) (hB : w.heap.size + 4 ≤ B) (hs : W.heap.size ≤ W'.heap.size) (h1 : W.os = W'.os) (h2 : W.tape = W'.tape) (h3 : W.output = W'.output) (h4 : ∀ i,i < B → W'.heap[i]? = W.heap[i]?) : RB w A0 c0 len a1 z2 z3 W' :=
 ⟨(h4 _ (by omega)).trans h.1,(h4 _ (by omega)).trans h.2.1,(h4 _ (by omega)).trans h.2.2.1,(h4 _ (by omega)).trans h.2.2.2.1,below_reads h.2.2.2.2 (by omega) hs h1 h2 h3 h4⟩
theorem RB.set {w : World} {A0 : Option Addr} {c0 len : Nat} {a1 : ByteArray} {z2 z3 : Value} {W : World} (h : RB w A0 c0 len a1 z2 z3 W) (u v : Value) :
  RB w A0 c0 len a1 u v ((W.setCell ⟨w.heap.size + 1 + 1,0,none⟩ u).setCell ⟨w.heap.size + 1 + 1 + 1,0,none⟩ v):=by
 obtain ⟨t2,t3⟩:=two_cells u v h.2.2.1 h.2.2.2.1
 refine ⟨?_,?_,t2,t3,(h.zero u v).2.2⟩
 ·rw [Below.heap_setCell _ _ _ _ (show w.heap.size ≠ w.heap.size + 1 + 1 + 1 by omega),Below.heap_setCell _ _ _ _ (show w.heap.size ≠ w.heap.size + 1 + 1 by omega)];exact h.1
 ·rw [Below.heap_setCell _ _ _ _ (show w.heap.size + 1 ≠ w.heap.size + 1 + 1 + 1 by omega),Below.heap_setCell _ _ _ _ (show w.heap.size + 1 ≠ w.heap.size + 1 + 1 by omega)];exact h.2.1
theorem RB.drewN {w : World} {A0 : Option Addr} {c0 len : Nat} {a1 : ByteArray} {z2 z3 : Value} {W : World} (h : RB w A0 c0 len a1 z2 z3 W) (n : Nat) : RB w A0 c0 len a1 z2 z3 (W.drewN n):=⟨h.1,h.2.1,h.2.2.1,h.2.2.2.1,pw_below_drewN h.2.2.2.2 n⟩

theorem wpIn_then {F : Fence} {n : Nat} {P : Program} {c : Code} {K : Act → World → Prop} {R : Exit → Act → World → Prop} {a : Act} {w : World} (h : c.wpIn F n P (Exit.then K (fun _ _ _ => False)) a w) : c.wpIn F n P (Exit.then K R) a w :=
 wpIn_mono h (fun e a w h => by cases e <;> first | exact h | exact h.elim)
set_option maxHeartbeats 4000000 in
set_option maxRecDepth 100000 in
theorem Reason_ok (A0 : Option Addr) (c0 : Nat) (l0 : List (S51)) (a1 : ByteArray) (w : World) (hr0 : Kd.C k51 w A0 l0.length l0) (hc0 : l0.length ≤ c0) (hck : checkV l0 = 0) (hg : nameL a1.data.toList = 0) (hh : l0.any (measP a1) = true) (hm : a1.data.toList ∈ recL l0) :
  Calls Try.prog 24 #[.slice A0 l0.length c0,.string a1] w fun e w' => e = .returned (.tuple #[.int .i64 (reasK l0 a1 l0.length).1,.int .i64 (reasK l0 a1 l0.length).2,.int .i64 0]) ∧ Below w.heap.size w w':=by
 obtain ⟨W4,hW4⟩ : ∃ W4,(((w.alloc (.cells #[.slice A0 l0.length c0] 22)).alloc (.cells #[.string a1] 9)).alloc (.cells #[.int .i64 0] 3)).alloc (.cells #[.int .i64 0] 3) = W4:=⟨_,rfl⟩
 have R0:=Aside0.mk (RB.start A0 c0 l0 a1 w W4 hW4)
 have k0:=R0.out.cells.1
 have HR0:=Aside0.mk hr0
 have HCK:=Aside0.mk (recall_Check.calls A0 c0 l0 0 _ (Kd.C_below hr0 R0.out.2.2.2.2) hc0 (congrArg some hck))
 have HN:=Aside0.mk (fun W => dimension_Name.calls a1 0 W (congrArg some hg))
 have HHS:=Aside0.mk (fun W (hR : RB w A0 c0 l0.length a1 (.int .i64 0) (.int .i64 0) W) => has_ok A0 c0 l0 a1 (w.heap.size + 1) W (Kd.C_below hr0 hR.2.2.2.2) (check_zero hck).1 hR.cells.2.1)
 rw [hh] at HHS
 have hm2 : a1.size ≤ maxLen:=by
  have:=nameL_len hg
  rw [Array.length_toList] at this
  unfold maxLen
  have h2 : a1.size = a1.data.size:=rfl
  omega
 obtain ⟨rr,hrr⟩ : ∃ rr,rr = true:=⟨_,rfl⟩
 have HRR:=Aside0.mk hrr
 have HLK:=Aside0.mk (fun (b : Nat) (W : World) (h2 : MapF Try.prog 9 W b 4096 (fSet (recL l0))) => (h2.look Try.underlying9 Try.underlying49 (Try.zeroValue4 W) hm2 false).trans (show _ = Result.ok (.bool rr) W from by rw [if_neg (by decide)];unfold fSet;rw [if_pos hm,hrr];rfl))
 have HH:=Aside0.mk hck
 obtain ⟨hl,hnx⟩:=check_zero hck
 have HG:=Aside0.mk (show ∀ x ∈ l0,x.f1.size ≤ 24 from fun x hx => (namesX_zero (hnx x hx)).2.1)
 have HLT:=Aside0.mk (slice_lt hr0)
 have hf16 : Fence.wide.fn 16:=trivial
 have hf49 : Fence.wide.fn 49:=trivial
 have hf29 : Fence.wide.fn 29:=trivial
 have hf41 : Fence.wide.fn 41:=trivial
 have hf38 : Fence.wide.fn 38:=trivial
 clear hr0 hg hck hh hm hnx hrr
 refine (callsIn_wide (n:=3)).1 ?_
 refine callsIn_of_wp_marks Try.func24 rfl trivial ?_ rfl
 simp only [Try.ntmps24,List.size_toArray,List.length_cons,List.length_nil,Nat.reduceAdd,Nat.reduceSub,Array.replicate_succ,Array.replicate_zero,List.push_toArray,List.append_toArray,List.nil_append,List.cons_append]
 gi_wp2_with (first | ((first | refine ⟨fun h => absurd h (by decide),?_⟩ | skip);gi_at_call 16;refine (callsIn_wide.2 HCK.out).mono ?_;rintro e w1 ⟨rfl,hb1⟩;have R1:=Aside0.mk (R0.out.below hb1);obtain ⟨u0,u1,u2,u3,u4,u5,u6⟩:=R1.out.cells;clear hb1 k0) | ((first | refine ⟨fun h => absurd h (by decide),?_⟩ | skip);gi_at_call 49;refine (callsIn_wide.2 (HN.out _)).mono ?_;rintro e w2 ⟨rfl,hb2⟩;have R2:=Aside0.mk (R1.out.below hb2);clear u0 u1 u2 u3 u4 u5 u6;obtain ⟨u0,u1,u2,u3,u4,u5,u6⟩:=R2.out.cells;clear hb2) | ((first | refine ⟨fun h => absurd h (by decide),?_⟩ | skip);gi_at_call 29;refine (callsIn_wide.2 (HHS.out _ R2.out)).mono ?_;rintro e w3 ⟨rfl,hb3⟩;have R3:=Aside0.mk (R2.out.below hb3);clear u0 u1 u2 u3 u4 u5 u6;obtain ⟨u0,u1,u2,u3,u4,u5,u6⟩:=R3.out.cells;clear hb3))
 refine wpIn_then ?_
 refine wpIn_wide.2 ?_
 go_region_with (go_at_call 41;refine (recalled_ok A0 c0 l0 _ (Kd.C_below HR0.out R3.out.drew.2.2.2.2) HH.out).mono ?_;rintro e w5 ⟨b,rfl,h1,h2,h3⟩;have R5:=Aside0.mk (R3.out.drew.below h3);clear u0 u1 u2 u3 u4 u5 u6;obtain ⟨u0,u1,u2,u3,u4,u5,u6⟩:=R5.out.cells;have hlk:=HLK.out b w5 h2;clear h1 h2 h3)
 all_goals clear hlk HLK HHS HN HCK
 all_goals obtain rfl:=HRR.out
 all_goals clear HRR
 all_goals gi_wp2_with ((first | refine ⟨fun h => absurd h (by decide),?_⟩ | skip);gi_at_call 38;refine (states_in _ A0 c0 l0.length _).mono ?_;rintro e w' ⟨rfl,rfl⟩)
 all_goals
  obtain ⟨Wl,hWl⟩ : ∃ Wl,w5.alloc (Obj.cells #[Value.slice A0 l0.length c0] 22) = Wl:=⟨_,rfl⟩
  have hb5:=R5.out.2.2.2.1
  have hsz5:=(Array.getElem?_eq_some_iff.1 hb5).1
  have hsl : Wl.heap.size = w5.heap.size + 1:=by rw [← hWl];simp
  have hbl : Below w5.heap.size w5 Wl:=by rw [← hWl];exact (Below.refl _ w5).alloc (Nat.le_refl _) _
  have RL:=Aside0.mk (R5.out.below hbl)
  have hL0 : Wl.cell? ⟨w5.heap.size,0,none⟩ = some (.slice A0 l0.length c0):=by
   rw [← hWl]
   exact (blk_cell (blk_new w5 (Obj.cells #[Value.slice A0 l0.length c0] 22)) 0).trans rfl
  rw [hWl]
  clear hWl hb5 u0 u1 u2 u3 u4 u5 u6 hf16 hf49 hf29 hf41 hf38
  refine rangeB2 (gf:=64) (lb:=#[.pointer (some ⟨w5.heap.size,0,none⟩)]) rfl (enters_of Try.func64 (by kernel_rfl) rfl) (fun i => i = w.heap.size + 2 ∨ i = w.heap.size + 3) (fun i hi => by omega)
   (states_seq _ A0 c0 w5.heap.size l0 Wl hl HG.out (Kd.C_below HR0.out RL.out.2.2.2.2) (fun ad ha hne h => by have:=HLT.out ad ha hne;omega) (fun ad ha hne => by have:=HLT.out ad ha hne;omega) hL0 (fun h => by omega)) (fun _ => rfl)
   (fun pre Wr => ∃ (k : Nat),k ≤ l0.length ∧ pre = statK l0 k ∧ RB w A0 c0 l0.length a1 (.int .i64 (reasK l0 a1 k).1) (.int .i64 (reasK l0 a1 k).2) Wr)
   ?hI ⟨0,by omega,rfl,RL.out⟩ ?round ?done
  case hI =>
   rintro pre Wr Wr' ⟨k,hk,hp,hr⟩ hsz hsz2 h1 h2 h3 h4
   exact ⟨k,hk,hp,hr.reads (by omega) hsz2 h1 h2 h3 h4⟩
  case round =>
   rintro m pre ⟨i,a,s⟩ Wr hI hsz hpf
   have HI:=Aside0.mk hI
   clear hI hpf hL0 hbl
   simp only [encS,pairV]
   gi_wp2
   obtain ⟨k,hk,hp,hr⟩:=HI.out
   refine ⟨(KeepC.refl _ _).alloc _,⟨k,hk,hp,hr.below ((Below.refl _ Wr).alloc (Nat.le_refl _) _)⟩,?_⟩
   clear k hk hp hr
   rintro m2 pre2 W2 hone ⟨k,hk,hp,hr⟩ hsz2 ⟨k',hk',hpk⟩
   obtain ⟨rfl,hx⟩:=statK_next hp hpk
   simp only [Prod.mk.injEq] at hx
   obtain ⟨hi,hc⟩:=hx
   have hcs : s = (chkA l0 k).2:=by rw [← hc]
   have hca : a = (chkA l0 k).1:=by rw [← hc]
   have hbx : W2.heap[Wr.heap.size]? = some (.cells #[.int .i64 a,.int .i64 s] 65):=(hone.2.2.2.2 _ (by omega)).trans (blk_new _ _)
   have hc0' : W2.cell? ⟨Wr.heap.size,0,none⟩ = some (.int .i64 a):=(blk_cell hbx 0).trans rfl
   have hc1 : W2.cell? ⟨Wr.heap.size,1,none⟩ = some (.int .i64 s):=(blk_cell hbx 1).trans rfl
   have hi0 : 0 ≤ i:=by rw [hi];omega
   have hi1 : i < (l0.length : Int):=by rw [hi];omega
   obtain ⟨x,hx⟩ : ∃ x,x = evK l0 k:=⟨_,rfl⟩
   have hrd : rd_T51 l0 i = x:=by unfold rd_T51;rw [hx,hi];unfold evK;congr 1;omega
   obtain ⟨ad,e1,hx0,hx1,hx2,hx3⟩:=at_T51 HR0.out i hi0 hi1
   have HA:=Aside0.mk e1
   rw [hrd] at hx0 hx1 hx2 hx3
   replace hx0:=(hr.2.2.2.2.cell (World.block_lt_of_cell? w _ hx0)).trans hx0
   replace hx2:=(hr.2.2.2.2.cell (World.block_lt_of_cell? w _ hx2)).trans hx2
   have HP:=Aside0.mk hpk
   have HR:=Aside0.mk hr
   obtain ⟨u0,u1,u2,u3,u4,u5,u6⟩:=HR.out.cells
   have HKS:=Aside0.mk (show reasK l0 a1 (k + 1) = if x.f0 = 0 ∧ x.f2.data.toList = a1.data.toList ∧ s = 3 then (i,a) else reasK l0 a1 k from by rw [hcs,hx,hi,hca];rfl)
   have FIN:=Aside0.mk (show ∀ W',RB w A0 c0 l0.length a1 (.int .i64 (reasK l0 a1 (k + 1)).1) (.int .i64 (reasK l0 a1 (k + 1)).2) W' → KeepC (fun i => i = w.heap.size + 2 ∨ i = w.heap.size + 3) W2 W' →
     KeepC (fun i => i = w.heap.size + 2 ∨ i = w.heap.size + 3) W2 W' ∧ ∃ k,k ≤ l0.length ∧ pre2 ++ [(i,a,s)] = statK l0 k ∧ RB w A0 c0 l0.length a1 (.int .i64 (reasK l0 a1 k).1) (.int .i64 (reasK l0 a1 k).2) W' from fun W' h1 h2 => ⟨h2,k + 1,hk',HP.out,h1⟩)
   clear hr hpk hcs hca hi hc hp hbx hone HI hx hrd hx1 hx3
   by_cases k0 : x.f0 = 0
   ·rw [k0] at hx0
    by_cases k2 : x.f2.data.toList = a1.data.toList
    ·have he : x.f2.toList = a1.toList:=by rw [ByteArray.toList_eq,ByteArray.toList_eq];exact k2
     have he1 : (x.f2.toList == a1.toList) = true:=beq_iff_eq.mpr he
     have he2 : decide (x.f2.toList = a1.toList) = true:=decide_eq_true he
     by_cases k3 : s = 3
     ·have HK2:=Aside0.mk (HKS.out.trans (if_pos ⟨k0,k2,k3⟩))
      rw [k3] at hc1
      clear k0 k2 k3 he
      gi_wp2
      refine region_quiet_round rfl (by kernel_rfl) (by kernel_rfl) ?_
      repeat (gi_big_quiet_step (fail))
      refine wpQuietIn_nil ?_
      intro _ hw'
      obtain ⟨nq,hw''⟩:=hw'
      subst hw''
      gi_wp2
      gi_region
      all_goals exact FIN.out _ (by rw [HK2.out];exact (HR.out.drewN _).set _ _) (KeepC.setCell (C:=fun i => i = w.heap.size + 2 ∨ i = w.heap.size + 3) (X:=W2) (p:=⟨w.heap.size + 1 + 1 + 1,0,none⟩) (KeepC.setCell (C:=fun i => i = w.heap.size + 2 ∨ i = w.heap.size + 3) (X:=W2) (Y:=W2.drewN (nq + 1)) (p:=⟨w.heap.size + 1 + 1,0,none⟩) ⟨Nat.le_refl _,fun _ _ _ => rfl⟩ (.inr (.inl rfl)) _) (.inr (.inr rfl)) _)
     ·have k3b : (s == 3) = false:=beq_eq_false_iff_ne.mpr k3
      have HK2:=Aside0.mk (HKS.out.trans (if_neg (fun h => k3 h.2.2)))
      clear k0 k2 k3 he
      gi_wp2
      refine region_quiet_round rfl (by kernel_rfl) (by kernel_rfl) ?_
      repeat (gi_big_quiet_step (fail))
      refine wpQuietIn_nil ?_
      intro _ hw'
      obtain ⟨nq,hw''⟩:=hw'
      subst hw''
      gi_wp2
      exact FIN.out _ (by rw [HK2.out];exact HR.out.drewN _) ⟨Nat.le_refl _,fun _ _ _ => rfl⟩
    ·have he : ¬ x.f2.toList = a1.toList:=by rw [ByteArray.toList_eq,ByteArray.toList_eq];exact k2
     have he1 : (x.f2.toList == a1.toList) = false:=beq_eq_false_iff_ne.mpr he
     have he2 : decide (x.f2.toList = a1.toList) = false:=decide_eq_false he
     have HK2:=Aside0.mk (HKS.out.trans (if_neg (fun h => k2 h.2.1)))
     clear k0 k2 he
     gi_wp2
     refine region_quiet_round rfl (by kernel_rfl) (by kernel_rfl) ?_
     repeat (gi_big_quiet_step (fail))
     refine wpQuietIn_nil ?_
     intro _ hw'
     obtain ⟨nq,hw''⟩:=hw'
     subst hw''
     gi_wp2
     exact FIN.out _ (by rw [HK2.out];exact HR.out.drewN _) ⟨Nat.le_refl _,fun _ _ _ => rfl⟩
   ·have k0b : (x.f0 == 0) = false:=beq_eq_false_iff_ne.mpr k0
    have HK2:=Aside0.mk (HKS.out.trans (if_neg (fun h => k0 h.1)))
    clear k0
    gi_wp2
    refine region_quiet_round rfl (by kernel_rfl) (by kernel_rfl) ?_
    repeat (gi_big_quiet_step (fail))
    refine wpQuietIn_nil ?_
    intro _ hw'
    obtain ⟨nq,hw''⟩:=hw'
    subst hw''
    gi_wp2
    exact FIN.out _ (by rw [HK2.out];exact HR.out.drewN _) ⟨Nat.le_refl _,fun _ _ _ => rfl⟩
  case done =>
   rintro xs W' rfl ⟨k,hk,hp,hr⟩ hK hsz
   obtain rfl:=statK_inj hp
   have HR:=Aside0.mk hr
   obtain ⟨u0,u1,u2,u3,u4,u5,u6⟩:=HR.out.cells
   clear hr hL0 hbl hp
   gi_wp2
   gi_region
   all_goals gi_wp2
   all_goals
    have hD:=(Array.getElem?_eq_some_iff.1 hK).1
    have hK2 : (((W'.setCell ⟨w.heap.size + 1 + 1,0,none⟩ (.int .i64 (reasK l0 a1 l0.length).1)).setCell ⟨w.heap.size + 1 + 1 + 1,0,none⟩ (.int .i64 (reasK l0 a1 l0.length).2)).drew).heap[Wl.heap.size]? = some (.deferred (some [])) :=
     (Below.heap_setCell _ _ _ _ (show Wl.heap.size ≠ w.heap.size + 1 + 1 + 1 by omega)).trans ((Below.heap_setCell _ _ _ _ (show Wl.heap.size ≠ w.heap.size + 1 + 1 by omega)).trans hK)
    have RF:=((HR.out.set (.int .i64 (reasK l0 a1 l0.length).1) (.int .i64 (reasK l0 a1 l0.length).2)).drew).reads (W':=((((W'.setCell ⟨w.heap.size + 1 + 1,0,none⟩ (.int .i64 (reasK l0 a1 l0.length).1)).setCell ⟨w.heap.size + 1 + 1 + 1,0,none⟩ (.int .i64 (reasK l0 a1 l0.length).2)).drew).putObj Wl.heap.size (.deferred none))) (B:=Wl.heap.size) (by omega) (by simp) rfl rfl rfl (fun i hi => World.putObj_heap_other (by omega))
    refine ⟨by simp,.inl ⟨_,_,rfl,run_takeDeferred hK2,?_⟩⟩
    obtain ⟨_,_,z2,_,z3,_,_⟩:=RF.cells
    exact ⟨_,results_cct (fn:=Try.f24) rfl _ _ rfl rfl z2 z3,rfl,RF.2.2.2.2⟩
theorem recall_Reason.calls (A0 : Option Addr) (c0 : Nat) (l0 : List (S51)) (a1 : ByteArray) (r1 : Int) (r2 : Int) (r3 : Int) (w : World) (hr0 : Kd.C k51 w A0 l0.length l0) (hc0 : l0.length ≤ c0) (h : recall_Reason.f l0 a1 = some (r1,r2,r3)) :
  Calls Try.prog 24 #[.slice A0 l0.length c0,.string a1] w fun e w' => e = .returned (.tuple #[.int .i64 r1,.int .i64 r2,.int .i64 r3]) ∧ Below w.heap.size w w':=by
 have e:=Option.some.inj h
 unfold reasonV at e
 split at e
 ·rename_i hg
  cases e
  exact Reason_err1 A0 c0 l0 a1 _ w hr0 hc0 rfl hg
 ·rename_i hg
  have hg0 : checkV l0 = 0:=Classical.byContradiction hg
  split at e
  ·rename_i hn
   cases e
   exact Reason_err2 A0 c0 l0 a1 _ w hr0 hc0 hg0 rfl hn
  ·rename_i hn
   have hn0 : nameL a1.data.toList = 0:=Classical.byContradiction hn
   split at e
   ·rename_i hh
    cases e
    exact Reason_err3 A0 c0 l0 a1 w hr0 hc0 hg0 hn0 hh
   ·rename_i hh
    have hh0 : l0.any (measP a1) = true:=by cases hb : l0.any (measP a1) with | true => rfl | false => exact absurd hb hh
    split at e
    ·rename_i hm
     cases e
     exact Reason_err4 A0 c0 l0 a1 w hr0 hc0 hg0 hn0 hh0 hm
    ·rename_i hm
     cases e
     exact Reason_ok A0 c0 l0 a1 w hr0 hc0 hg0 hn0 hh0 (Classical.byContradiction hm)
end Go.Proofs.Ytnmmdeonkpfccaa.Pr
/- The contract of recall.AtRisk. -/
set_option linter.unusedVariables false
namespace Go.Proofs.Ytnmmdeonkpfccaa.Pr
open Go.RowKit Go.Shelf Go.Maps Go.Proofs.YtnmmdeonkpfccaaW.PrintWords Go.Proofs.YtnmmdeonkpfccaaW.PrintLast Go.Proofs.YtnmmdeonkpfccaaW.PrintMore
open Go.Proofs.Ytnmmdeonkpfccaa.Rg

def riskP (g : ByteArray) (x : S51) (s : Int) : Bool:=s == 3 || (s == 1 && decide (x.f1.data.toList = g.data.toList))

set_option maxHeartbeats 1000000 in
set_option maxRecDepth 100000 in
theorem judges54 (g : ByteArray) (Bg : Nat) (w : World) (hb : w.cell? ⟨Bg,0,none⟩ = some (.string g)) : Judges 54 #[.pointer (some ⟨Bg,0,none⟩)] (riskP g) w:=by
 intro W x s hW
 show Calls Try.prog 54 #[.agg #[.int .i64 x.f0,.string x.f1,.string x.f2,.string x.f3],.int .i64 s,.pointer (some ⟨Bg,0,none⟩)] W _
 have hbl:=World.block_lt_of_cell? w _ hb
 have hbW : W.cell? ⟨Bg,0,none⟩ = some (.string g):=(hW.cell (p:=⟨Bg,0,none⟩) hbl).trans hb
 have hbB : ∀ o : Obj,(W.alloc o).cell? ⟨Bg,0,none⟩ = some (.string g):=fun o => (((Below.refl _ W).alloc (Nat.le_refl _) o).cell (p:=⟨Bg,0,none⟩) (Nat.lt_of_lt_of_le hbl hW.size)).trans hbW
 have HB:=Aside0.mk (show ∀ o : Obj,Below W.heap.size W (W.alloc o) from fun o => (Below.refl _ W).alloc (Nat.le_refl _) o)
 by_cases h3 : s = 3
 ·subst h3
  have hr : riskP g x 3 = true:=rfl
  rw [hr]
  go_enter Try.func54,Try.ntmps54
  go_wp2
  go_ret
  exact ⟨rfl,HB.out _⟩
 ·have h3b : (s == 3) = false:=beq_eq_false_iff_ne.mpr h3
  by_cases h1 : s = 1
  ·subst h1
   obtain ⟨r,hr⟩ : ∃ r,r = decide (x.f1.data.toList = g.data.toList):=⟨_,rfl⟩
   have hrr : riskP g x 1 = r:=by rw [hr];rfl
   rw [hrr]
   have he : (x.f1.toList == g.toList) = r:=by rw [hr,ByteArray.toList_eq,ByteArray.toList_eq];exact Bool.eq_iff_iff.2 (by simp)
   have he2 : decide (x.f1.toList = g.toList) = r:=by rw [hr,ByteArray.toList_eq,ByteArray.toList_eq]
   clear hr hrr h3 h3b
   go_enter Try.func54,Try.ntmps54
   go_wp2
   go_ret
   exact ⟨rfl,HB.out _⟩
  ·have h1b : (s == 1) = false:=beq_eq_false_iff_ne.mpr h1
   have hr : riskP g x s = false:=by unfold riskP;rw [h3b,h1b];rfl
   rw [hr]
   clear h3 h1
   go_enter Try.func54,Try.ntmps54
   go_wp2
   go_ret
   exact ⟨rfl,HB.out _⟩

def riskL (l : List S51) (g : ByteArray) : List (List UInt8):=(keptL (riskP g) l).filter fun q => !decide (q ∈ recL l)
def atRiskV (l : List S51) (g : ByteArray) : List ByteArray × Int:=if checkV l ≠ 0 then ([],checkV l) else if nameL g.data.toList ≠ 0 then ([],nameL g.data.toList) else (strs (riskL l g),0)
def recall_AtRisk.f (l : List S51) (g : ByteArray) : Option (List ByteArray × Int):=some (atRiskV l g)
set_option maxHeartbeats 1000000 in
set_option maxRecDepth 100000 in
theorem recall_AtRisk.calls (A0 : Option Addr) (c0 : Nat) (l0 : List (S51)) (a1 : ByteArray) (r1 : List ByteArray) (r2 : Int) (w : World) (hr0 : Kd.C k51 w A0 l0.length l0) (hc0 : l0.length ≤ c0) (h : recall_AtRisk.f l0 a1 = some (r1,r2)) :
  Calls Try.prog 26 #[.slice A0 l0.length c0,.string a1] w fun e w' => ∃ v0_ : Value,e = .returned (.tuple #[v0_,.int .i64 r2]) ∧ Kd.R Kd.string 9 w' w.heap.size (fun _ => True) v0_ r1 ∧ Below w.heap.size w w':=by
 have e:=Option.some.inj h
 clear h
 have hb0 : Below w.heap.size w (w.alloc (.cells #[.string a1] 9)):=(Below.refl _ w).alloc (Nat.le_refl _) _
 have HB0:=Aside0.mk hb0
 have HR0:=Aside0.mk hr0
 obtain ⟨g,hg⟩ : ∃ g,g = checkV l0:=⟨_,rfl⟩
 have HCK:=Aside0.mk (recall_Check.calls A0 c0 l0 g _ (Kd.C_below hr0 hb0) hc0 (congrArg some hg.symm))
 by_cases hck : g = 0
 ·subst hck
  obtain ⟨nm,hnm⟩ : ∃ nm,nm = nameL a1.data.toList:=⟨_,rfl⟩
  have HN:=Aside0.mk (fun W => dimension_Name.calls a1 nm W (congrArg some hnm.symm))
  by_cases hn : nm = 0
  ·subst hn
   have hr : r1 = strs (riskL l0 a1) ∧ r2 = 0:=by unfold atRiskV at e;rw [← hg,← hnm,if_neg (by decide),if_neg (by decide)] at e;cases e;exact ⟨rfl,rfl⟩
   obtain ⟨rfl,rfl⟩:=hr
   obtain ⟨hl,hnx⟩:=check_zero hg.symm
   have HH:=Aside0.mk hg.symm
   have HNX:=Aside0.mk hnx
   clear e hg hnm hr0 hb0 hnx
   go_enter Try.func26,Try.ntmps26
   go_wp2_with (first | (go_at_call 16;refine HCK.out.mono ?_;rintro e w1 ⟨rfl,hb1⟩;have HB1:=Aside0.mk hb1;have hg1 : w1.cell? ⟨w.heap.size,0,none⟩ = some (.string a1):=(blk_cell (blk_below (blk_new w (.cells #[.string a1] 9)) hb1) 0).trans rfl;clear hb1) | (go_at_call 49;refine (HN.out _).mono ?_;rintro e w2 ⟨rfl,hb2⟩;have HB2:=Aside0.mk hb2;have HG2:=Aside0.mk ((hb2.cell (p:=⟨w.heap.size,0,none⟩) (World.block_lt_of_cell? w1 _ hg1)).trans hg1);clear hb2 hg1) | (go_at_call 41;refine (recalled_ok A0 c0 l0 _ (Kd.C_below (Kd.C_below (Kd.C_below HR0.out HB0.out) HB1.out) HB2.out) HH.out).mono ?_;rintro e w3 ⟨b,rfl,h1,h2,h3⟩;have H1:=Aside0.mk h1;have H2:=Aside0.mk h2;have H3:=Aside0.mk h3;clear h1 h2 h3))
   have hb4 : Below w3.heap.size w3 (w3.alloc (.cells #[.map (some b)] 49)):=(Below.refl _ w3).alloc (Nat.le_refl _) _
   have hsz0:=HB1.out.size
   rw [World.size_alloc] at hsz0
   have hb14 : Below w.heap.size w (w3.alloc (.cells #[.map (some b)] 49)):=(((HB0.out.trans (HB1.out.mono HB0.out.size)).trans (HB2.out.mono (by omega))).trans (H3.out.mono (by have:=HB2.out.size;omega))).trans (hb4.mono (by have:=HB2.out.size;have:=H3.out.size;omega))
   have HB14:=Aside0.mk hb14
   have hgg : (w3.alloc (.cells #[.map (some b)] 49)).cell? ⟨w.heap.size,0,none⟩ = some (.string a1):=(hb4.cell (p:=⟨w.heap.size,0,none⟩) (show w.heap.size < w3.heap.size by have:=HB2.out.size;have:=H3.out.size;omega)).trans ((H3.out.cell (p:=⟨w.heap.size,0,none⟩) (World.block_lt_of_cell? w2 _ HG2.out)).trans HG2.out)
   have HKP:=Aside0.mk (kept_ok A0 c0 l0 54 #[.pointer (some ⟨w.heap.size,0,none⟩)] (riskP a1) _ (Kd.C_below HR0.out hb14) hl (fun x hx => (namesX_zero (HNX.out x hx)).2.1) (fun x hx => (namesX_zero (HNX.out x hx)).2.2.1) (enters_of Try.func54 (by kernel_rfl) rfl) (judges54 a1 w.heap.size _ hgg))
   have HBX:=Aside0.mk (show (w3.alloc (.cells #[.map (some b)] 49)).heap[w3.heap.size]? = some (.cells #[.map (some b)] 49) from blk_new _ _)
   have hbl:=H2.out.lt
   have HM3:=Aside0.mk (H2.out.alloc (.cells #[.map (some b)] 49))
   clear hb14 hb4 hgg
   go_wp2_with (first | (go_at_call 53;refine HKP.out.mono ?_;rintro e w4 ⟨b2,rfl,h1,h2,h3⟩;have K1:=Aside0.mk h1;have K2:=Aside0.mk h2;have K3:=Aside0.mk h3;have HDL:=Aside0.mk (delete_ok 56 (enters_of Try.func56 (by kernel_rfl) rfl) never56 b2 4096 w3.heap.size b 4096 _ _ w4 h2 ((blk_cell (blk_below HBX.out h3) 0).trans rfl) (HM3.out.below h3) (by rw [World.size_alloc] at h1;omega) (by rw [World.size_alloc] at h1;omega));clear h1 h2 h3) | (go_at_call 55;refine HDL.out.mono ?_;rintro e w5 ⟨rfl,h1,h2⟩;have D1:=Aside0.mk h1;have D2:=Aside0.mk h2;clear h1 h2) | (go_at_call 40;refine (sorted_ok b2 4096 _ _ D1.out (by omega)).mono ?_;rintro e w6 ⟨v,rfl,h4,h5⟩;have H4:=Aside0.mk h4;have H5:=Aside0.mk h5;clear h4 h5))
   go_ret2
   have hx:=K1.out
   rw [World.size_alloc] at hx
   have hb5 : Below w.heap.size w w5:=(HB14.out.trans (K3.out.mono HB14.out.size)).grown D2.out (by have:=HB14.out.size;have:=K3.out.size;omega) (fun k e => by cases e;have:=HB14.out.size;rw [World.size_alloc] at this;omega)
   exact ⟨_,rfl,R_base H4.out hb5.size,hb5.trans (H5.out.mono hb5.size)⟩
  ·have hr : r1 = [] ∧ r2 = nm:=by unfold atRiskV at e;rw [← hg,← hnm,if_neg (by decide),if_pos hn] at e;cases e;exact ⟨rfl,rfl⟩
   obtain ⟨rfl,rfl⟩:=hr
   have hn1 : (r2 != 0) = true:=bne_iff_ne.mpr hn
   have hn2 : (r2 == 0) = false:=beq_eq_false_iff_ne.mpr hn
   clear e hg hnm hr0 hb0 hn
   go_enter Try.func26,Try.ntmps26
   go_wp2_with (first | (go_at_call 16;refine HCK.out.mono ?_;rintro e w1 ⟨rfl,hb1⟩;have HB1:=Aside0.mk hb1;have hg1 : w1.cell? ⟨w.heap.size,0,none⟩ = some (.string a1):=(blk_cell (blk_below (blk_new w (.cells #[.string a1] 9)) hb1) 0).trans rfl;clear hb1) | (go_at_call 49;refine (HN.out _).mono ?_;rintro e w2 ⟨rfl,hb2⟩;have HB2:=Aside0.mk hb2;clear hb2))
   go_ret2
   have hx:=HB0.out.trans (HB1.out.mono HB0.out.size)
   exact ⟨_,rfl,Kd.R_nil _ _ _ _ _,hx.trans (HB2.out.mono hx.size)⟩
 ·have hr : r1 = [] ∧ r2 = g:=by unfold atRiskV at e;rw [← hg,if_pos hck] at e;cases e;exact ⟨rfl,rfl⟩
  obtain ⟨rfl,rfl⟩:=hr
  have hg1 : (r2 != 0) = true:=bne_iff_ne.mpr hck
  have hg2 : (r2 == 0) = false:=beq_eq_false_iff_ne.mpr hck
  clear e hg hck hr0 hb0
  go_enter Try.func26,Try.ntmps26
  go_wp2_with (go_at_call 16;refine HCK.out.mono ?_;rintro e w1 ⟨rfl,hb1⟩;have HB1:=Aside0.mk hb1;clear hb1)
  go_ret2
  exact ⟨_,rfl,Kd.R_nil _ _ _ _ _,HB0.out.trans (HB1.out.mono HB0.out.size)⟩
end Go.Proofs.Ytnmmdeonkpfccaa.Pr
