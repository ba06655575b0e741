/- The statement is proved as it is given, without a condition of ours. -/
import Derived.Test.YtnmmdeonkpfccaaB1
import Derived.Test.YtnmmdeonkpfccaaB3
import Derived.Test.YtnmmdeonkpfccaaB2
import Derived.Test.YtnmmdeonkpfccaaB4
import Derived.Test.YtnmmdeonkpfccaaB5
import Derived.Test.YtnmmdeonkpfccaaB6
import Derived.Deep.Slices
import Derived.Deep.Fields
import Derived.ChangeSame
import Derived.SizedLaws
import Derived.Test.YtnmmdeonkpfccaaRows
import Derived.WalkKit
import Derived.ProofKit
import Derived.OpenShut
import Derived.ShutString
import Derived.ChangeOld
import Derived.Below
namespace Go.Proofs.Ytnmmdeonkpfccaa.Pr
open Go.RowKit Go.Proofs.YtnmmdeonkpfccaaW.PrintWords Go.Proofs.YtnmmdeonkpfccaaW.PrintLast Go.Proofs.YtnmmdeonkpfccaaW.PrintMore
attribute [local go_sem] max2_int min2_int max_two min_two max_three min_three max_four min_four
set_option linter.unusedVariables false
set_option linter.unusedSimpArgs false

/-! ### metrolabref53_Reason: function 25 -/
def metrolabref53_Reason.f (k : Nat) (l0 : List (S67)) (a1 : ByteArray) : Option (Int × Int × Int):=(metrolabref53_Check.f k l0).bind fun t269 => (if t269 = 0 then ((metrolabref17_Name.f k a1).bind fun t270 => (if t270 = 0 then ((metrolabref53_Measured.f k l0 a1).bind fun t271 => (if t271 = true then ((metrolabref53_Recalled.f k l0 a1).bind fun t272 => (if t272 = true then ((metrolabref53_First.f k l0 a1 3).bind fun t273 => ((metrolabref53_Next.f k l0 t273).bind fun t274 => (some (t273,t274,0)))) else (some (0,0,14)))) else (some (0,0,6)))) else (some (0,0,t270)))) else (some (0,0,t269)))
theorem metrolabref53_Reason.mono : ∀ a0 a1 k,LeO (metrolabref53_Reason.f k a0 a1) (metrolabref53_Reason.f (k + 1) a0 a1):=by
 intro a0 a1 k
 unfold metrolabref53_Reason.f
 repeat' first
   | (with_reducible exact metrolabref17_Name.mono _ _)
   | (with_reducible exact metrolabref53_Check.mono _ _)
   | (with_reducible exact metrolabref53_First.mono _ _ _ _)
   | (with_reducible exact metrolabref53_Measured.mono _ _ _)
   | (with_reducible exact metrolabref53_Next.mono _ _ _)
   | (with_reducible exact metrolabref53_Recalled.mono _ _ _)
   | (with_reducible exact LeO.refl _)
   | (with_reducible exact LeO.none _)
   | (with_reducible refine LeO.ite ?_ ?_)
   | (with_reducible refine LeO.bind ?_ (fun _ => ?_))
   | exact metrolabref17_Name.mono _ _
   | exact metrolabref53_Check.mono _ _
   | exact metrolabref53_First.mono _ _ _ _
   | exact metrolabref53_Measured.mono _ _ _
   | exact metrolabref53_Next.mono _ _ _
   | exact metrolabref53_Recalled.mono _ _ _
   | exact LeO.none _
   | refine LeO.ite ?_ ?_
   | refine LeO.bind ?_ (fun _ => ?_)
set_option maxHeartbeats 8000000 in
set_option maxRecDepth 100000 in
theorem metrolabref53_Reason.calls (k : Nat) (A0 : Option Addr) (c0 : Nat) (l0 : List (S67)) (a1 : ByteArray) (r1 : Int) (r2 : Int) (r3 : Int) (w : World) (hr0 : Kd.C k67 w A0 l0.length l0) (hc0 : l0.length ≤ c0) (h : metrolabref53_Reason.f k l0 a1 = some (r1,r2,r3)) :
  Calls Try.prog 25 #[.slice A0 l0.length c0,.string a1] w fun e w' => e = .returned (.tuple #[.int .i64 r1,.int .i64 r2,.int .i64 r3]) ∧ Below w.heap.size w w':=by
 have HR0:=Aside0.mk hr0
 have HC0:=Aside0.mk hc0
 clear hr0 hc0
 have HB:=Aside0.mk (Below.refl w.heap.size w)
 have H : ((metrolabref53_Check.f k l0).bind fun t269 => (if t269 = 0 then ((metrolabref17_Name.f k a1).bind fun t270 => (if t270 = 0 then ((metrolabref53_Measured.f k l0 a1).bind fun t271 => (if t271 = true then ((metrolabref53_Recalled.f k l0 a1).bind fun t272 => (if t272 = true then ((metrolabref53_First.f k l0 a1 3).bind fun t273 => ((metrolabref53_Next.f k l0 t273).bind fun t274 => (some (t273,t274,0)))) else (some (0,0,14)))) else (some (0,0,6)))) else (some (0,0,t270)))) else (some (0,0,t269)))) = some (r1,r2,r3):=h
 clear h
 replace H:=Option.bind_eq_some_iff.mp H
 obtain ⟨t269,A30,H⟩:=H
 replace H : (if t269 = 0 then ((metrolabref17_Name.f k a1).bind fun t270 => (if t270 = 0 then ((metrolabref53_Measured.f k l0 a1).bind fun t271 => (if t271 = true then ((metrolabref53_Recalled.f k l0 a1).bind fun t272 => (if t272 = true then ((metrolabref53_First.f k l0 a1 3).bind fun t273 => ((metrolabref53_Next.f k l0 t273).bind fun t274 => (some (t273,t274,0)))) else (some (0,0,14)))) else (some (0,0,6)))) else (some (0,0,t270)))) else (some (0,0,t269))) = some (r1,r2,r3):=H
 have A3:=Aside0.mk A30
 clear A30
 by_cases c4 : t269 = 0
 ·rw [if_pos c4] at H
  have c4b0 : (t269 == 0) = true:=beq_iff_eq.mpr c4
  have c4b1 : (t269 != 0) = false:=bne_eq_false_iff_eq.mpr c4
  clear c4
  replace H:=Option.bind_eq_some_iff.mp H
  obtain ⟨t270,A50,H⟩:=H
  replace H : (if t270 = 0 then ((metrolabref53_Measured.f k l0 a1).bind fun t271 => (if t271 = true then ((metrolabref53_Recalled.f k l0 a1).bind fun t272 => (if t272 = true then ((metrolabref53_First.f k l0 a1 3).bind fun t273 => ((metrolabref53_Next.f k l0 t273).bind fun t274 => (some (t273,t274,0)))) else (some (0,0,14)))) else (some (0,0,6)))) else (some (0,0,t270))) = some (r1,r2,r3):=H
  have A5:=Aside0.mk A50
  clear A50
  by_cases c6 : t270 = 0
  ·rw [if_pos c6] at H
   have c6b0 : (t270 == 0) = true:=beq_iff_eq.mpr c6
   have c6b1 : (t270 != 0) = false:=bne_eq_false_iff_eq.mpr c6
   clear c6
   replace H:=Option.bind_eq_some_iff.mp H
   obtain ⟨t271,A70,H⟩:=H
   replace H : (if t271 = true then ((metrolabref53_Recalled.f k l0 a1).bind fun t272 => (if t272 = true then ((metrolabref53_First.f k l0 a1 3).bind fun t273 => ((metrolabref53_Next.f k l0 t273).bind fun t274 => (some (t273,t274,0)))) else (some (0,0,14)))) else (some (0,0,6))) = some (r1,r2,r3):=H
   have A7:=Aside0.mk A70
   clear A70
   by_cases c8 : t271 = true
   ·subst c8
    have H1 : ((metrolabref53_Recalled.f k l0 a1).bind fun t272 => (if t272 = true then ((metrolabref53_First.f k l0 a1 3).bind fun t273 => ((metrolabref53_Next.f k l0 t273).bind fun t274 => (some (t273,t274,0)))) else (some (0,0,14)))) = some (r1,r2,r3):=by rw [if_pos rfl] at H;exact H
    clear H
    have H:=H1
    clear H1
    replace H:=Option.bind_eq_some_iff.mp H
    obtain ⟨t272,A90,H⟩:=H
    replace H : (if t272 = true then ((metrolabref53_First.f k l0 a1 3).bind fun t273 => ((metrolabref53_Next.f k l0 t273).bind fun t274 => (some (t273,t274,0)))) else (some (0,0,14))) = some (r1,r2,r3):=H
    have A9:=Aside0.mk A90
    clear A90
    by_cases c10 : t272 = true
    ·subst c10
     have H1 : ((metrolabref53_First.f k l0 a1 3).bind fun t273 => ((metrolabref53_Next.f k l0 t273).bind fun t274 => (some (t273,t274,0)))) = some (r1,r2,r3):=by rw [if_pos rfl] at H;exact H
     clear H
     have H:=H1
     clear H1
     replace H:=Option.bind_eq_some_iff.mp H
     obtain ⟨t273,A110,H⟩:=H
     replace H : ((metrolabref53_Next.f k l0 t273).bind fun t274 => (some (t273,t274,0))) = some (r1,r2,r3):=H
     have A11:=Aside0.mk A110
     clear A110
     replace H:=Option.bind_eq_some_iff.mp H
     obtain ⟨t274,A120,H⟩:=H
     replace H : (some (t273,t274,0)) = some (r1,r2,r3):=H
     have A12:=Aside0.mk A120
     clear A120
     simp only [Option.some.injEq,Prod.mk.injEq] at H
     obtain ⟨rfl,rfl,rfl⟩:=H
     go_enter Try.func25,Try.ntmps25
     go_wp2_with (first | ((with_reducible refine gate_callee (f:=17) rfl ?_);refine goesL_ (some 11) rfl rfl Try.func17 (by kernel_rfl) rfl #[.slice A0 l0.length c0] rfl (by (try simp only [List.map_toArray,List.map_cons,List.map_nil]);first | done | rfl | (simp only [List.length_drop,List.length_take];rfl)) ?_;(with_reducible refine (metrolabref53_Check.calls k _ _ l0 t269 _ ?side1 ?side2 A3.out).mono ?_);(case side1 => repeat (first | exact HR0.out | (with_reducible refine Kd.C_alloc ?_ _) | (with_reducible refine Kd.C_drewN ?_ _) | (with_reducible refine Kd.C_drew ?_)));(case side2 => exact HC0.out);rintro e w13 ⟨rfl,hb⟩;refine ⟨_,rfl,?_⟩;have n0_:=Aside0.mk (below_step (by repeat (first | (with_reducible first | exact HB.out | apply below_alloc | apply pw_below_drewN | apply below_drew1) | exact HB.out)) hb);clear HB;have HB:=n0_;clear n0_;(try clear hb);(try clear hb2);(try clear hk);(try clear hi)) | ((with_reducible refine gate_callee (f:=32) rfl ?_);refine goesL_ (some 16) rfl rfl Try.func32 (by kernel_rfl) rfl #[.string a1] rfl (by (try simp only [List.map_toArray,List.map_cons,List.map_nil]);first | done | rfl | (simp only [List.length_drop,List.length_take];rfl)) ?_;(with_reducible refine (metrolabref17_Name.calls k a1 t270 _ A5.out).mono ?_);rintro e w' ⟨rfl,⟨nd,rfl⟩⟩;refine ⟨_,rfl,?_⟩) | ((with_reducible refine gate_callee (f:=46) rfl ?_);refine goesL_ (some 22) rfl rfl Try.func46 (by kernel_rfl) rfl #[.slice A0 l0.length c0,.string a1] rfl (by (try simp only [List.map_toArray,List.map_cons,List.map_nil]);first | done | rfl | (simp only [List.length_drop,List.length_take];rfl)) ?_;(with_reducible refine (metrolabref53_Measured.calls k _ _ l0 a1 true _ ?side1 ?side2 A7.out).mono ?_);(case side1 => repeat (first | exact (Kd.C_below HR0.out (by repeat (first | (with_reducible first | exact HB.out | apply below_alloc | apply pw_below_drewN | apply below_drew1) | exact HB.out))) | (with_reducible refine Kd.C_alloc ?_ _) | (with_reducible refine Kd.C_drewN ?_ _) | (with_reducible refine Kd.C_drew ?_)));(case side2 => exact HC0.out);rintro e w' ⟨rfl,⟨nd,rfl⟩⟩;refine ⟨_,rfl,?_⟩) | ((with_reducible refine gate_callee (f:=47) rfl ?_);refine goesL_ (some 26) rfl rfl Try.func47 (by kernel_rfl) rfl #[.slice A0 l0.length c0,.string a1] rfl (by (try simp only [List.map_toArray,List.map_cons,List.map_nil]);first | done | rfl | (simp only [List.length_drop,List.length_take];rfl)) ?_;(with_reducible refine (metrolabref53_Recalled.calls k _ _ l0 a1 true _ ?side1 ?side2 A9.out).mono ?_);(case side1 => repeat (first | exact (Kd.C_below HR0.out (by repeat (first | (with_reducible first | exact HB.out | apply below_alloc | apply pw_below_drewN | apply below_drew1) | exact HB.out))) | (with_reducible refine Kd.C_alloc ?_ _) | (with_reducible refine Kd.C_drewN ?_ _) | (with_reducible refine Kd.C_drew ?_)));(case side2 => exact HC0.out);rintro e w' ⟨rfl,⟨nd,rfl⟩⟩;refine ⟨_,rfl,?_⟩) | ((with_reducible refine gate_callee (f:=51) rfl ?_);refine goesL_ (some 30) rfl rfl Try.func51 (by kernel_rfl) rfl #[.slice A0 l0.length c0,.string a1,.int .i64 3] rfl (by (try simp only [List.map_toArray,List.map_cons,List.map_nil]);first | done | rfl | (simp only [List.length_drop,List.length_take];rfl)) ?_;(with_reducible refine (metrolabref53_First.calls k _ _ l0 a1 3 t273 _ ?side1 ?side2 A11.out).mono ?_);(case side1 => repeat (first | exact (Kd.C_below HR0.out (by repeat (first | (with_reducible first | exact HB.out | apply below_alloc | apply pw_below_drewN | apply below_drew1) | exact HB.out))) | (with_reducible refine Kd.C_alloc ?_ _) | (with_reducible refine Kd.C_drewN ?_ _) | (with_reducible refine Kd.C_drew ?_)));(case side2 => exact HC0.out);rintro e w' ⟨rfl,⟨nd,rfl⟩⟩;refine ⟨_,rfl,?_⟩) | ((with_reducible refine gate_callee (f:=52) rfl ?_);refine goesL_ (some 34) rfl rfl Try.func52 (by kernel_rfl) rfl #[.slice A0 l0.length c0,.int .i64 t273] rfl (by (try simp only [List.map_toArray,List.map_cons,List.map_nil]);first | done | rfl | (simp only [List.length_drop,List.length_take];rfl)) ?_;(with_reducible refine (metrolabref53_Next.calls k _ _ l0 t273 t274 _ ?side1 ?side2 A12.out).mono ?_);(case side1 => repeat (first | exact (Kd.C_below HR0.out (by repeat (first | (with_reducible first | exact HB.out | apply below_alloc | apply pw_below_drewN | apply below_drew1) | exact HB.out))) | (with_reducible refine Kd.C_alloc ?_ _) | (with_reducible refine Kd.C_drewN ?_ _) | (with_reducible refine Kd.C_drew ?_)));(case side2 => exact HC0.out);rintro e w' ⟨rfl,⟨nd,rfl⟩⟩;refine ⟨_,rfl,?_⟩))
     go_ret3
     exact ⟨by first | rfl | (simp [errW_none,errW_some] <;> rfl) | (simp [*,errW_none,errW_some] <;> rfl),by repeat (first | (with_reducible first | exact HB.out | apply below_alloc | apply pw_below_drewN | apply below_drew1) | exact HB.out)⟩
    ·replace c10:=Bool.eq_false_iff.mpr c10
     subst c10
     have H1 : (some (0,0,14)) = some (r1,r2,r3):=by rw [if_neg (show ¬ (false = true) by decide)] at H;exact H
     clear H
     have H:=H1
     clear H1
     simp only [Option.some.injEq,Prod.mk.injEq] at H
     obtain ⟨rfl,rfl,rfl⟩:=H
     go_enter Try.func25,Try.ntmps25
     go_wp2_with (first | ((with_reducible refine gate_callee (f:=17) rfl ?_);refine goesL_ (some 11) rfl rfl Try.func17 (by kernel_rfl) rfl #[.slice A0 l0.length c0] rfl (by (try simp only [List.map_toArray,List.map_cons,List.map_nil]);first | done | rfl | (simp only [List.length_drop,List.length_take];rfl)) ?_;(with_reducible refine (metrolabref53_Check.calls k _ _ l0 t269 _ ?side1 ?side2 A3.out).mono ?_);(case side1 => repeat (first | exact HR0.out | (with_reducible refine Kd.C_alloc ?_ _) | (with_reducible refine Kd.C_drewN ?_ _) | (with_reducible refine Kd.C_drew ?_)));(case side2 => exact HC0.out);rintro e w14 ⟨rfl,hb⟩;refine ⟨_,rfl,?_⟩;have n0_:=Aside0.mk (below_step (by repeat (first | (with_reducible first | exact HB.out | apply below_alloc | apply pw_below_drewN | apply below_drew1) | exact HB.out)) hb);clear HB;have HB:=n0_;clear n0_;(try clear hb);(try clear hb2);(try clear hk);(try clear hi)) | ((with_reducible refine gate_callee (f:=32) rfl ?_);refine goesL_ (some 16) rfl rfl Try.func32 (by kernel_rfl) rfl #[.string a1] rfl (by (try simp only [List.map_toArray,List.map_cons,List.map_nil]);first | done | rfl | (simp only [List.length_drop,List.length_take];rfl)) ?_;(with_reducible refine (metrolabref17_Name.calls k a1 t270 _ A5.out).mono ?_);rintro e w' ⟨rfl,⟨nd,rfl⟩⟩;refine ⟨_,rfl,?_⟩) | ((with_reducible refine gate_callee (f:=46) rfl ?_);refine goesL_ (some 22) rfl rfl Try.func46 (by kernel_rfl) rfl #[.slice A0 l0.length c0,.string a1] rfl (by (try simp only [List.map_toArray,List.map_cons,List.map_nil]);first | done | rfl | (simp only [List.length_drop,List.length_take];rfl)) ?_;(with_reducible refine (metrolabref53_Measured.calls k _ _ l0 a1 true _ ?side1 ?side2 A7.out).mono ?_);(case side1 => repeat (first | exact (Kd.C_below HR0.out (by repeat (first | (with_reducible first | exact HB.out | apply below_alloc | apply pw_below_drewN | apply below_drew1) | exact HB.out))) | (with_reducible refine Kd.C_alloc ?_ _) | (with_reducible refine Kd.C_drewN ?_ _) | (with_reducible refine Kd.C_drew ?_)));(case side2 => exact HC0.out);rintro e w' ⟨rfl,⟨nd,rfl⟩⟩;refine ⟨_,rfl,?_⟩) | ((with_reducible refine gate_callee (f:=47) rfl ?_);refine goesL_ (some 26) rfl rfl Try.func47 (by kernel_rfl) rfl #[.slice A0 l0.length c0,.string a1] rfl (by (try simp only [List.map_toArray,List.map_cons,List.map_nil]);first | done | rfl | (simp only [List.length_drop,List.length_take];rfl)) ?_;(with_reducible refine (metrolabref53_Recalled.calls k _ _ l0 a1 false _ ?side1 ?side2 A9.out).mono ?_);(case side1 => repeat (first | exact (Kd.C_below HR0.out (by repeat (first | (with_reducible first | exact HB.out | apply below_alloc | apply pw_below_drewN | apply below_drew1) | exact HB.out))) | (with_reducible refine Kd.C_alloc ?_ _) | (with_reducible refine Kd.C_drewN ?_ _) | (with_reducible refine Kd.C_drew ?_)));(case side2 => exact HC0.out);rintro e w' ⟨rfl,⟨nd,rfl⟩⟩;refine ⟨_,rfl,?_⟩))
     go_ret3
     exact ⟨by first | rfl | (simp [errW_none,errW_some] <;> rfl) | (simp [*,errW_none,errW_some] <;> rfl),by repeat (first | (with_reducible first | exact HB.out | apply below_alloc | apply pw_below_drewN | apply below_drew1) | exact HB.out)⟩
   ·replace c8:=Bool.eq_false_iff.mpr c8
    subst c8
    have H1 : (some (0,0,6)) = some (r1,r2,r3):=by rw [if_neg (show ¬ (false = true) by decide)] at H;exact H
    clear H
    have H:=H1
    clear H1
    simp only [Option.some.injEq,Prod.mk.injEq] at H
    obtain ⟨rfl,rfl,rfl⟩:=H
    go_enter Try.func25,Try.ntmps25
    go_wp2_with (first | ((with_reducible refine gate_callee (f:=17) rfl ?_);refine goesL_ (some 11) rfl rfl Try.func17 (by kernel_rfl) rfl #[.slice A0 l0.length c0] rfl (by (try simp only [List.map_toArray,List.map_cons,List.map_nil]);first | done | rfl | (simp only [List.length_drop,List.length_take];rfl)) ?_;(with_reducible refine (metrolabref53_Check.calls k _ _ l0 t269 _ ?side1 ?side2 A3.out).mono ?_);(case side1 => repeat (first | exact HR0.out | (with_reducible refine Kd.C_alloc ?_ _) | (with_reducible refine Kd.C_drewN ?_ _) | (with_reducible refine Kd.C_drew ?_)));(case side2 => exact HC0.out);rintro e w15 ⟨rfl,hb⟩;refine ⟨_,rfl,?_⟩;have n0_:=Aside0.mk (below_step (by repeat (first | (with_reducible first | exact HB.out | apply below_alloc | apply pw_below_drewN | apply below_drew1) | exact HB.out)) hb);clear HB;have HB:=n0_;clear n0_;(try clear hb);(try clear hb2);(try clear hk);(try clear hi)) | ((with_reducible refine gate_callee (f:=32) rfl ?_);refine goesL_ (some 16) rfl rfl Try.func32 (by kernel_rfl) rfl #[.string a1] rfl (by (try simp only [List.map_toArray,List.map_cons,List.map_nil]);first | done | rfl | (simp only [List.length_drop,List.length_take];rfl)) ?_;(with_reducible refine (metrolabref17_Name.calls k a1 t270 _ A5.out).mono ?_);rintro e w' ⟨rfl,⟨nd,rfl⟩⟩;refine ⟨_,rfl,?_⟩) | ((with_reducible refine gate_callee (f:=46) rfl ?_);refine goesL_ (some 22) rfl rfl Try.func46 (by kernel_rfl) rfl #[.slice A0 l0.length c0,.string a1] rfl (by (try simp only [List.map_toArray,List.map_cons,List.map_nil]);first | done | rfl | (simp only [List.length_drop,List.length_take];rfl)) ?_;(with_reducible refine (metrolabref53_Measured.calls k _ _ l0 a1 false _ ?side1 ?side2 A7.out).mono ?_);(case side1 => repeat (first | exact (Kd.C_below HR0.out (by repeat (first | (with_reducible first | exact HB.out | apply below_alloc | apply pw_below_drewN | apply below_drew1) | exact HB.out))) | (with_reducible refine Kd.C_alloc ?_ _) | (with_reducible refine Kd.C_drewN ?_ _) | (with_reducible refine Kd.C_drew ?_)));(case side2 => exact HC0.out);rintro e w' ⟨rfl,⟨nd,rfl⟩⟩;refine ⟨_,rfl,?_⟩))
    go_ret3
    exact ⟨by first | rfl | (simp [errW_none,errW_some] <;> rfl) | (simp [*,errW_none,errW_some] <;> rfl),by repeat (first | (with_reducible first | exact HB.out | apply below_alloc | apply pw_below_drewN | apply below_drew1) | exact HB.out)⟩
  ·rw [if_neg c6] at H
   have c6b0 : (t270 == 0) = false:=beq_eq_false_iff_ne.mpr c6
   have c6b1 : (t270 != 0) = true:=bne_iff_ne.mpr c6
   simp only [Option.some.injEq,Prod.mk.injEq] at H
   obtain ⟨rfl,rfl,rfl⟩:=H
   go_enter Try.func25,Try.ntmps25
   go_wp2_with (first | ((with_reducible refine gate_callee (f:=17) rfl ?_);refine goesL_ (some 11) rfl rfl Try.func17 (by kernel_rfl) rfl #[.slice A0 l0.length c0] rfl (by (try simp only [List.map_toArray,List.map_cons,List.map_nil]);first | done | rfl | (simp only [List.length_drop,List.length_take];rfl)) ?_;(with_reducible refine (metrolabref53_Check.calls k _ _ l0 t269 _ ?side1 ?side2 A3.out).mono ?_);(case side1 => repeat (first | exact HR0.out | (with_reducible refine Kd.C_alloc ?_ _) | (with_reducible refine Kd.C_drewN ?_ _) | (with_reducible refine Kd.C_drew ?_)));(case side2 => exact HC0.out);rintro e w16 ⟨rfl,hb⟩;refine ⟨_,rfl,?_⟩;have n0_:=Aside0.mk (below_step (by repeat (first | (with_reducible first | exact HB.out | apply below_alloc | apply pw_below_drewN | apply below_drew1) | exact HB.out)) hb);clear HB;have HB:=n0_;clear n0_;(try clear hb);(try clear hb2);(try clear hk);(try clear hi)) | ((with_reducible refine gate_callee (f:=32) rfl ?_);refine goesL_ (some 16) rfl rfl Try.func32 (by kernel_rfl) rfl #[.string a1] rfl (by (try simp only [List.map_toArray,List.map_cons,List.map_nil]);first | done | rfl | (simp only [List.length_drop,List.length_take];rfl)) ?_;(with_reducible refine (metrolabref17_Name.calls k a1 t270 _ A5.out).mono ?_);rintro e w' ⟨rfl,⟨nd,rfl⟩⟩;refine ⟨_,rfl,?_⟩))
   go_ret3
   exact ⟨by first | rfl | (simp [errW_none,errW_some] <;> rfl) | (simp [*,errW_none,errW_some] <;> rfl),by repeat (first | (with_reducible first | exact HB.out | apply below_alloc | apply pw_below_drewN | apply below_drew1) | exact HB.out)⟩
 ·rw [if_neg c4] at H
  have c4b0 : (t269 == 0) = false:=beq_eq_false_iff_ne.mpr c4
  have c4b1 : (t269 != 0) = true:=bne_iff_ne.mpr c4
  simp only [Option.some.injEq,Prod.mk.injEq] at H
  obtain ⟨rfl,rfl,rfl⟩:=H
  go_enter Try.func25,Try.ntmps25
  go_wp2_with (first | ((with_reducible refine gate_callee (f:=17) rfl ?_);refine goesL_ (some 11) rfl rfl Try.func17 (by kernel_rfl) rfl #[.slice A0 l0.length c0] rfl (by (try simp only [List.map_toArray,List.map_cons,List.map_nil]);first | done | rfl | (simp only [List.length_drop,List.length_take];rfl)) ?_;(with_reducible refine (metrolabref53_Check.calls k _ _ l0 t269 _ ?side1 ?side2 A3.out).mono ?_);(case side1 => repeat (first | exact HR0.out | (with_reducible refine Kd.C_alloc ?_ _) | (with_reducible refine Kd.C_drewN ?_ _) | (with_reducible refine Kd.C_drew ?_)));(case side2 => exact HC0.out);rintro e w17 ⟨rfl,hb⟩;refine ⟨_,rfl,?_⟩;have n0_:=Aside0.mk (below_step (by repeat (first | (with_reducible first | exact HB.out | apply below_alloc | apply pw_below_drewN | apply below_drew1) | exact HB.out)) hb);clear HB;have HB:=n0_;clear n0_;(try clear hb);(try clear hb2);(try clear hk);(try clear hi)))
  go_ret3
  exact ⟨by first | rfl | (simp [errW_none,errW_some] <;> rfl) | (simp [*,errW_none,errW_some] <;> rfl),by repeat (first | (with_reducible first | exact HB.out | apply below_alloc | apply pw_below_drewN | apply below_drew1) | exact HB.out)⟩

end Go.Proofs.Ytnmmdeonkpfccaa.Pr
namespace Go.Proofs.Ytnmmdeonkpfccaa.Pr
open Go.RowKit Go.Proofs.YtnmmdeonkpfccaaW.PrintWords Go.Proofs.YtnmmdeonkpfccaaW.PrintLast Go.Proofs.YtnmmdeonkpfccaaW.PrintMore
attribute [local go_sem] max2_int min2_int max_two min_two max_three min_three max_four min_four
set_option linter.unusedVariables false
set_option linter.unusedSimpArgs false

/-! ### metrolabref20_Has: function 57 -/
def metrolabref20_Has.l0 : Nat → List ByteArray → ByteArray → Int → Option (Bool)
 | 0,_,_,_ => none
 | k + 1,x0,x1,x5 => if x5 < (x0.length : Int) then (if 0 ≤ x5 then (if (rdOf ByteArray.empty x0 x5).toList = x1.toList then (some true) else (metrolabref20_Has.l0 k x0 x1 (wrap64 (x5 + 1)))) else (none)) else (some false)
def metrolabref20_Has.f (k : Nat) (l0 : List ByteArray) (a1 : ByteArray) : Option (Bool):=metrolabref20_Has.l0 k l0 a1 0
theorem metrolabref20_Has.mono_l : ∀ k,(∀ y0 y1 y2,LeO (metrolabref20_Has.l0 k y0 y1 y2) (metrolabref20_Has.l0 (k + 1) y0 y1 y2))
 | 0 => fun _ _ _ r h => by simp [metrolabref20_Has.l0] at h
 | k + 1 => by
  have ih0:=metrolabref20_Has.mono_l k
  ·intro y0 y1 y2
   unfold metrolabref20_Has.l0
   repeat' first
   | (with_reducible exact ih0 _ _ _)
   | (with_reducible exact LeO.refl _)
   | (with_reducible exact LeO.none _)
   | (with_reducible refine LeO.ite ?_ ?_)
   | (with_reducible refine LeO.bind ?_ (fun _ => ?_))
   | exact ih0 _ _ _
   | exact LeO.none _
   | refine LeO.ite ?_ ?_
   | refine LeO.bind ?_ (fun _ => ?_)
theorem metrolabref20_Has.mono : ∀ a0 a1 k,LeO (metrolabref20_Has.f k a0 a1) (metrolabref20_Has.f (k + 1) a0 a1):=by
 intro a0 a1 k
 have ih0:=metrolabref20_Has.mono_l k
 unfold metrolabref20_Has.f
 repeat' first
   | (with_reducible exact ih0 _ _ _)
   | (with_reducible exact LeO.refl _)
   | (with_reducible exact LeO.none _)
   | (with_reducible refine LeO.ite ?_ ?_)
   | (with_reducible refine LeO.bind ?_ (fun _ => ?_))
   | exact ih0 _ _ _
   | exact LeO.none _
   | refine LeO.ite ?_ ?_
   | refine LeO.bind ?_ (fun _ => ?_)
set_option maxHeartbeats 8000000 in
set_option maxRecDepth 100000 in
theorem metrolabref20_Has.calls (k : Nat) (A0 : Option Addr) (c0 : Nat) (l0 : List ByteArray) (a1 : ByteArray) (r : Bool) (w : World) (hr0 : Kd.C Kd.string w A0 l0.length l0) (hc0 : l0.length ≤ c0) (h : metrolabref20_Has.f k l0 a1 = some r) :
  Calls Try.prog 57 #[.slice A0 l0.length c0,.string a1] w fun e w' => e = .returned (.bool r) ∧ Drawn0 w w':=by
 have HR0:=Aside0.mk hr0
 have HC0:=Aside0.mk hc0
 clear hr0 hc0
 have H : (metrolabref20_Has.l0 k l0 a1 0) = some r:=h
 clear h
 have H':=Aside0.mk H
 clear H
 go_enter Try.func57,Try.ntmps57
 go_wp2
 go_loopg [5] k (fun kq v5 w' => ∃ (x5_1 : Int),v5 = .int .i64 x5_1 ∧ Aside0 (metrolabref20_Has.l0 kq l0 a1 x5_1 = some r) ∧ Aside0 (kq ≤ k) ∧ Drawn0 w w')
 case atStart => exact ⟨(0),(by first | rfl | (simp;done) | (simp [*];done)),H',⟨Nat.le_refl _⟩,by repeat (first | exact Drawn0.refl _ | apply Drawn0.step)⟩
 case round =>
  clear H'
  try clear p2
  obtain ⟨x5_1,rfl,HA,HK1,⟨m1,rfl⟩⟩:=hrel
  cases gk with
  | zero => exact absurd HA.out (by simp [metrolabref20_Has.l0])
  | succ k1 =>
   have H:=HA.out
   clear HA
   simp only [metrolabref20_Has.l0] at H
   by_cases c3 : x5_1 < (l0.length : Int)
   ·rw [if_pos c3] at H
    have c3b0 : decide (x5_1 < (l0.length : Int)) = true:=decide_eq_true c3
    clear c3
    by_cases c4 : 0 ≤ x5_1
    ·rw [if_pos c4] at H
     have c4b0 : decide (0 ≤ x5_1) = true:=decide_eq_true c4
     clear c4
     by_cases c5 : (rdOf ByteArray.empty l0 x5_1).toList = a1.toList
     ·rw [if_pos c5] at H
      have c5b0 : ((rdOf ByteArray.empty l0 x5_1).toList == a1.toList) = true:=beq_iff_eq.mpr c5
      have c5b1 : ((rdOf ByteArray.empty l0 x5_1).toList != a1.toList) = false:=bne_eq_false_iff_eq.mpr c5
      clear c5
      obtain rfl:=Option.some.inj H
      have p275 : 0 ≤ (x5_1 : Int):=of_decide_eq_true (by first | (with_reducible assumption) | assumption)
      have q275 : x5_1 < (l0.length : Int):=of_decide_eq_true (by first | (with_reducible assumption) | assumption)
      obtain ⟨ad275,e275,hx275_0⟩:=Kd.at_string HR0.out x5_1 p275 q275
      cases e275
      replace p275:=eq_true p275
      replace q275:=eq_true q275
      go_wp2
      go_ret
      exact ⟨by first | rfl | (simp;done) | (simp [*];done),by repeat (first | exact Drawn0.refl _ | apply Drawn0.step)⟩
     ·rw [if_neg c5] at H
      have c5b0 : ((rdOf ByteArray.empty l0 x5_1).toList == a1.toList) = false:=beq_eq_false_iff_ne.mpr c5
      have c5b1 : ((rdOf ByteArray.empty l0 x5_1).toList != a1.toList) = true:=bne_iff_ne.mpr c5
      have H':=Aside0.mk H
      clear H
      have p275 : 0 ≤ (x5_1 : Int):=of_decide_eq_true (by first | (with_reducible assumption) | assumption)
      have q275 : x5_1 < (l0.length : Int):=of_decide_eq_true (by first | (with_reducible assumption) | assumption)
      obtain ⟨ad275,e275,hx275_0⟩:=Kd.at_string HR0.out x5_1 p275 q275
      cases e275
      replace p275:=eq_true p275
      replace q275:=eq_true q275
      go_wp2
      go_roundg k1
      case measure => have:=HK1.out;omega
      case rel => exact ⟨(wrap64 (x5_1 + 1)),(by first | rfl | (simp;done) | (simp [*];done)),H',⟨by have:=HK1.out;omega⟩,by repeat (first | exact Drawn0.refl _ | apply Drawn0.step)⟩
    ·rw [if_neg c4] at H
     exact absurd H (by simp)
   ·rw [if_neg c3] at H
    have c3b0 : decide (x5_1 < (l0.length : Int)) = false:=decide_eq_false c3
    clear c3
    obtain rfl:=Option.some.inj H
    go_wp2
    go_ret
    exact ⟨by first | rfl | (simp;done) | (simp [*];done),by repeat (first | exact Drawn0.refl _ | apply Drawn0.step)⟩

end Go.Proofs.Ytnmmdeonkpfccaa.Pr
namespace Go.Proofs.Ytnmmdeonkpfccaa.Pr
open Go.RowKit Go.Proofs.YtnmmdeonkpfccaaW.PrintWords Go.Proofs.YtnmmdeonkpfccaaW.PrintLast Go.Proofs.YtnmmdeonkpfccaaW.PrintMore
attribute [local go_sem] max2_int min2_int max_two min_two max_three min_three max_four min_four
set_option linter.unusedVariables false
set_option linter.unusedSimpArgs false

/-! ### metrolabref53_AtRisk: function 27 -/
def metrolabref53_AtRisk.l0 : Nat → List ByteArray → List ByteArray → List ByteArray → Int → Option (List ByteArray × Int)
 | 0,_,_,_,_ => none
 | k + 1,x8,x9,x10,x11 => if x11 < (x9.length : Int) then (if 0 ≤ x11 then ((metrolabref20_Has.f k x8 (rdOf ByteArray.empty x9 x11)).bind fun t294 => (if t294 = true then (metrolabref53_AtRisk.l0 k x8 x9 x10 (wrap64 (x11 + 1))) else (if x10.length < 8796093022208 then (metrolabref53_AtRisk.l0 k x8 x9 (x10 ++ [rdOf ByteArray.empty x9 x11]) (wrap64 (x11 + 1))) else (none)))) else (none)) else (some (x10,0))
def metrolabref53_AtRisk.f (k : Nat) (l0 : List (S67)) (a1 : ByteArray) : Option (List ByteArray × Int):=(metrolabref53_Check.f k l0).bind fun t276 => (if t276 = 0 then ((metrolabref17_Name.f k a1).bind fun t277 => (if t277 = 0 then ((metrolabref53_All.f k l0).bind fun t278 => ((some (([] : List (S67)) : List (S67))).bind fun y281 => (if y281.length + l0.length < 2513169434916 then ((some (y281 ++ l0 : List (S67))).bind fun y284 => (if y284.length < 2513169434916 then ((metrolabref53_All.f k (y284 ++ [(⟨2,a1,(⟨#[]⟩ : ByteArray),(⟨#[]⟩ : ByteArray)⟩ : S67)])).bind fun t290 => (metrolabref53_AtRisk.l0 k t278 t290 ([] : List ByteArray) 0)) else (none))) else (none)))) else (some (([] : List ByteArray),t277)))) else (some (([] : List ByteArray),t276)))
theorem metrolabref53_AtRisk.mono_l : ∀ k,(∀ y0 y1 y2 y3,LeO (metrolabref53_AtRisk.l0 k y0 y1 y2 y3) (metrolabref53_AtRisk.l0 (k + 1) y0 y1 y2 y3))
 | 0 => fun _ _ _ _ r h => by simp [metrolabref53_AtRisk.l0] at h
 | k + 1 => by
  have ih0:=metrolabref53_AtRisk.mono_l k
  ·intro y0 y1 y2 y3
   unfold metrolabref53_AtRisk.l0
   repeat' first
   | (with_reducible exact ih0 _ _ _ _)
   | (with_reducible exact metrolabref17_Name.mono _ _)
   | (with_reducible exact metrolabref20_Has.mono _ _ _)
   | (with_reducible exact metrolabref53_All.mono _ _)
   | (with_reducible exact metrolabref53_Check.mono _ _)
   | (with_reducible exact LeO.refl _)
   | (with_reducible exact LeO.none _)
   | (with_reducible refine LeO.ite ?_ ?_)
   | (with_reducible refine LeO.bind ?_ (fun _ => ?_))
   | exact ih0 _ _ _ _
   | exact metrolabref17_Name.mono _ _
   | exact metrolabref20_Has.mono _ _ _
   | exact metrolabref53_All.mono _ _
   | exact metrolabref53_Check.mono _ _
   | exact LeO.none _
   | refine LeO.ite ?_ ?_
   | refine LeO.bind ?_ (fun _ => ?_)
theorem metrolabref53_AtRisk.mono : ∀ a0 a1 k,LeO (metrolabref53_AtRisk.f k a0 a1) (metrolabref53_AtRisk.f (k + 1) a0 a1):=by
 intro a0 a1 k
 have ih0:=metrolabref53_AtRisk.mono_l k
 unfold metrolabref53_AtRisk.f
 repeat' first
   | (with_reducible exact ih0 _ _ _ _)
   | (with_reducible exact metrolabref17_Name.mono _ _)
   | (with_reducible exact metrolabref20_Has.mono _ _ _)
   | (with_reducible exact metrolabref53_All.mono _ _)
   | (with_reducible exact metrolabref53_Check.mono _ _)
   | (with_reducible exact LeO.refl _)
   | (with_reducible exact LeO.none _)
   | (with_reducible refine LeO.ite ?_ ?_)
   | (with_reducible refine LeO.bind ?_ (fun _ => ?_))
   | exact ih0 _ _ _ _
   | exact metrolabref17_Name.mono _ _
   | exact metrolabref20_Has.mono _ _ _
   | exact metrolabref53_All.mono _ _
   | exact metrolabref53_Check.mono _ _
   | exact LeO.none _
   | refine LeO.ite ?_ ?_
   | refine LeO.bind ?_ (fun _ => ?_)
set_option maxHeartbeats 8000000 in
set_option maxRecDepth 100000 in
theorem metrolabref53_AtRisk.calls (k : Nat) (A0 : Option Addr) (c0 : Nat) (l0 : List (S67)) (a1 : ByteArray) (r1 : List ByteArray) (r2 : Int) (w : World) (hr0 : Kd.C k67 w A0 l0.length l0) (hc0 : l0.length ≤ c0) (h : metrolabref53_AtRisk.f k l0 a1 = some (r1,r2)) :
  Calls Try.prog 27 #[.slice A0 l0.length c0,.string a1] w fun e w' => ∃ v0_ : Value,e = .returned (.tuple #[v0_,.int .i64 r2]) ∧ Kd.R Kd.string 9 w' w.heap.size (fun _ => True) v0_ r1 ∧ Below w.heap.size w w':=by
 have hu67:=Try.underlying67
 have HR0:=Aside0.mk hr0
 have HC0:=Aside0.mk hc0
 clear hr0 hc0
 have HB:=Aside0.mk (Below.refl w.heap.size w)
 have H : ((metrolabref53_Check.f k l0).bind fun t276 => (if t276 = 0 then ((metrolabref17_Name.f k a1).bind fun t277 => (if t277 = 0 then ((metrolabref53_All.f k l0).bind fun t278 => ((some (([] : List (S67)) : List (S67))).bind fun y281 => (if y281.length + l0.length < 2513169434916 then ((some (y281 ++ l0 : List (S67))).bind fun y284 => (if y284.length < 2513169434916 then ((metrolabref53_All.f k (y284 ++ [(⟨2,a1,(⟨#[]⟩ : ByteArray),(⟨#[]⟩ : ByteArray)⟩ : S67)])).bind fun t290 => (metrolabref53_AtRisk.l0 k t278 t290 ([] : List ByteArray) 0)) else (none))) else (none)))) else (some (([] : List ByteArray),t277)))) else (some (([] : List ByteArray),t276)))) = some (r1,r2):=h
 clear h
 replace H:=Option.bind_eq_some_iff.mp H
 obtain ⟨t276,A30,H⟩:=H
 replace H : (if t276 = 0 then ((metrolabref17_Name.f k a1).bind fun t277 => (if t277 = 0 then ((metrolabref53_All.f k l0).bind fun t278 => ((some (([] : List (S67)) : List (S67))).bind fun y281 => (if y281.length + l0.length < 2513169434916 then ((some (y281 ++ l0 : List (S67))).bind fun y284 => (if y284.length < 2513169434916 then ((metrolabref53_All.f k (y284 ++ [(⟨2,a1,(⟨#[]⟩ : ByteArray),(⟨#[]⟩ : ByteArray)⟩ : S67)])).bind fun t290 => (metrolabref53_AtRisk.l0 k t278 t290 ([] : List ByteArray) 0)) else (none))) else (none)))) else (some (([] : List ByteArray),t277)))) else (some (([] : List ByteArray),t276))) = some (r1,r2):=H
 have A3:=Aside0.mk A30
 clear A30
 by_cases c4 : t276 = 0
 ·rw [if_pos c4] at H
  have c4b0 : (t276 == 0) = true:=beq_iff_eq.mpr c4
  have c4b1 : (t276 != 0) = false:=bne_eq_false_iff_eq.mpr c4
  clear c4
  replace H:=Option.bind_eq_some_iff.mp H
  obtain ⟨t277,A50,H⟩:=H
  replace H : (if t277 = 0 then ((metrolabref53_All.f k l0).bind fun t278 => ((some (([] : List (S67)) : List (S67))).bind fun y281 => (if y281.length + l0.length < 2513169434916 then ((some (y281 ++ l0 : List (S67))).bind fun y284 => (if y284.length < 2513169434916 then ((metrolabref53_All.f k (y284 ++ [(⟨2,a1,(⟨#[]⟩ : ByteArray),(⟨#[]⟩ : ByteArray)⟩ : S67)])).bind fun t290 => (metrolabref53_AtRisk.l0 k t278 t290 ([] : List ByteArray) 0)) else (none))) else (none)))) else (some (([] : List ByteArray),t277))) = some (r1,r2):=H
  have A5:=Aside0.mk A50
  clear A50
  by_cases c6 : t277 = 0
  ·rw [if_pos c6] at H
   have c6b0 : (t277 == 0) = true:=beq_iff_eq.mpr c6
   have c6b1 : (t277 != 0) = false:=bne_eq_false_iff_eq.mpr c6
   clear c6
   replace H:=Option.bind_eq_some_iff.mp H
   obtain ⟨t278,A70,H⟩:=H
   replace H : ((some (([] : List (S67)) : List (S67))).bind fun y281 => (if y281.length + l0.length < 2513169434916 then ((some (y281 ++ l0 : List (S67))).bind fun y284 => (if y284.length < 2513169434916 then ((metrolabref53_All.f k (y284 ++ [(⟨2,a1,(⟨#[]⟩ : ByteArray),(⟨#[]⟩ : ByteArray)⟩ : S67)])).bind fun t290 => (metrolabref53_AtRisk.l0 k t278 t290 ([] : List ByteArray) 0)) else (none))) else (none))) = some (r1,r2):=H
   have A7:=Aside0.mk A70
   clear A70
   obtain ⟨y281,hy281⟩ : ∃ y_ : List (S67),y_ = (([] : List (S67))):=⟨_,rfl⟩
   replace H : (if y281.length + l0.length < 2513169434916 then ((some (y281 ++ l0 : List (S67))).bind fun y284 => (if y284.length < 2513169434916 then ((metrolabref53_All.f k (y284 ++ [(⟨2,a1,(⟨#[]⟩ : ByteArray),(⟨#[]⟩ : ByteArray)⟩ : S67)])).bind fun t290 => (metrolabref53_AtRisk.l0 k t278 t290 ([] : List ByteArray) 0)) else (none))) else (none)) = some (r1,r2):=by first | (rw [hy281];with_reducible exact H) | (have H2_:=(Option.bind_some _ _).symm.trans H;rw [hy281];with_reducible exact H2_) | (have H2_:=(Option.bind_some _ _).symm.trans H;with_reducible exact H2_) | with_reducible exact H | (rw [hy281];exact H) | exact H
   have Ny281:=Aside0.mk hy281
   clear hy281
   by_cases c8 : y281.length + l0.length < 2513169434916
   ·rw [if_pos c8] at H
    have LMc8:=Aside0.mk c8
    clear c8
    obtain ⟨y284,hy284⟩ : ∃ y_ : List (S67),y_ = (y281 ++ l0):=⟨_,rfl⟩
    replace H : (if y284.length < 2513169434916 then ((metrolabref53_All.f k (y284 ++ [(⟨2,a1,(⟨#[]⟩ : ByteArray),(⟨#[]⟩ : ByteArray)⟩ : S67)])).bind fun t290 => (metrolabref53_AtRisk.l0 k t278 t290 ([] : List ByteArray) 0)) else (none)) = some (r1,r2):=by first | (rw [hy284];with_reducible exact H) | (have H2_:=(Option.bind_some _ _).symm.trans H;rw [hy284];with_reducible exact H2_) | (have H2_:=(Option.bind_some _ _).symm.trans H;with_reducible exact H2_) | with_reducible exact H | (rw [hy284];exact H) | exact H
    have Ny284:=Aside0.mk hy284
    clear hy284
    by_cases c9 : y284.length < 2513169434916
    ·rw [if_pos c9] at H
     have LMc9:=Aside0.mk c9
     clear c9
     obtain ⟨y287,hy287⟩ : ∃ y_ : List (S67),y_ = (y284 ++ [(⟨2,a1,(⟨#[]⟩ : ByteArray),(⟨#[]⟩ : ByteArray)⟩ : S67)]):=⟨_,rfl⟩
     replace H : ((metrolabref53_All.f k y287).bind fun t290 => (metrolabref53_AtRisk.l0 k t278 t290 ([] : List ByteArray) 0)) = some (r1,r2):=by first | (rw [hy287];with_reducible exact H) | (have H2_:=(Option.bind_some _ _).symm.trans H;rw [hy287];with_reducible exact H2_) | (have H2_:=(Option.bind_some _ _).symm.trans H;with_reducible exact H2_) | with_reducible exact H | (rw [hy287];exact H) | exact H
     have Ny287:=Aside0.mk hy287
     clear hy287
     replace H:=Option.bind_eq_some_iff.mp H
     obtain ⟨t290,A100,H⟩:=H
     replace H : (metrolabref53_AtRisk.l0 k t278 t290 ([] : List ByteArray) 0) = some (r1,r2):=H
     have A10:=Aside0.mk A100
     clear A100
     have H':=Aside0.mk H
     clear H
     go_enter Try.func27,Try.ntmps27
     go_wp2_with (first | ((with_reducible refine gate_callee (f:=17) rfl ?_);refine goesL_ (some 13) rfl rfl Try.func17 (by kernel_rfl) rfl #[.slice A0 l0.length c0] rfl (by (try simp only [List.map_toArray,List.map_cons,List.map_nil]);first | done | rfl | (simp only [List.length_drop,List.length_take];rfl)) ?_;(with_reducible refine (metrolabref53_Check.calls k _ _ l0 t276 _ ?side1 ?side2 A3.out).mono ?_);(case side1 => repeat (first | exact HR0.out | (with_reducible refine Kd.C_alloc ?_ _) | (with_reducible refine Kd.C_drewN ?_ _) | (with_reducible refine Kd.C_drew ?_)));(case side2 => exact HC0.out);rintro e w11 ⟨rfl,hb⟩;refine ⟨_,rfl,?_⟩;have n0_:=Aside0.mk (below_step (by repeat (first | (with_reducible first | exact HB.out | apply below_alloc | apply pw_below_drewN | apply below_drew1) | exact HB.out)) hb);clear HB;have HB:=n0_;clear n0_;(try clear hb);(try clear hb2);(try clear hk);(try clear hi)) | ((with_reducible refine gate_callee (f:=32) rfl ?_);refine goesL_ (some 18) rfl rfl Try.func32 (by kernel_rfl) rfl #[.string a1] rfl (by (try simp only [List.map_toArray,List.map_cons,List.map_nil]);first | done | rfl | (simp only [List.length_drop,List.length_take];rfl)) ?_;(with_reducible refine (metrolabref17_Name.calls k a1 t277 _ A5.out).mono ?_);rintro e w' ⟨rfl,⟨nd,rfl⟩⟩;refine ⟨_,rfl,?_⟩) | ((with_reducible refine gate_callee (f:=42) rfl ?_);refine goesL_ (some 23) rfl rfl Try.func42 (by kernel_rfl) rfl #[.slice A0 l0.length c0] rfl (by (try simp only [List.map_toArray,List.map_cons,List.map_nil]);first | done | rfl | (simp only [List.length_drop,List.length_take];rfl)) ?_;(with_reducible refine (metrolabref53_All.calls k _ _ l0 t278 _ ?side1 ?side2 A7.out).mono ?_);(case side1 => repeat (first | exact (Kd.C_below HR0.out (by repeat (first | (with_reducible first | exact HB.out | apply below_alloc | apply pw_below_drewN | apply below_drew1) | exact HB.out))) | (with_reducible refine Kd.C_alloc ?_ _) | (with_reducible refine Kd.C_drewN ?_ _) | (with_reducible refine Kd.C_drew ?_)));(case side2 => exact HC0.out);rintro e w12 ⟨v279,rfl,ho0,hb⟩;refine ⟨_,rfl,?_⟩;have n0_:=Aside0.mk (Kd.R_lower ho0 (below_size (by repeat (first | (with_reducible first | exact HB.out | apply below_alloc | apply pw_below_drewN | apply below_drew1) | exact HB.out))));have n1_:=Aside0.mk (below_step (by repeat (first | (with_reducible first | exact HB.out | apply below_alloc | apply pw_below_drewN | apply below_drew1) | exact HB.out)) hb);clear HB;have HO280:=n0_;have HB:=n1_;clear n0_ n1_;(try clear hb);(try clear hb2);(try clear hk);(try clear hi);(try clear ho0)) | ((with_reducible refine gate_dst (N:=24) rfl ?_);(try refine wpList_unguard rfl rfl ?_);refine Kd.R_lit k67 _ 67 ?hg (N:=24) ?hd (xs:=([] : List (S67))) (inner:=[]) (ok:=fun _ => True) (okp:=fun _ => True) ?hr ?hp (fun _ hk => hk) trivial (Below.refl _ _) (Nat.le_refl _) (by simp) ?_;(case hd => rfl);(case hg => rfl);(case hr => first | (go_simp;done) | (go_simp;rfl));(case hp => exact (Reps.none _ _));intro v282 w13 ho14 hb hg_ hnew_;clear hg_ hnew_;(first | rw [← Ny281.out] at ho14 | (simp only [Int.reduceToNat] at ho14;rw [← Ny281.out] at ho14));have n0_:=Aside0.mk (Kd.R_below (by (with_reducible repeat (first | apply Kd.R_alloc | apply Kd.R_drewN | apply Kd.R_drew));exact HO280.out) hb);have n1_:=Aside0.mk (Kd.R_lower ho14 (below_size (by repeat (first | (with_reducible first | exact HB.out | apply below_alloc | apply pw_below_drewN | apply below_drew1) | exact HB.out))));have n2_:=Aside0.mk (below_step (by repeat (first | (with_reducible first | exact HB.out | apply below_alloc | apply pw_below_drewN | apply below_drew1) | exact HB.out)) hb);clear HO280;clear HB;have HO280:=n0_;have HO283:=n1_;have HB:=n2_;clear n0_ n1_ n2_;clear hb ho14) | ((with_reducible refine gate_builtin (b:=.append) (xs:=#[.tmp 24,.tmp 25]) rfl ?_);at_builtin;refine Kd.R_append_rows k67 (w0:=w) w.heap.size rfl (.tmp 24) (.tmp 25) 31 67 (.agg #[(.int .i64 0),(.string ⟨#[]⟩),(.string ⟨#[]⟩),(.string ⟨#[]⟩)]) 56 rfl Try.underlying31 info67 rfl (by decide) (by omega) v282 y281 l0 _ _ _ (fun _ => True) (fun _ => False) rfl rfl ?aO ?aR (fun _ _ h => h) (fun _ h => h.elim) ?aF ?aB ?aS ?aL ?_;(case aR => repeat (first | exact (Kd.C_below HR0.out HB.out) | (with_reducible refine Kd.C_alloc ?_ _) | (with_reducible refine Kd.C_drewN ?_ _) | (with_reducible refine Kd.C_drew ?_)));(case aB => exact (by repeat (first | (with_reducible first | exact HB.out | apply below_alloc | apply pw_below_drewN | apply below_drew1) | exact HB.out)));(case aF => exact (fun _ _ => trivial));(case aO => exact (by (with_reducible repeat (first | apply Kd.R_alloc | apply Kd.R_drewN | apply Kd.R_drew));exact HO283.out));(case aS => exact (below_size (by repeat (first | (with_reducible first | exact HB.out | apply below_alloc | apply pw_below_drewN | apply below_drew1) | exact HB.out))));(case aL => have:=LMc8.out;omega);intro v285 w15 ho hb hg hat;rw [← Ny284.out] at ho;have n0_:=Aside0.mk (Kd.R_over' (by (with_reducible repeat (first | apply Kd.R_alloc | apply Kd.R_drewN | apply Kd.R_drew));exact HO280.out) (Kd.R_typed (by (with_reducible repeat (first | apply Kd.R_alloc | apply Kd.R_drewN | apply Kd.R_drew));exact HO283.out)) (by decide) hg);have n1_:=Aside0.mk (hb);have n2_:=Aside0.mk (ho);clear HO280;clear HB;clear HO283;have HO280:=n0_;have HB:=n1_;have HO286:=n2_;clear n0_ n1_ n2_;clear ho hb hg hat) | ((with_reducible refine gate_builtin (b:=.append) (xs:=#[.tmp 26,.tmp 29]) rfl ?_);at_builtin;refine Kd.R_append k67 (w0:=w) w.heap.size rfl (.tmp 26) (.tmp 29) 31 67 (.agg #[(.int .i64 0),(.string ⟨#[]⟩),(.string ⟨#[]⟩),(.string ⟨#[]⟩)]) 56 rfl Try.underlying31 info67 rfl (by decide) (by omega) v285 y284 (⟨2,a1,(⟨#[]⟩ : ByteArray),(⟨#[]⟩ : ByteArray)⟩ : S67) [.int .i64 2,.string a1,.string (⟨#[]⟩ : ByteArray),.string (⟨#[]⟩ : ByteArray)] (fun _ => True) (fun _ => False) rfl rfl ?aP (fun _ hk => hk.elim) ?aF ?aO ?aB ?aS ?aL ?_;(case aP => exact k67_mkM _ _ _ (⟨2,a1,(⟨#[]⟩ : ByteArray),(⟨#[]⟩ : ByteArray)⟩ : S67));(case aB => exact (by repeat (first | (with_reducible first | exact HB.out | apply below_alloc | apply pw_below_drewN | apply below_drew1) | exact HB.out)));(case aF => exact (fun _ _ => trivial));(case aO => exact (by (with_reducible repeat (first | apply Kd.R_alloc | apply Kd.R_drewN | apply Kd.R_drew));exact HO286.out));(case aS => exact (below_size (by repeat (first | (with_reducible first | exact HB.out | apply below_alloc | apply pw_below_drewN | apply below_drew1) | exact HB.out))));(case aL => have:=LMc9.out;omega);intro v288 w16 ho hb hg hat;rw [← Ny287.out] at ho;have n0_:=Aside0.mk (Kd.R_over' (by (with_reducible repeat (first | apply Kd.R_alloc | apply Kd.R_drewN | apply Kd.R_drew));exact HO280.out) (Kd.R_typed (by (with_reducible repeat (first | apply Kd.R_alloc | apply Kd.R_drewN | apply Kd.R_drew));exact HO286.out)) (by decide) hg);have n1_:=Aside0.mk (hb);have n2_:=Aside0.mk (ho);clear HO280;clear HB;clear HO286;have HO280:=n0_;have HB:=n1_;have HO289:=n2_;clear n0_ n1_ n2_;clear ho hb hg hat;obtain ⟨Ao17,co17,eo17⟩:=Kd.R_slice HO289.out;subst eo17) | ((with_reducible refine gate_callee (f:=42) rfl ?_);refine goesL_ (some 31) rfl rfl Try.func42 (by kernel_rfl) rfl #[.slice Ao17 y287.length co17] rfl (by (try simp only [List.map_toArray,List.map_cons,List.map_nil]);first | done | rfl | (simp only [List.length_drop,List.length_take];rfl)) ?_;(with_reducible refine (metrolabref53_All.calls k _ _ y287 t290 _ ?side1 ?side2 A10.out).mono ?_);(case side1 => repeat (first | exact (Kd.R_reads' HO289.out).2.2 | (with_reducible refine Kd.C_alloc ?_ _) | (with_reducible refine Kd.C_drewN ?_ _) | (with_reducible refine Kd.C_drew ?_)));(case side2 => exact (Kd.R_reads' HO289.out).2.1);rintro e w18 ⟨v291,rfl,ho0,hb⟩;refine ⟨_,rfl,?_⟩;have n0_:=Aside0.mk (Kd.R_elder' (by (with_reducible repeat (first | apply Kd.R_alloc | apply Kd.R_drewN | apply Kd.R_drew));exact HO280.out) (Kd.R_base ho0) hb);have n1_:=Aside0.mk (Kd.R_below (by (with_reducible repeat (first | apply Kd.R_alloc | apply Kd.R_drewN | apply Kd.R_drew));exact HO289.out) hb);have n2_:=Aside0.mk (Kd.R_lower (Kd.R_new' ho0 (Kd.R_lt (by (with_reducible repeat (first | apply Kd.R_alloc | apply Kd.R_drewN | apply Kd.R_drew));exact HO280.out))) (below_size (by repeat (first | (with_reducible first | exact HB.out | apply below_alloc | apply pw_below_drewN | apply below_drew1) | exact HB.out))));have n3_:=Aside0.mk (below_step (by repeat (first | (with_reducible first | exact HB.out | apply below_alloc | apply pw_below_drewN | apply below_drew1) | exact HB.out)) hb);clear HO280;clear HO289;clear HB;have HO280:=n0_;have HO289:=n1_;have HO292:=n2_;have HB:=n3_;clear n0_ n1_ n2_ n3_;(try clear hb);(try clear hb2);(try clear hk);(try clear hi);(try clear ho0)))
     go_loopg [10,11] k (fun kq v10 v11 w' => ∃ (x10_1 : List ByteArray) (x11_1 : Int),v11 = .int .i64 x11_1 ∧ Aside0 (metrolabref53_AtRisk.l0 kq t278 t290 x10_1 x11_1 = some (r1,r2)) ∧ Aside0 (kq ≤ k) ∧ Aside0 (Kd.R Kd.string 9 w' w.heap.size (fun k_ => some k_ ≠ (v291 : Value).ownBlock ∧ some k_ ≠ (v10 : Value).ownBlock) v279 t278) ∧ Aside0 (Kd.R Kd.string 9 w' w.heap.size (fun k_ => some k_ ≠ (v279 : Value).ownBlock ∧ some k_ ≠ (v10 : Value).ownBlock) v291 t290) ∧ Aside0 (Kd.R Kd.string 9 w' w.heap.size (fun k_ => some k_ ≠ (v279 : Value).ownBlock ∧ some k_ ≠ (v291 : Value).ownBlock) v10 x10_1) ∧ Aside0 (Below w.heap.size w w'))
     case atStart => exact ⟨(([] : List ByteArray)),(0),(by first | rfl | (simp;done) | (simp [*];done)),H',⟨Nat.le_refl _⟩,⟨by (with_reducible repeat (first | apply Kd.R_alloc | apply Kd.R_drewN | apply Kd.R_drew));exact Kd.R_mono HO280.out (fun _ hk => ⟨hk.2,(by simp [Value.ownBlock])⟩)⟩,⟨by (with_reducible repeat (first | apply Kd.R_alloc | apply Kd.R_drewN | apply Kd.R_drew));exact Kd.R_mono HO292.out (fun _ hk => ⟨hk.2,(by simp [Value.ownBlock])⟩)⟩,⟨by first | exact Kd.R_nil _ _ _ _ _ | exact Kd.N_nil _ _ _ _ _ | exact Kd.V_nil _ _ _ _ _ | exact Kd.Q_nil _ _ _ _ _ | exact Kd.S_nil _ _ _ _ _⟩,⟨by repeat (first | (with_reducible first | exact HB.out | apply below_alloc | apply pw_below_drewN | apply below_drew1) | exact HB.out)⟩⟩
     case round =>
      clear H'
      try clear c1
      try clear c2
      try clear p2
      try clear c3
      try clear c4
      try clear c4b0
      try clear c4b1
      try clear c6
      try clear c6b0
      try clear c6b1
      try clear c8
      try clear c9
      try clear c17
      obtain ⟨x10_1,x11_1,rfl,HA,HK1,HO_8,HO_9,HO_10,HB⟩:=hrel
      cases gk with
      | zero => exact absurd HA.out (by simp [metrolabref53_AtRisk.l0])
      | succ k1 =>
       have H:=HA.out
       clear HA
       simp only [metrolabref53_AtRisk.l0] at H
       by_cases c19 : x11_1 < (t290.length : Int)
       ·rw [if_pos c19] at H
        have c19b0 : decide (x11_1 < (t290.length : Int)) = true:=decide_eq_true c19
        clear c19
        by_cases c20 : 0 ≤ x11_1
        ·rw [if_pos c20] at H
         have c20b0 : decide (0 ≤ x11_1) = true:=decide_eq_true c20
         clear c20
         replace H:=Option.bind_eq_some_iff.mp H
         obtain ⟨t294,A210,H⟩:=H
         replace H : (if t294 = true then (metrolabref53_AtRisk.l0 k1 t278 t290 x10_1 (wrap64 (x11_1 + 1))) else (if x10_1.length < 8796093022208 then (metrolabref53_AtRisk.l0 k1 t278 t290 (x10_1 ++ [rdOf ByteArray.empty t290 x11_1]) (wrap64 (x11_1 + 1))) else (none))) = some (r1,r2):=H
         have A21:=Aside0.mk A210
         clear A210
         by_cases c22 : t294 = true
         ·subst c22
          have H1 : (metrolabref53_AtRisk.l0 k1 t278 t290 x10_1 (wrap64 (x11_1 + 1))) = some (r1,r2):=by rw [if_pos rfl] at H;exact H
          clear H
          have H:=H1
          clear H1
          have H':=Aside0.mk H
          clear H
          obtain ⟨Ao23,co23,eo23⟩:=Kd.R_slice HO_9.out
          subst eo23
          have p293 : 0 ≤ (x11_1 : Int):=of_decide_eq_true (by first | (with_reducible assumption) | assumption)
          have q293 : x11_1 < (t290.length : Int):=of_decide_eq_true (by first | (with_reducible assumption) | assumption)
          obtain ⟨ad293,e293,hx293_0⟩:=Kd.at_string (Kd.R_reads' HO_9.out).2.2 x11_1 p293 q293
          cases e293
          replace p293:=eq_true p293
          replace q293:=eq_true q293
          obtain ⟨Ao24,co24,eo24⟩:=Kd.R_slice HO_8.out
          subst eo24
          go_wp2_with (first | ((with_reducible refine gate_callee (f:=57) rfl ?_);refine goesL_ (some 43) rfl rfl Try.func57 (by kernel_rfl) rfl #[.slice Ao24 t278.length co24,.string (rdOf ByteArray.empty t290 x11_1)] rfl (by (try simp only [List.map_toArray,List.map_cons,List.map_nil]);first | done | rfl | (simp only [List.length_drop,List.length_take];rfl)) ?_;(with_reducible refine (metrolabref20_Has.calls k1 _ _ t278 (rdOf ByteArray.empty t290 x11_1) true _ ?side1 ?side2 A21.out).mono ?_);(case side1 => repeat (first | exact (Kd.R_reads' HO_8.out).2.2 | (with_reducible refine Kd.C_alloc ?_ _) | (with_reducible refine Kd.C_drewN ?_ _) | (with_reducible refine Kd.C_drew ?_)));(case side2 => exact (Kd.R_reads' HO_8.out).2.1);rintro e w' ⟨rfl,⟨nd,rfl⟩⟩;refine ⟨_,rfl,?_⟩))
          go_roundg k1
          case measure => have:=HK1.out;omega
          case rel => exact ⟨(x10_1),(wrap64 (x11_1 + 1)),(by first | rfl | (simp;done) | (simp [*];done)),H',⟨by have:=HK1.out;omega⟩,⟨by (with_reducible repeat (first | apply Kd.R_alloc | apply Kd.R_drewN | apply Kd.R_drew));exact HO_8.out⟩,⟨by (with_reducible repeat (first | apply Kd.R_alloc | apply Kd.R_drewN | apply Kd.R_drew));exact HO_9.out⟩,⟨by (with_reducible repeat (first | apply Kd.R_alloc | apply Kd.R_drewN | apply Kd.R_drew));exact HO_10.out⟩,⟨by repeat (first | (with_reducible first | exact HB.out | apply below_alloc | apply pw_below_drewN | apply below_drew1) | exact HB.out)⟩⟩
         ·replace c22:=Bool.eq_false_iff.mpr c22
          subst c22
          have H1 : (if x10_1.length < 8796093022208 then (metrolabref53_AtRisk.l0 k1 t278 t290 (x10_1 ++ [rdOf ByteArray.empty t290 x11_1]) (wrap64 (x11_1 + 1))) else (none)) = some (r1,r2):=by rw [if_neg (show ¬ (false = true) by decide)] at H;exact H
          clear H
          have H:=H1
          clear H1
          by_cases c25 : x10_1.length < 8796093022208
          ·rw [if_pos c25] at H
           have LMc25:=Aside0.mk c25
           clear c25
           obtain ⟨y296,hy296⟩ : ∃ y_ : List ByteArray,y_ = (x10_1 ++ [rdOf ByteArray.empty t290 x11_1]):=⟨_,rfl⟩
           replace H : (metrolabref53_AtRisk.l0 k1 t278 t290 y296 (wrap64 (x11_1 + 1))) = some (r1,r2):=by first | (rw [hy296];with_reducible exact H) | (have H2_:=(Option.bind_some _ _).symm.trans H;rw [hy296];with_reducible exact H2_) | (have H2_:=(Option.bind_some _ _).symm.trans H;with_reducible exact H2_) | with_reducible exact H | (rw [hy296];exact H) | exact H
           have Ny296:=Aside0.mk hy296
           clear hy296
           have H':=Aside0.mk H
           clear H
           obtain ⟨Ao26,co26,eo26⟩:=Kd.R_slice HO_9.out
           subst eo26
           have p293 : 0 ≤ (x11_1 : Int):=of_decide_eq_true (by first | (with_reducible assumption) | assumption)
           have q293 : x11_1 < (t290.length : Int):=of_decide_eq_true (by first | (with_reducible assumption) | assumption)
           obtain ⟨ad293,e293,hx293_0⟩:=Kd.at_string (Kd.R_reads' HO_9.out).2.2 x11_1 p293 q293
           cases e293
           replace p293:=eq_true p293
           replace q293:=eq_true q293
           obtain ⟨Ao27,co27,eo27⟩:=Kd.R_slice HO_8.out
           subst eo27
           go_wp2_with (first | ((with_reducible refine gate_callee (f:=57) rfl ?_);refine goesL_ (some 43) rfl rfl Try.func57 (by kernel_rfl) rfl #[.slice Ao27 t278.length co27,.string (rdOf ByteArray.empty t290 x11_1)] rfl (by (try simp only [List.map_toArray,List.map_cons,List.map_nil]);first | done | rfl | (simp only [List.length_drop,List.length_take];rfl)) ?_;(with_reducible refine (metrolabref20_Has.calls k1 _ _ t278 (rdOf ByteArray.empty t290 x11_1) false _ ?side1 ?side2 A21.out).mono ?_);(case side1 => repeat (first | exact (Kd.R_reads' HO_8.out).2.2 | (with_reducible refine Kd.C_alloc ?_ _) | (with_reducible refine Kd.C_drewN ?_ _) | (with_reducible refine Kd.C_drew ?_)));(case side2 => exact (Kd.R_reads' HO_8.out).2.1);rintro e w' ⟨rfl,⟨nd,rfl⟩⟩;refine ⟨_,rfl,?_⟩;have p295 : 0 ≤ (x11_1 : Int):=of_decide_eq_true (by first | (with_reducible assumption) | assumption);have q295 : x11_1 < (t290.length : Int):=of_decide_eq_true (by first | (with_reducible assumption) | assumption);obtain ⟨ad295,e295,hx295_0⟩:=Kd.at_string (Kd.R_reads' HO_9.out).2.2 x11_1 p295 q295;obtain rfl : ad293 = ad295:=(by injection e295);replace p295:=eq_true p295;replace q295:=eq_true q295) | ((with_reducible refine gate_builtin (b:=.append) (xs:=#[.tmp 45,.tmp 50]) rfl ?_);at_builtin;refine Kd.R_append Kd.string (w0:=w) w.heap.size rfl (.tmp 45) (.tmp 50) 33 9 (.string ⟨#[]⟩) 16 rfl Try.underlying33 info9 rfl (by decide) (by omega) u10 x10_1 (rdOf ByteArray.empty t290 x11_1) [.string (rdOf ByteArray.empty t290 x11_1)] (fun k_ => some k_ ≠ (.slice Ao27 t278.length co27 : Value).ownBlock ∧ some k_ ≠ (.slice (some ad293) t290.length co26 : Value).ownBlock) (fun _ => False) rfl rfl ?aP (fun _ hk => hk.elim) ?aF ?aO ?aB ?aS ?aL ?_;(case aP => exact rfl);(case aB => exact (by repeat (first | (with_reducible first | exact HB.out | apply below_alloc | apply pw_below_drewN | apply below_drew1) | exact HB.out)));(case aF => exact (fun k_ hk => ⟨Kd.fresh' (Kd.R_lt (by (with_reducible repeat (first | apply Kd.R_alloc | apply Kd.R_drewN | apply Kd.R_drew));exact HO_8.out)) k_ hk,Kd.fresh' (Kd.R_lt (by (with_reducible repeat (first | apply Kd.R_alloc | apply Kd.R_drewN | apply Kd.R_drew));exact HO_9.out)) k_ hk⟩));(case aO => exact (by (with_reducible repeat (first | apply Kd.R_alloc | apply Kd.R_drewN | apply Kd.R_drew));exact HO_10.out));(case aS => exact (below_size (by repeat (first | (with_reducible first | exact HB.out | apply below_alloc | apply pw_below_drewN | apply below_drew1) | exact HB.out))));(case aL => have:=LMc25.out;omega);intro v297 w28 ho hb hg hat;rw [← Ny296.out] at ho;have n0_:=Aside0.mk (Kd.R_after (ok:=(fun k_ => some k_ ≠ (.slice (some ad293) t290.length co26 : Value).ownBlock)) (by (with_reducible repeat (first | apply Kd.R_alloc | apply Kd.R_drewN | apply Kd.R_drew));exact HO_8.out) hg hat);have n1_:=Aside0.mk (Kd.R_after (ok:=(fun k_ => some k_ ≠ (.slice Ao27 t278.length co27 : Value).ownBlock)) (by (with_reducible repeat (first | apply Kd.R_alloc | apply Kd.R_drewN | apply Kd.R_drew));exact HO_9.out) hg hat);have n2_:=Aside0.mk (hb);have n3_:=Aside0.mk (ho);clear HO_8;clear HO_9;clear HB;clear HO_10;have HO_8:=n0_;have HO_9:=n1_;have HB:=n2_;have HO298:=n3_;clear n0_ n1_ n2_ n3_;clear ho hb hg hat))
           go_roundg k1
           case measure => have:=HK1.out;omega
           case rel => exact ⟨(y296),(wrap64 (x11_1 + 1)),(by first | rfl | (simp;done) | (simp [*];done)),H',⟨by have:=HK1.out;omega⟩,⟨by (with_reducible repeat (first | apply Kd.R_alloc | apply Kd.R_drewN | apply Kd.R_drew));exact HO_8.out⟩,⟨by (with_reducible repeat (first | apply Kd.R_alloc | apply Kd.R_drewN | apply Kd.R_drew));exact HO_9.out⟩,⟨by (with_reducible repeat (first | apply Kd.R_alloc | apply Kd.R_drewN | apply Kd.R_drew));exact HO298.out⟩,⟨by repeat (first | (with_reducible first | exact HB.out | apply below_alloc | apply pw_below_drewN | apply below_drew1) | exact HB.out)⟩⟩
          ·rw [if_neg c25] at H
           exact absurd H (by simp)
        ·rw [if_neg c20] at H
         exact absurd H (by simp)
       ·rw [if_neg c19] at H
        have c19b0 : decide (x11_1 < (t290.length : Int)) = false:=decide_eq_false c19
        clear c19
        simp only [Option.some.injEq,Prod.mk.injEq] at H
        obtain ⟨rfl,rfl⟩:=H
        obtain ⟨Ao29,co29,eo29⟩:=Kd.R_slice HO_9.out
        subst eo29
        go_wp2
        go_ret2
        exact ⟨_,by first | rfl | (simp [errW_none,errW_some] <;> rfl) | (simp [*,errW_none,errW_some] <;> rfl),by (with_reducible repeat (first | apply Kd.R_alloc | apply Kd.R_drewN | apply Kd.R_drew));exact Kd.R_mono HO_10.out (fun _ hk => trivial),by repeat (first | (with_reducible first | exact HB.out | apply below_alloc | apply pw_below_drewN | apply below_drew1) | exact HB.out)⟩
    ·rw [if_neg c9] at H
     exact absurd H (by simp)
   ·rw [if_neg c8] at H
    exact absurd H (by simp)
  ·rw [if_neg c6] at H
   have c6b0 : (t277 == 0) = false:=beq_eq_false_iff_ne.mpr c6
   have c6b1 : (t277 != 0) = true:=bne_iff_ne.mpr c6
   simp only [Option.some.injEq,Prod.mk.injEq] at H
   obtain ⟨rfl,rfl⟩:=H
   go_enter Try.func27,Try.ntmps27
   go_wp2_with (first | ((with_reducible refine gate_callee (f:=17) rfl ?_);refine goesL_ (some 13) rfl rfl Try.func17 (by kernel_rfl) rfl #[.slice A0 l0.length c0] rfl (by (try simp only [List.map_toArray,List.map_cons,List.map_nil]);first | done | rfl | (simp only [List.length_drop,List.length_take];rfl)) ?_;(with_reducible refine (metrolabref53_Check.calls k _ _ l0 t276 _ ?side1 ?side2 A3.out).mono ?_);(case side1 => repeat (first | exact HR0.out | (with_reducible refine Kd.C_alloc ?_ _) | (with_reducible refine Kd.C_drewN ?_ _) | (with_reducible refine Kd.C_drew ?_)));(case side2 => exact HC0.out);rintro e w30 ⟨rfl,hb⟩;refine ⟨_,rfl,?_⟩;have n0_:=Aside0.mk (below_step (by repeat (first | (with_reducible first | exact HB.out | apply below_alloc | apply pw_below_drewN | apply below_drew1) | exact HB.out)) hb);clear HB;have HB:=n0_;clear n0_;(try clear hb);(try clear hb2);(try clear hk);(try clear hi)) | ((with_reducible refine gate_callee (f:=32) rfl ?_);refine goesL_ (some 18) rfl rfl Try.func32 (by kernel_rfl) rfl #[.string a1] rfl (by (try simp only [List.map_toArray,List.map_cons,List.map_nil]);first | done | rfl | (simp only [List.length_drop,List.length_take];rfl)) ?_;(with_reducible refine (metrolabref17_Name.calls k a1 t277 _ A5.out).mono ?_);rintro e w' ⟨rfl,⟨nd,rfl⟩⟩;refine ⟨_,rfl,?_⟩))
   go_ret2
   exact ⟨_,by first | rfl | (simp [errW_none,errW_some] <;> rfl) | (simp [*,errW_none,errW_some] <;> rfl),by first | exact Kd.R_nil _ _ _ _ _ | exact Kd.N_nil _ _ _ _ _ | exact Kd.V_nil _ _ _ _ _ | exact Kd.Q_nil _ _ _ _ _ | exact Kd.S_nil _ _ _ _ _,by repeat (first | (with_reducible first | exact HB.out | apply below_alloc | apply pw_below_drewN | apply below_drew1) | exact HB.out)⟩
 ·rw [if_neg c4] at H
  have c4b0 : (t276 == 0) = false:=beq_eq_false_iff_ne.mpr c4
  have c4b1 : (t276 != 0) = true:=bne_iff_ne.mpr c4
  simp only [Option.some.injEq,Prod.mk.injEq] at H
  obtain ⟨rfl,rfl⟩:=H
  go_enter Try.func27,Try.ntmps27
  go_wp2_with (first | ((with_reducible refine gate_callee (f:=17) rfl ?_);refine goesL_ (some 13) rfl rfl Try.func17 (by kernel_rfl) rfl #[.slice A0 l0.length c0] rfl (by (try simp only [List.map_toArray,List.map_cons,List.map_nil]);first | done | rfl | (simp only [List.length_drop,List.length_take];rfl)) ?_;(with_reducible refine (metrolabref53_Check.calls k _ _ l0 t276 _ ?side1 ?side2 A3.out).mono ?_);(case side1 => repeat (first | exact HR0.out | (with_reducible refine Kd.C_alloc ?_ _) | (with_reducible refine Kd.C_drewN ?_ _) | (with_reducible refine Kd.C_drew ?_)));(case side2 => exact HC0.out);rintro e w31 ⟨rfl,hb⟩;refine ⟨_,rfl,?_⟩;have n0_:=Aside0.mk (below_step (by repeat (first | (with_reducible first | exact HB.out | apply below_alloc | apply pw_below_drewN | apply below_drew1) | exact HB.out)) hb);clear HB;have HB:=n0_;clear n0_;(try clear hb);(try clear hb2);(try clear hk);(try clear hi)))
  go_ret2
  exact ⟨_,by first | rfl | (simp [errW_none,errW_some] <;> rfl) | (simp [*,errW_none,errW_some] <;> rfl),by first | exact Kd.R_nil _ _ _ _ _ | exact Kd.N_nil _ _ _ _ _ | exact Kd.V_nil _ _ _ _ _ | exact Kd.Q_nil _ _ _ _ _ | exact Kd.S_nil _ _ _ _ _,by repeat (first | (with_reducible first | exact HB.out | apply below_alloc | apply pw_below_drewN | apply below_drew1) | exact HB.out)⟩

end Go.Proofs.Ytnmmdeonkpfccaa.Pr
namespace Go.Proofs.Ytnmmdeonkpfccaa.Pr
open Go.RowKit Go.Proofs.YtnmmdeonkpfccaaW.PrintWords Go.Proofs.YtnmmdeonkpfccaaW.PrintLast Go.Proofs.YtnmmdeonkpfccaaW.PrintMore
attribute [local go_sem] max2_int min2_int max_two min_two max_three min_three max_four min_four
set_option linter.unusedVariables false
set_option linter.unusedSimpArgs false

/-! ### metrolablaw53_RecallReasons: function 5 -/
def metrolablaw53_RecallReasons.f (k : Nat) (l0 : List (S51)) (a1 : ByteArray) : Option (Bool):=(metrolablaw53_few.f k l0 a1).bind fun t299 => (if t299 = true then ((recall_Reason.f l0 a1).bind fun bt301 => ((metrolablaw53_own.f k l0).bind fun t304 => ((metrolabref53_Reason.f k t304 a1).bind fun bt307 => ((recall_AtRisk.f l0 a1).bind fun bt310 => ((metrolablaw53_own.f k l0).bind fun t314 => ((metrolabref53_AtRisk.f k t314 a1).bind fun bt317 => ((metrolablaw53_awake.f).bind fun t321 => (if t321 = true then (if bt301.1 = bt307.1 then (if bt301.2.1 = bt307.2.1 then (if bt301.2.2 = bt307.2.2 then ((slices_Equal_string_string.f k bt310.1 bt317.1).bind fun t322 => (if t322 = true then (some (bt310.2 == bt317.2)) else (some false))) else (some false)) else (some false)) else (some false)) else (some false))))))))) else ((metrolablaw53_awake.f).bind fun t300 => (some t300)))
theorem metrolablaw53_RecallReasons.mono : ∀ a0 a1 k,LeO (metrolablaw53_RecallReasons.f k a0 a1) (metrolablaw53_RecallReasons.f (k + 1) a0 a1):=by
 intro a0 a1 k
 unfold metrolablaw53_RecallReasons.f
 repeat' first
   | (with_reducible exact metrolablaw53_few.mono _ _ _)
   | (with_reducible exact metrolablaw53_own.mono _ _)
   | (with_reducible exact metrolabref53_AtRisk.mono _ _ _)
   | (with_reducible exact metrolabref53_Reason.mono _ _ _)
   | (with_reducible exact slices_Equal_string_string.mono _ _ _)
   | (with_reducible exact LeO.refl _)
   | (with_reducible exact LeO.none _)
   | (with_reducible refine LeO.ite ?_ ?_)
   | (with_reducible refine LeO.bind ?_ (fun _ => ?_))
   | exact metrolablaw53_few.mono _ _ _
   | exact metrolablaw53_own.mono _ _
   | exact metrolabref53_AtRisk.mono _ _ _
   | exact metrolabref53_Reason.mono _ _ _
   | exact slices_Equal_string_string.mono _ _ _
   | exact LeO.none _
   | refine LeO.ite ?_ ?_
   | refine LeO.bind ?_ (fun _ => ?_)
set_option maxHeartbeats 8000000 in
set_option maxRecDepth 100000 in
theorem metrolablaw53_RecallReasons.calls (k : Nat) (A0 : Option Addr) (c0 : Nat) (l0 : List (S51)) (a1 : ByteArray) (r : Bool) (w : World) (hr0 : Kd.C k51 w A0 l0.length l0) (hc0 : l0.length ≤ c0) (hlaw : Aside0 (r = true)) (h : metrolablaw53_RecallReasons.f k l0 a1 = some r) :
  Calls Try.prog 5 #[.slice A0 l0.length c0,.string a1] w fun e w' => e = .returned (.bool r) ∧ Below w.heap.size w w':=by
 have HR0:=Aside0.mk hr0
 have HC0:=Aside0.mk hc0
 clear hr0 hc0
 have HB:=Aside0.mk (Below.refl w.heap.size w)
 have H : ((metrolablaw53_few.f k l0 a1).bind fun t299 => (if t299 = true then ((recall_Reason.f l0 a1).bind fun bt301 => ((metrolablaw53_own.f k l0).bind fun t304 => ((metrolabref53_Reason.f k t304 a1).bind fun bt307 => ((recall_AtRisk.f l0 a1).bind fun bt310 => ((metrolablaw53_own.f k l0).bind fun t314 => ((metrolabref53_AtRisk.f k t314 a1).bind fun bt317 => ((metrolablaw53_awake.f).bind fun t321 => (if t321 = true then (if bt301.1 = bt307.1 then (if bt301.2.1 = bt307.2.1 then (if bt301.2.2 = bt307.2.2 then ((slices_Equal_string_string.f k bt310.1 bt317.1).bind fun t322 => (if t322 = true then (some (bt310.2 == bt317.2)) else (some false))) else (some false)) else (some false)) else (some false)) else (some false))))))))) else ((metrolablaw53_awake.f).bind fun t300 => (some t300)))) = some r:=h
 clear h
 replace H:=Option.bind_eq_some_iff.mp H
 obtain ⟨t299,A30,H⟩:=H
 replace H : (if t299 = true then ((recall_Reason.f l0 a1).bind fun bt301 => ((metrolablaw53_own.f k l0).bind fun t304 => ((metrolabref53_Reason.f k t304 a1).bind fun bt307 => ((recall_AtRisk.f l0 a1).bind fun bt310 => ((metrolablaw53_own.f k l0).bind fun t314 => ((metrolabref53_AtRisk.f k t314 a1).bind fun bt317 => ((metrolablaw53_awake.f).bind fun t321 => (if t321 = true then (if bt301.1 = bt307.1 then (if bt301.2.1 = bt307.2.1 then (if bt301.2.2 = bt307.2.2 then ((slices_Equal_string_string.f k bt310.1 bt317.1).bind fun t322 => (if t322 = true then (some (bt310.2 == bt317.2)) else (some false))) else (some false)) else (some false)) else (some false)) else (some false))))))))) else ((metrolablaw53_awake.f).bind fun t300 => (some t300))) = some r:=H
 have A3:=Aside0.mk A30
 clear A30
 by_cases c4 : t299 = true
 ·subst c4
  have H1 : ((recall_Reason.f l0 a1).bind fun bt301 => ((metrolablaw53_own.f k l0).bind fun t304 => ((metrolabref53_Reason.f k t304 a1).bind fun bt307 => ((recall_AtRisk.f l0 a1).bind fun bt310 => ((metrolablaw53_own.f k l0).bind fun t314 => ((metrolabref53_AtRisk.f k t314 a1).bind fun bt317 => ((metrolablaw53_awake.f).bind fun t321 => (if t321 = true then (if bt301.1 = bt307.1 then (if bt301.2.1 = bt307.2.1 then (if bt301.2.2 = bt307.2.2 then ((slices_Equal_string_string.f k bt310.1 bt317.1).bind fun t322 => (if t322 = true then (some (bt310.2 == bt317.2)) else (some false))) else (some false)) else (some false)) else (some false)) else (some false))))))))) = some r:=by rw [if_pos rfl] at H;exact H
  clear H
  have H:=H1
  clear H1
  replace H:=Option.bind_eq_some_iff.mp H
  obtain ⟨⟨t301,t302,t303⟩,A50,H⟩:=H
  replace H : ((metrolablaw53_own.f k l0).bind fun t304 => ((metrolabref53_Reason.f k t304 a1).bind fun bt307 => ((recall_AtRisk.f l0 a1).bind fun bt310 => ((metrolablaw53_own.f k l0).bind fun t314 => ((metrolabref53_AtRisk.f k t314 a1).bind fun bt317 => ((metrolablaw53_awake.f).bind fun t321 => (if t321 = true then (if t301 = bt307.1 then (if t302 = bt307.2.1 then (if t303 = bt307.2.2 then ((slices_Equal_string_string.f k bt310.1 bt317.1).bind fun t322 => (if t322 = true then (some (bt310.2 == bt317.2)) else (some false))) else (some false)) else (some false)) else (some false)) else (some false)))))))) = some r:=H
  have A5:=Aside0.mk A50
  clear A50
  replace H:=Option.bind_eq_some_iff.mp H
  obtain ⟨t304,A60,H⟩:=H
  replace H : ((metrolabref53_Reason.f k t304 a1).bind fun bt307 => ((recall_AtRisk.f l0 a1).bind fun bt310 => ((metrolablaw53_own.f k l0).bind fun t314 => ((metrolabref53_AtRisk.f k t314 a1).bind fun bt317 => ((metrolablaw53_awake.f).bind fun t321 => (if t321 = true then (if t301 = bt307.1 then (if t302 = bt307.2.1 then (if t303 = bt307.2.2 then ((slices_Equal_string_string.f k bt310.1 bt317.1).bind fun t322 => (if t322 = true then (some (bt310.2 == bt317.2)) else (some false))) else (some false)) else (some false)) else (some false)) else (some false))))))) = some r:=H
  have A6:=Aside0.mk A60
  clear A60
  replace H:=Option.bind_eq_some_iff.mp H
  obtain ⟨⟨t307,t308,t309⟩,A70,H⟩:=H
  replace H : ((recall_AtRisk.f l0 a1).bind fun bt310 => ((metrolablaw53_own.f k l0).bind fun t314 => ((metrolabref53_AtRisk.f k t314 a1).bind fun bt317 => ((metrolablaw53_awake.f).bind fun t321 => (if t321 = true then (if t301 = t307 then (if t302 = t308 then (if t303 = t309 then ((slices_Equal_string_string.f k bt310.1 bt317.1).bind fun t322 => (if t322 = true then (some (bt310.2 == bt317.2)) else (some false))) else (some false)) else (some false)) else (some false)) else (some false)))))) = some r:=H
  have A7:=Aside0.mk A70
  clear A70
  replace H:=Option.bind_eq_some_iff.mp H
  obtain ⟨⟨t310,t311⟩,A80,H⟩:=H
  replace H : ((metrolablaw53_own.f k l0).bind fun t314 => ((metrolabref53_AtRisk.f k t314 a1).bind fun bt317 => ((metrolablaw53_awake.f).bind fun t321 => (if t321 = true then (if t301 = t307 then (if t302 = t308 then (if t303 = t309 then ((slices_Equal_string_string.f k t310 bt317.1).bind fun t322 => (if t322 = true then (some (t311 == bt317.2)) else (some false))) else (some false)) else (some false)) else (some false)) else (some false))))) = some r:=H
  have A8:=Aside0.mk A80
  clear A80
  replace H:=Option.bind_eq_some_iff.mp H
  obtain ⟨t314,A90,H⟩:=H
  replace H : ((metrolabref53_AtRisk.f k t314 a1).bind fun bt317 => ((metrolablaw53_awake.f).bind fun t321 => (if t321 = true then (if t301 = t307 then (if t302 = t308 then (if t303 = t309 then ((slices_Equal_string_string.f k t310 bt317.1).bind fun t322 => (if t322 = true then (some (t311 == bt317.2)) else (some false))) else (some false)) else (some false)) else (some false)) else (some false)))) = some r:=H
  have A9:=Aside0.mk A90
  clear A90
  replace H:=Option.bind_eq_some_iff.mp H
  obtain ⟨⟨t317,t318⟩,A100,H⟩:=H
  replace H : ((metrolablaw53_awake.f).bind fun t321 => (if t321 = true then (if t301 = t307 then (if t302 = t308 then (if t303 = t309 then ((slices_Equal_string_string.f k t310 t317).bind fun t322 => (if t322 = true then (some (t311 == t318)) else (some false))) else (some false)) else (some false)) else (some false)) else (some false))) = some r:=H
  have A10:=Aside0.mk A100
  clear A100
  replace H:=Option.bind_eq_some_iff.mp H
  obtain ⟨t321,A110,H⟩:=H
  replace H : (if t321 = true then (if t301 = t307 then (if t302 = t308 then (if t303 = t309 then ((slices_Equal_string_string.f k t310 t317).bind fun t322 => (if t322 = true then (some (t311 == t318)) else (some false))) else (some false)) else (some false)) else (some false)) else (some false)) = some r:=H
  have A11:=Aside0.mk A110
  clear A110
  by_cases c12 : t321 = true
  ·subst c12
   have H1 : (if t301 = t307 then (if t302 = t308 then (if t303 = t309 then ((slices_Equal_string_string.f k t310 t317).bind fun t322 => (if t322 = true then (some (t311 == t318)) else (some false))) else (some false)) else (some false)) else (some false)) = some r:=by rw [if_pos rfl] at H;exact H
   clear H
   have H:=H1
   clear H1
   by_cases c13 : t301 = t307
   ·rw [if_pos c13] at H
    have c13b0 : (t301 == t307) = true:=beq_iff_eq.mpr c13
    have c13b1 : (t301 != t307) = false:=bne_eq_false_iff_eq.mpr c13
    clear c13
    by_cases c14 : t302 = t308
    ·rw [if_pos c14] at H
     have c14b0 : (t302 == t308) = true:=beq_iff_eq.mpr c14
     have c14b1 : (t302 != t308) = false:=bne_eq_false_iff_eq.mpr c14
     clear c14
     by_cases c15 : t303 = t309
     ·rw [if_pos c15] at H
      have c15b0 : (t303 == t309) = true:=beq_iff_eq.mpr c15
      have c15b1 : (t303 != t309) = false:=bne_eq_false_iff_eq.mpr c15
      clear c15
      replace H:=Option.bind_eq_some_iff.mp H
      obtain ⟨t322,A160,H⟩:=H
      replace H : (if t322 = true then (some (t311 == t318)) else (some false)) = some r:=H
      have A16:=Aside0.mk A160
      clear A160
      by_cases c17 : t322 = true
      ·subst c17
       have H1 : (some (t311 == t318)) = some r:=by rw [if_pos rfl] at H;exact H
       clear H
       have H:=H1
       clear H1
       obtain rfl:=Option.some.inj H
       go_enter Try.func5,Try.ntmps5
       go_wp2_with (first | ((with_reducible refine gate_callee (f:=9) rfl ?_);refine goesL_ (some 17) rfl rfl Try.func9 (by kernel_rfl) rfl #[.slice A0 l0.length c0,.string a1] rfl (by (try simp only [List.map_toArray,List.map_cons,List.map_nil]);first | done | rfl | (simp only [List.length_drop,List.length_take];rfl)) ?_;(with_reducible refine (metrolablaw53_few.calls k _ _ l0 a1 true _ ?side1 ?side2 A3.out).mono ?_);(case side1 => repeat (first | exact HR0.out | (with_reducible refine Kd.C_alloc ?_ _) | (with_reducible refine Kd.C_drewN ?_ _) | (with_reducible refine Kd.C_drew ?_)));(case side2 => exact HC0.out);rintro e w18 ⟨rfl,hb⟩;refine ⟨_,rfl,?_⟩;have n0_:=Aside0.mk (below_step (by repeat (first | (with_reducible first | exact HB.out | apply below_alloc | apply pw_below_drewN | apply below_drew1) | exact HB.out)) hb);clear HB;have HB:=n0_;clear n0_;(try clear hb);(try clear hb2);(try clear hk);(try clear hi)) | ((with_reducible refine gate_callee (f:=24) rfl ?_);refine goesL_ (some 23) rfl rfl Try.func24 (by kernel_rfl) rfl #[.slice A0 l0.length c0,.string a1] rfl (by (try simp only [List.map_toArray,List.map_cons,List.map_nil]);first | done | rfl | (simp only [List.length_drop,List.length_take];rfl)) ?_;(with_reducible refine (recall_Reason.calls _ _ l0 a1 t301 t302 t303 _ ?side1 ?side2 A5.out).mono ?_);(case side1 => repeat (first | exact (Kd.C_below HR0.out HB.out) | (with_reducible refine Kd.C_alloc ?_ _) | (with_reducible refine Kd.C_drewN ?_ _) | (with_reducible refine Kd.C_drew ?_)));(case side2 => exact HC0.out);rintro e w19 ⟨rfl,hb⟩;refine ⟨_,rfl,?_⟩;have n0_:=Aside0.mk (below_step (by repeat (first | (with_reducible first | exact HB.out | apply below_alloc | apply pw_below_drewN | apply below_drew1) | exact HB.out)) hb);clear HB;have HB:=n0_;clear n0_;(try clear hb);(try clear hb2);(try clear hk);(try clear hi)) | ((with_reducible refine gate_callee (f:=13) rfl ?_);refine goesL_ (some 29) rfl rfl Try.func13 (by kernel_rfl) rfl #[.slice A0 l0.length c0] rfl (by (try simp only [List.map_toArray,List.map_cons,List.map_nil]);first | done | rfl | (simp only [List.length_drop,List.length_take];rfl)) ?_;(with_reducible refine (metrolablaw53_own.calls k _ _ l0 t304 _ ?side1 ?side2 A6.out).mono ?_);(case side1 => repeat (first | exact (Kd.C_below HR0.out HB.out) | (with_reducible refine Kd.C_alloc ?_ _) | (with_reducible refine Kd.C_drewN ?_ _) | (with_reducible refine Kd.C_drew ?_)));(case side2 => exact HC0.out);rintro e w20 ⟨v305,rfl,ho0,hb⟩;refine ⟨_,rfl,?_⟩;have n0_:=Aside0.mk (Kd.R_lower ho0 (below_size (by repeat (first | (with_reducible first | exact HB.out | apply below_alloc | apply pw_below_drewN | apply below_drew1) | exact HB.out))));have n1_:=Aside0.mk (below_step (by repeat (first | (with_reducible first | exact HB.out | apply below_alloc | apply pw_below_drewN | apply below_drew1) | exact HB.out)) hb);clear HB;have HO306:=n0_;have HB:=n1_;clear n0_ n1_;(try clear hb);(try clear hb2);(try clear hk);(try clear hi);(try clear ho0);obtain ⟨Ao21,co21,eo21⟩:=Kd.R_slice HO306.out;subst eo21) | ((with_reducible refine gate_callee (f:=25) rfl ?_);refine goesL_ (some 31) rfl rfl Try.func25 (by kernel_rfl) rfl #[.slice Ao21 t304.length co21,.string a1] rfl (by (try simp only [List.map_toArray,List.map_cons,List.map_nil]);first | done | rfl | (simp only [List.length_drop,List.length_take];rfl)) ?_;(with_reducible refine (metrolabref53_Reason.calls k _ _ t304 a1 t307 t308 t309 _ ?side1 ?side2 A7.out).mono ?_);(case side1 => repeat (first | exact (Kd.R_reads' HO306.out).2.2 | (with_reducible refine Kd.C_alloc ?_ _) | (with_reducible refine Kd.C_drewN ?_ _) | (with_reducible refine Kd.C_drew ?_)));(case side2 => exact (Kd.R_reads' HO306.out).2.1);rintro e w22 ⟨rfl,hb⟩;refine ⟨_,rfl,?_⟩;have n0_:=Aside0.mk (Kd.R_below (by (with_reducible repeat (first | apply Kd.R_alloc | apply Kd.R_drewN | apply Kd.R_drew));exact HO306.out) hb);have n1_:=Aside0.mk (below_step (by repeat (first | (with_reducible first | exact HB.out | apply below_alloc | apply pw_below_drewN | apply below_drew1) | exact HB.out)) hb);clear HO306;clear HB;have HO306:=n0_;have HB:=n1_;clear n0_ n1_;(try clear hb);(try clear hb2);(try clear hk);(try clear hi)) | ((with_reducible refine gate_callee (f:=26) rfl ?_);refine goesL_ (some 38) rfl rfl Try.func26 (by kernel_rfl) rfl #[.slice A0 l0.length c0,.string a1] rfl (by (try simp only [List.map_toArray,List.map_cons,List.map_nil]);first | done | rfl | (simp only [List.length_drop,List.length_take];rfl)) ?_;(with_reducible refine (recall_AtRisk.calls _ _ l0 a1 t310 t311 _ ?side1 ?side2 A8.out).mono ?_);(case side1 => repeat (first | exact (Kd.C_below HR0.out HB.out) | (with_reducible refine Kd.C_alloc ?_ _) | (with_reducible refine Kd.C_drewN ?_ _) | (with_reducible refine Kd.C_drew ?_)));(case side2 => exact HC0.out);rintro e w23 ⟨v312,rfl,ho0,hb⟩;refine ⟨_,rfl,?_⟩;have n0_:=Aside0.mk (Kd.R_below (by (with_reducible repeat (first | apply Kd.R_alloc | apply Kd.R_drewN | apply Kd.R_drew));exact HO306.out) hb);have n1_:=Aside0.mk (Kd.R_lower ho0 (below_size (by repeat (first | (with_reducible first | exact HB.out | apply below_alloc | apply pw_below_drewN | apply below_drew1) | exact HB.out))));have n2_:=Aside0.mk (below_step (by repeat (first | (with_reducible first | exact HB.out | apply below_alloc | apply pw_below_drewN | apply below_drew1) | exact HB.out)) hb);clear HO306;clear HB;have HO306:=n0_;have HO313:=n1_;have HB:=n2_;clear n0_ n1_ n2_;(try clear hb);(try clear hb2);(try clear hk);(try clear hi);(try clear ho0)) | ((with_reducible refine gate_callee (f:=13) rfl ?_);refine goesL_ (some 43) rfl rfl Try.func13 (by kernel_rfl) rfl #[.slice A0 l0.length c0] rfl (by (try simp only [List.map_toArray,List.map_cons,List.map_nil]);first | done | rfl | (simp only [List.length_drop,List.length_take];rfl)) ?_;(with_reducible refine (metrolablaw53_own.calls k _ _ l0 t314 _ ?side1 ?side2 A9.out).mono ?_);(case side1 => repeat (first | exact (Kd.C_below HR0.out HB.out) | (with_reducible refine Kd.C_alloc ?_ _) | (with_reducible refine Kd.C_drewN ?_ _) | (with_reducible refine Kd.C_drew ?_)));(case side2 => exact HC0.out);rintro e w24 ⟨v315,rfl,ho0,hb⟩;refine ⟨_,rfl,?_⟩;have n0_:=Aside0.mk (Kd.R_elder' (by (with_reducible repeat (first | apply Kd.R_alloc | apply Kd.R_drewN | apply Kd.R_drew));exact HO306.out) (Kd.R_base ho0) hb);have n1_:=Aside0.mk (Kd.R_below (by (with_reducible repeat (first | apply Kd.R_alloc | apply Kd.R_drewN | apply Kd.R_drew));exact HO313.out) hb);have n2_:=Aside0.mk (Kd.R_lower (Kd.R_new' ho0 (Kd.R_lt (by (with_reducible repeat (first | apply Kd.R_alloc | apply Kd.R_drewN | apply Kd.R_drew));exact HO306.out))) (below_size (by repeat (first | (with_reducible first | exact HB.out | apply below_alloc | apply pw_below_drewN | apply below_drew1) | exact HB.out))));have n3_:=Aside0.mk (below_step (by repeat (first | (with_reducible first | exact HB.out | apply below_alloc | apply pw_below_drewN | apply below_drew1) | exact HB.out)) hb);clear HO306;clear HO313;clear HB;have HO306:=n0_;have HO313:=n1_;have HO316:=n2_;have HB:=n3_;clear n0_ n1_ n2_ n3_;(try clear hb);(try clear hb2);(try clear hk);(try clear hi);(try clear ho0);obtain ⟨Ao25,co25,eo25⟩:=Kd.R_slice HO316.out;subst eo25) | ((with_reducible refine gate_callee (f:=27) rfl ?_);refine goesL_ (some 45) rfl rfl Try.func27 (by kernel_rfl) rfl #[.slice Ao25 t314.length co25,.string a1] rfl (by (try simp only [List.map_toArray,List.map_cons,List.map_nil]);first | done | rfl | (simp only [List.length_drop,List.length_take];rfl)) ?_;(with_reducible refine (metrolabref53_AtRisk.calls k _ _ t314 a1 t317 t318 _ ?side1 ?side2 A10.out).mono ?_);(case side1 => repeat (first | exact (Kd.R_reads' HO316.out).2.2 | (with_reducible refine Kd.C_alloc ?_ _) | (with_reducible refine Kd.C_drewN ?_ _) | (with_reducible refine Kd.C_drew ?_)));(case side2 => exact (Kd.R_reads' HO316.out).2.1);rintro e w26 ⟨v319,rfl,ho0,hb⟩;refine ⟨_,rfl,?_⟩;have n0_:=Aside0.mk (Kd.R_below (by (with_reducible repeat (first | apply Kd.R_alloc | apply Kd.R_drewN | apply Kd.R_drew));exact HO306.out) hb);have n1_:=Aside0.mk (Kd.R_elder' (by (with_reducible repeat (first | apply Kd.R_alloc | apply Kd.R_drewN | apply Kd.R_drew));exact HO313.out) (Kd.R_base ho0) hb);have n2_:=Aside0.mk (Kd.R_below (by (with_reducible repeat (first | apply Kd.R_alloc | apply Kd.R_drewN | apply Kd.R_drew));exact HO316.out) hb);have n3_:=Aside0.mk (Kd.R_lower (Kd.R_new' ho0 (Kd.R_lt (by (with_reducible repeat (first | apply Kd.R_alloc | apply Kd.R_drewN | apply Kd.R_drew));exact HO313.out))) (below_size (by repeat (first | (with_reducible first | exact HB.out | apply below_alloc | apply pw_below_drewN | apply below_drew1) | exact HB.out))));have n4_:=Aside0.mk (below_step (by repeat (first | (with_reducible first | exact HB.out | apply below_alloc | apply pw_below_drewN | apply below_drew1) | exact HB.out)) hb);clear HO306;clear HO313;clear HO316;clear HB;have HO306:=n0_;have HO313:=n1_;have HO316:=n2_;have HO320:=n3_;have HB:=n4_;clear n0_ n1_ n2_ n3_ n4_;(try clear hb);(try clear hb2);(try clear hk);(try clear hi);(try clear ho0)) | ((with_reducible refine gate_callee (f:=10) rfl ?_);refine goesL_ (some 48) rfl rfl Try.func10 (by kernel_rfl) rfl #[] rfl (by (try simp only [List.map_toArray,List.map_cons,List.map_nil]);first | done | rfl | (simp only [List.length_drop,List.length_take];rfl)) ?_;(with_reducible refine (metrolablaw53_awake.calls  true _ A11.out).mono ?_);rintro e w27 ⟨rfl,hb⟩;refine ⟨_,rfl,?_⟩;have n0_:=Aside0.mk (Kd.R_below (by (with_reducible repeat (first | apply Kd.R_alloc | apply Kd.R_drewN | apply Kd.R_drew));exact HO306.out) hb);have n1_:=Aside0.mk (Kd.R_below (by (with_reducible repeat (first | apply Kd.R_alloc | apply Kd.R_drewN | apply Kd.R_drew));exact HO313.out) hb);have n2_:=Aside0.mk (Kd.R_below (by (with_reducible repeat (first | apply Kd.R_alloc | apply Kd.R_drewN | apply Kd.R_drew));exact HO316.out) hb);have n3_:=Aside0.mk (Kd.R_below (by (with_reducible repeat (first | apply Kd.R_alloc | apply Kd.R_drewN | apply Kd.R_drew));exact HO320.out) hb);have n4_:=Aside0.mk (below_step (by repeat (first | (with_reducible first | exact HB.out | apply below_alloc | apply pw_below_drewN | apply below_drew1) | exact HB.out)) hb);clear HO306;clear HO313;clear HO316;clear HO320;clear HB;have HO306:=n0_;have HO313:=n1_;have HO316:=n2_;have HO320:=n3_;have HB:=n4_;clear n0_ n1_ n2_ n3_ n4_;(try clear hb);(try clear hb2);(try clear hk);(try clear hi);obtain ⟨Ao28,co28,eo28⟩:=Kd.R_slice HO313.out;subst eo28;obtain ⟨Ao29,co29,eo29⟩:=Kd.R_slice HO320.out;subst eo29) | (go_at_call 19;(with_reducible refine (slices_Equal_string_string.calls k _ _ t310 _ _ t317 true _ ?side1 ?side2 ?side3 ?side4 A16.out).mono ?_);(case side1 => repeat (first | exact (Kd.R_reads' HO313.out).2.2 | (with_reducible refine Kd.C_alloc ?_ _) | (with_reducible refine Kd.C_drewN ?_ _) | (with_reducible refine Kd.C_drew ?_)));(case side2 => exact (Kd.R_reads' HO313.out).2.1);(case side3 => repeat (first | exact (Kd.R_reads' HO320.out).2.2 | (with_reducible refine Kd.C_alloc ?_ _) | (with_reducible refine Kd.C_drewN ?_ _) | (with_reducible refine Kd.C_drew ?_)));(case side4 => exact (Kd.R_reads' HO320.out).2.1);rintro e w' ⟨rfl,⟨nd,rfl⟩⟩))
       go_ret
       exact ⟨by first | rfl | (simp [errW_none,errW_some] <;> rfl) | (simp [*,errW_none,errW_some] <;> rfl),by repeat (first | (with_reducible first | exact HB.out | apply below_alloc | apply pw_below_drewN | apply below_drew1) | exact HB.out)⟩
      ·replace c17:=Bool.eq_false_iff.mpr c17
       subst c17
       have H1 : (some false) = some r:=by rw [if_neg (show ¬ (false = true) by decide)] at H;exact H
       clear H
       have H:=H1
       clear H1
       obtain rfl:=Option.some.inj H
       exact absurd hlaw.out (by decide)
     ·rw [if_neg c15] at H
      have c15b0 : (t303 == t309) = false:=beq_eq_false_iff_ne.mpr c15
      have c15b1 : (t303 != t309) = true:=bne_iff_ne.mpr c15
      obtain rfl:=Option.some.inj H
      exact absurd hlaw.out (by decide)
    ·rw [if_neg c14] at H
     have c14b0 : (t302 == t308) = false:=beq_eq_false_iff_ne.mpr c14
     have c14b1 : (t302 != t308) = true:=bne_iff_ne.mpr c14
     obtain rfl:=Option.some.inj H
     exact absurd hlaw.out (by decide)
   ·rw [if_neg c13] at H
    have c13b0 : (t301 == t307) = false:=beq_eq_false_iff_ne.mpr c13
    have c13b1 : (t301 != t307) = true:=bne_iff_ne.mpr c13
    obtain rfl:=Option.some.inj H
    exact absurd hlaw.out (by decide)
  ·replace c12:=Bool.eq_false_iff.mpr c12
   subst c12
   have H1 : (some false) = some r:=by rw [if_neg (show ¬ (false = true) by decide)] at H;exact H
   clear H
   have H:=H1
   clear H1
   obtain rfl:=Option.some.inj H
   exact absurd hlaw.out (by decide)
 ·replace c4:=Bool.eq_false_iff.mpr c4
  subst c4
  have H1 : ((metrolablaw53_awake.f).bind fun t300 => (some t300)) = some r:=by rw [if_neg (show ¬ (false = true) by decide)] at H;exact H
  clear H
  have H:=H1
  clear H1
  replace H:=Option.bind_eq_some_iff.mp H
  obtain ⟨t300,A820,H⟩:=H
  replace H : (some t300) = some r:=H
  have A82:=Aside0.mk A820
  clear A820
  obtain rfl:=Option.some.inj H
  go_enter Try.func5,Try.ntmps5
  go_wp2_with (first | ((with_reducible refine gate_callee (f:=9) rfl ?_);refine goesL_ (some 17) rfl rfl Try.func9 (by kernel_rfl) rfl #[.slice A0 l0.length c0,.string a1] rfl (by (try simp only [List.map_toArray,List.map_cons,List.map_nil]);first | done | rfl | (simp only [List.length_drop,List.length_take];rfl)) ?_;(with_reducible refine (metrolablaw53_few.calls k _ _ l0 a1 false _ ?side1 ?side2 A3.out).mono ?_);(case side1 => repeat (first | exact HR0.out | (with_reducible refine Kd.C_alloc ?_ _) | (with_reducible refine Kd.C_drewN ?_ _) | (with_reducible refine Kd.C_drew ?_)));(case side2 => exact HC0.out);rintro e w83 ⟨rfl,hb⟩;refine ⟨_,rfl,?_⟩;have n0_:=Aside0.mk (below_step (by repeat (first | (with_reducible first | exact HB.out | apply below_alloc | apply pw_below_drewN | apply below_drew1) | exact HB.out)) hb);clear HB;have HB:=n0_;clear n0_;(try clear hb);(try clear hb2);(try clear hk);(try clear hi)) | ((with_reducible refine gate_callee (f:=10) rfl ?_);refine goesL_ (some 19) rfl rfl Try.func10 (by kernel_rfl) rfl #[] rfl (by (try simp only [List.map_toArray,List.map_cons,List.map_nil]);first | done | rfl | (simp only [List.length_drop,List.length_take];rfl)) ?_;(with_reducible refine (metrolablaw53_awake.calls  t300 _ A82.out).mono ?_);rintro e w84 ⟨rfl,hb⟩;refine ⟨_,rfl,?_⟩;have n0_:=Aside0.mk (below_step (by repeat (first | (with_reducible first | exact HB.out | apply below_alloc | apply pw_below_drewN | apply below_drew1) | exact HB.out)) hb);clear HB;have HB:=n0_;clear n0_;(try clear hb);(try clear hb2);(try clear hk);(try clear hi)))
  go_ret
  exact ⟨by first | rfl | (simp [errW_none,errW_some] <;> rfl) | (simp [*,errW_none,errW_some] <;> rfl),by repeat (first | (with_reducible first | exact HB.out | apply below_alloc | apply pw_below_drewN | apply below_drew1) | exact HB.out)⟩

end Go.Proofs.Ytnmmdeonkpfccaa.Pr
/- An argument that is a slice of events, opened. -/
set_option linter.unusedVariables false
namespace Go.Proofs.Ytnmmdeonkpfccaa.Pr
open Go.RowKit Go.ChangeShapes Go.WideShapes Go.Deep Go.Proofs.YtnmmdeonkpfccaaW.PrintWords Go.Proofs.YtnmmdeonkpfccaaW.PrintLast Go.Proofs.YtnmmdeonkpfccaaW.PrintMore

/-- An event that a law may be given. -/
def okEv (x : S51) : Prop:=(Lit.int .i64 x.f0).wf = true ∧ x.f1.size ≤ maxLen ∧ x.f2.size ≤ maxLen ∧ x.f3.size ≤ maxLen
variable {H : Type} {enc : TypeId × Value → H} {w : World} {base : Nat} {spare : Nat → Bool} {held : Bool}
set_option maxRecDepth 20000 in
theorem open_event {n : Nat} {cs : List Value} {x : DataW H × List MemPlace} (h : DataW.trod enc Try.prog w base spare held n 51 cs = some x) : ∃ e : S51,cs = [.int .i64 e.f0,.string e.f1,.string e.f2,.string e.f3] ∧ okEv e:=by
 obtain ⟨ys,n',hn',hy,hlen,hyl,hf⟩:=DataW.trod_struct Try.underlying51 h
 have hc4 : cs.length = 4:=hlen.trans (by kernel_rfl)
 match cs,hc4 with
 | [c0,c1,c2,c3],_ =>
  match ys,hyl with
  | [y0,y1,y2,y3],_ =>
   have h0:=hf 0 _ rfl
   have h1:=hf 1 _ rfl
   have h2:=hf 2 _ rfl
   have h3:=hf 3 _ rfl
   have e3 : Try.prog.cellsOf 3 = 1:=by kernel_rfl
   have e9 : Try.prog.cellsOf 9 = 1:=by kernel_rfl
   change DataW.trod enc Try.prog w base spare held n' 3 (([c0,c1,c2,c3].drop 0).take (Try.prog.cellsOf 3)) = some y0 at h0
   change DataW.trod enc Try.prog w base spare held n' 9 (([c0,c1,c2,c3].drop 1).take (Try.prog.cellsOf 9)) = some y1 at h1
   change DataW.trod enc Try.prog w base spare held n' 9 (([c0,c1,c2,c3].drop 2).take (Try.prog.cellsOf 9)) = some y2 at h2
   change DataW.trod enc Try.prog w base spare held n' 9 (([c0,c1,c2,c3].drop 3).take (Try.prog.cellsOf 9)) = some y3 at h3
   rw [e3] at h0
   rw [e9] at h1 h2 h3
   obtain ⟨k,hk,_,hw⟩:=DataW.trod_int Try.underlying3 h0
   obtain ⟨s1,hs1,_,z1⟩:=DataW.trod_string Try.underlying9 h1
   obtain ⟨s2,hs2,_,z2⟩:=DataW.trod_string Try.underlying9 h2
   obtain ⟨s3,hs3,_,z3⟩:=DataW.trod_string Try.underlying9 h3
   cases hk;cases hs1;cases hs2;cases hs3
   exact ⟨⟨k,s1,s2,s3⟩,rfl,hw,z1,z2,z3⟩

theorem open_events {fuel : Nat} {cs : List Value} {x : DataW H × List MemPlace} (h : DataW.trod enc Try.prog w base spare held fuel 22 cs = some x) :
  (cs = [.slice none 0 0] ∧ x = (.nil,[])) ∨
  ∃ (a : Addr) (len cap : Nat) (es sp : List (DataW H)) (l : List S51),cs = [.slice (some a) len cap] ∧ len ≤ cap ∧ x.1 = .slice es sp ∧ es.length = len ∧ l.length = len ∧ Kd.C k51 w (some a) len l ∧ ∀ y ∈ l,okEv y:=by
 rcases open_slice Try.underlying22 h with h0 | ⟨a,len,cap,m,n,D,Pl,hcs,hb,hl,hm,hmm,hx,hi⟩
 ·exact .inl h0
 ·refine .inr ⟨a,len,cap,(List.range len).map D,(List.range (m - len)).map (fun j => D (len + j)),?_⟩
  have hC : Try.prog.cellsOf 51 = 4:=by kernel_rfl
  have hlm : len ≤ m:=by rw [hmm];split;exact hl;exact Nat.le_refl _
  have hev : ∀ i,i < len → ∃ e : S51,okEv e ∧ ∀ j u,[Value.int .i64 e.f0,.string e.f1,.string e.f2,.string e.f3][j]? = some u → w.cell? (a.add (i * 4 + j)) = some u:=by
   intro i hil
   obtain ⟨cs',hc,ht⟩:=hi i (Nat.lt_of_lt_of_le hil hlm)
   obtain ⟨e,he,hok⟩:=open_event ht
   rw [hC] at hc
   obtain ⟨_,hcl,hat⟩:=World.cells?_some hc
   refine ⟨e,hok,fun j u hj => ?_⟩
   have hj4 : j < 4:=by
    have:=(List.getElem?_eq_some_iff.1 hj).1
    simpa using this
   have:=hat j hj4
   rw [he,hj,Go.Deep.add_add] at this
   exact this
  have hf : ∃ f : Nat → S51,∀ i,i < len → okEv (f i) ∧ ∀ j u,[Value.int .i64 (f i).f0,.string (f i).f1,.string (f i).f2,.string (f i).f3][j]? = some u → w.cell? (a.add (i * 4 + j)) = some u:=by
   refine ⟨fun i => if hil : i < len then Classical.choose (hev i hil) else z51,fun i hil => ?_⟩
   simp only [dif_pos hil]
   exact Classical.choose_spec (hev i hil)
  obtain ⟨f,hf⟩:=hf
  refine ⟨(List.range len).map f,hcs,hl,by rw [hx],by simp,by simp,?_,?_⟩
  ·refine ⟨by simp,by unfold maxLen at hm;omega,fun _ => ⟨a,rfl,fun j p hj => ?_⟩⟩
   have hjl : j < len:=by
    have:=(List.getElem?_eq_some_iff.1 hj).1
    simpa using this
   have hp : p = f j:=by
    rw [List.getElem?_map,List.getElem?_range hjl] at hj
    exact (Option.some.inj hj).symm
   subst hp
   exact ⟨_,rfl,k51_mk w (f j),(hf j hjl).2⟩
  ·intro y hy
   obtain ⟨i,hi',rfl⟩:=List.mem_map.1 hy
   exact (hf i (List.mem_range.1 hi')).1
end Go.Proofs.Ytnmmdeonkpfccaa.Pr
namespace Go.Proofs.Ytnmmdeonkpfccaa.Pr
open Go.RowKit
def metrolablaw53_RecallReasons.Pure : Prop:=∀ (l0 : List S51) (a1 : ByteArray),l0.length * 56 ≤ 140737488351232 → (∀ x ∈ l0,okEv x) → a1.size ≤ 140737488351232 → ∃ k,metrolablaw53_RecallReasons.f k l0 a1 = some true
end Go.Proofs.Ytnmmdeonkpfccaa.Pr
/- The plain laws: reasons and parts at risk, on both sides. -/
set_option linter.unusedVariables false
namespace Go.Proofs.Ytnmmdeonkpfccaa.Pr
open Go.RowKit Go.Proofs.YtnmmdeonkpfccaaW.PrintWords Go.Proofs.YtnmmdeonkpfccaaW.PrintLast Go.Proofs.YtnmmdeonkpfccaaW.PrintMore

theorem meas_same (l : List S51) (a : ByteArray) : l.any (measP a) = l.any (msP a.data.toList):=by
 congr 1
 funext x
 unfold measP msP
 rw [Bool.eq_iff_iff]
 simp
theorem reasK_first (l : List S51) (a : ByteArray) : ∀ n,n ≤ l.length → (∃ j,l.length - n ≤ j ∧ j < l.length ∧ prt l j = a.data.toList ∧ (stA l j).2 = 3) →
  ∃ j : Nat,reasK l a n = ((j : Int),(stA l j).1) ∧ l.length - n ≤ j ∧ j < l.length ∧ prt l j = a.data.toList ∧ (stA l j).2 = 3 ∧ ∀ m,l.length - n ≤ m → m < j → ¬ (prt l m = a.data.toList ∧ (stA l m).2 = 3)
 | 0,_,⟨j,h1,h2,_⟩ => by omega
 | n + 1,hn,⟨j,h1,h2,h3,h4⟩ => by
  have ej : ∀ j,l.length - (n + 1) ≤ j ↔ j = l.length - 1 - n ∨ l.length - n ≤ j:=fun j => by omega
  unfold reasK
  rw [evK_gA,chkA_st l n (by omega)]
  by_cases hc : (gA l (l.length - 1 - n)).f0 = 0 ∧ (gA l (l.length - 1 - n)).f2.data.toList = a.data.toList ∧ (stA l (l.length - 1 - n)).2 = 3
  ·rw [if_pos hc]
   refine ⟨l.length - 1 - n,?_,by omega,by omega,hc.2.1,hc.2.2,fun m m1 m2 => by omega⟩
   rw [show (l.length : Int) - 1 - n = ((l.length - 1 - n : Nat) : Int) by omega]
  ·rw [if_neg hc]
   have hne : ¬ (prt l (l.length - 1 - n) = a.data.toList ∧ (stA l (l.length - 1 - n)).2 = 3):=fun h => hc ⟨st_meas (by omega),h.1,h.2⟩
   have h1' : l.length - n ≤ j:=by
    rcases (ej j).1 h1 with rfl | h
    ·exact absurd ⟨h3,h4⟩ hne
    ·exact h
   obtain ⟨i,k1,k2,k3,k4,k5,k6⟩:=reasK_first l a n (by omega) ⟨j,h1',h2,h3,h4⟩
   refine ⟨i,k1,by omega,k3,k4,k5,fun m m1 m2 => ?_⟩
   rcases (ej m).1 m1 with rfl | h
   ·exact hne
   ·exact k6 m h m2
theorem reason_ev (l : List S51) (hn : l.length ≤ 2513169434915) (a : ByteArray) : Ev (fun k => metrolabref53_Reason.f k (rl l) a) (reasonV l a):=by
 unfold metrolabref53_Reason.f reasonV
 rw [meas_same]
 refine Ev.bind (check_ev l hn) ?_
 by_cases h : checkV l = 0
 ·rw [if_neg (fun h2 => h2 h)];simp only [if_pos h]
  refine Ev.bind (refName_ev a) ?_
  by_cases hg : nameL a.data.toList = 0
  ·rw [if_neg (fun h2 => h2 hg)];simp only [if_pos hg]
   refine Ev.bind (measured_ev l hn a) ?_
   by_cases hm : l.any (msP a.data.toList) = true
   ·rw [if_neg (by rw [hm];decide)];simp only [if_pos hm]
    refine Ev.bind (recalled_ev l hn a) ?_
    by_cases hr : a.data.toList ∈ recL l
    ·rw [if_neg (fun h2 => h2 hr),decide_eq_true hr];simp only [if_true]
     obtain ⟨⟨j,h1,h2,h3⟩,_⟩:=(recL_mem _ _).1 hr
     obtain ⟨i,k1,k2,k3,k4,k5,k6⟩:=reasK_first l a l.length (Nat.le_refl _) ⟨j,by omega,h1,h3,h2⟩
     have hf : firstA l a.data.toList 3 l.length 0 = (i : Int):=by
      rcases firstA_some l a.data.toList 3 l.length 0 with ⟨_,f2⟩ | ⟨i',f1,f2,f3,f4,f5,f6⟩
      ·exact absurd ⟨j,by omega,by omega,h3,h2⟩ f2
      ·have : i' = i:=by
        rcases Nat.lt_trichotomy i' i with e | e | e
        ·exact absurd ⟨f4,f5⟩ (k6 i' (by omega) e)
        ·exact e
        ·exact absurd ⟨k4,k5⟩ (f6 i (by omega) e)
       rw [f1,this]
     have hfe:=first_ev l hn a 3
     rw [hf] at hfe
     refine Ev.bind hfe ?_
     refine Ev.bind (next_ev l hn i k3) ?_
     have hst : (stA l i).1 = ((nx (gA l i).f1.data.toList (i + 1) (l.drop (i + 1))).getD (-1,1)).1:=by
      have h0 : (gA l i).f0 = 0:=st_meas (by omega)
      unfold stA;rw [if_pos h0]
     rw [k1,hst]
     exact Ev.now _
    ·rw [if_pos hr,decide_eq_false hr];simp only [if_neg (show ¬ (false = true) by decide)];exact Ev.now _
   ·rw [if_pos (Bool.eq_false_iff.2 hm)];simp only [if_neg hm];exact Ev.now _
  ·rw [if_pos hg];simp only [if_neg hg];exact Ev.now _
 ·rw [if_pos h];simp only [if_neg h];exact Ev.now _

/-- A bad check behind a log. -/
def badE (a : ByteArray) : S51:=⟨2,a,⟨#[]⟩,⟨#[]⟩⟩
theorem nx_snoc (g : List UInt8) (a : ByteArray) : ∀ (r : List S51) (i : Nat),nx g i (r ++ [badE a]) = match nx g i r with | some p => some p | none => if a.data.toList = g then some (((i + r.length : Nat) : Int),3) else none
 | [],i => by
  show nx g i [badE a] = _
  unfold nx
  by_cases h : a.data.toList = g
  ·rw [if_pos (show ((badE a).f0 = 1 ∨ (badE a).f0 = 2) ∧ (badE a).f1.data.toList = g from ⟨.inr rfl,h⟩)]
   show _ = if a.data.toList = g then _ else _
   rw [if_pos h];rfl
  ·rw [if_neg (show ¬ (((badE a).f0 = 1 ∨ (badE a).f0 = 2) ∧ (badE a).f1.data.toList = g) from fun h2 => h h2.2)]
   show _ = if a.data.toList = g then _ else _
   rw [if_neg h];rfl
 | x :: r,i => by
  rw [List.cons_append]
  unfold nx
  split
  ·rfl
  ·rw [nx_snoc g a r (i + 1),List.length_cons,show i + 1 + r.length = i + (r.length + 1) by omega]
theorem gA_snoc {l : List S51} {a : ByteArray} {j : Nat} (h : j < l.length) : gA (l ++ [badE a]) j = gA l j:=by
 unfold gA;rw [List.getD_eq_getElem?_getD,List.getD_eq_getElem?_getD,List.getElem?_append_left h]
theorem gA_last (l : List S51) (a : ByteArray) : gA (l ++ [badE a]) l.length = badE a:=by
 unfold gA;rw [List.getD_eq_getElem?_getD,List.getElem?_append_right (Nat.le_refl _),Nat.sub_self];rfl
theorem st_one {l : List S51} {j : Nat} (hj : j < l.length) : (stA l j).2 = 1 ↔ knd l j = 0 ∧ nx (gA l j).f1.data.toList (j + 1) (l.drop (j + 1)) = none:=by
 constructor
 ·intro h
  have h0 : knd l j = 0:=st_meas (by omega)
  refine ⟨h0,?_⟩
  unfold stA at h
  rw [if_pos h0] at h
  cases hN : nx (gA l j).f1.data.toList (j + 1) (l.drop (j + 1)) with
  | none => rfl
  | some p =>
   rw [hN] at h
   obtain ⟨i,h1,h2,h3,h4,h5⟩:=nx_some (l.length - (j + 1)) (j + 1) (by omega) rfl hN
   simp only [Option.getD_some] at h
   omega
 ·rintro ⟨h0,h1⟩
  unfold stA
  rw [if_pos h0,h1];rfl
theorem st_snoc {l : List S51} {a : ByteArray} {j : Nat} (hj : j < l.length) : (stA (l ++ [badE a]) j).2 = if (stA l j).2 = 1 ∧ (gA l j).f1.data.toList = a.data.toList then 3 else (stA l j).2:=by
 have hd : (l ++ [badE a]).drop (j + 1) = l.drop (j + 1) ++ [badE a]:=List.drop_append_of_le_length (by omega)
 have h1:=st_one (l:=l) (j:=j) hj
 by_cases h0 : knd l j = 0
 ·have e : (stA (l ++ [badE a]) j).2 = ((nx (gA l j).f1.data.toList (j + 1) (l.drop (j + 1) ++ [badE a])).getD (-1,1)).2:=by
   unfold stA;rw [gA_snoc hj,if_pos h0,hd]
  rw [e,nx_snoc]
  cases hN : nx (gA l j).f1.data.toList (j + 1) (l.drop (j + 1)) with
  | none =>
   have hs1:=h1.2 ⟨h0,hN⟩
   show ((if a.data.toList = (gA l j).f1.data.toList then _ else none : Option (Int × Int)).getD (-1,1)).2 = _
   by_cases hg : (gA l j).f1.data.toList = a.data.toList
   ·rw [if_pos hg.symm,if_pos ⟨hs1,hg⟩];rfl
   ·rw [if_neg (show ¬ a.data.toList = (gA l j).f1.data.toList from fun h => hg h.symm),if_neg (show ¬ ((stA l j).2 = 1 ∧ (gA l j).f1.data.toList = a.data.toList) from fun h => hg h.2),hs1];rfl
  | some p =>
   have hs1 : ¬ (stA l j).2 = 1:=fun h => by rw [(h1.1 h).2] at hN;cases hN
   rw [if_neg (show ¬ ((stA l j).2 = 1 ∧ (gA l j).f1.data.toList = a.data.toList) from fun h => hs1 h.1)]
   show p.2 = _
   unfold stA
   rw [if_pos h0,hN];rfl
 ·have e1 : (stA (l ++ [badE a]) j).2 = 0:=by unfold stA;rw [gA_snoc hj,if_neg h0]
  have e2 : (stA l j).2 = 0:=by unfold stA;rw [if_neg h0]
  rw [e1,e2,if_neg (by omega)]
theorem st_last (l : List S51) (a : ByteArray) : (stA (l ++ [badE a]) l.length).2 = 0:=by
 unfold stA;rw [gA_last,if_neg (show ¬ (badE a).f0 = 0 by show ¬ (2 : Int) = 0;decide)]
theorem ex_snoc {n : Nat} {P : Nat → Prop} : (∃ j,j < n + 1 ∧ P j) ↔ (∃ j,j < n ∧ P j) ∨ P n:=by
 constructor
 ·rintro ⟨j,h1,h2⟩
  by_cases e : j = n
  ·subst e;exact .inr h2
  ·exact .inl ⟨j,by omega,h2⟩
 ·rintro (⟨j,h1,h2⟩ | h)
  ·exact ⟨j,by omega,h2⟩
  ·exact ⟨n,by omega,h⟩
theorem riskP_iff (a : ByteArray) (x : S51) (s : Int) : riskP a x s = true ↔ s = 3 ∨ s = 1 ∧ x.f1.data.toList = a.data.toList:=by
 unfold riskP;simp
theorem rec_snoc (l : List S51) (a : ByteArray) (q : Nm) : q ∈ recL (l ++ [badE a]) ↔ q ∈ keptL (riskP a) l:=by
 rw [recL_mem,keptL_mem,List.length_append,List.length_singleton,ex_snoc,ex_snoc]
 have n1 : ¬ ((stA (l ++ [badE a]) l.length).2 = 3 ∧ prt (l ++ [badE a]) l.length = q):=by rw [st_last];intro h;omega
 have n2 : ¬ ((knd (l ++ [badE a]) l.length = 3 ∨ (stA (l ++ [badE a]) l.length).2 = 2) ∧ prt (l ++ [badE a]) l.length = q):=by
  rw [st_last]
  unfold knd;rw [gA_last]
  rintro ⟨h | h,_⟩
  ·have : (2 : Int) = 3:=h
   omega
  ·omega
 simp only [or_iff_left n1,or_iff_left n2]
 have p1 : (∃ j,j < l.length ∧ (stA (l ++ [badE a]) j).2 = 3 ∧ prt (l ++ [badE a]) j = q) ↔ (∃ j,j < l.length ∧ knd l j = 0 ∧ (stA l j).2 ≠ 2 ∧ riskP a (gA l j) (stA l j).2 = true ∧ prt l j = q):=by
  refine exists_congr fun j => and_congr_right fun hj => ?_
  rw [st_snoc hj,show prt (l ++ [badE a]) j = prt l j by unfold prt;rw [gA_snoc hj],riskP_iff]
  constructor
  ·rintro ⟨h1,h2⟩
   split at h1
   ·rename_i hc;exact ⟨st_meas (by omega),by omega,.inr hc,h2⟩
   ·exact ⟨st_meas (by omega),by omega,.inl h1,h2⟩
  ·rintro ⟨h0,h1,h2,h3⟩
   refine ⟨?_,h3⟩
   split
   ·rfl
   ·rename_i hc;exact h2.resolve_right hc
 have p2 : (∃ j,j < l.length ∧ (knd (l ++ [badE a]) j = 3 ∨ (stA (l ++ [badE a]) j).2 = 2) ∧ prt (l ++ [badE a]) j = q) ↔ (∃ j,j < l.length ∧ (knd l j = 3 ∨ (stA l j).2 = 2) ∧ prt l j = q):=by
  refine exists_congr fun j => and_congr_right fun hj => ?_
  rw [st_snoc hj,show prt (l ++ [badE a]) j = prt l j by unfold prt;rw [gA_snoc hj],show knd (l ++ [badE a]) j = knd l j by unfold knd;rw [gA_snoc hj]]
  refine and_congr_left fun _ => or_congr_right ?_
  split
  ·rename_i hc
   rw [hc.1]
   constructor <;> intro h <;> omega
  ·exact Iff.rfl
 rw [p1,p2]
theorem has_go (L : List Nm) (hn : L.length ≤ 2513169434915) (a : ByteArray) : ∀ (d i : Nat),i ≤ L.length → L.length - i = d → Ev (fun k => metrolabref20_Has.l0 k (bs L) a (i : Int)) (decide (a.data.toList ∈ L.drop i)):=by
 intro d
 induction d with
 | zero =>
  intro i hi hd
  obtain rfl : i = L.length:=by omega
  refine Ev.const fun k => ?_
  simp only [metrolabref20_Has.l0]
  rw [if_neg (by rw [bs_len];omega),List.drop_length];rfl
 | succ d ih =>
  intro i hi hd
  obtain ⟨x,hx,hdr⟩:=drop_at (show i < L.length by omega)
  rw [hdr]
  by_cases h : x = a.data.toList
  ·rw [decide_eq_true (by rw [h];exact List.mem_cons_self ..)]
   refine Ev.const fun k => ?_
   simp only [metrolabref20_Has.l0]
   rw [if_pos (by rw [bs_len];omega),if_pos (by omega),rdB_at hx,mkB_list,if_pos (by rw [h,ByteArray.toList_eq])]
  ·have e : decide (a.data.toList ∈ x :: L.drop (i + 1)) = decide (a.data.toList ∈ L.drop (i + 1)):=by
    rw [decide_eq_decide,List.mem_cons]
    exact ⟨fun h2 => h2.resolve_left (fun e => h e.symm),.inr⟩
   rw [e]
   refine Ev.step (f:=fun k => metrolabref20_Has.l0 k (bs L) a ((i + 1 : Nat) : Int)) (fun k => ?_) (ih (i + 1) (by omega) (by omega))
   simp only [metrolabref20_Has.l0]
   rw [if_pos (by rw [bs_len];omega),if_pos (by omega),rdB_at hx,mkB_list,if_neg (by rw [ByteArray.toList_eq];exact h),wrap_nat (by omega)]
theorem has_ev (L : List Nm) (hn : L.length ≤ 2513169434915) (a : ByteArray) : Ev (fun k => metrolabref20_Has.f k (bs L) a) (decide (a.data.toList ∈ L)):=has_go L hn a L.length 0 (by omega) (by omega)
def noP (B : List Nm) (q : Nm) : Bool:=!decide (q ∈ B)
theorem risk_go (B L : List Nm) (hB : B.length ≤ 2513169434915) (hn : L.length ≤ 2513169434915) : ∀ (d i : Nat),i ≤ L.length → L.length - i = d →
  Ev (fun k => metrolabref53_AtRisk.l0 k (bs B) (bs L) (bs ((L.take i).filter (noP B))) (i : Int)) (bs (L.filter (noP B)),0):=by
 intro d
 induction d with
 | zero =>
  intro i hi hd
  obtain rfl : i = L.length:=by omega
  refine Ev.const fun k => ?_
  simp only [metrolabref53_AtRisk.l0]
  rw [if_neg (by rw [bs_len];omega),List.take_length]
 | succ d ih =>
  intro i hi hd
  obtain ⟨x,hx,hdr⟩:=drop_at (show i < L.length by omega)
  have hih:=ih (i + 1) (by omega) (by omega)
  have e : L.take (i + 1) = L.take i ++ [x]:=by rw [List.take_add_one,hx];rfl
  rw [e,List.filter_append] at hih
  refine Ev.step (f:=fun k => _) (fun k => by simp only [metrolabref53_AtRisk.l0];rw [if_pos (by rw [bs_len];omega),if_pos (by omega),rdB_at hx]) ?_
  refine Ev.bind (has_ev B hB (mkB x)) ?_
  by_cases h : x ∈ B
  ·rw [show decide ((mkB x).data.toList ∈ B) = true from decide_eq_true h]
   simp only [if_true]
   rw [show [x].filter (noP B) = [] by rw [List.filter_cons_of_neg (by unfold noP;simp [h])];rfl,List.append_nil] at hih
   rw [wrap_nat (by omega)];exact hih
  ·rw [show decide ((mkB x).data.toList ∈ B) = false from decide_eq_false h]
   have hfl:=List.length_filter_le (noP B) (L.take i)
   rw [List.length_take] at hfl
   simp only [if_neg (show ¬ (false = true) by decide),if_pos (show (bs ((L.take i).filter (noP B))).length < 8796093022208 by rw [bs_len];omega)]
   rw [show [x].filter (noP B) = [x] by rw [List.filter_cons_of_pos (by unfold noP;simp [h])];rfl] at hih
   rw [wrap_nat (by omega),bs_snoc];exact hih
theorem len_sortU (S : List Nm) (n : Nat) (h : (strs S).length ≤ n) : (sortU S).length ≤ n:=by unfold strs at h;rw [List.length_map] at h;exact h
theorem strs_bs (S : List Nm) : strs S = bs (sortU S):=rfl
theorem strs_recL_len (l : List S51) : (sortU (recL l)).length ≤ l.length:=by
 have h:=acc_strs (selP l) l.length (selP_mem l)
 have:=acc_len (selP l) l.length
 refine len_sortU _ _ ?_
 rw [← h,bs_len];exact this
theorem atRisk_ev (l : List S51) (hn : l.length ≤ 2513169434914) (a : ByteArray) : Ev (fun k => metrolabref53_AtRisk.f k (rl l) a) (atRiskV l a):=by
 unfold metrolabref53_AtRisk.f atRiskV
 refine Ev.bind (check_ev l (by omega)) ?_
 by_cases h : checkV l = 0
 ·rw [if_neg (fun h2 => h2 h)];simp only [if_pos h]
  refine Ev.bind (refName_ev a) ?_
  by_cases hg : nameL a.data.toList = 0
  ·rw [if_neg (fun h2 => h2 hg)];simp only [if_pos hg]
   refine Ev.bind (all_ev l (by omega)) ?_
   have e : ([] ++ rl l : List S67) ++ [(⟨2,a,(⟨#[]⟩ : ByteArray),(⟨#[]⟩ : ByteArray)⟩ : S67)] = rl (l ++ [badE a]):=by unfold rl;rw [List.map_append,List.nil_append];rfl
   simp only [Option.bind_some,if_pos (show ([] : List S67).length + (rl l).length < 2513169434916 by rw [rl_len];simp only [List.length_nil];omega),if_pos (show ([] ++ rl l : List S67).length < 2513169434916 by rw [List.nil_append,rl_len];omega)]
   rw [e]
   refine Ev.bind (all_ev (l ++ [badE a]) (by rw [List.length_append,List.length_singleton];omega)) ?_
   have h1:=strs_recL_len l
   have h2:=strs_recL_len (l ++ [badE a])
   rw [List.length_append,List.length_singleton] at h2
   have hgo:=risk_go (sortU (recL l)) (sortU (recL (l ++ [badE a]))) (by omega) (by omega) (sortU (recL (l ++ [badE a]))).length 0 (by omega) (by omega)
   have hs : bs ((sortU (recL (l ++ [badE a]))).filter (noP (sortU (recL l)))) = strs (riskL l a):=by
    refine (strs_of (List.Pairwise.filter _ (asc_sortU _)) fun q => ?_).symm
    unfold riskL noP
    rw [List.mem_filter,List.mem_filter,mem_sortU,rec_snoc]
    refine and_congr_right fun _ => ?_
    simp only [mem_sortU]
   rw [hs] at hgo
   exact hgo
  ·rw [if_pos hg];simp only [if_neg hg];exact Ev.now _
 ·rw [if_pos h];simp only [if_neg h];exact Ev.now _
theorem atRiskV_len (l : List S51) (a : ByteArray) : (atRiskV l a).1.length ≤ l.length + 1:=by
 unfold atRiskV
 split
 ·exact Nat.zero_le _
 ·split
  ·exact Nat.zero_le _
  ·have hs : bs ((sortU (recL (l ++ [badE a]))).filter (noP (sortU (recL l)))) = strs (riskL l a):=by
    refine (strs_of (List.Pairwise.filter _ (asc_sortU _)) fun q => ?_).symm
    unfold riskL noP
    rw [List.mem_filter,List.mem_filter,mem_sortU,rec_snoc]
    refine and_congr_right fun _ => ?_
    simp only [mem_sortU]
   show (strs (riskL l a)).length ≤ _
   rw [← hs,bs_len]
   have h2:=strs_recL_len (l ++ [badE a])
   rw [List.length_append,List.length_singleton] at h2
   exact Nat.le_trans (List.length_filter_le _ _) h2
end Go.Proofs.Ytnmmdeonkpfccaa.Pr
/- The statement about lists that RecallReasons comes to. -/
namespace Go.Proofs.Ytnmmdeonkpfccaa.Pure
open Go.RowKit Go.Proofs.Ytnmmdeonkpfccaa.Pr Go.Proofs.YtnmmdeonkpfccaaW.PrintWords Go.Proofs.YtnmmdeonkpfccaaW.PrintLast
theorem RecallReasons : metrolablaw53_RecallReasons.Pure:=by
 intro l0 a1 hl _ _
 have hn : l0.length ≤ 2513169434914:=by omega
 have hn1 : l0.length ≤ 2513169434915:=by omega
 refine Ev.rounds (g:=fun k => metrolablaw53_RecallReasons.f k l0 a1) ?_
 obtain ⟨b,hb⟩:=few_ev l0 a1 hn1
 refine Ev.bind hb ?_
 cases b
 ·simp only [if_neg (show ¬ (false = true) by decide)]
  exact Ev.bind (now_ev (show metrolablaw53_awake.f = some true from rfl)) (Ev.now _)
 ·simp only [if_true]
  refine Ev.bind (now_ev rfl) (Ev.bind (own_ev l0 hn1) (Ev.bind (reason_ev l0 hn1 a1) (Ev.bind (now_ev rfl) (Ev.bind (own_ev l0 hn1) (Ev.bind (atRisk_ev l0 hn a1) (Ev.bind (now_ev (show metrolablaw53_awake.f = some true from rfl)) ?_))))))
  simp only [if_true]
  refine Ev.bind (eqS_ev _ (Nat.le_trans (atRiskV_len l0 a1) (by omega))) ?_
  simp only [if_true,beq_self_eq_true]
  exact Ev.now _
end Go.Proofs.Ytnmmdeonkpfccaa.Pure
/- The row of the law RecallReasons, out of its statement about lists and the walk. -/
namespace Go.Proofs.Ytnmmdeonkpfccaa.recallReasons
open Go.ChangeShapes Go.WideShapes Go.ChangeAt Go.RowKit
open Go.ChangeMaps (open_string shut_string)
set_option linter.unusedVariables false
theorem own : ownKnob Try.prog.godebug = none:=by kernel_rfl
theorem laidOut : laidOutB Try.prog = true:=by kernel_rfl
set_option maxRecDepth 100000 in
theorem lifted (os : Os) (started : os.Started) (H : Type) (enc : TypeId × Value → H) :
  ReturnsInHanded {} Try.checked os 5 .any (Rows.recallReasonsSpec.pre6 enc Try.prog Try.f5 Rows.recallReasonsRow.domain false) (Rows.recallReasonsSpec.post enc Try.prog Try.f5 false true false false):=by
 refine returnsInHanded_of_change_sized (C:=Try.checked) own started (by kernel_rfl) Try.func5
  (ChangeSpec.witness6 (enc:=enc) (C:=Try.checked) false ⟨#[],#[.slice none 0 0,.string ByteArray.empty],[]⟩ 8 (by kernel_rfl) (by kernel_rfl) (by kernel_rfl) (by kernel_rfl)) ?_
 intro W base args ds gs before hval0 hW hcnd hsz0 _
 have hsz : (DataW.weightsEach Try.prog (Try.f5.params.toList ++ Rows.recallReasonsSpec.plain.varTypes Try.prog) (ds ++ gs)).all (· ≤ reachBytes) = true:=hsz0
 have hval : ∀ (j : Nat) t v,Try.f5.params[j]? = some t → args[j]? = some v → Value.okWide Try.prog W .any base t v:=hval0
 have hW':=hW
 obtain ⟨p,q,hA0,hV,rfl,hfz,hnd⟩:=hW
 have hA : DataW.TrodAll enc Try.prog W 0 (fun _ => true) true Try.f5.params.toList args.toList ds p:=hA0
 rw [Try.params5] at hA hval hsz
 obtain ⟨v0,vs0,d0,ds0,p0,q0,hargs,rfl,rfl,h0,r0⟩:=trodAll_cons hA
 obtain ⟨v1,vs1,d1,ds1,p1,q1,rfl,rfl,rfl,h1,r1⟩:=trodAll_cons r0
 obtain ⟨rfl,rfl,rfl⟩:=trodAll_nil r1
 obtain rfl : args = #[v0,v1]:=by cases args;simp_all
 obtain ⟨rfl,rfl⟩:=trodVars_none hV
 obtain ⟨a0,len0,cap0,rfl⟩:=okWide_slice Try.underlying22 (hval 0 22 v0 rfl rfl)
 have k0:=h0
 have lt0 : ∀ x ∈ p0,x.block < W.heap.size:=by obtain ⟨m,hm⟩:=k0;exact DataW.trod_lt m _ _ _ hm
 obtain ⟨z0,rfl,hC0,hcap0,hev0,y0⟩ : ∃ zs : List Pr.S51,len0 = zs.length ∧ YtnmmdeonkpfccaaW.PrintWords.Kd.C Pr.k51 W a0 zs.length zs ∧ zs.length ≤ cap0 ∧ (∀ y ∈ zs,Pr.okEv y) ∧ zs.length * 56 ≤ 140737488351232:=by
  obtain ⟨fuel,hf⟩:=h0
  rcases Pr.open_events hf with ⟨hcs,_⟩ | ⟨a,len,cap,es,sp,l,hcs,hl,hx,hes,hll,hC,hok⟩
  ·simp [Value.cells] at hcs
   obtain ⟨rfl,rfl,rfl⟩:=hcs
   exact ⟨[],rfl,⟨rfl,(by simp only [List.length_nil];omega),fun h => absurd h (by simp only [List.length_nil];omega)⟩,Nat.le_refl _,(fun _ h => by cases h),by simp⟩
  ·simp [Value.cells] at hcs
   obtain ⟨rfl,rfl,rfl⟩:=hcs
   have z:=sized_slice hsz (j:=0) (t:=22) rfl (congrArg some hx) Try.underlying22
   rw [show Try.prog.bytesOf 51 = 56 by kernel_rfl,hes,← hll] at z
   exact ⟨l,hll.symm,hll ▸ hC,hll ▸ hl,hok,Nat.le_trans (Nat.mul_le_mul_right _ (Nat.le_add_right _ _)) z⟩
 obtain ⟨a1,rfl,rfl,rfl,y1⟩:=open_string Try.underlying9 (hval 1 9 v1 rfl rfl) h1
 have w1 : a1.size ≤ 140737488351232:=by
  have z:=sized_string hsz (j:=1) (t:=9) rfl rfl
  rw [Array.length_toList] at z
  exact z
 clear hA0 hval0 hsz0 hsz
 obtain ⟨k,hk⟩:=Pure.RecallReasons z0 a1 y0 hev0 w1
 refine (Pr.metrolablaw53_RecallReasons.calls k a0 cap0 z0 a1 true W hC0 hcap0 ⟨rfl⟩ hk).mono fun e W' ⟨he,bel⟩ => ?_
 subst he
 exact ⟨_,rfl,_,_,_,[],_,[],hW',trodAll_mk1 (shut_bool Try.underlying4 _),(trodAll_cons_mk (Below.trod laidOut (by kernel_rfl) (of_decide_eq_true (by kernel_rfl)) k0 bel lt0) (trodAll_cons_mk (shut_string Try.underlying9 y1) trodAll_mk0)),rfl,bel.frame _,fun h => by cases h⟩
theorem over : Rows.recallReasonsRow.holds Try.pinned (OpenSpec.ofChange Rows.recallReasonsSpec) :=
 OpenClaim.holds_of_wide 5 Try.f5 rfl rfl rfl rfl rfl rfl rfl ⟨rfl,rfl,rfl,rfl,rfl⟩ rfl rfl rfl rfl rfl (by kernel_rfl) Try.func5 (by kernel_rfl)
  (of_decide_eq_true (by kernel_rfl)) (by unfold Func.isWrapper;first | (rw [if_pos (by decide +kernel)];kernel_rfl) | (rw [if_neg (by decide +kernel)];exact ⟨rfl,rfl⟩))
  (fun os started H enc _ => lifted os started H enc)
theorem proved : Rows.RecallReasonsSaid:=over
#print axioms proved
end Go.Proofs.Ytnmmdeonkpfccaa.recallReasons
namespace Go.Proofs.Ytnmmdeonkpfccaa
/-- The row, under a short name, for the claim. -/
theorem recallReasons_holds : Rows.RecallReasonsSaid:=recallReasons.proved
end Go.Proofs.Ytnmmdeonkpfccaa
