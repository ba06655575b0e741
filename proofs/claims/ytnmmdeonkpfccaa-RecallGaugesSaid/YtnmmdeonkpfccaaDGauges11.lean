/- A part of the statement's proof. -/
import Derived.Test.YtnmmdeonkpfccaaDGauges10
import Derived.Test.YtnmmdeonkpfccaaDGauges5
import Derived.Test.YtnmmdeonkpfccaaDGauges2
import Derived.RegionTactic
import Derived.ChangeAlike
import Derived.Test.YtnmmdeonkpfccaaDGauges7
import Derived.Test.YtnmmdeonkpfccaaDGauges3
import Derived.Test.YtnmmdeonkpfccaaDGauges9
import Derived.Test.YtnmmdeonkpfccaaDGauges4
set_option linter.unusedVariables false
namespace Go.Proofs.Ytnmmdeonkpfccaa.Pr
open Go.RowKit Go.Shelf Go.Maps Go.Proofs.YtnmmdeonkpfccaaW.PrintWords Go.Proofs.YtnmmdeonkpfccaaW.PrintLast Go.Proofs.YtnmmdeonkpfccaaW.PrintMore
open Go.Proofs.Ytnmmdeonkpfccaa.Rg
attribute [local go_sem] Oper.semAt_some
theorem RB.reads {w : World} {A0 : Option Addr} {c0 len : Nat} {a1 : ByteArray} {z2 z3 : Value} {W W' : World} {B : Nat} (h : RB w A0 c0 len a1 z2 z3 W) (hB : w.heap.size + 4 ≤ B) (hs : W.heap.size ≤ W'.heap.size) (h1 : W.os = W'.os) (h2 : W.tape = W'.tape) (h3 : W.output = W'.output) (h4 : ∀ i,i < B → W'.heap[i]? = W.heap[i]?) : RB w A0 c0 len a1 z2 z3 W' :=
 ⟨(h4 _ (by omega)).trans h.1,(h4 _ (by omega)).trans h.2.1,(h4 _ (by omega)).trans h.2.2.1,(h4 _ (by omega)).trans h.2.2.2.1,below_reads h.2.2.2.2 (by omega) hs h1 h2 h3 h4⟩
theorem RB.set {w : World} {A0 : Option Addr} {c0 len : Nat} {a1 : ByteArray} {z2 z3 : Value} {W : World} (h : RB w A0 c0 len a1 z2 z3 W) (u v : Value) :
  RB w A0 c0 len a1 u v ((W.setCell ⟨w.heap.size + 1 + 1,0,none⟩ u).setCell ⟨w.heap.size + 1 + 1 + 1,0,none⟩ v):=by
 obtain ⟨t2,t3⟩:=two_cells u v h.2.2.1 h.2.2.2.1
 refine ⟨?_,?_,t2,t3,(h.zero u v).2.2⟩
 ·rw [Below.heap_setCell _ _ _ _ (show w.heap.size ≠ w.heap.size + 1 + 1 + 1 by omega),Below.heap_setCell _ _ _ _ (show w.heap.size ≠ w.heap.size + 1 + 1 by omega)];exact h.1
 ·rw [Below.heap_setCell _ _ _ _ (show w.heap.size + 1 ≠ w.heap.size + 1 + 1 + 1 by omega),Below.heap_setCell _ _ _ _ (show w.heap.size + 1 ≠ w.heap.size + 1 + 1 by omega)];exact h.2.1
theorem RB.drewN {w : World} {A0 : Option Addr} {c0 len : Nat} {a1 : ByteArray} {z2 z3 : Value} {W : World} (h : RB w A0 c0 len a1 z2 z3 W) (n : Nat) : RB w A0 c0 len a1 z2 z3 (W.drewN n):=⟨h.1,h.2.1,h.2.2.1,h.2.2.2.1,pw_below_drewN h.2.2.2.2 n⟩
theorem wpIn_then {F : Fence} {n : Nat} {P : Program} {c : Code} {K : Act → World → Prop} {R : Exit → Act → World → Prop} {a : Act} {w : World} (h : c.wpIn F n P (Exit.then K (fun _ _ _ => False)) a w) : c.wpIn F n P (Exit.then K R) a w :=
 wpIn_mono h (fun e a w h => by cases e <;> first | exact h | exact h.elim)
set_option maxHeartbeats 4000000 in
set_option maxRecDepth 100000 in
theorem Reason_ok (A0 : Option Addr) (c0 : Nat) (l0 : List (S51)) (a1 : ByteArray) (w : World) (hr0 : Kd.C k51 w A0 l0.length l0) (hc0 : l0.length ≤ c0) (hck : checkV l0 = 0) (hg : nameL a1.data.toList = 0) (hh : l0.any (measP a1) = true) (hm : a1.data.toList ∈ recL l0) :
  Calls Try.prog 24 #[.slice A0 l0.length c0,.string a1] w fun e w' => e = .returned (.tuple #[.int .i64 (reasK l0 a1 l0.length).1,.int .i64 (reasK l0 a1 l0.length).2,.int .i64 0]) ∧ Below w.heap.size w w':=by
 obtain ⟨W4,hW4⟩ : ∃ W4,(((w.alloc (.cells #[.slice A0 l0.length c0] 22)).alloc (.cells #[.string a1] 9)).alloc (.cells #[.int .i64 0] 3)).alloc (.cells #[.int .i64 0] 3) = W4:=⟨_,rfl⟩
 have R0:=Aside0.mk (RB.start A0 c0 l0 a1 w W4 hW4)
 have k0:=R0.out.cells.1
 have HR0:=Aside0.mk hr0
 have HCK:=Aside0.mk (recall_Check.calls A0 c0 l0 0 _ (Kd.C_below hr0 R0.out.2.2.2.2) hc0 (congrArg some hck))
 have HN:=Aside0.mk (fun W => dimension_Name.calls a1 0 W (congrArg some hg))
 have HHS:=Aside0.mk (fun W (hR : RB w A0 c0 l0.length a1 (.int .i64 0) (.int .i64 0) W) => has_ok A0 c0 l0 a1 (w.heap.size + 1) W (Kd.C_below hr0 hR.2.2.2.2) (check_zero hck).1 hR.cells.2.1)
 rw [hh] at HHS
 have hm2 : a1.size ≤ maxLen:=by
  have:=nameL_len hg
  rw [Array.length_toList] at this
  unfold maxLen
  have h2 : a1.size = a1.data.size:=rfl
  omega
 obtain ⟨rr,hrr⟩ : ∃ rr,rr = true:=⟨_,rfl⟩
 have HRR:=Aside0.mk hrr
 have HLK:=Aside0.mk (fun (b : Nat) (W : World) (h2 : MapF Try.prog 9 W b 4096 (fSet (recL l0))) => (h2.look Try.underlying9 Try.underlying49 (Try.zeroValue4 W) hm2 false).trans (show _ = Result.ok (.bool rr) W from by rw [if_neg (by decide)];unfold fSet;rw [if_pos hm,hrr];rfl))
 have HH:=Aside0.mk hck
 obtain ⟨hl,hnx⟩:=check_zero hck
 have HG:=Aside0.mk (show ∀ x ∈ l0,x.f1.size ≤ 24 from fun x hx => (namesX_zero (hnx x hx)).2.1)
 have HLT:=Aside0.mk (slice_lt hr0)
 have hf16 : Fence.wide.fn 16:=trivial
 have hf49 : Fence.wide.fn 49:=trivial
 have hf29 : Fence.wide.fn 29:=trivial
 have hf41 : Fence.wide.fn 41:=trivial
 have hf38 : Fence.wide.fn 38:=trivial
 clear hr0 hg hck hh hm hnx hrr
 refine (callsIn_wide (n:=3)).1 ?_
 refine callsIn_of_wp_marks Try.func24 rfl trivial ?_ rfl
 simp only [Try.ntmps24,List.size_toArray,List.length_cons,List.length_nil,Nat.reduceAdd,Nat.reduceSub,Array.replicate_succ,Array.replicate_zero,List.push_toArray,List.append_toArray,List.nil_append,List.cons_append]
 gi_wp2_with (first | ((first | refine ⟨fun h => absurd h (by decide),?_⟩ | skip);gi_at_call 16;refine (callsIn_wide.2 HCK.out).mono ?_;rintro e w1 ⟨rfl,hb1⟩;have R1:=Aside0.mk (R0.out.below hb1);obtain ⟨u0,u1,u2,u3,u4,u5,u6⟩:=R1.out.cells;clear hb1 k0) | ((first | refine ⟨fun h => absurd h (by decide),?_⟩ | skip);gi_at_call 49;refine (callsIn_wide.2 (HN.out _)).mono ?_;rintro e w2 ⟨rfl,hb2⟩;have R2:=Aside0.mk (R1.out.below hb2);clear u0 u1 u2 u3 u4 u5 u6;obtain ⟨u0,u1,u2,u3,u4,u5,u6⟩:=R2.out.cells;clear hb2) | ((first | refine ⟨fun h => absurd h (by decide),?_⟩ | skip);gi_at_call 29;refine (callsIn_wide.2 (HHS.out _ R2.out)).mono ?_;rintro e w3 ⟨rfl,hb3⟩;have R3:=Aside0.mk (R2.out.below hb3);clear u0 u1 u2 u3 u4 u5 u6;obtain ⟨u0,u1,u2,u3,u4,u5,u6⟩:=R3.out.cells;clear hb3))
 refine wpIn_then ?_
 refine wpIn_wide.2 ?_
 go_region_with (go_at_call 41;refine (recalled_ok A0 c0 l0 _ (Kd.C_below HR0.out R3.out.drew.2.2.2.2) HH.out).mono ?_;rintro e w5 ⟨b,rfl,h1,h2,h3⟩;have R5:=Aside0.mk (R3.out.drew.below h3);clear u0 u1 u2 u3 u4 u5 u6;obtain ⟨u0,u1,u2,u3,u4,u5,u6⟩:=R5.out.cells;have hlk:=HLK.out b w5 h2;clear h1 h2 h3)
 all_goals clear hlk HLK HHS HN HCK
 all_goals obtain rfl:=HRR.out
 all_goals clear HRR
 all_goals gi_wp2_with ((first | refine ⟨fun h => absurd h (by decide),?_⟩ | skip);gi_at_call 38;refine (states_in _ A0 c0 l0.length _).mono ?_;rintro e w' ⟨rfl,rfl⟩)
 all_goals
  obtain ⟨Wl,hWl⟩ : ∃ Wl,w5.alloc (Obj.cells #[Value.slice A0 l0.length c0] 22) = Wl:=⟨_,rfl⟩
  have hb5:=R5.out.2.2.2.1
  have hsz5:=(Array.getElem?_eq_some_iff.1 hb5).1
  have hsl : Wl.heap.size = w5.heap.size + 1:=by rw [← hWl];simp
  have hbl : Below w5.heap.size w5 Wl:=by rw [← hWl];exact (Below.refl _ w5).alloc (Nat.le_refl _) _
  have RL:=Aside0.mk (R5.out.below hbl)
  have hL0 : Wl.cell? ⟨w5.heap.size,0,none⟩ = some (.slice A0 l0.length c0):=by
   rw [← hWl]
   exact (blk_cell (blk_new w5 (Obj.cells #[Value.slice A0 l0.length c0] 22)) 0).trans rfl
  rw [hWl]
  clear hWl hb5 u0 u1 u2 u3 u4 u5 u6 hf16 hf49 hf29 hf41 hf38
  refine rangeB2 (gf:=64) (lb:=#[.pointer (some ⟨w5.heap.size,0,none⟩)]) rfl (enters_of Try.func64 (by kernel_rfl) rfl) (fun i => i = w.heap.size + 2 ∨ i = w.heap.size + 3) (fun i hi => by omega)
   (states_seq _ A0 c0 w5.heap.size l0 Wl hl HG.out (Kd.C_below HR0.out RL.out.2.2.2.2) (fun ad ha hne h => by have:=HLT.out ad ha hne;omega) (fun ad ha hne => by have:=HLT.out ad ha hne;omega) hL0 (fun h => by omega)) (fun _ => rfl)
   (fun pre Wr => ∃ (k : Nat),k ≤ l0.length ∧ pre = statK l0 k ∧ RB w A0 c0 l0.length a1 (.int .i64 (reasK l0 a1 k).1) (.int .i64 (reasK l0 a1 k).2) Wr)
   ?hI ⟨0,by omega,rfl,RL.out⟩ ?round ?done
  case hI =>
   rintro pre Wr Wr' ⟨k,hk,hp,hr⟩ hsz hsz2 h1 h2 h3 h4
   exact ⟨k,hk,hp,hr.reads (by omega) hsz2 h1 h2 h3 h4⟩
  case round =>
   rintro m pre ⟨i,a,s⟩ Wr hI hsz hpf
   have HI:=Aside0.mk hI
   clear hI hpf hL0 hbl
   simp only [encS,pairV]
   gi_wp2
   obtain ⟨k,hk,hp,hr⟩:=HI.out
   refine ⟨(KeepC.refl _ _).alloc _,⟨k,hk,hp,hr.below ((Below.refl _ Wr).alloc (Nat.le_refl _) _)⟩,?_⟩
   clear k hk hp hr
   rintro m2 pre2 W2 hone ⟨k,hk,hp,hr⟩ hsz2 ⟨k',hk',hpk⟩
   obtain ⟨rfl,hx⟩:=statK_next hp hpk
   simp only [Prod.mk.injEq] at hx
   obtain ⟨hi,hc⟩:=hx
   have hcs : s = (chkA l0 k).2:=by rw [← hc]
   have hca : a = (chkA l0 k).1:=by rw [← hc]
   have hbx : W2.heap[Wr.heap.size]? = some (.cells #[.int .i64 a,.int .i64 s] 65):=(hone.2.2.2.2 _ (by omega)).trans (blk_new _ _)
   have hc0' : W2.cell? ⟨Wr.heap.size,0,none⟩ = some (.int .i64 a):=(blk_cell hbx 0).trans rfl
   have hc1 : W2.cell? ⟨Wr.heap.size,1,none⟩ = some (.int .i64 s):=(blk_cell hbx 1).trans rfl
   have hi0 : 0 ≤ i:=by rw [hi];omega
   have hi1 : i < (l0.length : Int):=by rw [hi];omega
   obtain ⟨x,hx⟩ : ∃ x,x = evK l0 k:=⟨_,rfl⟩
   have hrd : rd_T51 l0 i = x:=by unfold rd_T51;rw [hx,hi];unfold evK;congr 1;omega
   obtain ⟨ad,e1,hx0,hx1,hx2,hx3⟩:=at_T51 HR0.out i hi0 hi1
   have HA:=Aside0.mk e1
   rw [hrd] at hx0 hx1 hx2 hx3
   replace hx0:=(hr.2.2.2.2.cell (World.block_lt_of_cell? w _ hx0)).trans hx0
   replace hx2:=(hr.2.2.2.2.cell (World.block_lt_of_cell? w _ hx2)).trans hx2
   have HP:=Aside0.mk hpk
   have HR:=Aside0.mk hr
   obtain ⟨u0,u1,u2,u3,u4,u5,u6⟩:=HR.out.cells
   have HKS:=Aside0.mk (show reasK l0 a1 (k + 1) = if x.f0 = 0 ∧ x.f2.data.toList = a1.data.toList ∧ s = 3 then (i,a) else reasK l0 a1 k from by rw [hcs,hx,hi,hca];rfl)
   have FIN:=Aside0.mk (show ∀ W',RB w A0 c0 l0.length a1 (.int .i64 (reasK l0 a1 (k + 1)).1) (.int .i64 (reasK l0 a1 (k + 1)).2) W' → KeepC (fun i => i = w.heap.size + 2 ∨ i = w.heap.size + 3) W2 W' →
     KeepC (fun i => i = w.heap.size + 2 ∨ i = w.heap.size + 3) W2 W' ∧ ∃ k,k ≤ l0.length ∧ pre2 ++ [(i,a,s)] = statK l0 k ∧ RB w A0 c0 l0.length a1 (.int .i64 (reasK l0 a1 k).1) (.int .i64 (reasK l0 a1 k).2) W' from fun W' h1 h2 => ⟨h2,k + 1,hk',HP.out,h1⟩)
   clear hr hpk hcs hca hi hc hp hbx hone HI hx hrd hx1 hx3
   by_cases k0 : x.f0 = 0
   ·rw [k0] at hx0
    by_cases k2 : x.f2.data.toList = a1.data.toList
    ·have he : x.f2.toList = a1.toList:=by rw [ByteArray.toList_eq,ByteArray.toList_eq];exact k2
     have he1 : (x.f2.toList == a1.toList) = true:=beq_iff_eq.mpr he
     have he2 : decide (x.f2.toList = a1.toList) = true:=decide_eq_true he
     by_cases k3 : s = 3
     ·have HK2:=Aside0.mk (HKS.out.trans (if_pos ⟨k0,k2,k3⟩))
      rw [k3] at hc1
      clear k0 k2 k3 he
      gi_wp2
      refine region_quiet_round rfl (by kernel_rfl) (by kernel_rfl) ?_
      repeat (gi_big_quiet_step (fail))
      refine wpQuietIn_nil ?_
      intro _ hw'
      obtain ⟨nq,hw''⟩:=hw'
      subst hw''
      gi_wp2
      gi_region
      all_goals exact FIN.out _ (by rw [HK2.out];exact (HR.out.drewN _).set _ _) (KeepC.setCell (C:=fun i => i = w.heap.size + 2 ∨ i = w.heap.size + 3) (X:=W2) (p:=⟨w.heap.size + 1 + 1 + 1,0,none⟩) (KeepC.setCell (C:=fun i => i = w.heap.size + 2 ∨ i = w.heap.size + 3) (X:=W2) (Y:=W2.drewN (nq + 1)) (p:=⟨w.heap.size + 1 + 1,0,none⟩) ⟨Nat.le_refl _,fun _ _ _ => rfl⟩ (.inr (.inl rfl)) _) (.inr (.inr rfl)) _)
     ·have k3b : (s == 3) = false:=beq_eq_false_iff_ne.mpr k3
      have HK2:=Aside0.mk (HKS.out.trans (if_neg (fun h => k3 h.2.2)))
      clear k0 k2 k3 he
      gi_wp2
      refine region_quiet_round rfl (by kernel_rfl) (by kernel_rfl) ?_
      repeat (gi_big_quiet_step (fail))
      refine wpQuietIn_nil ?_
      intro _ hw'
      obtain ⟨nq,hw''⟩:=hw'
      subst hw''
      gi_wp2
      exact FIN.out _ (by rw [HK2.out];exact HR.out.drewN _) ⟨Nat.le_refl _,fun _ _ _ => rfl⟩
    ·have he : ¬ x.f2.toList = a1.toList:=by rw [ByteArray.toList_eq,ByteArray.toList_eq];exact k2
     have he1 : (x.f2.toList == a1.toList) = false:=beq_eq_false_iff_ne.mpr he
     have he2 : decide (x.f2.toList = a1.toList) = false:=decide_eq_false he
     have HK2:=Aside0.mk (HKS.out.trans (if_neg (fun h => k2 h.2.1)))
     clear k0 k2 he
     gi_wp2
     refine region_quiet_round rfl (by kernel_rfl) (by kernel_rfl) ?_
     repeat (gi_big_quiet_step (fail))
     refine wpQuietIn_nil ?_
     intro _ hw'
     obtain ⟨nq,hw''⟩:=hw'
     subst hw''
     gi_wp2
     exact FIN.out _ (by rw [HK2.out];exact HR.out.drewN _) ⟨Nat.le_refl _,fun _ _ _ => rfl⟩
   ·have k0b : (x.f0 == 0) = false:=beq_eq_false_iff_ne.mpr k0
    have HK2:=Aside0.mk (HKS.out.trans (if_neg (fun h => k0 h.1)))
    clear k0
    gi_wp2
    refine region_quiet_round rfl (by kernel_rfl) (by kernel_rfl) ?_
    repeat (gi_big_quiet_step (fail))
    refine wpQuietIn_nil ?_
    intro _ hw'
    obtain ⟨nq,hw''⟩:=hw'
    subst hw''
    gi_wp2
    exact FIN.out _ (by rw [HK2.out];exact HR.out.drewN _) ⟨Nat.le_refl _,fun _ _ _ => rfl⟩
  case done =>
   rintro xs W' rfl ⟨k,hk,hp,hr⟩ hK hsz
   obtain rfl:=statK_inj hp
   have HR:=Aside0.mk hr
   obtain ⟨u0,u1,u2,u3,u4,u5,u6⟩:=HR.out.cells
   clear hr hL0 hbl hp
   gi_wp2
   gi_region
   all_goals gi_wp2
   all_goals
    have hD:=(Array.getElem?_eq_some_iff.1 hK).1
    have hK2 : (((W'.setCell ⟨w.heap.size + 1 + 1,0,none⟩ (.int .i64 (reasK l0 a1 l0.length).1)).setCell ⟨w.heap.size + 1 + 1 + 1,0,none⟩ (.int .i64 (reasK l0 a1 l0.length).2)).drew).heap[Wl.heap.size]? = some (.deferred (some [])) :=
     (Below.heap_setCell _ _ _ _ (show Wl.heap.size ≠ w.heap.size + 1 + 1 + 1 by omega)).trans ((Below.heap_setCell _ _ _ _ (show Wl.heap.size ≠ w.heap.size + 1 + 1 by omega)).trans hK)
    have RF:=((HR.out.set (.int .i64 (reasK l0 a1 l0.length).1) (.int .i64 (reasK l0 a1 l0.length).2)).drew).reads (W':=((((W'.setCell ⟨w.heap.size + 1 + 1,0,none⟩ (.int .i64 (reasK l0 a1 l0.length).1)).setCell ⟨w.heap.size + 1 + 1 + 1,0,none⟩ (.int .i64 (reasK l0 a1 l0.length).2)).drew).putObj Wl.heap.size (.deferred none))) (B:=Wl.heap.size) (by omega) (by simp) rfl rfl rfl (fun i hi => World.putObj_heap_other (by omega))
    refine ⟨by simp,.inl ⟨_,_,rfl,run_takeDeferred hK2,?_⟩⟩
    obtain ⟨_,_,z2,_,z3,_,_⟩:=RF.cells
    exact ⟨_,results_cct (fn:=Try.f24) rfl _ _ rfl rfl z2 z3,rfl,RF.2.2.2.2⟩
theorem recall_Reason.calls (A0 : Option Addr) (c0 : Nat) (l0 : List (S51)) (a1 : ByteArray) (r1 : Int) (r2 : Int) (r3 : Int) (w : World) (hr0 : Kd.C k51 w A0 l0.length l0) (hc0 : l0.length ≤ c0) (h : recall_Reason.f l0 a1 = some (r1,r2,r3)) :
  Calls Try.prog 24 #[.slice A0 l0.length c0,.string a1] w fun e w' => e = .returned (.tuple #[.int .i64 r1,.int .i64 r2,.int .i64 r3]) ∧ Below w.heap.size w w':=by
 have e:=Option.some.inj h
 unfold reasonV at e
 split at e
 ·rename_i hg
  cases e
  exact Reason_err1 A0 c0 l0 a1 _ w hr0 hc0 rfl hg
 ·rename_i hg
  have hg0 : checkV l0 = 0:=Classical.byContradiction hg
  split at e
  ·rename_i hn
   cases e
   exact Reason_err2 A0 c0 l0 a1 _ w hr0 hc0 hg0 rfl hn
  ·rename_i hn
   have hn0 : nameL a1.data.toList = 0:=Classical.byContradiction hn
   split at e
   ·rename_i hh
    cases e
    exact Reason_err3 A0 c0 l0 a1 w hr0 hc0 hg0 hn0 hh
   ·rename_i hh
    have hh0 : l0.any (measP a1) = true:=by cases hb : l0.any (measP a1) with | true => rfl | false => exact absurd hb hh
    split at e
    ·rename_i hm
     cases e
     exact Reason_err4 A0 c0 l0 a1 w hr0 hc0 hg0 hn0 hh0 hm
    ·rename_i hm
     cases e
     exact Reason_ok A0 c0 l0 a1 w hr0 hc0 hg0 hn0 hh0 (Classical.byContradiction hm)
end Go.Proofs.Ytnmmdeonkpfccaa.Pr
set_option linter.unusedVariables false
namespace Go.Proofs.Ytnmmdeonkpfccaa.Pr
open Go.RowKit Go.Shelf Go.Maps Go.Proofs.YtnmmdeonkpfccaaW.PrintWords Go.Proofs.YtnmmdeonkpfccaaW.PrintLast Go.Proofs.YtnmmdeonkpfccaaW.PrintMore
open Go.Proofs.Ytnmmdeonkpfccaa.Rg
def riskP (g : ByteArray) (x : S51) (s : Int) : Bool:=s == 3 || (s == 1 && decide (x.f1.data.toList = g.data.toList))
set_option maxHeartbeats 1000000 in
set_option maxRecDepth 100000 in
theorem judges54 (g : ByteArray) (Bg : Nat) (w : World) (hb : w.cell? ⟨Bg,0,none⟩ = some (.string g)) : Judges 54 #[.pointer (some ⟨Bg,0,none⟩)] (riskP g) w:=by
 intro W x s hW
 show Calls Try.prog 54 #[.agg #[.int .i64 x.f0,.string x.f1,.string x.f2,.string x.f3],.int .i64 s,.pointer (some ⟨Bg,0,none⟩)] W _
 have hbl:=World.block_lt_of_cell? w _ hb
 have hbW : W.cell? ⟨Bg,0,none⟩ = some (.string g):=(hW.cell (p:=⟨Bg,0,none⟩) hbl).trans hb
 have hbB : ∀ o : Obj,(W.alloc o).cell? ⟨Bg,0,none⟩ = some (.string g):=fun o => (((Below.refl _ W).alloc (Nat.le_refl _) o).cell (p:=⟨Bg,0,none⟩) (Nat.lt_of_lt_of_le hbl hW.size)).trans hbW
 have HB:=Aside0.mk (show ∀ o : Obj,Below W.heap.size W (W.alloc o) from fun o => (Below.refl _ W).alloc (Nat.le_refl _) o)
 by_cases h3 : s = 3
 ·subst h3
  have hr : riskP g x 3 = true:=rfl
  rw [hr]
  go_enter Try.func54,Try.ntmps54
  go_wp2
  go_ret
  exact ⟨rfl,HB.out _⟩
 ·have h3b : (s == 3) = false:=beq_eq_false_iff_ne.mpr h3
  by_cases h1 : s = 1
  ·subst h1
   obtain ⟨r,hr⟩ : ∃ r,r = decide (x.f1.data.toList = g.data.toList):=⟨_,rfl⟩
   have hrr : riskP g x 1 = r:=by rw [hr];rfl
   rw [hrr]
   have he : (x.f1.toList == g.toList) = r:=by rw [hr,ByteArray.toList_eq,ByteArray.toList_eq];exact Bool.eq_iff_iff.2 (by simp)
   have he2 : decide (x.f1.toList = g.toList) = r:=by rw [hr,ByteArray.toList_eq,ByteArray.toList_eq]
   clear hr hrr h3 h3b
   go_enter Try.func54,Try.ntmps54
   go_wp2
   go_ret
   exact ⟨rfl,HB.out _⟩
  ·have h1b : (s == 1) = false:=beq_eq_false_iff_ne.mpr h1
   have hr : riskP g x s = false:=by unfold riskP;rw [h3b,h1b];rfl
   rw [hr]
   clear h3 h1
   go_enter Try.func54,Try.ntmps54
   go_wp2
   go_ret
   exact ⟨rfl,HB.out _⟩
def riskL (l : List S51) (g : ByteArray) : List (List UInt8):=(keptL (riskP g) l).filter fun q => !decide (q ∈ recL l)
def atRiskV (l : List S51) (g : ByteArray) : List ByteArray × Int:=if checkV l ≠ 0 then ([],checkV l) else if nameL g.data.toList ≠ 0 then ([],nameL g.data.toList) else (strs (riskL l g),0)
def recall_AtRisk.f (l : List S51) (g : ByteArray) : Option (List ByteArray × Int):=some (atRiskV l g)
set_option maxHeartbeats 1000000 in
set_option maxRecDepth 100000 in
theorem recall_AtRisk.calls (A0 : Option Addr) (c0 : Nat) (l0 : List (S51)) (a1 : ByteArray) (r1 : List ByteArray) (r2 : Int) (w : World) (hr0 : Kd.C k51 w A0 l0.length l0) (hc0 : l0.length ≤ c0) (h : recall_AtRisk.f l0 a1 = some (r1,r2)) :
  Calls Try.prog 26 #[.slice A0 l0.length c0,.string a1] w fun e w' => ∃ v0_ : Value,e = .returned (.tuple #[v0_,.int .i64 r2]) ∧ Kd.R Kd.string 9 w' w.heap.size (fun _ => True) v0_ r1 ∧ Below w.heap.size w w':=by
 have e:=Option.some.inj h
 clear h
 have hb0 : Below w.heap.size w (w.alloc (.cells #[.string a1] 9)):=(Below.refl _ w).alloc (Nat.le_refl _) _
 have HB0:=Aside0.mk hb0
 have HR0:=Aside0.mk hr0
 obtain ⟨g,hg⟩ : ∃ g,g = checkV l0:=⟨_,rfl⟩
 have HCK:=Aside0.mk (recall_Check.calls A0 c0 l0 g _ (Kd.C_below hr0 hb0) hc0 (congrArg some hg.symm))
 by_cases hck : g = 0
 ·subst hck
  obtain ⟨nm,hnm⟩ : ∃ nm,nm = nameL a1.data.toList:=⟨_,rfl⟩
  have HN:=Aside0.mk (fun W => dimension_Name.calls a1 nm W (congrArg some hnm.symm))
  by_cases hn : nm = 0
  ·subst hn
   have hr : r1 = strs (riskL l0 a1) ∧ r2 = 0:=by unfold atRiskV at e;rw [← hg,← hnm,if_neg (by decide),if_neg (by decide)] at e;cases e;exact ⟨rfl,rfl⟩
   obtain ⟨rfl,rfl⟩:=hr
   obtain ⟨hl,hnx⟩:=check_zero hg.symm
   have HH:=Aside0.mk hg.symm
   have HNX:=Aside0.mk hnx
   clear e hg hnm hr0 hb0 hnx
   go_enter Try.func26,Try.ntmps26
   go_wp2_with (first | (go_at_call 16;refine HCK.out.mono ?_;rintro e w1 ⟨rfl,hb1⟩;have HB1:=Aside0.mk hb1;have hg1 : w1.cell? ⟨w.heap.size,0,none⟩ = some (.string a1):=(blk_cell (blk_below (blk_new w (.cells #[.string a1] 9)) hb1) 0).trans rfl;clear hb1) | (go_at_call 49;refine (HN.out _).mono ?_;rintro e w2 ⟨rfl,hb2⟩;have HB2:=Aside0.mk hb2;have HG2:=Aside0.mk ((hb2.cell (p:=⟨w.heap.size,0,none⟩) (World.block_lt_of_cell? w1 _ hg1)).trans hg1);clear hb2 hg1) | (go_at_call 41;refine (recalled_ok A0 c0 l0 _ (Kd.C_below (Kd.C_below (Kd.C_below HR0.out HB0.out) HB1.out) HB2.out) HH.out).mono ?_;rintro e w3 ⟨b,rfl,h1,h2,h3⟩;have H1:=Aside0.mk h1;have H2:=Aside0.mk h2;have H3:=Aside0.mk h3;clear h1 h2 h3))
   have hb4 : Below w3.heap.size w3 (w3.alloc (.cells #[.map (some b)] 49)):=(Below.refl _ w3).alloc (Nat.le_refl _) _
   have hsz0:=HB1.out.size
   rw [World.size_alloc] at hsz0
   have hb14 : Below w.heap.size w (w3.alloc (.cells #[.map (some b)] 49)):=(((HB0.out.trans (HB1.out.mono HB0.out.size)).trans (HB2.out.mono (by omega))).trans (H3.out.mono (by have:=HB2.out.size;omega))).trans (hb4.mono (by have:=HB2.out.size;have:=H3.out.size;omega))
   have HB14:=Aside0.mk hb14
   have hgg : (w3.alloc (.cells #[.map (some b)] 49)).cell? ⟨w.heap.size,0,none⟩ = some (.string a1):=(hb4.cell (p:=⟨w.heap.size,0,none⟩) (show w.heap.size < w3.heap.size by have:=HB2.out.size;have:=H3.out.size;omega)).trans ((H3.out.cell (p:=⟨w.heap.size,0,none⟩) (World.block_lt_of_cell? w2 _ HG2.out)).trans HG2.out)
   have HKP:=Aside0.mk (kept_ok A0 c0 l0 54 #[.pointer (some ⟨w.heap.size,0,none⟩)] (riskP a1) _ (Kd.C_below HR0.out hb14) hl (fun x hx => (namesX_zero (HNX.out x hx)).2.1) (fun x hx => (namesX_zero (HNX.out x hx)).2.2.1) (enters_of Try.func54 (by kernel_rfl) rfl) (judges54 a1 w.heap.size _ hgg))
   have HBX:=Aside0.mk (show (w3.alloc (.cells #[.map (some b)] 49)).heap[w3.heap.size]? = some (.cells #[.map (some b)] 49) from blk_new _ _)
   have hbl:=H2.out.lt
   have HM3:=Aside0.mk (H2.out.alloc (.cells #[.map (some b)] 49))
   clear hb14 hb4 hgg
   go_wp2_with (first | (go_at_call 53;refine HKP.out.mono ?_;rintro e w4 ⟨b2,rfl,h1,h2,h3⟩;have K1:=Aside0.mk h1;have K2:=Aside0.mk h2;have K3:=Aside0.mk h3;have HDL:=Aside0.mk (delete_ok 56 (enters_of Try.func56 (by kernel_rfl) rfl) never56 b2 4096 w3.heap.size b 4096 _ _ w4 h2 ((blk_cell (blk_below HBX.out h3) 0).trans rfl) (HM3.out.below h3) (by rw [World.size_alloc] at h1;omega) (by rw [World.size_alloc] at h1;omega));clear h1 h2 h3) | (go_at_call 55;refine HDL.out.mono ?_;rintro e w5 ⟨rfl,h1,h2⟩;have D1:=Aside0.mk h1;have D2:=Aside0.mk h2;clear h1 h2) | (go_at_call 40;refine (sorted_ok b2 4096 _ _ D1.out (by omega)).mono ?_;rintro e w6 ⟨v,rfl,h4,h5⟩;have H4:=Aside0.mk h4;have H5:=Aside0.mk h5;clear h4 h5))
   go_ret2
   have hx:=K1.out
   rw [World.size_alloc] at hx
   have hb5 : Below w.heap.size w w5:=(HB14.out.trans (K3.out.mono HB14.out.size)).grown D2.out (by have:=HB14.out.size;have:=K3.out.size;omega) (fun k e => by cases e;have:=HB14.out.size;rw [World.size_alloc] at this;omega)
   exact ⟨_,rfl,R_base H4.out hb5.size,hb5.trans (H5.out.mono hb5.size)⟩
  ·have hr : r1 = [] ∧ r2 = nm:=by unfold atRiskV at e;rw [← hg,← hnm,if_neg (by decide),if_pos hn] at e;cases e;exact ⟨rfl,rfl⟩
   obtain ⟨rfl,rfl⟩:=hr
   have hn1 : (r2 != 0) = true:=bne_iff_ne.mpr hn
   have hn2 : (r2 == 0) = false:=beq_eq_false_iff_ne.mpr hn
   clear e hg hnm hr0 hb0 hn
   go_enter Try.func26,Try.ntmps26
   go_wp2_with (first | (go_at_call 16;refine HCK.out.mono ?_;rintro e w1 ⟨rfl,hb1⟩;have HB1:=Aside0.mk hb1;have hg1 : w1.cell? ⟨w.heap.size,0,none⟩ = some (.string a1):=(blk_cell (blk_below (blk_new w (.cells #[.string a1] 9)) hb1) 0).trans rfl;clear hb1) | (go_at_call 49;refine (HN.out _).mono ?_;rintro e w2 ⟨rfl,hb2⟩;have HB2:=Aside0.mk hb2;clear hb2))
   go_ret2
   have hx:=HB0.out.trans (HB1.out.mono HB0.out.size)
   exact ⟨_,rfl,Kd.R_nil _ _ _ _ _,hx.trans (HB2.out.mono hx.size)⟩
 ·have hr : r1 = [] ∧ r2 = g:=by unfold atRiskV at e;rw [← hg,if_pos hck] at e;cases e;exact ⟨rfl,rfl⟩
  obtain ⟨rfl,rfl⟩:=hr
  have hg1 : (r2 != 0) = true:=bne_iff_ne.mpr hck
  have hg2 : (r2 == 0) = false:=beq_eq_false_iff_ne.mpr hck
  clear e hg hck hr0 hb0
  go_enter Try.func26,Try.ntmps26
  go_wp2_with (go_at_call 16;refine HCK.out.mono ?_;rintro e w1 ⟨rfl,hb1⟩;have HB1:=Aside0.mk hb1;clear hb1)
  go_ret2
  exact ⟨_,rfl,Kd.R_nil _ _ _ _ _,HB0.out.trans (HB1.out.mono HB0.out.size)⟩
end Go.Proofs.Ytnmmdeonkpfccaa.Pr
set_option linter.unusedVariables false
namespace Go.Proofs.Ytnmmdeonkpfccaa.Pr
open Go.RowKit Go.Shelf Go.Maps Go.Proofs.YtnmmdeonkpfccaaW.PrintWords Go.Proofs.YtnmmdeonkpfccaaW.PrintLast Go.Proofs.YtnmmdeonkpfccaaW.PrintMore
open Go.Proofs.Ytnmmdeonkpfccaa.Rg
attribute [local go_sem] Oper.semAt_some
def unsK (l : List S51) : Nat → List (List UInt8)
 | 0 => []
 | k + 1 => if (chkA l k).2 = 1 then (evK l k).f1.data.toList :: unsK l k else unsK l k
def unsureV (l : List S51) : List ByteArray × Int:=if checkV l ≠ 0 then ([],checkV l) else (strs (unsK l l.length),0)
def recall_Unsure.f (l : List S51) : Option (List ByteArray × Int):=some (unsureV l)
set_option maxRecDepth 100000 in
set_option maxHeartbeats 2000000 in
theorem Unsure_ok (A0 : Option Addr) (c0 : Nat) (l : List (S51)) (w : World) (hr0 : Kd.C k51 w A0 l.length l) (hc0 : l.length ≤ c0) (hck : checkV l = 0) :
  Calls Try.prog 22 #[.slice A0 l.length c0] w fun e w' => ∃ v,e = .returned (.tuple #[v,.int .i64 0]) ∧ Kd.R Kd.string 9 w' w.heap.size (fun _ => True) v (strs (unsK l l.length)) ∧ Below w.heap.size w w':=by
 obtain ⟨hl,hnx⟩:=check_zero hck
 have hg : ∀ x ∈ l,x.f1.size ≤ 24:=fun x hx => (namesX_zero (hnx x hx)).2.1
 have hlt:=slice_lt hr0
 have HCK:=Aside0.mk (fun W hr => recall_Check.calls A0 c0 l 0 W hr hc0 (congrArg some hck))
 have HR0:=Aside0.mk hr0
 have HG:=Aside0.mk hg
 have HLT:=Aside0.mk hlt
 have hmm:=@run_makeMap Try.prog
 have hf16 : Fence.wide.fn 16:=trivial
 have hf38 : Fence.wide.fn 38:=trivial
 have hf40 : Fence.wide.fn 40:=trivial
 have hb1 : Below w.heap.size w (w.alloc (.cells #[.slice A0 l.length c0] 22)):=(Below.refl _ w).alloc (Nat.le_refl _) _
 have HB0:=Aside0.mk hb1
 clear hr0 hnx hg hlt hck hb1
 refine (callsIn_wide (n:=3)).1 ?_
 refine callsIn_of_wp_marks Try.func22 rfl trivial ?_ rfl
 simp only [Try.ntmps22,List.size_toArray,List.length_cons,List.length_nil,Nat.reduceAdd,Nat.reduceSub,Array.replicate_succ,Array.replicate_zero,List.push_toArray,List.append_toArray,List.nil_append,List.cons_append]
 gi_wp2_with (first | ((first | refine ⟨fun h => absurd h (by decide),?_⟩ | skip);gi_at_call 16;refine (callsIn_wide.2 (HCK.out _ (Kd.C_below HR0.out HB0.out))).mono ?_;rintro e w1 ⟨rfl,hb1⟩;have HB1:=Aside0.mk hb1;have hl1 : w1.cell? ⟨w.heap.size,0,none⟩ = some (.slice A0 l.length c0):=(blk_cell (blk_below (blk_new w (.cells #[.slice A0 l.length c0] 22)) hb1) 0).trans rfl;have hs1 : w.heap.size + 1 ≤ w1.heap.size:=(by have:=hb1.size;simpa using this);have hl3 : ((w1.alloc (.map #[] 0)).alloc (.cells #[.map (some w1.heap.size)] 49)).cell? ⟨w.heap.size,0,none⟩ = some (.slice A0 l.length c0):=((((Below.refl w1.heap.size w1).alloc (Nat.le_refl _) _).alloc (by simp) _).cell (p:=⟨w.heap.size,0,none⟩) (by show w.heap.size < w1.heap.size;omega)).trans hl1;clear hb1) | ((first | refine ⟨fun h => absurd h (by decide),?_⟩ | skip);gi_at_call 38;refine (states_in _ A0 c0 l.length _).mono ?_;rintro e w' ⟨rfl,rfl⟩))
 obtain ⟨Wl,hWl⟩ : ∃ Wl,(((w1.alloc (Obj.map #[] 0)).alloc (Obj.cells #[Value.map (some w1.heap.size)] 49)).alloc (Obj.cells #[Value.slice A0 l.length c0] 22)) = Wl:=⟨_,rfl⟩
 have hsl : Wl.heap.size = w1.heap.size + 3:=by rw [← hWl];simp
 have hb3 : Below w1.heap.size w1 Wl:=by rw [← hWl];exact (((Below.refl _ w1).alloc (Nat.le_refl _) _).alloc (by simp) _).alloc (by simp;omega) _
 have q0 : Wl.heap[w.heap.size]? = some (.cells #[.slice A0 l.length c0] 22):=(hb3.block _ (by omega)).trans (blk_below (blk_new w (.cells #[.slice A0 l.length c0] 22)) HB1.out)
 have q1 : MapF Try.prog 9 Wl w1.heap.size 0 (fSet (unsK l 0)):=by
  rw [← hWl,show unsK l 0 = [] from rfl,fSet_nil]
  exact ((MapF.made w1 Try.prog 9).alloc _).alloc _
 have q2 : Wl.heap[w1.heap.size + 1]? = some (.cells #[.map (some w1.heap.size)] 49):=by
  rw [← hWl]
  have:=blk_new (w1.alloc (Obj.map #[] 0)) (Obj.cells #[Value.map (some w1.heap.size)] 49)
  rw [World.size_alloc] at this
  exact blk_alloc this _
 have hL0 : Wl.cell? ⟨w1.heap.size + 2,0,none⟩ = some (.slice A0 l.length c0):=by
  rw [← hWl]
  have:=blk_new ((w1.alloc (Obj.map #[] 0)).alloc (Obj.cells #[Value.map (some w1.heap.size)] 49)) (Obj.cells #[Value.slice A0 l.length c0] 22)
  rw [World.size_alloc,World.size_alloc] at this
  exact (blk_cell this 0).trans rfl
 rw [hWl]
 clear hWl hf16 hf38 hl1 hl3
 have hbw : Below w.heap.size w Wl:=(HB0.out.trans (HB1.out.mono HB0.out.size)).trans (hb3.mono (by omega))
 refine rangeB2 (gf:=64) (lb:=#[.pointer (some ⟨w1.heap.size + 2,0,none⟩)]) rfl (enters_of Try.func64 (by kernel_rfl) rfl) (fun i => i = w1.heap.size) (fun i hi => by omega)
  (states_seq _ A0 c0 (w1.heap.size + 2) l Wl hl HG.out (Kd.C_below HR0.out hbw) (fun ad ha hne h => by have:=HLT.out ad ha hne;omega) (fun ad ha hne => by have:=HLT.out ad ha hne;omega) hL0 (fun h => by omega)) (fun _ => rfl)
  (fun pre Wr => ∃ (k : Nat),k ≤ l.length ∧ pre = statK l k ∧ MapF Try.prog 9 Wr w1.heap.size k (fSet (unsK l k)) ∧ (∀ i,(i = w.heap.size ∨ i = w1.heap.size + 1) → Wr.heap[i]? = Wl.heap[i]?) ∧ Below w.heap.size w Wr)
  ?hI ⟨0,by omega,rfl,q1,fun _ _ => rfl,hbw⟩ ?round ?done
 case hI =>
  rintro pre Wr Wr' ⟨k,hk,hp,hm1,hb,hB⟩ hsz hsz2 h1 h2 h3 h4
  exact ⟨k,hk,hp,hm1.same (h4 _ (by omega)),fun i hi => (h4 i (by omega)).trans (hb i hi),below_reads hB (by omega) hsz2 h1 h2 h3 h4⟩
 case round =>
  rintro m pre ⟨i,a,s⟩ Wr hI hsz hpf
  have HI:=Aside0.mk hI
  have Q0:=Aside0.mk q0
  have Q2:=Aside0.mk q2
  clear hI hpf q0 q1 q2 hL0 hbw hb3
  simp only [encS,pairV]
  gi_wp2
  obtain ⟨k,hk,hp,hm1,hb,hB⟩:=HI.out
  refine ⟨(KeepC.refl _ _).alloc _,⟨k,hk,hp,hm1.alloc _,fun i hi => (Below.heap_alloc _ _ _ (by omega)).trans (hb i hi),hB.alloc (by omega) _⟩,?_⟩
  clear k hk hp hm1 hb hB
  rintro m2 pre2 W2 hone ⟨k,hk,hp,hm1,hb,hB⟩ hsz2 ⟨k',hk',hpk⟩
  obtain ⟨rfl,hx⟩:=statK_next hp hpk
  simp only [Prod.mk.injEq] at hx
  obtain ⟨hi,hc⟩:=hx
  have hcs : s = (chkA l k).2:=by rw [← hc]
  have hbx : W2.heap[Wr.heap.size]? = some (.cells #[.int .i64 a,.int .i64 s] 65):=(hone.2.2.2.2 _ (by omega)).trans (blk_new _ _)
  have hc1 : W2.cell? ⟨Wr.heap.size,1,none⟩ = some (.int .i64 s):=(blk_cell hbx 1).trans rfl
  have hl2 : W2.cell? ⟨w.heap.size,0,none⟩ = some (.slice A0 l.length c0):=(blk_cell ((hb _ (by omega)).trans Q0.out) 0).trans rfl
  have hm2 : W2.cell? ⟨w1.heap.size + 1,0,none⟩ = some (.map (some w1.heap.size)):=(blk_cell ((hb _ (by omega)).trans Q2.out) 0).trans rfl
  have hi0 : 0 ≤ i:=by rw [hi];omega
  have hi1 : i < (l.length : Int):=by rw [hi];omega
  obtain ⟨x,hx⟩ : ∃ x,x = evK l k:=⟨_,rfl⟩
  have hrd : rd_T51 l i = x:=by unfold rd_T51;rw [hx,hi];unfold evK;congr 1;omega
  have hxm : x.f1.size ≤ 24:=by
   refine HG.out x ?_
   rw [hx];unfold evK
   rw [List.getD_eq_getElem?_getD,List.getElem?_eq_getElem (by omega)]
   exact List.getElem_mem _
  have hxm2 : x.f1.size ≤ maxLen:=by unfold maxLen;omega
  obtain ⟨ad,e1,hx0,hx1,hx2,hx3⟩:=at_T51 HR0.out i hi0 hi1
  cases e1
  rw [hrd] at hx0 hx1 hx2 hx3
  replace hx1:=(hB.cell (World.block_lt_of_cell? w _ hx1)).trans hx1
  have HM1:=Aside0.mk hm1
  have HBL:=Aside0.mk hb
  have HP:=Aside0.mk hpk
  have HBB:=Aside0.mk hB
  have HKS:=Aside0.mk (show unsK l (k + 1) = if s = 1 then x.f1.data.toList :: unsK l k else unsK l k from by rw [hcs,hx];rfl)
  have FIN:=Aside0.mk (show ∀ W',NearC (fun i => i = w1.heap.size) W2 W' → MapF Try.prog 9 W' w1.heap.size (k + 1) (fSet (unsK l (k + 1))) →
    KeepC (fun i => i = w1.heap.size) W2 W' ∧ ∃ k,k ≤ l.length ∧ pre2 ++ [(i,a,s)] = statK l k ∧ MapF Try.prog 9 W' w1.heap.size k (fSet (unsK l k)) ∧ (∀ i,(i = w.heap.size ∨ i = w1.heap.size + 1) → W'.heap[i]? = Wl.heap[i]?) ∧ Below w.heap.size w W' from by
   intro W' hn h1
   exact ⟨hn.2.2.2,k + 1,hk',HP.out,h1,fun i hi => (hn.2.2.2.same i (by omega) (by omega)).trans (HBL.out i hi),below_reads HBB.out (Nat.le_refl _) hn.2.2.2.size hn.1 hn.2.1 hn.2.2.1 (fun i hi => hn.2.2.2.same i (by omega) (by omega))⟩)
  clear hm1 hb hpk hB hcs hi hc hp hbx hone HI hx hrd hx0 hx2 hx3
  by_cases k1 : s = 1
  ·rw [k1] at hc1
   have HK2:=Aside0.mk (HKS.out.trans (if_pos k1))
   obtain ⟨w8,hrun,hm8,hg8⟩:=(show MapF Try.prog 9 W2.drew w1.heap.size k (fSet (unsK l k)) from HM1.out.same rfl).store Try.underlying9 Try.underlying49 (by unfold maxLen;omega) (s:=x.f1) hxm2 (.bool true)
   have HM8:=Aside0.mk hm8
   have HN8:=Aside0.mk (show NearC (fun i => i = w1.heap.size) W2 w8 from NearC.grown (Y:=W2.drew) ⟨rfl,rfl,rfl,(KeepC.refl _ _).drew⟩ hg8 rfl)
   have hz : ¬ i < 0:=by omega
   clear k1 hm8 hg8
   gi_wp2
   gi_region
   all_goals exact FIN.out _ HN8.out (by rw [HK2.out,← fSet_put];exact HM8.out)
  ·have k1b : (s == 1) = false:=beq_eq_false_iff_ne.mpr k1
   have HK2:=Aside0.mk (HKS.out.trans (if_neg k1))
   clear k1
   gi_wp2
   exact FIN.out _ (NearC.refl _ _) (by rw [HK2.out];exact HM1.out.mono (Nat.le_succ _))
 case done =>
  rintro xs W' rfl ⟨k,hk,hp,hm1,hb,hB⟩ hK hsz
  obtain rfl:=statK_inj hp
  have hc3 : W'.cell? ⟨w1.heap.size + 1,0,none⟩ = some (.map (some w1.heap.size)):=(blk_cell ((hb _ (by omega)).trans q2) 0).trans rfl
  rw [hsl] at hK
  have HS:=Aside0.mk (sorted_ok w1.heap.size l.length (unsK l l.length) W' hm1 (by omega))
  have HB:=Aside0.mk hB
  clear hm1 hb hB q0 q1 q2 hbw hL0 hp
  gi_wp2_with ((first | refine ⟨fun h => absurd h (by decide),?_⟩ | skip);gi_at_call 40;refine (callsIn_wide.2 HS.out).mono ?_;rintro e w9 ⟨v,rfl,h4,h5⟩;have H4:=Aside0.mk h4;have H5:=Aside0.mk h5;clear h4 h5)
  have hK9 : w9.heap[w1.heap.size + 3]? = some (.deferred (some [])):=(H5.out.block (w1.heap.size + 3) (by omega)).trans hK
  have hD:=(Array.getElem?_eq_some_iff.1 hK9).1
  refine ⟨by simp,.inl ⟨_,_,rfl,run_takeDeferred hK9,?_⟩⟩
  refine ⟨_,results_tmp2 (fn:=Try.f22) rfl _ _ _,_,rfl,?_,?_⟩
  ·exact R_base (Kd.R_of_own (enc:=Value.string) (h1:=fun _ => rfl) (ownsRow_putObj (Kd.own_of_R (enc:=Value.string) (h1:=fun _ => rfl) H4.out) _ hK9 rfl) (fun _ _ => trivial)) HB.out.size
  ·exact below_reads (HB.out.trans (H5.out.mono HB.out.size)) (Nat.le_refl _) (by simp) rfl rfl rfl (fun i hi => World.putObj_heap_other (by omega))
set_option maxRecDepth 100000 in
set_option maxHeartbeats 1000000 in
theorem recall_Unsure.calls (A0 : Option Addr) (c0 : Nat) (l0 : List (S51)) (r1 : List ByteArray) (r2 : Int) (w : World) (hr0 : Kd.C k51 w A0 l0.length l0) (hc0 : l0.length ≤ c0) (h : recall_Unsure.f l0 = some (r1,r2)) :
  Calls Try.prog 22 #[.slice A0 l0.length c0] w fun e w' => ∃ v0_ : Value,e = .returned (.tuple #[v0_,.int .i64 r2]) ∧ Kd.R Kd.string 9 w' w.heap.size (fun _ => True) v0_ r1 ∧ Below w.heap.size w w':=by
 have e:=Option.some.inj h
 clear h
 by_cases hck : checkV l0 = 0
 ·have hr : r1 = strs (unsK l0 l0.length) ∧ r2 = 0:=by unfold unsureV at e;rw [if_neg (by rw [hck];decide)] at e;cases e;exact ⟨rfl,rfl⟩
  obtain ⟨rfl,rfl⟩:=hr
  exact Unsure_ok A0 c0 l0 w hr0 hc0 hck
 ·obtain ⟨g,hg⟩ : ∃ g,g = checkV l0:=⟨_,rfl⟩
  have hr : r1 = [] ∧ r2 = g:=by unfold unsureV at e;rw [if_pos hck] at e;cases e;exact ⟨rfl,hg.symm⟩
  obtain ⟨rfl,rfl⟩:=hr
  have hb0 : Below w.heap.size w (w.alloc (.cells #[.slice A0 l0.length c0] 22)):=(Below.refl _ w).alloc (Nat.le_refl _) _
  have HB0:=Aside0.mk hb0
  have HCK:=Aside0.mk (recall_Check.calls A0 c0 l0 r2 _ (Kd.C_below hr0 hb0) hc0 (congrArg some hg.symm))
  rw [← hg] at hck
  have hg1 : (r2 != 0) = true:=bne_iff_ne.mpr hck
  have hg2 : (r2 == 0) = false:=beq_eq_false_iff_ne.mpr hck
  clear e hg hck hr0 hb0
  go_enter Try.func22,Try.ntmps22
  go_wp2_with (go_at_call 16;refine HCK.out.mono ?_;rintro e w1 ⟨rfl,hb1⟩;have HB1:=Aside0.mk hb1;clear hb1)
  go_ret2
  exact ⟨_,rfl,Kd.R_nil _ _ _ _ _,HB0.out.trans (HB1.out.mono HB0.out.size)⟩
end Go.Proofs.Ytnmmdeonkpfccaa.Pr
set_option linter.unusedVariables false
namespace Go.Proofs.Ytnmmdeonkpfccaa.Pr
open Go.RowKit Go.Proofs.YtnmmdeonkpfccaaW.PrintWords Go.Proofs.YtnmmdeonkpfccaaW.PrintLast Go.Proofs.YtnmmdeonkpfccaaW.PrintMore
theorem Ev.const {α : Type} {g : Nat → Option α} {r : α} (h : ∀ k,g (k + 1) = some r) : Ev g r:=Ev.step (f:=fun _ => some r) h (Ev.now r)
theorem drop_at {α : Type} {l : List α} {i : Nat} (h : i < l.length) : ∃ x,l[i]? = some x ∧ l.drop i = x :: l.drop (i + 1) :=
 ⟨l[i],List.getElem?_eq_getElem h,List.drop_eq_getElem_cons h⟩
theorem wrap_nat {i : Nat} (h : i ≤ 9223372036854775806) : wrap64 ((i : Int) + 1) = ((i + 1 : Nat) : Int):=by unfold wrap64;omega
abbrev to67 (x : S51) : S67:=⟨x.f0,x.f1,x.f2,x.f3⟩
def rl (l : List S51) : List S67:=l.map to67
theorem rl_len (l : List S51) : (rl l).length = l.length:=by unfold rl;rw [List.length_map]
theorem rd51_at {l : List S51} {i : Nat} {x : S51} (h : l[i]? = some x) : rd_T51 l (i : Int) = x:=by unfold rd_T51;rw [Int.toNat_natCast,List.getD_eq_getElem?_getD,h];rfl
theorem rd67_at {l : List S51} {i : Nat} {x : S51} (h : l[i]? = some x) : rd_T67 (rl l) (i : Int) = to67 x:=by unfold rd_T67 rl;rw [Int.toNat_natCast,List.getD_eq_getElem?_getD,List.getElem?_map,h];rfl
theorem own_go (l : List S51) (hn : l.length ≤ 2513169434915) : ∀ (d i : Nat),i ≤ l.length → l.length - i = d → Ev (fun k => metrolablaw53_own.l0 k (rl (l.take i)) l (l.length : Int) (i : Int)) (rl l):=by
 intro d
 induction d with
 | zero =>
  intro i hi hd
  obtain rfl : i = l.length:=by omega
  refine Ev.const fun k => ?_
  simp only [metrolablaw53_own.l0]
  rw [if_neg (by omega),List.take_length]
 | succ d ih =>
  intro i hi hd
  obtain ⟨x,hx,hdr⟩:=drop_at (show i < l.length by omega)
  refine Ev.step (f:=fun k => metrolablaw53_own.l0 k (rl (l.take (i + 1))) l (l.length : Int) ((i + 1 : Nat) : Int)) (fun k => ?_) (ih (i + 1) (by omega) (by omega))
  simp only [metrolablaw53_own.l0]
  rw [if_pos (by omega),if_pos (by omega),if_pos (by omega),if_pos (by rw [rl_len,List.length_take];omega),wrap_nat (by omega),rd51_at hx]
  have e : l.take (i + 1) = l.take i ++ [x]:=by rw [List.take_add_one,hx];rfl
  rw [e]
  unfold rl
  rw [List.map_append]
  rfl
theorem own_ev (l : List S51) (hn : l.length ≤ 2513169434915) : Ev (fun k => metrolablaw53_own.f k l) (rl l):=by
 have:=own_go l hn l.length 0 (by omega) (by omega)
 exact this
theorem few_go (l : List S51) (hn : l.length ≤ 2513169434915) : ∀ (d i : Nat),i ≤ l.length → l.length - i = d → ∃ b,Ev (fun k => metrolabref53_Few.l0 k (rl l) (i : Int)) b:=by
 intro d
 induction d with
 | zero =>
  intro i hi hd
  obtain rfl : i = l.length:=by omega
  refine ⟨true,Ev.const fun k => ?_⟩
  simp only [metrolabref53_Few.l0]
  rw [if_neg (by rw [rl_len];omega)]
 | succ d ih =>
  intro i hi hd
  obtain ⟨b,hb⟩:=ih (i + 1) (by omega) (by omega)
  by_cases h : ((rd_T67 (rl l) i).f1.size : Int) > 60 ∨ ((rd_T67 (rl l) i).f2.size : Int) > 60 ∨ ((rd_T67 (rl l) i).f3.size : Int) > 60
  ·refine ⟨false,Ev.const fun k => ?_⟩
   simp only [metrolabref53_Few.l0]
   rw [if_pos (by rw [rl_len];omega),if_pos (by omega)]
   split
   ·rfl
   ·split
    ·rfl
    ·rw [if_pos (by omega)]
  ·refine ⟨b,Ev.step (f:=fun k => metrolabref53_Few.l0 k (rl l) ((i + 1 : Nat) : Int)) (fun k => ?_) hb⟩
   simp only [metrolabref53_Few.l0]
   rw [if_pos (by rw [rl_len];omega),if_pos (by omega),if_neg (by omega),if_neg (by omega),if_neg (by omega),wrap_nat (by omega)]
theorem Few_ev (l : List S51) (hn : l.length ≤ 2513169434915) : ∃ b,Ev (fun k => metrolabref53_Few.f k (rl l)) b:=by
 obtain ⟨b,hb⟩:=few_go l hn l.length 0 (by omega) (by omega)
 have hj : ∀ c : Bool,∃ b,Ev (fun k => metrolabref53_Few.j0 k (rl l) c) b:=by
  intro c
  cases c
  ·exact ⟨b,Ev.step (f:=fun k => metrolabref53_Few.l0 k (rl l) (0 : Int)) (fun k => by simp only [metrolabref53_Few.j0];rw [if_neg (by decide)]) hb⟩
  ·exact ⟨false,Ev.const fun k => by simp only [metrolabref53_Few.j0];rw [if_pos True.intro]⟩
 unfold metrolabref53_Few.f
 by_cases h1 : ((rl l).length : Int) > 16
 ·simp only [if_pos h1]
  by_cases h2 : ((rl l).length : Int) ≤ 4096
  ·simp only [if_pos h2];exact hj _
  ·simp only [if_neg h2];exact hj _
 ·simp only [if_neg h1];exact hj _
theorem few_ev (l : List S51) (a : ByteArray) (hn : l.length ≤ 2513169434915) : ∃ b,Ev (fun k => metrolablaw53_few.f k l a) b:=by
 obtain ⟨b,hb⟩:=Few_ev l hn
 unfold metrolablaw53_few.f
 cases b
 ·exact ⟨false,Ev.bind (own_ev l hn) (Ev.bind hb (Ev.now _))⟩
 ·exact ⟨_,Ev.bind (own_ev l hn) (Ev.bind hb (Ev.now _))⟩
theorem bt_at {s : ByteArray} {i : Nat} {b : UInt8} (h : s.data.toList[i]? = some b) : bt s (i : Int) = (b.toNat : Int):=by
 unfold bt
 rw [Array.getElem?_toList] at h
 obtain ⟨h1,h2⟩:=Array.getElem?_eq_some_iff.1 h
 rw [dif_pos (show (i : Int).toNat < s.size by rw [Int.toNat_natCast];exact h1)]
 show (((s.data[(i : Int).toNat]'(by rw [Int.toNat_natCast];exact h1)).toNat : Int)) = _
 simp only [Int.toNat_natCast]
 rw [h2]
theorem letter_eq (b : UInt8) : metrolabref17_letter.f (b.toNat : Int) = some (letB b):=by
 unfold metrolabref17_letter.f letB
 split
 ·split
  ·rw [decide_eq_true (by omega)]
  ·split
   ·congr 1;rw [decide_eq_decide];omega
   ·rw [decide_eq_false (by omega)]
 ·split
  ·congr 1;rw [decide_eq_decide];omega
  ·rw [decide_eq_false (by omega)]
theorem size_len (s : ByteArray) : s.size = s.data.toList.length:=by rw [Array.length_toList];rfl
def nmP (b : UInt8) : Bool:=letB b || digB b
theorem name_go (s : ByteArray) (hn : s.size ≤ 24) : ∀ (d i : Nat),i ≤ s.size → s.size - i = d → Ev (fun k => metrolabref17_Name.l0 k s (i : Int)) (if (s.data.toList.drop i).all nmP then 0 else 3):=by
 intro d
 induction d with
 | zero =>
  intro i hi hd
  obtain rfl : i = s.size:=by omega
  refine Ev.const fun k => ?_
  simp only [metrolabref17_Name.l0]
  rw [if_neg (by omega),size_len,List.drop_length];rfl
 | succ d ih =>
  intro i hi hd
  obtain ⟨x,hx,hdr⟩:=drop_at (l:=s.data.toList) (i:=i) (by rw [← size_len];omega)
  have hih:=ih (i + 1) (by omega) (by omega)
  rw [hdr,List.all_cons]
  by_cases h1 : letB x = true
  ·have : nmP x = true:=by unfold nmP;rw [h1];rfl
   rw [this,Bool.true_and]
   refine Ev.step (f:=fun k => metrolabref17_Name.l0 k s ((i + 1 : Nat) : Int)) (fun k => ?_) hih
   simp only [metrolabref17_Name.l0]
   rw [if_pos (by omega),if_pos (by omega),bt_at hx,letter_eq,h1,Option.bind_some,if_pos rfl,wrap_nat (by omega)]
  ·have h1:=Bool.eq_false_iff.2 h1
   by_cases h2 : digB x = true
   ·have : nmP x = true:=by unfold nmP;rw [h2,Bool.or_true]
    rw [this,Bool.true_and]
    unfold digB at h2
    have h2:=of_decide_eq_true h2
    refine Ev.step (f:=fun k => metrolabref17_Name.l0 k s ((i + 1 : Nat) : Int)) (fun k => ?_) hih
    simp only [metrolabref17_Name.l0]
    rw [if_pos (by omega),if_pos (by omega),bt_at hx,letter_eq,h1,Option.bind_some,if_neg (by decide),if_neg (by omega),if_neg (by omega),wrap_nat (by omega)]
   ·have : nmP x = false:=by unfold nmP;rw [h1,Bool.false_or];exact Bool.eq_false_iff.2 h2
    rw [this,Bool.false_and]
    have h2 : ¬ (48 ≤ x.toNat ∧ x.toNat ≤ 57):=fun h => h2 (decide_eq_true h)
    refine Ev.const fun k => ?_
    simp only [metrolabref17_Name.l0]
    rw [if_pos (by omega),if_pos (by omega),bt_at hx,letter_eq,h1,Option.bind_some,if_neg (by decide)]
    by_cases h3 : (x.toNat : Int) < 48
    ·rw [if_pos h3];rfl
    ·rw [if_neg h3,if_pos (by omega)];rfl
theorem refName_ev (s : ByteArray) : Ev (fun k => metrolabref17_Name.f k s) (nameL s.data.toList):=by
 unfold metrolabref17_Name.f nameL
 by_cases h1 : (s.size : Int) > 24
 ·simp only [if_pos h1];rw [if_pos (by rw [← size_len];omega)];exact Ev.now _
 ·simp only [if_neg h1];rw [if_neg (by rw [← size_len];omega)]
  by_cases h2 : (s.size : Int) = 0
  ·simp only [if_pos h2];rw [if_pos (List.eq_nil_of_length_eq_zero (by rw [← size_len];omega))]
   exact Ev.const fun k => by simp only [metrolabref17_Name.j0];rw [if_pos True.intro]
  ·simp only [if_neg h2,if_pos (show (0 : Int) < s.size by omega)]
   obtain ⟨x,hx,hdr⟩:=drop_at (l:=s.data.toList) (i:=0) (by rw [← size_len];omega)
   rw [List.drop_zero] at hdr
   rw [if_neg (by rw [hdr];exact List.cons_ne_nil _ _)]
   have hb:=bt_at hx
   have hl : metrolabref17_letter.f (bt s 0) = some (letB x):=by rw [show bt s 0 = (x.toNat : Int) from hb];exact letter_eq x
   simp only [hl,Option.bind_some]
   have hd : s.data.toList.headD 0 = x:=by rw [hdr];rfl
   rw [hd]
   by_cases h3 : letB x = false
   ·rw [if_pos h3,h3]
    exact Ev.const fun k => by simp only [metrolabref17_Name.j0,Bool.not_false];rw [if_pos True.intro]
   ·have h3 : letB x = true:=by simpa using h3
    rw [if_neg (by rw [h3];decide),h3]
    refine Ev.step (f:=fun k => metrolabref17_Name.l0 k s ((0 : Nat) : Int)) (fun k => by simp only [metrolabref17_Name.j0,Bool.not_true];rw [if_neg (by decide)];rfl) ?_
    exact name_go s (by omega) s.size 0 (by omega) (by omega)
theorem named_ev (s : ByteArray) (u : Bool) : Ev (fun k => metrolabref53_named.f k s u) (if u = true then nameL s.data.toList else 0):=by
 unfold metrolabref53_named.f
 cases u
 ·simp only [if_neg (show ¬ (false = true) by decide)];exact Ev.now _
 ·simp only [if_pos True.intro];exact Ev.bind (refName_ev s) (Ev.now _)
end Go.Proofs.Ytnmmdeonkpfccaa.Pr
set_option linter.unusedVariables false
namespace Go.Proofs.Ytnmmdeonkpfccaa.Pr
open Go.RowKit Go.Proofs.YtnmmdeonkpfccaaW.PrintWords Go.Proofs.YtnmmdeonkpfccaaW.PrintLast Go.Proofs.YtnmmdeonkpfccaaW.PrintMore
theorem bt_of_nf {b : Bool} (h : ¬ b = false) : b = true:=by cases b <;> simp_all
theorem nil_iff (s : ByteArray) : s.toList = ([] : List UInt8) ↔ s.data.toList = []:=by rw [ByteArray.toList_eq]
def nzE (u : Bool) (q : List UInt8) : Int:=if u = true then nameL q else 0
theorem form_j1 (x : S51) (g p t : Bool) : Ev (fun k => metrolabref53_form.j1 k g p t x.f0 x.f1 x.f2 x.f3) (nfold 0 [(x.f1.data.toList,g),(x.f2.data.toList,p),(x.f3.data.toList,t)]):=by
 refine Ev.step (f:=fun k => _) (fun k => by simp only [metrolabref53_form.j1];exact rfl) ?_
 simp only [nil_iff]
 by_cases h1 : nzE g x.f1.data.toList = 0
 ·refine Ev.bind (named_ev x.f1 g) ?_
  rw [show (if g = true then nameL x.f1.data.toList else 0) = 0 from h1]
  simp only [if_true]
  by_cases h2 : nzE p x.f2.data.toList = 0
  ·refine Ev.bind (named_ev x.f2 p) ?_
   rw [show (if p = true then nameL x.f2.data.toList else 0) = 0 from h2]
   simp only [if_true]
   by_cases h3 : nzE t x.f3.data.toList = 0
   ·refine Ev.bind (named_ev x.f3 t) ?_
    rw [show (if t = true then nameL x.f3.data.toList else 0) = 0 from h3]
    simp only [if_true]
    unfold nzE at h1 h2 h3
    cases g <;> cases p <;> cases t <;> simp_all [nfold] <;> (repeat' split) <;> first | exact Ev.now _ | simp_all
   ·refine Ev.bind (named_ev x.f3 t) ?_
    simp only [if_neg (show ¬ (if t = true then nameL x.f3.data.toList else 0) = 0 from h3)]
    have e : nfold 0 [(x.f1.data.toList,g),(x.f2.data.toList,p),(x.f3.data.toList,t)] = (if t = true then nameL x.f3.data.toList else 0):=by
     unfold nzE at h1 h2 h3
     cases g <;> cases p <;> cases t <;> simp_all [nfold] <;> (repeat' split) <;> rfl
    rw [e];exact Ev.now _
  ·refine Ev.bind (named_ev x.f2 p) ?_
   simp only [if_neg (show ¬ (if p = true then nameL x.f2.data.toList else 0) = 0 from h2)]
   have e : nfold 0 [(x.f1.data.toList,g),(x.f2.data.toList,p),(x.f3.data.toList,t)] = (if p = true then nameL x.f2.data.toList else 0):=by
    unfold nzE at h1 h2
    cases g <;> cases p <;> simp_all [nfold] <;> (repeat' split) <;> rfl
   rw [e];exact Ev.now _
 ·refine Ev.bind (named_ev x.f1 g) ?_
  simp only [if_neg (show ¬ (if g = true then nameL x.f1.data.toList else 0) = 0 from h1)]
  have e : nfold 0 [(x.f1.data.toList,g),(x.f2.data.toList,p),(x.f3.data.toList,t)] = (if g = true then nameL x.f1.data.toList else 0):=by
   unfold nzE at h1
   cases g <;> simp_all [nfold]
  rw [e];exact Ev.now _
theorem form_ev (x : S51) : Ev (fun k => metrolabref53_form.f k x.f0 x.f1 x.f2 x.f3) (namesX x):=by
 unfold metrolabref53_form.f namesX namesV
 by_cases h1 : x.f0 < 0
 ·simp only [if_pos h1];rw [if_pos (.inl h1)]
  exact Ev.const fun k => by simp only [metrolabref53_form.j0];rw [if_pos True.intro]
 ·simp only [if_neg h1]
  by_cases h2 : x.f0 > 3
  ·rw [if_pos (.inr h2)]
   refine Ev.const fun k => ?_
   rw [decide_eq_true h2]
   simp only [metrolabref53_form.j0];rw [if_pos True.intro]
  ·rw [if_neg (by omega)]
   have hd : decide (x.f0 > 3) = false:=decide_eq_false h2
   simp only [hd]
   by_cases h0 : x.f0 = 0
   ·refine Ev.step (f:=fun k => metrolabref53_form.j1 k (x.f0 != 3) true (x.f0 == 0) x.f0 x.f1 x.f2 x.f3) (fun k => by simp only [metrolabref53_form.j0];rw [if_neg (by decide),if_pos h0]) ?_
    rw [show (x.f0 == 0 || x.f0 == 3) = true by rw [h0];rfl]
    exact form_j1 x _ _ _
   ·refine Ev.step (f:=fun k => metrolabref53_form.j1 k (x.f0 != 3) (x.f0 == 3) (x.f0 == 0) x.f0 x.f1 x.f2 x.f3) (fun k => by simp only [metrolabref53_form.j0];rw [if_neg (by decide),if_neg h0]) ?_
    rw [show (x.f0 == 0 || x.f0 == 3) = (x.f0 == 3) by rw [beq_eq_false_iff_ne.2 h0];rfl]
    exact form_j1 x _ _ _
def wdP (q : List UInt8) (x : S51) : Bool:=decide (x.f0 = 3 ∧ x.f2.data.toList = q)
def msP (q : List UInt8) (x : S51) : Bool:=decide (x.f0 = 0 ∧ x.f2.data.toList = q)
def coP (q s : List UInt8) (x : S51) : Bool:=decide (x.f0 = 0 ∧ x.f2.data.toList = q ∧ x.f3.data.toList ≠ s)
theorem str_eq (a b : ByteArray) : a.toList = b.toList ↔ a.data.toList = b.data.toList:=by rw [ByteArray.toList_eq,ByteArray.toList_eq]
theorem withdrawn_go (l : List S51) (hn : l.length ≤ 2513169434915) (a : ByteArray) : ∀ (d i : Nat),i ≤ l.length → l.length - i = d → Ev (fun k => metrolabref53_Withdrawn.l0 k (rl l) a (i : Int)) ((l.drop i).any (wdP a.data.toList)):=by
 intro d
 induction d with
 | zero =>
  intro i hi hd
  obtain rfl : i = l.length:=by omega
  refine Ev.const fun k => ?_
  simp only [metrolabref53_Withdrawn.l0]
  rw [if_neg (by rw [rl_len];omega),List.drop_length];rfl
 | succ d ih =>
  intro i hi hd
  obtain ⟨x,hx,hdr⟩:=drop_at (show i < l.length by omega)
  rw [hdr,List.any_cons]
  by_cases h : x.f0 = 3 ∧ x.f2.data.toList = a.data.toList
  ·rw [show wdP a.data.toList x = true from decide_eq_true h,Bool.true_or]
   refine Ev.const fun k => ?_
   simp only [metrolabref53_Withdrawn.l0]
   rw [if_pos (by rw [rl_len];omega),if_pos (by omega),rd67_at hx,if_pos h.1,if_pos ((str_eq _ _).2 h.2)]
  ·rw [show wdP a.data.toList x = false from decide_eq_false h,Bool.false_or]
   refine Ev.step (f:=fun k => metrolabref53_Withdrawn.l0 k (rl l) a ((i + 1 : Nat) : Int)) (fun k => ?_) (ih (i + 1) (by omega) (by omega))
   simp only [metrolabref53_Withdrawn.l0]
   rw [if_pos (by rw [rl_len];omega),if_pos (by omega),rd67_at hx,wrap_nat (by omega)]
   by_cases h1 : (to67 x).f0 = 3
   ·rw [if_pos h1,if_neg (fun e => h ⟨h1,(str_eq _ _).1 e⟩)]
   ·rw [if_neg h1]
theorem withdrawn_ev (l : List S51) (hn : l.length ≤ 2513169434915) (a : ByteArray) : Ev (fun k => metrolabref53_Withdrawn.f k (rl l) a) (l.any (wdP a.data.toList)):=withdrawn_go l hn a l.length 0 (by omega) (by omega)
theorem measured_go (l : List S51) (hn : l.length ≤ 2513169434915) (a : ByteArray) : ∀ (d i : Nat),i ≤ l.length → l.length - i = d → Ev (fun k => metrolabref53_Measured.l0 k (rl l) a (i : Int)) ((l.drop i).any (msP a.data.toList)):=by
 intro d
 induction d with
 | zero =>
  intro i hi hd
  obtain rfl : i = l.length:=by omega
  refine Ev.const fun k => ?_
  simp only [metrolabref53_Measured.l0]
  rw [if_neg (by rw [rl_len];omega),List.drop_length];rfl
 | succ d ih =>
  intro i hi hd
  obtain ⟨x,hx,hdr⟩:=drop_at (show i < l.length by omega)
  rw [hdr,List.any_cons]
  by_cases h : x.f0 = 0 ∧ x.f2.data.toList = a.data.toList
  ·rw [show msP a.data.toList x = true from decide_eq_true h,Bool.true_or]
   refine Ev.const fun k => ?_
   simp only [metrolabref53_Measured.l0]
   rw [if_pos (by rw [rl_len];omega),if_pos (by omega),rd67_at hx,if_pos h.1,if_pos ((str_eq _ _).2 h.2)]
  ·rw [show msP a.data.toList x = false from decide_eq_false h,Bool.false_or]
   refine Ev.step (f:=fun k => metrolabref53_Measured.l0 k (rl l) a ((i + 1 : Nat) : Int)) (fun k => ?_) (ih (i + 1) (by omega) (by omega))
   simp only [metrolabref53_Measured.l0]
   rw [if_pos (by rw [rl_len];omega),if_pos (by omega),rd67_at hx,wrap_nat (by omega)]
   by_cases h1 : (to67 x).f0 = 0
   ·rw [if_pos h1,if_neg (fun e => h ⟨h1,(str_eq _ _).1 e⟩)]
   ·rw [if_neg h1]
theorem measured_ev (l : List S51) (hn : l.length ≤ 2513169434915) (a : ByteArray) : Ev (fun k => metrolabref53_Measured.f k (rl l) a) (l.any (msP a.data.toList)):=measured_go l hn a l.length 0 (by omega) (by omega)
def refF : List S51 → List S51 → Int
 | _,[] => 0
 | pre,x :: r => if namesX x ≠ 0 then namesX x else if x.f0 = 0 ∧ pre.any (wdP x.f2.data.toList) = true then 14
  else if x.f0 = 0 ∧ pre.any (coP x.f2.data.toList x.f3.data.toList) = true then 16
  else if x.f0 = 3 ∧ pre.any (msP x.f2.data.toList) = false then 6 else if x.f0 = 3 ∧ pre.any (wdP x.f2.data.toList) = true then 14 else refF (pre ++ [x]) r
theorem check_rec (l : List S51) (hn : l.length ≤ 2513169434915) : ∀ (d i : Nat),i ≤ l.length → l.length - i = d → Ev (fun k => metrolabref53_Check.l0 k (rl l) (i : Int)) (refF (l.take i) (l.drop i)):=by
 intro d
 induction d with
 | zero =>
  intro i hi hd
  obtain rfl : i = l.length:=by omega
  refine Ev.const fun k => ?_
  simp only [metrolabref53_Check.l0]
  rw [if_neg (by rw [rl_len];omega),List.drop_length];rfl
 | succ d ih =>
  intro i hi hd
  obtain ⟨x,hx,hdr⟩:=drop_at (show i < l.length by omega)
  have hih:=ih (i + 1) (by omega) (by omega)
  have etk : l.take (i + 1) = l.take i ++ [x]:=by rw [List.take_add_one,hx];rfl
  rw [etk] at hih
  have htk : (rl l).take ((i : Int)).toNat = rl (l.take i):=by rw [Int.toNat_natCast];unfold rl;rw [List.map_take]
  have hlt : (l.take i).length ≤ 2513169434915:=by rw [List.length_take];omega
  have hil : (i : Int) ≤ ((rl l).length : Int):=by rw [rl_len];omega
  rw [hdr]
  refine Ev.step (f:=fun k => _) (fun k => by simp only [metrolabref53_Check.l0];rw [if_pos (by rw [rl_len];omega),if_pos (by omega),rd67_at hx]) ?_
  refine Ev.bind (form_ev x) ?_
  by_cases hx0 : namesX x = 0
  rotate_left
  ·simp only [if_neg hx0,refF,if_pos hx0];exact Ev.now _
  simp only [if_pos hx0,refF,if_neg (show ¬ namesX x ≠ 0 from fun h => h hx0)]
  have hj3 : Ev (fun k => metrolabref53_Check.j3 k (rl l) (i : Int) false x.f0 x.f1 x.f2 x.f3) (if x.f0 = 3 ∧ (l.take i).any (wdP x.f2.data.toList) = true then 14 else refF (l.take i ++ [x]) (l.drop (i + 1))):=by
   by_cases h3 : x.f0 = 3
   ·refine Ev.step (f:=fun k => _) (fun k => by simp only [metrolabref53_Check.j3];rw [if_neg (by decide),if_pos h3,if_pos (by omega),if_pos hil,htk]) ?_
    refine Ev.bind (withdrawn_ev _ hlt _) ?_
    by_cases hw : (l.take i).any (wdP x.f2.data.toList) = true
    ·rw [if_pos ⟨h3,hw⟩];simp only [if_pos hw];exact Ev.now _
    ·rw [if_neg (fun h => hw h.2)];simp only [if_neg hw];rw [wrap_nat (by omega)];exact hih
   ·rw [if_neg (fun h => h3 h.1)]
    refine Ev.step (f:=fun k => metrolabref53_Check.l0 k (rl l) ((i + 1 : Nat) : Int)) (fun k => by simp only [metrolabref53_Check.j3];rw [if_neg (by decide),if_neg h3,wrap_nat (by omega)]) hih
  have hl1e : Ev (fun k => metrolabref53_Check.l1 k (rl l) (i : Int) (i : Int) x.f0 x.f1 x.f2 x.f3) (if x.f0 = 3 ∧ (l.take i).any (msP x.f2.data.toList) = false then 6 else if x.f0 = 3 ∧ (l.take i).any (wdP x.f2.data.toList) = true then 14 else refF (l.take i ++ [x]) (l.drop (i + 1))):=by
   by_cases h3 : x.f0 = 3
   ·refine Ev.step (f:=fun k => _) (fun k => by simp only [metrolabref53_Check.l1];rw [if_neg (by omega),if_pos h3,if_pos (by omega),if_pos hil,htk]) ?_
    refine Ev.bind (measured_ev _ hlt _) ?_
    by_cases hw : (l.take i).any (msP x.f2.data.toList) = false
    ·rw [if_pos ⟨h3,hw⟩,hw]
     exact Ev.const fun k => by simp only [metrolabref53_Check.j3,Bool.not_false];rw [if_pos True.intro]
    ·rw [if_neg (fun h => hw h.2),bt_of_nf hw];exact hj3
   ·rw [if_neg (fun h => h3 h.1)]
    exact Ev.step (f:=fun k => metrolabref53_Check.j3 k (rl l) (i : Int) false x.f0 x.f1 x.f2 x.f3) (fun k => by simp only [metrolabref53_Check.l1];rw [if_neg (by omega),if_neg h3]) hj3
  have hl1 : ∀ (e j : Nat),j ≤ i → i - j = e → Ev (fun k => metrolabref53_Check.l1 k (rl l) (i : Int) (j : Int) x.f0 x.f1 x.f2 x.f3) (if x.f0 = 0 ∧ ((l.take i).drop j).any (coP x.f2.data.toList x.f3.data.toList) = true then 16 else if x.f0 = 3 ∧ (l.take i).any (msP x.f2.data.toList) = false then 6 else if x.f0 = 3 ∧ (l.take i).any (wdP x.f2.data.toList) = true then 14 else refF (l.take i ++ [x]) (l.drop (i + 1))):=by
   intro e
   induction e with
   | zero =>
    intro j hj he
    obtain rfl : j = i:=by omega
    rw [show (l.take j).drop j = [] from List.drop_eq_nil_of_le (by rw [List.length_take];omega)]
    rw [if_neg (by intro h;cases h.2)]
    exact hl1e
   | succ e ih2 =>
    intro j hj he
    obtain ⟨y,hy,hdy⟩:=drop_at (l:=l.take i) (i:=j) (by rw [List.length_take];omega)
    have hy2 : l[j]? = some y:=by rw [List.getElem?_take,if_pos (by omega)] at hy;exact hy
    have hih2:=ih2 (j + 1) (by omega) (by omega)
    rw [hdy,List.any_cons]
    by_cases h0 : x.f0 = 0
    ·by_cases hc : y.f0 = 0 ∧ y.f2.data.toList = x.f2.data.toList ∧ y.f3.data.toList ≠ x.f3.data.toList
     ·rw [show coP x.f2.data.toList x.f3.data.toList y = true from decide_eq_true hc,Bool.true_or,if_pos ⟨h0,rfl⟩]
      refine Ev.const fun k => ?_
      simp only [metrolabref53_Check.l1]
      rw [if_pos (by omega),if_pos h0,if_pos (by omega),if_pos (by rw [rl_len];omega),rd67_at hy2,if_pos hc.1,if_pos ((str_eq _ _).2 hc.2.1),if_neg (fun e => hc.2.2 ((str_eq _ _).1 e))]
     ·rw [show coP x.f2.data.toList x.f3.data.toList y = false from decide_eq_false hc,Bool.false_or]
      refine Ev.step (f:=fun k => metrolabref53_Check.l1 k (rl l) (i : Int) ((j + 1 : Nat) : Int) x.f0 x.f1 x.f2 x.f3) (fun k => ?_) hih2
      simp only [metrolabref53_Check.l1]
      rw [if_pos (by omega),if_pos h0,if_pos (by omega),if_pos (by rw [rl_len];omega),rd67_at hy2,wrap_nat (by omega)]
      by_cases c1 : (to67 y).f0 = 0
      ·rw [if_pos c1]
       by_cases c2 : (to67 y).f2.toList = x.f2.toList
       ·rw [if_pos c2]
        by_cases c3 : (to67 y).f3.toList = x.f3.toList
        ·rw [if_pos c3]
        ·exact absurd ⟨c1,(str_eq _ _).1 c2,fun e => c3 ((str_eq _ _).2 e)⟩ hc
       ·rw [if_neg c2]
      ·rw [if_neg c1]
    ·rw [if_neg (fun h => h0 h.1)]
     rw [if_neg (fun h => h0 h.1)] at hih2
     refine Ev.step (f:=fun k => metrolabref53_Check.l1 k (rl l) (i : Int) ((j + 1 : Nat) : Int) x.f0 x.f1 x.f2 x.f3) (fun k => ?_) hih2
     simp only [metrolabref53_Check.l1]
     rw [if_pos (by omega),if_neg h0,wrap_nat (by omega)]
  have hl10:=hl1 i 0 (by omega) (by omega)
  rw [List.drop_zero] at hl10
  have hj1 : Ev (fun k => metrolabref53_Check.j1 k (rl l) (i : Int) false x.f0 x.f1 x.f2 x.f3) _:=Ev.step (f:=fun k => metrolabref53_Check.l1 k (rl l) (i : Int) ((0 : Nat) : Int) x.f0 x.f1 x.f2 x.f3) (fun k => by simp only [metrolabref53_Check.j1];rw [if_neg (by decide)];rfl) hl10
  by_cases h0 : x.f0 = 0
  ·simp only [if_pos h0,if_pos hil]
   rw [htk]
   refine Ev.bind (withdrawn_ev _ hlt _) ?_
   by_cases hw : (l.take i).any (wdP x.f2.data.toList) = true
   ·rw [if_pos ⟨h0,hw⟩,hw]
    exact Ev.const fun k => by simp only [metrolabref53_Check.j1];rw [if_pos True.intro]
   ·rw [if_neg (fun h => hw h.2),Bool.eq_false_iff.2 hw]
    rw [Bool.eq_false_iff.2 hw] at hj1
    exact hj1
  ·simp only [if_neg h0]
   rw [if_neg (fun h => h0 h.1)]
   exact hj1
theorem refCheck_ev (l : List S51) (hn : l.length ≤ 2513169434915) : Ev (fun k => metrolabref53_Check.f k (rl l)) (if 4096 < l.length then 5 else refF [] l):=by
 unfold metrolabref53_Check.f
 by_cases h : 4096 < l.length
 ·rw [if_pos h];simp only [if_pos (show ((rl l).length : Int) > 4096 by rw [rl_len];omega)];exact Ev.now _
 ·rw [if_neg h];simp only [if_neg (show ¬ ((rl l).length : Int) > 4096 by rw [rl_len];omega)]
  exact check_rec l hn l.length 0 (by omega) (by omega)
theorem check_same : ∀ (r pre : List S51) (L : List (List UInt8 × ByteArray)) (G : List (List UInt8)),
  (∀ q,q ∈ G ↔ pre.any (wdP q) = true) → (∀ q,L.lookup q = none ↔ pre.any (msP q) = false) → (∀ q s,L.lookup q = some s → ∀ y ∈ pre,y.f0 = 0 → y.f2.data.toList = q → y.f3.data.toList = s.data.toList) →
  checkF L G r = refF pre r:=by
 intro r
 induction r with
 | nil => intro pre L G h1 h2 h3;unfold checkF refF;rfl
 | cons x r ih =>
  intro pre L G h1 h2 h3
  unfold checkF refF
  by_cases hx : namesX x = 0
  rotate_left
  ·rw [if_pos hx,if_pos hx]
  rw [if_neg (show ¬ namesX x ≠ 0 from fun h => h hx),if_neg (show ¬ namesX x ≠ 0 from fun h => h hx)]
  by_cases h0 : x.f0 = 0
  ·have n3 : ¬ x.f0 = 3:=by omega
   rw [if_pos h0]
   by_cases hg : x.f2.data.toList ∈ G
   ·rw [if_pos hg,if_pos ⟨h0,(h1 _).1 hg⟩]
   ·rw [if_neg hg,if_neg (fun h => hg ((h1 _).2 h.2))]
    have hpush : ∀ (hc : pre.any (coP x.f2.data.toList x.f3.data.toList) = false),checkF ((x.f2.data.toList,x.f3) :: L) G r = refF (pre ++ [x]) r:=by
     intro hc
     refine ih _ _ _ (fun q => ?_) (fun q => ?_) (fun q s hs y hy y0 yq => ?_)
     ·rw [h1,List.any_append]
      have : [x].any (wdP q) = false:=by rw [List.any_cons,List.any_nil,Bool.or_false];exact decide_eq_false (fun h => n3 h.1)
      rw [this,Bool.or_false]
     ·rw [List.lookup_cons,List.any_append]
      by_cases e : q = x.f2.data.toList
      ·have e1 : (q == x.f2.data.toList) = true:=by rw [e];exact beq_self_eq_true _
       rw [e1]
       have : [x].any (msP q) = true:=by rw [List.any_cons];rw [show msP q x = true from decide_eq_true ⟨h0,e.symm⟩];rfl
       rw [this,Bool.or_true];simp
      ·have e1 : (q == x.f2.data.toList) = false:=beq_eq_false_iff_ne.2 e
       rw [e1]
       have : [x].any (msP q) = false:=by rw [List.any_cons,List.any_nil,Bool.or_false];exact decide_eq_false (fun h => e h.2.symm)
       rw [this,Bool.or_false];exact h2 q
     ·rw [List.lookup_cons] at hs
      by_cases e : q = x.f2.data.toList
      ·have e1 : (q == x.f2.data.toList) = true:=by rw [e];exact beq_self_eq_true _
       rw [e1] at hs
       obtain rfl:=Option.some.inj hs
       rcases List.mem_append.1 hy with hy | hy
       ·have:=List.any_eq_false.1 hc y hy
        exact Classical.byContradiction fun hne => this (decide_eq_true ⟨y0,yq.trans e,hne⟩)
       ·obtain rfl:=List.mem_singleton.1 hy;rfl
      ·have e1 : (q == x.f2.data.toList) = false:=beq_eq_false_iff_ne.2 e
       rw [e1] at hs
       rcases List.mem_append.1 hy with hy | hy
       ·exact h3 q s hs y hy y0 yq
       ·obtain rfl:=List.mem_singleton.1 hy;exact absurd yq.symm e
    cases hL : L.lookup x.f2.data.toList with
    | none =>
     have hc : pre.any (coP x.f2.data.toList x.f3.data.toList) = false:=by
      rw [List.any_eq_false]
      intro y hy hh
      have hh:=of_decide_eq_true hh
      exact List.any_eq_false.1 ((h2 _).1 hL) y hy (decide_eq_true ⟨hh.1,hh.2.1⟩)
     show checkF _ _ _ = _
     rw [if_neg (by rw [hc];intro h;cases h.2),if_neg (fun h => n3 h.1),if_neg (fun h => n3 h.1)]
     exact hpush hc
    | some s =>
     show (if s.data.toList = x.f3.data.toList then _ else _) = _
     by_cases hs : s.data.toList = x.f3.data.toList
     ·rw [if_pos hs]
      have hc : pre.any (coP x.f2.data.toList x.f3.data.toList) = false:=by
       rw [List.any_eq_false]
       intro y hy hh
       have hh:=of_decide_eq_true hh
       exact hh.2.2 ((h3 _ s hL y hy hh.1 hh.2.1).trans hs)
      rw [if_neg (by rw [hc];intro h;cases h.2),if_neg (fun h => n3 h.1),if_neg (fun h => n3 h.1)]
      exact hpush hc
     ·rw [if_neg hs]
      have hm : pre.any (msP x.f2.data.toList) = true:=bt_of_nf fun h => by rw [(h2 _).2 h] at hL;cases hL
      obtain ⟨y,hy,hyy⟩:=List.any_eq_true.1 hm
      have hyy:=of_decide_eq_true hyy
      rw [if_pos ⟨h0,List.any_eq_true.2 ⟨y,hy,decide_eq_true ⟨hyy.1,hyy.2,fun e => hs ((h3 _ s hL y hy hyy.1 hyy.2).symm.trans e)⟩⟩⟩]
  ·rw [if_neg h0,if_neg (show ¬ (x.f0 = 0 ∧ pre.any (wdP x.f2.data.toList) = true) from fun h => h0 h.1),if_neg (show ¬ (x.f0 = 0 ∧ pre.any (coP x.f2.data.toList x.f3.data.toList) = true) from fun h => h0 h.1)]
   by_cases n3 : x.f0 = 3
   ·rw [if_pos n3]
    by_cases hl : L.lookup x.f2.data.toList = none
    ·rw [if_pos hl,if_pos ⟨n3,(h2 _).1 hl⟩]
    ·rw [if_neg hl,if_neg (show ¬ (x.f0 = 3 ∧ pre.any (msP x.f2.data.toList) = false) from fun h => hl ((h2 _).2 h.2))]
     by_cases hg : x.f2.data.toList ∈ G
     ·rw [if_pos hg,if_pos ⟨n3,(h1 _).1 hg⟩]
     ·rw [if_neg hg,if_neg (fun h => hg ((h1 _).2 h.2))]
      refine ih _ _ _ (fun q => ?_) (fun q => ?_) (fun q s hs y hy y0 yq => ?_)
      ·rw [List.mem_cons,h1,List.any_append,Bool.or_eq_true]
       have : ([x].any (wdP q) = true) ↔ q = x.f2.data.toList:=by
        rw [List.any_cons,List.any_nil,Bool.or_false]
        unfold wdP
        rw [decide_eq_true_iff]
        exact ⟨fun h => h.2.symm,fun h => ⟨n3,h.symm⟩⟩
       rw [this];exact Or.comm
      ·rw [List.any_append]
       have : [x].any (msP q) = false:=by rw [List.any_cons,List.any_nil,Bool.or_false];exact decide_eq_false (fun h => h0 h.1)
       rw [this,Bool.or_false];exact h2 q
      ·rcases List.mem_append.1 hy with hy | hy
       ·exact h3 q s hs y hy y0 yq
       ·obtain rfl:=List.mem_singleton.1 hy;exact absurd y0 h0
   ·rw [if_neg n3,if_neg (fun h => n3 h.1),if_neg (fun h => n3 h.1)]
    refine ih _ _ _ (fun q => ?_) (fun q => ?_) (fun q s hs y hy y0 yq => ?_)
    ·rw [h1,List.any_append]
     have : [x].any (wdP q) = false:=by rw [List.any_cons,List.any_nil,Bool.or_false];exact decide_eq_false (fun h => n3 h.1)
     rw [this,Bool.or_false]
    ·rw [List.any_append]
     have : [x].any (msP q) = false:=by rw [List.any_cons,List.any_nil,Bool.or_false];exact decide_eq_false (fun h => h0 h.1)
     rw [this,Bool.or_false];exact h2 q
    ·rcases List.mem_append.1 hy with hy | hy
     ·exact h3 q s hs y hy y0 yq
     ·obtain rfl:=List.mem_singleton.1 hy;exact absurd y0 h0
theorem check_ev (l : List S51) (hn : l.length ≤ 2513169434915) : Ev (fun k => metrolabref53_Check.f k (rl l)) (checkV l):=by
 have h:=refCheck_ev l hn
 unfold checkV
 rw [check_same l [] [] [] (fun q => by simp) (fun q => by simp) (fun q s h => by simp at h)]
 exact h
end Go.Proofs.Ytnmmdeonkpfccaa.Pr
set_option linter.unusedVariables false
namespace Go.Proofs.Ytnmmdeonkpfccaa.Pr
open Go.RowKit Go.Proofs.YtnmmdeonkpfccaaW.PrintWords Go.Proofs.YtnmmdeonkpfccaaW.PrintLast Go.Proofs.YtnmmdeonkpfccaaW.PrintMore
def nx (g : List UInt8) : Nat → List S51 → Option (Int × Int)
 | _,[] => none
 | i,x :: r => if (x.f0 = 1 ∨ x.f0 = 2) ∧ x.f1.data.toList = g then some ((i : Int),1 + x.f0) else nx g (i + 1) r
def gA (l : List S51) (i : Nat) : S51:=l.getD i z51
def stA (l : List S51) (i : Nat) : Int × Int:=if (gA l i).f0 = 0 then (nx (gA l i).f1.data.toList (i + 1) (l.drop (i + 1))).getD (-1,1) else (-1,0)
theorem gA_at {l : List S51} {i : Nat} {x : S51} (h : l[i]? = some x) : gA l i = x:=by unfold gA;rw [List.getD_eq_getElem?_getD,h];rfl
theorem lastA_nx (l : List S51) (g : List UInt8) : ∀ k,k ≤ l.length → (lastA l k).lookup g = nx g (l.length - k) (l.drop (l.length - k)):=by
 intro k
 induction k with
 | zero => intro _;rw [Nat.sub_zero,List.drop_length];rfl
 | succ k ih =>
  intro hk
  obtain ⟨x,hx,hdr⟩:=drop_at (l:=l) (i:=l.length - (k + 1)) (by omega)
  have e1 : l.length - (k + 1) + 1 = l.length - k:=by omega
  have e2 : l.length - 1 - k = l.length - (k + 1):=by omega
  rw [e1] at hdr
  have hih:=ih (by omega)
  have hi : (l.length : Int) - 1 - k = ((l.length - (k + 1) : Nat) : Int):=by omega
  have hg : l.getD (l.length - 1 - k) z51 = x:=by rw [e2];exact gA_at hx
  rw [hdr]
  unfold nx lastA
  rw [hg,hi,e1]
  by_cases h1 : x.f0 = 1
  ·rw [if_pos h1,List.lookup_cons]
   by_cases hgg : x.f1.data.toList = g
   ·rw [if_pos ⟨.inl h1,hgg⟩,h1]
    have : (g == x.f1.data.toList) = true:=by rw [hgg];exact beq_self_eq_true _
    rw [this];rfl
   ·rw [if_neg (fun h => hgg h.2)]
    have : (g == x.f1.data.toList) = false:=beq_eq_false_iff_ne.2 (fun h => hgg h.symm)
    rw [this];exact hih
  ·rw [if_neg h1]
   by_cases h2 : x.f0 = 2
   ·rw [if_pos h2,List.lookup_cons]
    by_cases hgg : x.f1.data.toList = g
    ·rw [if_pos ⟨.inr h2,hgg⟩,h2]
     have : (g == x.f1.data.toList) = true:=by rw [hgg];exact beq_self_eq_true _
     rw [this];rfl
    ·rw [if_neg (fun h => hgg h.2)]
     have : (g == x.f1.data.toList) = false:=beq_eq_false_iff_ne.2 (fun h => hgg h.symm)
     rw [this];exact hih
   ·rw [if_neg h2,if_neg (fun h => h.1.elim h1 h2)];exact hih
theorem chkA_st (l : List S51) (k : Nat) (hk : k < l.length) : chkA l k = stA l (l.length - 1 - k):=by
 unfold chkA stA gA
 have:=lastA_nx l (l.getD (l.length - 1 - k) z51).f1.data.toList k (by omega)
 rw [this,show l.length - 1 - k + 1 = l.length - k by omega]
def stL (l : List S51) : List Int:=(List.range l.length).map fun i => (stA l i).2
theorem statesL_eq (l : List S51) : statesL l = stL l:=by
 unfold statesL stL
 refine List.map_congr_left fun i hi => ?_
 have:=List.mem_range.1 hi
 rw [chkA_st l _ (by omega),show l.length - 1 - (l.length - 1 - i) = i by omega]
end Go.Proofs.Ytnmmdeonkpfccaa.Pr
