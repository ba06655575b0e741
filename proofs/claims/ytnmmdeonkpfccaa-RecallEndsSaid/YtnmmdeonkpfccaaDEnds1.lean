/- A part of the statement's proof. -/
import Derived.Test.YtnmmdeonkpfccaaProg
import Derived.Below
import Derived.Deep.Draws
import Derived.Deep.AppendLies
import Derived.Maps.AppendAt
import Derived.OwnWalk
import Derived.Laws.BytesArg
import Derived.Laws.MakeOwn
import Derived.Laws.OwnMore
import Derived.Deep.OwnRows
import Derived.Tactics
import Derived.Lib.ConvBytes
import Derived.Laws.Slices
import Derived.WalkKit
import Derived.KernelRfl
import Derived.RowKit3
import Derived.Deep.LoopGhost
import Derived.Deep.QuietTactic
import Derived.BigQuiet
import Derived.WideLaws
import Derived.Deep.DeepCutAuto
import Derived.Deep.CutBlock
import Derived.Deep.RegionHeld3
import Derived.Laws.Rows
import Derived.Lib.AppendStr
import Derived.ArgAppend
import Derived.Laws.IdiomCopy
import Derived.OrdersHeld
import Derived.Laws.BitsLemmas
import Derived.RowKit
import Derived.Test.YtnmmdeonkpfccaaDEndsWWords
import Derived.Test.YtnmmdeonkpfccaaDEndsWLast
import Derived.Test.YtnmmdeonkpfccaaDEndsWApart
import Derived.Test.YtnmmdeonkpfccaaDEndsWFoot
import Derived.Test.YtnmmdeonkpfccaaDEndsWKept
import Derived.Test.YtnmmdeonkpfccaaDEndsWShare
import Derived.Test.YtnmmdeonkpfccaaDEndsWN
import Derived.Laws.StructEq
import Derived.Test.YtnmmdeonkpfccaaDEndsWRepsOne
import Derived.Test.YtnmmdeonkpfccaaDEndsWMore
namespace Go.Proofs.Ytnmmdeonkpfccaa.Pr
open Go.RowKit Go.Proofs.YtnmmdeonkpfccaaW.PrintWords Go.Proofs.YtnmmdeonkpfccaaW.PrintLast Go.Proofs.YtnmmdeonkpfccaaW.PrintMore
attribute [local go_sem] max2_int min2_int max_two min_two max_three min_three max_four min_four
set_option linter.unusedVariables false
set_option linter.unusedSimpArgs false
def errW : Option Int → Value
 | none => .nilIface
 | some c => .iface 0 (.int .i64 c)
theorem errW_none : errW none = .nilIface:=rfl
theorem errW_some (c : Int) : errW (some c) = .iface 0 (.int .i64 c):=rfl
theorem info3 : (Try.prog.info? 3).map (fun i => (i.zero,i.size,i.bytes)) = some (some (.int .i64 0),1,8):=by kernel_rfl
theorem info51 : (Try.prog.info? 51).map (fun i => (i.zero,i.size,i.bytes)) = some (some (.agg #[(.int .i64 0),(.string ⟨#[]⟩),(.string ⟨#[]⟩),(.string ⟨#[]⟩)]),4,56):=by kernel_rfl
theorem info67 : (Try.prog.info? 67).map (fun i => (i.zero,i.size,i.bytes)) = some (some (.agg #[(.int .i64 0),(.string ⟨#[]⟩),(.string ⟨#[]⟩),(.string ⟨#[]⟩)]),4,56):=by kernel_rfl
structure S51 where
 f0 : Int
 f1 : ByteArray
 f2 : ByteArray
 f3 : ByteArray
def z51 : S51:=⟨(0 : Int),(⟨#[]⟩ : ByteArray),(⟨#[]⟩ : ByteArray),(⟨#[]⟩ : ByteArray)⟩
def k51 : Kd S51:=Kd.iso (Kd.pair (Kd.int .i64) (Kd.pair Kd.string (Kd.pair Kd.string Kd.string))) (fun x : S51 => (x.f0,x.f1,x.f2,x.f3))
theorem k51_open {w : World} {x : S51} {cs : List Value} (h : k51.K w x cs) : cs = [.int .i64 x.f0,.string x.f1,.string x.f2,.string x.f3]:=by
 obtain ⟨_,_,rfl,rfl,⟨_,_,rfl,rfl,⟨_,_,rfl,rfl,rfl⟩⟩⟩:=h
 exact rfl
theorem k51_mk (w : World) (x : S51)  : k51.K w x [.int .i64 x.f0,.string x.f1,.string x.f2,.string x.f3]:=⟨[.int .i64 x.f0],[.string x.f1,.string x.f2,.string x.f3],rfl,rfl,⟨[.string x.f1],[.string x.f2,.string x.f3],rfl,rfl,⟨[.string x.f2],[.string x.f3],rfl,rfl,rfl⟩⟩⟩
theorem k51_mkM (w : World) (base : Nat) (ok : Nat → Prop) (x : S51)  : k51.M w base ok x [.int .i64 x.f0,.string x.f1,.string x.f2,.string x.f3]:=⟨[.int .i64 x.f0],[.string x.f1,.string x.f2,.string x.f3],rfl,rfl,⟨[.string x.f1],[.string x.f2,.string x.f3],rfl,rfl,⟨[.string x.f2],[.string x.f3],rfl,rfl,rfl⟩⟩⟩
def rd_T51 (xs : List S51) (i : Int) : S51:=xs.getD i.toNat z51
theorem at_T51 {w : World} {A : Option Addr} {n : Nat} {xs : List S51} (h : Kd.C k51 w A n xs) (i : Int) (h0 : 0 ≤ i) (h1 : i < n) : ∃ ad ,A = some ad ∧ w.cell? (ad.add (i.toNat * 4)) = some (.int .i64 (rd_T51 xs i).f0) ∧ w.cell? ⟨(ad.add (i.toNat * 4)).block,(ad.add (i.toNat * 4)).off + 1,none⟩ = some (.string (rd_T51 xs i).f1) ∧ w.cell? ⟨(ad.add (i.toNat * 4)).block,(ad.add (i.toNat * 4)).off + 2,none⟩ = some (.string (rd_T51 xs i).f2) ∧ w.cell? ⟨(ad.add (i.toNat * 4)).block,(ad.add (i.toNat * 4)).off + 3,none⟩ = some (.string (rd_T51 xs i).f3):=by
 obtain ⟨ad,c,e,_,hK,hc0⟩:=Kd.C_get h z51 i h0 h1
 have hc : ∀ j u,c[j]? = some u → w.cell? (ad.add (i.toNat * 4 + j)) = some u:=hc0
 obtain rfl:=k51_open hK
 exact ⟨ad,e,hc 0 _ rfl,by rw [← add_field _ _ 1 (by omega)];exact hc 1 _ rfl,by rw [← add_field _ _ 2 (by omega)];exact hc 2 _ rfl,by rw [← add_field _ _ 3 (by omega)];exact hc 3 _ rfl⟩
structure S67 where
 f0 : Int
 f1 : ByteArray
 f2 : ByteArray
 f3 : ByteArray
def z67 : S67:=⟨(0 : Int),(⟨#[]⟩ : ByteArray),(⟨#[]⟩ : ByteArray),(⟨#[]⟩ : ByteArray)⟩
def k67 : Kd S67:=Kd.iso (Kd.pair (Kd.int .i64) (Kd.pair Kd.string (Kd.pair Kd.string Kd.string))) (fun x : S67 => (x.f0,x.f1,x.f2,x.f3))
theorem k67_open {w : World} {x : S67} {cs : List Value} (h : k67.K w x cs) : cs = [.int .i64 x.f0,.string x.f1,.string x.f2,.string x.f3]:=by
 obtain ⟨_,_,rfl,rfl,⟨_,_,rfl,rfl,⟨_,_,rfl,rfl,rfl⟩⟩⟩:=h
 exact rfl
theorem k67_mkM (w : World) (base : Nat) (ok : Nat → Prop) (x : S67)  : k67.M w base ok x [.int .i64 x.f0,.string x.f1,.string x.f2,.string x.f3]:=⟨[.int .i64 x.f0],[.string x.f1,.string x.f2,.string x.f3],rfl,rfl,⟨[.string x.f1],[.string x.f2,.string x.f3],rfl,rfl,⟨[.string x.f2],[.string x.f3],rfl,rfl,rfl⟩⟩⟩
def rd_T67 (xs : List S67) (i : Int) : S67:=xs.getD i.toNat z67
theorem at_T67 {w : World} {A : Option Addr} {n : Nat} {xs : List S67} (h : Kd.C k67 w A n xs) (i : Int) (h0 : 0 ≤ i) (h1 : i < n) : ∃ ad ,A = some ad ∧ w.cell? (ad.add (i.toNat * 4)) = some (.int .i64 (rd_T67 xs i).f0) ∧ w.cell? ⟨(ad.add (i.toNat * 4)).block,(ad.add (i.toNat * 4)).off + 1,none⟩ = some (.string (rd_T67 xs i).f1) ∧ w.cell? ⟨(ad.add (i.toNat * 4)).block,(ad.add (i.toNat * 4)).off + 2,none⟩ = some (.string (rd_T67 xs i).f2) ∧ w.cell? ⟨(ad.add (i.toNat * 4)).block,(ad.add (i.toNat * 4)).off + 3,none⟩ = some (.string (rd_T67 xs i).f3):=by
 obtain ⟨ad,c,e,_,hK,hc0⟩:=Kd.C_get h z67 i h0 h1
 have hc : ∀ j u,c[j]? = some u → w.cell? (ad.add (i.toNat * 4 + j)) = some u:=hc0
 obtain rfl:=k67_open hK
 exact ⟨ad,e,hc 0 _ rfl,by rw [← add_field _ _ 1 (by omega)];exact hc 1 _ rfl,by rw [← add_field _ _ 2 (by omega)];exact hc 2 _ rfl,by rw [← add_field _ _ 3 (by omega)];exact hc 3 _ rfl⟩
structure S101 where
 f0 : ByteArray
 f1 : Bool
def z101 : S101:=⟨(⟨#[]⟩ : ByteArray),false⟩
def k101 : Kd S101:=Kd.iso (Kd.pair Kd.string Kd.bool) (fun x : S101 => (x.f0,x.f1))
theorem k101_open {w : World} {x : S101} {cs : List Value} (h : k101.K w x cs) : cs = [.string x.f0,.bool x.f1]:=by
 obtain ⟨_,_,rfl,rfl,rfl⟩:=h
 exact rfl
theorem k101_mkM (w : World) (base : Nat) (ok : Nat → Prop) (x : S101)  : k101.M w base ok x [.string x.f0,.bool x.f1]:=⟨[.string x.f0],[.bool x.f1],rfl,rfl,rfl⟩
def rd_T101 (xs : List S101) (i : Int) : S101:=xs.getD i.toNat z101
theorem at_T101 {w : World} {A : Option Addr} {n : Nat} {xs : List S101} (h : Kd.C k101 w A n xs) (i : Int) (h0 : 0 ≤ i) (h1 : i < n) : ∃ ad ,A = some ad ∧ w.cell? (ad.add (i.toNat * 2)) = some (.string (rd_T101 xs i).f0) ∧ w.cell? ⟨(ad.add (i.toNat * 2)).block,(ad.add (i.toNat * 2)).off + 1,none⟩ = some (.bool (rd_T101 xs i).f1):=by
 obtain ⟨ad,c,e,_,hK,hc0⟩:=Kd.C_get h z101 i h0 h1
 have hc : ∀ j u,c[j]? = some u → w.cell? (ad.add (i.toNat * 2 + j)) = some u:=hc0
 obtain rfl:=k101_open hK
 exact ⟨ad,e,hc 0 _ rfl,by rw [← add_field _ _ 1 (by omega)];exact hc 1 _ rfl⟩
end Go.Proofs.Ytnmmdeonkpfccaa.Pr
namespace Go.Proofs.Ytnmmdeonkpfccaa.Pr
open Go.RowKit Go.Proofs.YtnmmdeonkpfccaaW.PrintWords Go.Proofs.YtnmmdeonkpfccaaW.PrintLast Go.Proofs.YtnmmdeonkpfccaaW.PrintMore
attribute [local go_sem] max2_int min2_int max_two min_two max_three min_three max_four min_four
set_option linter.unusedVariables false
set_option linter.unusedSimpArgs false
def metrolablaw53_own.l0 : Nat → List (S67) → List (S51) → Int → Int → Option ((List (S67)))
 | 0,_,_,_,_ => none
 | k + 1,x3,x6,x7,x8 => if x8 < x7 then (if 0 ≤ x8 then (if x8 < (x6.length : Int) then (if x3.length < 2513169434916 then (metrolablaw53_own.l0 k (x3 ++ [(⟨(rd_T51 x6 x8).f0,(rd_T51 x6 x8).f1,(rd_T51 x6 x8).f2,(rd_T51 x6 x8).f3⟩ : S67)]) x6 x7 (wrap64 (x8 + 1))) else (none)) else (none)) else (none)) else (some x3)
def metrolablaw53_own.f (k : Nat) (l0 : List (S51)) : Option ((List (S67))):=metrolablaw53_own.l0 k ([] : List (S67)) l0 (l0.length : Int) 0
set_option maxHeartbeats 8000000 in
set_option maxRecDepth 100000 in
theorem metrolablaw53_own.calls (k : Nat) (A0 : Option Addr) (c0 : Nat) (l0 : List (S51)) (r : List (S67)) (w : World) (hr0 : Kd.C k51 w A0 l0.length l0) (hc0 : l0.length ≤ c0) (h : metrolablaw53_own.f k l0 = some r) :
  Calls Try.prog 13 #[.slice A0 l0.length c0] w fun e w' => ∃ v0_ : Value,e = .returned (v0_) ∧ Kd.R k67 67 w' w.heap.size (fun _ => True) v0_ r ∧ Below w.heap.size w w':=by
 have hu51:=Try.underlying51
 have HR0:=Aside0.mk hr0
 have HC0:=Aside0.mk hc0
 clear hr0 hc0
 have HB:=Aside0.mk (Below.refl w.heap.size w)
 have H : (metrolablaw53_own.l0 k ([] : List (S67)) l0 (l0.length : Int) 0) = some r:=h
 clear h
 have H':=Aside0.mk H
 clear H
 go_enter Try.func13,Try.ntmps13
 go_wp2
 go_loopg [3,8] k (fun kq v3 v8 w' => ∃ (x3_1 : List (S67)) (x8_1 : Int),v8 = .int .i64 x8_1 ∧ Aside0 (metrolablaw53_own.l0 kq x3_1 l0 (l0.length : Int) x8_1 = some r) ∧ Aside0 (kq ≤ k) ∧ Aside0 (Kd.R k67 67 w' w.heap.size (fun _ => True) v3 x3_1) ∧ Aside0 (Below w.heap.size w w'))
 case atStart => exact ⟨(([] : List (S67))),(0),(by first | rfl | (simp;done) | (simp [*];done)),H',⟨Nat.le_refl _⟩,⟨by first | exact Kd.R_nil _ _ _ _ _ | exact Kd.N_nil _ _ _ _ _ | exact Kd.V_nil _ _ _ _ _ | exact Kd.Q_nil _ _ _ _ _ | exact Kd.S_nil _ _ _ _ _⟩,⟨by repeat (first | (with_reducible first | exact HB.out | apply below_alloc | apply pw_below_drewN | apply below_drew1) | exact HB.out)⟩⟩
 case round =>
  clear H'
  try clear c1
  obtain ⟨x3_1,x8_1,rfl,HA,HK1,HO_3,HB⟩:=hrel
  cases gk with
  | zero => exact absurd HA.out (by simp [metrolablaw53_own.l0])
  | succ k1 =>
   have H:=HA.out
   clear HA
   simp only [metrolablaw53_own.l0] at H
   by_cases c2 : x8_1 < (l0.length : Int)
   ·rw [if_pos c2] at H
    have c2b0 : decide (x8_1 < (l0.length : Int)) = true:=decide_eq_true c2
    clear c2
    by_cases c3 : 0 ≤ x8_1
    ·rw [if_pos c3] at H
     have c3b0 : decide (0 ≤ x8_1) = true:=decide_eq_true c3
     clear c3
     by_cases c4 : x8_1 < (l0.length : Int)
     ·rw [if_pos c4] at H
      have c4b0 : decide (x8_1 < (l0.length : Int)) = true:=decide_eq_true c4
      clear c4
      by_cases c5 : x3_1.length < 2513169434916
      ·rw [if_pos c5] at H
       have LMc5:=Aside0.mk c5
       clear c5
       obtain ⟨y103,hy103⟩ : ∃ y_ : List (S67),y_ = (x3_1 ++ [(⟨(rd_T51 l0 x8_1).f0,(rd_T51 l0 x8_1).f1,(rd_T51 l0 x8_1).f2,(rd_T51 l0 x8_1).f3⟩ : S67)]):=⟨_,rfl⟩
       replace H : (metrolablaw53_own.l0 k1 y103 l0 (l0.length : Int) (wrap64 (x8_1 + 1))) = some r:=by first | (rw [hy103];with_reducible exact H) | (have H2_:=(Option.bind_some _ _).symm.trans H;rw [hy103];with_reducible exact H2_) | (have H2_:=(Option.bind_some _ _).symm.trans H;with_reducible exact H2_) | with_reducible exact H | (rw [hy103];exact H) | exact H
       have Ny103:=Aside0.mk hy103
       clear hy103
       have H':=Aside0.mk H
       clear H
       have p101 : 0 ≤ (x8_1 : Int):=of_decide_eq_true (by first | (with_reducible assumption) | assumption)
       have q101 : x8_1 < (l0.length : Int):=of_decide_eq_true (by first | (with_reducible assumption) | assumption)
       obtain ⟨ad101,e101,hx101_0,hx101_1,hx101_2,hx101_3⟩:=at_T51 HR0.out x8_1 p101 q101
       cases e101
       replace hx101_0:=(HB.out.cell (World.block_lt_of_cell? w _ hx101_0)).trans hx101_0
       replace hx101_1:=(HB.out.cell (World.block_lt_of_cell? w _ hx101_1)).trans hx101_1
       replace hx101_2:=(HB.out.cell (World.block_lt_of_cell? w _ hx101_2)).trans hx101_2
       replace hx101_3:=(HB.out.cell (World.block_lt_of_cell? w _ hx101_3)).trans hx101_3
       replace p101:=eq_true p101
       replace q101:=eq_true q101
       go_wp2_with (first | ((with_reducible refine gate_dst (N:=5) rfl ?_);refine box_event ?hg (N:=5) ?hd (cs:=#[.int .i64 0,.string (⟨#[]⟩ : ByteArray),.string (⟨#[]⟩ : ByteArray),.string (⟨#[]⟩ : ByteArray)]) (t:=51) ?hr ?_;(case hd => rfl);(case hg => rfl);(case hr => first | (go_simp;done) | (go_simp;rfl));intro gb102 hg w6 hbox hb;have n0_:=Aside0.mk (Kd.R_below (by (with_reducible repeat (first | apply Kd.R_alloc | apply Kd.R_drewN | apply Kd.R_drew));exact HO_3.out) hb);have n1_:=Aside0.mk (below_step (by repeat (first | (with_reducible first | exact HB.out | apply below_alloc | apply pw_below_drewN | apply below_drew1) | exact HB.out)) hb);have n2_:=Aside0.mk (hbox);have n3_:=Aside0.mk ((by rw [hg];exact (below_size (by repeat (first | (with_reducible first | exact HB.out | apply below_alloc | apply pw_below_drewN | apply below_drew1) | exact HB.out))) : w.heap.size ≤ gb102));have n4_:=Aside0.mk ((by rw [hg];exact (below_size (by repeat (first | (with_reducible first | exact HB.out | apply below_alloc | apply pw_below_drewN | apply below_drew1) | exact HB.out))) : w.heap.size ≤ gb102));clear HO_3;clear HB;have HO_3:=n0_;have HB:=n1_;have BK102:=n2_;have GW102:=n3_;have GE102:=n4_;clear n0_ n1_ n2_ n3_ n4_;clear hb hbox hg;have hcz7_0 : w6.cell? ⟨gb102,0,none⟩ = some (.int .i64 0):=(blk_cell BK102.out 0).trans rfl;have hcz7_1 : w6.cell? ⟨gb102,1,none⟩ = some (.string (⟨#[]⟩ : ByteArray)):=(blk_cell BK102.out 1).trans rfl;have hcz7_2 : w6.cell? ⟨gb102,2,none⟩ = some (.string (⟨#[]⟩ : ByteArray)):=(blk_cell BK102.out 2).trans rfl;have hcz7_3 : w6.cell? ⟨gb102,3,none⟩ = some (.string (⟨#[]⟩ : ByteArray)):=(blk_cell BK102.out 3).trans rfl;have hfz7_0:=blk_frozen BK102.out 0;have hfz7_1:=blk_frozen BK102.out 1;have hfz7_2:=blk_frozen BK102.out 2;have hfz7_3:=blk_frozen BK102.out 3) | ((with_reducible refine gate_builtin (b:=.append) (xs:=#[.tmp 12,.tmp 14]) rfl ?_);at_builtin;refine Kd.R_append k67 (w0:=w) w.heap.size rfl (.tmp 12) (.tmp 14) 31 67 (.agg #[(.int .i64 0),(.string ⟨#[]⟩),(.string ⟨#[]⟩),(.string ⟨#[]⟩)]) 56 rfl Try.underlying31 info67 rfl (by decide) (by omega) u3 x3_1 (⟨(rd_T51 l0 x8_1).f0,(rd_T51 l0 x8_1).f1,(rd_T51 l0 x8_1).f2,(rd_T51 l0 x8_1).f3⟩ : S67) [.int .i64 ((rd_T51 l0 x8_1).f0),.string ((rd_T51 l0 x8_1).f1),.string ((rd_T51 l0 x8_1).f2),.string ((rd_T51 l0 x8_1).f3)] (fun _ => True) (fun _ => False) rfl (by first | (go_simp;done) | (go_simp;rfl)) ?aP (fun _ hk => hk.elim) ?aF ?aO ?aB ?aS ?aL ?_;(case aP => exact k67_mkM _ _ _ (⟨(rd_T51 l0 x8_1).f0,(rd_T51 l0 x8_1).f1,(rd_T51 l0 x8_1).f2,(rd_T51 l0 x8_1).f3⟩ : S67));(case aB => exact (by repeat (first | (with_reducible first | exact HB.out | apply below_alloc | apply pw_below_drewN | apply below_drew1 | refine below_set ?_ GE102.out) | exact HB.out)));(case aF => exact (fun _ _ => trivial));(case aO => exact (by (with_reducible repeat (first | apply Kd.R_alloc | apply Kd.R_drewN | apply Kd.R_drew));exact Kd.R_mono (Kd.R_far (p:=⟨gb102,3,none⟩) (Kd.R_far (p:=⟨gb102,2,none⟩) (Kd.R_far (p:=⟨gb102,1,none⟩) (Kd.R_far (p:=⟨gb102,0,none⟩) (Kd.R_types HO_3.out BK102.out (by decide)) (fun _ hk => hk.2) (.int .i64 ((rd_T51 l0 x8_1).f0))) (fun _ hk => hk.2) (.string ((rd_T51 l0 x8_1).f1))) (fun _ hk => hk.2) (.string ((rd_T51 l0 x8_1).f2))) (fun _ hk => hk.2) (.string ((rd_T51 l0 x8_1).f3))) (fun _ hk => trivial)));(case aS => exact (below_size (by repeat (first | (with_reducible first | exact HB.out | apply below_alloc | apply pw_below_drewN | apply below_drew1 | refine below_set ?_ GE102.out) | exact HB.out))));(case aL => have:=LMc5.out;omega);intro v104 w8 ho hb hg hat;rw [← Ny103.out] at ho;have n0_:=Aside0.mk (blk_grown (g:=gb102) (o:=.cells #[.int .i64 ((rd_T51 l0 x8_1).f0),.string ((rd_T51 l0 x8_1).f1),.string ((rd_T51 l0 x8_1).f2),.string ((rd_T51 l0 x8_1).f3)] 51 (0,0)) (by (with_reducible repeat (first | refine blk_drewN ?_ _ | refine blk_drew ?_ | refine blk_alloc ?_ _));refine blk_put (cs:=#[.int .i64 ((rd_T51 l0 x8_1).f0),.string ((rd_T51 l0 x8_1).f1),.string ((rd_T51 l0 x8_1).f2),.string (⟨#[]⟩ : ByteArray)]) ?_ 3 _ rfl;(with_reducible repeat (first | refine blk_drewN ?_ _ | refine blk_drew ?_ | refine blk_alloc ?_ _));refine blk_put (cs:=#[.int .i64 ((rd_T51 l0 x8_1).f0),.string ((rd_T51 l0 x8_1).f1),.string (⟨#[]⟩ : ByteArray),.string (⟨#[]⟩ : ByteArray)]) ?_ 2 _ rfl;(with_reducible repeat (first | refine blk_drewN ?_ _ | refine blk_drew ?_ | refine blk_alloc ?_ _));refine blk_put (cs:=#[.int .i64 ((rd_T51 l0 x8_1).f0),.string (⟨#[]⟩ : ByteArray),.string (⟨#[]⟩ : ByteArray),.string (⟨#[]⟩ : ByteArray)]) ?_ 1 _ rfl;(with_reducible repeat (first | refine blk_drewN ?_ _ | refine blk_drew ?_ | refine blk_alloc ?_ _));refine blk_put (cs:=#[.int .i64 0,.string (⟨#[]⟩ : ByteArray),.string (⟨#[]⟩ : ByteArray),.string (⟨#[]⟩ : ByteArray)]) ?_ 0 _ rfl;(with_reducible repeat (first | refine blk_drewN ?_ _ | refine blk_drew ?_ | refine blk_alloc ?_ _));exact BK102.out) hg (Kd.R_ne HO_3.out BK102.out (by decide)));have n1_:=Aside0.mk (hb);have n2_:=Aside0.mk (ho);clear BK102;clear HB;clear HO_3;have BK102:=n0_;have HB:=n1_;have HO105:=n2_;clear n0_ n1_ n2_;clear ho hb hg hat))
       go_roundg k1
       case measure => have:=HK1.out;omega
       case rel => exact ⟨(y103),(wrap64 (x8_1 + 1)),(by first | rfl | (simp;done) | (simp [*];done)),H',⟨by have:=HK1.out;omega⟩,⟨by (with_reducible repeat (first | apply Kd.R_alloc | apply Kd.R_drewN | apply Kd.R_drew));exact HO105.out⟩,⟨by repeat (first | (with_reducible first | exact HB.out | apply below_alloc | apply pw_below_drewN | apply below_drew1 | refine below_set ?_ GE102.out) | exact HB.out)⟩⟩
      ·rw [if_neg c5] at H
       exact absurd H (by simp)
     ·rw [if_neg c4] at H
      exact absurd H (by simp)
    ·rw [if_neg c3] at H
     exact absurd H (by simp)
   ·rw [if_neg c2] at H
    have c2b0 : decide (x8_1 < (l0.length : Int)) = false:=decide_eq_false c2
    clear c2
    obtain rfl:=Option.some.inj H
    go_wp2
    go_ret
    exact ⟨_,by first | rfl | (simp [errW_none,errW_some] <;> rfl) | (simp [*,errW_none,errW_some] <;> rfl),by (with_reducible repeat (first | apply Kd.R_alloc | apply Kd.R_drewN | apply Kd.R_drew));exact HO_3.out,by repeat (first | (with_reducible first | exact HB.out | apply below_alloc | apply pw_below_drewN | apply below_drew1) | exact HB.out)⟩
end Go.Proofs.Ytnmmdeonkpfccaa.Pr
namespace Go.Proofs.Ytnmmdeonkpfccaa.Pr
open Go.RowKit Go.Proofs.YtnmmdeonkpfccaaW.PrintWords Go.Proofs.YtnmmdeonkpfccaaW.PrintLast Go.Proofs.YtnmmdeonkpfccaaW.PrintMore
attribute [local go_sem] max2_int min2_int max_two min_two max_three min_three max_four min_four
set_option linter.unusedVariables false
set_option linter.unusedSimpArgs false
def metrolabref17_letter.f (a0 : Int) : Option (Bool):=if a0 ≥ 97 then (if a0 ≤ 122 then (some true) else (if a0 ≥ 65 then (some (decide (a0 ≤ 90))) else (some false))) else (if a0 ≥ 65 then (some (decide (a0 ≤ 90))) else (some false))
set_option maxHeartbeats 8000000 in
set_option maxRecDepth 100000 in
theorem metrolabref17_letter.calls (a0 : Int) (r : Bool) (w : World) (h : metrolabref17_letter.f a0 = some r) :
  Calls Try.prog 59 #[.int .u8 a0] w fun e w' => e = .returned (.bool r) ∧ Drawn0 w w':=by
 have H : (if a0 ≥ 97 then (if a0 ≤ 122 then (some true) else (if a0 ≥ 65 then (some (decide (a0 ≤ 90))) else (some false))) else (if a0 ≥ 65 then (some (decide (a0 ≤ 90))) else (some false))) = some r:=h
 clear h
 by_cases c2 : a0 ≥ 97
 ·rw [if_pos c2] at H
  have c2b0 : decide (97 ≤ a0) = true:=decide_eq_true c2
  clear c2
  by_cases c3 : a0 ≤ 122
  ·rw [if_pos c3] at H
   have c3b0 : decide (a0 ≤ 122) = true:=decide_eq_true c3
   clear c3
   obtain rfl:=Option.some.inj H
   go_enter Try.func59,Try.ntmps59
   go_wp2
   go_ret
   exact ⟨by first | rfl | (simp;done) | (simp [*];done),by repeat (first | exact Drawn0.refl _ | apply Drawn0.step)⟩
  ·rw [if_neg c3] at H
   have c3b0 : decide (a0 ≤ 122) = false:=decide_eq_false c3
   clear c3
   by_cases c4 : a0 ≥ 65
   ·rw [if_pos c4] at H
    have c4b0 : decide (65 ≤ a0) = true:=decide_eq_true c4
    clear c4
    obtain rfl:=Option.some.inj H
    go_enter Try.func59,Try.ntmps59
    go_wp2
    go_ret
    exact ⟨by first | rfl | (simp;done) | (simp [*];done),by repeat (first | exact Drawn0.refl _ | apply Drawn0.step)⟩
   ·rw [if_neg c4] at H
    have c4b0 : decide (65 ≤ a0) = false:=decide_eq_false c4
    clear c4
    obtain rfl:=Option.some.inj H
    go_enter Try.func59,Try.ntmps59
    go_wp2
    go_ret
    exact ⟨by first | rfl | (simp;done) | (simp [*];done),by repeat (first | exact Drawn0.refl _ | apply Drawn0.step)⟩
 ·rw [if_neg c2] at H
  have c2b0 : decide (97 ≤ a0) = false:=decide_eq_false c2
  clear c2
  by_cases c5 : a0 ≥ 65
  ·rw [if_pos c5] at H
   have c5b0 : decide (65 ≤ a0) = true:=decide_eq_true c5
   clear c5
   obtain rfl:=Option.some.inj H
   go_enter Try.func59,Try.ntmps59
   go_wp2
   go_ret
   exact ⟨by first | rfl | (simp;done) | (simp [*];done),by repeat (first | exact Drawn0.refl _ | apply Drawn0.step)⟩
  ·rw [if_neg c5] at H
   have c5b0 : decide (65 ≤ a0) = false:=decide_eq_false c5
   clear c5
   obtain rfl:=Option.some.inj H
   go_enter Try.func59,Try.ntmps59
   go_wp2
   go_ret
   exact ⟨by first | rfl | (simp;done) | (simp [*];done),by repeat (first | exact Drawn0.refl _ | apply Drawn0.step)⟩
end Go.Proofs.Ytnmmdeonkpfccaa.Pr
namespace Go.Proofs.Ytnmmdeonkpfccaa.Pr
open Go.RowKit Go.Proofs.YtnmmdeonkpfccaaW.PrintWords Go.Proofs.YtnmmdeonkpfccaaW.PrintLast Go.Proofs.YtnmmdeonkpfccaaW.PrintMore
attribute [local go_sem] max2_int min2_int max_two min_two max_three min_three max_four min_four
set_option linter.unusedVariables false
set_option linter.unusedSimpArgs false
mutual
def metrolabref17_Name.j0 : Nat → ByteArray → Bool → Option (Int)
 | 0,_,_ => none
 | k + 1,x0,x15 => if x15 = true then (some 3) else (metrolabref17_Name.l0 k x0 0)
def metrolabref17_Name.l0 : Nat → ByteArray → Int → Option (Int)
 | 0,_,_ => none
 | k + 1,x0,x3 => if x3 < (x0.size : Int) then (if 0 ≤ x3 then ((metrolabref17_letter.f (bt x0 x3)).bind fun t114 => (if t114 = true then (metrolabref17_Name.l0 k x0 (wrap64 (x3 + 1))) else (if (bt x0 x3) < 48 then (some 3) else (if (bt x0 x3) > 57 then (some 3) else (metrolabref17_Name.l0 k x0 (wrap64 (x3 + 1))))))) else (none)) else (some 0)
end
def metrolabref17_Name.f (k : Nat) (a0 : ByteArray) : Option (Int):=if (a0.size : Int) > 24 then (some 17) else (if (a0.size : Int) = 0 then (metrolabref17_Name.j0 k a0 true) else (if 0 < (a0.size : Int) then ((metrolabref17_letter.f (bt a0 0)).bind fun t113 => (metrolabref17_Name.j0 k a0 (!t113))) else (none)))
set_option maxHeartbeats 8000000 in
set_option maxRecDepth 100000 in
theorem metrolabref17_Name.calls (k : Nat) (a0 : ByteArray) (r : Int) (w : World) (h : metrolabref17_Name.f k a0 = some r) :
  Calls Try.prog 32 #[.string a0] w fun e w' => e = .returned (.int .i64 r) ∧ Drawn0 w w':=by
 have H : (if (a0.size : Int) > 24 then (some 17) else (if (a0.size : Int) = 0 then (metrolabref17_Name.j0 k a0 true) else (if 0 < (a0.size : Int) then ((metrolabref17_letter.f (bt a0 0)).bind fun t113 => (metrolabref17_Name.j0 k a0 (!t113))) else (none)))) = some r:=h
 clear h
 by_cases c2 : (a0.size : Int) > 24
 ·rw [if_pos c2] at H
  have c2b0 : decide (24 < (a0.size : Int)) = true:=decide_eq_true c2
  have c2b1 : decide (24 < a0.size) = true:=decide_eq_true (by omega)
  clear c2
  obtain rfl:=Option.some.inj H
  go_enter Try.func32,Try.ntmps32
  go_wp2
  go_ret
  exact ⟨by first | rfl | (simp;done) | (simp [*];done),by repeat (first | exact Drawn0.refl _ | apply Drawn0.step)⟩
 ·rw [if_neg c2] at H
  have c2b0 : decide (24 < (a0.size : Int)) = false:=decide_eq_false c2
  have c2b1 : decide (24 < a0.size) = false:=decide_eq_false (by omega)
  clear c2
  have HC3:=Aside0.mk H
  clear H
  go_enter Try.func32,Try.ntmps32
  go_upto_region 3 with (fail)
  go_cut [15] (fun v15 wc => ∃ (kq : Nat) (x15_2 : Bool),v15 = .bool x15_2 ∧ Aside0 (metrolabref17_Name.j0 kq a0 x15_2 = some r) ∧ Aside0 (kq ≤ k) ∧ Drawn0 w wc)
  case first =>
   have H:=HC3.out
   clear HC3
   by_cases c4 : (a0.size : Int) = 0
   ·rw [if_pos c4] at H
    have c4b0 : ((a0.size : Int) == 0) = true:=beq_iff_eq.mpr c4
    have c4b1 : ((a0.size : Int) != 0) = false:=bne_eq_false_iff_eq.mpr c4
    clear c4
    (first | rw [c4b0] | (simp only [i64_w,i32_w];rw [c4b0]) | skip)
    have H':=Aside0.mk H
    clear H
    go_wp2
    go_meet
    case rel => exact ⟨_,(true),(by first | rfl | (simp;done) | (simp [*];done)),H',⟨by first | omega | exact Nat.le_refl _⟩,by repeat (first | exact Drawn0.refl _ | apply Drawn0.step)⟩
   ·rw [if_neg c4] at H
    have c4b0 : ((a0.size : Int) == 0) = false:=beq_eq_false_iff_ne.mpr c4
    have c4b1 : ((a0.size : Int) != 0) = true:=bne_iff_ne.mpr c4
    (first | rw [c4b0] | (simp only [i64_w,i32_w];rw [c4b0]) | skip)
    by_cases c5 : 0 < (a0.size : Int)
    ·rw [if_pos c5] at H
     have c5b0 : decide (0 < (a0.size : Int)) = true:=decide_eq_true c5
     have c5b1 : decide (0 < a0.size) = true:=decide_eq_true (by omega)
     clear c5
     replace H:=Option.bind_eq_some_iff.mp H
     obtain ⟨t113,A70,H⟩:=H
     replace H : (metrolabref17_Name.j0 k a0 (!t113)) = some r:=H
     have A7:=Aside0.mk A70
     clear A70
     have H':=Aside0.mk H
     clear H
     have p6 : 0 ≤ (0 : Int):=(by omega)
     have q6 : 0 < a0.size:=(by have : (0 : Int) < (a0.size : Int):=of_decide_eq_true (by first | (with_reducible assumption) | assumption);omega)
     have hx6 : ∀ h : 0 < a0.size,((a0[0]'h).toNat : Int) = bt a0 0:=bt_at a0 0
     clear p6
     have qi6 : (0 < (a0.size : Int)) = True:=eq_true (of_decide_eq_true (by first | (with_reducible assumption) | assumption))
     replace q6:=eq_true q6
     go_wp2_with (first | (go_at_call 59;(with_reducible refine (metrolabref17_letter.calls (bt a0 0) t113 _ A7.out).mono ?_);rintro e w' ⟨rfl,⟨nd,rfl⟩⟩))
     go_meet
     case rel => exact ⟨_,(!t113),(by first | rfl | (simp;done) | (simp [*];done)),H',⟨by first | omega | exact Nat.le_refl _⟩,by repeat (first | exact Drawn0.refl _ | apply Drawn0.step)⟩
    ·rw [if_neg c5] at H
     exact absurd H (by simp)
  case rest =>
   clear HC3
   try clear c2
   try clear c2b0
   try clear c2b1
   try clear p2
   try clear c3
   try clear c4
   try clear c4b0
   try clear c4b1
   try clear c5
   try clear c5b0
   try clear c5b1
   try clear p6
   try clear q6
   try clear hx6
   try clear qi6
   try clear p6
   try clear q6
   obtain ⟨kq,x15_2,rfl,HA,HJ2,⟨mc2,rfl⟩⟩:=hcut
   cases kq with
   | zero => exact absurd HA.out (by simp [metrolabref17_Name.j0])
   | succ kj2 =>
    have H:=HA.out
    clear HA
    simp only [metrolabref17_Name.j0] at H
    by_cases c8 : x15_2 = true
    ·subst c8
     have H1 : (some 3) = some r:=by rw [if_pos rfl] at H;exact H
     clear H
     have H:=H1
     clear H1
     obtain rfl:=Option.some.inj H
     go_wp2
     go_ret
     exact ⟨by first | rfl | (simp;done) | (simp [*];done),by repeat (first | exact Drawn0.refl _ | apply Drawn0.step)⟩
    ·replace c8:=Bool.eq_false_iff.mpr c8
     subst c8
     have H1 : (metrolabref17_Name.l0 kj2 a0 0) = some r:=by rw [if_neg (show ¬ (false = true) by decide)] at H;exact H
     clear H
     have H:=H1
     clear H1
     have H':=Aside0.mk H
     clear H
     go_wp2
     go_loopg [3] kj2 (fun kq v3 w' => ∃ (x3_2 : Int),v3 = .int .i64 x3_2 ∧ Aside0 (metrolabref17_Name.l0 kq a0 x3_2 = some r) ∧ Aside0 (kq ≤ kj2) ∧ Drawn0 w w')
     case atStart => exact ⟨(0),(by first | rfl | (simp;done) | (simp [*];done)),H',⟨Nat.le_refl _⟩,by repeat (first | exact Drawn0.refl _ | apply Drawn0.step)⟩
     case round =>
      clear H'
      try clear c2
      try clear c2b0
      try clear c2b1
      try clear p2
      try clear c3
      try clear c4
      try clear c4b0
      try clear c4b1
      try clear c5
      try clear c5b0
      try clear c5b1
      try clear p6
      try clear q6
      try clear hx6
      try clear qi6
      try clear c8
      try clear p2
      try clear p6
      try clear q6
      obtain ⟨x3_2,rfl,HA,HK2,⟨m2,rfl⟩⟩:=hrel
      cases gk with
      | zero => exact absurd HA.out (by simp [metrolabref17_Name.l0])
      | succ k2 =>
       have H:=HA.out
       clear HA
       simp only [metrolabref17_Name.l0] at H
       by_cases c9 : x3_2 < (a0.size : Int)
       ·rw [if_pos c9] at H
        have c9b0 : decide (x3_2 < (a0.size : Int)) = true:=decide_eq_true c9
        clear c9
        by_cases c10 : 0 ≤ x3_2
        ·rw [if_pos c10] at H
         have c10b0 : decide (0 ≤ x3_2) = true:=decide_eq_true c10
         clear c10
         replace H:=Option.bind_eq_some_iff.mp H
         obtain ⟨t114,A120,H⟩:=H
         replace H : (if t114 = true then (metrolabref17_Name.l0 k2 a0 (wrap64 (x3_2 + 1))) else (if (bt a0 x3_2) < 48 then (some 3) else (if (bt a0 x3_2) > 57 then (some 3) else (metrolabref17_Name.l0 k2 a0 (wrap64 (x3_2 + 1)))))) = some r:=H
         have A12:=Aside0.mk A120
         clear A120
         by_cases c13 : t114 = true
         ·subst c13
          have H1 : (metrolabref17_Name.l0 k2 a0 (wrap64 (x3_2 + 1))) = some r:=by rw [if_pos rfl] at H;exact H
          clear H
          have H:=H1
          clear H1
          have H':=Aside0.mk H
          clear H
          have p11 : 0 ≤ (x3_2 : Int):=of_decide_eq_true (by first | (with_reducible assumption) | assumption)
          have q11 : x3_2 < (a0.size : Int):=of_decide_eq_true (by first | (with_reducible assumption) | assumption)
          have hx11:=bt_at a0 x3_2
          replace p11:=eq_true p11
          replace q11:=eq_true q11
          go_wp2_with (first | ((with_reducible refine gate_callee (f:=59) rfl ?_);refine goesL_ (some 25) rfl rfl Try.func59 (by kernel_rfl) rfl #[.int .u8 (bt a0 x3_2)] rfl (by (try simp only [List.map_toArray,List.map_cons,List.map_nil]);first | done | rfl | (simp only [List.length_drop,List.length_take];rfl)) ?_;(with_reducible refine (metrolabref17_letter.calls (bt a0 x3_2) true _ A12.out).mono ?_);rintro e w' ⟨rfl,⟨nd,rfl⟩⟩;refine ⟨_,rfl,?_⟩))
          go_roundg k2
          case measure => have:=HJ2.out;have:=HK2.out;omega
          case rel => exact ⟨(wrap64 (x3_2 + 1)),(by first | rfl | (simp;done) | (simp [*];done)),H',⟨by have:=HJ2.out;have:=HK2.out;omega⟩,by repeat (first | exact Drawn0.refl _ | apply Drawn0.step)⟩
         ·replace c13:=Bool.eq_false_iff.mpr c13
          subst c13
          have H1 : (if (bt a0 x3_2) < 48 then (some 3) else (if (bt a0 x3_2) > 57 then (some 3) else (metrolabref17_Name.l0 k2 a0 (wrap64 (x3_2 + 1))))) = some r:=by rw [if_neg (show ¬ (false = true) by decide)] at H;exact H
          clear H
          have H:=H1
          clear H1
          by_cases c15 : (bt a0 x3_2) < 48
          ·rw [if_pos c15] at H
           have c15b0 : decide ((bt a0 x3_2) < 48) = true:=decide_eq_true c15
           clear c15
           obtain rfl:=Option.some.inj H
           have p11 : 0 ≤ (x3_2 : Int):=of_decide_eq_true (by first | (with_reducible assumption) | assumption)
           have q11 : x3_2 < (a0.size : Int):=of_decide_eq_true (by first | (with_reducible assumption) | assumption)
           have hx11:=bt_at a0 x3_2
           replace p11:=eq_true p11
           replace q11:=eq_true q11
           go_wp2_with (first | ((with_reducible refine gate_callee (f:=59) rfl ?_);refine goesL_ (some 25) rfl rfl Try.func59 (by kernel_rfl) rfl #[.int .u8 (bt a0 x3_2)] rfl (by (try simp only [List.map_toArray,List.map_cons,List.map_nil]);first | done | rfl | (simp only [List.length_drop,List.length_take];rfl)) ?_;(with_reducible refine (metrolabref17_letter.calls (bt a0 x3_2) false _ A12.out).mono ?_);rintro e w' ⟨rfl,⟨nd,rfl⟩⟩;refine ⟨_,rfl,?_⟩;have p14 : 0 ≤ (x3_2 : Int):=of_decide_eq_true (by first | (with_reducible assumption) | assumption);have q14 : x3_2 < (a0.size : Int):=of_decide_eq_true (by first | (with_reducible assumption) | assumption);have hx14:=bt_at a0 x3_2;replace p14:=eq_true p14;replace q14:=eq_true q14))
           go_ret
           exact ⟨by first | rfl | (simp;done) | (simp [*];done),by repeat (first | exact Drawn0.refl _ | apply Drawn0.step)⟩
          ·rw [if_neg c15] at H
           have c15b0 : decide ((bt a0 x3_2) < 48) = false:=decide_eq_false c15
           clear c15
           by_cases c17 : (bt a0 x3_2) > 57
           ·rw [if_pos c17] at H
            have c17b0 : decide (57 < (bt a0 x3_2)) = true:=decide_eq_true c17
            clear c17
            obtain rfl:=Option.some.inj H
            have p11 : 0 ≤ (x3_2 : Int):=of_decide_eq_true (by first | (with_reducible assumption) | assumption)
            have q11 : x3_2 < (a0.size : Int):=of_decide_eq_true (by first | (with_reducible assumption) | assumption)
            have hx11:=bt_at a0 x3_2
            replace p11:=eq_true p11
            replace q11:=eq_true q11
            go_wp2_with (first | ((with_reducible refine gate_callee (f:=59) rfl ?_);refine goesL_ (some 25) rfl rfl Try.func59 (by kernel_rfl) rfl #[.int .u8 (bt a0 x3_2)] rfl (by (try simp only [List.map_toArray,List.map_cons,List.map_nil]);first | done | rfl | (simp only [List.length_drop,List.length_take];rfl)) ?_;(with_reducible refine (metrolabref17_letter.calls (bt a0 x3_2) false _ A12.out).mono ?_);rintro e w' ⟨rfl,⟨nd,rfl⟩⟩;refine ⟨_,rfl,?_⟩;have p14 : 0 ≤ (x3_2 : Int):=of_decide_eq_true (by first | (with_reducible assumption) | assumption);have q14 : x3_2 < (a0.size : Int):=of_decide_eq_true (by first | (with_reducible assumption) | assumption);have hx14:=bt_at a0 x3_2;replace p14:=eq_true p14;replace q14:=eq_true q14;have p16 : 0 ≤ (x3_2 : Int):=of_decide_eq_true (by first | (with_reducible assumption) | assumption);have q16 : x3_2 < (a0.size : Int):=of_decide_eq_true (by first | (with_reducible assumption) | assumption);have hx16:=bt_at a0 x3_2;replace p16:=eq_true p16;replace q16:=eq_true q16))
            go_ret
            exact ⟨by first | rfl | (simp;done) | (simp [*];done),by repeat (first | exact Drawn0.refl _ | apply Drawn0.step)⟩
           ·rw [if_neg c17] at H
            have c17b0 : decide (57 < (bt a0 x3_2)) = false:=decide_eq_false c17
            clear c17
            have H':=Aside0.mk H
            clear H
            have p11 : 0 ≤ (x3_2 : Int):=of_decide_eq_true (by first | (with_reducible assumption) | assumption)
            have q11 : x3_2 < (a0.size : Int):=of_decide_eq_true (by first | (with_reducible assumption) | assumption)
            have hx11:=bt_at a0 x3_2
            replace p11:=eq_true p11
            replace q11:=eq_true q11
            go_wp2_with (first | ((with_reducible refine gate_callee (f:=59) rfl ?_);refine goesL_ (some 25) rfl rfl Try.func59 (by kernel_rfl) rfl #[.int .u8 (bt a0 x3_2)] rfl (by (try simp only [List.map_toArray,List.map_cons,List.map_nil]);first | done | rfl | (simp only [List.length_drop,List.length_take];rfl)) ?_;(with_reducible refine (metrolabref17_letter.calls (bt a0 x3_2) false _ A12.out).mono ?_);rintro e w' ⟨rfl,⟨nd,rfl⟩⟩;refine ⟨_,rfl,?_⟩;have p14 : 0 ≤ (x3_2 : Int):=of_decide_eq_true (by first | (with_reducible assumption) | assumption);have q14 : x3_2 < (a0.size : Int):=of_decide_eq_true (by first | (with_reducible assumption) | assumption);have hx14:=bt_at a0 x3_2;replace p14:=eq_true p14;replace q14:=eq_true q14;have p16 : 0 ≤ (x3_2 : Int):=of_decide_eq_true (by first | (with_reducible assumption) | assumption);have q16 : x3_2 < (a0.size : Int):=of_decide_eq_true (by first | (with_reducible assumption) | assumption);have hx16:=bt_at a0 x3_2;replace p16:=eq_true p16;replace q16:=eq_true q16))
            go_roundg k2
            case measure => have:=HJ2.out;have:=HK2.out;omega
            case rel => exact ⟨(wrap64 (x3_2 + 1)),(by first | rfl | (simp;done) | (simp [*];done)),H',⟨by have:=HJ2.out;have:=HK2.out;omega⟩,by repeat (first | exact Drawn0.refl _ | apply Drawn0.step)⟩
        ·rw [if_neg c10] at H
         exact absurd H (by simp)
       ·rw [if_neg c9] at H
        have c9b0 : decide (x3_2 < (a0.size : Int)) = false:=decide_eq_false c9
        clear c9
        obtain rfl:=Option.some.inj H
        go_wp2
        go_ret
        exact ⟨by first | rfl | (simp;done) | (simp [*];done),by repeat (first | exact Drawn0.refl _ | apply Drawn0.step)⟩
end Go.Proofs.Ytnmmdeonkpfccaa.Pr
namespace Go.Proofs.Ytnmmdeonkpfccaa.Pr
open Go.RowKit Go.Proofs.YtnmmdeonkpfccaaW.PrintWords Go.Proofs.YtnmmdeonkpfccaaW.PrintLast Go.Proofs.YtnmmdeonkpfccaaW.PrintMore
attribute [local go_sem] max2_int min2_int max_two min_two max_three min_three max_four min_four
set_option linter.unusedVariables false
set_option linter.unusedSimpArgs false
def metrolabref53_named.f (k : Nat) (a0 : ByteArray) (a1 : Bool) : Option (Int):=if a1 = true then ((metrolabref17_Name.f k a0).bind fun t115 => (some t115)) else (some 0)
set_option maxHeartbeats 8000000 in
set_option maxRecDepth 100000 in
theorem metrolabref53_named.calls (k : Nat) (a0 : ByteArray) (a1 : Bool) (r : Int) (w : World) (h : metrolabref53_named.f k a0 a1 = some r) :
  Calls Try.prog 69 #[.string a0,.bool a1] w fun e w' => e = .returned (.int .i64 r) ∧ Drawn0 w w':=by
 have H : (if a1 = true then ((metrolabref17_Name.f k a0).bind fun t115 => (some t115)) else (some 0)) = some r:=h
 clear h
 by_cases c3 : a1 = true
 ·subst c3
  have H1 : ((metrolabref17_Name.f k a0).bind fun t115 => (some t115)) = some r:=by rw [if_pos rfl] at H;exact H
  clear H
  have H:=H1
  clear H1
  replace H:=Option.bind_eq_some_iff.mp H
  obtain ⟨t115,A40,H⟩:=H
  replace H : (some t115) = some r:=H
  have A4:=Aside0.mk A40
  clear A40
  obtain rfl:=Option.some.inj H
  go_enter Try.func69,Try.ntmps69
  go_wp2_with (first | ((with_reducible refine gate_callee (f:=32) rfl ?_);refine goesL_ (some 7) rfl rfl Try.func32 (by kernel_rfl) rfl #[.string a0] rfl (by (try simp only [List.map_toArray,List.map_cons,List.map_nil]);first | done | rfl | (simp only [List.length_drop,List.length_take];rfl)) ?_;(with_reducible refine (metrolabref17_Name.calls k a0 t115 _ A4.out).mono ?_);rintro e w' ⟨rfl,⟨nd,rfl⟩⟩;refine ⟨_,rfl,?_⟩))
  go_ret
  exact ⟨by first | rfl | (simp;done) | (simp [*];done),by repeat (first | exact Drawn0.refl _ | apply Drawn0.step)⟩
 ·replace c3:=Bool.eq_false_iff.mpr c3
  subst c3
  have H1 : (some 0) = some r:=by rw [if_neg (show ¬ (false = true) by decide)] at H;exact H
  clear H
  have H:=H1
  clear H1
  obtain rfl:=Option.some.inj H
  go_enter Try.func69,Try.ntmps69
  go_wp2
  go_ret
  exact ⟨by first | rfl | (simp;done) | (simp [*];done),by repeat (first | exact Drawn0.refl _ | apply Drawn0.step)⟩
end Go.Proofs.Ytnmmdeonkpfccaa.Pr
namespace Go.Proofs.Ytnmmdeonkpfccaa.Pr
open Go.RowKit Go.Proofs.YtnmmdeonkpfccaaW.PrintWords Go.Proofs.YtnmmdeonkpfccaaW.PrintLast Go.Proofs.YtnmmdeonkpfccaaW.PrintMore
attribute [local go_sem] max2_int min2_int max_two min_two max_three min_three max_four min_four
set_option linter.unusedVariables false
set_option linter.unusedSimpArgs false
mutual
def metrolabref53_form.j0 : Nat → Bool → Int → ByteArray → ByteArray → ByteArray → Option (Int)
 | 0,_,_,_,_,_ => none
 | k + 1,x16,x117000,x117001,x117002,x117003 => if x16 = true then (some 1) else (if x117000 = 0 then (metrolabref53_form.j1 k (x117000 != 3) true (x117000 == 0) x117000 x117001 x117002 x117003) else (metrolabref53_form.j1 k (x117000 != 3) (x117000 == 3) (x117000 == 0) x117000 x117001 x117002 x117003))
def metrolabref53_form.j1 : Nat → Bool → Bool → Bool → Int → ByteArray → ByteArray → ByteArray → Option (Int)
 | 0,_,_,_,_,_,_,_ => none
 | k + 1,x3,x4,x5,x117000,x117001,x117002,x117003 => (metrolabref53_named.f k x117001 x3).bind fun t117 => (if t117 = 0 then ((metrolabref53_named.f k x117002 x4).bind fun t118 => (if t118 = 0 then ((metrolabref53_named.f k x117003 x5).bind fun t119 => (if t119 = 0 then (if x3 = true then (if x4 = true then (if x5 = true then (some 0) else (if x117003.toList = ([] : List UInt8) then (some 0) else (some 3))) else (if x117002.toList = ([] : List UInt8) then (if x5 = true then (some 0) else (if x117003.toList = ([] : List UInt8) then (some 0) else (some 3))) else (some 3))) else (if x117001.toList = ([] : List UInt8) then (if x4 = true then (if x5 = true then (some 0) else (if x117003.toList = ([] : List UInt8) then (some 0) else (some 3))) else (if x117002.toList = ([] : List UInt8) then (if x5 = true then (some 0) else (if x117003.toList = ([] : List UInt8) then (some 0) else (some 3))) else (some 3))) else (some 3))) else (some t119))) else (some t118))) else (some t117))
end
def metrolabref53_form.f (k : Nat) (a0_0 : Int) (a0_1 : ByteArray) (a0_2 : ByteArray) (a0_3 : ByteArray) : Option (Int):=if a0_0 < 0 then (metrolabref53_form.j0 k true a0_0 a0_1 a0_2 a0_3) else (metrolabref53_form.j0 k (decide (a0_0 > 3)) a0_0 a0_1 a0_2 a0_3)
set_option maxHeartbeats 8000000 in
set_option maxRecDepth 100000 in
theorem metrolabref53_form.calls (k : Nat) (a0_0 : Int) (a0_1 : ByteArray) (a0_2 : ByteArray) (a0_3 : ByteArray) (r : Int) (w : World) (h : metrolabref53_form.f k a0_0 a0_1 a0_2 a0_3 = some r) :
  Calls Try.prog 44 #[.agg #[.int .i64 a0_0,.string a0_1,.string a0_2,.string a0_3]] w fun e w' => e = .returned (.int .i64 r) ∧ Below w.heap.size w w':=by
 have hu67:=Try.underlying67
 have HB:=Aside0.mk (Below.refl w.heap.size w)
 have H : (if a0_0 < 0 then (metrolabref53_form.j0 k true a0_0 a0_1 a0_2 a0_3) else (metrolabref53_form.j0 k (decide (a0_0 > 3)) a0_0 a0_1 a0_2 a0_3)) = some r:=h
 clear h
 have HC2:=Aside0.mk H
 clear H
 go_enter Try.func44,Try.ntmps44
 go_upto_region 1 with (first | ((with_reducible refine gate_dst (N:=1) rfl ?_);refine box_event ?hg (N:=1) ?hd (cs:=#[.int .i64 a0_0,.string a0_1,.string a0_2,.string a0_3]) (t:=67) ?hr ?_;(case hd => rfl);(case hg => rfl);(case hr => first | (go_simp;done) | (go_simp;rfl));intro gb116 hg w3 hbox hb;have n0_:=Aside0.mk (below_step (by repeat (first | (with_reducible first | exact HB.out | apply below_alloc | apply pw_below_drewN | apply below_drew1) | exact HB.out)) hb);have n1_:=Aside0.mk (hbox);have n2_:=Aside0.mk ((by rw [hg];exact (below_size (by repeat (first | (with_reducible first | exact HB.out | apply below_alloc | apply pw_below_drewN | apply below_drew1) | exact HB.out))) : w.heap.size ≤ gb116));have n3_:=Aside0.mk ((by rw [hg];exact (below_size (by repeat (first | (with_reducible first | exact HB.out | apply below_alloc | apply pw_below_drewN | apply below_drew1) | exact HB.out))) : w.heap.size ≤ gb116));clear HB;have HB:=n0_;have BK116:=n1_;have GW116:=n2_;have GE116:=n3_;clear n0_ n1_ n2_ n3_;clear hb hbox hg))
 repeat (go_quiet (first | ((with_reducible refine gate_dst (N:=1) rfl ?_);refine box_event ?hg (N:=1) ?hd (cs:=#[.int .i64 a0_0,.string a0_1,.string a0_2,.string a0_3]) (t:=67) ?hr ?_;(case hd => rfl);(case hg => rfl);(case hr => first | (go_simp;done) | (go_simp;rfl));intro gb116 hg w3 hbox hb;have n0_:=Aside0.mk (below_step (by repeat (first | (with_reducible first | exact HB.out | apply below_alloc | apply pw_below_drewN | apply below_drew1) | exact HB.out)) hb);have n1_:=Aside0.mk (hbox);have n2_:=Aside0.mk ((by rw [hg];exact (below_size (by repeat (first | (with_reducible first | exact HB.out | apply below_alloc | apply pw_below_drewN | apply below_drew1) | exact HB.out))) : w.heap.size ≤ gb116));have n3_:=Aside0.mk ((by rw [hg];exact (below_size (by repeat (first | (with_reducible first | exact HB.out | apply below_alloc | apply pw_below_drewN | apply below_drew1) | exact HB.out))) : w.heap.size ≤ gb116));clear HB;have HB:=n0_;have BK116:=n1_;have GW116:=n2_;have GE116:=n3_;clear n0_ n1_ n2_ n3_;clear hb hbox hg));go_upto_region 1 with (first | ((with_reducible refine gate_dst (N:=1) rfl ?_);refine box_event ?hg (N:=1) ?hd (cs:=#[.int .i64 a0_0,.string a0_1,.string a0_2,.string a0_3]) (t:=67) ?hr ?_;(case hd => rfl);(case hg => rfl);(case hr => first | (go_simp;done) | (go_simp;rfl));intro gb116 hg w3 hbox hb;have n0_:=Aside0.mk (below_step (by repeat (first | (with_reducible first | exact HB.out | apply below_alloc | apply pw_below_drewN | apply below_drew1) | exact HB.out)) hb);have n1_:=Aside0.mk (hbox);have n2_:=Aside0.mk ((by rw [hg];exact (below_size (by repeat (first | (with_reducible first | exact HB.out | apply below_alloc | apply pw_below_drewN | apply below_drew1) | exact HB.out))) : w.heap.size ≤ gb116));have n3_:=Aside0.mk ((by rw [hg];exact (below_size (by repeat (first | (with_reducible first | exact HB.out | apply below_alloc | apply pw_below_drewN | apply below_drew1) | exact HB.out))) : w.heap.size ≤ gb116));clear HB;have HB:=n0_;have BK116:=n1_;have GW116:=n2_;have GE116:=n3_;clear n0_ n1_ n2_ n3_;clear hb hbox hg)))
 (try simp only [Act.put,List.setIfInBounds_toArray,List.set_cons_zero,List.set_cons_succ])
 go_cut [16] (fun v16 wc => ∃ (kq : Nat) (x16_1 : Bool),v16 = .bool x16_1 ∧ Aside0 (metrolabref53_form.j0 kq x16_1 a0_0 a0_1 a0_2 a0_3 = some r) ∧ Aside0 (kq ≤ k) ∧ Aside0 (wc.heap[gb116]? = some (.cells #[.int .i64 a0_0,.string a0_1,.string a0_2,.string a0_3] 67 (0,0))) ∧ Aside0 (Below w.heap.size w wc))
 case first =>
  have H:=HC2.out
  clear HC2
  by_cases c4 : a0_0 < 0
  ·rw [if_pos c4] at H
   have c4b0 : decide (a0_0 < 0) = true:=decide_eq_true c4
   clear c4
   (first | rw [c4b0] | (simp only [i64_w,i32_w];rw [c4b0]) | skip)
   have H':=Aside0.mk H
   clear H
   have hcz5_0 : w3.cell? ⟨gb116,0,none⟩ = some (.int .i64 a0_0):=(blk_cell BK116.out 0).trans rfl
   have hcz5_1 : w3.cell? ⟨gb116,1,none⟩ = some (.string a0_1):=(blk_cell BK116.out 1).trans rfl
   have hcz5_2 : w3.cell? ⟨gb116,2,none⟩ = some (.string a0_2):=(blk_cell BK116.out 2).trans rfl
   have hcz5_3 : w3.cell? ⟨gb116,3,none⟩ = some (.string a0_3):=(blk_cell BK116.out 3).trans rfl
   have hfz5_0:=blk_frozen BK116.out 0
   have hfz5_1:=blk_frozen BK116.out 1
   have hfz5_2:=blk_frozen BK116.out 2
   have hfz5_3:=blk_frozen BK116.out 3
   go_wp2
   repeat (go_quiet (fail);try go_wp2)
   go_meet
   case rel => exact ⟨_,(true),(by first | rfl | (simp;done) | (simp [*];done)),H',⟨by first | omega | exact Nat.le_refl _⟩,⟨by (with_reducible repeat (first | refine blk_drewN ?_ _ | refine blk_drew ?_ | refine blk_alloc ?_ _));exact BK116.out⟩,⟨by repeat (first | (with_reducible first | exact HB.out | apply below_alloc | apply pw_below_drewN | apply below_drew1 | refine below_set ?_ GE116.out) | exact HB.out)⟩⟩
  ·rw [if_neg c4] at H
   have c4b0 : decide (a0_0 < 0) = false:=decide_eq_false c4
   clear c4
   (first | rw [c4b0] | (simp only [i64_w,i32_w];rw [c4b0]) | skip)
   have H':=Aside0.mk H
   clear H
   have hcz6_0 : w3.cell? ⟨gb116,0,none⟩ = some (.int .i64 a0_0):=(blk_cell BK116.out 0).trans rfl
   have hcz6_1 : w3.cell? ⟨gb116,1,none⟩ = some (.string a0_1):=(blk_cell BK116.out 1).trans rfl
   have hcz6_2 : w3.cell? ⟨gb116,2,none⟩ = some (.string a0_2):=(blk_cell BK116.out 2).trans rfl
   have hcz6_3 : w3.cell? ⟨gb116,3,none⟩ = some (.string a0_3):=(blk_cell BK116.out 3).trans rfl
   have hfz6_0:=blk_frozen BK116.out 0
   have hfz6_1:=blk_frozen BK116.out 1
   have hfz6_2:=blk_frozen BK116.out 2
   have hfz6_3:=blk_frozen BK116.out 3
   go_wp2
   repeat (go_quiet (fail);try go_wp2)
   go_meet
   case rel => exact ⟨_,(decide (a0_0 > 3)),(by first | rfl | (simp;done) | (simp [*];done)),H',⟨by first | omega | exact Nat.le_refl _⟩,⟨by (with_reducible repeat (first | refine blk_drewN ?_ _ | refine blk_drew ?_ | refine blk_alloc ?_ _));exact BK116.out⟩,⟨by repeat (first | (with_reducible first | exact HB.out | apply below_alloc | apply pw_below_drewN | apply below_drew1 | refine below_set ?_ GE116.out) | exact HB.out)⟩⟩
 case rest =>
  clear HC2
  try clear p2
  try clear c4
  try clear c4b0
  try clear hcz5_0
  try clear hcz5_1
  try clear hcz5_2
  try clear hcz5_3
  try clear hcz6_0
  try clear hcz6_1
  try clear hcz6_2
  try clear hcz6_3
  try clear hfz5_0
  try clear hfz5_1
  try clear hfz5_2
  try clear hfz5_3
  try clear hfz6_0
  try clear hfz6_1
  try clear hfz6_2
  try clear hfz6_3
  obtain ⟨kq,x16_1,rfl,HA,HJ1,BK116,HB⟩:=hcut
  cases kq with
  | zero => exact absurd HA.out (by simp [metrolabref53_form.j0])
  | succ kj1 =>
   have H:=HA.out
   clear HA
   simp only [metrolabref53_form.j0] at H
   by_cases c7 : x16_1 = true
   ·subst c7
    have H1 : (some 1) = some r:=by rw [if_pos rfl] at H;exact H
    clear H
    have H:=H1
    clear H1
    obtain rfl:=Option.some.inj H
    go_wp2
    repeat (go_quiet (fail);try go_wp2)
    go_ret
    exact ⟨by first | rfl | (simp [errW_none,errW_some] <;> rfl) | (simp [*,errW_none,errW_some] <;> rfl),by repeat (first | (with_reducible first | exact HB.out | apply below_alloc | apply pw_below_drewN | apply below_drew1 | refine below_set ?_ GE116.out) | exact HB.out)⟩
   ·replace c7:=Bool.eq_false_iff.mpr c7
    subst c7
    have H1 : (if a0_0 = 0 then (metrolabref53_form.j1 kj1 (a0_0 != 3) true (a0_0 == 0) a0_0 a0_1 a0_2 a0_3) else (metrolabref53_form.j1 kj1 (a0_0 != 3) (a0_0 == 3) (a0_0 == 0) a0_0 a0_1 a0_2 a0_3)) = some r:=by rw [if_neg (show ¬ (false = true) by decide)] at H;exact H
    clear H
    have H:=H1
    clear H1
    have HC8:=Aside0.mk H
    clear H
    go_upto_region 3 with (fail)
    repeat (go_quiet (fail);go_upto_region 3 with (fail))
    go_cut [3,4,5] (fun v3 v4 v5 wc => ∃ (kq : Nat) (x3_7 : Bool) (x4_7 : Bool) (x5_7 : Bool),v3 = .bool x3_7 ∧ v4 = .bool x4_7 ∧ v5 = .bool x5_7 ∧ Aside0 (metrolabref53_form.j1 kq x3_7 x4_7 x5_7 a0_0 a0_1 a0_2 a0_3 = some r) ∧ Aside0 (kq ≤ kj1) ∧ Aside0 (wc.heap[gb116]? = some (.cells #[.int .i64 a0_0,.string a0_1,.string a0_2,.string a0_3] 67 (0,0))) ∧ Aside0 (Below w.heap.size w wc))
    case first =>
     have H:=HC8.out
     clear HC8
     by_cases c9 : a0_0 = 0
     ·rw [if_pos c9] at H
      have c9b0 : (a0_0 == 0) = true:=beq_iff_eq.mpr c9
      have c9b1 : (a0_0 != 0) = false:=bne_eq_false_iff_eq.mpr c9
      clear c9
      (first | rw [c9b0] | (simp only [i64_w,i32_w];rw [c9b0]) | skip)
      have H':=Aside0.mk H
      clear H
      have hcz10_0 : wc.cell? ⟨gb116,0,none⟩ = some (.int .i64 a0_0):=(blk_cell BK116.out 0).trans rfl
      have hcz10_1 : wc.cell? ⟨gb116,1,none⟩ = some (.string a0_1):=(blk_cell BK116.out 1).trans rfl
      have hcz10_2 : wc.cell? ⟨gb116,2,none⟩ = some (.string a0_2):=(blk_cell BK116.out 2).trans rfl
      have hcz10_3 : wc.cell? ⟨gb116,3,none⟩ = some (.string a0_3):=(blk_cell BK116.out 3).trans rfl
      have hfz10_0:=blk_frozen BK116.out 0
      have hfz10_1:=blk_frozen BK116.out 1
      have hfz10_2:=blk_frozen BK116.out 2
      have hfz10_3:=blk_frozen BK116.out 3
      go_wp2
      repeat (go_quiet (fail);try go_wp2)
      go_meet
      case rel => exact ⟨_,((a0_0 != 3)),(true),((a0_0 == 0)),(by first | rfl | (simp;done) | (simp [*];done)),(by first | rfl | (simp;done) | (simp [*];done)),(by first | rfl | (simp;done) | (simp [*];done)),H',⟨by have:=HJ1.out;first | omega | exact Nat.le_refl _⟩,⟨by (with_reducible repeat (first | refine blk_drewN ?_ _ | refine blk_drew ?_ | refine blk_alloc ?_ _));exact BK116.out⟩,⟨by repeat (first | (with_reducible first | exact HB.out | apply below_alloc | apply pw_below_drewN | apply below_drew1 | refine below_set ?_ GE116.out) | exact HB.out)⟩⟩
     ·rw [if_neg c9] at H
      have c9b0 : (a0_0 == 0) = false:=beq_eq_false_iff_ne.mpr c9
      have c9b1 : (a0_0 != 0) = true:=bne_iff_ne.mpr c9
      (first | rw [c9b0] | (simp only [i64_w,i32_w];rw [c9b0]) | skip)
      have H':=Aside0.mk H
      clear H
      have hcz11_0 : wc.cell? ⟨gb116,0,none⟩ = some (.int .i64 a0_0):=(blk_cell BK116.out 0).trans rfl
      have hcz11_1 : wc.cell? ⟨gb116,1,none⟩ = some (.string a0_1):=(blk_cell BK116.out 1).trans rfl
      have hcz11_2 : wc.cell? ⟨gb116,2,none⟩ = some (.string a0_2):=(blk_cell BK116.out 2).trans rfl
      have hcz11_3 : wc.cell? ⟨gb116,3,none⟩ = some (.string a0_3):=(blk_cell BK116.out 3).trans rfl
      have hfz11_0:=blk_frozen BK116.out 0
      have hfz11_1:=blk_frozen BK116.out 1
      have hfz11_2:=blk_frozen BK116.out 2
      have hfz11_3:=blk_frozen BK116.out 3
      go_wp2
      repeat (go_quiet (fail);try go_wp2)
      go_meet
      case rel => exact ⟨_,((a0_0 != 3)),((a0_0 == 3)),((a0_0 == 0)),(by first | rfl | (simp;done) | (simp [*];done)),(by first | rfl | (simp;done) | (simp [*];done)),(by first | rfl | (simp;done) | (simp [*];done)),H',⟨by have:=HJ1.out;first | omega | exact Nat.le_refl _⟩,⟨by (with_reducible repeat (first | refine blk_drewN ?_ _ | refine blk_drew ?_ | refine blk_alloc ?_ _));exact BK116.out⟩,⟨by repeat (first | (with_reducible first | exact HB.out | apply below_alloc | apply pw_below_drewN | apply below_drew1 | refine below_set ?_ GE116.out) | exact HB.out)⟩⟩
    case rest =>
     clear HC8
     try clear p2
     try clear c4
     try clear c4b0
     try clear c7
     try clear c9
     try clear c9b0
     try clear c9b1
     try clear hcz10_0
     try clear hcz10_1
     try clear hcz10_2
     try clear hcz10_3
     try clear hcz11_0
     try clear hcz11_1
     try clear hcz11_2
     try clear hcz11_3
     try clear hcz5_0
     try clear hcz5_1
     try clear hcz5_2
     try clear hcz5_3
     try clear hcz6_0
     try clear hcz6_1
     try clear hcz6_2
     try clear hcz6_3
     try clear hfz10_0
     try clear hfz10_1
     try clear hfz10_2
     try clear hfz10_3
     try clear hfz11_0
     try clear hfz11_1
     try clear hfz11_2
     try clear hfz11_3
     try clear hfz5_0
     try clear hfz5_1
     try clear hfz5_2
     try clear hfz5_3
     try clear hfz6_0
     try clear hfz6_1
     try clear hfz6_2
     try clear hfz6_3
     try clear p2
     obtain ⟨kq,x3_7,x4_7,x5_7,rfl,rfl,rfl,HA,HJ7,BK116,HB⟩:=hcut
     cases kq with
     | zero => exact absurd HA.out (by simp [metrolabref53_form.j1])
     | succ kj7 =>
      have H:=HA.out
      clear HA
      simp only [metrolabref53_form.j1] at H
      replace H:=Option.bind_eq_some_iff.mp H
      obtain ⟨t117,A120,H⟩:=H
      replace H : (if t117 = 0 then ((metrolabref53_named.f kj7 a0_2 x4_7).bind fun t118 => (if t118 = 0 then ((metrolabref53_named.f kj7 a0_3 x5_7).bind fun t119 => (if t119 = 0 then (if x3_7 = true then (if x4_7 = true then (if x5_7 = true then (some 0) else (if a0_3.toList = ([] : List UInt8) then (some 0) else (some 3))) else (if a0_2.toList = ([] : List UInt8) then (if x5_7 = true then (some 0) else (if a0_3.toList = ([] : List UInt8) then (some 0) else (some 3))) else (some 3))) else (if a0_1.toList = ([] : List UInt8) then (if x4_7 = true then (if x5_7 = true then (some 0) else (if a0_3.toList = ([] : List UInt8) then (some 0) else (some 3))) else (if a0_2.toList = ([] : List UInt8) then (if x5_7 = true then (some 0) else (if a0_3.toList = ([] : List UInt8) then (some 0) else (some 3))) else (some 3))) else (some 3))) else (some t119))) else (some t118))) else (some t117)) = some r:=H
      have A12:=Aside0.mk A120
      clear A120
      by_cases c13 : t117 = 0
      ·rw [if_pos c13] at H
       have c13b0 : (t117 == 0) = true:=beq_iff_eq.mpr c13
       have c13b1 : (t117 != 0) = false:=bne_eq_false_iff_eq.mpr c13
       clear c13
       replace H:=Option.bind_eq_some_iff.mp H
       obtain ⟨t118,A140,H⟩:=H
       replace H : (if t118 = 0 then ((metrolabref53_named.f kj7 a0_3 x5_7).bind fun t119 => (if t119 = 0 then (if x3_7 = true then (if x4_7 = true then (if x5_7 = true then (some 0) else (if a0_3.toList = ([] : List UInt8) then (some 0) else (some 3))) else (if a0_2.toList = ([] : List UInt8) then (if x5_7 = true then (some 0) else (if a0_3.toList = ([] : List UInt8) then (some 0) else (some 3))) else (some 3))) else (if a0_1.toList = ([] : List UInt8) then (if x4_7 = true then (if x5_7 = true then (some 0) else (if a0_3.toList = ([] : List UInt8) then (some 0) else (some 3))) else (if a0_2.toList = ([] : List UInt8) then (if x5_7 = true then (some 0) else (if a0_3.toList = ([] : List UInt8) then (some 0) else (some 3))) else (some 3))) else (some 3))) else (some t119))) else (some t118)) = some r:=H
       have A14:=Aside0.mk A140
       clear A140
       by_cases c15 : t118 = 0
       ·rw [if_pos c15] at H
        have c15b0 : (t118 == 0) = true:=beq_iff_eq.mpr c15
        have c15b1 : (t118 != 0) = false:=bne_eq_false_iff_eq.mpr c15
        clear c15
        replace H:=Option.bind_eq_some_iff.mp H
        obtain ⟨t119,A160,H⟩:=H
        replace H : (if t119 = 0 then (if x3_7 = true then (if x4_7 = true then (if x5_7 = true then (some 0) else (if a0_3.toList = ([] : List UInt8) then (some 0) else (some 3))) else (if a0_2.toList = ([] : List UInt8) then (if x5_7 = true then (some 0) else (if a0_3.toList = ([] : List UInt8) then (some 0) else (some 3))) else (some 3))) else (if a0_1.toList = ([] : List UInt8) then (if x4_7 = true then (if x5_7 = true then (some 0) else (if a0_3.toList = ([] : List UInt8) then (some 0) else (some 3))) else (if a0_2.toList = ([] : List UInt8) then (if x5_7 = true then (some 0) else (if a0_3.toList = ([] : List UInt8) then (some 0) else (some 3))) else (some 3))) else (some 3))) else (some t119)) = some r:=H
        have A16:=Aside0.mk A160
        clear A160
        by_cases c17 : t119 = 0
        ·rw [if_pos c17] at H
         have c17b0 : (t119 == 0) = true:=beq_iff_eq.mpr c17
         have c17b1 : (t119 != 0) = false:=bne_eq_false_iff_eq.mpr c17
         clear c17
         by_cases c18 : x3_7 = true
         ·subst c18
          have H1 : (if x4_7 = true then (if x5_7 = true then (some 0) else (if a0_3.toList = ([] : List UInt8) then (some 0) else (some 3))) else (if a0_2.toList = ([] : List UInt8) then (if x5_7 = true then (some 0) else (if a0_3.toList = ([] : List UInt8) then (some 0) else (some 3))) else (some 3))) = some r:=by rw [if_pos rfl] at H;exact H
          clear H
          have H:=H1
          clear H1
          by_cases c19 : x4_7 = true
          ·subst c19
           have H1 : (if x5_7 = true then (some 0) else (if a0_3.toList = ([] : List UInt8) then (some 0) else (some 3))) = some r:=by rw [if_pos rfl] at H;exact H
           clear H
           have H:=H1
           clear H1
           by_cases c20 : x5_7 = true
           ·subst c20
            have H1 : (some 0) = some r:=by rw [if_pos rfl] at H;exact H
            clear H
            have H:=H1
            clear H1
            obtain rfl:=Option.some.inj H
            have hcz21_0 : wc.cell? ⟨gb116,0,none⟩ = some (.int .i64 a0_0):=(blk_cell BK116.out 0).trans rfl
            have hcz21_1 : wc.cell? ⟨gb116,1,none⟩ = some (.string a0_1):=(blk_cell BK116.out 1).trans rfl
            have hcz21_2 : wc.cell? ⟨gb116,2,none⟩ = some (.string a0_2):=(blk_cell BK116.out 2).trans rfl
            have hcz21_3 : wc.cell? ⟨gb116,3,none⟩ = some (.string a0_3):=(blk_cell BK116.out 3).trans rfl
            have hfz21_0:=blk_frozen BK116.out 0
            have hfz21_1:=blk_frozen BK116.out 1
            have hfz21_2:=blk_frozen BK116.out 2
            have hfz21_3:=blk_frozen BK116.out 3
            go_wp2_with (first | (go_at_call 69;(with_reducible refine (metrolabref53_named.calls kj7 a0_1 true t117 _ A12.out).mono ?_);rintro e w' ⟨rfl,⟨nd,rfl⟩⟩;(try first | exact ⟨rfl,_,World.drewN_drewN _ _ _⟩ | exact ⟨rfl,_,Eq.trans (World.drewN_drewN _ _ _) (congrArg (World.drewN _) (Nat.add_assoc _ _ _))⟩)) | (go_at_call 69;(with_reducible refine (metrolabref53_named.calls kj7 a0_2 true t118 _ A14.out).mono ?_);rintro e w' ⟨rfl,⟨nd,rfl⟩⟩;(try first | exact ⟨rfl,_,World.drewN_drewN _ _ _⟩ | exact ⟨rfl,_,Eq.trans (World.drewN_drewN _ _ _) (congrArg (World.drewN _) (Nat.add_assoc _ _ _))⟩)) | (go_at_call 69;(with_reducible refine (metrolabref53_named.calls kj7 a0_3 true t119 _ A16.out).mono ?_);rintro e w' ⟨rfl,⟨nd,rfl⟩⟩;(try first | exact ⟨rfl,_,World.drewN_drewN _ _ _⟩ | exact ⟨rfl,_,Eq.trans (World.drewN_drewN _ _ _) (congrArg (World.drewN _) (Nat.add_assoc _ _ _))⟩)))
            repeat (go_quiet (first | (go_at_call 69;(with_reducible refine (metrolabref53_named.calls kj7 a0_1 true t117 _ A12.out).mono ?_);rintro e w' ⟨rfl,⟨nd,rfl⟩⟩;(try first | exact ⟨rfl,_,World.drewN_drewN _ _ _⟩ | exact ⟨rfl,_,Eq.trans (World.drewN_drewN _ _ _) (congrArg (World.drewN _) (Nat.add_assoc _ _ _))⟩)) | (go_at_call 69;(with_reducible refine (metrolabref53_named.calls kj7 a0_2 true t118 _ A14.out).mono ?_);rintro e w' ⟨rfl,⟨nd,rfl⟩⟩;(try first | exact ⟨rfl,_,World.drewN_drewN _ _ _⟩ | exact ⟨rfl,_,Eq.trans (World.drewN_drewN _ _ _) (congrArg (World.drewN _) (Nat.add_assoc _ _ _))⟩)) | (go_at_call 69;(with_reducible refine (metrolabref53_named.calls kj7 a0_3 true t119 _ A16.out).mono ?_);rintro e w' ⟨rfl,⟨nd,rfl⟩⟩;(try first | exact ⟨rfl,_,World.drewN_drewN _ _ _⟩ | exact ⟨rfl,_,Eq.trans (World.drewN_drewN _ _ _) (congrArg (World.drewN _) (Nat.add_assoc _ _ _))⟩)));try go_wp2_with (first | (go_at_call 69;(with_reducible refine (metrolabref53_named.calls kj7 a0_1 true t117 _ A12.out).mono ?_);rintro e w' ⟨rfl,⟨nd,rfl⟩⟩;(try first | exact ⟨rfl,_,World.drewN_drewN _ _ _⟩ | exact ⟨rfl,_,Eq.trans (World.drewN_drewN _ _ _) (congrArg (World.drewN _) (Nat.add_assoc _ _ _))⟩)) | (go_at_call 69;(with_reducible refine (metrolabref53_named.calls kj7 a0_2 true t118 _ A14.out).mono ?_);rintro e w' ⟨rfl,⟨nd,rfl⟩⟩;(try first | exact ⟨rfl,_,World.drewN_drewN _ _ _⟩ | exact ⟨rfl,_,Eq.trans (World.drewN_drewN _ _ _) (congrArg (World.drewN _) (Nat.add_assoc _ _ _))⟩)) | (go_at_call 69;(with_reducible refine (metrolabref53_named.calls kj7 a0_3 true t119 _ A16.out).mono ?_);rintro e w' ⟨rfl,⟨nd,rfl⟩⟩;(try first | exact ⟨rfl,_,World.drewN_drewN _ _ _⟩ | exact ⟨rfl,_,Eq.trans (World.drewN_drewN _ _ _) (congrArg (World.drewN _) (Nat.add_assoc _ _ _))⟩))))
            go_ret
            exact ⟨by first | rfl | (simp [errW_none,errW_some] <;> rfl) | (simp [*,errW_none,errW_some] <;> rfl),by repeat (first | (with_reducible first | exact HB.out | apply below_alloc | apply pw_below_drewN | apply below_drew1 | refine below_set ?_ GE116.out) | exact HB.out)⟩
           ·replace c20:=Bool.eq_false_iff.mpr c20
            subst c20
            have H1 : (if a0_3.toList = ([] : List UInt8) then (some 0) else (some 3)) = some r:=by rw [if_neg (show ¬ (false = true) by decide)] at H;exact H
            clear H
            have H:=H1
            clear H1
            by_cases c22 : a0_3.toList = ([] : List UInt8)
            ·rw [if_pos c22] at H
             have c22b0 : (a0_3.toList == ([] : List UInt8)) = true:=beq_iff_eq.mpr c22
             have c22b1 : (a0_3.toList != ([] : List UInt8)) = false:=bne_eq_false_iff_eq.mpr c22
             clear c22
             obtain rfl:=Option.some.inj H
             have hcz23_0 : wc.cell? ⟨gb116,0,none⟩ = some (.int .i64 a0_0):=(blk_cell BK116.out 0).trans rfl
             have hcz23_1 : wc.cell? ⟨gb116,1,none⟩ = some (.string a0_1):=(blk_cell BK116.out 1).trans rfl
             have hcz23_2 : wc.cell? ⟨gb116,2,none⟩ = some (.string a0_2):=(blk_cell BK116.out 2).trans rfl
             have hcz23_3 : wc.cell? ⟨gb116,3,none⟩ = some (.string a0_3):=(blk_cell BK116.out 3).trans rfl
             have hfz23_0:=blk_frozen BK116.out 0
             have hfz23_1:=blk_frozen BK116.out 1
             have hfz23_2:=blk_frozen BK116.out 2
             have hfz23_3:=blk_frozen BK116.out 3
             go_wp2_with (first | (go_at_call 69;(with_reducible refine (metrolabref53_named.calls kj7 a0_1 true t117 _ A12.out).mono ?_);rintro e w' ⟨rfl,⟨nd,rfl⟩⟩;(try first | exact ⟨rfl,_,World.drewN_drewN _ _ _⟩ | exact ⟨rfl,_,Eq.trans (World.drewN_drewN _ _ _) (congrArg (World.drewN _) (Nat.add_assoc _ _ _))⟩)) | (go_at_call 69;(with_reducible refine (metrolabref53_named.calls kj7 a0_2 true t118 _ A14.out).mono ?_);rintro e w' ⟨rfl,⟨nd,rfl⟩⟩;(try first | exact ⟨rfl,_,World.drewN_drewN _ _ _⟩ | exact ⟨rfl,_,Eq.trans (World.drewN_drewN _ _ _) (congrArg (World.drewN _) (Nat.add_assoc _ _ _))⟩)) | (go_at_call 69;(with_reducible refine (metrolabref53_named.calls kj7 a0_3 false t119 _ A16.out).mono ?_);rintro e w' ⟨rfl,⟨nd,rfl⟩⟩;(try first | exact ⟨rfl,_,World.drewN_drewN _ _ _⟩ | exact ⟨rfl,_,Eq.trans (World.drewN_drewN _ _ _) (congrArg (World.drewN _) (Nat.add_assoc _ _ _))⟩)))
             repeat (go_quiet (first | (go_at_call 69;(with_reducible refine (metrolabref53_named.calls kj7 a0_1 true t117 _ A12.out).mono ?_);rintro e w' ⟨rfl,⟨nd,rfl⟩⟩;(try first | exact ⟨rfl,_,World.drewN_drewN _ _ _⟩ | exact ⟨rfl,_,Eq.trans (World.drewN_drewN _ _ _) (congrArg (World.drewN _) (Nat.add_assoc _ _ _))⟩)) | (go_at_call 69;(with_reducible refine (metrolabref53_named.calls kj7 a0_2 true t118 _ A14.out).mono ?_);rintro e w' ⟨rfl,⟨nd,rfl⟩⟩;(try first | exact ⟨rfl,_,World.drewN_drewN _ _ _⟩ | exact ⟨rfl,_,Eq.trans (World.drewN_drewN _ _ _) (congrArg (World.drewN _) (Nat.add_assoc _ _ _))⟩)) | (go_at_call 69;(with_reducible refine (metrolabref53_named.calls kj7 a0_3 false t119 _ A16.out).mono ?_);rintro e w' ⟨rfl,⟨nd,rfl⟩⟩;(try first | exact ⟨rfl,_,World.drewN_drewN _ _ _⟩ | exact ⟨rfl,_,Eq.trans (World.drewN_drewN _ _ _) (congrArg (World.drewN _) (Nat.add_assoc _ _ _))⟩)));try go_wp2_with (first | (go_at_call 69;(with_reducible refine (metrolabref53_named.calls kj7 a0_1 true t117 _ A12.out).mono ?_);rintro e w' ⟨rfl,⟨nd,rfl⟩⟩;(try first | exact ⟨rfl,_,World.drewN_drewN _ _ _⟩ | exact ⟨rfl,_,Eq.trans (World.drewN_drewN _ _ _) (congrArg (World.drewN _) (Nat.add_assoc _ _ _))⟩)) | (go_at_call 69;(with_reducible refine (metrolabref53_named.calls kj7 a0_2 true t118 _ A14.out).mono ?_);rintro e w' ⟨rfl,⟨nd,rfl⟩⟩;(try first | exact ⟨rfl,_,World.drewN_drewN _ _ _⟩ | exact ⟨rfl,_,Eq.trans (World.drewN_drewN _ _ _) (congrArg (World.drewN _) (Nat.add_assoc _ _ _))⟩)) | (go_at_call 69;(with_reducible refine (metrolabref53_named.calls kj7 a0_3 false t119 _ A16.out).mono ?_);rintro e w' ⟨rfl,⟨nd,rfl⟩⟩;(try first | exact ⟨rfl,_,World.drewN_drewN _ _ _⟩ | exact ⟨rfl,_,Eq.trans (World.drewN_drewN _ _ _) (congrArg (World.drewN _) (Nat.add_assoc _ _ _))⟩))))
             go_ret
             exact ⟨by first | rfl | (simp [errW_none,errW_some] <;> rfl) | (simp [*,errW_none,errW_some] <;> rfl),by repeat (first | (with_reducible first | exact HB.out | apply below_alloc | apply pw_below_drewN | apply below_drew1 | refine below_set ?_ GE116.out) | exact HB.out)⟩
            ·rw [if_neg c22] at H
             have c22b0 : (a0_3.toList == ([] : List UInt8)) = false:=beq_eq_false_iff_ne.mpr c22
             have c22b1 : (a0_3.toList != ([] : List UInt8)) = true:=bne_iff_ne.mpr c22
             obtain rfl:=Option.some.inj H
             have hcz24_0 : wc.cell? ⟨gb116,0,none⟩ = some (.int .i64 a0_0):=(blk_cell BK116.out 0).trans rfl
             have hcz24_1 : wc.cell? ⟨gb116,1,none⟩ = some (.string a0_1):=(blk_cell BK116.out 1).trans rfl
             have hcz24_2 : wc.cell? ⟨gb116,2,none⟩ = some (.string a0_2):=(blk_cell BK116.out 2).trans rfl
             have hcz24_3 : wc.cell? ⟨gb116,3,none⟩ = some (.string a0_3):=(blk_cell BK116.out 3).trans rfl
             have hfz24_0:=blk_frozen BK116.out 0
             have hfz24_1:=blk_frozen BK116.out 1
             have hfz24_2:=blk_frozen BK116.out 2
             have hfz24_3:=blk_frozen BK116.out 3
             go_wp2_with (first | (go_at_call 69;(with_reducible refine (metrolabref53_named.calls kj7 a0_1 true t117 _ A12.out).mono ?_);rintro e w' ⟨rfl,⟨nd,rfl⟩⟩;(try first | exact ⟨rfl,_,World.drewN_drewN _ _ _⟩ | exact ⟨rfl,_,Eq.trans (World.drewN_drewN _ _ _) (congrArg (World.drewN _) (Nat.add_assoc _ _ _))⟩)) | (go_at_call 69;(with_reducible refine (metrolabref53_named.calls kj7 a0_2 true t118 _ A14.out).mono ?_);rintro e w' ⟨rfl,⟨nd,rfl⟩⟩;(try first | exact ⟨rfl,_,World.drewN_drewN _ _ _⟩ | exact ⟨rfl,_,Eq.trans (World.drewN_drewN _ _ _) (congrArg (World.drewN _) (Nat.add_assoc _ _ _))⟩)) | (go_at_call 69;(with_reducible refine (metrolabref53_named.calls kj7 a0_3 false t119 _ A16.out).mono ?_);rintro e w' ⟨rfl,⟨nd,rfl⟩⟩;(try first | exact ⟨rfl,_,World.drewN_drewN _ _ _⟩ | exact ⟨rfl,_,Eq.trans (World.drewN_drewN _ _ _) (congrArg (World.drewN _) (Nat.add_assoc _ _ _))⟩)))
             repeat (go_quiet (first | (go_at_call 69;(with_reducible refine (metrolabref53_named.calls kj7 a0_1 true t117 _ A12.out).mono ?_);rintro e w' ⟨rfl,⟨nd,rfl⟩⟩;(try first | exact ⟨rfl,_,World.drewN_drewN _ _ _⟩ | exact ⟨rfl,_,Eq.trans (World.drewN_drewN _ _ _) (congrArg (World.drewN _) (Nat.add_assoc _ _ _))⟩)) | (go_at_call 69;(with_reducible refine (metrolabref53_named.calls kj7 a0_2 true t118 _ A14.out).mono ?_);rintro e w' ⟨rfl,⟨nd,rfl⟩⟩;(try first | exact ⟨rfl,_,World.drewN_drewN _ _ _⟩ | exact ⟨rfl,_,Eq.trans (World.drewN_drewN _ _ _) (congrArg (World.drewN _) (Nat.add_assoc _ _ _))⟩)) | (go_at_call 69;(with_reducible refine (metrolabref53_named.calls kj7 a0_3 false t119 _ A16.out).mono ?_);rintro e w' ⟨rfl,⟨nd,rfl⟩⟩;(try first | exact ⟨rfl,_,World.drewN_drewN _ _ _⟩ | exact ⟨rfl,_,Eq.trans (World.drewN_drewN _ _ _) (congrArg (World.drewN _) (Nat.add_assoc _ _ _))⟩)));try go_wp2_with (first | (go_at_call 69;(with_reducible refine (metrolabref53_named.calls kj7 a0_1 true t117 _ A12.out).mono ?_);rintro e w' ⟨rfl,⟨nd,rfl⟩⟩;(try first | exact ⟨rfl,_,World.drewN_drewN _ _ _⟩ | exact ⟨rfl,_,Eq.trans (World.drewN_drewN _ _ _) (congrArg (World.drewN _) (Nat.add_assoc _ _ _))⟩)) | (go_at_call 69;(with_reducible refine (metrolabref53_named.calls kj7 a0_2 true t118 _ A14.out).mono ?_);rintro e w' ⟨rfl,⟨nd,rfl⟩⟩;(try first | exact ⟨rfl,_,World.drewN_drewN _ _ _⟩ | exact ⟨rfl,_,Eq.trans (World.drewN_drewN _ _ _) (congrArg (World.drewN _) (Nat.add_assoc _ _ _))⟩)) | (go_at_call 69;(with_reducible refine (metrolabref53_named.calls kj7 a0_3 false t119 _ A16.out).mono ?_);rintro e w' ⟨rfl,⟨nd,rfl⟩⟩;(try first | exact ⟨rfl,_,World.drewN_drewN _ _ _⟩ | exact ⟨rfl,_,Eq.trans (World.drewN_drewN _ _ _) (congrArg (World.drewN _) (Nat.add_assoc _ _ _))⟩))))
             go_ret
             exact ⟨by first | rfl | (simp [errW_none,errW_some] <;> rfl) | (simp [*,errW_none,errW_some] <;> rfl),by repeat (first | (with_reducible first | exact HB.out | apply below_alloc | apply pw_below_drewN | apply below_drew1 | refine below_set ?_ GE116.out) | exact HB.out)⟩
          ·replace c19:=Bool.eq_false_iff.mpr c19
           subst c19
           have H1 : (if a0_2.toList = ([] : List UInt8) then (if x5_7 = true then (some 0) else (if a0_3.toList = ([] : List UInt8) then (some 0) else (some 3))) else (some 3)) = some r:=by rw [if_neg (show ¬ (false = true) by decide)] at H;exact H
           clear H
           have H:=H1
           clear H1
           by_cases c25 : a0_2.toList = ([] : List UInt8)
           ·rw [if_pos c25] at H
            have c25b0 : (a0_2.toList == ([] : List UInt8)) = true:=beq_iff_eq.mpr c25
            have c25b1 : (a0_2.toList != ([] : List UInt8)) = false:=bne_eq_false_iff_eq.mpr c25
            clear c25
            by_cases c26 : x5_7 = true
            ·subst c26
             have H1 : (some 0) = some r:=by rw [if_pos rfl] at H;exact H
             clear H
             have H:=H1
             clear H1
             obtain rfl:=Option.some.inj H
             have hcz27_0 : wc.cell? ⟨gb116,0,none⟩ = some (.int .i64 a0_0):=(blk_cell BK116.out 0).trans rfl
             have hcz27_1 : wc.cell? ⟨gb116,1,none⟩ = some (.string a0_1):=(blk_cell BK116.out 1).trans rfl
             have hcz27_2 : wc.cell? ⟨gb116,2,none⟩ = some (.string a0_2):=(blk_cell BK116.out 2).trans rfl
             have hcz27_3 : wc.cell? ⟨gb116,3,none⟩ = some (.string a0_3):=(blk_cell BK116.out 3).trans rfl
             have hfz27_0:=blk_frozen BK116.out 0
             have hfz27_1:=blk_frozen BK116.out 1
             have hfz27_2:=blk_frozen BK116.out 2
             have hfz27_3:=blk_frozen BK116.out 3
             go_wp2_with (first | (go_at_call 69;(with_reducible refine (metrolabref53_named.calls kj7 a0_1 true t117 _ A12.out).mono ?_);rintro e w' ⟨rfl,⟨nd,rfl⟩⟩;(try first | exact ⟨rfl,_,World.drewN_drewN _ _ _⟩ | exact ⟨rfl,_,Eq.trans (World.drewN_drewN _ _ _) (congrArg (World.drewN _) (Nat.add_assoc _ _ _))⟩)) | (go_at_call 69;(with_reducible refine (metrolabref53_named.calls kj7 a0_2 false t118 _ A14.out).mono ?_);rintro e w' ⟨rfl,⟨nd,rfl⟩⟩;(try first | exact ⟨rfl,_,World.drewN_drewN _ _ _⟩ | exact ⟨rfl,_,Eq.trans (World.drewN_drewN _ _ _) (congrArg (World.drewN _) (Nat.add_assoc _ _ _))⟩)) | (go_at_call 69;(with_reducible refine (metrolabref53_named.calls kj7 a0_3 true t119 _ A16.out).mono ?_);rintro e w' ⟨rfl,⟨nd,rfl⟩⟩;(try first | exact ⟨rfl,_,World.drewN_drewN _ _ _⟩ | exact ⟨rfl,_,Eq.trans (World.drewN_drewN _ _ _) (congrArg (World.drewN _) (Nat.add_assoc _ _ _))⟩)))
             repeat (go_quiet (first | (go_at_call 69;(with_reducible refine (metrolabref53_named.calls kj7 a0_1 true t117 _ A12.out).mono ?_);rintro e w' ⟨rfl,⟨nd,rfl⟩⟩;(try first | exact ⟨rfl,_,World.drewN_drewN _ _ _⟩ | exact ⟨rfl,_,Eq.trans (World.drewN_drewN _ _ _) (congrArg (World.drewN _) (Nat.add_assoc _ _ _))⟩)) | (go_at_call 69;(with_reducible refine (metrolabref53_named.calls kj7 a0_2 false t118 _ A14.out).mono ?_);rintro e w' ⟨rfl,⟨nd,rfl⟩⟩;(try first | exact ⟨rfl,_,World.drewN_drewN _ _ _⟩ | exact ⟨rfl,_,Eq.trans (World.drewN_drewN _ _ _) (congrArg (World.drewN _) (Nat.add_assoc _ _ _))⟩)) | (go_at_call 69;(with_reducible refine (metrolabref53_named.calls kj7 a0_3 true t119 _ A16.out).mono ?_);rintro e w' ⟨rfl,⟨nd,rfl⟩⟩;(try first | exact ⟨rfl,_,World.drewN_drewN _ _ _⟩ | exact ⟨rfl,_,Eq.trans (World.drewN_drewN _ _ _) (congrArg (World.drewN _) (Nat.add_assoc _ _ _))⟩)));try go_wp2_with (first | (go_at_call 69;(with_reducible refine (metrolabref53_named.calls kj7 a0_1 true t117 _ A12.out).mono ?_);rintro e w' ⟨rfl,⟨nd,rfl⟩⟩;(try first | exact ⟨rfl,_,World.drewN_drewN _ _ _⟩ | exact ⟨rfl,_,Eq.trans (World.drewN_drewN _ _ _) (congrArg (World.drewN _) (Nat.add_assoc _ _ _))⟩)) | (go_at_call 69;(with_reducible refine (metrolabref53_named.calls kj7 a0_2 false t118 _ A14.out).mono ?_);rintro e w' ⟨rfl,⟨nd,rfl⟩⟩;(try first | exact ⟨rfl,_,World.drewN_drewN _ _ _⟩ | exact ⟨rfl,_,Eq.trans (World.drewN_drewN _ _ _) (congrArg (World.drewN _) (Nat.add_assoc _ _ _))⟩)) | (go_at_call 69;(with_reducible refine (metrolabref53_named.calls kj7 a0_3 true t119 _ A16.out).mono ?_);rintro e w' ⟨rfl,⟨nd,rfl⟩⟩;(try first | exact ⟨rfl,_,World.drewN_drewN _ _ _⟩ | exact ⟨rfl,_,Eq.trans (World.drewN_drewN _ _ _) (congrArg (World.drewN _) (Nat.add_assoc _ _ _))⟩))))
             go_ret
             exact ⟨by first | rfl | (simp [errW_none,errW_some] <;> rfl) | (simp [*,errW_none,errW_some] <;> rfl),by repeat (first | (with_reducible first | exact HB.out | apply below_alloc | apply pw_below_drewN | apply below_drew1 | refine below_set ?_ GE116.out) | exact HB.out)⟩
            ·replace c26:=Bool.eq_false_iff.mpr c26
             subst c26
             have H1 : (if a0_3.toList = ([] : List UInt8) then (some 0) else (some 3)) = some r:=by rw [if_neg (show ¬ (false = true) by decide)] at H;exact H
             clear H
             have H:=H1
             clear H1
             by_cases c28 : a0_3.toList = ([] : List UInt8)
             ·rw [if_pos c28] at H
              have c28b0 : (a0_3.toList == ([] : List UInt8)) = true:=beq_iff_eq.mpr c28
              have c28b1 : (a0_3.toList != ([] : List UInt8)) = false:=bne_eq_false_iff_eq.mpr c28
              clear c28
              obtain rfl:=Option.some.inj H
              have hcz29_0 : wc.cell? ⟨gb116,0,none⟩ = some (.int .i64 a0_0):=(blk_cell BK116.out 0).trans rfl
              have hcz29_1 : wc.cell? ⟨gb116,1,none⟩ = some (.string a0_1):=(blk_cell BK116.out 1).trans rfl
              have hcz29_2 : wc.cell? ⟨gb116,2,none⟩ = some (.string a0_2):=(blk_cell BK116.out 2).trans rfl
              have hcz29_3 : wc.cell? ⟨gb116,3,none⟩ = some (.string a0_3):=(blk_cell BK116.out 3).trans rfl
              have hfz29_0:=blk_frozen BK116.out 0
              have hfz29_1:=blk_frozen BK116.out 1
              have hfz29_2:=blk_frozen BK116.out 2
              have hfz29_3:=blk_frozen BK116.out 3
              go_wp2_with (first | (go_at_call 69;(with_reducible refine (metrolabref53_named.calls kj7 a0_1 true t117 _ A12.out).mono ?_);rintro e w' ⟨rfl,⟨nd,rfl⟩⟩;(try first | exact ⟨rfl,_,World.drewN_drewN _ _ _⟩ | exact ⟨rfl,_,Eq.trans (World.drewN_drewN _ _ _) (congrArg (World.drewN _) (Nat.add_assoc _ _ _))⟩)) | (go_at_call 69;(with_reducible refine (metrolabref53_named.calls kj7 a0_2 false t118 _ A14.out).mono ?_);rintro e w' ⟨rfl,⟨nd,rfl⟩⟩;(try first | exact ⟨rfl,_,World.drewN_drewN _ _ _⟩ | exact ⟨rfl,_,Eq.trans (World.drewN_drewN _ _ _) (congrArg (World.drewN _) (Nat.add_assoc _ _ _))⟩)) | (go_at_call 69;(with_reducible refine (metrolabref53_named.calls kj7 a0_3 false t119 _ A16.out).mono ?_);rintro e w' ⟨rfl,⟨nd,rfl⟩⟩;(try first | exact ⟨rfl,_,World.drewN_drewN _ _ _⟩ | exact ⟨rfl,_,Eq.trans (World.drewN_drewN _ _ _) (congrArg (World.drewN _) (Nat.add_assoc _ _ _))⟩)))
              repeat (go_quiet (first | (go_at_call 69;(with_reducible refine (metrolabref53_named.calls kj7 a0_1 true t117 _ A12.out).mono ?_);rintro e w' ⟨rfl,⟨nd,rfl⟩⟩;(try first | exact ⟨rfl,_,World.drewN_drewN _ _ _⟩ | exact ⟨rfl,_,Eq.trans (World.drewN_drewN _ _ _) (congrArg (World.drewN _) (Nat.add_assoc _ _ _))⟩)) | (go_at_call 69;(with_reducible refine (metrolabref53_named.calls kj7 a0_2 false t118 _ A14.out).mono ?_);rintro e w' ⟨rfl,⟨nd,rfl⟩⟩;(try first | exact ⟨rfl,_,World.drewN_drewN _ _ _⟩ | exact ⟨rfl,_,Eq.trans (World.drewN_drewN _ _ _) (congrArg (World.drewN _) (Nat.add_assoc _ _ _))⟩)) | (go_at_call 69;(with_reducible refine (metrolabref53_named.calls kj7 a0_3 false t119 _ A16.out).mono ?_);rintro e w' ⟨rfl,⟨nd,rfl⟩⟩;(try first | exact ⟨rfl,_,World.drewN_drewN _ _ _⟩ | exact ⟨rfl,_,Eq.trans (World.drewN_drewN _ _ _) (congrArg (World.drewN _) (Nat.add_assoc _ _ _))⟩)));try go_wp2_with (first | (go_at_call 69;(with_reducible refine (metrolabref53_named.calls kj7 a0_1 true t117 _ A12.out).mono ?_);rintro e w' ⟨rfl,⟨nd,rfl⟩⟩;(try first | exact ⟨rfl,_,World.drewN_drewN _ _ _⟩ | exact ⟨rfl,_,Eq.trans (World.drewN_drewN _ _ _) (congrArg (World.drewN _) (Nat.add_assoc _ _ _))⟩)) | (go_at_call 69;(with_reducible refine (metrolabref53_named.calls kj7 a0_2 false t118 _ A14.out).mono ?_);rintro e w' ⟨rfl,⟨nd,rfl⟩⟩;(try first | exact ⟨rfl,_,World.drewN_drewN _ _ _⟩ | exact ⟨rfl,_,Eq.trans (World.drewN_drewN _ _ _) (congrArg (World.drewN _) (Nat.add_assoc _ _ _))⟩)) | (go_at_call 69;(with_reducible refine (metrolabref53_named.calls kj7 a0_3 false t119 _ A16.out).mono ?_);rintro e w' ⟨rfl,⟨nd,rfl⟩⟩;(try first | exact ⟨rfl,_,World.drewN_drewN _ _ _⟩ | exact ⟨rfl,_,Eq.trans (World.drewN_drewN _ _ _) (congrArg (World.drewN _) (Nat.add_assoc _ _ _))⟩))))
              go_ret
              exact ⟨by first | rfl | (simp [errW_none,errW_some] <;> rfl) | (simp [*,errW_none,errW_some] <;> rfl),by repeat (first | (with_reducible first | exact HB.out | apply below_alloc | apply pw_below_drewN | apply below_drew1 | refine below_set ?_ GE116.out) | exact HB.out)⟩
             ·rw [if_neg c28] at H
              have c28b0 : (a0_3.toList == ([] : List UInt8)) = false:=beq_eq_false_iff_ne.mpr c28
              have c28b1 : (a0_3.toList != ([] : List UInt8)) = true:=bne_iff_ne.mpr c28
              obtain rfl:=Option.some.inj H
              have hcz30_0 : wc.cell? ⟨gb116,0,none⟩ = some (.int .i64 a0_0):=(blk_cell BK116.out 0).trans rfl
              have hcz30_1 : wc.cell? ⟨gb116,1,none⟩ = some (.string a0_1):=(blk_cell BK116.out 1).trans rfl
              have hcz30_2 : wc.cell? ⟨gb116,2,none⟩ = some (.string a0_2):=(blk_cell BK116.out 2).trans rfl
              have hcz30_3 : wc.cell? ⟨gb116,3,none⟩ = some (.string a0_3):=(blk_cell BK116.out 3).trans rfl
              have hfz30_0:=blk_frozen BK116.out 0
              have hfz30_1:=blk_frozen BK116.out 1
              have hfz30_2:=blk_frozen BK116.out 2
              have hfz30_3:=blk_frozen BK116.out 3
              go_wp2_with (first | (go_at_call 69;(with_reducible refine (metrolabref53_named.calls kj7 a0_1 true t117 _ A12.out).mono ?_);rintro e w' ⟨rfl,⟨nd,rfl⟩⟩;(try first | exact ⟨rfl,_,World.drewN_drewN _ _ _⟩ | exact ⟨rfl,_,Eq.trans (World.drewN_drewN _ _ _) (congrArg (World.drewN _) (Nat.add_assoc _ _ _))⟩)) | (go_at_call 69;(with_reducible refine (metrolabref53_named.calls kj7 a0_2 false t118 _ A14.out).mono ?_);rintro e w' ⟨rfl,⟨nd,rfl⟩⟩;(try first | exact ⟨rfl,_,World.drewN_drewN _ _ _⟩ | exact ⟨rfl,_,Eq.trans (World.drewN_drewN _ _ _) (congrArg (World.drewN _) (Nat.add_assoc _ _ _))⟩)) | (go_at_call 69;(with_reducible refine (metrolabref53_named.calls kj7 a0_3 false t119 _ A16.out).mono ?_);rintro e w' ⟨rfl,⟨nd,rfl⟩⟩;(try first | exact ⟨rfl,_,World.drewN_drewN _ _ _⟩ | exact ⟨rfl,_,Eq.trans (World.drewN_drewN _ _ _) (congrArg (World.drewN _) (Nat.add_assoc _ _ _))⟩)))
              repeat (go_quiet (first | (go_at_call 69;(with_reducible refine (metrolabref53_named.calls kj7 a0_1 true t117 _ A12.out).mono ?_);rintro e w' ⟨rfl,⟨nd,rfl⟩⟩;(try first | exact ⟨rfl,_,World.drewN_drewN _ _ _⟩ | exact ⟨rfl,_,Eq.trans (World.drewN_drewN _ _ _) (congrArg (World.drewN _) (Nat.add_assoc _ _ _))⟩)) | (go_at_call 69;(with_reducible refine (metrolabref53_named.calls kj7 a0_2 false t118 _ A14.out).mono ?_);rintro e w' ⟨rfl,⟨nd,rfl⟩⟩;(try first | exact ⟨rfl,_,World.drewN_drewN _ _ _⟩ | exact ⟨rfl,_,Eq.trans (World.drewN_drewN _ _ _) (congrArg (World.drewN _) (Nat.add_assoc _ _ _))⟩)) | (go_at_call 69;(with_reducible refine (metrolabref53_named.calls kj7 a0_3 false t119 _ A16.out).mono ?_);rintro e w' ⟨rfl,⟨nd,rfl⟩⟩;(try first | exact ⟨rfl,_,World.drewN_drewN _ _ _⟩ | exact ⟨rfl,_,Eq.trans (World.drewN_drewN _ _ _) (congrArg (World.drewN _) (Nat.add_assoc _ _ _))⟩)));try go_wp2_with (first | (go_at_call 69;(with_reducible refine (metrolabref53_named.calls kj7 a0_1 true t117 _ A12.out).mono ?_);rintro e w' ⟨rfl,⟨nd,rfl⟩⟩;(try first | exact ⟨rfl,_,World.drewN_drewN _ _ _⟩ | exact ⟨rfl,_,Eq.trans (World.drewN_drewN _ _ _) (congrArg (World.drewN _) (Nat.add_assoc _ _ _))⟩)) | (go_at_call 69;(with_reducible refine (metrolabref53_named.calls kj7 a0_2 false t118 _ A14.out).mono ?_);rintro e w' ⟨rfl,⟨nd,rfl⟩⟩;(try first | exact ⟨rfl,_,World.drewN_drewN _ _ _⟩ | exact ⟨rfl,_,Eq.trans (World.drewN_drewN _ _ _) (congrArg (World.drewN _) (Nat.add_assoc _ _ _))⟩)) | (go_at_call 69;(with_reducible refine (metrolabref53_named.calls kj7 a0_3 false t119 _ A16.out).mono ?_);rintro e w' ⟨rfl,⟨nd,rfl⟩⟩;(try first | exact ⟨rfl,_,World.drewN_drewN _ _ _⟩ | exact ⟨rfl,_,Eq.trans (World.drewN_drewN _ _ _) (congrArg (World.drewN _) (Nat.add_assoc _ _ _))⟩))))
              go_ret
              exact ⟨by first | rfl | (simp [errW_none,errW_some] <;> rfl) | (simp [*,errW_none,errW_some] <;> rfl),by repeat (first | (with_reducible first | exact HB.out | apply below_alloc | apply pw_below_drewN | apply below_drew1 | refine below_set ?_ GE116.out) | exact HB.out)⟩
           ·rw [if_neg c25] at H
            have c25b0 : (a0_2.toList == ([] : List UInt8)) = false:=beq_eq_false_iff_ne.mpr c25
            have c25b1 : (a0_2.toList != ([] : List UInt8)) = true:=bne_iff_ne.mpr c25
            obtain rfl:=Option.some.inj H
            have hcz31_0 : wc.cell? ⟨gb116,0,none⟩ = some (.int .i64 a0_0):=(blk_cell BK116.out 0).trans rfl
            have hcz31_1 : wc.cell? ⟨gb116,1,none⟩ = some (.string a0_1):=(blk_cell BK116.out 1).trans rfl
            have hcz31_2 : wc.cell? ⟨gb116,2,none⟩ = some (.string a0_2):=(blk_cell BK116.out 2).trans rfl
            have hcz31_3 : wc.cell? ⟨gb116,3,none⟩ = some (.string a0_3):=(blk_cell BK116.out 3).trans rfl
            have hfz31_0:=blk_frozen BK116.out 0
            have hfz31_1:=blk_frozen BK116.out 1
            have hfz31_2:=blk_frozen BK116.out 2
            have hfz31_3:=blk_frozen BK116.out 3
            go_wp2_with (first | (go_at_call 69;(with_reducible refine (metrolabref53_named.calls kj7 a0_1 true t117 _ A12.out).mono ?_);rintro e w' ⟨rfl,⟨nd,rfl⟩⟩;(try first | exact ⟨rfl,_,World.drewN_drewN _ _ _⟩ | exact ⟨rfl,_,Eq.trans (World.drewN_drewN _ _ _) (congrArg (World.drewN _) (Nat.add_assoc _ _ _))⟩)) | (go_at_call 69;(with_reducible refine (metrolabref53_named.calls kj7 a0_2 false t118 _ A14.out).mono ?_);rintro e w' ⟨rfl,⟨nd,rfl⟩⟩;(try first | exact ⟨rfl,_,World.drewN_drewN _ _ _⟩ | exact ⟨rfl,_,Eq.trans (World.drewN_drewN _ _ _) (congrArg (World.drewN _) (Nat.add_assoc _ _ _))⟩)) | (go_at_call 69;(with_reducible refine (metrolabref53_named.calls kj7 a0_3 x5_7 t119 _ A16.out).mono ?_);rintro e w' ⟨rfl,⟨nd,rfl⟩⟩;(try first | exact ⟨rfl,_,World.drewN_drewN _ _ _⟩ | exact ⟨rfl,_,Eq.trans (World.drewN_drewN _ _ _) (congrArg (World.drewN _) (Nat.add_assoc _ _ _))⟩)))
            repeat (go_quiet (first | (go_at_call 69;(with_reducible refine (metrolabref53_named.calls kj7 a0_1 true t117 _ A12.out).mono ?_);rintro e w' ⟨rfl,⟨nd,rfl⟩⟩;(try first | exact ⟨rfl,_,World.drewN_drewN _ _ _⟩ | exact ⟨rfl,_,Eq.trans (World.drewN_drewN _ _ _) (congrArg (World.drewN _) (Nat.add_assoc _ _ _))⟩)) | (go_at_call 69;(with_reducible refine (metrolabref53_named.calls kj7 a0_2 false t118 _ A14.out).mono ?_);rintro e w' ⟨rfl,⟨nd,rfl⟩⟩;(try first | exact ⟨rfl,_,World.drewN_drewN _ _ _⟩ | exact ⟨rfl,_,Eq.trans (World.drewN_drewN _ _ _) (congrArg (World.drewN _) (Nat.add_assoc _ _ _))⟩)) | (go_at_call 69;(with_reducible refine (metrolabref53_named.calls kj7 a0_3 x5_7 t119 _ A16.out).mono ?_);rintro e w' ⟨rfl,⟨nd,rfl⟩⟩;(try first | exact ⟨rfl,_,World.drewN_drewN _ _ _⟩ | exact ⟨rfl,_,Eq.trans (World.drewN_drewN _ _ _) (congrArg (World.drewN _) (Nat.add_assoc _ _ _))⟩)));try go_wp2_with (first | (go_at_call 69;(with_reducible refine (metrolabref53_named.calls kj7 a0_1 true t117 _ A12.out).mono ?_);rintro e w' ⟨rfl,⟨nd,rfl⟩⟩;(try first | exact ⟨rfl,_,World.drewN_drewN _ _ _⟩ | exact ⟨rfl,_,Eq.trans (World.drewN_drewN _ _ _) (congrArg (World.drewN _) (Nat.add_assoc _ _ _))⟩)) | (go_at_call 69;(with_reducible refine (metrolabref53_named.calls kj7 a0_2 false t118 _ A14.out).mono ?_);rintro e w' ⟨rfl,⟨nd,rfl⟩⟩;(try first | exact ⟨rfl,_,World.drewN_drewN _ _ _⟩ | exact ⟨rfl,_,Eq.trans (World.drewN_drewN _ _ _) (congrArg (World.drewN _) (Nat.add_assoc _ _ _))⟩)) | (go_at_call 69;(with_reducible refine (metrolabref53_named.calls kj7 a0_3 x5_7 t119 _ A16.out).mono ?_);rintro e w' ⟨rfl,⟨nd,rfl⟩⟩;(try first | exact ⟨rfl,_,World.drewN_drewN _ _ _⟩ | exact ⟨rfl,_,Eq.trans (World.drewN_drewN _ _ _) (congrArg (World.drewN _) (Nat.add_assoc _ _ _))⟩))))
            go_ret
            exact ⟨by first | rfl | (simp [errW_none,errW_some] <;> rfl) | (simp [*,errW_none,errW_some] <;> rfl),by repeat (first | (with_reducible first | exact HB.out | apply below_alloc | apply pw_below_drewN | apply below_drew1 | refine below_set ?_ GE116.out) | exact HB.out)⟩
         ·replace c18:=Bool.eq_false_iff.mpr c18
          subst c18
          have H1 : (if a0_1.toList = ([] : List UInt8) then (if x4_7 = true then (if x5_7 = true then (some 0) else (if a0_3.toList = ([] : List UInt8) then (some 0) else (some 3))) else (if a0_2.toList = ([] : List UInt8) then (if x5_7 = true then (some 0) else (if a0_3.toList = ([] : List UInt8) then (some 0) else (some 3))) else (some 3))) else (some 3)) = some r:=by rw [if_neg (show ¬ (false = true) by decide)] at H;exact H
          clear H
          have H:=H1
          clear H1
          by_cases c32 : a0_1.toList = ([] : List UInt8)
          ·rw [if_pos c32] at H
           have c32b0 : (a0_1.toList == ([] : List UInt8)) = true:=beq_iff_eq.mpr c32
           have c32b1 : (a0_1.toList != ([] : List UInt8)) = false:=bne_eq_false_iff_eq.mpr c32
           clear c32
           by_cases c33 : x4_7 = true
           ·subst c33
            have H1 : (if x5_7 = true then (some 0) else (if a0_3.toList = ([] : List UInt8) then (some 0) else (some 3))) = some r:=by rw [if_pos rfl] at H;exact H
            clear H
            have H:=H1
            clear H1
            by_cases c34 : x5_7 = true
            ·subst c34
             have H1 : (some 0) = some r:=by rw [if_pos rfl] at H;exact H
             clear H
             have H:=H1
             clear H1
             obtain rfl:=Option.some.inj H
             have hcz35_0 : wc.cell? ⟨gb116,0,none⟩ = some (.int .i64 a0_0):=(blk_cell BK116.out 0).trans rfl
             have hcz35_1 : wc.cell? ⟨gb116,1,none⟩ = some (.string a0_1):=(blk_cell BK116.out 1).trans rfl
             have hcz35_2 : wc.cell? ⟨gb116,2,none⟩ = some (.string a0_2):=(blk_cell BK116.out 2).trans rfl
             have hcz35_3 : wc.cell? ⟨gb116,3,none⟩ = some (.string a0_3):=(blk_cell BK116.out 3).trans rfl
             have hfz35_0:=blk_frozen BK116.out 0
             have hfz35_1:=blk_frozen BK116.out 1
             have hfz35_2:=blk_frozen BK116.out 2
             have hfz35_3:=blk_frozen BK116.out 3
             go_wp2_with (first | (go_at_call 69;(with_reducible refine (metrolabref53_named.calls kj7 a0_1 false t117 _ A12.out).mono ?_);rintro e w' ⟨rfl,⟨nd,rfl⟩⟩;(try first | exact ⟨rfl,_,World.drewN_drewN _ _ _⟩ | exact ⟨rfl,_,Eq.trans (World.drewN_drewN _ _ _) (congrArg (World.drewN _) (Nat.add_assoc _ _ _))⟩)) | (go_at_call 69;(with_reducible refine (metrolabref53_named.calls kj7 a0_2 true t118 _ A14.out).mono ?_);rintro e w' ⟨rfl,⟨nd,rfl⟩⟩;(try first | exact ⟨rfl,_,World.drewN_drewN _ _ _⟩ | exact ⟨rfl,_,Eq.trans (World.drewN_drewN _ _ _) (congrArg (World.drewN _) (Nat.add_assoc _ _ _))⟩)) | (go_at_call 69;(with_reducible refine (metrolabref53_named.calls kj7 a0_3 true t119 _ A16.out).mono ?_);rintro e w' ⟨rfl,⟨nd,rfl⟩⟩;(try first | exact ⟨rfl,_,World.drewN_drewN _ _ _⟩ | exact ⟨rfl,_,Eq.trans (World.drewN_drewN _ _ _) (congrArg (World.drewN _) (Nat.add_assoc _ _ _))⟩)))
             repeat (go_quiet (first | (go_at_call 69;(with_reducible refine (metrolabref53_named.calls kj7 a0_1 false t117 _ A12.out).mono ?_);rintro e w' ⟨rfl,⟨nd,rfl⟩⟩;(try first | exact ⟨rfl,_,World.drewN_drewN _ _ _⟩ | exact ⟨rfl,_,Eq.trans (World.drewN_drewN _ _ _) (congrArg (World.drewN _) (Nat.add_assoc _ _ _))⟩)) | (go_at_call 69;(with_reducible refine (metrolabref53_named.calls kj7 a0_2 true t118 _ A14.out).mono ?_);rintro e w' ⟨rfl,⟨nd,rfl⟩⟩;(try first | exact ⟨rfl,_,World.drewN_drewN _ _ _⟩ | exact ⟨rfl,_,Eq.trans (World.drewN_drewN _ _ _) (congrArg (World.drewN _) (Nat.add_assoc _ _ _))⟩)) | (go_at_call 69;(with_reducible refine (metrolabref53_named.calls kj7 a0_3 true t119 _ A16.out).mono ?_);rintro e w' ⟨rfl,⟨nd,rfl⟩⟩;(try first | exact ⟨rfl,_,World.drewN_drewN _ _ _⟩ | exact ⟨rfl,_,Eq.trans (World.drewN_drewN _ _ _) (congrArg (World.drewN _) (Nat.add_assoc _ _ _))⟩)));try go_wp2_with (first | (go_at_call 69;(with_reducible refine (metrolabref53_named.calls kj7 a0_1 false t117 _ A12.out).mono ?_);rintro e w' ⟨rfl,⟨nd,rfl⟩⟩;(try first | exact ⟨rfl,_,World.drewN_drewN _ _ _⟩ | exact ⟨rfl,_,Eq.trans (World.drewN_drewN _ _ _) (congrArg (World.drewN _) (Nat.add_assoc _ _ _))⟩)) | (go_at_call 69;(with_reducible refine (metrolabref53_named.calls kj7 a0_2 true t118 _ A14.out).mono ?_);rintro e w' ⟨rfl,⟨nd,rfl⟩⟩;(try first | exact ⟨rfl,_,World.drewN_drewN _ _ _⟩ | exact ⟨rfl,_,Eq.trans (World.drewN_drewN _ _ _) (congrArg (World.drewN _) (Nat.add_assoc _ _ _))⟩)) | (go_at_call 69;(with_reducible refine (metrolabref53_named.calls kj7 a0_3 true t119 _ A16.out).mono ?_);rintro e w' ⟨rfl,⟨nd,rfl⟩⟩;(try first | exact ⟨rfl,_,World.drewN_drewN _ _ _⟩ | exact ⟨rfl,_,Eq.trans (World.drewN_drewN _ _ _) (congrArg (World.drewN _) (Nat.add_assoc _ _ _))⟩))))
             go_ret
             exact ⟨by first | rfl | (simp [errW_none,errW_some] <;> rfl) | (simp [*,errW_none,errW_some] <;> rfl),by repeat (first | (with_reducible first | exact HB.out | apply below_alloc | apply pw_below_drewN | apply below_drew1 | refine below_set ?_ GE116.out) | exact HB.out)⟩
            ·replace c34:=Bool.eq_false_iff.mpr c34
             subst c34
             have H1 : (if a0_3.toList = ([] : List UInt8) then (some 0) else (some 3)) = some r:=by rw [if_neg (show ¬ (false = true) by decide)] at H;exact H
             clear H
             have H:=H1
             clear H1
             by_cases c36 : a0_3.toList = ([] : List UInt8)
             ·rw [if_pos c36] at H
              have c36b0 : (a0_3.toList == ([] : List UInt8)) = true:=beq_iff_eq.mpr c36
              have c36b1 : (a0_3.toList != ([] : List UInt8)) = false:=bne_eq_false_iff_eq.mpr c36
              clear c36
              obtain rfl:=Option.some.inj H
              have hcz37_0 : wc.cell? ⟨gb116,0,none⟩ = some (.int .i64 a0_0):=(blk_cell BK116.out 0).trans rfl
              have hcz37_1 : wc.cell? ⟨gb116,1,none⟩ = some (.string a0_1):=(blk_cell BK116.out 1).trans rfl
              have hcz37_2 : wc.cell? ⟨gb116,2,none⟩ = some (.string a0_2):=(blk_cell BK116.out 2).trans rfl
              have hcz37_3 : wc.cell? ⟨gb116,3,none⟩ = some (.string a0_3):=(blk_cell BK116.out 3).trans rfl
              have hfz37_0:=blk_frozen BK116.out 0
              have hfz37_1:=blk_frozen BK116.out 1
              have hfz37_2:=blk_frozen BK116.out 2
              have hfz37_3:=blk_frozen BK116.out 3
              go_wp2_with (first | (go_at_call 69;(with_reducible refine (metrolabref53_named.calls kj7 a0_1 false t117 _ A12.out).mono ?_);rintro e w' ⟨rfl,⟨nd,rfl⟩⟩;(try first | exact ⟨rfl,_,World.drewN_drewN _ _ _⟩ | exact ⟨rfl,_,Eq.trans (World.drewN_drewN _ _ _) (congrArg (World.drewN _) (Nat.add_assoc _ _ _))⟩)) | (go_at_call 69;(with_reducible refine (metrolabref53_named.calls kj7 a0_2 true t118 _ A14.out).mono ?_);rintro e w' ⟨rfl,⟨nd,rfl⟩⟩;(try first | exact ⟨rfl,_,World.drewN_drewN _ _ _⟩ | exact ⟨rfl,_,Eq.trans (World.drewN_drewN _ _ _) (congrArg (World.drewN _) (Nat.add_assoc _ _ _))⟩)) | (go_at_call 69;(with_reducible refine (metrolabref53_named.calls kj7 a0_3 false t119 _ A16.out).mono ?_);rintro e w' ⟨rfl,⟨nd,rfl⟩⟩;(try first | exact ⟨rfl,_,World.drewN_drewN _ _ _⟩ | exact ⟨rfl,_,Eq.trans (World.drewN_drewN _ _ _) (congrArg (World.drewN _) (Nat.add_assoc _ _ _))⟩)))
              repeat (go_quiet (first | (go_at_call 69;(with_reducible refine (metrolabref53_named.calls kj7 a0_1 false t117 _ A12.out).mono ?_);rintro e w' ⟨rfl,⟨nd,rfl⟩⟩;(try first | exact ⟨rfl,_,World.drewN_drewN _ _ _⟩ | exact ⟨rfl,_,Eq.trans (World.drewN_drewN _ _ _) (congrArg (World.drewN _) (Nat.add_assoc _ _ _))⟩)) | (go_at_call 69;(with_reducible refine (metrolabref53_named.calls kj7 a0_2 true t118 _ A14.out).mono ?_);rintro e w' ⟨rfl,⟨nd,rfl⟩⟩;(try first | exact ⟨rfl,_,World.drewN_drewN _ _ _⟩ | exact ⟨rfl,_,Eq.trans (World.drewN_drewN _ _ _) (congrArg (World.drewN _) (Nat.add_assoc _ _ _))⟩)) | (go_at_call 69;(with_reducible refine (metrolabref53_named.calls kj7 a0_3 false t119 _ A16.out).mono ?_);rintro e w' ⟨rfl,⟨nd,rfl⟩⟩;(try first | exact ⟨rfl,_,World.drewN_drewN _ _ _⟩ | exact ⟨rfl,_,Eq.trans (World.drewN_drewN _ _ _) (congrArg (World.drewN _) (Nat.add_assoc _ _ _))⟩)));try go_wp2_with (first | (go_at_call 69;(with_reducible refine (metrolabref53_named.calls kj7 a0_1 false t117 _ A12.out).mono ?_);rintro e w' ⟨rfl,⟨nd,rfl⟩⟩;(try first | exact ⟨rfl,_,World.drewN_drewN _ _ _⟩ | exact ⟨rfl,_,Eq.trans (World.drewN_drewN _ _ _) (congrArg (World.drewN _) (Nat.add_assoc _ _ _))⟩)) | (go_at_call 69;(with_reducible refine (metrolabref53_named.calls kj7 a0_2 true t118 _ A14.out).mono ?_);rintro e w' ⟨rfl,⟨nd,rfl⟩⟩;(try first | exact ⟨rfl,_,World.drewN_drewN _ _ _⟩ | exact ⟨rfl,_,Eq.trans (World.drewN_drewN _ _ _) (congrArg (World.drewN _) (Nat.add_assoc _ _ _))⟩)) | (go_at_call 69;(with_reducible refine (metrolabref53_named.calls kj7 a0_3 false t119 _ A16.out).mono ?_);rintro e w' ⟨rfl,⟨nd,rfl⟩⟩;(try first | exact ⟨rfl,_,World.drewN_drewN _ _ _⟩ | exact ⟨rfl,_,Eq.trans (World.drewN_drewN _ _ _) (congrArg (World.drewN _) (Nat.add_assoc _ _ _))⟩))))
              go_ret
              exact ⟨by first | rfl | (simp [errW_none,errW_some] <;> rfl) | (simp [*,errW_none,errW_some] <;> rfl),by repeat (first | (with_reducible first | exact HB.out | apply below_alloc | apply pw_below_drewN | apply below_drew1 | refine below_set ?_ GE116.out) | exact HB.out)⟩
             ·rw [if_neg c36] at H
              have c36b0 : (a0_3.toList == ([] : List UInt8)) = false:=beq_eq_false_iff_ne.mpr c36
              have c36b1 : (a0_3.toList != ([] : List UInt8)) = true:=bne_iff_ne.mpr c36
              obtain rfl:=Option.some.inj H
              have hcz38_0 : wc.cell? ⟨gb116,0,none⟩ = some (.int .i64 a0_0):=(blk_cell BK116.out 0).trans rfl
              have hcz38_1 : wc.cell? ⟨gb116,1,none⟩ = some (.string a0_1):=(blk_cell BK116.out 1).trans rfl
              have hcz38_2 : wc.cell? ⟨gb116,2,none⟩ = some (.string a0_2):=(blk_cell BK116.out 2).trans rfl
              have hcz38_3 : wc.cell? ⟨gb116,3,none⟩ = some (.string a0_3):=(blk_cell BK116.out 3).trans rfl
              have hfz38_0:=blk_frozen BK116.out 0
              have hfz38_1:=blk_frozen BK116.out 1
              have hfz38_2:=blk_frozen BK116.out 2
              have hfz38_3:=blk_frozen BK116.out 3
              go_wp2_with (first | (go_at_call 69;(with_reducible refine (metrolabref53_named.calls kj7 a0_1 false t117 _ A12.out).mono ?_);rintro e w' ⟨rfl,⟨nd,rfl⟩⟩;(try first | exact ⟨rfl,_,World.drewN_drewN _ _ _⟩ | exact ⟨rfl,_,Eq.trans (World.drewN_drewN _ _ _) (congrArg (World.drewN _) (Nat.add_assoc _ _ _))⟩)) | (go_at_call 69;(with_reducible refine (metrolabref53_named.calls kj7 a0_2 true t118 _ A14.out).mono ?_);rintro e w' ⟨rfl,⟨nd,rfl⟩⟩;(try first | exact ⟨rfl,_,World.drewN_drewN _ _ _⟩ | exact ⟨rfl,_,Eq.trans (World.drewN_drewN _ _ _) (congrArg (World.drewN _) (Nat.add_assoc _ _ _))⟩)) | (go_at_call 69;(with_reducible refine (metrolabref53_named.calls kj7 a0_3 false t119 _ A16.out).mono ?_);rintro e w' ⟨rfl,⟨nd,rfl⟩⟩;(try first | exact ⟨rfl,_,World.drewN_drewN _ _ _⟩ | exact ⟨rfl,_,Eq.trans (World.drewN_drewN _ _ _) (congrArg (World.drewN _) (Nat.add_assoc _ _ _))⟩)))
              repeat (go_quiet (first | (go_at_call 69;(with_reducible refine (metrolabref53_named.calls kj7 a0_1 false t117 _ A12.out).mono ?_);rintro e w' ⟨rfl,⟨nd,rfl⟩⟩;(try first | exact ⟨rfl,_,World.drewN_drewN _ _ _⟩ | exact ⟨rfl,_,Eq.trans (World.drewN_drewN _ _ _) (congrArg (World.drewN _) (Nat.add_assoc _ _ _))⟩)) | (go_at_call 69;(with_reducible refine (metrolabref53_named.calls kj7 a0_2 true t118 _ A14.out).mono ?_);rintro e w' ⟨rfl,⟨nd,rfl⟩⟩;(try first | exact ⟨rfl,_,World.drewN_drewN _ _ _⟩ | exact ⟨rfl,_,Eq.trans (World.drewN_drewN _ _ _) (congrArg (World.drewN _) (Nat.add_assoc _ _ _))⟩)) | (go_at_call 69;(with_reducible refine (metrolabref53_named.calls kj7 a0_3 false t119 _ A16.out).mono ?_);rintro e w' ⟨rfl,⟨nd,rfl⟩⟩;(try first | exact ⟨rfl,_,World.drewN_drewN _ _ _⟩ | exact ⟨rfl,_,Eq.trans (World.drewN_drewN _ _ _) (congrArg (World.drewN _) (Nat.add_assoc _ _ _))⟩)));try go_wp2_with (first | (go_at_call 69;(with_reducible refine (metrolabref53_named.calls kj7 a0_1 false t117 _ A12.out).mono ?_);rintro e w' ⟨rfl,⟨nd,rfl⟩⟩;(try first | exact ⟨rfl,_,World.drewN_drewN _ _ _⟩ | exact ⟨rfl,_,Eq.trans (World.drewN_drewN _ _ _) (congrArg (World.drewN _) (Nat.add_assoc _ _ _))⟩)) | (go_at_call 69;(with_reducible refine (metrolabref53_named.calls kj7 a0_2 true t118 _ A14.out).mono ?_);rintro e w' ⟨rfl,⟨nd,rfl⟩⟩;(try first | exact ⟨rfl,_,World.drewN_drewN _ _ _⟩ | exact ⟨rfl,_,Eq.trans (World.drewN_drewN _ _ _) (congrArg (World.drewN _) (Nat.add_assoc _ _ _))⟩)) | (go_at_call 69;(with_reducible refine (metrolabref53_named.calls kj7 a0_3 false t119 _ A16.out).mono ?_);rintro e w' ⟨rfl,⟨nd,rfl⟩⟩;(try first | exact ⟨rfl,_,World.drewN_drewN _ _ _⟩ | exact ⟨rfl,_,Eq.trans (World.drewN_drewN _ _ _) (congrArg (World.drewN _) (Nat.add_assoc _ _ _))⟩))))
              go_ret
              exact ⟨by first | rfl | (simp [errW_none,errW_some] <;> rfl) | (simp [*,errW_none,errW_some] <;> rfl),by repeat (first | (with_reducible first | exact HB.out | apply below_alloc | apply pw_below_drewN | apply below_drew1 | refine below_set ?_ GE116.out) | exact HB.out)⟩
           ·replace c33:=Bool.eq_false_iff.mpr c33
            subst c33
            have H1 : (if a0_2.toList = ([] : List UInt8) then (if x5_7 = true then (some 0) else (if a0_3.toList = ([] : List UInt8) then (some 0) else (some 3))) else (some 3)) = some r:=by rw [if_neg (show ¬ (false = true) by decide)] at H;exact H
            clear H
            have H:=H1
            clear H1
            by_cases c39 : a0_2.toList = ([] : List UInt8)
            ·rw [if_pos c39] at H
             have c39b0 : (a0_2.toList == ([] : List UInt8)) = true:=beq_iff_eq.mpr c39
             have c39b1 : (a0_2.toList != ([] : List UInt8)) = false:=bne_eq_false_iff_eq.mpr c39
             clear c39
             by_cases c40 : x5_7 = true
             ·subst c40
              have H1 : (some 0) = some r:=by rw [if_pos rfl] at H;exact H
              clear H
              have H:=H1
              clear H1
              obtain rfl:=Option.some.inj H
              have hcz41_0 : wc.cell? ⟨gb116,0,none⟩ = some (.int .i64 a0_0):=(blk_cell BK116.out 0).trans rfl
              have hcz41_1 : wc.cell? ⟨gb116,1,none⟩ = some (.string a0_1):=(blk_cell BK116.out 1).trans rfl
              have hcz41_2 : wc.cell? ⟨gb116,2,none⟩ = some (.string a0_2):=(blk_cell BK116.out 2).trans rfl
              have hcz41_3 : wc.cell? ⟨gb116,3,none⟩ = some (.string a0_3):=(blk_cell BK116.out 3).trans rfl
              have hfz41_0:=blk_frozen BK116.out 0
              have hfz41_1:=blk_frozen BK116.out 1
              have hfz41_2:=blk_frozen BK116.out 2
              have hfz41_3:=blk_frozen BK116.out 3
              go_wp2_with (first | (go_at_call 69;(with_reducible refine (metrolabref53_named.calls kj7 a0_1 false t117 _ A12.out).mono ?_);rintro e w' ⟨rfl,⟨nd,rfl⟩⟩;(try first | exact ⟨rfl,_,World.drewN_drewN _ _ _⟩ | exact ⟨rfl,_,Eq.trans (World.drewN_drewN _ _ _) (congrArg (World.drewN _) (Nat.add_assoc _ _ _))⟩)) | (go_at_call 69;(with_reducible refine (metrolabref53_named.calls kj7 a0_2 false t118 _ A14.out).mono ?_);rintro e w' ⟨rfl,⟨nd,rfl⟩⟩;(try first | exact ⟨rfl,_,World.drewN_drewN _ _ _⟩ | exact ⟨rfl,_,Eq.trans (World.drewN_drewN _ _ _) (congrArg (World.drewN _) (Nat.add_assoc _ _ _))⟩)) | (go_at_call 69;(with_reducible refine (metrolabref53_named.calls kj7 a0_3 true t119 _ A16.out).mono ?_);rintro e w' ⟨rfl,⟨nd,rfl⟩⟩;(try first | exact ⟨rfl,_,World.drewN_drewN _ _ _⟩ | exact ⟨rfl,_,Eq.trans (World.drewN_drewN _ _ _) (congrArg (World.drewN _) (Nat.add_assoc _ _ _))⟩)))
              repeat (go_quiet (first | (go_at_call 69;(with_reducible refine (metrolabref53_named.calls kj7 a0_1 false t117 _ A12.out).mono ?_);rintro e w' ⟨rfl,⟨nd,rfl⟩⟩;(try first | exact ⟨rfl,_,World.drewN_drewN _ _ _⟩ | exact ⟨rfl,_,Eq.trans (World.drewN_drewN _ _ _) (congrArg (World.drewN _) (Nat.add_assoc _ _ _))⟩)) | (go_at_call 69;(with_reducible refine (metrolabref53_named.calls kj7 a0_2 false t118 _ A14.out).mono ?_);rintro e w' ⟨rfl,⟨nd,rfl⟩⟩;(try first | exact ⟨rfl,_,World.drewN_drewN _ _ _⟩ | exact ⟨rfl,_,Eq.trans (World.drewN_drewN _ _ _) (congrArg (World.drewN _) (Nat.add_assoc _ _ _))⟩)) | (go_at_call 69;(with_reducible refine (metrolabref53_named.calls kj7 a0_3 true t119 _ A16.out).mono ?_);rintro e w' ⟨rfl,⟨nd,rfl⟩⟩;(try first | exact ⟨rfl,_,World.drewN_drewN _ _ _⟩ | exact ⟨rfl,_,Eq.trans (World.drewN_drewN _ _ _) (congrArg (World.drewN _) (Nat.add_assoc _ _ _))⟩)));try go_wp2_with (first | (go_at_call 69;(with_reducible refine (metrolabref53_named.calls kj7 a0_1 false t117 _ A12.out).mono ?_);rintro e w' ⟨rfl,⟨nd,rfl⟩⟩;(try first | exact ⟨rfl,_,World.drewN_drewN _ _ _⟩ | exact ⟨rfl,_,Eq.trans (World.drewN_drewN _ _ _) (congrArg (World.drewN _) (Nat.add_assoc _ _ _))⟩)) | (go_at_call 69;(with_reducible refine (metrolabref53_named.calls kj7 a0_2 false t118 _ A14.out).mono ?_);rintro e w' ⟨rfl,⟨nd,rfl⟩⟩;(try first | exact ⟨rfl,_,World.drewN_drewN _ _ _⟩ | exact ⟨rfl,_,Eq.trans (World.drewN_drewN _ _ _) (congrArg (World.drewN _) (Nat.add_assoc _ _ _))⟩)) | (go_at_call 69;(with_reducible refine (metrolabref53_named.calls kj7 a0_3 true t119 _ A16.out).mono ?_);rintro e w' ⟨rfl,⟨nd,rfl⟩⟩;(try first | exact ⟨rfl,_,World.drewN_drewN _ _ _⟩ | exact ⟨rfl,_,Eq.trans (World.drewN_drewN _ _ _) (congrArg (World.drewN _) (Nat.add_assoc _ _ _))⟩))))
              go_ret
              exact ⟨by first | rfl | (simp [errW_none,errW_some] <;> rfl) | (simp [*,errW_none,errW_some] <;> rfl),by repeat (first | (with_reducible first | exact HB.out | apply below_alloc | apply pw_below_drewN | apply below_drew1 | refine below_set ?_ GE116.out) | exact HB.out)⟩
             ·replace c40:=Bool.eq_false_iff.mpr c40
              subst c40
              have H1 : (if a0_3.toList = ([] : List UInt8) then (some 0) else (some 3)) = some r:=by rw [if_neg (show ¬ (false = true) by decide)] at H;exact H
              clear H
              have H:=H1
              clear H1
              by_cases c42 : a0_3.toList = ([] : List UInt8)
              ·rw [if_pos c42] at H
               have c42b0 : (a0_3.toList == ([] : List UInt8)) = true:=beq_iff_eq.mpr c42
               have c42b1 : (a0_3.toList != ([] : List UInt8)) = false:=bne_eq_false_iff_eq.mpr c42
               clear c42
               obtain rfl:=Option.some.inj H
               have hcz43_0 : wc.cell? ⟨gb116,0,none⟩ = some (.int .i64 a0_0):=(blk_cell BK116.out 0).trans rfl
               have hcz43_1 : wc.cell? ⟨gb116,1,none⟩ = some (.string a0_1):=(blk_cell BK116.out 1).trans rfl
               have hcz43_2 : wc.cell? ⟨gb116,2,none⟩ = some (.string a0_2):=(blk_cell BK116.out 2).trans rfl
               have hcz43_3 : wc.cell? ⟨gb116,3,none⟩ = some (.string a0_3):=(blk_cell BK116.out 3).trans rfl
               have hfz43_0:=blk_frozen BK116.out 0
               have hfz43_1:=blk_frozen BK116.out 1
               have hfz43_2:=blk_frozen BK116.out 2
               have hfz43_3:=blk_frozen BK116.out 3
               go_wp2_with (first | (go_at_call 69;(with_reducible refine (metrolabref53_named.calls kj7 a0_1 false t117 _ A12.out).mono ?_);rintro e w' ⟨rfl,⟨nd,rfl⟩⟩;(try first | exact ⟨rfl,_,World.drewN_drewN _ _ _⟩ | exact ⟨rfl,_,Eq.trans (World.drewN_drewN _ _ _) (congrArg (World.drewN _) (Nat.add_assoc _ _ _))⟩)) | (go_at_call 69;(with_reducible refine (metrolabref53_named.calls kj7 a0_2 false t118 _ A14.out).mono ?_);rintro e w' ⟨rfl,⟨nd,rfl⟩⟩;(try first | exact ⟨rfl,_,World.drewN_drewN _ _ _⟩ | exact ⟨rfl,_,Eq.trans (World.drewN_drewN _ _ _) (congrArg (World.drewN _) (Nat.add_assoc _ _ _))⟩)) | (go_at_call 69;(with_reducible refine (metrolabref53_named.calls kj7 a0_3 false t119 _ A16.out).mono ?_);rintro e w' ⟨rfl,⟨nd,rfl⟩⟩;(try first | exact ⟨rfl,_,World.drewN_drewN _ _ _⟩ | exact ⟨rfl,_,Eq.trans (World.drewN_drewN _ _ _) (congrArg (World.drewN _) (Nat.add_assoc _ _ _))⟩)))
               repeat (go_quiet (first | (go_at_call 69;(with_reducible refine (metrolabref53_named.calls kj7 a0_1 false t117 _ A12.out).mono ?_);rintro e w' ⟨rfl,⟨nd,rfl⟩⟩;(try first | exact ⟨rfl,_,World.drewN_drewN _ _ _⟩ | exact ⟨rfl,_,Eq.trans (World.drewN_drewN _ _ _) (congrArg (World.drewN _) (Nat.add_assoc _ _ _))⟩)) | (go_at_call 69;(with_reducible refine (metrolabref53_named.calls kj7 a0_2 false t118 _ A14.out).mono ?_);rintro e w' ⟨rfl,⟨nd,rfl⟩⟩;(try first | exact ⟨rfl,_,World.drewN_drewN _ _ _⟩ | exact ⟨rfl,_,Eq.trans (World.drewN_drewN _ _ _) (congrArg (World.drewN _) (Nat.add_assoc _ _ _))⟩)) | (go_at_call 69;(with_reducible refine (metrolabref53_named.calls kj7 a0_3 false t119 _ A16.out).mono ?_);rintro e w' ⟨rfl,⟨nd,rfl⟩⟩;(try first | exact ⟨rfl,_,World.drewN_drewN _ _ _⟩ | exact ⟨rfl,_,Eq.trans (World.drewN_drewN _ _ _) (congrArg (World.drewN _) (Nat.add_assoc _ _ _))⟩)));try go_wp2_with (first | (go_at_call 69;(with_reducible refine (metrolabref53_named.calls kj7 a0_1 false t117 _ A12.out).mono ?_);rintro e w' ⟨rfl,⟨nd,rfl⟩⟩;(try first | exact ⟨rfl,_,World.drewN_drewN _ _ _⟩ | exact ⟨rfl,_,Eq.trans (World.drewN_drewN _ _ _) (congrArg (World.drewN _) (Nat.add_assoc _ _ _))⟩)) | (go_at_call 69;(with_reducible refine (metrolabref53_named.calls kj7 a0_2 false t118 _ A14.out).mono ?_);rintro e w' ⟨rfl,⟨nd,rfl⟩⟩;(try first | exact ⟨rfl,_,World.drewN_drewN _ _ _⟩ | exact ⟨rfl,_,Eq.trans (World.drewN_drewN _ _ _) (congrArg (World.drewN _) (Nat.add_assoc _ _ _))⟩)) | (go_at_call 69;(with_reducible refine (metrolabref53_named.calls kj7 a0_3 false t119 _ A16.out).mono ?_);rintro e w' ⟨rfl,⟨nd,rfl⟩⟩;(try first | exact ⟨rfl,_,World.drewN_drewN _ _ _⟩ | exact ⟨rfl,_,Eq.trans (World.drewN_drewN _ _ _) (congrArg (World.drewN _) (Nat.add_assoc _ _ _))⟩))))
               go_ret
               exact ⟨by first | rfl | (simp [errW_none,errW_some] <;> rfl) | (simp [*,errW_none,errW_some] <;> rfl),by repeat (first | (with_reducible first | exact HB.out | apply below_alloc | apply pw_below_drewN | apply below_drew1 | refine below_set ?_ GE116.out) | exact HB.out)⟩
              ·rw [if_neg c42] at H
               have c42b0 : (a0_3.toList == ([] : List UInt8)) = false:=beq_eq_false_iff_ne.mpr c42
               have c42b1 : (a0_3.toList != ([] : List UInt8)) = true:=bne_iff_ne.mpr c42
               obtain rfl:=Option.some.inj H
               have hcz44_0 : wc.cell? ⟨gb116,0,none⟩ = some (.int .i64 a0_0):=(blk_cell BK116.out 0).trans rfl
               have hcz44_1 : wc.cell? ⟨gb116,1,none⟩ = some (.string a0_1):=(blk_cell BK116.out 1).trans rfl
               have hcz44_2 : wc.cell? ⟨gb116,2,none⟩ = some (.string a0_2):=(blk_cell BK116.out 2).trans rfl
               have hcz44_3 : wc.cell? ⟨gb116,3,none⟩ = some (.string a0_3):=(blk_cell BK116.out 3).trans rfl
               have hfz44_0:=blk_frozen BK116.out 0
               have hfz44_1:=blk_frozen BK116.out 1
               have hfz44_2:=blk_frozen BK116.out 2
               have hfz44_3:=blk_frozen BK116.out 3
               go_wp2_with (first | (go_at_call 69;(with_reducible refine (metrolabref53_named.calls kj7 a0_1 false t117 _ A12.out).mono ?_);rintro e w' ⟨rfl,⟨nd,rfl⟩⟩;(try first | exact ⟨rfl,_,World.drewN_drewN _ _ _⟩ | exact ⟨rfl,_,Eq.trans (World.drewN_drewN _ _ _) (congrArg (World.drewN _) (Nat.add_assoc _ _ _))⟩)) | (go_at_call 69;(with_reducible refine (metrolabref53_named.calls kj7 a0_2 false t118 _ A14.out).mono ?_);rintro e w' ⟨rfl,⟨nd,rfl⟩⟩;(try first | exact ⟨rfl,_,World.drewN_drewN _ _ _⟩ | exact ⟨rfl,_,Eq.trans (World.drewN_drewN _ _ _) (congrArg (World.drewN _) (Nat.add_assoc _ _ _))⟩)) | (go_at_call 69;(with_reducible refine (metrolabref53_named.calls kj7 a0_3 false t119 _ A16.out).mono ?_);rintro e w' ⟨rfl,⟨nd,rfl⟩⟩;(try first | exact ⟨rfl,_,World.drewN_drewN _ _ _⟩ | exact ⟨rfl,_,Eq.trans (World.drewN_drewN _ _ _) (congrArg (World.drewN _) (Nat.add_assoc _ _ _))⟩)))
               repeat (go_quiet (first | (go_at_call 69;(with_reducible refine (metrolabref53_named.calls kj7 a0_1 false t117 _ A12.out).mono ?_);rintro e w' ⟨rfl,⟨nd,rfl⟩⟩;(try first | exact ⟨rfl,_,World.drewN_drewN _ _ _⟩ | exact ⟨rfl,_,Eq.trans (World.drewN_drewN _ _ _) (congrArg (World.drewN _) (Nat.add_assoc _ _ _))⟩)) | (go_at_call 69;(with_reducible refine (metrolabref53_named.calls kj7 a0_2 false t118 _ A14.out).mono ?_);rintro e w' ⟨rfl,⟨nd,rfl⟩⟩;(try first | exact ⟨rfl,_,World.drewN_drewN _ _ _⟩ | exact ⟨rfl,_,Eq.trans (World.drewN_drewN _ _ _) (congrArg (World.drewN _) (Nat.add_assoc _ _ _))⟩)) | (go_at_call 69;(with_reducible refine (metrolabref53_named.calls kj7 a0_3 false t119 _ A16.out).mono ?_);rintro e w' ⟨rfl,⟨nd,rfl⟩⟩;(try first | exact ⟨rfl,_,World.drewN_drewN _ _ _⟩ | exact ⟨rfl,_,Eq.trans (World.drewN_drewN _ _ _) (congrArg (World.drewN _) (Nat.add_assoc _ _ _))⟩)));try go_wp2_with (first | (go_at_call 69;(with_reducible refine (metrolabref53_named.calls kj7 a0_1 false t117 _ A12.out).mono ?_);rintro e w' ⟨rfl,⟨nd,rfl⟩⟩;(try first | exact ⟨rfl,_,World.drewN_drewN _ _ _⟩ | exact ⟨rfl,_,Eq.trans (World.drewN_drewN _ _ _) (congrArg (World.drewN _) (Nat.add_assoc _ _ _))⟩)) | (go_at_call 69;(with_reducible refine (metrolabref53_named.calls kj7 a0_2 false t118 _ A14.out).mono ?_);rintro e w' ⟨rfl,⟨nd,rfl⟩⟩;(try first | exact ⟨rfl,_,World.drewN_drewN _ _ _⟩ | exact ⟨rfl,_,Eq.trans (World.drewN_drewN _ _ _) (congrArg (World.drewN _) (Nat.add_assoc _ _ _))⟩)) | (go_at_call 69;(with_reducible refine (metrolabref53_named.calls kj7 a0_3 false t119 _ A16.out).mono ?_);rintro e w' ⟨rfl,⟨nd,rfl⟩⟩;(try first | exact ⟨rfl,_,World.drewN_drewN _ _ _⟩ | exact ⟨rfl,_,Eq.trans (World.drewN_drewN _ _ _) (congrArg (World.drewN _) (Nat.add_assoc _ _ _))⟩))))
               go_ret
               exact ⟨by first | rfl | (simp [errW_none,errW_some] <;> rfl) | (simp [*,errW_none,errW_some] <;> rfl),by repeat (first | (with_reducible first | exact HB.out | apply below_alloc | apply pw_below_drewN | apply below_drew1 | refine below_set ?_ GE116.out) | exact HB.out)⟩
            ·rw [if_neg c39] at H
             have c39b0 : (a0_2.toList == ([] : List UInt8)) = false:=beq_eq_false_iff_ne.mpr c39
             have c39b1 : (a0_2.toList != ([] : List UInt8)) = true:=bne_iff_ne.mpr c39
             obtain rfl:=Option.some.inj H
             have hcz45_0 : wc.cell? ⟨gb116,0,none⟩ = some (.int .i64 a0_0):=(blk_cell BK116.out 0).trans rfl
             have hcz45_1 : wc.cell? ⟨gb116,1,none⟩ = some (.string a0_1):=(blk_cell BK116.out 1).trans rfl
             have hcz45_2 : wc.cell? ⟨gb116,2,none⟩ = some (.string a0_2):=(blk_cell BK116.out 2).trans rfl
             have hcz45_3 : wc.cell? ⟨gb116,3,none⟩ = some (.string a0_3):=(blk_cell BK116.out 3).trans rfl
             have hfz45_0:=blk_frozen BK116.out 0
             have hfz45_1:=blk_frozen BK116.out 1
             have hfz45_2:=blk_frozen BK116.out 2
             have hfz45_3:=blk_frozen BK116.out 3
             go_wp2_with (first | (go_at_call 69;(with_reducible refine (metrolabref53_named.calls kj7 a0_1 false t117 _ A12.out).mono ?_);rintro e w' ⟨rfl,⟨nd,rfl⟩⟩;(try first | exact ⟨rfl,_,World.drewN_drewN _ _ _⟩ | exact ⟨rfl,_,Eq.trans (World.drewN_drewN _ _ _) (congrArg (World.drewN _) (Nat.add_assoc _ _ _))⟩)) | (go_at_call 69;(with_reducible refine (metrolabref53_named.calls kj7 a0_2 false t118 _ A14.out).mono ?_);rintro e w' ⟨rfl,⟨nd,rfl⟩⟩;(try first | exact ⟨rfl,_,World.drewN_drewN _ _ _⟩ | exact ⟨rfl,_,Eq.trans (World.drewN_drewN _ _ _) (congrArg (World.drewN _) (Nat.add_assoc _ _ _))⟩)) | (go_at_call 69;(with_reducible refine (metrolabref53_named.calls kj7 a0_3 x5_7 t119 _ A16.out).mono ?_);rintro e w' ⟨rfl,⟨nd,rfl⟩⟩;(try first | exact ⟨rfl,_,World.drewN_drewN _ _ _⟩ | exact ⟨rfl,_,Eq.trans (World.drewN_drewN _ _ _) (congrArg (World.drewN _) (Nat.add_assoc _ _ _))⟩)))
             repeat (go_quiet (first | (go_at_call 69;(with_reducible refine (metrolabref53_named.calls kj7 a0_1 false t117 _ A12.out).mono ?_);rintro e w' ⟨rfl,⟨nd,rfl⟩⟩;(try first | exact ⟨rfl,_,World.drewN_drewN _ _ _⟩ | exact ⟨rfl,_,Eq.trans (World.drewN_drewN _ _ _) (congrArg (World.drewN _) (Nat.add_assoc _ _ _))⟩)) | (go_at_call 69;(with_reducible refine (metrolabref53_named.calls kj7 a0_2 false t118 _ A14.out).mono ?_);rintro e w' ⟨rfl,⟨nd,rfl⟩⟩;(try first | exact ⟨rfl,_,World.drewN_drewN _ _ _⟩ | exact ⟨rfl,_,Eq.trans (World.drewN_drewN _ _ _) (congrArg (World.drewN _) (Nat.add_assoc _ _ _))⟩)) | (go_at_call 69;(with_reducible refine (metrolabref53_named.calls kj7 a0_3 x5_7 t119 _ A16.out).mono ?_);rintro e w' ⟨rfl,⟨nd,rfl⟩⟩;(try first | exact ⟨rfl,_,World.drewN_drewN _ _ _⟩ | exact ⟨rfl,_,Eq.trans (World.drewN_drewN _ _ _) (congrArg (World.drewN _) (Nat.add_assoc _ _ _))⟩)));try go_wp2_with (first | (go_at_call 69;(with_reducible refine (metrolabref53_named.calls kj7 a0_1 false t117 _ A12.out).mono ?_);rintro e w' ⟨rfl,⟨nd,rfl⟩⟩;(try first | exact ⟨rfl,_,World.drewN_drewN _ _ _⟩ | exact ⟨rfl,_,Eq.trans (World.drewN_drewN _ _ _) (congrArg (World.drewN _) (Nat.add_assoc _ _ _))⟩)) | (go_at_call 69;(with_reducible refine (metrolabref53_named.calls kj7 a0_2 false t118 _ A14.out).mono ?_);rintro e w' ⟨rfl,⟨nd,rfl⟩⟩;(try first | exact ⟨rfl,_,World.drewN_drewN _ _ _⟩ | exact ⟨rfl,_,Eq.trans (World.drewN_drewN _ _ _) (congrArg (World.drewN _) (Nat.add_assoc _ _ _))⟩)) | (go_at_call 69;(with_reducible refine (metrolabref53_named.calls kj7 a0_3 x5_7 t119 _ A16.out).mono ?_);rintro e w' ⟨rfl,⟨nd,rfl⟩⟩;(try first | exact ⟨rfl,_,World.drewN_drewN _ _ _⟩ | exact ⟨rfl,_,Eq.trans (World.drewN_drewN _ _ _) (congrArg (World.drewN _) (Nat.add_assoc _ _ _))⟩))))
             go_ret
             exact ⟨by first | rfl | (simp [errW_none,errW_some] <;> rfl) | (simp [*,errW_none,errW_some] <;> rfl),by repeat (first | (with_reducible first | exact HB.out | apply below_alloc | apply pw_below_drewN | apply below_drew1 | refine below_set ?_ GE116.out) | exact HB.out)⟩
          ·rw [if_neg c32] at H
           have c32b0 : (a0_1.toList == ([] : List UInt8)) = false:=beq_eq_false_iff_ne.mpr c32
           have c32b1 : (a0_1.toList != ([] : List UInt8)) = true:=bne_iff_ne.mpr c32
           obtain rfl:=Option.some.inj H
           have hcz46_0 : wc.cell? ⟨gb116,0,none⟩ = some (.int .i64 a0_0):=(blk_cell BK116.out 0).trans rfl
           have hcz46_1 : wc.cell? ⟨gb116,1,none⟩ = some (.string a0_1):=(blk_cell BK116.out 1).trans rfl
           have hcz46_2 : wc.cell? ⟨gb116,2,none⟩ = some (.string a0_2):=(blk_cell BK116.out 2).trans rfl
           have hcz46_3 : wc.cell? ⟨gb116,3,none⟩ = some (.string a0_3):=(blk_cell BK116.out 3).trans rfl
           have hfz46_0:=blk_frozen BK116.out 0
           have hfz46_1:=blk_frozen BK116.out 1
           have hfz46_2:=blk_frozen BK116.out 2
           have hfz46_3:=blk_frozen BK116.out 3
           go_wp2_with (first | (go_at_call 69;(with_reducible refine (metrolabref53_named.calls kj7 a0_1 false t117 _ A12.out).mono ?_);rintro e w' ⟨rfl,⟨nd,rfl⟩⟩;(try first | exact ⟨rfl,_,World.drewN_drewN _ _ _⟩ | exact ⟨rfl,_,Eq.trans (World.drewN_drewN _ _ _) (congrArg (World.drewN _) (Nat.add_assoc _ _ _))⟩)) | (go_at_call 69;(with_reducible refine (metrolabref53_named.calls kj7 a0_2 x4_7 t118 _ A14.out).mono ?_);rintro e w' ⟨rfl,⟨nd,rfl⟩⟩;(try first | exact ⟨rfl,_,World.drewN_drewN _ _ _⟩ | exact ⟨rfl,_,Eq.trans (World.drewN_drewN _ _ _) (congrArg (World.drewN _) (Nat.add_assoc _ _ _))⟩)) | (go_at_call 69;(with_reducible refine (metrolabref53_named.calls kj7 a0_3 x5_7 t119 _ A16.out).mono ?_);rintro e w' ⟨rfl,⟨nd,rfl⟩⟩;(try first | exact ⟨rfl,_,World.drewN_drewN _ _ _⟩ | exact ⟨rfl,_,Eq.trans (World.drewN_drewN _ _ _) (congrArg (World.drewN _) (Nat.add_assoc _ _ _))⟩)))
           repeat (go_quiet (first | (go_at_call 69;(with_reducible refine (metrolabref53_named.calls kj7 a0_1 false t117 _ A12.out).mono ?_);rintro e w' ⟨rfl,⟨nd,rfl⟩⟩;(try first | exact ⟨rfl,_,World.drewN_drewN _ _ _⟩ | exact ⟨rfl,_,Eq.trans (World.drewN_drewN _ _ _) (congrArg (World.drewN _) (Nat.add_assoc _ _ _))⟩)) | (go_at_call 69;(with_reducible refine (metrolabref53_named.calls kj7 a0_2 x4_7 t118 _ A14.out).mono ?_);rintro e w' ⟨rfl,⟨nd,rfl⟩⟩;(try first | exact ⟨rfl,_,World.drewN_drewN _ _ _⟩ | exact ⟨rfl,_,Eq.trans (World.drewN_drewN _ _ _) (congrArg (World.drewN _) (Nat.add_assoc _ _ _))⟩)) | (go_at_call 69;(with_reducible refine (metrolabref53_named.calls kj7 a0_3 x5_7 t119 _ A16.out).mono ?_);rintro e w' ⟨rfl,⟨nd,rfl⟩⟩;(try first | exact ⟨rfl,_,World.drewN_drewN _ _ _⟩ | exact ⟨rfl,_,Eq.trans (World.drewN_drewN _ _ _) (congrArg (World.drewN _) (Nat.add_assoc _ _ _))⟩)));try go_wp2_with (first | (go_at_call 69;(with_reducible refine (metrolabref53_named.calls kj7 a0_1 false t117 _ A12.out).mono ?_);rintro e w' ⟨rfl,⟨nd,rfl⟩⟩;(try first | exact ⟨rfl,_,World.drewN_drewN _ _ _⟩ | exact ⟨rfl,_,Eq.trans (World.drewN_drewN _ _ _) (congrArg (World.drewN _) (Nat.add_assoc _ _ _))⟩)) | (go_at_call 69;(with_reducible refine (metrolabref53_named.calls kj7 a0_2 x4_7 t118 _ A14.out).mono ?_);rintro e w' ⟨rfl,⟨nd,rfl⟩⟩;(try first | exact ⟨rfl,_,World.drewN_drewN _ _ _⟩ | exact ⟨rfl,_,Eq.trans (World.drewN_drewN _ _ _) (congrArg (World.drewN _) (Nat.add_assoc _ _ _))⟩)) | (go_at_call 69;(with_reducible refine (metrolabref53_named.calls kj7 a0_3 x5_7 t119 _ A16.out).mono ?_);rintro e w' ⟨rfl,⟨nd,rfl⟩⟩;(try first | exact ⟨rfl,_,World.drewN_drewN _ _ _⟩ | exact ⟨rfl,_,Eq.trans (World.drewN_drewN _ _ _) (congrArg (World.drewN _) (Nat.add_assoc _ _ _))⟩))))
           go_ret
           exact ⟨by first | rfl | (simp [errW_none,errW_some] <;> rfl) | (simp [*,errW_none,errW_some] <;> rfl),by repeat (first | (with_reducible first | exact HB.out | apply below_alloc | apply pw_below_drewN | apply below_drew1 | refine below_set ?_ GE116.out) | exact HB.out)⟩
        ·rw [if_neg c17] at H
         have c17b0 : (t119 == 0) = false:=beq_eq_false_iff_ne.mpr c17
         have c17b1 : (t119 != 0) = true:=bne_iff_ne.mpr c17
         obtain rfl:=Option.some.inj H
         have hcz47_0 : wc.cell? ⟨gb116,0,none⟩ = some (.int .i64 a0_0):=(blk_cell BK116.out 0).trans rfl
         have hcz47_1 : wc.cell? ⟨gb116,1,none⟩ = some (.string a0_1):=(blk_cell BK116.out 1).trans rfl
         have hcz47_2 : wc.cell? ⟨gb116,2,none⟩ = some (.string a0_2):=(blk_cell BK116.out 2).trans rfl
         have hcz47_3 : wc.cell? ⟨gb116,3,none⟩ = some (.string a0_3):=(blk_cell BK116.out 3).trans rfl
         have hfz47_0:=blk_frozen BK116.out 0
         have hfz47_1:=blk_frozen BK116.out 1
         have hfz47_2:=blk_frozen BK116.out 2
         have hfz47_3:=blk_frozen BK116.out 3
         go_wp2_with (first | (go_at_call 69;(with_reducible refine (metrolabref53_named.calls kj7 a0_1 x3_7 t117 _ A12.out).mono ?_);rintro e w' ⟨rfl,⟨nd,rfl⟩⟩;(try first | exact ⟨rfl,_,World.drewN_drewN _ _ _⟩ | exact ⟨rfl,_,Eq.trans (World.drewN_drewN _ _ _) (congrArg (World.drewN _) (Nat.add_assoc _ _ _))⟩)) | (go_at_call 69;(with_reducible refine (metrolabref53_named.calls kj7 a0_2 x4_7 t118 _ A14.out).mono ?_);rintro e w' ⟨rfl,⟨nd,rfl⟩⟩;(try first | exact ⟨rfl,_,World.drewN_drewN _ _ _⟩ | exact ⟨rfl,_,Eq.trans (World.drewN_drewN _ _ _) (congrArg (World.drewN _) (Nat.add_assoc _ _ _))⟩)) | (go_at_call 69;(with_reducible refine (metrolabref53_named.calls kj7 a0_3 x5_7 t119 _ A16.out).mono ?_);rintro e w' ⟨rfl,⟨nd,rfl⟩⟩;(try first | exact ⟨rfl,_,World.drewN_drewN _ _ _⟩ | exact ⟨rfl,_,Eq.trans (World.drewN_drewN _ _ _) (congrArg (World.drewN _) (Nat.add_assoc _ _ _))⟩)))
         repeat (go_quiet (first | (go_at_call 69;(with_reducible refine (metrolabref53_named.calls kj7 a0_1 x3_7 t117 _ A12.out).mono ?_);rintro e w' ⟨rfl,⟨nd,rfl⟩⟩;(try first | exact ⟨rfl,_,World.drewN_drewN _ _ _⟩ | exact ⟨rfl,_,Eq.trans (World.drewN_drewN _ _ _) (congrArg (World.drewN _) (Nat.add_assoc _ _ _))⟩)) | (go_at_call 69;(with_reducible refine (metrolabref53_named.calls kj7 a0_2 x4_7 t118 _ A14.out).mono ?_);rintro e w' ⟨rfl,⟨nd,rfl⟩⟩;(try first | exact ⟨rfl,_,World.drewN_drewN _ _ _⟩ | exact ⟨rfl,_,Eq.trans (World.drewN_drewN _ _ _) (congrArg (World.drewN _) (Nat.add_assoc _ _ _))⟩)) | (go_at_call 69;(with_reducible refine (metrolabref53_named.calls kj7 a0_3 x5_7 t119 _ A16.out).mono ?_);rintro e w' ⟨rfl,⟨nd,rfl⟩⟩;(try first | exact ⟨rfl,_,World.drewN_drewN _ _ _⟩ | exact ⟨rfl,_,Eq.trans (World.drewN_drewN _ _ _) (congrArg (World.drewN _) (Nat.add_assoc _ _ _))⟩)));try go_wp2_with (first | (go_at_call 69;(with_reducible refine (metrolabref53_named.calls kj7 a0_1 x3_7 t117 _ A12.out).mono ?_);rintro e w' ⟨rfl,⟨nd,rfl⟩⟩;(try first | exact ⟨rfl,_,World.drewN_drewN _ _ _⟩ | exact ⟨rfl,_,Eq.trans (World.drewN_drewN _ _ _) (congrArg (World.drewN _) (Nat.add_assoc _ _ _))⟩)) | (go_at_call 69;(with_reducible refine (metrolabref53_named.calls kj7 a0_2 x4_7 t118 _ A14.out).mono ?_);rintro e w' ⟨rfl,⟨nd,rfl⟩⟩;(try first | exact ⟨rfl,_,World.drewN_drewN _ _ _⟩ | exact ⟨rfl,_,Eq.trans (World.drewN_drewN _ _ _) (congrArg (World.drewN _) (Nat.add_assoc _ _ _))⟩)) | (go_at_call 69;(with_reducible refine (metrolabref53_named.calls kj7 a0_3 x5_7 t119 _ A16.out).mono ?_);rintro e w' ⟨rfl,⟨nd,rfl⟩⟩;(try first | exact ⟨rfl,_,World.drewN_drewN _ _ _⟩ | exact ⟨rfl,_,Eq.trans (World.drewN_drewN _ _ _) (congrArg (World.drewN _) (Nat.add_assoc _ _ _))⟩))))
         go_ret
         exact ⟨by first | rfl | (simp [errW_none,errW_some] <;> rfl) | (simp [*,errW_none,errW_some] <;> rfl),by repeat (first | (with_reducible first | exact HB.out | apply below_alloc | apply pw_below_drewN | apply below_drew1 | refine below_set ?_ GE116.out) | exact HB.out)⟩
       ·rw [if_neg c15] at H
        have c15b0 : (t118 == 0) = false:=beq_eq_false_iff_ne.mpr c15
        have c15b1 : (t118 != 0) = true:=bne_iff_ne.mpr c15
        obtain rfl:=Option.some.inj H
        have hcz48_0 : wc.cell? ⟨gb116,0,none⟩ = some (.int .i64 a0_0):=(blk_cell BK116.out 0).trans rfl
        have hcz48_1 : wc.cell? ⟨gb116,1,none⟩ = some (.string a0_1):=(blk_cell BK116.out 1).trans rfl
        have hcz48_2 : wc.cell? ⟨gb116,2,none⟩ = some (.string a0_2):=(blk_cell BK116.out 2).trans rfl
        have hcz48_3 : wc.cell? ⟨gb116,3,none⟩ = some (.string a0_3):=(blk_cell BK116.out 3).trans rfl
        have hfz48_0:=blk_frozen BK116.out 0
        have hfz48_1:=blk_frozen BK116.out 1
        have hfz48_2:=blk_frozen BK116.out 2
        have hfz48_3:=blk_frozen BK116.out 3
        go_wp2_with (first | (go_at_call 69;(with_reducible refine (metrolabref53_named.calls kj7 a0_1 x3_7 t117 _ A12.out).mono ?_);rintro e w' ⟨rfl,⟨nd,rfl⟩⟩;(try first | exact ⟨rfl,_,World.drewN_drewN _ _ _⟩ | exact ⟨rfl,_,Eq.trans (World.drewN_drewN _ _ _) (congrArg (World.drewN _) (Nat.add_assoc _ _ _))⟩)) | (go_at_call 69;(with_reducible refine (metrolabref53_named.calls kj7 a0_2 x4_7 t118 _ A14.out).mono ?_);rintro e w' ⟨rfl,⟨nd,rfl⟩⟩;(try first | exact ⟨rfl,_,World.drewN_drewN _ _ _⟩ | exact ⟨rfl,_,Eq.trans (World.drewN_drewN _ _ _) (congrArg (World.drewN _) (Nat.add_assoc _ _ _))⟩)))
        repeat (go_quiet (first | (go_at_call 69;(with_reducible refine (metrolabref53_named.calls kj7 a0_1 x3_7 t117 _ A12.out).mono ?_);rintro e w' ⟨rfl,⟨nd,rfl⟩⟩;(try first | exact ⟨rfl,_,World.drewN_drewN _ _ _⟩ | exact ⟨rfl,_,Eq.trans (World.drewN_drewN _ _ _) (congrArg (World.drewN _) (Nat.add_assoc _ _ _))⟩)) | (go_at_call 69;(with_reducible refine (metrolabref53_named.calls kj7 a0_2 x4_7 t118 _ A14.out).mono ?_);rintro e w' ⟨rfl,⟨nd,rfl⟩⟩;(try first | exact ⟨rfl,_,World.drewN_drewN _ _ _⟩ | exact ⟨rfl,_,Eq.trans (World.drewN_drewN _ _ _) (congrArg (World.drewN _) (Nat.add_assoc _ _ _))⟩)));try go_wp2_with (first | (go_at_call 69;(with_reducible refine (metrolabref53_named.calls kj7 a0_1 x3_7 t117 _ A12.out).mono ?_);rintro e w' ⟨rfl,⟨nd,rfl⟩⟩;(try first | exact ⟨rfl,_,World.drewN_drewN _ _ _⟩ | exact ⟨rfl,_,Eq.trans (World.drewN_drewN _ _ _) (congrArg (World.drewN _) (Nat.add_assoc _ _ _))⟩)) | (go_at_call 69;(with_reducible refine (metrolabref53_named.calls kj7 a0_2 x4_7 t118 _ A14.out).mono ?_);rintro e w' ⟨rfl,⟨nd,rfl⟩⟩;(try first | exact ⟨rfl,_,World.drewN_drewN _ _ _⟩ | exact ⟨rfl,_,Eq.trans (World.drewN_drewN _ _ _) (congrArg (World.drewN _) (Nat.add_assoc _ _ _))⟩))))
        go_ret
        exact ⟨by first | rfl | (simp [errW_none,errW_some] <;> rfl) | (simp [*,errW_none,errW_some] <;> rfl),by repeat (first | (with_reducible first | exact HB.out | apply below_alloc | apply pw_below_drewN | apply below_drew1 | refine below_set ?_ GE116.out) | exact HB.out)⟩
      ·rw [if_neg c13] at H
       have c13b0 : (t117 == 0) = false:=beq_eq_false_iff_ne.mpr c13
       have c13b1 : (t117 != 0) = true:=bne_iff_ne.mpr c13
       obtain rfl:=Option.some.inj H
       have hcz49_0 : wc.cell? ⟨gb116,0,none⟩ = some (.int .i64 a0_0):=(blk_cell BK116.out 0).trans rfl
       have hcz49_1 : wc.cell? ⟨gb116,1,none⟩ = some (.string a0_1):=(blk_cell BK116.out 1).trans rfl
       have hcz49_2 : wc.cell? ⟨gb116,2,none⟩ = some (.string a0_2):=(blk_cell BK116.out 2).trans rfl
       have hcz49_3 : wc.cell? ⟨gb116,3,none⟩ = some (.string a0_3):=(blk_cell BK116.out 3).trans rfl
       have hfz49_0:=blk_frozen BK116.out 0
       have hfz49_1:=blk_frozen BK116.out 1
       have hfz49_2:=blk_frozen BK116.out 2
       have hfz49_3:=blk_frozen BK116.out 3
       go_wp2_with (first | (go_at_call 69;(with_reducible refine (metrolabref53_named.calls kj7 a0_1 x3_7 t117 _ A12.out).mono ?_);rintro e w' ⟨rfl,⟨nd,rfl⟩⟩;(try first | exact ⟨rfl,_,World.drewN_drewN _ _ _⟩ | exact ⟨rfl,_,Eq.trans (World.drewN_drewN _ _ _) (congrArg (World.drewN _) (Nat.add_assoc _ _ _))⟩)))
       repeat (go_quiet (first | (go_at_call 69;(with_reducible refine (metrolabref53_named.calls kj7 a0_1 x3_7 t117 _ A12.out).mono ?_);rintro e w' ⟨rfl,⟨nd,rfl⟩⟩;(try first | exact ⟨rfl,_,World.drewN_drewN _ _ _⟩ | exact ⟨rfl,_,Eq.trans (World.drewN_drewN _ _ _) (congrArg (World.drewN _) (Nat.add_assoc _ _ _))⟩)));try go_wp2_with (first | (go_at_call 69;(with_reducible refine (metrolabref53_named.calls kj7 a0_1 x3_7 t117 _ A12.out).mono ?_);rintro e w' ⟨rfl,⟨nd,rfl⟩⟩;(try first | exact ⟨rfl,_,World.drewN_drewN _ _ _⟩ | exact ⟨rfl,_,Eq.trans (World.drewN_drewN _ _ _) (congrArg (World.drewN _) (Nat.add_assoc _ _ _))⟩))))
       go_ret
       exact ⟨by first | rfl | (simp [errW_none,errW_some] <;> rfl) | (simp [*,errW_none,errW_some] <;> rfl),by repeat (first | (with_reducible first | exact HB.out | apply below_alloc | apply pw_below_drewN | apply below_drew1 | refine below_set ?_ GE116.out) | exact HB.out)⟩
end Go.Proofs.Ytnmmdeonkpfccaa.Pr
namespace Go.Proofs.Ytnmmdeonkpfccaa.Pr
open Go.RowKit Go.Proofs.YtnmmdeonkpfccaaW.PrintWords Go.Proofs.YtnmmdeonkpfccaaW.PrintLast Go.Proofs.YtnmmdeonkpfccaaW.PrintMore
attribute [local go_sem] max2_int min2_int max_two min_two max_three min_three max_four min_four
set_option linter.unusedVariables false
set_option linter.unusedSimpArgs false
def metrolabref53_Withdrawn.l0 : Nat → List (S67) → ByteArray → Int → Option (Bool)
 | 0,_,_,_ => none
 | k + 1,x0,x1,x5 => if x5 < (x0.length : Int) then (if 0 ≤ x5 then (if ((rd_T67 x0 x5).f0) = 3 then (if ((rd_T67 x0 x5).f2).toList = x1.toList then (some true) else (metrolabref53_Withdrawn.l0 k x0 x1 (wrap64 (x5 + 1)))) else (metrolabref53_Withdrawn.l0 k x0 x1 (wrap64 (x5 + 1)))) else (none)) else (some false)
def metrolabref53_Withdrawn.f (k : Nat) (l0 : List (S67)) (a1 : ByteArray) : Option (Bool):=metrolabref53_Withdrawn.l0 k l0 a1 0
set_option maxHeartbeats 8000000 in
set_option maxRecDepth 100000 in
theorem metrolabref53_Withdrawn.calls (k : Nat) (A0 : Option Addr) (c0 : Nat) (l0 : List (S67)) (a1 : ByteArray) (r : Bool) (w : World) (hr0 : Kd.C k67 w A0 l0.length l0) (hc0 : l0.length ≤ c0) (h : metrolabref53_Withdrawn.f k l0 a1 = some r) :
  Calls Try.prog 45 #[.slice A0 l0.length c0,.string a1] w fun e w' => e = .returned (.bool r) ∧ Drawn0 w w':=by
 have HR0:=Aside0.mk hr0
 have HC0:=Aside0.mk hc0
 clear hr0 hc0
 have H : (metrolabref53_Withdrawn.l0 k l0 a1 0) = some r:=h
 clear h
 have H':=Aside0.mk H
 clear H
 go_enter Try.func45,Try.ntmps45
 go_wp2
 go_loopg [5] k (fun kq v5 w' => ∃ (x5_1 : Int),v5 = .int .i64 x5_1 ∧ Aside0 (metrolabref53_Withdrawn.l0 kq l0 a1 x5_1 = some r) ∧ Aside0 (kq ≤ k) ∧ Drawn0 w w')
 case atStart => exact ⟨(0),(by first | rfl | (simp;done) | (simp [*];done)),H',⟨Nat.le_refl _⟩,by repeat (first | exact Drawn0.refl _ | apply Drawn0.step)⟩
 case round =>
  clear H'
  try clear p2
  obtain ⟨x5_1,rfl,HA,HK1,⟨m1,rfl⟩⟩:=hrel
  cases gk with
  | zero => exact absurd HA.out (by simp [metrolabref53_Withdrawn.l0])
  | succ k1 =>
   have H:=HA.out
   clear HA
   simp only [metrolabref53_Withdrawn.l0] at H
   by_cases c3 : x5_1 < (l0.length : Int)
   ·rw [if_pos c3] at H
    have c3b0 : decide (x5_1 < (l0.length : Int)) = true:=decide_eq_true c3
    clear c3
    by_cases c4 : 0 ≤ x5_1
    ·rw [if_pos c4] at H
     have c4b0 : decide (0 ≤ x5_1) = true:=decide_eq_true c4
     clear c4
     by_cases c5 : ((rd_T67 l0 x5_1).f0) = 3
     ·rw [if_pos c5] at H
      have c5b0 : (((rd_T67 l0 x5_1).f0) == 3) = true:=beq_iff_eq.mpr c5
      have c5b1 : (((rd_T67 l0 x5_1).f0) != 3) = false:=bne_eq_false_iff_eq.mpr c5
      clear c5
      by_cases c6 : ((rd_T67 l0 x5_1).f2).toList = a1.toList
      ·rw [if_pos c6] at H
       have c6b0 : (((rd_T67 l0 x5_1).f2).toList == a1.toList) = true:=beq_iff_eq.mpr c6
       have c6b1 : (((rd_T67 l0 x5_1).f2).toList != a1.toList) = false:=bne_eq_false_iff_eq.mpr c6
       clear c6
       obtain rfl:=Option.some.inj H
       have p120 : 0 ≤ (x5_1 : Int):=of_decide_eq_true (by first | (with_reducible assumption) | assumption)
       have q120 : x5_1 < (l0.length : Int):=of_decide_eq_true (by first | (with_reducible assumption) | assumption)
       obtain ⟨ad120,e120,hx120_0,hx120_1,hx120_2,hx120_3⟩:=at_T67 HR0.out x5_1 p120 q120
       cases e120
       replace p120:=eq_true p120
       replace q120:=eq_true q120
       have p121 : 0 ≤ (x5_1 : Int):=of_decide_eq_true (by first | (with_reducible assumption) | assumption)
       have q121 : x5_1 < (l0.length : Int):=of_decide_eq_true (by first | (with_reducible assumption) | assumption)
       obtain ⟨ad121,e121,hx121_0,hx121_1,hx121_2,hx121_3⟩:=at_T67 HR0.out x5_1 p121 q121
       obtain rfl : ad120 = ad121:=(by injection e121)
       replace p121:=eq_true p121
       replace q121:=eq_true q121
       go_wp2
       go_ret
       exact ⟨by first | rfl | (simp;done) | (simp [*];done),by repeat (first | exact Drawn0.refl _ | apply Drawn0.step)⟩
      ·rw [if_neg c6] at H
       have c6b0 : (((rd_T67 l0 x5_1).f2).toList == a1.toList) = false:=beq_eq_false_iff_ne.mpr c6
       have c6b1 : (((rd_T67 l0 x5_1).f2).toList != a1.toList) = true:=bne_iff_ne.mpr c6
       have H':=Aside0.mk H
       clear H
       have p120 : 0 ≤ (x5_1 : Int):=of_decide_eq_true (by first | (with_reducible assumption) | assumption)
       have q120 : x5_1 < (l0.length : Int):=of_decide_eq_true (by first | (with_reducible assumption) | assumption)
       obtain ⟨ad120,e120,hx120_0,hx120_1,hx120_2,hx120_3⟩:=at_T67 HR0.out x5_1 p120 q120
       cases e120
       replace p120:=eq_true p120
       replace q120:=eq_true q120
       have p121 : 0 ≤ (x5_1 : Int):=of_decide_eq_true (by first | (with_reducible assumption) | assumption)
       have q121 : x5_1 < (l0.length : Int):=of_decide_eq_true (by first | (with_reducible assumption) | assumption)
       obtain ⟨ad121,e121,hx121_0,hx121_1,hx121_2,hx121_3⟩:=at_T67 HR0.out x5_1 p121 q121
       obtain rfl : ad120 = ad121:=(by injection e121)
       replace p121:=eq_true p121
       replace q121:=eq_true q121
       go_wp2
       go_roundg k1
       case measure => have:=HK1.out;omega
       case rel => exact ⟨(wrap64 (x5_1 + 1)),(by first | rfl | (simp;done) | (simp [*];done)),H',⟨by have:=HK1.out;omega⟩,by repeat (first | exact Drawn0.refl _ | apply Drawn0.step)⟩
     ·rw [if_neg c5] at H
      have c5b0 : (((rd_T67 l0 x5_1).f0) == 3) = false:=beq_eq_false_iff_ne.mpr c5
      have c5b1 : (((rd_T67 l0 x5_1).f0) != 3) = true:=bne_iff_ne.mpr c5
      have H':=Aside0.mk H
      clear H
      have p120 : 0 ≤ (x5_1 : Int):=of_decide_eq_true (by first | (with_reducible assumption) | assumption)
      have q120 : x5_1 < (l0.length : Int):=of_decide_eq_true (by first | (with_reducible assumption) | assumption)
      obtain ⟨ad120,e120,hx120_0,hx120_1,hx120_2,hx120_3⟩:=at_T67 HR0.out x5_1 p120 q120
      cases e120
      replace p120:=eq_true p120
      replace q120:=eq_true q120
      go_wp2
      go_roundg k1
      case measure => have:=HK1.out;omega
      case rel => exact ⟨(wrap64 (x5_1 + 1)),(by first | rfl | (simp;done) | (simp [*];done)),H',⟨by have:=HK1.out;omega⟩,by repeat (first | exact Drawn0.refl _ | apply Drawn0.step)⟩
    ·rw [if_neg c4] at H
     exact absurd H (by simp)
   ·rw [if_neg c3] at H
    have c3b0 : decide (x5_1 < (l0.length : Int)) = false:=decide_eq_false c3
    clear c3
    obtain rfl:=Option.some.inj H
    go_wp2
    go_ret
    exact ⟨by first | rfl | (simp;done) | (simp [*];done),by repeat (first | exact Drawn0.refl _ | apply Drawn0.step)⟩
end Go.Proofs.Ytnmmdeonkpfccaa.Pr
namespace Go.Proofs.Ytnmmdeonkpfccaa.Pr
open Go.RowKit Go.Proofs.YtnmmdeonkpfccaaW.PrintWords Go.Proofs.YtnmmdeonkpfccaaW.PrintLast Go.Proofs.YtnmmdeonkpfccaaW.PrintMore
attribute [local go_sem] max2_int min2_int max_two min_two max_three min_three max_four min_four
set_option linter.unusedVariables false
set_option linter.unusedSimpArgs false
def metrolabref53_Measured.l0 : Nat → List (S67) → ByteArray → Int → Option (Bool)
 | 0,_,_,_ => none
 | k + 1,x0,x1,x5 => if x5 < (x0.length : Int) then (if 0 ≤ x5 then (if ((rd_T67 x0 x5).f0) = 0 then (if ((rd_T67 x0 x5).f2).toList = x1.toList then (some true) else (metrolabref53_Measured.l0 k x0 x1 (wrap64 (x5 + 1)))) else (metrolabref53_Measured.l0 k x0 x1 (wrap64 (x5 + 1)))) else (none)) else (some false)
def metrolabref53_Measured.f (k : Nat) (l0 : List (S67)) (a1 : ByteArray) : Option (Bool):=metrolabref53_Measured.l0 k l0 a1 0
set_option maxHeartbeats 8000000 in
set_option maxRecDepth 100000 in
theorem metrolabref53_Measured.calls (k : Nat) (A0 : Option Addr) (c0 : Nat) (l0 : List (S67)) (a1 : ByteArray) (r : Bool) (w : World) (hr0 : Kd.C k67 w A0 l0.length l0) (hc0 : l0.length ≤ c0) (h : metrolabref53_Measured.f k l0 a1 = some r) :
  Calls Try.prog 46 #[.slice A0 l0.length c0,.string a1] w fun e w' => e = .returned (.bool r) ∧ Drawn0 w w':=by
 have HR0:=Aside0.mk hr0
 have HC0:=Aside0.mk hc0
 clear hr0 hc0
 have H : (metrolabref53_Measured.l0 k l0 a1 0) = some r:=h
 clear h
 have H':=Aside0.mk H
 clear H
 go_enter Try.func46,Try.ntmps46
 go_wp2
 go_loopg [5] k (fun kq v5 w' => ∃ (x5_1 : Int),v5 = .int .i64 x5_1 ∧ Aside0 (metrolabref53_Measured.l0 kq l0 a1 x5_1 = some r) ∧ Aside0 (kq ≤ k) ∧ Drawn0 w w')
 case atStart => exact ⟨(0),(by first | rfl | (simp;done) | (simp [*];done)),H',⟨Nat.le_refl _⟩,by repeat (first | exact Drawn0.refl _ | apply Drawn0.step)⟩
 case round =>
  clear H'
  try clear p2
  obtain ⟨x5_1,rfl,HA,HK1,⟨m1,rfl⟩⟩:=hrel
  cases gk with
  | zero => exact absurd HA.out (by simp [metrolabref53_Measured.l0])
  | succ k1 =>
   have H:=HA.out
   clear HA
   simp only [metrolabref53_Measured.l0] at H
   by_cases c3 : x5_1 < (l0.length : Int)
   ·rw [if_pos c3] at H
    have c3b0 : decide (x5_1 < (l0.length : Int)) = true:=decide_eq_true c3
    clear c3
    by_cases c4 : 0 ≤ x5_1
    ·rw [if_pos c4] at H
     have c4b0 : decide (0 ≤ x5_1) = true:=decide_eq_true c4
     clear c4
     by_cases c5 : ((rd_T67 l0 x5_1).f0) = 0
     ·rw [if_pos c5] at H
      have c5b0 : (((rd_T67 l0 x5_1).f0) == 0) = true:=beq_iff_eq.mpr c5
      have c5b1 : (((rd_T67 l0 x5_1).f0) != 0) = false:=bne_eq_false_iff_eq.mpr c5
      clear c5
      by_cases c6 : ((rd_T67 l0 x5_1).f2).toList = a1.toList
      ·rw [if_pos c6] at H
       have c6b0 : (((rd_T67 l0 x5_1).f2).toList == a1.toList) = true:=beq_iff_eq.mpr c6
       have c6b1 : (((rd_T67 l0 x5_1).f2).toList != a1.toList) = false:=bne_eq_false_iff_eq.mpr c6
       clear c6
       obtain rfl:=Option.some.inj H
       have p122 : 0 ≤ (x5_1 : Int):=of_decide_eq_true (by first | (with_reducible assumption) | assumption)
       have q122 : x5_1 < (l0.length : Int):=of_decide_eq_true (by first | (with_reducible assumption) | assumption)
       obtain ⟨ad122,e122,hx122_0,hx122_1,hx122_2,hx122_3⟩:=at_T67 HR0.out x5_1 p122 q122
       cases e122
       replace p122:=eq_true p122
       replace q122:=eq_true q122
       have p123 : 0 ≤ (x5_1 : Int):=of_decide_eq_true (by first | (with_reducible assumption) | assumption)
       have q123 : x5_1 < (l0.length : Int):=of_decide_eq_true (by first | (with_reducible assumption) | assumption)
       obtain ⟨ad123,e123,hx123_0,hx123_1,hx123_2,hx123_3⟩:=at_T67 HR0.out x5_1 p123 q123
       obtain rfl : ad122 = ad123:=(by injection e123)
       replace p123:=eq_true p123
       replace q123:=eq_true q123
       go_wp2
       go_ret
       exact ⟨by first | rfl | (simp;done) | (simp [*];done),by repeat (first | exact Drawn0.refl _ | apply Drawn0.step)⟩
      ·rw [if_neg c6] at H
       have c6b0 : (((rd_T67 l0 x5_1).f2).toList == a1.toList) = false:=beq_eq_false_iff_ne.mpr c6
       have c6b1 : (((rd_T67 l0 x5_1).f2).toList != a1.toList) = true:=bne_iff_ne.mpr c6
       have H':=Aside0.mk H
       clear H
       have p122 : 0 ≤ (x5_1 : Int):=of_decide_eq_true (by first | (with_reducible assumption) | assumption)
       have q122 : x5_1 < (l0.length : Int):=of_decide_eq_true (by first | (with_reducible assumption) | assumption)
       obtain ⟨ad122,e122,hx122_0,hx122_1,hx122_2,hx122_3⟩:=at_T67 HR0.out x5_1 p122 q122
       cases e122
       replace p122:=eq_true p122
       replace q122:=eq_true q122
       have p123 : 0 ≤ (x5_1 : Int):=of_decide_eq_true (by first | (with_reducible assumption) | assumption)
       have q123 : x5_1 < (l0.length : Int):=of_decide_eq_true (by first | (with_reducible assumption) | assumption)
       obtain ⟨ad123,e123,hx123_0,hx123_1,hx123_2,hx123_3⟩:=at_T67 HR0.out x5_1 p123 q123
       obtain rfl : ad122 = ad123:=(by injection e123)
       replace p123:=eq_true p123
       replace q123:=eq_true q123
       go_wp2
       go_roundg k1
       case measure => have:=HK1.out;omega
       case rel => exact ⟨(wrap64 (x5_1 + 1)),(by first | rfl | (simp;done) | (simp [*];done)),H',⟨by have:=HK1.out;omega⟩,by repeat (first | exact Drawn0.refl _ | apply Drawn0.step)⟩
     ·rw [if_neg c5] at H
      have c5b0 : (((rd_T67 l0 x5_1).f0) == 0) = false:=beq_eq_false_iff_ne.mpr c5
      have c5b1 : (((rd_T67 l0 x5_1).f0) != 0) = true:=bne_iff_ne.mpr c5
      have H':=Aside0.mk H
      clear H
      have p122 : 0 ≤ (x5_1 : Int):=of_decide_eq_true (by first | (with_reducible assumption) | assumption)
      have q122 : x5_1 < (l0.length : Int):=of_decide_eq_true (by first | (with_reducible assumption) | assumption)
      obtain ⟨ad122,e122,hx122_0,hx122_1,hx122_2,hx122_3⟩:=at_T67 HR0.out x5_1 p122 q122
      cases e122
      replace p122:=eq_true p122
      replace q122:=eq_true q122
      go_wp2
      go_roundg k1
      case measure => have:=HK1.out;omega
      case rel => exact ⟨(wrap64 (x5_1 + 1)),(by first | rfl | (simp;done) | (simp [*];done)),H',⟨by have:=HK1.out;omega⟩,by repeat (first | exact Drawn0.refl _ | apply Drawn0.step)⟩
    ·rw [if_neg c4] at H
     exact absurd H (by simp)
   ·rw [if_neg c3] at H
    have c3b0 : decide (x5_1 < (l0.length : Int)) = false:=decide_eq_false c3
    clear c3
    obtain rfl:=Option.some.inj H
    go_wp2
    go_ret
    exact ⟨by first | rfl | (simp;done) | (simp [*];done),by repeat (first | exact Drawn0.refl _ | apply Drawn0.step)⟩
end Go.Proofs.Ytnmmdeonkpfccaa.Pr
