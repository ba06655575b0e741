/- A part of the statement's proof. -/
import Derived.BigFrame
import Derived.Test.YtgkgeodphgfgnaaProg
import Derived.Below
import Derived.Deep.Draws
import Derived.Deep.AppendLies
import Derived.Maps.AppendAt
import Derived.OwnWalk
import Derived.Laws.BytesArg
import Derived.Laws.MakeOwn
import Derived.Laws.OwnMore
import Derived.Deep.OwnRows
import Derived.Tactics
import Derived.Lib.ConvBytes
import Derived.Laws.Slices
import Derived.WalkKit
import Derived.KernelRfl
import Derived.RowKit3
import Derived.Deep.LoopGhost
import Derived.Deep.QuietTactic
import Derived.BigQuiet
import Derived.WideLaws
import Derived.Deep.DeepCutAuto
import Derived.Deep.CutBlock
import Derived.Deep.RegionHeld3
import Derived.Laws.Rows
import Derived.Lib.AppendStr
import Derived.ArgAppend
import Derived.Laws.IdiomCopy
import Derived.OrdersHeld
import Derived.Laws.BitsLemmas
import Derived.RowKit
import Derived.Test.YtgkgeodphgfgnaaWWords
import Derived.Test.YtgkgeodphgfgnaaWLast
import Derived.Test.YtgkgeodphgfgnaaWTab
import Derived.Test.YtgkgeodphgfgnaaWFour
import Derived.Test.YtgkgeodphgfgnaaWQPut
import Derived.Test.YtgkgeodphgfgnaaWApart
import Derived.Test.YtgkgeodphgfgnaaWArr
import Derived.Test.YtgkgeodphgfgnaaWZeros
import Derived.Test.YtgkgeodphgfgnaaWFoot
import Derived.Test.YtgkgeodphgfgnaaWKept
import Derived.Test.YtgkgeodphgfgnaaWShare
import Derived.Test.YtgkgeodphgfgnaaWN
import Derived.Test.YtgkgeodphgfgnaaWFootNe
import Derived.Test.YtgkgeodphgfgnaaWAt
import Derived.Test.YtgkgeodphgfgnaaWEqStruct
import Derived.Test.YtgkgeodphgfgnaaWRepsOne
import Derived.Test.YtgkgeodphgfgnaaWInv
import Derived.Test.YtgkgeodphgfgnaaWInvWords
import Derived.Test.YtgkgeodphgfgnaaWGuard
import Derived.Test.YtgkgeodphgfgnaaWNEv
import Derived.Test.YtgkgeodphgfgnaaWMore
import Derived.Shelf.Small.Bits
import Derived.Shelf.Strconv.Itoa0
import Derived.Shelf.Sort.Plain
import Derived.Shelf.Bits.Mul64
import Derived.Shelf.Slices.Turned
import Derived.Ground.Names2Prog
import Derived.Shelf.Slices.Clone
import Derived.Shelf.Slices.CompactI
import Derived.Shelf.Slices.SearchI
import Derived.Shelf.Slices.Delete
import Derived.Shelf.Slices.Cells
import Derived.Shelf.Slices.In.SortNone
import Derived.Shelf.Slices.Empties
import Derived.Ground.SlgnProg
import Derived.Shelf.SlicesE.Clone
import Derived.Laws.CopyOwn
import Derived.Deep.RegionLaw
import Derived.IntWalk
import Derived.Deep.RegionWith
/- An operation that bears a guard which says yes, as one without. -/
namespace Go.Proofs.Ytgkgeodphgfgnaa.Pr
theorem wpList_unguard {P : Program} {ops : Array Oper} {Q : Exit → Act → World → Prop} {a : Act} {w : World} {rest : List Oper} {o : Oper} {g : Tmp × Bool}
    (_hg : o.guard = some g) (hw : Region.wanted o (yielded ops a.tmps) = true)
    (h : wpList P ops Q ({ o with guard := none } :: rest) a w) : wpList P ops Q (o :: rest) a w := by
  unfold wpList at h ⊢
  rw [if_pos hw]
  rw [if_pos (by simp [Region.wanted])] at h
  exact h
end Go.Proofs.Ytgkgeodphgfgnaa.Pr
-- Printed for this claim by a program of this session, over the kit's printer. Not trusted: Lean checks it.
namespace Go.Proofs.Ytgkgeodphgfgnaa.Pr
open Go.RowKit Go.Proofs.YtgkgeodphgfgnaaW.PrintWords Go.Proofs.YtgkgeodphgfgnaaW.PrintLast Go.Proofs.YtgkgeodphgfgnaaW.PrintMore
attribute [local go_sem] max2_int min2_int max_two min_two max_three min_three max_four min_four
set_option linter.unusedVariables false
set_option linter.unusedSimpArgs false

def errW : Option Int → Value
  | none => .nilIface
  | some c => .iface 0 (.int .i64 c)
theorem errW_none : errW none = .nilIface := rfl
theorem errW_some (c : Int) : errW (some c) = .iface 0 (.int .i64 c) := rfl

theorem info3 : (Try.prog.info? 3).map (fun i => (i.zero, i.size, i.bytes)) = some (some (.int .i64 0), 1, 8) := by kernel_rfl
theorem info22 : (Try.prog.info? 22).map (fun i => (i.zero, i.size, i.bytes)) = some (some (.slice none 0 0), 1, 24) := by kernel_rfl
theorem info57 : (Try.prog.info? 57).map (fun i => (i.zero, i.size, i.bytes)) = some (some (.agg #[(.int .i64 0), (.int .i64 0), (.slice none 0 0)]), 3, 40) := by kernel_rfl
-- the values' own types
def rd_L1 (xs : List (List Int)) (i : Int) : (List Int) := xs.getD i.toNat ([] : List Int)
theorem at_L1 {w : World} {A : Option Addr} {n : Nat} {xs : List (List Int)} (h : Kd.C (Kd.slice 3 (Kd.int .i64)) w A n xs) (i : Int) (h0 : 0 ≤ i) (h1 : i < n) : ∃ ad A0 c0, A = some ad ∧ w.cell? (ad.add i.toNat) = some (.slice A0 (rd_L1 xs i).length c0) ∧ (rd_L1 xs i).length ≤ c0 ∧ (Kd.int .i64).C w A0 (rd_L1 xs i).length (rd_L1 xs i) := by
  obtain ⟨ad, c, e, _, hK, hc0⟩ := Kd.C_get h ([] : List Int) i h0 h1
  have hc : ∀ j u, c[j]? = some u → w.cell? (ad.add (i.toNat * 1 + j)) = some u := hc0
  obtain ⟨A0, c0, rfl, l0, g0⟩ := hK
  exact ⟨ad, A0, c0, e, by have hq := hc 0 _ rfl; rwa [Nat.mul_one, Nat.add_zero] at hq, l0, g0⟩

/-! #### struct type 57 -/
structure S57 where
  f0 : Int
  f1 : Int
  f2 : (List Int)
def z57 : S57 := ⟨(0 : Int), (0 : Int), ([] : List Int)⟩
def k57 : Kd S57 := Kd.iso (Kd.pair (Kd.int .i64) (Kd.pair (Kd.int .i64) (Kd.slice 3 (Kd.int .i64)))) (fun x : S57 => (x.f0, x.f1, x.f2))
theorem k57_heap : Kd.Heap k57 := Kd.heap_iso _ (Kd.heap_pair (Kd.heap_int .i64) (Kd.heap_pair (Kd.heap_int .i64) (Kd.heap_slice 3 (Kd.heap_int .i64))))
theorem k57_open {w : World} {x : S57} {cs : List Value} (h : k57.K w x cs) : ∃ A2 c2, cs = [.int .i64 x.f0, .int .i64 x.f1, .slice A2 x.f2.length c2] ∧ x.f2.length ≤ c2 ∧ (Kd.int .i64).C w A2 x.f2.length x.f2 := by
  obtain ⟨_, _, rfl, rfl, ⟨_, _, rfl, rfl, ⟨A2, c2, rfl, l2, g2⟩⟩⟩ := h
  exact ⟨A2, c2, rfl, l2, g2⟩
theorem k57_openM {w : World} {base : Nat} {ok : Nat → Prop} {x : S57} {cs : List Value} (h : k57.M w base ok x cs) : ∃ v2, cs = [.int .i64 x.f0, .int .i64 x.f1, v2] ∧ (Kd.int .i64).R 3 w base ok v2 x.f2 := by
  obtain ⟨_, _, rfl, rfl, ⟨_, _, rfl, rfl, ⟨v2, rfl, g2⟩⟩⟩ := h
  exact ⟨v2, rfl, g2⟩
theorem k57_mk (w : World) (x : S57) {A2 : Option Addr} {c2 : Nat} (l2 : x.f2.length ≤ c2) (g2 : (Kd.int .i64).C w A2 x.f2.length x.f2) : k57.K w x [.int .i64 x.f0, .int .i64 x.f1, .slice A2 x.f2.length c2] := ⟨[.int .i64 x.f0], [.int .i64 x.f1, .slice A2 x.f2.length c2], rfl, rfl, ⟨[.int .i64 x.f1], [.slice A2 x.f2.length c2], rfl, rfl, ⟨A2, c2, rfl, l2, g2⟩⟩⟩
theorem k57_mkM (w : World) (base : Nat) (ok : Nat → Prop) (x : S57) {v2 : Value} (g2 : (Kd.int .i64).R 3 w base ok v2 x.f2) : k57.M w base ok x [.int .i64 x.f0, .int .i64 x.f1, v2] := ⟨[.int .i64 x.f0], [.int .i64 x.f1, v2], rfl, rfl, ⟨[.int .i64 x.f1], [v2], rfl, rfl, ⟨v2, rfl, g2⟩⟩⟩
theorem k57_openF {W : World} {ok : Nat → Prop} {x : S57} {cs : List Value} (h : Kd.FK k57 W ok x cs) : ∃ A2 c2, cs = [.int .i64 x.f0, .int .i64 x.f1, .slice A2 x.f2.length c2] ∧ x.f2.length ≤ c2 ∧ Kd.F (Kd.int .i64) W ok A2 x.f2.length x.f2 := by
  obtain ⟨A2, c2, rfl, l2, _⟩ := k57_open (Kd.FK_now h)
  exact ⟨A2, c2, rfl, l2, (fun W' hW => by obtain ⟨A2_, c2_, he, l2_, g2_⟩ := k57_open (h W' hW); injection (Option.some.inj (show some (Value.slice A2 x.f2.length c2) = some (Value.slice A2_ x.f2.length c2_) from congrArg (fun l => l[2]?) he)) with ha_ _ _; rw [ha_]; exact g2_)⟩
theorem k57_mkF (W : World) (ok : Nat → Prop) (x : S57) {A2 : Option Addr} {c2 : Nat} (l2 : x.f2.length ≤ c2) (g2 : Kd.F (Kd.int .i64) W ok A2 x.f2.length x.f2) : Kd.FK k57 W ok x [.int .i64 x.f0, .int .i64 x.f1, .slice A2 x.f2.length c2] := fun W2 hW => k57_mk W2 x l2 (g2 W2 hW)
def rd_T57 (xs : List S57) (i : Int) : S57 := xs.getD i.toNat z57
theorem at_T57 {w : World} {A : Option Addr} {n : Nat} {xs : List S57} (h : Kd.C k57 w A n xs) (i : Int) (h0 : 0 ≤ i) (h1 : i < n) : ∃ ad A2 c2, A = some ad ∧ w.cell? (ad.add (i.toNat * 3)) = some (.int .i64 (rd_T57 xs i).f0) ∧ w.cell? ⟨(ad.add (i.toNat * 3)).block, (ad.add (i.toNat * 3)).off + 1, none⟩ = some (.int .i64 (rd_T57 xs i).f1) ∧ w.cell? ⟨(ad.add (i.toNat * 3)).block, (ad.add (i.toNat * 3)).off + 2, none⟩ = some (.slice A2 (rd_T57 xs i).f2.length c2) ∧ (rd_T57 xs i).f2.length ≤ c2 ∧ (Kd.int .i64).C w A2 (rd_T57 xs i).f2.length (rd_T57 xs i).f2 := by
  obtain ⟨ad, c, e, _, hK, hc0⟩ := Kd.C_get h z57 i h0 h1
  have hc : ∀ j u, c[j]? = some u → w.cell? (ad.add (i.toNat * 3 + j)) = some u := hc0
  obtain ⟨A2, c2, rfl, l2, g2⟩ := k57_open hK
  exact ⟨ad, A2, c2, e, hc 0 _ rfl, by rw [← add_field _ _ 1 (by omega)]; exact hc 1 _ rfl, by rw [← add_field _ _ 2 (by omega)]; exact hc 2 _ rfl, l2, g2⟩

end Go.Proofs.Ytgkgeodphgfgnaa.Pr
-- Printed for this claim by a program of this session, over the kit's printer. Not trusted: Lean checks it.
namespace Go.Proofs.Ytgkgeodphgfgnaa.Pr
open Go.RowKit Go.Proofs.YtgkgeodphgfgnaaW.PrintWords Go.Proofs.YtgkgeodphgfgnaaW.PrintLast Go.Proofs.YtgkgeodphgfgnaaW.PrintMore
attribute [local go_sem] max2_int min2_int max_two min_two max_three min_three max_four min_four
set_option linter.unusedVariables false
set_option linter.unusedSimpArgs false

/-! ### metrolabref50_Stacks: function 48 -/
mutual
def metrolabref50_Stacks.l0 : Nat → Int → List (List Int) → List (List Int) → Int → Option ((List (List Int)))
  | 0, _, _, _, _ => none
  | k + 1, x0, x3, x4, x5 => if x5 < x0 then (metrolabref50_Stacks.l1 k x0 x3 x4 x5 ([] : List (List Int)) 0) else (some x3)
def metrolabref50_Stacks.l1 : Nat → Int → List (List Int) → List (List Int) → Int → List (List Int) → Int → Option ((List (List Int)))
  | 0, _, _, _, _, _, _ => none
  | k + 1, x0, x3, x4, x5, x6, x7 => if x7 < (x4.length : Int) then (if x5 > 0 then (if 0 ≤ x7 then (if 0 ≤ (wrap64 (x5 - 1)) then (if (wrap64 (x5 - 1)) < ((rd_L1 x4 x7).length : Int) then (metrolabref50_Stacks.j2 k x0 x3 x4 x5 x6 x7 (wrap64 ((rd (rd_L1 x4 x7) (wrap64 (x5 - 1))) + 1))) else (none)) else (none)) else (none)) else (metrolabref50_Stacks.j2 k x0 x3 x4 x5 x6 x7 0)) else (if x3.length + x6.length < 5864062014805 then (metrolabref50_Stacks.l0 k x0 (x3 ++ x6) x6 (wrap64 (x5 + 1))) else (none))
def metrolabref50_Stacks.j2 : Nat → Int → List (List Int) → List (List Int) → Int → List (List Int) → Int → Int → Option ((List (List Int)))
  | 0, _, _, _, _, _, _, _ => none
  | k + 1, x0, x3, x4, x5, x6, x7, x8 => metrolabref50_Stacks.l2 k x0 x3 x4 x5 x6 x7 x8
def metrolabref50_Stacks.l2 : Nat → Int → List (List Int) → List (List Int) → Int → List (List Int) → Int → Int → Option ((List (List Int)))
  | 0, _, _, _, _, _, _, _ => none
  | k + 1, x0, x3, x4, x5, x6, x7, x9 => if x9 < x0 then ((some (([] : List Int) : List Int)).bind fun y218 => (if 0 ≤ x7 then (if x7 < (x4.length : Int) then (if y218.length + (rd_L1 x4 x7).length < 17592186044416 then ((some (y218 ++ (rd_L1 x4 x7) : List Int)).bind fun y222 => (if y222.length < 17592186044416 then (if x6.length < 5864062014805 then (metrolabref50_Stacks.l2 k x0 x3 x4 x5 (x6 ++ [(y222 ++ [x9])]) x7 (wrap64 (x9 + 1))) else (none)) else (none))) else (none)) else (none)) else (none))) else (metrolabref50_Stacks.l1 k x0 x3 x4 x5 x6 (wrap64 (x7 + 1)))
end
def metrolabref50_Stacks.f (k : Nat) (a0 : Int) : Option ((List (List Int))) := metrolabref50_Stacks.l0 k a0 (([[]] : List (List Int))) (([[]] : List (List Int))) 0
theorem metrolabref50_Stacks.mono_l : ∀ k, (∀ y0 y1 y2 y3, LeO (metrolabref50_Stacks.l0 k y0 y1 y2 y3) (metrolabref50_Stacks.l0 (k + 1) y0 y1 y2 y3)) ∧ (∀ y0 y1 y2 y3 y4 y5, LeO (metrolabref50_Stacks.l1 k y0 y1 y2 y3 y4 y5) (metrolabref50_Stacks.l1 (k + 1) y0 y1 y2 y3 y4 y5)) ∧ (∀ y0 y1 y2 y3 y4 y5 y6, LeO (metrolabref50_Stacks.j2 k y0 y1 y2 y3 y4 y5 y6) (metrolabref50_Stacks.j2 (k + 1) y0 y1 y2 y3 y4 y5 y6)) ∧ (∀ y0 y1 y2 y3 y4 y5 y6, LeO (metrolabref50_Stacks.l2 k y0 y1 y2 y3 y4 y5 y6) (metrolabref50_Stacks.l2 (k + 1) y0 y1 y2 y3 y4 y5 y6))
  | 0 => ⟨fun _ _ _ _ r h => by simp [metrolabref50_Stacks.l0] at h, fun _ _ _ _ _ _ r h => by simp [metrolabref50_Stacks.l1] at h, fun _ _ _ _ _ _ _ r h => by simp [metrolabref50_Stacks.j2] at h, fun _ _ _ _ _ _ _ r h => by simp [metrolabref50_Stacks.l2] at h⟩
  | k + 1 => by
    obtain ⟨ih0, ih1, ih2, ih3⟩ := metrolabref50_Stacks.mono_l k
    refine ⟨?_, ?_, ?_, ?_⟩
    · intro y0 y1 y2 y3
      unfold metrolabref50_Stacks.l0
      repeat' first
      | (with_reducible exact ih0 _ _ _ _)
      | (with_reducible exact ih1 _ _ _ _ _ _)
      | (with_reducible exact ih2 _ _ _ _ _ _ _)
      | (with_reducible exact ih3 _ _ _ _ _ _ _)
      | (with_reducible exact LeO.refl _)
      | (with_reducible exact LeO.none _)
      | (with_reducible refine LeO.ite ?_ ?_)
      | (with_reducible refine LeO.bind ?_ (fun _ => ?_))
      | exact ih0 _ _ _ _
      | exact ih1 _ _ _ _ _ _
      | exact ih2 _ _ _ _ _ _ _
      | exact ih3 _ _ _ _ _ _ _
      | exact LeO.none _
      | refine LeO.ite ?_ ?_
      | refine LeO.bind ?_ (fun _ => ?_)
    · intro y0 y1 y2 y3 y4 y5
      unfold metrolabref50_Stacks.l1
      repeat' first
      | (with_reducible exact ih0 _ _ _ _)
      | (with_reducible exact ih1 _ _ _ _ _ _)
      | (with_reducible exact ih2 _ _ _ _ _ _ _)
      | (with_reducible exact ih3 _ _ _ _ _ _ _)
      | (with_reducible exact LeO.refl _)
      | (with_reducible exact LeO.none _)
      | (with_reducible refine LeO.ite ?_ ?_)
      | (with_reducible refine LeO.bind ?_ (fun _ => ?_))
      | exact ih0 _ _ _ _
      | exact ih1 _ _ _ _ _ _
      | exact ih2 _ _ _ _ _ _ _
      | exact ih3 _ _ _ _ _ _ _
      | exact LeO.none _
      | refine LeO.ite ?_ ?_
      | refine LeO.bind ?_ (fun _ => ?_)
    · intro y0 y1 y2 y3 y4 y5 y6
      unfold metrolabref50_Stacks.j2
      repeat' first
      | (with_reducible exact ih0 _ _ _ _)
      | (with_reducible exact ih1 _ _ _ _ _ _)
      | (with_reducible exact ih2 _ _ _ _ _ _ _)
      | (with_reducible exact ih3 _ _ _ _ _ _ _)
      | (with_reducible exact LeO.refl _)
      | (with_reducible exact LeO.none _)
      | (with_reducible refine LeO.ite ?_ ?_)
      | (with_reducible refine LeO.bind ?_ (fun _ => ?_))
      | exact ih0 _ _ _ _
      | exact ih1 _ _ _ _ _ _
      | exact ih2 _ _ _ _ _ _ _
      | exact ih3 _ _ _ _ _ _ _
      | exact LeO.none _
      | refine LeO.ite ?_ ?_
      | refine LeO.bind ?_ (fun _ => ?_)
    · intro y0 y1 y2 y3 y4 y5 y6
      unfold metrolabref50_Stacks.l2
      repeat' first
      | (with_reducible exact ih0 _ _ _ _)
      | (with_reducible exact ih1 _ _ _ _ _ _)
      | (with_reducible exact ih2 _ _ _ _ _ _ _)
      | (with_reducible exact ih3 _ _ _ _ _ _ _)
      | (with_reducible exact LeO.refl _)
      | (with_reducible exact LeO.none _)
      | (with_reducible refine LeO.ite ?_ ?_)
      | (with_reducible refine LeO.bind ?_ (fun _ => ?_))
      | exact ih0 _ _ _ _
      | exact ih1 _ _ _ _ _ _
      | exact ih2 _ _ _ _ _ _ _
      | exact ih3 _ _ _ _ _ _ _
      | exact LeO.none _
      | refine LeO.ite ?_ ?_
      | refine LeO.bind ?_ (fun _ => ?_)
theorem metrolabref50_Stacks.mono : ∀ a0 k, LeO (metrolabref50_Stacks.f k a0) (metrolabref50_Stacks.f (k + 1) a0) := by
  intro a0 k
  obtain ⟨ih0, ih1, ih2, ih3⟩ := metrolabref50_Stacks.mono_l k
  unfold metrolabref50_Stacks.f
  repeat' first
      | (with_reducible exact ih0 _ _ _ _)
      | (with_reducible exact ih1 _ _ _ _ _ _)
      | (with_reducible exact ih2 _ _ _ _ _ _ _)
      | (with_reducible exact ih3 _ _ _ _ _ _ _)
      | (with_reducible exact LeO.refl _)
      | (with_reducible exact LeO.none _)
      | (with_reducible refine LeO.ite ?_ ?_)
      | (with_reducible refine LeO.bind ?_ (fun _ => ?_))
      | exact ih0 _ _ _ _
      | exact ih1 _ _ _ _ _ _
      | exact ih2 _ _ _ _ _ _ _
      | exact ih3 _ _ _ _ _ _ _
      | exact LeO.none _
      | refine LeO.ite ?_ ?_
      | refine LeO.bind ?_ (fun _ => ?_)
set_option maxHeartbeats 8000000 in
set_option maxRecDepth 100000 in
theorem metrolabref50_Stacks.calls (k : Nat) (a0 : Int) (r : List (List Int)) (w : World) (h : metrolabref50_Stacks.f k a0 = some r) :
    Calls Try.prog 48 #[.int .i64 a0] w fun e w' => ∃ v0_ : Value, e = .returned (v0_) ∧ Kd.N (Kd.slice 3 (Kd.int .i64)) 22 w' w.heap.size (fun k_ => (w.heap.size ≤ k_)) v0_ r ∧ Below w.heap.size w w' := by
  have HB := Aside0.mk (Below.refl w.heap.size w)
  have H : (metrolabref50_Stacks.l0 k a0 (([[]] : List (List Int))) (([[]] : List (List Int))) 0) = some r := h
  clear h
  obtain ⟨y207, hy207⟩ : ∃ y_ : List (List Int), y_ = (([[]] : List (List Int))) := ⟨_, rfl⟩
  replace H : (metrolabref50_Stacks.l0 k a0 y207 (([[]] : List (List Int))) 0) = some r := by first | (rw [hy207]; with_reducible exact H) | (have H2_ := (Option.bind_some _ _).symm.trans H; rw [hy207]; with_reducible exact H2_) | (have H2_ := (Option.bind_some _ _).symm.trans H; with_reducible exact H2_) | with_reducible exact H | (rw [hy207]; exact H) | exact H
  have Ny207 := Aside0.mk hy207
  clear hy207
  obtain ⟨y210, hy210⟩ : ∃ y_ : List (List Int), y_ = (([[]] : List (List Int))) := ⟨_, rfl⟩
  replace H : (metrolabref50_Stacks.l0 k a0 y207 y210 0) = some r := by first | (rw [hy210]; with_reducible exact H) | (have H2_ := (Option.bind_some _ _).symm.trans H; rw [hy210]; with_reducible exact H2_) | (have H2_ := (Option.bind_some _ _).symm.trans H; with_reducible exact H2_) | with_reducible exact H | (rw [hy210]; exact H) | exact H
  have Ny210 := Aside0.mk hy210
  clear hy210
  have H' := Aside0.mk H
  clear H
  go_enter Try.func48, Try.ntmps48
  go_wp2_with (first | ((with_reducible refine gate_dst (N := 10) rfl ?_); refine Kd.N_lit (Kd.slice 3 (Kd.int .i64)) _ 22 ?hg (N' := 10) ?hd (xs := ([[]] : List (List Int))) (inner := [.slice none 0 0]) (ok := (fun k_ => (w.heap.size ≤ k_))) (okp := (fun k_ => (w.heap.size ≤ k_))) ?hr ?hp (fun _ hk => hk) ((show ∀ k_, w.heap.size ≤ k_ → (fun k_ => (w.heap.size ≤ k_)) k_ from fun k_ hk => (Nat.le_trans (below_size (by repeat (first | (with_reducible first | exact HB.out | apply below_alloc | apply pw_below_drewN | apply below_drew1) | exact HB.out))) hk)) _ (Nat.le_refl _)) (Below.refl _ _) (Nat.le_refl _) (by simp) ?_; (case hd => rfl); (case hg => rfl); (case hr => first | (go_simp; done) | (go_simp; rfl)); (case hp => exact (Reps.one (show Kd.FK (Kd.slice 3 (Kd.int .i64)) _ _ [] [.slice none 0 0] from (Kd.FK_slice_mk (Nat.le_refl _) (Kd.F_nil _ _ _))) (Reps.none _ _))); intro v208 w2 ho3 hb hg_ hnew_; clear hg_ hnew_; (first | rw [← Ny207.out] at ho3 | (simp only [Int.reduceToNat] at ho3; rw [← Ny207.out] at ho3)); have n0_ := Aside0.mk (Kd.N_lower ho3 (below_size (by repeat (first | (with_reducible first | exact HB.out | apply below_alloc | apply pw_below_drewN | apply below_drew1) | exact HB.out)))); have n1_ := Aside0.mk (below_step (by repeat (first | (with_reducible first | exact HB.out | apply below_alloc | apply pw_below_drewN | apply below_drew1) | exact HB.out)) hb); clear HB; have HO209 := n0_; have HB := n1_; clear n0_ n1_; clear hb ho3) | ((with_reducible refine gate_dst (N := 11) rfl ?_); refine Kd.N_lit (Kd.slice 3 (Kd.int .i64)) _ 22 ?hg (N' := 11) ?hd (xs := ([[]] : List (List Int))) (inner := [.slice none 0 0]) (ok := (fun k_ => (w.heap.size ≤ k_) ∧ some k_ ≠ (v208 : Value).ownBlock)) (okp := (fun k_ => (w.heap.size ≤ k_) ∧ some k_ ≠ (v208 : Value).ownBlock)) ?hr ?hp (fun _ hk => hk) ((show ∀ k_, w2.heap.size ≤ k_ → (fun k_ => (w.heap.size ≤ k_) ∧ some k_ ≠ (v208 : Value).ownBlock) k_ from fun k_ hk => ⟨(Nat.le_trans (below_size (by repeat (first | (with_reducible first | exact HB.out | apply below_alloc | apply pw_below_drewN | apply below_drew1) | exact HB.out))) hk), Kd.fresh' (Kd.N_lt (by (with_reducible repeat (first | apply Kd.N_alloc | apply Kd.N_drewN | apply Kd.N_drew)); exact HO209.out)) k_ hk⟩) _ (Nat.le_refl _)) (Below.refl _ _) (Nat.le_refl _) (by simp) ?_; (case hd => rfl); (case hg => rfl); (case hr => first | (go_simp; done) | (go_simp; rfl)); (case hp => exact (Reps.one (show Kd.FK (Kd.slice 3 (Kd.int .i64)) _ _ [] [.slice none 0 0] from (Kd.FK_slice_mk (Nat.le_refl _) (Kd.F_nil _ _ _))) (Reps.none _ _))); intro v211 w4 ho5 hb hg_ hnew_; clear hg_ hnew_; (first | rw [← Ny210.out] at ho5 | (simp only [Int.reduceToNat] at ho5; rw [← Ny210.out] at ho5)); have n0_ := Aside0.mk (Kd.N_elder' (by (with_reducible repeat (first | apply Kd.N_alloc | apply Kd.N_drewN | apply Kd.N_drew)); exact HO209.out) (Kd.N_base ho5) hb); have n1_ := Aside0.mk (Kd.N_lower ho5 (below_size (by repeat (first | (with_reducible first | exact HB.out | apply below_alloc | apply pw_below_drewN | apply below_drew1) | exact HB.out)))); have n2_ := Aside0.mk (below_step (by repeat (first | (with_reducible first | exact HB.out | apply below_alloc | apply pw_below_drewN | apply below_drew1) | exact HB.out)) hb); clear HO209; clear HB; have HO209 := n0_; have HO212 := n1_; have HB := n2_; clear n0_ n1_ n2_; clear hb ho5))
  go_loopg [3, 4, 5] k (fun kq v3 v4 v5 w' => ∃ (x3_1 : List (List Int)) (x4_1 : List (List Int)) (x5_1 : Int), v5 = .int .i64 x5_1 ∧ Aside0 (metrolabref50_Stacks.l0 kq a0 x3_1 x4_1 x5_1 = some r) ∧ Aside0 (kq ≤ k) ∧ Aside0 (Kd.N (Kd.slice 3 (Kd.int .i64)) 22 w' w.heap.size (fun k_ => (w.heap.size ≤ k_)) v3 x3_1) ∧ Aside0 (Kd.N (Kd.slice 3 (Kd.int .i64)) 22 w' w.heap.size (fun k_ => (w.heap.size ≤ k_) ∧ some k_ ≠ (v3 : Value).ownBlock) v4 x4_1) ∧ Aside0 (Below w.heap.size w w'))
  case atStart => exact ⟨(y207), (y210), (0), (by first | rfl | (simp; done) | (simp [*]; done)), H', ⟨Nat.le_refl _⟩, ⟨by (with_reducible repeat (first | apply Kd.N_alloc | apply Kd.N_drewN | apply Kd.N_drew)); exact Kd.N_mono HO209.out (fun _ hk => hk.1)⟩, ⟨by (with_reducible repeat (first | apply Kd.N_alloc | apply Kd.N_drewN | apply Kd.N_drew)); exact HO212.out⟩, ⟨by repeat (first | (with_reducible first | exact HB.out | apply below_alloc | apply pw_below_drewN | apply below_drew1) | exact HB.out)⟩⟩
  case round =>
    clear H'
    try clear p2
    try clear c4
    obtain ⟨x3_1, x4_1, x5_1, rfl, HA, HK1, HO_3, HO_4, HB⟩ := hrel
    cases gk with
    | zero => exact absurd HA.out (by simp [metrolabref50_Stacks.l0])
    | succ k1 =>
      have H := HA.out
      clear HA
      simp only [metrolabref50_Stacks.l0] at H
      by_cases c6 : x5_1 < a0
      · rw [if_pos c6] at H
        have c6b0 : decide (x5_1 < a0) = true := decide_eq_true c6
        clear c6
        have H' := Aside0.mk H
        clear H
        go_wp2
        go_loopg [6, 7] k1 (fun kq v6 v7 w' => ∃ (x6_2 : List (List Int)) (x7_2 : Int), v7 = .int .i64 x7_2 ∧ Aside0 (metrolabref50_Stacks.l1 kq a0 x3_1 x4_1 x5_1 x6_2 x7_2 = some r) ∧ Aside0 (kq ≤ k1) ∧ Aside0 (Kd.N (Kd.slice 3 (Kd.int .i64)) 22 w' w.heap.size (fun k_ => (w.heap.size ≤ k_) ∧ some k_ ≠ (v6 : Value).ownBlock) u3 x3_1) ∧ Aside0 (Kd.N (Kd.slice 3 (Kd.int .i64)) 22 w' w.heap.size (fun k_ => (w.heap.size ≤ k_) ∧ some k_ ≠ (u3 : Value).ownBlock ∧ some k_ ≠ (v6 : Value).ownBlock) u4 x4_1) ∧ Aside0 (Kd.N (Kd.slice 3 (Kd.int .i64)) 22 w' w.heap.size (fun k_ => (w.heap.size ≤ k_) ∧ some k_ ≠ (u3 : Value).ownBlock ∧ some k_ ≠ (u4 : Value).ownBlock) v6 x6_2) ∧ Aside0 (Below w.heap.size w w'))
        case atStart => exact ⟨(([] : List (List Int))), (0), (by first | rfl | (simp; done) | (simp [*]; done)), H', ⟨Nat.le_refl _⟩, ⟨by (with_reducible repeat (first | apply Kd.N_alloc | apply Kd.N_drewN | apply Kd.N_drew)); exact Kd.N_mono HO_3.out (fun _ hk => ⟨hk, (by simp [Value.ownBlock])⟩)⟩, ⟨by (with_reducible repeat (first | apply Kd.N_alloc | apply Kd.N_drewN | apply Kd.N_drew)); exact Kd.N_mono HO_4.out (fun _ hk => ⟨hk.1, ⟨hk.2, (by simp [Value.ownBlock])⟩⟩)⟩, ⟨by first | exact Kd.S_nil _ _ _ _ _ | exact Kd.N_nil _ _ _ _ _ | exact Kd.V_nil _ _ _ _ _ | exact Kd.Q_nil _ _ _ _ _ | exact Kd.R_nil _ _ _ _ _⟩, ⟨by repeat (first | (with_reducible first | exact HB.out | apply below_alloc | apply pw_below_drewN | apply below_drew1) | exact HB.out)⟩⟩
        case round =>
          clear H'
          try clear p2
          try clear c4
          try clear c6
          try clear c6b0
          try clear p2
          obtain ⟨x6_2, x7_2, rfl, HA, HK2, HO_3, HO_4, HO_6, HB⟩ := hrel
          cases gk with
          | zero => exact absurd HA.out (by simp [metrolabref50_Stacks.l1])
          | succ k2 =>
            have H := HA.out
            clear HA
            simp only [metrolabref50_Stacks.l1] at H
            by_cases c7 : x7_2 < (x4_1.length : Int)
            · rw [if_pos c7] at H
              have c7b0 : decide (x7_2 < (x4_1.length : Int)) = true := decide_eq_true c7
              clear c7
              have HC8 := Aside0.mk H
              clear H
              obtain ⟨Ao9, co9, eo9⟩ := Kd.N_slice HO_4.out
              subst eo9
              go_upto_if 24 with (fail)
              go_cut [8] (fun v8 wc => ∃ (kq : Nat) (x8_7 : Int), v8 = .int .i64 x8_7 ∧ Aside0 (metrolabref50_Stacks.j2 kq a0 x3_1 x4_1 x5_1 x6_2 x7_2 x8_7 = some r) ∧ Aside0 (kq ≤ k2) ∧ Aside0 (Kd.N (Kd.slice 3 (Kd.int .i64)) 22 wc w.heap.size (fun k_ => (w.heap.size ≤ k_) ∧ some k_ ≠ (u6 : Value).ownBlock) u3 x3_1) ∧ Aside0 (Kd.N (Kd.slice 3 (Kd.int .i64)) 22 wc w.heap.size (fun k_ => (w.heap.size ≤ k_) ∧ some k_ ≠ (u3 : Value).ownBlock ∧ some k_ ≠ (u6 : Value).ownBlock) (.slice Ao9 x4_1.length co9) x4_1) ∧ Aside0 (Kd.N (Kd.slice 3 (Kd.int .i64)) 22 wc w.heap.size (fun k_ => (w.heap.size ≤ k_) ∧ some k_ ≠ (u3 : Value).ownBlock ∧ some k_ ≠ ((.slice Ao9 x4_1.length co9) : Value).ownBlock) u6 x6_2) ∧ Aside0 (Below w.heap.size w wc))
              case first =>
                have H := HC8.out
                clear HC8
                by_cases c10 : x5_1 > 0
                · rw [if_pos c10] at H
                  have c10b0 : decide (0 < x5_1) = true := decide_eq_true c10
                  clear c10
                  (first | rw [c10b0] | (simp only [i64_w, i32_w]; rw [c10b0]) | skip)
                  by_cases c11 : 0 ≤ x7_2
                  · rw [if_pos c11] at H
                    have c11b0 : decide (0 ≤ x7_2) = true := decide_eq_true c11
                    clear c11
                    obtain ⟨ji12, hji12⟩ : ∃ j_ : Int, (wrap64 (x5_1 - 1)) = j_ := ⟨_, rfl⟩
                    replace H : (if 0 ≤ (ji12) then (if (ji12) < ((rd_L1 x4_1 x7_2).length : Int) then (metrolabref50_Stacks.j2 k2 a0 x3_1 x4_1 x5_1 x6_2 x7_2 (wrap64 ((rd (rd_L1 x4_1 x7_2) (ji12)) + 1))) else (none)) else (none)) = some r := by first | (rw [hji12] at H; exact H) | (simp only [hji12] at H ⊢; exact H)
                    have hji12w : (IntKind.i64.wrap (x5_1 - 1)) = ji12 := (i64_w _).trans hji12
                    by_cases c13 : 0 ≤ (ji12)
                    · rw [if_pos c13] at H
                      have c13b0 : decide (0 ≤ (ji12)) = true := decide_eq_true c13
                      clear c13
                      by_cases c14 : (ji12) < ((rd_L1 x4_1 x7_2).length : Int)
                      · rw [if_pos c14] at H
                        have c14b0 : decide ((ji12) < ((rd_L1 x4_1 x7_2).length : Int)) = true := decide_eq_true c14
                        clear c14
                        have H' := Aside0.mk H
                        clear H
                        have p216 : 0 ≤ (x7_2 : Int) := of_decide_eq_true (by first | (with_reducible assumption) | assumption)
                        have q216 : x7_2 < (x4_1.length : Int) := of_decide_eq_true (by first | (with_reducible assumption) | assumption)
                        obtain ⟨ad216, A216_0, c216_0, e216, hx216_0, hl216_0, hi216_0⟩ := at_L1 (Kd.N_reads' HO_4.out).2.2 x7_2 p216 q216
                        cases e216
                        obtain ⟨ce216, hce216, hMe216, hcc216⟩ := Kd.N_get HO_4.out [] x7_2 p216 (by first | exact q216 | exact of_decide_eq_true (by first | (with_reducible assumption) | assumption) | (have e_ := (Kd.N_reads' HO_4.out).1; omega))
                        obtain ⟨ua216_0, uc216_0, rfl, ul216_0, ge216_0⟩ := Kd.FK_slice_open hMe216
                        have hv216_0 := hcc216 0 _ rfl
                        rw [Nat.add_zero, show ((Kd.slice 3 (Kd.int .i64))).sz = 1 from rfl, Nat.mul_one] at hv216_0
                        replace hv216_0 := Option.some.inj (hv216_0.symm.trans hx216_0)
                        injection hv216_0 with hva_ hvn_ hvc_
                        rw [hva_] at ge216_0
                        rw [hvc_] at ul216_0
                        have HL216_0 := Aside0.mk (show Kd.V (Kd.int .i64) 3 _ w.heap.size _ _ (rd_L1 x4_1 x7_2) from Kd.V_mk ul216_0 ge216_0)
                        clear hva_ hvn_ hvc_ ge216_0 ul216_0
                        clear hcc216 hce216
                        have HR216_0 := Aside0.mk hi216_0
                        have HC216_0 := Aside0.mk hl216_0
                        clear hi216_0 hl216_0
                        replace p216 := eq_true p216
                        replace q216 := eq_true q216
                        have p217 : 0 ≤ ((ji12) : Int) := of_decide_eq_true (by first | (with_reducible assumption) | assumption)
                        have q217 : (ji12) < ((rd_L1 x4_1 x7_2).length : Int) := of_decide_eq_true (by first | (with_reducible assumption) | assumption)
                        obtain ⟨ad217, e217, hx217_0⟩ := Kd.at_int (by repeat (first | (with_reducible exact HR216_0.out) | (with_reducible refine Kd.C_alloc ?_ _) | (with_reducible refine Kd.C_drewN ?_ _) | (with_reducible refine Kd.C_drew ?_) | exact HR216_0.out)) (ji12) p217 q217
                        cases e217
                        replace p217 := eq_true p217
                        replace q217 := eq_true q217
                        go_wp2
                        go_meet
                        case rel => exact ⟨_, (wrap64 ((rd (rd_L1 x4_1 x7_2) (ji12)) + 1)), (by first | rfl | (simp; done) | (simp only [← hji12] <;> (first | rfl | simp)) | (simp [*]; done)), H', ⟨by have := HK1.out; have := HK2.out; first | omega | exact Nat.le_refl _⟩, ⟨by (with_reducible repeat (first | apply Kd.N_alloc | apply Kd.N_drewN | apply Kd.N_drew)); exact HO_3.out⟩, ⟨by (with_reducible repeat (first | apply Kd.N_alloc | apply Kd.N_drewN | apply Kd.N_drew)); exact HO_4.out⟩, ⟨by (with_reducible repeat (first | apply Kd.N_alloc | apply Kd.N_drewN | apply Kd.N_drew)); exact HO_6.out⟩, ⟨by repeat (first | (with_reducible first | exact HB.out | apply below_alloc | apply pw_below_drewN | apply below_drew1) | exact HB.out)⟩⟩
                      · rw [if_neg c14] at H
                        exact absurd H (by simp)
                    · rw [if_neg c13] at H
                      exact absurd H (by simp)
                  · rw [if_neg c11] at H
                    exact absurd H (by simp)
                · rw [if_neg c10] at H
                  have c10b0 : decide (0 < x5_1) = false := decide_eq_false c10
                  clear c10
                  (first | rw [c10b0] | (simp only [i64_w, i32_w]; rw [c10b0]) | skip)
                  have H' := Aside0.mk H
                  clear H
                  go_wp2
                  go_meet
                  case rel => exact ⟨_, (0), (by first | rfl | (simp; done) | (simp [*]; done)), H', ⟨by have := HK1.out; have := HK2.out; first | omega | exact Nat.le_refl _⟩, ⟨by (with_reducible repeat (first | apply Kd.N_alloc | apply Kd.N_drewN | apply Kd.N_drew)); exact HO_3.out⟩, ⟨by (with_reducible repeat (first | apply Kd.N_alloc | apply Kd.N_drewN | apply Kd.N_drew)); exact HO_4.out⟩, ⟨by (with_reducible repeat (first | apply Kd.N_alloc | apply Kd.N_drewN | apply Kd.N_drew)); exact HO_6.out⟩, ⟨by repeat (first | (with_reducible first | exact HB.out | apply below_alloc | apply pw_below_drewN | apply below_drew1) | exact HB.out)⟩⟩
              case rest =>
                clear HC8
                try clear c1
                try clear c2
                try clear p2
                try clear q2
                try clear hx2
                try clear c4
                try clear c6
                try clear c6b0
                try clear p6
                try clear c7
                try clear c7b0
                try clear c10
                try clear c10b0
                try clear c11
                try clear c11b0
                try clear c13
                try clear c13b0
                try clear c14
                try clear c14b0
                try clear hx216_0
                try clear hx217_0
                try clear p2
                try clear p216
                try clear p217
                try clear q216
                try clear q217
                obtain ⟨kq, x8_7, rfl, HA, HJ7, HO_3, HO_4, HO_6, HB⟩ := hcut
                cases kq with
                | zero => exact absurd HA.out (by simp [metrolabref50_Stacks.j2])
                | succ kj7 =>
                  have H := HA.out
                  clear HA
                  simp only [metrolabref50_Stacks.j2] at H
                  have H' := Aside0.mk H
                  clear H
                  go_wp2
                  go_loopg [6, 9] kj7 (fun kq v6 v9 w' => ∃ (x6_4 : List (List Int)) (x9_4 : Int), v9 = .int .i64 x9_4 ∧ Aside0 (metrolabref50_Stacks.l2 kq a0 x3_1 x4_1 x5_1 x6_4 x7_2 x9_4 = some r) ∧ Aside0 (kq ≤ kj7) ∧ Aside0 (Kd.N (Kd.slice 3 (Kd.int .i64)) 22 w' w.heap.size (fun k_ => (w.heap.size ≤ k_) ∧ some k_ ≠ (v6 : Value).ownBlock) u3 x3_1) ∧ Aside0 (Kd.N (Kd.slice 3 (Kd.int .i64)) 22 w' w.heap.size (fun k_ => (w.heap.size ≤ k_) ∧ some k_ ≠ (u3 : Value).ownBlock ∧ some k_ ≠ (v6 : Value).ownBlock) (.slice Ao9 x4_1.length co9) x4_1) ∧ Aside0 (Kd.N (Kd.slice 3 (Kd.int .i64)) 22 w' w.heap.size (fun k_ => (w.heap.size ≤ k_) ∧ some k_ ≠ (u3 : Value).ownBlock ∧ some k_ ≠ ((.slice Ao9 x4_1.length co9) : Value).ownBlock) v6 x6_4) ∧ Aside0 (Below w.heap.size w w'))
                  case atStart => exact ⟨(x6_2), (x8_7), (by first | rfl | (simp; done) | (simp [*]; done)), H', ⟨Nat.le_refl _⟩, ⟨by (with_reducible repeat (first | apply Kd.N_alloc | apply Kd.N_drewN | apply Kd.N_drew)); exact HO_3.out⟩, ⟨by (with_reducible repeat (first | apply Kd.N_alloc | apply Kd.N_drewN | apply Kd.N_drew)); exact HO_4.out⟩, ⟨by (with_reducible repeat (first | apply Kd.N_alloc | apply Kd.N_drewN | apply Kd.N_drew)); exact HO_6.out⟩, ⟨by repeat (first | (with_reducible first | exact HB.out | apply below_alloc | apply pw_below_drewN | apply below_drew1) | exact HB.out)⟩⟩
                  case round =>
                    clear H'
                    try clear c1
                    try clear c2
                    try clear p2
                    try clear q2
                    try clear hx2
                    try clear c4
                    try clear c6
                    try clear c6b0
                    try clear p6
                    try clear c7
                    try clear c7b0
                    try clear c10
                    try clear c10b0
                    try clear c11
                    try clear c11b0
                    try clear c13
                    try clear c13b0
                    try clear c14
                    try clear c14b0
                    try clear hx216_0
                    try clear hx217_0
                    try clear p2
                    try clear p216
                    try clear p217
                    try clear p6
                    try clear q2
                    try clear q216
                    try clear q217
                    obtain ⟨x6_4, x9_4, rfl, HA, HK4, HO_3, HO_4, HO_6, HB⟩ := hrel
                    cases gk with
                    | zero => exact absurd HA.out (by simp [metrolabref50_Stacks.l2])
                    | succ k4 =>
                      have H := HA.out
                      clear HA
                      simp only [metrolabref50_Stacks.l2] at H
                      by_cases c15 : x9_4 < a0
                      · rw [if_pos c15] at H
                        have c15b0 : decide (x9_4 < a0) = true := decide_eq_true c15
                        clear c15
                        obtain ⟨y218, hy218⟩ : ∃ y_ : List Int, y_ = (([] : List Int)) := ⟨_, rfl⟩
                        replace H : (if 0 ≤ x7_2 then (if x7_2 < (x4_1.length : Int) then (if y218.length + (rd_L1 x4_1 x7_2).length < 17592186044416 then ((some (y218 ++ (rd_L1 x4_1 x7_2) : List Int)).bind fun y222 => (if y222.length < 17592186044416 then (if x6_4.length < 5864062014805 then (metrolabref50_Stacks.l2 k4 a0 x3_1 x4_1 x5_1 (x6_4 ++ [(y222 ++ [x9_4])]) x7_2 (wrap64 (x9_4 + 1))) else (none)) else (none))) else (none)) else (none)) else (none)) = some r := by first | (rw [hy218]; with_reducible exact H) | (have H2_ := (Option.bind_some _ _).symm.trans H; rw [hy218]; with_reducible exact H2_) | (have H2_ := (Option.bind_some _ _).symm.trans H; with_reducible exact H2_) | with_reducible exact H | (rw [hy218]; exact H) | exact H
                        have Ny218 := Aside0.mk hy218
                        clear hy218
                        by_cases c16 : 0 ≤ x7_2
                        · rw [if_pos c16] at H
                          have c16b0 : decide (0 ≤ x7_2) = true := decide_eq_true c16
                          clear c16
                          by_cases c17 : x7_2 < (x4_1.length : Int)
                          · rw [if_pos c17] at H
                            have c17b0 : decide (x7_2 < (x4_1.length : Int)) = true := decide_eq_true c17
                            clear c17
                            by_cases c18 : y218.length + (rd_L1 x4_1 x7_2).length < 17592186044416
                            · rw [if_pos c18] at H
                              have LMc18 := Aside0.mk c18
                              clear c18
                              obtain ⟨y222, hy222⟩ : ∃ y_ : List Int, y_ = (y218 ++ (rd_L1 x4_1 x7_2)) := ⟨_, rfl⟩
                              replace H : (if y222.length < 17592186044416 then (if x6_4.length < 5864062014805 then (metrolabref50_Stacks.l2 k4 a0 x3_1 x4_1 x5_1 (x6_4 ++ [(y222 ++ [x9_4])]) x7_2 (wrap64 (x9_4 + 1))) else (none)) else (none)) = some r := by first | (rw [hy222]; with_reducible exact H) | (have H2_ := (Option.bind_some _ _).symm.trans H; rw [hy222]; with_reducible exact H2_) | (have H2_ := (Option.bind_some _ _).symm.trans H; with_reducible exact H2_) | with_reducible exact H | (rw [hy222]; exact H) | exact H
                              have Ny222 := Aside0.mk hy222
                              clear hy222
                              by_cases c19 : y222.length < 17592186044416
                              · rw [if_pos c19] at H
                                have LMc19 := Aside0.mk c19
                                clear c19
                                obtain ⟨y225, hy225⟩ : ∃ y_ : List Int, y_ = (y222 ++ [x9_4]) := ⟨_, rfl⟩
                                replace H : (if x6_4.length < 5864062014805 then (metrolabref50_Stacks.l2 k4 a0 x3_1 x4_1 x5_1 (x6_4 ++ [y225]) x7_2 (wrap64 (x9_4 + 1))) else (none)) = some r := by first | (rw [hy225]; with_reducible exact H) | (have H2_ := (Option.bind_some _ _).symm.trans H; rw [hy225]; with_reducible exact H2_) | (have H2_ := (Option.bind_some _ _).symm.trans H; with_reducible exact H2_) | with_reducible exact H | (rw [hy225]; exact H) | exact H
                                have Ny225 := Aside0.mk hy225
                                clear hy225
                                by_cases c20 : x6_4.length < 5864062014805
                                · rw [if_pos c20] at H
                                  have LMc20 := Aside0.mk c20
                                  clear c20
                                  obtain ⟨y228, hy228⟩ : ∃ y_ : List (List Int), y_ = (x6_4 ++ [y225]) := ⟨_, rfl⟩
                                  replace H : (metrolabref50_Stacks.l2 k4 a0 x3_1 x4_1 x5_1 y228 x7_2 (wrap64 (x9_4 + 1))) = some r := by first | (rw [hy228]; with_reducible exact H) | (have H2_ := (Option.bind_some _ _).symm.trans H; rw [hy228]; with_reducible exact H2_) | (have H2_ := (Option.bind_some _ _).symm.trans H; with_reducible exact H2_) | with_reducible exact H | (rw [hy228]; exact H) | exact H
                                  have Ny228 := Aside0.mk hy228
                                  clear hy228
                                  have H' := Aside0.mk H
                                  clear H
                                  go_wp2_with (first | ((with_reducible refine gate_dst (N := 41) rfl ?_); (try refine wpList_unguard rfl rfl ?_); refine Kd.R_lit (Kd.int .i64) _ 3 ?hg (N := 41) ?hd (xs := ([] : List Int)) (inner := []) (ok := fun _ => True) (okp := fun _ => True) ?hr ?hp (fun _ hk => hk) trivial (Below.refl _ _) (Nat.le_refl _) (by simp) ?_; (case hd => rfl); (case hg => rfl); (case hr => first | (go_simp; done) | (go_simp; rfl)); (case hp => exact (Reps.none _ _)); intro v219 w21 ho22 hb hg_ hnew_; clear hg_ hnew_; (first | rw [← Ny218.out] at ho22 | (simp only [Int.reduceToNat] at ho22; rw [← Ny218.out] at ho22)); have n0_ := Aside0.mk (Kd.N_elder' (by (with_reducible repeat (first | apply Kd.N_alloc | apply Kd.N_drewN | apply Kd.N_drew)); exact HO_3.out) (Kd.R_base ho22) hb); have n1_ := Aside0.mk (Kd.N_elder' (by (with_reducible repeat (first | apply Kd.N_alloc | apply Kd.N_drewN | apply Kd.N_drew)); exact HO_4.out) (Kd.R_base ho22) hb); have n2_ := Aside0.mk (Kd.N_elder' (by (with_reducible repeat (first | apply Kd.N_alloc | apply Kd.N_drewN | apply Kd.N_drew)); exact HO_6.out) (Kd.R_base ho22) hb); have n3_ := Aside0.mk (Kd.R_lower (Kd.R_newM (M := fun k_ => (w.heap.size ≤ k_)) ho22 (below_size (by repeat (first | (with_reducible first | exact HB.out | apply below_alloc | apply pw_below_drewN | apply below_drew1) | exact HB.out))) (fun k_ h_ => h_)) (below_size (by repeat (first | (with_reducible first | exact HB.out | apply below_alloc | apply pw_below_drewN | apply below_drew1) | exact HB.out)))); have n4_ := Aside0.mk (below_step (by repeat (first | (with_reducible first | exact HB.out | apply below_alloc | apply pw_below_drewN | apply below_drew1) | exact HB.out)) hb); clear HO_3; clear HO_4; clear HO_6; clear HB; have HO_3 := n0_; have HO_4 := n1_; have HO_6 := n2_; have HO220 := n3_; have HB := n4_; clear n0_ n1_ n2_ n3_ n4_; clear hb ho22; have p221 : 0 ≤ (x7_2 : Int) := of_decide_eq_true (by first | (with_reducible assumption) | assumption); have q221 : x7_2 < (x4_1.length : Int) := of_decide_eq_true (by first | (with_reducible assumption) | assumption); obtain ⟨ad221, A221_0, c221_0, e221, hx221_0, hl221_0, hi221_0⟩ := at_L1 (Kd.N_reads' HO_4.out).2.2 x7_2 p221 q221; cases e221; obtain ⟨ce221, hce221, hMe221, hcc221⟩ := Kd.N_get HO_4.out [] x7_2 p221 (by first | exact q221 | exact of_decide_eq_true (by first | (with_reducible assumption) | assumption) | (have e_ := (Kd.N_reads' HO_4.out).1; omega)); obtain ⟨ua221_0, uc221_0, rfl, ul221_0, ge221_0⟩ := Kd.FK_slice_open hMe221; have hv221_0 := hcc221 0 _ rfl; rw [Nat.add_zero, show ((Kd.slice 3 (Kd.int .i64))).sz = 1 from rfl, Nat.mul_one] at hv221_0; replace hv221_0 := Option.some.inj (hv221_0.symm.trans hx221_0); injection hv221_0 with hva_ hvn_ hvc_; rw [hva_] at ge221_0; rw [hvc_] at ul221_0; have HL221_0 := Aside0.mk (show Kd.V (Kd.int .i64) 3 _ w.heap.size _ _ (rd_L1 x4_1 x7_2) from Kd.V_mk ul221_0 ge221_0); clear hva_ hvn_ hvc_ ge221_0 ul221_0; clear hcc221 hce221; have HR221_0 := Aside0.mk hi221_0; have HC221_0 := Aside0.mk hl221_0; clear hi221_0 hl221_0; replace p221 := eq_true p221; replace q221 := eq_true q221) | ((with_reducible refine gate_builtin (b := .append) (xs := #[.tmp 41, .tmp 45]) rfl ?_); at_builtin; refine Kd.R_append_rows (Kd.int .i64) (w0 := w) w.heap.size rfl (.tmp 41) (.tmp 45) 22 3 (.int .i64 0) 8 rfl Try.underlying22 info3 rfl (by decide) (by omega) v219 y218 (rd_L1 x4_1 x7_2) _ _ _ (fun k_ => (w.heap.size ≤ k_)) (fun _ => False) rfl rfl ?aO ?aR (fun _ _ h => h) (fun _ h => h.elim) ?aF ?aB ?aS ?aL ?_; (case aR => repeat (first | exact (by repeat (first | (with_reducible exact HR221_0.out) | (with_reducible refine Kd.C_alloc ?_ _) | (with_reducible refine Kd.C_drewN ?_ _) | (with_reducible refine Kd.C_drew ?_) | exact HR221_0.out)) | (with_reducible refine Kd.C_alloc ?_ _) | (with_reducible refine Kd.C_drewN ?_ _) | (with_reducible refine Kd.C_drew ?_))); (case aB => exact (by repeat (first | (with_reducible first | exact HB.out | apply below_alloc | apply pw_below_drewN | apply below_drew1) | exact HB.out))); (case aF => exact (fun k_ hk => (Nat.le_trans (below_size (by repeat (first | (with_reducible first | exact HB.out | apply below_alloc | apply pw_below_drewN | apply below_drew1) | exact HB.out))) hk))); (case aO => exact (by (with_reducible repeat (first | apply Kd.R_alloc | apply Kd.R_drewN | apply Kd.R_drew)); exact Kd.R_mono HO220.out (fun _ hk => hk.1))); (case aS => exact (below_size (by repeat (first | (with_reducible first | exact HB.out | apply below_alloc | apply pw_below_drewN | apply below_drew1) | exact HB.out)))); (case aL => have := LMc18.out; omega); intro v223 w23 ho hb hg hat; rw [← Ny222.out] at ho; have n0_ := Aside0.mk (Kd.N_afterv (ok := (fun k_ => (w.heap.size ≤ k_) ∧ some k_ ≠ (u6 : Value).ownBlock)) (by (with_reducible repeat (first | apply Kd.N_alloc | apply Kd.N_drewN | apply Kd.N_drew)); exact HO_3.out) hg hat); have n1_ := Aside0.mk (Kd.N_afterv (ok := (fun k_ => (w.heap.size ≤ k_) ∧ some k_ ≠ (u3 : Value).ownBlock ∧ some k_ ≠ (u6 : Value).ownBlock)) (by (with_reducible repeat (first | apply Kd.N_alloc | apply Kd.N_drewN | apply Kd.N_drew)); exact HO_4.out) hg hat); have n2_ := Aside0.mk (Kd.N_afterv (ok := (fun k_ => (w.heap.size ≤ k_) ∧ some k_ ≠ (u3 : Value).ownBlock ∧ some k_ ≠ (.slice (some ad221) x4_1.length co9 : Value).ownBlock)) (by (with_reducible repeat (first | apply Kd.N_alloc | apply Kd.N_drewN | apply Kd.N_drew)); exact HO_6.out) hg hat); have n3_ := Aside0.mk (Kd.V_afterv (ok := (fun k_ => (w.heap.size ≤ k_) ∧ some k_ ≠ (u3 : Value).ownBlock ∧ some k_ ≠ (.slice (some ad221) x4_1.length co9 : Value).ownBlock ∧ some k_ ≠ (u6 : Value).ownBlock)) (by (with_reducible repeat (first | apply Kd.V_alloc | apply Kd.V_drewN | apply Kd.V_drew)); exact Kd.V_mono HL221_0.out (fun _ hk => ⟨⟨hk.1.1.1, ⟨hk.1.1.2.1, ⟨hk.2, hk.1.1.2.2⟩⟩⟩, hk.1.2⟩)) hg hat); have n4_ := Aside0.mk (hb); have n5_ := Aside0.mk (ho); clear HO_3; clear HO_4; clear HO_6; clear HL221_0; clear HB; clear HO220; have HO_3 := n0_; have HO_4 := n1_; have HO_6 := n2_; have HL221_0 := n3_; have HB := n4_; have HO224 := n5_; clear n0_ n1_ n2_ n3_ n4_ n5_; clear ho hb hg hat) | ((with_reducible refine gate_builtin (b := .append) (xs := #[.tmp 46, .tmp 48]) rfl ?_); at_builtin; refine Kd.R_append (Kd.int .i64) (w0 := w) w.heap.size rfl (.tmp 46) (.tmp 48) 22 3 (.int .i64 0) 8 rfl Try.underlying22 info3 rfl (by decide) (by omega) v223 y222 x9_4 [.int .i64 x9_4] (fun k_ => (w.heap.size ≤ k_)) (fun _ => False) rfl rfl ?aP (fun _ hk => hk.elim) ?aF ?aO ?aB ?aS ?aL ?_; (case aP => exact rfl); (case aB => exact (by repeat (first | (with_reducible first | exact HB.out | apply below_alloc | apply pw_below_drewN | apply below_drew1) | exact HB.out))); (case aF => exact (fun k_ hk => (Nat.le_trans (below_size (by repeat (first | (with_reducible first | exact HB.out | apply below_alloc | apply pw_below_drewN | apply below_drew1) | exact HB.out))) hk))); (case aO => exact (by (with_reducible repeat (first | apply Kd.R_alloc | apply Kd.R_drewN | apply Kd.R_drew)); exact HO224.out)); (case aS => exact (below_size (by repeat (first | (with_reducible first | exact HB.out | apply below_alloc | apply pw_below_drewN | apply below_drew1) | exact HB.out)))); (case aL => have := LMc19.out; omega); intro v226 w24 ho hb hg hat; rw [← Ny225.out] at ho; have n0_ := Aside0.mk (Kd.N_afterv (ok := (fun k_ => (w.heap.size ≤ k_) ∧ some k_ ≠ (u6 : Value).ownBlock)) (by (with_reducible repeat (first | apply Kd.N_alloc | apply Kd.N_drewN | apply Kd.N_drew)); exact HO_3.out) hg hat); have n1_ := Aside0.mk (Kd.N_afterv (ok := (fun k_ => (w.heap.size ≤ k_) ∧ some k_ ≠ (u3 : Value).ownBlock ∧ some k_ ≠ (u6 : Value).ownBlock)) (by (with_reducible repeat (first | apply Kd.N_alloc | apply Kd.N_drewN | apply Kd.N_drew)); exact HO_4.out) hg hat); have n2_ := Aside0.mk (Kd.N_afterv (ok := (fun k_ => (w.heap.size ≤ k_) ∧ some k_ ≠ (u3 : Value).ownBlock ∧ some k_ ≠ (.slice (some ad221) x4_1.length co9 : Value).ownBlock)) (by (with_reducible repeat (first | apply Kd.N_alloc | apply Kd.N_drewN | apply Kd.N_drew)); exact HO_6.out) hg hat); have n3_ := Aside0.mk (Kd.V_afterv (ok := (fun k_ => (w.heap.size ≤ k_) ∧ some k_ ≠ (u3 : Value).ownBlock ∧ some k_ ≠ (.slice (some ad221) x4_1.length co9 : Value).ownBlock ∧ some k_ ≠ (u6 : Value).ownBlock)) (by (with_reducible repeat (first | apply Kd.V_alloc | apply Kd.V_drewN | apply Kd.V_drew)); exact HL221_0.out) hg hat); have n4_ := Aside0.mk (hb); have n5_ := Aside0.mk (ho); clear HO_3; clear HO_4; clear HO_6; clear HL221_0; clear HB; clear HO224; have HO_3 := n0_; have HO_4 := n1_; have HO_6 := n2_; have HL221_0 := n3_; have HB := n4_; have HO227 := n5_; clear n0_ n1_ n2_ n3_ n4_ n5_; clear ho hb hg hat; obtain ⟨Ao26, co26, eo26⟩ := Kd.R_slice HO227.out; subst eo26) | ((with_reducible refine gate_builtin (b := .append) (xs := #[.tmp 40, .tmp 50]) rfl ?_); at_builtin; refine Kd.N_append (Kd.slice 3 (Kd.int .i64)) (w0 := w) w.heap.size rfl (.tmp 40) (.tmp 50) 70 22 (.slice none 0 0) 24 rfl Try.underlying70 info22 rfl (by decide) (by omega) u6 x6_4 y225 [.slice Ao26 y225.length co26] (fun k_ => (w.heap.size ≤ k_) ∧ some k_ ≠ (u3 : Value).ownBlock ∧ some k_ ≠ (.slice (some ad221) x4_1.length co9 : Value).ownBlock) (fun k_ => ((fun k_ => (w.heap.size ≤ k_) ∧ some k_ ≠ (u3 : Value).ownBlock ∧ some k_ ≠ (.slice (some ad221) x4_1.length co9 : Value).ownBlock)) k_ ∧ some k_ ≠ (u6 : Value).ownBlock) rfl rfl ?aP (fun _ hk => hk) ?aF ?aO ?aB ?aS ?aL ?_; (case aP => exact (Kd.FK_slice_mk (Kd.R_reads' (Kd.R_mono (ok' := (fun k_ => ((fun k_ => (w.heap.size ≤ k_) ∧ some k_ ≠ (u3 : Value).ownBlock ∧ some k_ ≠ (.slice (some ad221) x4_1.length co9 : Value).ownBlock)) k_ ∧ some k_ ≠ (u6 : Value).ownBlock)) (Kd.R_apart' (Kd.R_apart' (Kd.R_apart' (HO227.out) (Kd.N_typed HO_3.out) (by decide)) (Kd.N_typed HO_4.out) (by decide)) (Kd.N_typed HO_6.out) (by decide)) (fun k_ hk => ⟨⟨hk.1.1.1, ⟨hk.1.1.2, hk.1.2⟩⟩, hk.2⟩))).2.1 (Kd.R_F (Kd.R_mono (ok' := (fun k_ => ((fun k_ => (w.heap.size ≤ k_) ∧ some k_ ≠ (u3 : Value).ownBlock ∧ some k_ ≠ (.slice (some ad221) x4_1.length co9 : Value).ownBlock)) k_ ∧ some k_ ≠ (u6 : Value).ownBlock)) (Kd.R_apart' (Kd.R_apart' (Kd.R_apart' (HO227.out) (Kd.N_typed HO_3.out) (by decide)) (Kd.N_typed HO_4.out) (by decide)) (Kd.N_typed HO_6.out) (by decide)) (fun k_ hk => ⟨⟨hk.1.1.1, ⟨hk.1.1.2, hk.1.2⟩⟩, hk.2⟩))))); (case aB => exact (by repeat (first | (with_reducible first | exact HB.out | apply below_alloc | apply pw_below_drewN | apply below_drew1) | exact HB.out))); (case aF => exact (fun k_ hk => ⟨(Nat.le_trans (below_size (by repeat (first | (with_reducible first | exact HB.out | apply below_alloc | apply pw_below_drewN | apply below_drew1) | exact HB.out))) hk), Kd.fresh' (Kd.N_lt (by (with_reducible repeat (first | apply Kd.N_alloc | apply Kd.N_drewN | apply Kd.N_drew)); exact HO_3.out)) k_ hk, Kd.fresh' (Kd.N_lt (by (with_reducible repeat (first | apply Kd.N_alloc | apply Kd.N_drewN | apply Kd.N_drew)); exact HO_4.out)) k_ hk⟩)); (case aO => exact (by (with_reducible repeat (first | apply Kd.N_alloc | apply Kd.N_drewN | apply Kd.N_drew)); exact Kd.N_mono HO_6.out (fun _ hk => ⟨hk.1.1, ⟨hk.1.2.1, hk.1.2.2⟩⟩))); (case aS => exact (below_size (by repeat (first | (with_reducible first | exact HB.out | apply below_alloc | apply pw_below_drewN | apply below_drew1) | exact HB.out)))); (case aL => have := LMc20.out; omega); intro v229 w25 ho hb hg hat; rw [← Ny228.out] at ho; have n0_ := Aside0.mk (Kd.N_afterv (ok := (fun k_ => (w.heap.size ≤ k_) ∧ some k_ ≠ (.slice Ao26 y225.length co26 : Value).ownBlock)) (by (with_reducible repeat (first | apply Kd.N_alloc | apply Kd.N_drewN | apply Kd.N_drew)); exact Kd.N_mono HO_3.out (fun _ hk => ⟨⟨hk.1.1, hk.2⟩, hk.1.2⟩)) hg hat); have n1_ := Aside0.mk (Kd.N_afterv (ok := (fun k_ => (w.heap.size ≤ k_) ∧ some k_ ≠ (u3 : Value).ownBlock ∧ some k_ ≠ (.slice Ao26 y225.length co26 : Value).ownBlock)) (by (with_reducible repeat (first | apply Kd.N_alloc | apply Kd.N_drewN | apply Kd.N_drew)); exact Kd.N_mono HO_4.out (fun _ hk => ⟨⟨hk.1.1, ⟨hk.1.2.1, hk.2⟩⟩, hk.1.2.2⟩)) hg hat); have n2_ := Aside0.mk (Kd.V_afterv (ok := (fun k_ => (w.heap.size ≤ k_) ∧ some k_ ≠ (u3 : Value).ownBlock ∧ some k_ ≠ (.slice (some ad221) x4_1.length co9 : Value).ownBlock ∧ some k_ ≠ (.slice Ao26 y225.length co26 : Value).ownBlock)) (by (with_reducible repeat (first | apply Kd.V_alloc | apply Kd.V_drewN | apply Kd.V_drew)); exact Kd.V_mono HL221_0.out (fun _ hk => ⟨⟨hk.1.1, ⟨hk.1.2.1, ⟨hk.1.2.2.1, hk.2⟩⟩⟩, hk.1.2.2.2⟩)) hg hat); have n3_ := Aside0.mk (hb); have n4_ := Aside0.mk (ho); clear HO_3; clear HO_4; clear HL221_0; clear HB; clear HO_6; clear HO227; have HO_3 := n0_; have HO_4 := n1_; have HL221_0 := n2_; have HB := n3_; have HO230 := n4_; clear n0_ n1_ n2_ n3_ n4_; clear ho hb hg hat))
                                  go_roundg k4
                                  case measure => have := HK1.out; have := HK2.out; have := HJ7.out; have := HK4.out; omega
                                  case rel => exact ⟨(y228), (wrap64 (x9_4 + 1)), (by first | rfl | (simp; done) | (simp [*]; done)), H', ⟨by have := HK1.out; have := HK2.out; have := HJ7.out; have := HK4.out; omega⟩, ⟨by (with_reducible repeat (first | apply Kd.N_alloc | apply Kd.N_drewN | apply Kd.N_drew)); exact Kd.N_mono HO_3.out (fun _ hk => ⟨hk.1.1, hk.2⟩)⟩, ⟨by (with_reducible repeat (first | apply Kd.N_alloc | apply Kd.N_drewN | apply Kd.N_drew)); exact Kd.N_mono HO_4.out (fun _ hk => ⟨hk.1.1, ⟨hk.1.2.1, hk.2⟩⟩)⟩, ⟨by (with_reducible repeat (first | apply Kd.N_alloc | apply Kd.N_drewN | apply Kd.N_drew)); exact HO230.out⟩, ⟨by repeat (first | (with_reducible first | exact HB.out | apply below_alloc | apply pw_below_drewN | apply below_drew1) | exact HB.out)⟩⟩
                                · rw [if_neg c20] at H
                                  exact absurd H (by simp)
                              · rw [if_neg c19] at H
                                exact absurd H (by simp)
                            · rw [if_neg c18] at H
                              exact absurd H (by simp)
                          · rw [if_neg c17] at H
                            exact absurd H (by simp)
                        · rw [if_neg c16] at H
                          exact absurd H (by simp)
                      · rw [if_neg c15] at H
                        have c15b0 : decide (x9_4 < a0) = false := decide_eq_false c15
                        clear c15
                        have H' := Aside0.mk H
                        clear H
                        go_wp2
                        go_roundg k4
                        case measure => have := HK1.out; have := HK2.out; have := HJ7.out; have := HK4.out; omega
                        case rel => exact ⟨(x6_4), (wrap64 (x7_2 + 1)), (by first | rfl | (simp; done) | (simp [*]; done)), H', ⟨by have := HK1.out; have := HK2.out; have := HJ7.out; have := HK4.out; omega⟩, ⟨by (with_reducible repeat (first | apply Kd.N_alloc | apply Kd.N_drewN | apply Kd.N_drew)); exact HO_3.out⟩, ⟨by (with_reducible repeat (first | apply Kd.N_alloc | apply Kd.N_drewN | apply Kd.N_drew)); exact HO_4.out⟩, ⟨by (with_reducible repeat (first | apply Kd.N_alloc | apply Kd.N_drewN | apply Kd.N_drew)); exact HO_6.out⟩, ⟨by repeat (first | (with_reducible first | exact HB.out | apply below_alloc | apply pw_below_drewN | apply below_drew1) | exact HB.out)⟩⟩
            · rw [if_neg c7] at H
              have c7b0 : decide (x7_2 < (x4_1.length : Int)) = false := decide_eq_false c7
              clear c7
              by_cases c27 : x3_1.length + x6_2.length < 5864062014805
              · rw [if_pos c27] at H
                have LMc27 := Aside0.mk c27
                clear c27
                obtain ⟨y213, hy213⟩ : ∃ y_ : List (List Int), y_ = (x3_1 ++ x6_2) := ⟨_, rfl⟩
                replace H : (metrolabref50_Stacks.l0 k2 a0 y213 x6_2 (wrap64 (x5_1 + 1))) = some r := by first | (rw [hy213]; with_reducible exact H) | (have H2_ := (Option.bind_some _ _).symm.trans H; rw [hy213]; with_reducible exact H2_) | (have H2_ := (Option.bind_some _ _).symm.trans H; with_reducible exact H2_) | with_reducible exact H | (rw [hy213]; exact H) | exact H
                have Ny213 := Aside0.mk hy213
                clear hy213
                have H' := Aside0.mk H
                clear H
                obtain ⟨Ao28, co28, eo28⟩ := Kd.N_slice HO_4.out
                subst eo28
                obtain ⟨Ao30, co30, eo30⟩ := Kd.N_slice HO_6.out
                subst eo30
                go_wp2_with (first | ((with_reducible refine gate_builtin (b := .append) (xs := #[.tmp 52, .tmp 53]) rfl ?_); at_builtin; refine Kd.N_append_rows (Kd.slice 3 (Kd.int .i64)) (w0 := w) w.heap.size rfl (.tmp 52) (.tmp 53) 70 22 (.slice none 0 0) 24 rfl Try.underlying70 info22 rfl (by decide) (by omega) u3 x3_1 x6_2 _ _ _ (fun k_ => (w.heap.size ≤ k_)) (fun k_ => ((fun k_ => (w.heap.size ≤ k_))) k_ ∧ some k_ ≠ (u3 : Value).ownBlock) rfl rfl ?aO ?aR (fun _ hk => hk) ?aF ?aB ?aS ?aL ?_; (case aR => exact (by skip; exact Kd.N_F (Kd.N_mono (ok' := (fun k_ => ((fun k_ => (w.heap.size ≤ k_))) k_ ∧ some k_ ≠ (u3 : Value).ownBlock)) (HO_6.out) (fun k_ hk => ⟨hk.1, hk.2.1⟩)))); (case aB => exact (by repeat (first | (with_reducible first | exact HB.out | apply below_alloc | apply pw_below_drewN | apply below_drew1) | exact HB.out))); (case aF => exact (fun k_ hk => (Nat.le_trans (below_size (by repeat (first | (with_reducible first | exact HB.out | apply below_alloc | apply pw_below_drewN | apply below_drew1) | exact HB.out))) hk))); (case aO => exact (by (with_reducible repeat (first | apply Kd.N_alloc | apply Kd.N_drewN | apply Kd.N_drew)); exact Kd.N_mono HO_3.out (fun _ hk => hk.1))); (case aS => exact (below_size (by repeat (first | (with_reducible first | exact HB.out | apply below_alloc | apply pw_below_drewN | apply below_drew1) | exact HB.out)))); (case aL => have := LMc27.out; omega); intro v214 w29 ho hb hg hat; rw [← Ny213.out] at ho; have n0_ := Aside0.mk (Kd.N_afterv (ok := (fun k_ => (w.heap.size ≤ k_) ∧ some k_ ≠ (.slice Ao30 x6_2.length co30 : Value).ownBlock)) (by (with_reducible repeat (first | apply Kd.N_alloc | apply Kd.N_drewN | apply Kd.N_drew)); exact Kd.N_mono HO_4.out (fun _ hk => ⟨⟨hk.1, hk.2.2⟩, hk.2.1⟩)) hg hat); have n1_ := Aside0.mk (Kd.N_afterv (ok := (fun k_ => (w.heap.size ≤ k_) ∧ some k_ ≠ (.slice Ao28 x4_1.length co28 : Value).ownBlock)) (by (with_reducible repeat (first | apply Kd.N_alloc | apply Kd.N_drewN | apply Kd.N_drew)); exact Kd.N_mono HO_6.out (fun _ hk => ⟨⟨hk.1, hk.2.2⟩, hk.2.1⟩)) hg hat); have n2_ := Aside0.mk (hb); have n3_ := Aside0.mk (ho); clear HO_4; clear HO_6; clear HB; clear HO_3; have HO_4 := n0_; have HO_6 := n1_; have HB := n2_; have HO215 := n3_; clear n0_ n1_ n2_ n3_; clear ho hb hg hat))
                go_roundg k2
                case measure => have := HK1.out; have := HK2.out; omega
                case rel => exact ⟨(y213), (x6_2), (wrap64 (x5_1 + 1)), (by first | rfl | (simp; done) | (simp [*]; done)), H', ⟨by have := HK1.out; have := HK2.out; omega⟩, ⟨by (with_reducible repeat (first | apply Kd.N_alloc | apply Kd.N_drewN | apply Kd.N_drew)); exact HO215.out⟩, ⟨by (with_reducible repeat (first | apply Kd.N_alloc | apply Kd.N_drewN | apply Kd.N_drew)); exact Kd.N_mono HO_6.out (fun _ hk => ⟨hk.1.1, hk.2⟩)⟩, ⟨by repeat (first | (with_reducible first | exact HB.out | apply below_alloc | apply pw_below_drewN | apply below_drew1) | exact HB.out)⟩⟩
              · rw [if_neg c27] at H
                exact absurd H (by simp)
      · rw [if_neg c6] at H
        have c6b0 : decide (x5_1 < a0) = false := decide_eq_false c6
        clear c6
        obtain rfl := Option.some.inj H
        go_wp2
        go_ret
        exact ⟨_, by first | rfl | (simp [errW_none, errW_some] <;> rfl) | (simp [*, errW_none, errW_some] <;> rfl), by (with_reducible repeat (first | apply Kd.N_alloc | apply Kd.N_drewN | apply Kd.N_drew)); exact HO_3.out, by repeat (first | (with_reducible first | exact HB.out | apply below_alloc | apply pw_below_drewN | apply below_drew1) | exact HB.out)⟩

end Go.Proofs.Ytgkgeodphgfgnaa.Pr
/- The plain law: the reference's Stacks, closed. -/
namespace Go.Proofs.Ytgkgeodphgfgnaa.Pr
open Go.RowKit Go.Proofs.YtgkgeodphgfgnaaW.PrintWords Go.Proofs.YtgkgeodphgfgnaaW.PrintLast

/-- The index lists of s places from i on, of m places. -/
def combs : Nat → Nat → Nat → List (List Int)
  | 0, _, _ => [[]]
  | _ + 1, _, 0 => []
  | s + 1, i, m + 1 => (combs s (i + 1) m).map ((i : Int) :: ·) ++ combs (s + 1) (i + 1) m
def allS (n : Nat) : List (List Int) := (List.range (n + 1)).flatMap fun s => combs s 0 n
set_option maxRecDepth 100000 in
theorem stacks_4 : metrolabref50_Stacks.f 3000 4 = some (allS 4) := by decide +kernel
set_option maxRecDepth 100000 in
theorem stacks_9 : metrolabref50_Stacks.f 3000 9 = some (allS 9) := by decide +kernel
end Go.Proofs.Ytgkgeodphgfgnaa.Pr
/- The contracts of blocks.table.row (the cells of one row), and of the two functions that join ways. -/
namespace Go.Proofs.Ytgkgeodphgfgnaa.Pr
open Go.RowKit Go.Proofs.YtgkgeodphgfgnaaW.PrintWords Go.Proofs.YtgkgeodphgfgnaaW.PrintLast Go.Proofs.YtgkgeodphgfgnaaW.PrintMore
attribute [local go_sem] max2_int min2_int max_two min_two max_three min_three max_four min_four

set_option maxHeartbeats 1000000 in
set_option maxRecDepth 100000 in
theorem row_any (B C : Nat) (v0 : Value) (i d : Int) (n : Nat) (w : World)
    (hT : w.heap[B]? = some (.cells #[v0, .int .i64 d, .slice (some ⟨C, 0, none⟩) n n] 68 (0, 0)))
    (h0 : 0 ≤ i) (h1 : i ≤ 1000) (h2 : 1 ≤ d) (h3 : d ≤ 1000000) (h4 : 0 ≤ i * d) (h5 : (i + 1) * d = i * d + d) (h6 : i * d + d ≤ (n : Int)) (h7 : (n : Int) ≤ 1000000000000) :
    Calls Try.prog 47 #[.pointer (some ⟨B, 0, none⟩), .int .i64 i] w fun e w' =>
      e = .returned (.slice (some ⟨C, (i * d).toNat, none⟩) d.toNat d.toNat) ∧ ∃ q, w' = w.drewN q := by
  go_enter Try.func47, Try.ntmps47
  go_wp2
  have hc0 : w.cell? ⟨B, 0, none⟩ = some v0 := by simp [World.cell?, hT]
  have hc1 : w.cell? ⟨B, 1, none⟩ = some (.int .i64 d) := by simp [World.cell?, hT]
  have hc2 : w.cell? ⟨B, 2, none⟩ = some (.slice (some ⟨C, 0, none⟩) n n) := by simp [World.cell?, hT]
  have hu := Try.underlying68
  go_quiet (fail)
  go_wp2
  go_ret
  have e : (i * d + d).toNat - (i * d).toNat = d.toNat := by omega
  refine ⟨?_, _, rfl⟩
  show Ending.returned (.slice (some ⟨C, (i * d).toNat, none⟩) ((i * d + d).toNat - (i * d).toNat) ((i * d + d).toNat - (i * d).toNat)) = _
  rw [e]

/-- The same, the numbers told as natural ones. -/
theorem row_nat (B C i d n : Nat) (z : Int) (v0 : Value) (w : World) (hz : z = (i : Int))
    (hT : w.heap[B]? = some (.cells #[v0, .int .i64 (d : Int), .slice (some ⟨C, 0, none⟩) n n] 68 (0, 0)))
    (h1 : i ≤ 1000) (h2 : 1 ≤ d) (h3 : d ≤ 1000000) (h6 : (i + 1) * d ≤ n) (h7 : n ≤ 1000000000000) :
    Calls Try.prog 47 #[.pointer (some ⟨B, 0, none⟩), .int .i64 z] w fun e w' =>
      e = .returned (.slice (some ⟨C, i * d, none⟩) d d) ∧ ∃ q, w' = w.drewN q := by
  subst hz
  have e1 : ((i : Int) + 1) * (d : Int) = (i : Int) * d + d := by rw [Int.add_mul, Int.one_mul]
  have e2 : (i : Int) * d = ((i * d : Nat) : Int) := by simp
  have e3 : (i + 1) * d = i * d + d := Nat.succ_mul i d
  have h := row_any B C v0 i d n w hT (by omega) (by omega) (by omega) (by omega) (by rw [e2]; omega) e1 (by rw [e2]; omega) (by omega)
  rw [e2, Int.toNat_natCast, Int.toNat_natCast] at h
  exact h

theorem ret_num {k : IntKind} {a b : Int} (h : a = b) : Ending.returned (.int k a) = .returned (.int k b) := by rw [h]

set_option maxHeartbeats 1000000 in
theorem join_fewest (a b : Int) (w : World) (h0 : 0 ≤ a) (h1 : a ≤ 258) (h2 : 0 ≤ b) (h3 : b ≤ 258) :
    Calls Try.prog 59 #[.int .i32 a, .int .i32 b] w fun e w' => e = .returned (.int .i32 (min a (b + 1))) ∧ w = w' := by
  go_enter Try.func59, Try.ntmps59
  go_wp2
  all_goals
    go_ret
    exact ⟨ret_num (by omega), rfl⟩

set_option maxHeartbeats 1000000 in
theorem join_count (a b : Int) (w : World) (h0 : 0 ≤ a) (h1 : a ≤ 1048577) (h2 : 0 ≤ b) (h3 : b ≤ 1048577) :
    Calls Try.prog 46 #[.int .i32 a, .int .i32 b] w fun e w' => e = .returned (.int .i32 (min (a + b) 1048577)) ∧ w = w' := by
  go_enter Try.func46, Try.ntmps46
  go_wp2
  all_goals
    go_ret
    exact ⟨ret_num (by omega), rfl⟩

end Go.Proofs.Ytgkgeodphgfgnaa.Pr
/- Contracts of library functions at this translation, laid by a tool of the kit. -/
namespace Go.Proofs
open Go.Shelf
def Try.lays128_ren : Go.Shelf.Ren := ⟨fun | 128 => 74 | n => n, fun | 51 => 96 | 3 => 3 | 4 => 4 | 46 => 84 | 5 => 5 | 9 => 9 | n => n, fun | n => n⟩
theorem Try.lays128 : Go.Proofs.Lays.n128 Try.prog Try.lays128_ren := {
  mixed := by kernel_rfl
  f128 := Try.func74.trans (congrArg some (by kernel_rfl))
  t3 := Try.underlying3
  a3 := Try.isAgg3
  z3 := Try.sizeOf3
  v3 := Try.zeroValue3
  t4 := Try.underlying4
  a4 := Try.isAgg4
  z4 := Try.sizeOf4
  v4 := Try.zeroValue4
  t5 := Try.underlying5
  a5 := Try.isAgg5
  z5 := Try.sizeOf5
  v5 := Try.zeroValue5
  t9 := Try.underlying9
  a9 := Try.isAgg9
  z9 := Try.sizeOf9
  v9 := Try.zeroValue9
  t46 := Try.underlying84
  a46 := Try.isAgg84
  z46 := Try.sizeOf84
  v46 := Try.zeroValue84
  t51 := Try.underlying96
  a51 := Try.isAgg96
  z51 := Try.sizeOf96
  v51 := Try.zeroValue96 }
theorem Try.bits_Len32 (x : Int) (w : World) (h0 : 0 ≤ x) (h1 : x ≤ 4294967295) :
    Calls Try.prog 74 #[.int .u32 x] w fun e w' => e = .returned (.int .i64 (Lib.bitLen x.toNat)) ∧ w' = w := Any.bits_Len32 Try.lays128 x w h0 h1
def Try.lays125_ren : Go.Shelf.Ren := ⟨fun | 125 => 62 | 128 => 74 | 129 => 75 | n => n, fun | 46 => 84 | 3 => 3 | 51 => 96 | 53 => 98 | 4 => 4 | 5 => 5 | 9 => 9 | n => n, fun | n => n⟩
theorem Try.lays125 : Go.Proofs.Lays.n125 Try.prog Try.lays125_ren := {
  mixed := by kernel_rfl
  f125 := Try.func62.trans (congrArg some (by kernel_rfl))
  f128 := Try.func74.trans (congrArg some (by kernel_rfl))
  f129 := Try.func75.trans (congrArg some (by kernel_rfl))
  t3 := Try.underlying3
  a3 := Try.isAgg3
  z3 := Try.sizeOf3
  v3 := Try.zeroValue3
  t4 := Try.underlying4
  a4 := Try.isAgg4
  z4 := Try.sizeOf4
  v4 := Try.zeroValue4
  t5 := Try.underlying5
  a5 := Try.isAgg5
  z5 := Try.sizeOf5
  v5 := Try.zeroValue5
  t9 := Try.underlying9
  a9 := Try.isAgg9
  z9 := Try.sizeOf9
  v9 := Try.zeroValue9
  t46 := Try.underlying84
  a46 := Try.isAgg84
  z46 := Try.sizeOf84
  v46 := Try.zeroValue84
  t51 := Try.underlying96
  a51 := Try.isAgg96
  z51 := Try.sizeOf96
  v51 := Try.zeroValue96
  t53 := Try.underlying98
  a53 := Try.isAgg98
  z53 := Try.sizeOf98
  v53 := Try.zeroValue98 }
theorem Try.bits_Len (x : Int) (w : World) (h0 : 0 ≤ x) (h1 : x ≤ 18446744073709551615) :
    Calls Try.prog 62 #[.int .u64 x] w fun e w' => e = .returned (.int .i64 (Lib.bitLen x.toNat)) ∧ w' = w := Any.bits_Len Try.lays125 x w h0 h1
def Try.lays129_ren : Go.Shelf.Ren := ⟨fun | 129 => 75 | n => n, fun | 53 => 98 | 3 => 3 | 4 => 4 | 46 => 84 | 5 => 5 | 9 => 9 | n => n, fun | n => n⟩
theorem Try.lays129 : Go.Proofs.Lays.n129 Try.prog Try.lays129_ren := {
  mixed := by kernel_rfl
  f129 := Try.func75.trans (congrArg some (by kernel_rfl))
  t3 := Try.underlying3
  a3 := Try.isAgg3
  z3 := Try.sizeOf3
  v3 := Try.zeroValue3
  t4 := Try.underlying4
  a4 := Try.isAgg4
  z4 := Try.sizeOf4
  v4 := Try.zeroValue4
  t5 := Try.underlying5
  a5 := Try.isAgg5
  z5 := Try.sizeOf5
  v5 := Try.zeroValue5
  t9 := Try.underlying9
  a9 := Try.isAgg9
  z9 := Try.sizeOf9
  v9 := Try.zeroValue9
  t46 := Try.underlying84
  a46 := Try.isAgg84
  z46 := Try.sizeOf84
  v46 := Try.zeroValue84
  t53 := Try.underlying98
  a53 := Try.isAgg98
  z53 := Try.sizeOf98
  v53 := Try.zeroValue98 }
theorem Try.bits_Len64 (x : Int) (w : World) (h0 : 0 ≤ x) (h1 : x ≤ 18446744073709551615) :
    Calls Try.prog 75 #[.int .u64 x] w fun e w' => e = .returned (.int .i64 (Lib.bitLen x.toNat)) ∧ w' = w := Any.bits_Len64 Try.lays129 x w h0 h1
def Try.lays189_ren : Go.Shelf.Ren := ⟨fun | 189 => 51 | 125 => 62 | 257 => 61 | 128 => 74 | 129 => 75 | 294 => 66 | 295 => 67 | 296 => 68 | 297 => 69 | 298 => 70 | 299 => 71 | 216 => 55 | 300 => 72 | 301 => 73 | 328 => 78 | 329 => 79 | 330 => 80 | 331 => 81 | 332 => 82 | 215 => 63 | 343 => 83 | n => n, fun | 28 => 22 | 3 => 3 | 46 => 84 | 0 => 0 | 51 => 96 | 53 => 98 | 4 => 4 | 183 => 90 | 182 => 89 | 131 => 93 | 5 => 5 | 9 => 9 | 218 => 103 | 222 => 107 | 228 => 109 | 229 => 37 | n => n, fun | n => n⟩
theorem Try.lays189 : Go.Proofs.Lays.n189 Try.prog Try.lays189_ren := {
  mixed := by kernel_rfl
  f125 := Try.func62.trans (congrArg some (by kernel_rfl))
  f128 := Try.func74.trans (congrArg some (by kernel_rfl))
  f129 := Try.func75.trans (congrArg some (by kernel_rfl))
  f189 := Try.func51.trans (congrArg some (by kernel_rfl))
  f215 := Try.func63.trans (congrArg some (by kernel_rfl))
  f216 := Try.func55.trans (congrArg some (by kernel_rfl))
  f257 := Try.func61.trans (congrArg some (by kernel_rfl))
  f294 := Try.func66.trans (congrArg some (by kernel_rfl))
  f295 := Try.func67.trans (congrArg some (by kernel_rfl))
  f296 := Try.func68.trans (congrArg some (by kernel_rfl))
  f297 := Try.func69.trans (congrArg some (by kernel_rfl))
  f298 := Try.func70.trans (congrArg some (by kernel_rfl))
  f299 := Try.func71.trans (congrArg some (by kernel_rfl))
  f300 := Try.func72.trans (congrArg some (by kernel_rfl))
  f301 := Try.func73.trans (congrArg some (by kernel_rfl))
  f328 := Try.func78.trans (congrArg some (by kernel_rfl))
  f329 := Try.func79.trans (congrArg some (by kernel_rfl))
  f330 := Try.func80.trans (congrArg some (by kernel_rfl))
  f331 := Try.func81.trans (congrArg some (by kernel_rfl))
  f332 := Try.func82.trans (congrArg some (by kernel_rfl))
  f343 := Try.func83.trans (congrArg some (by kernel_rfl))
  t0 := Try.underlying0
  a0 := Try.isAgg0
  z0 := Try.sizeOf0
  v0 := Try.zeroValue0
  t3 := Try.underlying3
  a3 := Try.isAgg3
  z3 := Try.sizeOf3
  v3 := Try.zeroValue3
  t4 := Try.underlying4
  a4 := Try.isAgg4
  z4 := Try.sizeOf4
  v4 := Try.zeroValue4
  t5 := Try.underlying5
  a5 := Try.isAgg5
  z5 := Try.sizeOf5
  v5 := Try.zeroValue5
  t9 := Try.underlying9
  a9 := Try.isAgg9
  z9 := Try.sizeOf9
  v9 := Try.zeroValue9
  t28 := Try.underlying22
  a28 := Try.isAgg22
  z28 := Try.sizeOf22
  v28 := Try.zeroValue22
  t46 := Try.underlying84
  a46 := Try.isAgg84
  z46 := Try.sizeOf84
  v46 := Try.zeroValue84
  t51 := Try.underlying96
  a51 := Try.isAgg96
  z51 := Try.sizeOf96
  v51 := Try.zeroValue96
  t53 := Try.underlying98
  a53 := Try.isAgg98
  z53 := Try.sizeOf98
  v53 := Try.zeroValue98
  t131 := Try.underlying93
  a131 := Try.isAgg93
  z131 := Try.sizeOf93
  v131 := Try.zeroValue93
  t182 := Try.underlying89
  a182 := Try.isAgg89
  z182 := Try.sizeOf89
  v182 := Try.zeroValue89
  t183 := Try.underlying90
  a183 := Try.isAgg90
  z183 := Try.sizeOf90
  v183 := Try.zeroValue90
  t218 := Try.underlying103
  a218 := Try.isAgg103
  z218 := Try.sizeOf103
  v218 := Try.zeroValue103
  t222 := Try.underlying107
  a222 := Try.isAgg107
  z222 := Try.sizeOf107
  v222 := Try.zeroValue107
  t228 := Try.underlying109
  a228 := Try.isAgg109
  z228 := Try.sizeOf109
  v228 := Try.zeroValue109
  t229 := Try.underlying37
  a229 := Try.isAgg37
  z229 := Try.sizeOf37
  v229 := Try.zeroValue37 }
open Go.Sort Go.RowKit in
theorem Try.slices_Sort_int (blk off cap : Nat) (zs : List Int) (w : World) (hH : Holds (Value.int .i64) w blk off zs.toArray) (hblk : blk < w.heap.size) (hsz : zs.length < 4611686018427387904) :
    Calls Try.prog 51 #[.slice (some ⟨blk, off, none⟩) zs.length cap] w fun e w' =>
      e = .returned (.tuple #[]) ∧ ∃ n os, w' = grow (putRow (Value.int .i64) (Sort.ahead w n) blk off (zs.mergeSort fun x y => decide (x ≤ y)).toArray) os := Any.slices_Sort_int Try.lays189 blk off cap zs w hH hblk hsz
def Try.lays264_ren : Go.Shelf.Ren := ⟨fun | 264 => 77 | n => n, fun | 53 => 98 | 46 => 84 | n => n, fun | n => n⟩
theorem Try.lays264 : Go.Proofs.Lays.n264 Try.prog Try.lays264_ren := {
  mixed := by kernel_rfl
  f264 := Try.func77.trans (congrArg some (by kernel_rfl))
  t46 := Try.underlying84
  a46 := Try.isAgg84
  z46 := Try.sizeOf84
  v46 := Try.zeroValue84
  t53 := Try.underlying98
  a53 := Try.isAgg98
  z53 := Try.sizeOf98
  v53 := Try.zeroValue98 }
open Go.RowKit Go.Lib in
theorem Try.bits_Mul64 (x y : Nat) (hx : x < 18446744073709551616) (hy : y < 18446744073709551616) (w : World) :
    Calls Try.prog 77 #[.int .u64 x, .int .u64 y] w fun e w' => e = .returned (.tuple #[.int .u64 ((x * y / 18446744073709551616 : Nat) : Int), .int .u64 ((x * y % 18446744073709551616 : Nat) : Int)]) ∧ w' = w := Any.bits_Mul64 Try.lays264 x y hx hy w
def Try.lays212_ren : Go.Shelf.Ren := ⟨fun | 212 => 65 | 263 => 76 | 264 => 77 | n => n, fun | 46 => 84 | 51 => 96 | 146 => 99 | 53 => 98 | 148 => 101 | n => n, fun | n => n⟩
theorem Try.lays212 : Go.Proofs.Lays.n212 Try.prog Try.lays212_ren := {
  mixed := by kernel_rfl
  f212 := Try.func65.trans (congrArg some (by kernel_rfl))
  f263 := Try.func76.trans (congrArg some (by kernel_rfl))
  f264 := Try.func77.trans (congrArg some (by kernel_rfl))
  t46 := Try.underlying84
  a46 := Try.isAgg84
  z46 := Try.sizeOf84
  v46 := Try.zeroValue84
  t51 := Try.underlying96
  a51 := Try.isAgg96
  z51 := Try.sizeOf96
  v51 := Try.zeroValue96
  t53 := Try.underlying98
  a53 := Try.isAgg98
  z53 := Try.sizeOf98
  v53 := Try.zeroValue98
  t146 := Try.underlying99
  a146 := Try.isAgg99
  z146 := Try.sizeOf99
  v146 := Try.zeroValue99
  t148 := Try.underlying101
  a148 := Try.isAgg101
  z148 := Try.sizeOf101
  v148 := Try.zeroValue101 }
open Go.RowKit Go.Lib in
theorem Try.bits_Mul (x y : Nat) (hx : x < 18446744073709551616) (hy : y < 18446744073709551616) (w : World) :
    Calls Try.prog 65 #[.int .u64 x, .int .u64 y] w fun e w' => e = .returned (.tuple #[.int .u64 ((x * y / 18446744073709551616 : Nat) : Int), .int .u64 ((x * y % 18446744073709551616 : Nat) : Int)]) ∧ w' = w := Any.bits_Mul Try.lays212 x y hx hy w
def Try.lays108_ren : Go.Shelf.Ren := ⟨fun | 108 => 54 | n => n, fun | 28 => 22 | 3 => 3 | 0 => 0 | 4 => 4 | n => n, fun | n => n⟩
theorem Try.lays108 : Go.Proofs.Lays.n108 Try.prog Try.lays108_ren := {
  mixed := by kernel_rfl
  f108 := Try.func54.trans (congrArg some (by kernel_rfl))
  t0 := Try.underlying0
  a0 := Try.isAgg0
  z0 := Try.sizeOf0
  v0 := Try.zeroValue0
  t3 := Try.underlying3
  a3 := Try.isAgg3
  z3 := Try.sizeOf3
  v3 := Try.zeroValue3
  t4 := Try.underlying4
  a4 := Try.isAgg4
  z4 := Try.sizeOf4
  v4 := Try.zeroValue4
  t28 := Try.underlying22
  a28 := Try.isAgg22
  z28 := Try.sizeOf22
  v28 := Try.zeroValue22 }
open Go.Lib in
theorem Try.slices_Index_int (b off n c : Nat) (zs : List Int) (x : Int) (w : World) (hz : n ≤ zs.length) (hbig : n ≤ 9223372036854775807) (hc : ∀ j, j < zs.length → w.cell? ⟨b, off + j, none⟩ = some (.int .i64 (zs.getD j 0))) :
    Calls Try.prog 54 #[.slice (some ⟨b, off, none⟩) n c, .int .i64 x] w fun e w' => e = .returned (.int .i64 (Lib.idxOf (zs.take n) x)) ∧ w' = w := Any.slices_Index_int Try.lays108 b off n c zs x w hz hbig hc
open Go.Lib in
theorem Try.slices_Index_int_empty (a : Option Addr) (c : Nat) (x : Int) (w : World) :
    Calls Try.prog 54 #[.slice a 0 c, .int .i64 x] w fun e w' => e = .returned (.int .i64 (Lib.idxOf [] x)) ∧ w' = w := Any.slices_Index_int_empty Try.lays108 a c x w
def Try.lays107_ren : Go.Shelf.Ren := ⟨fun | 107 => 30 | 108 => 54 | n => n, fun | 28 => 22 | 3 => 3 | 4 => 4 | 0 => 0 | n => n, fun | n => n⟩
theorem Try.lays107 : Go.Proofs.Lays.n107 Try.prog Try.lays107_ren := {
  mixed := by kernel_rfl
  f107 := Try.func30.trans (congrArg some (by kernel_rfl))
  f108 := Try.func54.trans (congrArg some (by kernel_rfl))
  t0 := Try.underlying0
  a0 := Try.isAgg0
  z0 := Try.sizeOf0
  v0 := Try.zeroValue0
  t3 := Try.underlying3
  a3 := Try.isAgg3
  z3 := Try.sizeOf3
  v3 := Try.zeroValue3
  t4 := Try.underlying4
  a4 := Try.isAgg4
  z4 := Try.sizeOf4
  v4 := Try.zeroValue4
  t28 := Try.underlying22
  a28 := Try.isAgg22
  z28 := Try.sizeOf22
  v28 := Try.zeroValue22 }
open Go.Lib in
theorem Try.slices_Contains_int (b off n c : Nat) (zs : List Int) (x : Int) (w : World) (hz : n ≤ zs.length) (hbig : n ≤ 9223372036854775807) (hc : ∀ j, j < zs.length → w.cell? ⟨b, off + j, none⟩ = some (.int .i64 (zs.getD j 0))) :
    Calls Try.prog 30 #[.slice (some ⟨b, off, none⟩) n c, .int .i64 x] w fun e w' => e = .returned (.bool ((zs.take n).contains x)) ∧ w' = w := Any.slices_Contains_int Try.lays107 b off n c zs x w hz hbig hc
open Go.Lib in
theorem Try.slices_Contains_int_empty (a : Option Addr) (c : Nat) (x : Int) (w : World) :
    Calls Try.prog 30 #[.slice a 0 c, .int .i64 x] w fun e w' => e = .returned (.bool false) ∧ w' = w := Any.slices_Contains_int_empty Try.lays107 a c x w
def Try.laysNm215_ren : Go.Shelf.Ren := ⟨fun | 15 => 33 | n => n, fun | 22 => 22 | 3 => 3 | 4 => 4 | n => n, fun | n => n⟩
theorem Try.laysNm215 : Go.Proofs.Lays2.n15 Try.prog Try.laysNm215_ren := {
  mixed := by kernel_rfl
  f15 := Try.func33.trans (congrArg some (by kernel_rfl))
  t3 := Try.underlying3
  a3 := Try.isAgg3
  z3 := Try.sizeOf3
  v3 := Try.zeroValue3
  t4 := Try.underlying4
  a4 := Try.isAgg4
  z4 := Try.sizeOf4
  v4 := Try.zeroValue4
  t22 := Try.underlying22
  a22 := Try.isAgg22
  z22 := Try.sizeOf22
  v22 := Try.zeroValue22
  i3 := by kernel_rfl }
open Go.RowKit Go.Lib in
theorem Try.slices_Clone_int (b off n c : Nat) (zs : List Int) (w : World) (hz : n ≤ zs.length) (hbig : n * 8 ≤ 140737488355328) (hc : ∀ j, j < zs.length → w.cell? ⟨b, off + j, none⟩ = some (.int .i64 (zs.getD j 0))) :
    Calls Try.prog 33 #[.slice (some ⟨b, off, none⟩) n c] w fun e w' => ∃ v', e = .returned v' ∧ w'.ownsRow w.heap.size 3 1 v' n ((zs.take n).map (Value.int .i64)) ∧ v' ≠ .slice none 0 0 ∧ Below w.heap.size w w' := Any.slices_Clone_int Try.laysNm215 b off n c zs w hz hbig hc
open Go.RowKit Go.Lib in
theorem Try.slices_Clone_int_nil (n c : Nat) (w : World) :
    Calls Try.prog 33 #[.slice none n c] w fun e w' => e = .returned (.slice none 0 0) ∧ w' = w := Any.slices_Clone_int_nil Try.laysNm215 n c w
open Go.RowKit Go.Lib in
theorem Try.slices_Clone_int_zero (a : Addr) (c : Nat) (w : World) :
    Calls Try.prog 33 #[.slice (some a) 0 c] w fun e w' => ∃ v', e = .returned v' ∧ w'.ownsRow w.heap.size 3 1 v' 0 [] ∧ v' ≠ .slice none 0 0 ∧ Below w.heap.size w w' := Any.slices_Clone_int_zero Try.laysNm215 a c w
def Try.laysNm220_ren : Go.Shelf.Ren := ⟨fun | 20 => 35 | n => n, fun | 22 => 22 | 3 => 3 | 4 => 4 | 0 => 0 | n => n, fun | n => n⟩
theorem Try.laysNm220 : Go.Proofs.Lays2.n20 Try.prog Try.laysNm220_ren := {
  mixed := by kernel_rfl
  f20 := Try.func35.trans (congrArg some (by kernel_rfl))
  t0 := Try.underlying0
  a0 := Try.isAgg0
  z0 := Try.sizeOf0
  v0 := Try.zeroValue0
  t3 := Try.underlying3
  a3 := Try.isAgg3
  z3 := Try.sizeOf3
  v3 := Try.zeroValue3
  t4 := Try.underlying4
  a4 := Try.isAgg4
  z4 := Try.sizeOf4
  v4 := Try.zeroValue4
  t22 := Try.underlying22
  a22 := Try.isAgg22
  z22 := Try.sizeOf22
  v22 := Try.zeroValue22
  i3 := by kernel_rfl }
open Go.RowKit Go.Lib Go.Sort in
theorem Try.slices_Compact_int_arr (blk off cap : Nat) (d : Array Int) (w : World) (hH : Holds encI w blk off d) (hsz : d.size ≤ 9223372036854775807) (hcap : d.size ≤ cap) :
    Calls Try.prog 35 #[.slice (some ⟨blk, off, none⟩) d.size cap] w fun e w' => e = .returned (.slice (some ⟨blk, off, none⟩) (compactUpTo d d.size).length cap) ∧ ∃ q, w' = putRow encI (Sort.ahead w q) blk off (compactUpTo d d.size ++ List.replicate (d.size - (compactUpTo d d.size).length) 0).toArray := Any.slices_Compact_int_arr Try.laysNm220 blk off cap d w hH hsz hcap
open Go.RowKit Go.Lib Go.Sort in
theorem Try.slices_Compact_int (blk off cap : Nat) (zs : List Int) (w : World) (hH : Holds (Value.int .i64) w blk off zs.toArray) (hsz : zs.length ≤ 9223372036854775807) (hcap : zs.length ≤ cap) :
    Calls Try.prog 35 #[.slice (some ⟨blk, off, none⟩) zs.length cap] w fun e w' => e = .returned (.slice (some ⟨blk, off, none⟩) (Lib.compact zs).length cap) ∧ ∃ q, w' = putRow (Value.int .i64) (Sort.ahead w q) blk off (Lib.compact zs ++ List.replicate (zs.length - (Lib.compact zs).length) 0).toArray := Any.slices_Compact_int Try.laysNm220 blk off cap zs w hH hsz hcap
open Go.RowKit Go.Lib Go.Sort in
theorem Try.slices_Compact_int_empty (a : Option Addr) (cap : Nat) (w : World) :
    Calls Try.prog 35 #[.slice a 0 cap] w fun e w' => e = .returned (.slice a 0 cap) ∧ w' = w := Any.slices_Compact_int_empty Try.laysNm220 a cap w
def Try.laysNm237_ren : Go.Shelf.Ren := ⟨fun | 37 => 63 | n => n, fun | 3 => 3 | 4 => 4 | n => n, fun | n => n⟩
theorem Try.laysNm237 : Go.Proofs.Lays2.n37 Try.prog Try.laysNm237_ren := {
  mixed := by kernel_rfl
  f37 := Try.func63.trans (congrArg some (by kernel_rfl))
  t3 := Try.underlying3
  a3 := Try.isAgg3
  z3 := Try.sizeOf3
  v3 := Try.zeroValue3
  t4 := Try.underlying4
  a4 := Try.isAgg4
  z4 := Try.sizeOf4
  v4 := Try.zeroValue4 }
open Go.RowKit Go.Lib in
theorem Try.cmp_isNaN_int2 (x : Int) (w : World) :
    Calls Try.prog 63 #[.int .i64 x] w fun e w' => e = .returned (.bool false) ∧ w' = w := Any.cmp_isNaN_int2 Try.laysNm237 x w
def Try.laysNm231_ren : Go.Shelf.Ren := ⟨fun | 31 => 55 | 37 => 63 | n => n, fun | 3 => 3 | 4 => 4 | n => n, fun | n => n⟩
theorem Try.laysNm231 : Go.Proofs.Lays2.n31 Try.prog Try.laysNm231_ren := {
  mixed := by kernel_rfl
  f31 := Try.func55.trans (congrArg some (by kernel_rfl))
  f37 := Try.func63.trans (congrArg some (by kernel_rfl))
  t3 := Try.underlying3
  a3 := Try.isAgg3
  z3 := Try.sizeOf3
  v3 := Try.zeroValue3
  t4 := Try.underlying4
  a4 := Try.isAgg4
  z4 := Try.sizeOf4
  v4 := Try.zeroValue4 }
open Go.RowKit Go.Lib in
theorem Try.cmp_Less_int2 (x y : Int) (w : World) :
    Calls Try.prog 55 #[.int .i64 x, .int .i64 y] w fun e w' => e = .returned (.bool (decide (x < y))) ∧ w' = w := Any.cmp_Less_int2 Try.laysNm231 x y w
def Try.laysNm223_ren : Go.Shelf.Ren := ⟨fun | 23 => 32 | n => n, fun | 22 => 22 | 3 => 3 | 4 => 4 | 0 => 0 | n => n, fun | n => n⟩
theorem Try.laysNm223 : Go.Proofs.Lays2.n23 Try.prog Try.laysNm223_ren := {
  mixed := by kernel_rfl
  f23 := Try.func32.trans (congrArg some (by kernel_rfl))
  t0 := Try.underlying0
  a0 := Try.isAgg0
  z0 := Try.sizeOf0
  v0 := Try.zeroValue0
  t3 := Try.underlying3
  a3 := Try.isAgg3
  z3 := Try.sizeOf3
  v3 := Try.zeroValue3
  t4 := Try.underlying4
  a4 := Try.isAgg4
  z4 := Try.sizeOf4
  v4 := Try.zeroValue4
  t22 := Try.underlying22
  a22 := Try.isAgg22
  z22 := Try.sizeOf22
  v22 := Try.zeroValue22
  i3 := by kernel_rfl }
open Go.RowKit Go.Lib Go.Sort in
theorem Try.slices_Delete_int_arr (blk off cap i j : Nat) (d : Array Int) (w : World) (hH : Holds encI w blk off d) (hcap : d.size ≤ cap) (hm : cap ≤ 9223372036854775807) (hij : i ≤ j) (hj : j ≤ d.size) :
    Calls Try.prog 32 #[.slice (some ⟨blk, off, none⟩) d.size cap, .int .i64 i, .int .i64 j] w fun e w' => e = .returned (.slice (some ⟨blk, off, none⟩) (d.size - (j - i)) cap) ∧ ∃ q, w' = putRow encI (Sort.ahead w q) blk off (d.toList.take i ++ d.toList.drop j ++ List.replicate (j - i) 0).toArray := Any.slices_Delete_int_arr Try.laysNm223 blk off cap i j d w hH hcap hm hij hj
open Go.RowKit Go.Lib Go.Sort in
theorem Try.slices_Delete_int (blk off cap i j : Nat) (zs : List Int) (w : World) (hH : Holds (Value.int .i64) w blk off zs.toArray) (hcap : zs.length ≤ cap) (hm : cap ≤ 9223372036854775807) (hij : i ≤ j) (hj : j ≤ zs.length) :
    Calls Try.prog 32 #[.slice (some ⟨blk, off, none⟩) zs.length cap, .int .i64 i, .int .i64 j] w fun e w' => e = .returned (.slice (some ⟨blk, off, none⟩) (zs.length - (j - i)) cap) ∧ ∃ q, w' = putRow (Value.int .i64) (Sort.ahead w q) blk off (zs.take i ++ zs.drop j ++ List.replicate (j - i) 0).toArray := Any.slices_Delete_int Try.laysNm223 blk off cap i j zs w hH hcap hm hij hj
open Go.RowKit Go.Lib Go.Sort in
theorem Try.slices_Compact_int_cells (b off n c : Nat) (zs : List Int) (w : World) (hz : n ≤ zs.length) (hbig : n ≤ 9223372036854775807) (hcap : n ≤ c) (hc : ∀ j, j < zs.length → w.cell? ⟨b, off + j, none⟩ = some (.int .i64 (zs.getD j 0))) (hf : ∀ j, j < n → w.frozen? ⟨b, off + j, none⟩ = false) :
    Calls Try.prog 35 #[.slice (some ⟨b, off, none⟩) n c] w fun e w' => e = .returned (.slice (some ⟨b, off, none⟩) (Lib.compact (zs.take n)).length c) ∧ ∃ q, w' = (w.drewN q).setCells b off ((Lib.compact (zs.take n) ++ List.replicate (n - (Lib.compact (zs.take n)).length) 0).map (Value.int .i64)) := Any.slices_Compact_int_cells Try.laysNm220 b off n c zs w hz hbig hcap hc hf
open Go.RowKit Go.Lib Go.Sort in
theorem Try.slices_Delete_int_cells (b off n c i j : Nat) (zs : List Int) (w : World) (hz : n ≤ zs.length) (hcap : n ≤ c) (hm : c ≤ 9223372036854775807) (hij : i ≤ j) (hj : j ≤ n) (hc : ∀ j, j < zs.length → w.cell? ⟨b, off + j, none⟩ = some (.int .i64 (zs.getD j 0))) (hf : ∀ j, j < n → w.frozen? ⟨b, off + j, none⟩ = false) :
    Calls Try.prog 32 #[.slice (some ⟨b, off, none⟩) n c, .int .i64 i, .int .i64 j] w fun e w' => e = .returned (.slice (some ⟨b, off, none⟩) (n - (j - i)) c) ∧ ∃ q, w' = (w.drewN q).setCells b off (((zs.take n).take i ++ (zs.take n).drop j ++ List.replicate (j - i) 0).map (Value.int .i64)) := Any.slices_Delete_int_cells Try.laysNm223 b off n c i j zs w hz hcap hm hij hj hc hf
open Go.RowKit Go.Sort in
theorem Try.slices_Sort_int_none (p : Option Addr) (cap : Nat) (w : World) :
    Calls Try.prog 51 #[.slice p 0 cap] w fun e w' => e = .returned (.tuple #[]) ∧ w' = w := Any.slices_Sort_int_none Try.lays189 p cap w
open Go.RowKit Go.Lib in
theorem Try.slices_Delete_int_empty (a : Option Addr) (c : Nat) (w : World) :
    Calls Try.prog 32 #[.slice a 0 c, .int .i64 0, .int .i64 0] w fun e w' => e = .returned (.slice a 0 c) ∧ w' = w := Any.slices_Delete_int_empty Try.laysNm223 a c w
def Try.laysSlE041_f33_ren : Go.Shelf.Ren := ⟨fun | 41 => 33 | n => n, fun | 22 => 22 | 23 => 3 | 4 => 4 | n => n, fun | n => n⟩
theorem Try.laysSlE041_f33 : Go.Proofs.SlLaysE0.n41 Try.prog Try.laysSlE041_f33_ren := {
  mixed := by kernel_rfl
  f41 := ⟨Try.f33.name, by decide, Try.func33.trans (congrArg some (by kernel_rfl))⟩
  t4 := Try.underlying4
  a4 := Try.isAgg4
  z4 := Try.sizeOf4
  v4 := Try.zeroValue4
  t22 := Try.underlying22
  a22 := Try.isAgg22
  z22 := Try.sizeOf22
  v22 := Try.zeroValue22 }
open Go.RowKit Go.Lib in
theorem Try.slices_Clone (i0 : TypeInfo) (z : Value) (size bytes : Nat) (hi : Try.prog.info? 3 = some i0) (hz0 : i0.zero = some z) (hz1 : i0.size = size) (hz2 : i0.bytes = bytes) (hzs : z.cells.size = size) (hsz : 0 < size) (z23 : ∀ w, (Go.sizeOf 3).run Try.prog w = .ok size w) (b off n c : Nat) (news : List Value) (w : World) (hl : news.length = n * size) (hn : n ≤ maxLen) (hbig : n * bytes ≤ 140737488355328) (hc : ∀ j u, news[j]? = some u → w.cell? ⟨b, off + j, none⟩ = some u) (h1 : ∀ u ∈ news, u.oneCell' = true) :
    Calls Try.prog 33 #[.slice (some ⟨b, off, none⟩) n c] w fun e w' => ∃ v', e = .returned v' ∧ w'.ownsRow w.heap.size 3 size v' n news ∧ v' ≠ .slice none 0 0 ∧ Below w.heap.size w w' := AnyE.slices_Clone Try.laysSlE041_f33 i0 z size bytes hi hz0 hz1 hz2 hzs hsz z23 b off n c news w hl hn hbig hc h1
open Go.RowKit Go.Lib in
theorem Try.slices_Clone_nil (n c : Nat) (w : World) :
    Calls Try.prog 33 #[.slice none n c] w fun e w' => e = .returned (.slice none 0 0) ∧ w' = w := AnyE.slices_Clone_nil Try.laysSlE041_f33 n c w
end Go.Proofs
/- The contract of slices.Repeat at one int32. -/
namespace Go.Proofs.Ytgkgeodphgfgnaa.Pr
open Go.RowKit Go.Proofs.YtgkgeodphgfgnaaW.PrintWords Go.Proofs.YtgkgeodphgfgnaaW.PrintLast Go.Proofs.YtgkgeodphgfgnaaW.PrintMore

theorem mul_any (m : Nat) (hm : m ≤ 1000000000) (w : World) :
    Calls Try.prog 65 #[.int .u64 1, .int .u64 (m : Int)] w fun e w' => e = .returned (.tuple #[.int .u64 0, .int .u64 (m : Int)]) ∧ w = w' := by
  have h := Try.bits_Mul 1 m (by omega) (by omega) w
  have e1 : 1 * m / 18446744073709551616 = 0 := by omega
  have e2 : 1 * m % 18446744073709551616 = m := by omega
  rw [e1, e2] at h
  exact h.mono fun e w' ⟨a, b⟩ => ⟨a, b.symm⟩

theorem info_i32 : (Try.prog.info? 21).map (fun i => (i.zero, i.size, i.bytes)) = some (some (.int .i32 0), 1, 4) := by kernel_rfl
def Filled (w wr : World) (m k : Nat) (z : Int) : Prop :=
  wr.heap[w.heap.size]? = some (.cells (List.replicate k (Value.int .i32 z) ++ List.replicate (m - k) (Value.int .i32 0)).toArray 21 (0, 0)) ∧ Below w.heap.size w wr
theorem filled_cell {w wr : World} {m k : Nat} {z : Int} (h : Filled w wr m k z) (j : Nat) (hj : j < k) : wr.cell? ⟨w.heap.size, j, none⟩ = some (.int .i32 z) := by
  simp only [World.cell?, h.1]
  simp
  rw [List.getElem?_append_left (by simpa using hj), List.getElem?_replicate, if_pos hj]
theorem gate_step {P : Program} {ops : Array Oper} {o : Oper} {a : Act} {w : World} {K : Act → World → Prop} {Q : Exit → Act → World → Prop} {E : Prop} {N : Tmp} (_hN : o.dst = some N)
    (h : if Region.wanted o (yielded ops a.tmps) = true then Oper.wp P o a w K Q else E) : if Region.wanted o (yielded ops a.tmps) = true then Oper.wp P o a w K Q else E := h
set_option maxHeartbeats 1000000 in
set_option maxRecDepth 100000 in
theorem repeat_any (G : Nat) (z : Int) (m : Nat) (w : World) (hG : w.heap[G]? = some (.cells #[.int .i32 z] 21 (0, 0))) (h1 : 1 ≤ m) (h2 : m ≤ 1000000000) :
    Calls Try.prog 58 #[.slice (some ⟨G, 0, none⟩) 1 1, .int .i64 (m : Int)] w fun e w' =>
      ∃ C, e = .returned (.slice (some ⟨C, 0, none⟩) m m) ∧ w.heap.size ≤ C ∧ w'.heap[C]? = some (.cells (List.replicate m (.int .i32 z)).toArray 21 (0, 0)) ∧ Below w.heap.size w w' := by
  have hmk := print_make (P := Try.prog) 66 21 .i32 4 Try.underlying66 info_i32 (by omega) m (by omega)
  have hsz : (Try.prog.info? 21).map (·.size) = some 1 := by kernel_rfl
  obtain ⟨Z, hZ⟩ : ∃ Z : World, Z = w.alloc (.cells (madeCells #[.int .i32 0] m) 21) := ⟨_, rfl⟩
  have HD := Aside0.mk (show (w.alloc (.cells (madeCells #[Value.int .i32 0] m) 21)).heap[w.heap.size]? = some (.cells (List.replicate m (Value.int .i32 0)).toArray 21 (0, 0)) from by
    rw [heap_alloc_new]
    congr 2
    simp only [madeCells]
    apply Array.ext
    · simp
    · intro i h1 h2
      simp [Nat.mod_one])
  have HS := Aside0.mk (show ∀ (j : Nat) (v : Value), [Value.int .i32 z][j]? = some v → (w.alloc (.cells (madeCells #[Value.int .i32 0] m) 21)).cell? ((⟨G, 0, none⟩ : Addr).add j) = some v from by
    intro j v hj
    obtain ⟨rfl, rfl⟩ : j = 0 ∧ Value.int .i32 z = v := by
      cases j with
      | zero => simpa using hj
      | succ j => simp at hj
    have hc : w.cell? ⟨G, 0, none⟩ = some (.int .i32 z) := by simp [World.cell?, hG]
    exact pw_cell_below ((Below.refl _ _).alloc (Nat.le_refl _) _) hc)
  have HB0 := Aside0.mk ((Below.refl w.heap.size w).alloc (Nat.le_refl _) (.cells (madeCells #[Value.int .i32 0] m) 21))
  clear hG hZ Z
  go_enter Try.func58, Try.ntmps58
  go_wp2_with (first
    | (go_at_call 65; refine (mul_any m h2 _).mono ?_; rintro e w' ⟨rfl, rfl⟩)
    | ((with_reducible refine gate_dst (N := 33) rfl ?_); (refine wpList_copy_splice rfl (.tmp 31) (.tmp 32) 66 66 rfl 21 Try.underlying66 hsz _ _ _ _ _ _ rfl rfl w.heap.size 0 (List.replicate m (.int .i32 0)) 21 HD.out [.int .i32 z] (show 1 = min 1 m by omega) (fun _ => ⟨rfl, _, rfl, HS.out⟩) (by simp; omega) (by intro v hv; rw [List.mem_singleton.1 hv]; rfl) w.heap.size w HB0.out (Nat.le_refl _) ?_); intro w1 HC HB1))
  have HF := Aside0.mk (show Filled w w1 m 1 z from ⟨by
    rw [show w1.heap[w.heap.size]? = _ from HC]
    congr 2
    obtain ⟨n, rfl⟩ : ∃ n, m = n + 1 := ⟨m - 1, by omega⟩
    simp [splice, List.replicate_succ], HB1⟩)
  clear HC HB1 HS HD HB0
  go_loopw [8] (fun v wr => ∃ k : Nat, 1 ≤ k ∧ k ≤ m ∧ v = .int .i64 k ∧ Aside0 (Filled w wr m k z)) (fun v _ => m - (intOf v).toNat)
  case atStart => exact ⟨1, Nat.le_refl _, h1, rfl, HF⟩
  case round =>
    clear HF
    obtain ⟨k, hk1, hk2, rfl, HF⟩ := hrel
    by_cases hlt : k < m
    · go_upto_region 9 with (fail)
      have hne : ¬ m = k := by omega
      obtain ⟨q, hq⟩ : ∃ q, q = min k (m - k) := ⟨_, rfl⟩
      have HN := Aside0.mk (show (List.replicate q (Value.int .i32 z)).length = Nat.min k (m - k) from by rw [List.length_replicate]; exact hq)
      have hq1 : 1 ≤ q := by omega
      have hq2 : k + q ≤ m := by omega
      have hq3 : q ≤ k := by omega
      clear hq
      have HP := Aside0.mk (show ∀ (j : Nat) (v : Value), (List.replicate q (Value.int .i32 z))[j]? = some v → wr.cell? ((⟨w.heap.size, 0, none⟩ : Addr).add j) = some v from by
        intro j v hj
        obtain ⟨hj1, hj2⟩ := List.getElem?_eq_some_iff.1 hj
        rw [List.getElem_replicate] at hj2
        rw [List.length_replicate] at hj1
        subst hj2
        rw [add_plain]
        exact filled_cell HF.out j (by omega))
      have HFt := Aside0.mk (show k + (List.replicate q (Value.int .i32 z)).length ≤ (List.replicate k (Value.int .i32 z) ++ List.replicate (m - k) (Value.int .i32 0)).length from by
        simp only [List.length_replicate, List.length_append]; omega)
      have H1 := Aside0.mk (show ∀ v ∈ List.replicate q (Value.int .i32 z), v.oneCell' = true from by
        intro v hv; rw [List.eq_of_mem_replicate hv]; rfl)
      have HBd := Aside0.mk (below_drew HF.out.2)
      have hwr : IntKind.i64.wrap ((k : Int) + (q : Int)) = (k : Int) + (q : Int) := IntWalk.i64_in _ (by omega)
      go_region_law ((with_reducible refine gate_step (N := 45) rfl ?_); (go_loud (refine step_copy_splice rfl (.tmp 41) (.tmp 44) 66 66 rfl 21 Try.underlying66 hsz (some ⟨w.heap.size, k, none⟩) (some ⟨w.heap.size, 0, none⟩) (m - k) (m - k) k m (by simp [Act.eval, Act.put]) (by simp [Act.eval, Act.put]) w.heap.size k _ 21 HF.out.1 (List.replicate q (.int .i32 z)) HN.out (fun _ => ⟨rfl, _, rfl, HP.out⟩) HFt.out H1.out w.heap.size w HBd.out (Nat.le_refl _) ?_)); intro w2 HC2 HB2)
      have HF2 := Aside0.mk (show Filled w w2 m (k + q) z from ⟨by
        rw [show w2.heap[w.heap.size]? = _ from HC2]
        congr 2
        simp only [splice]
        congr 1
        rw [List.take_append_of_le_length (by simp), List.take_of_length_le (by simp), List.drop_append, List.length_replicate, List.length_replicate, List.drop_of_length_le (by rw [List.length_replicate]; omega), List.nil_append, List.drop_replicate, ← List.append_assoc, List.replicate_append_replicate]
        congr 2
        omega, HB2⟩)
      clear HC2 HB2 HN HP HFt H1
      go_simp
      go_wp2
      go_roundw
      case rel => exact ⟨k + q, by omega, hq2, by go_num, HF2⟩
      case measure => simp [intOf]; omega
    · go_wp2
      go_ret
      obtain rfl : k = m := by omega
      refine ⟨_, rfl, Nat.le_refl _, ?_, HF.out.2⟩
      have h := HF.out.1
      simpa using h

end Go.Proofs.Ytgkgeodphgfgnaa.Pr
/- Words for the table of the fewest blocks, and for the ways: a row of int32 told by a function; the values of the cells. -/
namespace Go.Proofs.Ytgkgeodphgfgnaa.Pr
open Go.RowKit Go.Proofs.YtgkgeodphgfgnaaW.PrintWords Go.Proofs.YtgkgeodphgfgnaaW.PrintLast Go.Proofs.YtgkgeodphgfgnaaW.PrintMore

theorem heap_set_same {w : World} {g : Nat} {cs : Array Value} {t : TypeId} (h : w.heap[g]? = some (.cells cs t (0, 0))) (i : Nat) (u : Value) :
    (w.setCell ⟨g, i, none⟩ u).heap[g]? = some (.cells (cs.setIfInBounds i u) t (0, 0)) := by
  simp [World.setCell, Array.getElem?_modify, h]
theorem heap_set_other {w : World} {g : Nat} {o : Option Obj} (h : w.heap[g]? = o) {p : Addr} (hp : g ≠ p.block) (u : Value) : (w.setCell p u).heap[g]? = o :=
  (Below.heap_setCell w p u g hp).trans h
theorem blk_cell {w : World} {g : Nat} {cs : Array Value} {t : TypeId} (h : w.heap[g]? = some (.cells cs t (0, 0))) (i : Nat) : w.cell? ⟨g, i, none⟩ = cs[i]? := by
  simp [World.cell?, h]
theorem blk_frozen {w : World} {g : Nat} {cs : Array Value} {t : TypeId} (h : w.heap[g]? = some (.cells cs t (0, 0))) (i : Nat) : w.frozen? ⟨g, i, none⟩ = false := by
  simp [World.frozen?, h]
theorem blk_lt {w : World} {g : Nat} {o : Obj} (h : w.heap[g]? = some o) : g < w.heap.size := (Array.getElem?_eq_some_iff.1 h).1

theorem blk_below {w w' : World} {g : Nat} {o : Obj} (h : w.heap[g]? = some o) (hb : Below w.heap.size w w') : w'.heap[g]? = some o := (hb.block g (blk_lt h)).trans h
theorem blk_alloc {w : World} {g : Nat} {o : Obj} (h : w.heap[g]? = some o) (x : Obj) : (w.alloc x).heap[g]? = some o := (Below.heap_alloc w x g (blk_lt h)).trans h

/-- A block of int32, told by a function. -/
def Row32 (w : World) (C sz : Nat) (F : Nat → Int) : Prop := w.heap[C]? = some (.cells ((List.range sz).map fun p => Value.int .i32 (F p)).toArray 21 (0, 0))
theorem Row32.cell {w : World} {C sz : Nat} {F : Nat → Int} (h : Row32 w C sz F) (p : Nat) (hp : p < sz) : w.cell? ⟨C, p, none⟩ = some (.int .i32 (F p)) := by
  rw [blk_cell h]; simp [hp]
theorem Row32.frozen {w : World} {C sz : Nat} {F : Nat → Int} (h : Row32 w C sz F) (p : Nat) : w.frozen? ⟨C, p, none⟩ = false := blk_frozen h p
theorem Row32.of_replicate {w : World} {C m : Nat} {z : Int} (h : w.heap[C]? = some (.cells (List.replicate m (Value.int .i32 z)).toArray 21 (0, 0))) : Row32 w C m (fun _ => z) := by
  unfold Row32; rw [h]; congr 3
  apply List.ext_getElem
  · simp
  · intro i h1 h2; simp
theorem Row32.set {w : World} {C sz : Nat} {F : Nat → Int} (h : Row32 w C sz F) (p : Nat) (x : Int) : Row32 (w.setCell ⟨C, p, none⟩ (.int .i32 x)) C sz (fun q => if q = p then x else F q) := by
  unfold Row32
  rw [heap_set_same h]
  congr 2
  apply Array.ext
  · simp
  · intro i h1 h2
    have h3 : i < sz := by simpa using h1
    rw [Array.getElem_setIfInBounds (by simpa using h3)]
    by_cases e : p = i
    · subst e; simp
    · rw [if_neg e]; simp [show ¬ i = p from fun h => e h.symm]
theorem Row32.drewN {w : World} {C sz : Nat} {F : Nat → Int} (h : Row32 w C sz F) (n : Nat) : Row32 (w.drewN n) C sz F := h
theorem Row32.congr {w : World} {C sz : Nat} {F G : Nat → Int} (h : Row32 w C sz F) (e : ∀ p, p < sz → F p = G p) : Row32 w C sz G := by
  unfold Row32 at h ⊢; rw [h]; congr 3
  apply List.map_congr_left
  intro p hp
  rw [e p (List.mem_range.1 hp)]

/-- An element that is read, under a name of its own. -/
theorem at_nat {kd : IntKind} {w : World} {A : Option Addr} {n : Nat} {xs : List Int} (h : (Kd.int kd).C w A n xs) (k : Nat) (hk : k < n) :
    ∃ ad x, A = some ad ∧ w.cell? (ad.add k) = some (.int kd x) ∧ xs[k]? = some x ∧ x ∈ xs := by
  obtain ⟨ad, e, hc⟩ := Kd.at_int h (k : Int) (by omega) (by omega)
  have hl : k < xs.length := by have := h.1; omega
  refine ⟨ad, xs[k], e, ?_, List.getElem?_eq_getElem hl, List.getElem_mem hl⟩
  simpa [rd, List.getD_eq_getElem?_getD, List.getElem?_eq_getElem hl] using hc
theorem sum_app : ∀ (a b : List Int), (a ++ b).sum = a.sum + b.sum
  | [], b => by simp
  | x :: a, b => by rw [List.cons_append, List.sum_cons, List.sum_cons, sum_app a b]; omega
theorem take_sum {xs : List Int} {k : Nat} {x : Int} (h : xs[k]? = some x) : (xs.take (k + 1)).sum = (xs.take k).sum + x := by
  obtain ⟨hl, rfl⟩ := List.getElem?_eq_some_iff.1 h
  rw [List.take_succ_eq_append_getElem hl, sum_app]
  simp
theorem sum_bound : ∀ (l : List Int), (∀ x ∈ l, 1 ≤ x ∧ x ≤ 100000) → 0 ≤ l.sum ∧ l.sum ≤ 100000 * l.length
  | [], _ => by simp
  | x :: xs, h => by
    have h1 := h x List.mem_cons_self
    have h2 := sum_bound xs (fun y hy => h y (List.mem_cons_of_mem _ hy))
    simp only [List.sum_cons, List.length_cons]
    omega
theorem take_bound {l : List Int} (h : ∀ x ∈ l, 1 ≤ x ∧ x ≤ 100000) (k : Nat) : 0 ≤ (l.take k).sum ∧ (l.take k).sum ≤ 100000 * l.length := by
  have h1 := sum_bound (l.take k) (fun x hx => h x (List.mem_of_mem_take hx))
  have h2 : (l.take k).length ≤ l.length := by rw [List.length_take]; omega
  constructor <;> omega

/-- What the cells say: what can be made of the blocks from one on. -/
def cellv (none_ done : Int) (f : Int → Int → Int) : List Int → Int → Int
  | [], n => if n = 0 then done else none_
  | x :: xs, n => f (cellv none_ done f xs n) (if n ≥ x then cellv none_ done f xs (n - x) else none_)

/-- The table's struct, and its cells. -/
def TabS (w : World) (B C : Nat) (A0 : Option Addr) (len c0 d sz : Nat) : Prop :=
  w.heap[B]? = some (.cells #[.slice A0 len c0, .int .i64 (d : Int), .slice (some ⟨C, 0, none⟩) sz sz] 68 (0, 0))
def Tab (w : World) (B : Nat) (len d : Nat) (set : List Int) (g : List Int → Int → Int) : Prop :=
  ∃ (C : Nat) (A0 : Option Addr) (c0 : Nat) (F : Nat → Int), TabS w B C A0 len c0 d ((len + 1) * d) ∧ Row32 w C ((len + 1) * d) F ∧
    ∀ j, j ≤ len → ∀ n, n < d → F (j * d + n) = g (set.drop j) (n : Int)
theorem Tab.below {w w' : World} {B len d : Nat} {set : List Int} {g : List Int → Int → Int} (h : Tab w B len d set g) (hb : Below w.heap.size w w') : Tab w' B len d set g := by
  obtain ⟨C, A0, c0, F, h1, h2, h3⟩ := h
  exact ⟨C, A0, c0, F, (hb.block B (blk_lt h1)).trans h1, (hb.block C (blk_lt h2)).trans h2, h3⟩

theorem drop_eq {xs : List Int} {k : Nat} {x : Int} (h : xs[k]? = some x) : xs.drop k = x :: xs.drop (k + 1) := by
  obtain ⟨hl, rfl⟩ := List.getElem?_eq_some_iff.1 h
  exact List.drop_eq_getElem_cons hl
/-- The rows from one on are filled. -/
def TGood (g : List Int → Int → Int) (set : List Int) (d m : Nat) (F : Nat → Int) : Prop := ∀ j, m ≤ j → j ≤ set.length → ∀ n, n < d → F (j * d + n) = g (set.drop j) (n : Int)
/-- Of row k the first n cells are filled. -/
def TPart (g : List Int → Int → Int) (set : List Int) (d k n : Nat) (F : Nat → Int) : Prop := ∀ m, m < n → F (k * d + m) = g (set.drop k) (m : Int)
theorem place_ne {d k n j m : Nat} (hn : n < d) (hj : k + 1 ≤ j) : j * d + m ≠ k * d + n := by
  have h1 : (k + 1) * d ≤ j * d := Nat.mul_le_mul_right d hj
  have h2 : (k + 1) * d = k * d + d := Nat.succ_mul k d
  omega
theorem place_lt {d k n len : Nat} (hn : n < d) (hk : k ≤ len) : k * d + n < (len + 1) * d := by
  have h1 : (k + 1) * d ≤ (len + 1) * d := Nat.mul_le_mul_right d (by omega)
  have h2 : (k + 1) * d = k * d + d := Nat.succ_mul k d
  omega
theorem TGood.set {g : List Int → Int → Int} {set : List Int} {d k n : Nat} {F : Nat → Int} (h : TGood g set d (k + 1) F) (hn : n < d) (x : Int) : TGood g set d (k + 1) (fun q => if q = k * d + n then x else F q) := by
  intro j hj hl m hm
  show (if j * d + m = k * d + n then x else F (j * d + m)) = _
  rw [if_neg (place_ne hn hj)]
  exact h j hj hl m hm
theorem TPart.set {g : List Int → Int → Int} {set : List Int} {d k n : Nat} {F : Nat → Int} (h : TPart g set d k n F) {x : Int} (hx : x = g (set.drop k) (n : Int)) : TPart g set d k (n + 1) (fun q => if q = k * d + n then x else F q) := by
  intro m hm
  show (if k * d + m = k * d + n then x else F (k * d + m)) = _
  by_cases e : m = n
  · subst e; rw [if_pos rfl]; exact hx
  · rw [if_neg (by omega)]; exact h m (by omega)
theorem TGood.of_part {g : List Int → Int → Int} {set : List Int} {d k : Nat} {F : Nat → Int} (h : TGood g set d (k + 1) F) (hp : TPart g set d k d F) : TGood g set d k F := by
  intro j hj hl m hm
  by_cases e : j = k
  · subst e; exact hp m hm
  · exact h j (by omega) hl m hm
theorem TGood.first {none_ done : Int} {f : Int → Int → Int} {set : List Int} {d : Nat} : TGood (cellv none_ done f) set d set.length (fun p => if p = set.length * d then done else none_) := by
  intro j hj hl m hm
  obtain rfl : j = set.length := by omega
  rw [List.drop_length]
  show (if set.length * d + m = set.length * d then done else none_) = _
  simp only [cellv]
  by_cases e : m = 0
  · subst e; rw [if_pos (by omega), if_pos (by omega)]
  · rw [if_neg (by omega), if_neg (by omega)]
theorem cellv_cons {none_ done : Int} {f : Int → Int → Int} {set : List Int} {k : Nat} {x n a b : Int} (hx : set[k]? = some x) (ha : a = cellv none_ done f (set.drop (k + 1)) n) (hb : b = if n ≥ x then cellv none_ done f (set.drop (k + 1)) (n - x) else none_) :
    f a b = cellv none_ done f (set.drop k) n := by
  rw [drop_eq hx, ha, hb]; rfl

theorem TabS.drewN {w : World} {B C len c0 d sz : Nat} {A0 : Option Addr} (h : TabS w B C A0 len c0 d sz) (q : Nat) : TabS (w.drewN q) B C A0 len c0 d sz := h
theorem TabS.set {w : World} {B C len c0 d sz : Nat} {A0 : Option Addr} (h : TabS w B C A0 len c0 d sz) (hne : C ≠ B) (p : Nat) (u : Value) : TabS (w.setCell ⟨C, p, none⟩ u) B C A0 len c0 d sz :=
  heap_set_other h (fun e => hne e.symm) u
/-- row's contract, over the table. -/
theorem row_tab {w : World} {B C len c0 d sz : Nat} {A0 : Option Addr} (hT : TabS w B C A0 len c0 d sz) (i : Nat) (z : Int) (hz : z = (i : Int)) (h1 : i ≤ 1000) (h2 : 1 ≤ d) (h3 : d ≤ 1000000) (h6 : (i + 1) * d ≤ sz) (h7 : sz ≤ 1000000000000) :
    Calls Try.prog 47 #[.pointer (some ⟨B, 0, none⟩), .int .i64 z] w fun e w' => e = .returned (.slice (some ⟨C, i * d, none⟩) d d) ∧ ∃ q, w' = w.drewN q :=
  row_nat B C i d sz z _ w hz hT h1 h2 h3 h6 h7

theorem row_tab0 {w : World} {B C len c0 d sz : Nat} {A0 : Option Addr} (hT : TabS w B C A0 len c0 d sz) (h2 : 1 ≤ d) (h3 : d ≤ 1000000) (h6 : d ≤ sz) (h7 : sz ≤ 1000000000000) :
    Calls Try.prog 47 #[.pointer (some ⟨B, 0, none⟩), .int .i64 0] w fun e w' => e = .returned (.slice (some ⟨C, 0, none⟩) d d) ∧ ∃ q, w' = w.drewN q := by
  have h := row_tab hT 0 0 rfl (by omega) h2 h3 (by omega) h7
  rw [Nat.zero_mul] at h
  exact h
theorem TabS.grown {w w' : World} {B C len c0 d sz : Nat} {A0 : Option Addr} (h : TabS w B C A0 len c0 d sz) {row : Option Nat} (hg : w.grownBy w' row) (hne : some B ≠ row) : TabS w' B C A0 len c0 d sz := (hg.block B (blk_lt h) hne).trans h
theorem Row32.grown {w w' : World} {C sz : Nat} {F : Nat → Int} (h : Row32 w C sz F) {row : Option Nat} (hg : w.grownBy w' row) (hne : some C ≠ row) : Row32 w' C sz F := (hg.block C (blk_lt h) hne).trans h
theorem TabS.alloc {w : World} {B C len c0 d sz : Nat} {A0 : Option Addr} (h : TabS w B C A0 len c0 d sz) (o : Obj) : TabS (w.alloc o) B C A0 len c0 d sz := blk_alloc h o
theorem Row32.alloc {w : World} {C sz : Nat} {F : Nat → Int} (h : Row32 w C sz F) (o : Obj) : Row32 (w.alloc o) C sz F := blk_alloc h o
theorem tab_size {len d : Nat} (h1 : len ≤ 256) (h2 : d ≤ 100001) : (len + 1) * d ≤ 25700257 ∧ d ≤ (len + 1) * d :=
  ⟨Nat.le_trans (Nat.mul_le_mul (show len + 1 ≤ 257 by omega) h2) (by omega), Nat.le_mul_of_pos_left _ (by omega)⟩

end Go.Proofs.Ytgkgeodphgfgnaa.Pr
/- The contract of blocks.filled, as fewest calls it. -/
namespace Go.Proofs.Ytgkgeodphgfgnaa.Pr
open Go.RowKit Go.Proofs.YtgkgeodphgfgnaaW.PrintWords Go.Proofs.YtgkgeodphgfgnaaW.PrintLast Go.Proofs.YtgkgeodphgfgnaaW.PrintMore

def g59 : List Int → Int → Int := cellv 258 0 (fun a b => min a (b + 1))
theorem g59_bd : ∀ (l : List Int) (n : Int), 0 ≤ g59 l n ∧ g59 l n ≤ 258
  | [], n => by unfold g59 cellv; split <;> omega
  | x :: xs, n => by
    have h := g59_bd xs n
    have h2 := g59_bd xs (n - x)
    unfold g59 at h h2 ⊢
    simp only [cellv]
    split <;> omega

set_option maxHeartbeats 800000 in
set_option maxRecDepth 100000 in
theorem filled59 (A0 : Option Addr) (c0 : Nat) (set : List Int) (most : Int) (w : World) (d : Nat) (hd : (d : Int) = min set.sum most + 1)
    (hr0 : Kd.C (Kd.int .i64) w A0 set.length set) (hc0 : set.length ≤ c0) (hl : set.length ≤ 256) (hs : ∀ x ∈ set, 1 ≤ x ∧ x ≤ 100000) (hm1 : 1 ≤ most) (hm2 : most ≤ 100000) :
    Calls Try.prog 45 #[.slice A0 set.length c0, .int .i64 most, .int .i32 258, .int .i32 0, .func (.func 59) #[] #[]] w fun e w' =>
      ∃ B, e = .returned (.pointer (some ⟨B, 0, none⟩)) ∧ Tab w' B set.length d set g59 ∧ Below w.heap.size w w' := by
  have hsum := sum_bound set hs
  have hd1 : 1 ≤ d := by omega
  have hd2 : (d : Int) ≤ 100001 := by omega
  have HR := Aside0.mk hr0
  have HC := Aside0.mk hc0
  have HS := Aside0.mk hs
  have HD := Aside0.mk hd
  clear hr0 hc0 hs hd
  go_enter Try.func45, Try.ntmps45
  go_wp2
  go_loop [11, 13, 22] (fun s _ i => ∃ k : Nat, k ≤ set.length ∧ i = .int .i64 k ∧ s = .int .i64 (set.take k).sum) (fun _ _ i => set.length - (intOf i).toNat)
  case atStart => exact ⟨0, Nat.zero_le _, rfl, rfl⟩
  case round =>
    obtain ⟨k, hk, rfl, rfl⟩ := hrel
    have htb := take_bound HS.out k
    by_cases hlt : k < set.length
    · obtain ⟨ad, x, rfl, hc, hx, hm⟩ := at_nat HR.out k hlt
      have hxb := HS.out x hm
      have HX := Aside0.mk (take_sum hx)
      clear hx hm
      obtain ⟨s, hs⟩ : ∃ s, s = (set.take k).sum := ⟨_, rfl⟩
      rw [← hs] at HX htb ⊢
      clear hs
      go_wp2
      go_round
      case rel => exact ⟨k + 1, by omega, by go_num, by rw [HX.out]⟩
      case measure => (simp [intOf] <;> omega)
    · obtain rfl : k = set.length := by omega
      have HT := Aside0.mk (show (set.take set.length).sum = set.sum by rw [List.take_length])
      obtain ⟨s, hs⟩ : ∃ s, s = (set.take set.length).sum := ⟨_, rfl⟩
      rw [← hs] at HT htb ⊢
      clear hs
      go_upto_region 7 with (fail)
      go_cut [14] (fun v wc => ∃ B : Nat, v = .pointer (some ⟨B, 0, none⟩) ∧ Aside0 (w.heap.size ≤ B ∧ wc.heap[B]? = some (.cells #[.slice A0 set.length c0, .int .i64 (d : Int), .slice none 0 0] 68 (0, 0))) ∧ Aside0 (Below w.heap.size w wc))
      case first =>
        have hu := Try.underlying68
        have HZ1 := Aside0.mk (show most < s → most + 1 = (d : Int) from by have := HD.out; have := HT.out; omega)
        have HZ2 := Aside0.mk (show ¬ most < s → s + 1 = (d : Int) from by have := HD.out; have := HT.out; omega)
        by_cases hle : most < s
        · have HE := Aside0.mk (HZ1.out hle)
          go_wp2
          go_meet
          case rel => exact ⟨w.heap.size, rfl, ⟨Nat.le_refl _, by first | rw [heap_alloc_new, HE.out] | rw [heap_alloc_new, show min s most + 1 = (d : Int) by have := HE.out; omega]⟩, ⟨(Below.refl _ _).alloc (Nat.le_refl _) _⟩⟩
        · have HE := Aside0.mk (HZ2.out hle)
          go_wp2
          go_meet
          case rel => exact ⟨w.heap.size, rfl, ⟨Nat.le_refl _, by first | rw [heap_alloc_new, HE.out] | rw [heap_alloc_new, show min s most + 1 = (d : Int) by have := HE.out; omega]⟩, ⟨(Below.refl _ _).alloc (Nat.le_refl _) _⟩⟩
      case rest =>
        obtain ⟨B, rfl, HB, HW⟩ := hcut
        have hu := Try.underlying68
        have HBl := blk_lt HB.out.2
        have hc1 : wc.cell? ⟨B, 1, none⟩ = some (.int .i64 (d : Int)) := blk_cell HB.out.2 1
        have HM := Aside0.mk (show ((set.length : Int) + 1) * (d : Int) = (((set.length + 1) * d : Nat) : Int) by simp)
        have hm0 : 0 ≤ ((set.length : Int) + 1) * (d : Int) := by rw [HM.out]; omega
        have hmx : (set.length + 1) * d ≤ 257 * 100001 := Nat.mul_le_mul (by omega) (by omega)
        have hm1 : ((set.length : Int) + 1) * (d : Int) ≤ 25700257 := by rw [HM.out]; omega
        have hmn : d ≤ (set.length + 1) * d := Nat.le_mul_of_pos_left _ (by omega)
        have HG := Aside0.mk (heap_alloc_new wc (.cells #[Value.int .i32 258] 21))
        go_upto_region 8 with (fail)
        go_cut [14] (fun v w3 => v = .pointer (some ⟨B, 0, none⟩) ∧ ∃ C : Nat, Aside0 (w.heap.size ≤ C ∧ C ≠ B ∧ TabS w3 B C A0 set.length c0 d ((set.length + 1) * d) ∧ Row32 w3 C ((set.length + 1) * d) (fun _ => 258)) ∧ Aside0 (Below w.heap.size w w3))
        case first =>
          go_wp2_with (go_at_call 58; (rw [HM.out]); refine (repeat_any _ _ ((set.length + 1) * d) _ HG.out (by omega) (by omega)).mono ?_; rintro e w2 ⟨C, rfl, hC1, hC2, hC3⟩; have e2 := Aside0.mk (blk_below (blk_alloc HB.out.2 _) hC3); have hk2 := blk_cell e2.out 2; have hf2 := blk_frozen e2.out 2)
          go_meet
          case rel =>
            have hne : C ≠ B := by
              have := blk_lt HB.out.2
              simp at hC1
              omega
            refine ⟨rfl, C, ⟨?_, hne, heap_set_same e2.out 2 _, (Row32.of_replicate (heap_set_other hC2 hne _))⟩, ⟨?_⟩⟩
            · have := HW.out.size; simp at hC1; omega
            · exact below_set (below_then (below_alloc (HW.out) _) (by simp; have := HW.out.size; omega) hC3) HB.out.1
        case rest =>
          obtain ⟨rfl, C, HC2, HW2⟩ := hcut
          clear HB HG hc1 HW
          have HBne := HC2.out.2.1
          go_upto_region 9 with (fail)
          go_cut [14] (fun v w3 => v = .pointer (some ⟨B, 0, none⟩) ∧ Aside0 (TabS w3 B C A0 set.length c0 d ((set.length + 1) * d) ∧ Row32 w3 C ((set.length + 1) * d) (fun p => if p = set.length * d then 0 else 258)) ∧ Aside0 (Below w.heap.size w w3))
          case first =>
            go_wp2_with (go_at_call 47; refine (row_nat B C set.length d ((set.length + 1) * d) _ _ _ rfl HC2.out.2.2.1 (by omega) (by omega) (by omega) (Nat.le_refl _) (by omega)).mono ?_; rintro e w2 ⟨rfl, q, rfl⟩; have hk2 := (HC2.out.2.2.2.drewN q).cell (set.length * d) (by rw [Nat.succ_mul]; omega); have hf2 := (HC2.out.2.2.2.drewN q).frozen (set.length * d))
            go_meet
            case rel => exact ⟨rfl, ⟨heap_set_other (show (wc.drewN q).heap[B]? = _ from HC2.out.2.2.1) (fun h => HBne h.symm) _, (HC2.out.2.2.2.drewN q).set _ _⟩, ⟨below_set (pw_below_drewN HW2.out q) HC2.out.1⟩⟩
          case rest =>
            obtain ⟨rfl, HC3, HW3⟩ := hcut
            have HCB := Aside0.mk HC2.out.1
            clear HC2 HW2
            have hdn : ¬ d = 0 := by omega
            go_wp2
            go_loopw [15] (fun v wr => ∃ (z : Int) (F : Nat → Int), v = .int .i64 z ∧ -1 ≤ z ∧ z < set.length ∧ Aside0 (TabS wr B C A0 set.length c0 d ((set.length + 1) * d) ∧ Row32 wr C ((set.length + 1) * d) F ∧ TGood g59 set d (z + 1).toNat F) ∧ Aside0 (Below w.heap.size w wr)) (fun v _ => (intOf v + 1).toNat)
            case atStart => exact ⟨_, _, rfl, by omega, by omega, ⟨HC3.out.1, HC3.out.2, by rw [show ((set.length : Int) - 1 + 1).toNat = set.length by omega]; exact TGood.first⟩, HW3⟩
            case round =>
              clear HC3 HW3
              obtain ⟨z, F, rfl, hz1, hz2, HT2, HW3⟩ := hrel
              by_cases hz : 0 ≤ z
              · obtain ⟨k, rfl⟩ := Int.eq_ofNat_of_zero_le hz
                have hk2 : k < set.length := by omega
                have HK1 := Aside0.mk (show (k + 1 + 1) * d ≤ (set.length + 1) * d from Nat.mul_le_mul_right d (by omega))
                have HK2 := Aside0.mk (show (k + 1) * d ≤ (set.length + 1) * d from Nat.mul_le_mul_right d (by omega))
                go_wp2_with (first
                  | (go_at_call 47; (with_reducible refine (row_tab HT2.out.1 (k + 1) ((k : Int) + 1) (by omega) (by omega) (by omega) (by omega) HK1.out (by omega)).mono ?_); rintro e w2 ⟨rfl, q1, rfl⟩)
                  | (go_at_call 47; (with_reducible refine (row_tab (HT2.out.1.drewN q1) k (k : Int) rfl (by omega) (by omega) (by omega) HK2.out (by omega)).mono ?_); rintro e w2 ⟨rfl, q2, rfl⟩))
                obtain ⟨wo, hwo⟩ : ∃ wo : World, wo = wr.drewN (q1 + q2) := ⟨_, rfl⟩
                have HI := Aside0.mk (show TabS wo B C A0 set.length c0 d ((set.length + 1) * d) ∧ Row32 wo C ((set.length + 1) * d) F ∧ TGood g59 set d (k + 1) F ∧ TPart g59 set d k 0 F ∧ Below w.heap.size w wo from by
                  subst hwo
                  exact ⟨HT2.out.1, HT2.out.2.1, HT2.out.2.2, fun m hm => absurd hm (by omega), pw_below_drewN HW3.out _⟩)
                rw [← hwo]
                clear hwo HT2 HW3
                go_loopw [73] (fun v wi => ∃ (n : Nat) (F1 : Nat → Int), n ≤ d ∧ v = .int .i64 (n : Int) ∧ Aside0 (TabS wi B C A0 set.length c0 d ((set.length + 1) * d) ∧ Row32 wi C ((set.length + 1) * d) F1 ∧ TGood g59 set d (k + 1) F1 ∧ TPart g59 set d k n F1 ∧ Below w.heap.size w wi)) (fun v _ => d - (intOf v).toNat)
                case atStart => exact ⟨0, F, by omega, rfl, HI⟩
                case round =>
                  clear HI
                  obtain ⟨n, F1, hn, rfl, HI⟩ := hrel
                  by_cases hnd : n < d
                  · obtain ⟨ad, x, rfl, hcx, hx, hmx⟩ := at_nat (Kd.C_below HR.out HI.out.2.2.2.2) k hk2
                    have hxb := HS.out x hmx
                    have HX := Aside0.mk hx
                    clear hx hmx
                    obtain ⟨y, rfl⟩ := Int.eq_ofNat_of_zero_le (show 0 ≤ x by omega)
                    obtain ⟨a, ha⟩ : ∃ a, a = F1 ((k + 1) * d + n) := ⟨_, rfl⟩
                    have hca : wr.cell? ⟨C, (k + 1) * d + n, none⟩ = some (.int .i32 a) := by rw [ha]; exact HI.out.2.1.cell _ (place_lt hnd (by omega))
                    have HA := Aside0.mk (ha.trans (HI.out.2.2.1 (k + 1) (Nat.le_refl _) (by omega) n hnd))
                    clear ha
                    have hab := g59_bd (set.drop (k + 1)) (n : Int)
                    rw [← HA.out] at hab
                    have HP := Aside0.mk (HI.out.2.1.cell (k * d + n) (place_lt hnd (by omega)))
                    have hcp := HP.out
                    have hfp := HI.out.2.1.frozen (k * d + n)
                    by_cases hge : y ≤ n
                    · obtain ⟨b, hb⟩ : ∃ b, b = F1 ((k + 1) * d + (n - y)) := ⟨_, rfl⟩
                      have hcb : wr.cell? ⟨C, (k + 1) * d + (n - y), none⟩ = some (.int .i32 b) := by rw [hb]; exact HI.out.2.1.cell _ (place_lt (by omega) (by omega))
                      have HB2 := Aside0.mk (hb.trans (HI.out.2.2.1 (k + 1) (Nat.le_refl _) (by omega) (n - y) (by omega)))
                      clear hb
                      have hbb := g59_bd (set.drop (k + 1)) ((n - y : Nat) : Int)
                      rw [← HB2.out] at hbb
                      go_wp2_with (go_at_call 59; refine (join_fewest a b _ (by omega) (by omega) (by omega) (by omega)).mono ?_; rintro e w2 ⟨rfl, rfl⟩)
                      go_roundw
                      case rel =>
                        refine ⟨n + 1, _, by omega, by go_num, ⟨HI.out.1.set HBne _ _, HI.out.2.1.set _ _, HI.out.2.2.1.set hnd _, HI.out.2.2.2.1.set ?_, below_set HI.out.2.2.2.2 HCB.out⟩⟩
                        exact cellv_cons (f := fun a b => min a (b + 1)) HX.out HA.out (by rw [if_pos (by omega), HB2.out, Int.ofNat_sub hge]; rfl)
                      case measure => (simp [intOf] <;> omega)
                    · go_wp2_with (go_at_call 59; refine (join_fewest a 258 _ (by omega) (by omega) (by omega) (by omega)).mono ?_; rintro e w2 ⟨rfl, rfl⟩)
                      go_roundw
                      case rel =>
                        refine ⟨n + 1, _, by omega, by go_num, ⟨HI.out.1.set HBne _ _, HI.out.2.1.set _ _, HI.out.2.2.1.set hnd _, HI.out.2.2.2.1.set ?_, below_set HI.out.2.2.2.2 HCB.out⟩⟩
                        have hz := cellv_cons (f := fun a b => min a (b + 1)) HX.out HA.out (b := 258) (by rw [if_neg (by omega)])
                        first | exact hz | exact (congrArg (fun q => min q 1048577) (Int.add_zero a)).symm.trans hz
                      case measure => (simp [intOf] <;> omega)
                  · obtain rfl : n = d := by omega
                    go_wp2
                    go_roundw
                    case rel => exact ⟨(k : Int) - 1, F1, rfl, by omega, by omega, ⟨HI.out.1, HI.out.2.1, by rw [show ((k : Int) - 1 + 1).toNat = k by omega]; exact HI.out.2.2.1.of_part HI.out.2.2.2.1⟩, ⟨HI.out.2.2.2.2⟩⟩
                    case measure => (simp [intOf] <;> omega)
              · obtain rfl : z = -1 := by omega
                go_wp2
                go_ret
                exact ⟨B, rfl, ⟨C, A0, c0, F, HT2.out.1, HT2.out.2.1, fun j hj n hn => HT2.out.2.2 j (by simp) hj n hn⟩, HW3.out⟩

end Go.Proofs.Ytgkgeodphgfgnaa.Pr
-- Printed for this claim by a program of this session, over the kit's printer. Not trusted: Lean checks it.
namespace Go.Proofs.Ytgkgeodphgfgnaa.Pr
open Go.RowKit Go.Proofs.YtgkgeodphgfgnaaW.PrintWords Go.Proofs.YtgkgeodphgfgnaaW.PrintLast Go.Proofs.YtgkgeodphgfgnaaW.PrintMore
attribute [local go_sem] max2_int min2_int max_two min_two max_three min_three max_four min_four
set_option linter.unusedVariables false
set_option linter.unusedSimpArgs false

/-! ### blocks_inside: function 53 -/
def blocks_inside.f (a0 : Int) : Option (Bool) := if a0 ≥ 1 then (some (decide (a0 ≤ 100000))) else (some false)
set_option maxHeartbeats 8000000 in
set_option maxRecDepth 100000 in
theorem blocks_inside.calls (a0 : Int) (r : Bool) (w : World) (h : blocks_inside.f a0 = some r) :
    Calls Try.prog 53 #[.int .i64 a0] w fun e w' => e = .returned (.bool r) ∧ Drawn0 w w' := by
  have H : (if a0 ≥ 1 then (some (decide (a0 ≤ 100000))) else (some false)) = some r := h
  clear h
  by_cases c2 : a0 ≥ 1
  · rw [if_pos c2] at H
    have c2b0 : decide (1 ≤ a0) = true := decide_eq_true c2
    clear c2
    obtain rfl := Option.some.inj H
    go_enter Try.func53, Try.ntmps53
    go_wp2
    go_ret
    exact ⟨by first | rfl | (simp; done) | (simp [*]; done), by repeat (first | exact Drawn0.refl _ | apply Drawn0.step)⟩
  · rw [if_neg c2] at H
    have c2b0 : decide (1 ≤ a0) = false := decide_eq_false c2
    clear c2
    obtain rfl := Option.some.inj H
    go_enter Try.func53, Try.ntmps53
    go_wp2
    go_ret
    exact ⟨by first | rfl | (simp; done) | (simp [*]; done), by repeat (first | exact Drawn0.refl _ | apply Drawn0.step)⟩

end Go.Proofs.Ytgkgeodphgfgnaa.Pr
-- Printed for this claim by a program of this session, over the kit's printer. Not trusted: Lean checks it.
namespace Go.Proofs.Ytgkgeodphgfgnaa.Pr
open Go.RowKit Go.Proofs.YtgkgeodphgfgnaaW.PrintWords Go.Proofs.YtgkgeodphgfgnaaW.PrintLast Go.Proofs.YtgkgeodphgfgnaaW.PrintMore
attribute [local go_sem] max2_int min2_int max_two min_two max_three min_three max_four min_four
set_option linter.unusedVariables false
set_option linter.unusedSimpArgs false

/-! ### blocks_Check: function 27 -/
def blocks_Check.l0 : Nat → List Int → List Int → Int → Int → Option (Int)
  | 0, _, _, _, _ => none
  | k + 1, x0, x8, x9, x10 => if x10 < x9 then (if 0 ≤ x10 then (if x10 < (x8.length : Int) then ((blocks_inside.f (rd x8 x10)).bind fun t107 => (if t107 = true then (if x10 > 0 then (if 0 ≤ (wrap64 (x10 - 1)) then (if (wrap64 (x10 - 1)) < (x0.length : Int) then (if (rd x8 x10) ≤ (rd x0 (wrap64 (x10 - 1))) then (some 9) else (blocks_Check.l0 k x0 x8 x9 (wrap64 (x10 + 1)))) else (none)) else (none)) else (blocks_Check.l0 k x0 x8 x9 (wrap64 (x10 + 1)))) else (some 2))) else (none)) else (none)) else (some 0)
def blocks_Check.f (k : Nat) (l0 : List Int) : Option (Int) := if (l0.length : Int) > 256 then (some 5) else (blocks_Check.l0 k l0 l0 (l0.length : Int) 0)
theorem blocks_Check.mono_l : ∀ k, (∀ y0 y1 y2 y3, LeO (blocks_Check.l0 k y0 y1 y2 y3) (blocks_Check.l0 (k + 1) y0 y1 y2 y3))
  | 0 => fun _ _ _ _ r h => by simp [blocks_Check.l0] at h
  | k + 1 => by
    have ih0 := blocks_Check.mono_l k
    · intro y0 y1 y2 y3
      unfold blocks_Check.l0
      repeat' first
      | (with_reducible exact ih0 _ _ _ _)
      | (with_reducible exact LeO.refl _)
      | (with_reducible exact LeO.none _)
      | (with_reducible refine LeO.ite ?_ ?_)
      | (with_reducible refine LeO.bind ?_ (fun _ => ?_))
      | exact ih0 _ _ _ _
      | exact LeO.none _
      | refine LeO.ite ?_ ?_
      | refine LeO.bind ?_ (fun _ => ?_)
theorem blocks_Check.mono : ∀ a0 k, LeO (blocks_Check.f k a0) (blocks_Check.f (k + 1) a0) := by
  intro a0 k
  have ih0 := blocks_Check.mono_l k
  unfold blocks_Check.f
  repeat' first
      | (with_reducible exact ih0 _ _ _ _)
      | (with_reducible exact LeO.refl _)
      | (with_reducible exact LeO.none _)
      | (with_reducible refine LeO.ite ?_ ?_)
      | (with_reducible refine LeO.bind ?_ (fun _ => ?_))
      | exact ih0 _ _ _ _
      | exact LeO.none _
      | refine LeO.ite ?_ ?_
      | refine LeO.bind ?_ (fun _ => ?_)
set_option maxHeartbeats 8000000 in
set_option maxRecDepth 100000 in
theorem blocks_Check.calls (k : Nat) (A0 : Option Addr) (c0 : Nat) (l0 : List Int) (r : Int) (w : World) (hr0 : Kd.C (Kd.int .i64) w A0 l0.length l0) (hc0 : l0.length ≤ c0) (h : blocks_Check.f k l0 = some r) :
    Calls Try.prog 27 #[.slice A0 l0.length c0] w fun e w' => e = .returned (.int .i64 r) ∧ Drawn0 w w' := by
  have HR0 := Aside0.mk hr0
  have HC0 := Aside0.mk hc0
  clear hr0 hc0
  have H : (if (l0.length : Int) > 256 then (some 5) else (blocks_Check.l0 k l0 l0 (l0.length : Int) 0)) = some r := h
  clear h
  by_cases c2 : (l0.length : Int) > 256
  · rw [if_pos c2] at H
    have c2b0 : decide (256 < (l0.length : Int)) = true := decide_eq_true c2
    have c2b1 : decide (256 < l0.length) = true := decide_eq_true (by omega)
    clear c2
    obtain rfl := Option.some.inj H
    go_enter Try.func27, Try.ntmps27
    go_wp2
    go_ret
    exact ⟨by first | rfl | (simp; done) | (simp [*]; done), by repeat (first | exact Drawn0.refl _ | apply Drawn0.step)⟩
  · rw [if_neg c2] at H
    have c2b0 : decide (256 < (l0.length : Int)) = false := decide_eq_false c2
    have c2b1 : decide (256 < l0.length) = false := decide_eq_false (by omega)
    clear c2
    have H' := Aside0.mk H
    clear H
    go_enter Try.func27, Try.ntmps27
    go_wp2
    go_loopg [10] k (fun kq v10 w' => ∃ (x10_1 : Int), v10 = .int .i64 x10_1 ∧ Aside0 (blocks_Check.l0 kq l0 l0 (l0.length : Int) x10_1 = some r) ∧ Aside0 (kq ≤ k) ∧ Drawn0 w w')
    case atStart => exact ⟨(0), (by first | rfl | (simp; done) | (simp [*]; done)), H', ⟨Nat.le_refl _⟩, by repeat (first | exact Drawn0.refl _ | apply Drawn0.step)⟩
    case round =>
      clear H'
      try clear c2
      try clear c2b0
      try clear c2b1
      try clear p2
      obtain ⟨x10_1, rfl, HA, HK1, ⟨m1, rfl⟩⟩ := hrel
      cases gk with
      | zero => exact absurd HA.out (by simp [blocks_Check.l0])
      | succ k1 =>
        have H := HA.out
        clear HA
        simp only [blocks_Check.l0] at H
        by_cases c3 : x10_1 < (l0.length : Int)
        · rw [if_pos c3] at H
          have c3b0 : decide (x10_1 < (l0.length : Int)) = true := decide_eq_true c3
          clear c3
          by_cases c4 : 0 ≤ x10_1
          · rw [if_pos c4] at H
            have c4b0 : decide (0 ≤ x10_1) = true := decide_eq_true c4
            clear c4
            by_cases c5 : x10_1 < (l0.length : Int)
            · rw [if_pos c5] at H
              have c5b0 : decide (x10_1 < (l0.length : Int)) = true := decide_eq_true c5
              clear c5
              replace H := Option.bind_eq_some_iff.mp H
              obtain ⟨t107, A60, H⟩ := H
              replace H : (if t107 = true then (if x10_1 > 0 then (if 0 ≤ (wrap64 (x10_1 - 1)) then (if (wrap64 (x10_1 - 1)) < (l0.length : Int) then (if (rd l0 x10_1) ≤ (rd l0 (wrap64 (x10_1 - 1))) then (some 9) else (blocks_Check.l0 k1 l0 l0 (l0.length : Int) (wrap64 (x10_1 + 1)))) else (none)) else (none)) else (blocks_Check.l0 k1 l0 l0 (l0.length : Int) (wrap64 (x10_1 + 1)))) else (some 2)) = some r := H
              have A6 := Aside0.mk A60
              clear A60
              by_cases c7 : t107 = true
              · subst c7
                have H1 : (if x10_1 > 0 then (if 0 ≤ (wrap64 (x10_1 - 1)) then (if (wrap64 (x10_1 - 1)) < (l0.length : Int) then (if (rd l0 x10_1) ≤ (rd l0 (wrap64 (x10_1 - 1))) then (some 9) else (blocks_Check.l0 k1 l0 l0 (l0.length : Int) (wrap64 (x10_1 + 1)))) else (none)) else (none)) else (blocks_Check.l0 k1 l0 l0 (l0.length : Int) (wrap64 (x10_1 + 1)))) = some r := by rw [if_pos rfl] at H; exact H
                clear H
                have H := H1
                clear H1
                by_cases c8 : x10_1 > 0
                · rw [if_pos c8] at H
                  have c8b0 : decide (0 < x10_1) = true := decide_eq_true c8
                  clear c8
                  obtain ⟨ji9, hji9⟩ : ∃ j_ : Int, (wrap64 (x10_1 - 1)) = j_ := ⟨_, rfl⟩
                  replace H : (if 0 ≤ (ji9) then (if (ji9) < (l0.length : Int) then (if (rd l0 x10_1) ≤ (rd l0 (ji9)) then (some 9) else (blocks_Check.l0 k1 l0 l0 (l0.length : Int) (wrap64 (x10_1 + 1)))) else (none)) else (none)) = some r := by first | (rw [hji9] at H; exact H) | (simp only [hji9] at H ⊢; exact H)
                  (try rw [hji9] at A6)
                  have hji9w : (IntKind.i64.wrap (x10_1 - 1)) = ji9 := (i64_w _).trans hji9
                  by_cases c10 : 0 ≤ (ji9)
                  · rw [if_pos c10] at H
                    have c10b0 : decide (0 ≤ (ji9)) = true := decide_eq_true c10
                    clear c10
                    by_cases c11 : (ji9) < (l0.length : Int)
                    · rw [if_pos c11] at H
                      have c11b0 : decide ((ji9) < (l0.length : Int)) = true := decide_eq_true c11
                      clear c11
                      by_cases c12 : (rd l0 x10_1) ≤ (rd l0 (ji9))
                      · rw [if_pos c12] at H
                        have c12b0 : decide ((rd l0 x10_1) ≤ (rd l0 (ji9))) = true := decide_eq_true c12
                        clear c12
                        obtain rfl := Option.some.inj H
                        have p106 : 0 ≤ (x10_1 : Int) := of_decide_eq_true (by first | (with_reducible assumption) | assumption)
                        have q106 : x10_1 < (l0.length : Int) := of_decide_eq_true (by first | (with_reducible assumption) | assumption)
                        obtain ⟨ad106, e106, hx106_0⟩ := Kd.at_int HR0.out x10_1 p106 q106
                        cases e106
                        replace p106 := eq_true p106
                        replace q106 := eq_true q106
                        go_wp2_with (first | ((with_reducible refine gate_callee (f := 53) rfl ?_); refine goesL_ (some 17) rfl rfl Try.func53 (by kernel_rfl) rfl #[.int .i64 (rd l0 x10_1)] rfl (by (try simp only [List.map_toArray, List.map_cons, List.map_nil]); first | done | rfl | (simp only [List.length_drop, List.length_take]; rfl)) ?_; (with_reducible refine (blocks_inside.calls (rd l0 x10_1) true _ A6.out).mono ?_); rintro e w' ⟨rfl, ⟨nd, rfl⟩⟩; refine ⟨_, rfl, ?_⟩; have p108 : 0 ≤ ((ji9) : Int) := of_decide_eq_true (by first | (with_reducible assumption) | assumption); have q108 : (ji9) < (l0.length : Int) := of_decide_eq_true (by first | (with_reducible assumption) | assumption); obtain ⟨ad108, e108, hx108_0⟩ := Kd.at_int HR0.out (ji9) p108 q108; obtain rfl : ad106 = ad108 := (by injection e108); replace p108 := eq_true p108; replace q108 := eq_true q108))
                        go_ret
                        exact ⟨by first | rfl | (simp; done) | (simp only [← hji9] <;> (first | rfl | simp)) | (simp [*]; done), by repeat (first | exact Drawn0.refl _ | apply Drawn0.step)⟩
                      · rw [if_neg c12] at H
                        have c12b0 : decide ((rd l0 x10_1) ≤ (rd l0 (ji9))) = false := decide_eq_false c12
                        clear c12
                        have H' := Aside0.mk H
                        clear H
                        have p106 : 0 ≤ (x10_1 : Int) := of_decide_eq_true (by first | (with_reducible assumption) | assumption)
                        have q106 : x10_1 < (l0.length : Int) := of_decide_eq_true (by first | (with_reducible assumption) | assumption)
                        obtain ⟨ad106, e106, hx106_0⟩ := Kd.at_int HR0.out x10_1 p106 q106
                        cases e106
                        replace p106 := eq_true p106
                        replace q106 := eq_true q106
                        go_wp2_with (first | ((with_reducible refine gate_callee (f := 53) rfl ?_); refine goesL_ (some 17) rfl rfl Try.func53 (by kernel_rfl) rfl #[.int .i64 (rd l0 x10_1)] rfl (by (try simp only [List.map_toArray, List.map_cons, List.map_nil]); first | done | rfl | (simp only [List.length_drop, List.length_take]; rfl)) ?_; (with_reducible refine (blocks_inside.calls (rd l0 x10_1) true _ A6.out).mono ?_); rintro e w' ⟨rfl, ⟨nd, rfl⟩⟩; refine ⟨_, rfl, ?_⟩; have p108 : 0 ≤ ((ji9) : Int) := of_decide_eq_true (by first | (with_reducible assumption) | assumption); have q108 : (ji9) < (l0.length : Int) := of_decide_eq_true (by first | (with_reducible assumption) | assumption); obtain ⟨ad108, e108, hx108_0⟩ := Kd.at_int HR0.out (ji9) p108 q108; obtain rfl : ad106 = ad108 := (by injection e108); replace p108 := eq_true p108; replace q108 := eq_true q108))
                        go_roundg k1
                        case measure => have := HK1.out; omega
                        case rel => exact ⟨(wrap64 (x10_1 + 1)), (by first | rfl | (simp; done) | (simp [*]; done)), H', ⟨by have := HK1.out; omega⟩, by repeat (first | exact Drawn0.refl _ | apply Drawn0.step)⟩
                    · rw [if_neg c11] at H
                      exact absurd H (by simp)
                  · rw [if_neg c10] at H
                    exact absurd H (by simp)
                · rw [if_neg c8] at H
                  have c8b0 : decide (0 < x10_1) = false := decide_eq_false c8
                  clear c8
                  have H' := Aside0.mk H
                  clear H
                  have p106 : 0 ≤ (x10_1 : Int) := of_decide_eq_true (by first | (with_reducible assumption) | assumption)
                  have q106 : x10_1 < (l0.length : Int) := of_decide_eq_true (by first | (with_reducible assumption) | assumption)
                  obtain ⟨ad106, e106, hx106_0⟩ := Kd.at_int HR0.out x10_1 p106 q106
                  cases e106
                  replace p106 := eq_true p106
                  replace q106 := eq_true q106
                  go_wp2_with (first | ((with_reducible refine gate_callee (f := 53) rfl ?_); refine goesL_ (some 17) rfl rfl Try.func53 (by kernel_rfl) rfl #[.int .i64 (rd l0 x10_1)] rfl (by (try simp only [List.map_toArray, List.map_cons, List.map_nil]); first | done | rfl | (simp only [List.length_drop, List.length_take]; rfl)) ?_; (with_reducible refine (blocks_inside.calls (rd l0 x10_1) true _ A6.out).mono ?_); rintro e w' ⟨rfl, ⟨nd, rfl⟩⟩; refine ⟨_, rfl, ?_⟩))
                  go_roundg k1
                  case measure => have := HK1.out; omega
                  case rel => exact ⟨(wrap64 (x10_1 + 1)), (by first | rfl | (simp; done) | (simp [*]; done)), H', ⟨by have := HK1.out; omega⟩, by repeat (first | exact Drawn0.refl _ | apply Drawn0.step)⟩
              · replace c7 := Bool.eq_false_iff.mpr c7
                subst c7
                have H1 : (some 2) = some r := by rw [if_neg (show ¬ (false = true) by decide)] at H; exact H
                clear H
                have H := H1
                clear H1
                obtain rfl := Option.some.inj H
                have p106 : 0 ≤ (x10_1 : Int) := of_decide_eq_true (by first | (with_reducible assumption) | assumption)
                have q106 : x10_1 < (l0.length : Int) := of_decide_eq_true (by first | (with_reducible assumption) | assumption)
                obtain ⟨ad106, e106, hx106_0⟩ := Kd.at_int HR0.out x10_1 p106 q106
                cases e106
                replace p106 := eq_true p106
                replace q106 := eq_true q106
                go_wp2_with (first | ((with_reducible refine gate_callee (f := 53) rfl ?_); refine goesL_ (some 17) rfl rfl Try.func53 (by kernel_rfl) rfl #[.int .i64 (rd l0 x10_1)] rfl (by (try simp only [List.map_toArray, List.map_cons, List.map_nil]); first | done | rfl | (simp only [List.length_drop, List.length_take]; rfl)) ?_; (with_reducible refine (blocks_inside.calls (rd l0 x10_1) false _ A6.out).mono ?_); rintro e w' ⟨rfl, ⟨nd, rfl⟩⟩; refine ⟨_, rfl, ?_⟩))
                go_ret
                exact ⟨by first | rfl | (simp; done) | (simp [*]; done), by repeat (first | exact Drawn0.refl _ | apply Drawn0.step)⟩
            · rw [if_neg c5] at H
              exact absurd H (by simp)
          · rw [if_neg c4] at H
            exact absurd H (by simp)
        · rw [if_neg c3] at H
          have c3b0 : decide (x10_1 < (l0.length : Int)) = false := decide_eq_false c3
          clear c3
          obtain rfl := Option.some.inj H
          go_wp2
          go_ret
          exact ⟨by first | rfl | (simp; done) | (simp [*]; done), by repeat (first | exact Drawn0.refl _ | apply Drawn0.step)⟩

end Go.Proofs.Ytgkgeodphgfgnaa.Pr
-- Printed for this claim by a program of this session, over the kit's printer. Not trusted: Lean checks it.
namespace Go.Proofs.Ytgkgeodphgfgnaa.Pr
open Go.RowKit Go.Proofs.YtgkgeodphgfgnaaW.PrintWords Go.Proofs.YtgkgeodphgfgnaaW.PrintLast Go.Proofs.YtgkgeodphgfgnaaW.PrintMore
attribute [local go_sem] max2_int min2_int max_two min_two max_three min_three max_four min_four
set_option linter.unusedVariables false
set_option linter.unusedSimpArgs false

/-! ### metrolabref50_Check: function 28 -/
mutual
def metrolabref50_Check.l0 : Nat → List Int → Int → Option (Int)
  | 0, _, _ => none
  | k + 1, x0, x3 => if x3 < (x0.length : Int) then (if 0 ≤ x3 then (if (rd x0 x3) < 1 then (metrolabref50_Check.j1 k x0 x3 true) else (metrolabref50_Check.j1 k x0 x3 (decide ((rd x0 x3) > 100000)))) else (none)) else (some 0)
def metrolabref50_Check.j1 : Nat → List Int → Int → Bool → Option (Int)
  | 0, _, _, _ => none
  | k + 1, x0, x3, x24 => if x24 = true then (some 2) else (if x3 > 0 then (if 0 ≤ x3 then (if x3 < (x0.length : Int) then (if 0 ≤ (wrap64 (x3 - 1)) then (if (wrap64 (x3 - 1)) < (x0.length : Int) then (if (rd x0 x3) ≤ (rd x0 (wrap64 (x3 - 1))) then (some 9) else (metrolabref50_Check.l0 k x0 (wrap64 (x3 + 1)))) else (none)) else (none)) else (none)) else (none)) else (metrolabref50_Check.l0 k x0 (wrap64 (x3 + 1))))
end
def metrolabref50_Check.f (k : Nat) (l0 : List Int) : Option (Int) := if (l0.length : Int) > 256 then (some 5) else (metrolabref50_Check.l0 k l0 0)
theorem metrolabref50_Check.mono_l : ∀ k, (∀ y0 y1, LeO (metrolabref50_Check.l0 k y0 y1) (metrolabref50_Check.l0 (k + 1) y0 y1)) ∧ (∀ y0 y1 y2, LeO (metrolabref50_Check.j1 k y0 y1 y2) (metrolabref50_Check.j1 (k + 1) y0 y1 y2))
  | 0 => ⟨fun _ _ r h => by simp [metrolabref50_Check.l0] at h, fun _ _ _ r h => by simp [metrolabref50_Check.j1] at h⟩
  | k + 1 => by
    obtain ⟨ih0, ih1⟩ := metrolabref50_Check.mono_l k
    refine ⟨?_, ?_⟩
    · intro y0 y1
      unfold metrolabref50_Check.l0
      repeat' first
      | (with_reducible exact ih0 _ _)
      | (with_reducible exact ih1 _ _ _)
      | (with_reducible exact LeO.refl _)
      | (with_reducible exact LeO.none _)
      | (with_reducible refine LeO.ite ?_ ?_)
      | (with_reducible refine LeO.bind ?_ (fun _ => ?_))
      | exact ih0 _ _
      | exact ih1 _ _ _
      | exact LeO.none _
      | refine LeO.ite ?_ ?_
      | refine LeO.bind ?_ (fun _ => ?_)
    · intro y0 y1 y2
      unfold metrolabref50_Check.j1
      repeat' first
      | (with_reducible exact ih0 _ _)
      | (with_reducible exact ih1 _ _ _)
      | (with_reducible exact LeO.refl _)
      | (with_reducible exact LeO.none _)
      | (with_reducible refine LeO.ite ?_ ?_)
      | (with_reducible refine LeO.bind ?_ (fun _ => ?_))
      | exact ih0 _ _
      | exact ih1 _ _ _
      | exact LeO.none _
      | refine LeO.ite ?_ ?_
      | refine LeO.bind ?_ (fun _ => ?_)
theorem metrolabref50_Check.mono : ∀ a0 k, LeO (metrolabref50_Check.f k a0) (metrolabref50_Check.f (k + 1) a0) := by
  intro a0 k
  obtain ⟨ih0, ih1⟩ := metrolabref50_Check.mono_l k
  unfold metrolabref50_Check.f
  repeat' first
      | (with_reducible exact ih0 _ _)
      | (with_reducible exact ih1 _ _ _)
      | (with_reducible exact LeO.refl _)
      | (with_reducible exact LeO.none _)
      | (with_reducible refine LeO.ite ?_ ?_)
      | (with_reducible refine LeO.bind ?_ (fun _ => ?_))
      | exact ih0 _ _
      | exact ih1 _ _ _
      | exact LeO.none _
      | refine LeO.ite ?_ ?_
      | refine LeO.bind ?_ (fun _ => ?_)
set_option maxHeartbeats 8000000 in
set_option maxRecDepth 100000 in
theorem metrolabref50_Check.calls (k : Nat) (A0 : Option Addr) (c0 : Nat) (l0 : List Int) (r : Int) (w : World) (hr0 : Kd.C (Kd.int .i64) w A0 l0.length l0) (hc0 : l0.length ≤ c0) (h : metrolabref50_Check.f k l0 = some r) :
    Calls Try.prog 28 #[.slice A0 l0.length c0] w fun e w' => e = .returned (.int .i64 r) ∧ Drawn0 w w' := by
  have HR0 := Aside0.mk hr0
  have HC0 := Aside0.mk hc0
  clear hr0 hc0
  have H : (if (l0.length : Int) > 256 then (some 5) else (metrolabref50_Check.l0 k l0 0)) = some r := h
  clear h
  by_cases c2 : (l0.length : Int) > 256
  · rw [if_pos c2] at H
    have c2b0 : decide (256 < (l0.length : Int)) = true := decide_eq_true c2
    have c2b1 : decide (256 < l0.length) = true := decide_eq_true (by omega)
    clear c2
    obtain rfl := Option.some.inj H
    go_enter Try.func28, Try.ntmps28
    go_wp2
    repeat (go_quiet (fail); try go_wp2)
    go_ret
    exact ⟨by first | rfl | (simp; done) | (simp [*]; done), by repeat (first | exact Drawn0.refl _ | apply Drawn0.step)⟩
  · rw [if_neg c2] at H
    have c2b0 : decide (256 < (l0.length : Int)) = false := decide_eq_false c2
    have c2b1 : decide (256 < l0.length) = false := decide_eq_false (by omega)
    clear c2
    have H' := Aside0.mk H
    clear H
    go_enter Try.func28, Try.ntmps28
    go_wp2
    repeat (go_quiet (fail); try go_wp2)
    go_loopg [3] k (fun kq v3 w' => ∃ (x3_1 : Int), v3 = .int .i64 x3_1 ∧ Aside0 (metrolabref50_Check.l0 kq l0 x3_1 = some r) ∧ Aside0 (kq ≤ k) ∧ Drawn0 w w')
    case atStart => exact ⟨(0), (by first | rfl | (simp; done) | (simp [*]; done)), H', ⟨Nat.le_refl _⟩, by repeat (first | exact Drawn0.refl _ | apply Drawn0.step)⟩
    case round =>
      clear H'
      try clear c2
      try clear c2b0
      try clear c2b1
      try clear p2
      obtain ⟨x3_1, rfl, HA, HK1, ⟨m1, rfl⟩⟩ := hrel
      cases gk with
      | zero => exact absurd HA.out (by simp [metrolabref50_Check.l0])
      | succ k1 =>
        have H := HA.out
        clear HA
        simp only [metrolabref50_Check.l0] at H
        by_cases c3 : x3_1 < (l0.length : Int)
        · rw [if_pos c3] at H
          have c3b0 : decide (x3_1 < (l0.length : Int)) = true := decide_eq_true c3
          clear c3
          have HC4 := Aside0.mk H
          clear H
          go_upto_region 6 with (fail)
          repeat (go_quiet (fail); go_upto_region 6 with (fail))
          go_cut [24] (fun v24 wc => ∃ (kq : Nat) (x24_3 : Bool), v24 = .bool x24_3 ∧ Aside0 (metrolabref50_Check.j1 kq l0 x3_1 x24_3 = some r) ∧ Aside0 (kq ≤ k1) ∧ Drawn0 w wc)
          case first =>
            have H := HC4.out
            clear HC4
            by_cases c5 : 0 ≤ x3_1
            · rw [if_pos c5] at H
              have c5b0 : decide (0 ≤ x3_1) = true := decide_eq_true c5
              clear c5
              (first | rw [c5b0] | (simp only [i64_w, i32_w]; rw [c5b0]) | skip)
              by_cases c6 : (rd l0 x3_1) < 1
              · rw [if_pos c6] at H
                have c6b0 : decide ((rd l0 x3_1) < 1) = true := decide_eq_true c6
                clear c6
                have H' := Aside0.mk H
                clear H
                have p101 : 0 ≤ (x3_1 : Int) := of_decide_eq_true (by first | (with_reducible assumption) | assumption)
                have q101 : x3_1 < (l0.length : Int) := of_decide_eq_true (by first | (with_reducible assumption) | assumption)
                obtain ⟨ad101, e101, hx101_0⟩ := Kd.at_int HR0.out x3_1 p101 q101
                cases e101
                replace p101 := eq_true p101
                replace q101 := eq_true q101
                go_wp2
                repeat (go_quiet (fail); try go_wp2)
                go_meet
                case rel => exact ⟨_, (true), (by first | rfl | (simp; done) | (simp [*]; done)), H', ⟨by have := HK1.out; first | omega | exact Nat.le_refl _⟩, by repeat (first | exact Drawn0.refl _ | apply Drawn0.step)⟩
              · rw [if_neg c6] at H
                have c6b0 : decide ((rd l0 x3_1) < 1) = false := decide_eq_false c6
                clear c6
                have H' := Aside0.mk H
                clear H
                have p101 : 0 ≤ (x3_1 : Int) := of_decide_eq_true (by first | (with_reducible assumption) | assumption)
                have q101 : x3_1 < (l0.length : Int) := of_decide_eq_true (by first | (with_reducible assumption) | assumption)
                obtain ⟨ad101, e101, hx101_0⟩ := Kd.at_int HR0.out x3_1 p101 q101
                cases e101
                replace p101 := eq_true p101
                replace q101 := eq_true q101
                have p102 : 0 ≤ (x3_1 : Int) := of_decide_eq_true (by first | (with_reducible assumption) | assumption)
                have q102 : x3_1 < (l0.length : Int) := of_decide_eq_true (by first | (with_reducible assumption) | assumption)
                obtain ⟨ad102, e102, hx102_0⟩ := Kd.at_int HR0.out x3_1 p102 q102
                obtain rfl : ad101 = ad102 := (by injection e102)
                replace p102 := eq_true p102
                replace q102 := eq_true q102
                go_wp2
                repeat (go_quiet (fail); try go_wp2)
                go_meet
                case rel => exact ⟨_, (decide ((rd l0 x3_1) > 100000)), (by first | rfl | (simp; done) | (simp [*]; done)), H', ⟨by have := HK1.out; first | omega | exact Nat.le_refl _⟩, by repeat (first | exact Drawn0.refl _ | apply Drawn0.step)⟩
            · rw [if_neg c5] at H
              exact absurd H (by simp)
          case rest =>
            clear HC4
            try clear p1
            try clear q1
            try clear hx1
            try clear c2
            try clear c2b0
            try clear c2b1
            try clear p2
            try clear c3
            try clear c3b0
            try clear c5
            try clear c5b0
            try clear c6
            try clear c6b0
            try clear hx101_0
            try clear hx102_0
            try clear p101
            try clear p102
            try clear p2
            try clear q101
            try clear q102
            obtain ⟨kq, x24_3, rfl, HA, HJ3, ⟨mc3, rfl⟩⟩ := hcut
            cases kq with
            | zero => exact absurd HA.out (by simp [metrolabref50_Check.j1])
            | succ kj3 =>
              have H := HA.out
              clear HA
              simp only [metrolabref50_Check.j1] at H
              by_cases c7 : x24_3 = true
              · subst c7
                have H1 : (some 2) = some r := by rw [if_pos rfl] at H; exact H
                clear H
                have H := H1
                clear H1
                obtain rfl := Option.some.inj H
                go_wp2
                repeat (go_quiet (fail); try go_wp2)
                go_ret
                exact ⟨by first | rfl | (simp; done) | (simp [*]; done), by repeat (first | exact Drawn0.refl _ | apply Drawn0.step)⟩
              · replace c7 := Bool.eq_false_iff.mpr c7
                subst c7
                have H1 : (if x3_1 > 0 then (if 0 ≤ x3_1 then (if x3_1 < (l0.length : Int) then (if 0 ≤ (wrap64 (x3_1 - 1)) then (if (wrap64 (x3_1 - 1)) < (l0.length : Int) then (if (rd l0 x3_1) ≤ (rd l0 (wrap64 (x3_1 - 1))) then (some 9) else (metrolabref50_Check.l0 kj3 l0 (wrap64 (x3_1 + 1)))) else (none)) else (none)) else (none)) else (none)) else (metrolabref50_Check.l0 kj3 l0 (wrap64 (x3_1 + 1)))) = some r := by rw [if_neg (show ¬ (false = true) by decide)] at H; exact H
                clear H
                have H := H1
                clear H1
                by_cases c8 : x3_1 > 0
                · rw [if_pos c8] at H
                  have c8b0 : decide (0 < x3_1) = true := decide_eq_true c8
                  clear c8
                  by_cases c9 : 0 ≤ x3_1
                  · rw [if_pos c9] at H
                    have c9b0 : decide (0 ≤ x3_1) = true := decide_eq_true c9
                    clear c9
                    by_cases c10 : x3_1 < (l0.length : Int)
                    · rw [if_pos c10] at H
                      have c10b0 : decide (x3_1 < (l0.length : Int)) = true := decide_eq_true c10
                      clear c10
                      obtain ⟨ji11, hji11⟩ : ∃ j_ : Int, (wrap64 (x3_1 - 1)) = j_ := ⟨_, rfl⟩
                      replace H : (if 0 ≤ (ji11) then (if (ji11) < (l0.length : Int) then (if (rd l0 x3_1) ≤ (rd l0 (ji11)) then (some 9) else (metrolabref50_Check.l0 kj3 l0 (wrap64 (x3_1 + 1)))) else (none)) else (none)) = some r := by first | (rw [hji11] at H; exact H) | (simp only [hji11] at H ⊢; exact H)
                      have hji11w : (IntKind.i64.wrap (x3_1 - 1)) = ji11 := (i64_w _).trans hji11
                      by_cases c12 : 0 ≤ (ji11)
                      · rw [if_pos c12] at H
                        have c12b0 : decide (0 ≤ (ji11)) = true := decide_eq_true c12
                        clear c12
                        by_cases c13 : (ji11) < (l0.length : Int)
                        · rw [if_pos c13] at H
                          have c13b0 : decide ((ji11) < (l0.length : Int)) = true := decide_eq_true c13
                          clear c13
                          by_cases c14 : (rd l0 x3_1) ≤ (rd l0 (ji11))
                          · rw [if_pos c14] at H
                            have c14b0 : decide ((rd l0 x3_1) ≤ (rd l0 (ji11))) = true := decide_eq_true c14
                            clear c14
                            obtain rfl := Option.some.inj H
                            have p103 : 0 ≤ (x3_1 : Int) := of_decide_eq_true (by first | (with_reducible assumption) | assumption)
                            have q103 : x3_1 < (l0.length : Int) := of_decide_eq_true (by first | (with_reducible assumption) | assumption)
                            obtain ⟨ad103, e103, hx103_0⟩ := Kd.at_int HR0.out x3_1 p103 q103
                            cases e103
                            replace p103 := eq_true p103
                            replace q103 := eq_true q103
                            have p104 : 0 ≤ ((ji11) : Int) := of_decide_eq_true (by first | (with_reducible assumption) | assumption)
                            have q104 : (ji11) < (l0.length : Int) := of_decide_eq_true (by first | (with_reducible assumption) | assumption)
                            obtain ⟨ad104, e104, hx104_0⟩ := Kd.at_int HR0.out (ji11) p104 q104
                            obtain rfl : ad103 = ad104 := (by injection e104)
                            replace p104 := eq_true p104
                            replace q104 := eq_true q104
                            go_wp2
                            repeat (go_quiet (fail); try go_wp2)
                            go_ret
                            exact ⟨by first | rfl | (simp; done) | (simp only [← hji11] <;> (first | rfl | simp)) | (simp [*]; done), by repeat (first | exact Drawn0.refl _ | apply Drawn0.step)⟩
                          · rw [if_neg c14] at H
                            have c14b0 : decide ((rd l0 x3_1) ≤ (rd l0 (ji11))) = false := decide_eq_false c14
                            clear c14
                            have H' := Aside0.mk H
                            clear H
                            have p103 : 0 ≤ (x3_1 : Int) := of_decide_eq_true (by first | (with_reducible assumption) | assumption)
                            have q103 : x3_1 < (l0.length : Int) := of_decide_eq_true (by first | (with_reducible assumption) | assumption)
                            obtain ⟨ad103, e103, hx103_0⟩ := Kd.at_int HR0.out x3_1 p103 q103
                            cases e103
                            replace p103 := eq_true p103
                            replace q103 := eq_true q103
                            have p104 : 0 ≤ ((ji11) : Int) := of_decide_eq_true (by first | (with_reducible assumption) | assumption)
                            have q104 : (ji11) < (l0.length : Int) := of_decide_eq_true (by first | (with_reducible assumption) | assumption)
                            obtain ⟨ad104, e104, hx104_0⟩ := Kd.at_int HR0.out (ji11) p104 q104
                            obtain rfl : ad103 = ad104 := (by injection e104)
                            replace p104 := eq_true p104
                            replace q104 := eq_true q104
                            go_wp2
                            repeat (go_quiet (fail); try go_wp2)
                            go_roundg kj3
                            case measure => have := HK1.out; have := HJ3.out; omega
                            case rel => exact ⟨(wrap64 (x3_1 + 1)), (by first | rfl | (simp; done) | (simp [*]; done)), H', ⟨by have := HK1.out; have := HJ3.out; omega⟩, by repeat (first | exact Drawn0.refl _ | apply Drawn0.step)⟩
                        · rw [if_neg c13] at H
                          exact absurd H (by simp)
                      · rw [if_neg c12] at H
                        exact absurd H (by simp)
                    · rw [if_neg c10] at H
                      exact absurd H (by simp)
                  · rw [if_neg c9] at H
                    exact absurd H (by simp)
                · rw [if_neg c8] at H
                  have c8b0 : decide (0 < x3_1) = false := decide_eq_false c8
                  clear c8
                  have H' := Aside0.mk H
                  clear H
                  go_wp2
                  repeat (go_quiet (fail); try go_wp2)
                  go_roundg kj3
                  case measure => have := HK1.out; have := HJ3.out; omega
                  case rel => exact ⟨(wrap64 (x3_1 + 1)), (by first | rfl | (simp; done) | (simp [*]; done)), H', ⟨by have := HK1.out; have := HJ3.out; omega⟩, by repeat (first | exact Drawn0.refl _ | apply Drawn0.step)⟩
        · rw [if_neg c3] at H
          have c3b0 : decide (x3_1 < (l0.length : Int)) = false := decide_eq_false c3
          clear c3
          obtain rfl := Option.some.inj H
          go_wp2
          repeat (go_quiet (fail); try go_wp2)
          go_ret
          exact ⟨by first | rfl | (simp; done) | (simp [*]; done), by repeat (first | exact Drawn0.refl _ | apply Drawn0.step)⟩

end Go.Proofs.Ytgkgeodphgfgnaa.Pr
-- Printed for this claim by a program of this session, over the kit's printer. Not trusted: Lean checks it.
namespace Go.Proofs.Ytgkgeodphgfgnaa.Pr
open Go.RowKit Go.Proofs.YtgkgeodphgfgnaaW.PrintWords Go.Proofs.YtgkgeodphgfgnaaW.PrintLast Go.Proofs.YtgkgeodphgfgnaaW.PrintMore
attribute [local go_sem] max2_int min2_int max_two min_two max_three min_three max_four min_four
set_option linter.unusedVariables false
set_option linter.unusedSimpArgs false

/-! ### blocks_given: function 38 -/
def blocks_given.f (k : Nat) (l0 : List Int) (a1 : Int) : Option (Int) := (blocks_Check.f k l0).bind fun t109 => (if t109 = 0 then ((blocks_inside.f a1).bind fun t110 => (if t110 = true then (some 0) else (some 2))) else (some t109))
theorem blocks_given.mono : ∀ a0 a1 k, LeO (blocks_given.f k a0 a1) (blocks_given.f (k + 1) a0 a1) := by
  intro a0 a1 k
  unfold blocks_given.f
  repeat' first
      | (with_reducible exact blocks_Check.mono _ _)
      | (with_reducible exact LeO.refl _)
      | (with_reducible exact LeO.none _)
      | (with_reducible refine LeO.ite ?_ ?_)
      | (with_reducible refine LeO.bind ?_ (fun _ => ?_))
      | exact blocks_Check.mono _ _
      | exact LeO.none _
      | refine LeO.ite ?_ ?_
      | refine LeO.bind ?_ (fun _ => ?_)
set_option maxHeartbeats 8000000 in
set_option maxRecDepth 100000 in
theorem blocks_given.calls (k : Nat) (A0 : Option Addr) (c0 : Nat) (l0 : List Int) (a1 : Int) (r : Int) (w : World) (hr0 : Kd.C (Kd.int .i64) w A0 l0.length l0) (hc0 : l0.length ≤ c0) (h : blocks_given.f k l0 a1 = some r) :
    Calls Try.prog 38 #[.slice A0 l0.length c0, .int .i64 a1] w fun e w' => e = .returned (.int .i64 r) ∧ Drawn0 w w' := by
  have HR0 := Aside0.mk hr0
  have HC0 := Aside0.mk hc0
  clear hr0 hc0
  have H : ((blocks_Check.f k l0).bind fun t109 => (if t109 = 0 then ((blocks_inside.f a1).bind fun t110 => (if t110 = true then (some 0) else (some 2))) else (some t109))) = some r := h
  clear h
  replace H := Option.bind_eq_some_iff.mp H
  obtain ⟨t109, A30, H⟩ := H
  replace H : (if t109 = 0 then ((blocks_inside.f a1).bind fun t110 => (if t110 = true then (some 0) else (some 2))) else (some t109)) = some r := H
  have A3 := Aside0.mk A30
  clear A30
  by_cases c4 : t109 = 0
  · rw [if_pos c4] at H
    have c4b0 : (t109 == 0) = true := beq_iff_eq.mpr c4
    have c4b1 : (t109 != 0) = false := bne_eq_false_iff_eq.mpr c4
    clear c4
    replace H := Option.bind_eq_some_iff.mp H
    obtain ⟨t110, A50, H⟩ := H
    replace H : (if t110 = true then (some 0) else (some 2)) = some r := H
    have A5 := Aside0.mk A50
    clear A50
    by_cases c6 : t110 = true
    · subst c6
      have H1 : (some 0) = some r := by rw [if_pos rfl] at H; exact H
      clear H
      have H := H1
      clear H1
      obtain rfl := Option.some.inj H
      go_enter Try.func38, Try.ntmps38
      go_wp2_with (first | ((with_reducible refine gate_callee (f := 27) rfl ?_); refine goesL_ (some 7) rfl rfl Try.func27 (by kernel_rfl) rfl #[.slice A0 l0.length c0] rfl (by (try simp only [List.map_toArray, List.map_cons, List.map_nil]); first | done | rfl | (simp only [List.length_drop, List.length_take]; rfl)) ?_; (with_reducible refine (blocks_Check.calls k _ _ l0 t109 _ ?side1 ?side2 A3.out).mono ?_); (case side1 => repeat (first | exact HR0.out | (with_reducible refine Kd.C_alloc ?_ _) | (with_reducible refine Kd.C_drewN ?_ _) | (with_reducible refine Kd.C_drew ?_))); (case side2 => exact HC0.out); rintro e w' ⟨rfl, ⟨nd, rfl⟩⟩; refine ⟨_, rfl, ?_⟩) | ((with_reducible refine gate_callee (f := 53) rfl ?_); refine goesL_ (some 12) rfl rfl Try.func53 (by kernel_rfl) rfl #[.int .i64 a1] rfl (by (try simp only [List.map_toArray, List.map_cons, List.map_nil]); first | done | rfl | (simp only [List.length_drop, List.length_take]; rfl)) ?_; (with_reducible refine (blocks_inside.calls a1 true _ A5.out).mono ?_); rintro e w' ⟨rfl, ⟨nd, rfl⟩⟩; refine ⟨_, rfl, ?_⟩))
      go_ret
      exact ⟨by first | rfl | (simp; done) | (simp [*]; done), by repeat (first | exact Drawn0.refl _ | apply Drawn0.step)⟩
    · replace c6 := Bool.eq_false_iff.mpr c6
      subst c6
      have H1 : (some 2) = some r := by rw [if_neg (show ¬ (false = true) by decide)] at H; exact H
      clear H
      have H := H1
      clear H1
      obtain rfl := Option.some.inj H
      go_enter Try.func38, Try.ntmps38
      go_wp2_with (first | ((with_reducible refine gate_callee (f := 27) rfl ?_); refine goesL_ (some 7) rfl rfl Try.func27 (by kernel_rfl) rfl #[.slice A0 l0.length c0] rfl (by (try simp only [List.map_toArray, List.map_cons, List.map_nil]); first | done | rfl | (simp only [List.length_drop, List.length_take]; rfl)) ?_; (with_reducible refine (blocks_Check.calls k _ _ l0 t109 _ ?side1 ?side2 A3.out).mono ?_); (case side1 => repeat (first | exact HR0.out | (with_reducible refine Kd.C_alloc ?_ _) | (with_reducible refine Kd.C_drewN ?_ _) | (with_reducible refine Kd.C_drew ?_))); (case side2 => exact HC0.out); rintro e w' ⟨rfl, ⟨nd, rfl⟩⟩; refine ⟨_, rfl, ?_⟩) | ((with_reducible refine gate_callee (f := 53) rfl ?_); refine goesL_ (some 12) rfl rfl Try.func53 (by kernel_rfl) rfl #[.int .i64 a1] rfl (by (try simp only [List.map_toArray, List.map_cons, List.map_nil]); first | done | rfl | (simp only [List.length_drop, List.length_take]; rfl)) ?_; (with_reducible refine (blocks_inside.calls a1 false _ A5.out).mono ?_); rintro e w' ⟨rfl, ⟨nd, rfl⟩⟩; refine ⟨_, rfl, ?_⟩))
      go_ret
      exact ⟨by first | rfl | (simp; done) | (simp [*]; done), by repeat (first | exact Drawn0.refl _ | apply Drawn0.step)⟩
  · rw [if_neg c4] at H
    have c4b0 : (t109 == 0) = false := beq_eq_false_iff_ne.mpr c4
    have c4b1 : (t109 != 0) = true := bne_iff_ne.mpr c4
    obtain rfl := Option.some.inj H
    go_enter Try.func38, Try.ntmps38
    go_wp2_with (first | ((with_reducible refine gate_callee (f := 27) rfl ?_); refine goesL_ (some 7) rfl rfl Try.func27 (by kernel_rfl) rfl #[.slice A0 l0.length c0] rfl (by (try simp only [List.map_toArray, List.map_cons, List.map_nil]); first | done | rfl | (simp only [List.length_drop, List.length_take]; rfl)) ?_; (with_reducible refine (blocks_Check.calls k _ _ l0 t109 _ ?side1 ?side2 A3.out).mono ?_); (case side1 => repeat (first | exact HR0.out | (with_reducible refine Kd.C_alloc ?_ _) | (with_reducible refine Kd.C_drewN ?_ _) | (with_reducible refine Kd.C_drew ?_))); (case side2 => exact HC0.out); rintro e w' ⟨rfl, ⟨nd, rfl⟩⟩; refine ⟨_, rfl, ?_⟩))
    go_ret
    exact ⟨by first | rfl | (simp; done) | (simp [*]; done), by repeat (first | exact Drawn0.refl _ | apply Drawn0.step)⟩

end Go.Proofs.Ytgkgeodphgfgnaa.Pr
/- What the functions over gauge blocks answer, in plain words; and that the two checks of a set answer so. -/
namespace Go.Proofs.Ytgkgeodphgfgnaa.Pr
open Go.RowKit Go.Proofs.YtgkgeodphgfgnaaW.PrintWords Go.Proofs.YtgkgeodphgfgnaaW.PrintLast Go.Proofs.YtgkgeodphgfgnaaW.PrintMore

/-- The error of the blocks from one on; the block before, if there is one. -/
def chkGo : Option Int → List Int → Int
  | _, [] => 0
  | p, x :: xs => if x < 1 ∨ x > 100000 then 2 else if p.any (fun y => decide (x ≤ y)) then 9 else chkGo (some x) xs
def chk (l : List Int) : Int := if l.length > 256 then 5 else chkGo none l
def prevOf (l : List Int) (i : Nat) : Option Int := if i = 0 then none else l[i - 1]?

theorem wrap_up {i : Int} {n : Nat} (h0 : 0 ≤ i) (h : i < (n : Int)) (hn : n ≤ 140737488351232) : wrap64 (i + 1) = i + 1 := by unfold wrap64; omega
theorem wrap_down {i : Int} {n : Nat} (h0 : 0 < i) (h : i < (n : Int)) (hn : n ≤ 140737488351232) : wrap64 (i - 1) = i - 1 := by unfold wrap64; omega
theorem rd_at {l : List Int} {i : Nat} {x : Int} (h : l[i]? = some x) : rd l (i : Int) = x := by
  unfold rd; rw [Int.toNat_natCast, List.getD_eq_getElem?_getD, h]; rfl
theorem drop_at {l : List Int} {i : Nat} (h : i < l.length) : ∃ x, l[i]? = some x ∧ l.drop i = x :: l.drop (i + 1) :=
  ⟨l[i], List.getElem?_eq_getElem h, List.drop_eq_getElem_cons h⟩

theorem inside_is (x : Int) : blocks_inside.f x = some (decide (1 ≤ x ∧ x ≤ 100000)) := by
  unfold blocks_inside.f
  by_cases h : x ≥ 1
  · rw [if_pos h]; congr 1; simp; omega
  · rw [if_neg h]; congr 1; simp; omega

theorem check_go (l : List Int) (hn : l.length ≤ 256) (d : Nat) : ∀ (k i : Nat), i ≤ l.length → l.length - i = d → d < k →
    blocks_Check.l0 k l l (l.length : Int) (i : Int) = some (chkGo (prevOf l i) (l.drop i)) := by
  induction d with
  | zero =>
    intro k i hi hd hk
    obtain ⟨k, rfl⟩ : ∃ m, k = m + 1 := ⟨k - 1, by omega⟩
    obtain rfl : i = l.length := by omega
    simp only [blocks_Check.l0]
    rw [if_neg (by omega), List.drop_length]; rfl
  | succ d ih =>
    intro k i hi hd hk
    obtain ⟨k, rfl⟩ : ∃ m, k = m + 1 := ⟨k - 1, by omega⟩
    obtain ⟨x, hx, hdr⟩ := drop_at (show i < l.length by omega)
    have hih := ih k (i + 1) (by omega) (by omega) (by omega)
    have hp : prevOf l (i + 1) = some x := by unfold prevOf; rw [if_neg (by omega)]; exact hx
    rw [hp] at hih
    simp only [blocks_Check.l0]
    rw [if_pos (by omega), if_pos (by omega), if_pos (by omega), rd_at hx, inside_is, hdr]
    simp only [Option.bind_some, decide_eq_true_eq, chkGo]
    by_cases h1 : 1 ≤ x ∧ x ≤ 100000
    · rw [if_pos h1, if_neg (show ¬ (x < 1 ∨ x > 100000) by omega)]
      by_cases h2 : i = 0
      · subst h2
        rw [if_neg (show ¬ ((0 : Nat) : Int) > 0 by omega), wrap_up (n := l.length) (by omega) (by omega) (by omega)]
        have : prevOf l 0 = none := rfl
        rw [this, if_neg (by simp)]
        exact hih
      · obtain ⟨y, hy, _⟩ := drop_at (show i - 1 < l.length by omega)
        have hp2 : prevOf l i = some y := by unfold prevOf; rw [if_neg h2]; exact hy
        rw [if_pos (show (i : Int) > 0 by omega), wrap_down (n := l.length) (by omega) (by omega) (by omega), wrap_up (n := l.length) (by omega) (by omega) (by omega), if_pos (by omega), if_pos (by omega),
          show (i : Int) - 1 = ((i - 1 : Nat) : Int) by omega, rd_at hy, hp2]
        simp only [Option.any_some, decide_eq_true_eq]
        by_cases h3 : x ≤ y
        · rw [if_pos h3, if_pos h3]
        · rw [if_neg h3, if_neg h3]; exact hih
    · rw [if_neg h1, if_pos (show x < 1 ∨ x > 100000 by omega)]

theorem check_is (l : List Int) (k : Nat) (hk : l.length < k) : blocks_Check.f k l = some (chk l) := by
  unfold blocks_Check.f chk
  by_cases h : l.length > 256
  · rw [if_pos (by omega), if_pos h]
  · rw [if_neg (by omega), if_neg h]
    exact check_go l (by omega) l.length k 0 (by omega) (by omega) (by omega)

theorem given_is (l : List Int) (n : Int) (k : Nat) (hk : l.length < k) : blocks_given.f k l n = some (if chk l = 0 then if 1 ≤ n ∧ n ≤ 100000 then 0 else 2 else chk l) := by
  unfold blocks_given.f
  rw [check_is l k hk, inside_is]
  simp only [Option.bind_some, decide_eq_true_eq]
  by_cases h : chk l = 0
  · rw [if_pos h, if_pos h]; split <;> rfl
  · rw [if_neg h, if_neg h]

/-- What a right set is. -/
def Asc : Option Int → List Int → Prop
  | _, [] => True
  | p, x :: xs => (1 ≤ x ∧ x ≤ 100000) ∧ (∀ y, p = some y → y < x) ∧ Asc (some x) xs
theorem chkGo_zero : ∀ (l : List Int) (p : Option Int), chkGo p l = 0 ↔ Asc p l
  | [], p => by simp [chkGo, Asc]
  | x :: xs, p => by
    simp only [chkGo, Asc]
    by_cases h1 : x < 1 ∨ x > 100000
    · rw [if_pos h1]
      constructor
      · intro h; exact absurd h (by decide)
      · intro h; omega
    · rw [if_neg h1]
      cases p with
      | none =>
        simp only [Option.any_none]
        rw [if_neg (by simp), chkGo_zero xs (some x)]
        constructor
        · intro h; exact ⟨by omega, fun y hy => (by cases hy), h⟩
        · intro h; exact h.2.2
      | some y =>
        simp only [Option.any_some, decide_eq_true_eq]
        by_cases h2 : x ≤ y
        · rw [if_pos h2]
          constructor
          · intro h; exact absurd h (by decide)
          · intro h; have := h.2.1 y rfl; omega
        · rw [if_neg h2, chkGo_zero xs (some x)]
          constructor
          · intro h; exact ⟨by omega, fun z hz => (by cases hz; omega), h⟩
          · intro h; exact h.2.2
theorem Asc.mem : ∀ {l : List Int} {p : Option Int}, Asc p l → ∀ x ∈ l, 1 ≤ x ∧ x ≤ 100000
  | [], _, _, x, hx => (by cases hx)
  | y :: ys, p, h, x, hx => by
    rcases List.mem_cons.1 hx with rfl | hx
    · exact h.1
    · exact h.2.2.mem x hx
theorem chk_zero {l : List Int} : chk l = 0 ↔ l.length ≤ 256 ∧ Asc none l := by
  unfold chk
  by_cases h : l.length > 256
  · rw [if_pos h]; constructor
    · intro h; exact absurd h (by decide)
    · intro h; omega
  · rw [if_neg h, chkGo_zero]; constructor
    · intro h2; exact ⟨by omega, h2⟩
    · intro h2; exact h2.2

end Go.Proofs.Ytgkgeodphgfgnaa.Pr
/- The contracts of blocks.fewest and blocks.best. -/
namespace Go.Proofs.Ytgkgeodphgfgnaa.Pr
open Go.RowKit Go.Proofs.YtgkgeodphgfgnaaW.PrintWords Go.Proofs.YtgkgeodphgfgnaaW.PrintLast Go.Proofs.YtgkgeodphgfgnaaW.PrintMore

/-- The stack that the table tells, from one block on. -/
def pickV : Nat → List Int → Int → List Int
  | _, [], _ => []
  | i, x :: xs, n => if n ≥ x ∧ g59 xs (n - x) + 1 = g59 (x :: xs) n then (i : Int) :: pickV (i + 1) xs (n - x) else pickV (i + 1) xs n
def bestV (l : List Int) (n : Int) : List Int × Bool := if g59 l n ≥ 258 then ([], false) else (pickV 0 l n, true)
def blocks_best.f (l : List Int) (n : Int) : Option (List Int × Bool) := if chk l = 0 ∧ 1 ≤ n ∧ n ≤ 100000 then some (bestV l n) else none

theorem g59_none : ∀ (l : List Int) (n : Int), 0 ≤ n → (∀ x ∈ l, 1 ≤ x) → l.sum < n → g59 l n = 258
  | [], n, h0, _, h => by
    simp only [List.sum_nil] at h
    unfold g59 cellv
    rw [if_neg (by omega)]
  | x :: xs, n, h0, hx, h => by
    simp only [List.sum_cons] at h
    have h1 := hx x List.mem_cons_self
    have hs : 0 ≤ xs.sum := by
      clear h
      induction xs with
      | nil => simp
      | cons y ys ih =>
        have := hx y (by simp)
        have := ih (fun z hz => hx z (by rcases List.mem_cons.1 hz with h | h <;> simp [h]))
        simp only [List.sum_cons]; omega
    have ha := g59_none xs n h0 (fun y hy => hx y (List.mem_cons_of_mem _ hy)) (by omega)
    have hb := g59_none xs (n - x) (by omega) (fun y hy => hx y (List.mem_cons_of_mem _ hy)) (by omega)
    unfold g59 at ha hb ⊢
    simp only [cellv]
    rw [if_pos (by omega), ha, hb]
    rfl

theorem fewest_any (A0 : Option Addr) (c0 : Nat) (set : List Int) (most : Int) (w : World) (d : Nat) (hd : (d : Int) = min set.sum most + 1)
    (hr0 : Kd.C (Kd.int .i64) w A0 set.length set) (hc0 : set.length ≤ c0) (hl : set.length ≤ 256) (hs : ∀ x ∈ set, 1 ≤ x ∧ x ≤ 100000) (hm1 : 1 ≤ most) (hm2 : most ≤ 100000) :
    Calls Try.prog 49 #[.slice A0 set.length c0, .int .i64 most] w fun e w' =>
      ∃ B, e = .returned (.pointer (some ⟨B, 0, none⟩)) ∧ Tab w' B set.length d set g59 ∧ Below w.heap.size w w' := by
  have H := Aside0.mk (filled59 A0 c0 set most w d hd hr0 hc0 hl hs hm1 hm2)
  clear hd hr0 hc0 hl hs hm1 hm2
  go_enter Try.func49, Try.ntmps49
  go_wp2_with (go_at_call 45; (with_reducible refine H.out.mono ?_); rintro e w2 ⟨B, rfl, hT, hB⟩; have HT := Aside0.mk hT; have HB := Aside0.mk hB; clear hT hB)
  go_ret
  exact ⟨B, rfl, HT.out, HB.out⟩

set_option maxHeartbeats 800000 in
set_option maxRecDepth 100000 in
theorem best_any (A0 : Option Addr) (c0 : Nat) (set : List Int) (n : Nat) (w : World)
    (hr0 : Kd.C (Kd.int .i64) w A0 set.length set) (hc0 : set.length ≤ c0) (hl : set.length ≤ 256) (hs : ∀ x ∈ set, 1 ≤ x ∧ x ≤ 100000) (hm1 : 1 ≤ n) (hm2 : n ≤ 100000) :
    Calls Try.prog 39 #[.slice A0 set.length c0, .int .i64 (n : Int)] w fun e w' =>
      ∃ v, e = .returned (.tuple #[v, .bool (bestV set n).2]) ∧ Kd.R (Kd.int .i64) 3 w' w.heap.size (fun _ => True) v (bestV set n).1 ∧ Below w.heap.size w w' := by
  have hsum := sum_bound set hs
  obtain ⟨d, hd⟩ := Int.eq_ofNat_of_zero_le (show 0 ≤ min set.sum (n : Int) + 1 by omega)
  have HF := Aside0.mk (fewest_any A0 c0 set n w d hd.symm hr0 hc0 hl hs (by omega) (by omega))
  have HR := Aside0.mk hr0
  have HS := Aside0.mk hs
  have HD := Aside0.mk hd
  have hd1 : 1 ≤ d := by omega
  have hd2 : d ≤ 100001 := by omega
  clear hr0 hc0 hs hd hsum
  go_enter Try.func39, Try.ntmps39
  go_upto_region 2 with (go_at_call 49; (with_reducible refine HF.out.mono ?_); rintro e w2 ⟨B, rfl, hT, hB⟩; have HT := Aside0.mk hT; have HB := Aside0.mk hB; clear hT hB)
  obtain ⟨C, A1, c1, F, t1, t2, t3⟩ := HT.out
  have HT1 := Aside0.mk t1
  have HT2 := Aside0.mk t2
  have HT3 := Aside0.mk t3
  clear t1 t2 t3 HT HF
  have hu := Try.underlying68
  have hk1 : w2.cell? ⟨B, 1, none⟩ = some (.int .i64 (d : Int)) := blk_cell HT1.out 1
  have hsz := tab_size hl hd2
  by_cases hnd : n < d
  · obtain ⟨a, ha⟩ : ∃ a, a = F (0 * d + n) := ⟨_, rfl⟩
    have hca : w2.cell? ⟨C, n, none⟩ = some (.int .i32 a) := by
      have := HT2.out.cell (0 * d + n) (place_lt hnd (by omega))
      rw [← ha, Nat.zero_mul, Nat.zero_add] at this; exact this
    have HA := Aside0.mk (show a = g59 set n from by rw [ha, HT3.out 0 (by omega) n hnd]; rfl)
    clear ha
    have hab := g59_bd set (n : Int)
    rw [← HA.out] at hab
    by_cases hfar : 258 ≤ a
    · have HV := Aside0.mk (show bestV set n = ([], false) from by unfold bestV; rw [if_pos (by rw [← HA.out]; exact hfar)])
      go_wp2_with (go_at_call 47; (with_reducible refine (row_tab0 HT1.out hd1 (by omega) hsz.2 (by omega)).mono ?_); rintro e w3 ⟨rfl, q, rfl⟩)
      go_ret2
      exact ⟨_, by rw [HV.out]; rfl, by rw [HV.out]; exact Kd.R_nil _ _ _ _ _, pw_below_drewN HB.out q⟩
    · have HV := Aside0.mk (show bestV set n = (pickV 0 set n, true) from by unfold bestV; rw [if_neg (by rw [← HA.out]; exact hfar)])
      have hq1 : decide (d ≤ n) = false := decide_eq_false (by omega)
      have hq2 : decide (258 ≤ a) = false := decide_eq_false (by omega)
      go_upto_region 5 with (go_at_call 47; (with_reducible refine (row_tab0 HT1.out hd1 (by omega) hsz.2 (by omega)).mono ?_); rintro e w3 ⟨rfl, q, rfl⟩)
      obtain ⟨wo, hwo⟩ : ∃ wo : World, wo = w2.drewN q := ⟨_, rfl⟩
      have HI := Aside0.mk (show TabS wo B C A1 set.length c1 d ((set.length + 1) * d) ∧ Row32 wo C ((set.length + 1) * d) F ∧ Below w.heap.size w wo from by
        subst hwo
        exact ⟨HT1.out, HT2.out, pw_below_drewN HB.out _⟩)
      rw [← hwo]
      clear hwo HT1 HT2 HB hk1 hca
      go_wp2
      go_loopw [1, 7, 29] (fun vL vo vi wr => ∃ (k L : Nat) (out : List Int), k ≤ set.length ∧ vi = .int .i64 (k : Int) ∧ vL = .int .i64 (L : Int) ∧ L < d ∧ out.length ≤ k ∧ Aside0 (Kd.R (Kd.int .i64) 3 wr w.heap.size (fun _ => True) vo out ∧ out ++ pickV k (set.drop k) (L : Int) = pickV 0 set (n : Int) ∧ TabS wr B C A1 set.length c1 d ((set.length + 1) * d) ∧ Row32 wr C ((set.length + 1) * d) F ∧ Below w.heap.size w wr)) (fun _ _ vi _ => set.length - (intOf vi).toNat)
      case atStart => exact ⟨0, n, [], by omega, rfl, rfl, hnd, by simp, ⟨Kd.R_nil _ _ _ _ _, by simp, HI.out⟩⟩
      case round =>
        clear HI
        obtain ⟨k, L, out, hk, rfl, rfl, hL, hol, HI⟩ := hrel
        by_cases hlt : k < set.length
        · obtain ⟨ad, x, rfl, hcx, hx, hmx⟩ := at_nat (Kd.C_below HR.out HI.out.2.2.2.2) k hlt
          have hxb := HS.out x hmx
          have HX := Aside0.mk hx
          clear hx hmx
          obtain ⟨y, rfl⟩ := Int.eq_ofNat_of_zero_le (show 0 ≤ x by omega)
          have HDR := Aside0.mk (drop_eq HX.out)
          obtain ⟨b, hb⟩ : ∃ b, b = F (k * d + L) := ⟨_, rfl⟩
          have hcb : wr.cell? ⟨C, k * d + L, none⟩ = some (.int .i32 b) := by rw [hb]; exact HI.out.2.2.2.1.cell _ (place_lt hL (by omega))
          have HB2 := Aside0.mk (hb.trans (HT3.out k (by omega) L hL))
          clear hb
          have hbb := g59_bd (set.drop k) (L : Int)
          rw [← HB2.out] at hbb
          by_cases hge : y ≤ L
          · obtain ⟨c, hc⟩ : ∃ c, c = F ((k + 1) * d + (L - y)) := ⟨_, rfl⟩
            have hcc : wr.cell? ⟨C, (k + 1) * d + (L - y), none⟩ = some (.int .i32 c) := by rw [hc]; exact HI.out.2.2.2.1.cell _ (place_lt (by omega) (by omega))
            have HC2 := Aside0.mk (hc.trans (HT3.out (k + 1) (by omega) (L - y) (by omega)))
            clear hc
            have hcd := g59_bd (set.drop (k + 1)) ((L - y : Nat) : Int)
            rw [← HC2.out] at hcd
            have hdec : decide ((y : Int) ≤ (L : Int)) = true := decide_eq_true (by omega)
            go_upto_region 8 with (fail)
            have HK1 := Aside0.mk (show (k + 1 + 1) * d ≤ (set.length + 1) * d from Nat.mul_le_mul_right d (by omega))
            have HK2 := Aside0.mk (show (k + 1) * d ≤ (set.length + 1) * d from Nat.mul_le_mul_right d (by omega))
            have hw1 : IntKind.i64.wrap ((k : Int) + 1) = (k : Int) + 1 := IntWalk.i64_in _ (by omega)
            have hw2 : IntKind.i64.wrap ((L : Int) - (y : Int)) = (L : Int) - (y : Int) := IntWalk.i64_in _ (by omega)
            have hw3 : 0 ≤ (L : Int) - (y : Int) := by omega
            have hw4 : ((L : Int) - (y : Int)).toNat = L - y := by omega
            have hw6 : (L : Int) - (y : Int) < (d : Int) := by omega
            have hw5 : IntKind.i32.wrap (c + 1) = c + 1 := IntWalk.i32_in _ (by omega)
            have HQ1 := Aside0.mk (fun q => row_tab (TabS.drewN HI.out.2.2.1 q) (k + 1) ((k : Int) + 1) (by omega) (by omega) (by omega) (by omega) HK1.out (by omega))
            have HQ2 := Aside0.mk (fun q => row_tab (TabS.drewN HI.out.2.2.1 q) k (k : Int) rfl (by omega) (by omega) (by omega) HK2.out (by omega))
            go_quiet ((go_at_call 47; first | (with_reducible exact Calls.quiet_of (HQ1.out _)) | (with_reducible exact Calls.quiet_of (HQ2.out _))))
            clear hw1 hw2 hw3 hw4 hw5 hw6
            obtain ⟨W1, hW1⟩ : ∃ W1 : World, W1 = wr.drewN nq := ⟨_, rfl⟩
            have HO := Aside0.mk (show Kd.R (Kd.int .i64) 3 W1 w.heap.size (fun _ => True) u7 out from by rw [hW1]; exact Kd.R_drewN HI.out.1 _)
            have HT := Aside0.mk (show TabS W1 B C A1 set.length c1 d ((set.length + 1) * d) ∧ Row32 W1 C ((set.length + 1) * d) F from by rw [hW1]; exact ⟨HI.out.2.2.1, HI.out.2.2.2.1⟩)
            have HB := Aside0.mk (show Below w.heap.size w W1 from by rw [hW1]; exact pw_below_drewN HI.out.2.2.2.2 _)
            have HP := Aside0.mk HI.out.2.1
            rw [← hW1]
            clear hW1 HI hcc hcb hcx
            have HPK := Aside0.mk (show pickV k (set.drop k) (L : Int) = if c + 1 = b then (k : Int) :: pickV (k + 1) (set.drop (k + 1)) ((L - y : Nat) : Int) else pickV (k + 1) (set.drop (k + 1)) (L : Int) from by
              rw [HDR.out]
              simp only [pickV]
              rw [HC2.out, HB2.out, HDR.out, Int.ofNat_sub hge]
              by_cases e : g59 (set.drop (k + 1)) ((L : Int) - (y : Int)) + 1 = g59 ((y : Int) :: set.drop (k + 1)) (L : Int)
              · rw [if_pos ⟨by omega, e⟩, if_pos e]
              · rw [if_neg (fun h => e h.2), if_neg e])
            by_cases he : c + 1 = b
            · have HPE := Aside0.mk (HPK.out.trans (if_pos he))
              have he1 : (c + 1 == b) = true := beq_iff_eq.mpr he
              clear he
              go_wp2_with ((with_reducible refine gate_builtin (b := .append) (xs := #[.tmp 56, .tmp 58]) rfl ?_); at_builtin; refine Kd.R_append (Kd.int .i64) (w0 := w) w.heap.size rfl (.tmp 56) (.tmp 58) 22 3 (.int .i64 0) 8 rfl Try.underlying22 info3 rfl (by decide) (by omega) u7 out (k : Int) [.int .i64 (k : Int)] (fun _ => True) (fun _ => False) rfl rfl ?aP (fun _ hk => hk.elim) (fun _ _ => trivial) HO.out HB.out (below_size HB.out) (by omega) ?_; (case aP => exact rfl); intro v2 w3 ho hb hg hat; have HO2 := Aside0.mk ho; have HB3 := Aside0.mk hb; have HG := Aside0.mk hg; clear ho hb hg hat)
              go_roundw
              case rel => exact ⟨k + 1, L - y, _, by omega, by go_num, by rw [Int.ofNat_sub hge], by omega, by simp; omega, ⟨HO2.out, by rw [List.append_assoc, ← HP.out, HPE.out]; rfl, HT.out.1.grown HG.out (Kd.R_ne HO.out HT.out.1 (by decide)), HT.out.2.grown HG.out (Kd.R_ne HO.out HT.out.2 (by decide)), HB3.out⟩⟩
              case measure => (simp [intOf] <;> omega)
            · have HPE := Aside0.mk (HPK.out.trans (if_neg he))
              have he1 : (c + 1 == b) = false := beq_eq_false_iff_ne.mpr he
              clear he
              go_wp2
              go_roundw
              case rel => exact ⟨k + 1, L, _, by omega, by go_num, rfl, by omega, by omega, ⟨HO.out, by rw [← HP.out, HPE.out], HT.out.1, HT.out.2, HB.out⟩⟩
              case measure => (simp [intOf] <;> omega)
          · have hdec : decide ((y : Int) ≤ (L : Int)) = false := decide_eq_false (by omega)
            have HPE := Aside0.mk (show pickV k (set.drop k) (L : Int) = pickV (k + 1) (set.drop (k + 1)) (L : Int) from by
              rw [HDR.out]
              simp only [pickV]
              rw [if_neg (fun h => absurd h.1 (by omega))])
            go_upto_region 8 with (fail)
            go_quiet (fail)
            go_wp2
            go_roundw
            case rel => exact ⟨k + 1, L, _, by omega, by go_num, rfl, by omega, by omega, ⟨Kd.R_drewN HI.out.1 _, by rw [← HI.out.2.1, HPE.out], HI.out.2.2.1, HI.out.2.2.2.1, pw_below_drewN HI.out.2.2.2.2 _⟩⟩
            case measure => (simp [intOf] <;> omega)
        · obtain rfl : k = set.length := by omega
          go_wp2
          go_ret2
          have hp := HI.out.2.1
          rw [List.drop_length] at hp
          exact ⟨_, by rw [HV.out]; rfl, by rw [HV.out]; show Kd.R _ _ _ _ _ _ (pickV 0 set n); rw [← hp]; simp only [pickV, List.append_nil]; exact HI.out.1, HI.out.2.2.2.2⟩
  · have HV := Aside0.mk (show bestV set n = ([], false) from by
      unfold bestV
      rw [g59_none set n (by omega) (fun x hx => (HS.out x hx).1) (by have := HD.out; omega), if_pos (by omega)])
    go_wp2
    go_ret2
    exact ⟨_, by rw [HV.out]; rfl, by rw [HV.out]; exact Kd.R_nil _ _ _ _ _, HB.out⟩

theorem blocks_best.calls (A0 : Option Addr) (c0 : Nat) (l0 : List Int) (a1 : Int) (r1 : List Int) (r2 : Bool) (w : World) (hr0 : Kd.C (Kd.int .i64) w A0 l0.length l0) (hc0 : l0.length ≤ c0) (h : blocks_best.f l0 a1 = some (r1, r2)) :
    Calls Try.prog 39 #[.slice A0 l0.length c0, .int .i64 a1] w fun e w' => ∃ v0_ : Value, e = .returned (.tuple #[v0_, .bool r2]) ∧ Kd.R (Kd.int .i64) 3 w' w.heap.size (fun _ => True) v0_ r1 ∧ Below w.heap.size w w' := by
  unfold blocks_best.f at h
  split at h
  · rename_i hc
    obtain ⟨h1, h2⟩ := chk_zero.1 hc.1
    obtain ⟨n, rfl⟩ := Int.eq_ofNat_of_zero_le (show 0 ≤ a1 by omega)
    have hb := best_any A0 c0 l0 n w hr0 hc0 h1 h2.mem (by omega) (by omega)
    have e := Option.some.inj h
    rw [e] at hb
    exact hb
  · exact absurd h (by simp)

end Go.Proofs.Ytgkgeodphgfgnaa.Pr
/- The contract of blocks.filled, as Count calls it. -/
namespace Go.Proofs.Ytgkgeodphgfgnaa.Pr
open Go.RowKit Go.Proofs.YtgkgeodphgfgnaaW.PrintWords Go.Proofs.YtgkgeodphgfgnaaW.PrintLast Go.Proofs.YtgkgeodphgfgnaaW.PrintMore

def g46 : List Int → Int → Int := cellv 0 1 (fun a b => min (a + b) 1048577)
theorem g46_bd : ∀ (l : List Int) (n : Int), 0 ≤ g46 l n ∧ g46 l n ≤ 1048577
  | [], n => by unfold g46 cellv; split <;> omega
  | x :: xs, n => by
    have h := g46_bd xs n
    have h2 := g46_bd xs (n - x)
    unfold g46 at h h2 ⊢
    simp only [cellv]
    split <;> omega

set_option maxHeartbeats 800000 in
set_option maxRecDepth 100000 in
theorem filled46 (A0 : Option Addr) (c0 : Nat) (set : List Int) (most : Int) (w : World) (d : Nat) (hd : (d : Int) = min set.sum most + 1)
    (hr0 : Kd.C (Kd.int .i64) w A0 set.length set) (hc0 : set.length ≤ c0) (hl : set.length ≤ 256) (hs : ∀ x ∈ set, 1 ≤ x ∧ x ≤ 100000) (hm1 : 1 ≤ most) (hm2 : most ≤ 100000) :
    Calls Try.prog 45 #[.slice A0 set.length c0, .int .i64 most, .int .i32 0, .int .i32 1, .func (.func 46) #[] #[]] w fun e w' =>
      ∃ B, e = .returned (.pointer (some ⟨B, 0, none⟩)) ∧ Tab w' B set.length d set g46 ∧ Below w.heap.size w w' := by
  have hsum := sum_bound set hs
  have hd1 : 1 ≤ d := by omega
  have hd2 : (d : Int) ≤ 100001 := by omega
  have HR := Aside0.mk hr0
  have HC := Aside0.mk hc0
  have HS := Aside0.mk hs
  have HD := Aside0.mk hd
  clear hr0 hc0 hs hd
  go_enter Try.func45, Try.ntmps45
  go_wp2
  go_loop [11, 13, 22] (fun s _ i => ∃ k : Nat, k ≤ set.length ∧ i = .int .i64 k ∧ s = .int .i64 (set.take k).sum) (fun _ _ i => set.length - (intOf i).toNat)
  case atStart => exact ⟨0, Nat.zero_le _, rfl, rfl⟩
  case round =>
    obtain ⟨k, hk, rfl, rfl⟩ := hrel
    have htb := take_bound HS.out k
    by_cases hlt : k < set.length
    · obtain ⟨ad, x, rfl, hc, hx, hm⟩ := at_nat HR.out k hlt
      have hxb := HS.out x hm
      have HX := Aside0.mk (take_sum hx)
      clear hx hm
      obtain ⟨s, hs⟩ : ∃ s, s = (set.take k).sum := ⟨_, rfl⟩
      rw [← hs] at HX htb ⊢
      clear hs
      go_wp2
      go_round
      case rel => exact ⟨k + 1, by omega, by go_num, by rw [HX.out]⟩
      case measure => (simp [intOf] <;> omega)
    · obtain rfl : k = set.length := by omega
      have HT := Aside0.mk (show (set.take set.length).sum = set.sum by rw [List.take_length])
      obtain ⟨s, hs⟩ : ∃ s, s = (set.take set.length).sum := ⟨_, rfl⟩
      rw [← hs] at HT htb ⊢
      clear hs
      go_upto_region 7 with (fail)
      go_cut [14] (fun v wc => ∃ B : Nat, v = .pointer (some ⟨B, 0, none⟩) ∧ Aside0 (w.heap.size ≤ B ∧ wc.heap[B]? = some (.cells #[.slice A0 set.length c0, .int .i64 (d : Int), .slice none 0 0] 68 (0, 0))) ∧ Aside0 (Below w.heap.size w wc))
      case first =>
        have hu := Try.underlying68
        have HZ1 := Aside0.mk (show most < s → most + 1 = (d : Int) from by have := HD.out; have := HT.out; omega)
        have HZ2 := Aside0.mk (show ¬ most < s → s + 1 = (d : Int) from by have := HD.out; have := HT.out; omega)
        by_cases hle : most < s
        · have HE := Aside0.mk (HZ1.out hle)
          go_wp2
          go_meet
          case rel => exact ⟨w.heap.size, rfl, ⟨Nat.le_refl _, by first | rw [heap_alloc_new, HE.out] | rw [heap_alloc_new, show min s most + 1 = (d : Int) by have := HE.out; omega]⟩, ⟨(Below.refl _ _).alloc (Nat.le_refl _) _⟩⟩
        · have HE := Aside0.mk (HZ2.out hle)
          go_wp2
          go_meet
          case rel => exact ⟨w.heap.size, rfl, ⟨Nat.le_refl _, by first | rw [heap_alloc_new, HE.out] | rw [heap_alloc_new, show min s most + 1 = (d : Int) by have := HE.out; omega]⟩, ⟨(Below.refl _ _).alloc (Nat.le_refl _) _⟩⟩
      case rest =>
        obtain ⟨B, rfl, HB, HW⟩ := hcut
        have hu := Try.underlying68
        have HBl := blk_lt HB.out.2
        have hc1 : wc.cell? ⟨B, 1, none⟩ = some (.int .i64 (d : Int)) := blk_cell HB.out.2 1
        have HM := Aside0.mk (show ((set.length : Int) + 1) * (d : Int) = (((set.length + 1) * d : Nat) : Int) by simp)
        have hm0 : 0 ≤ ((set.length : Int) + 1) * (d : Int) := by rw [HM.out]; omega
        have hmx : (set.length + 1) * d ≤ 257 * 100001 := Nat.mul_le_mul (by omega) (by omega)
        have hm1 : ((set.length : Int) + 1) * (d : Int) ≤ 25700257 := by rw [HM.out]; omega
        have hmn : d ≤ (set.length + 1) * d := Nat.le_mul_of_pos_left _ (by omega)
        have HG := Aside0.mk (heap_alloc_new wc (.cells #[Value.int .i32 0] 21))
        go_upto_region 8 with (fail)
        go_cut [14] (fun v w3 => v = .pointer (some ⟨B, 0, none⟩) ∧ ∃ C : Nat, Aside0 (w.heap.size ≤ C ∧ C ≠ B ∧ TabS w3 B C A0 set.length c0 d ((set.length + 1) * d) ∧ Row32 w3 C ((set.length + 1) * d) (fun _ => 0)) ∧ Aside0 (Below w.heap.size w w3))
        case first =>
          go_wp2_with (go_at_call 58; (rw [HM.out]); refine (repeat_any _ _ ((set.length + 1) * d) _ HG.out (by omega) (by omega)).mono ?_; rintro e w2 ⟨C, rfl, hC1, hC2, hC3⟩; have e2 := Aside0.mk (blk_below (blk_alloc HB.out.2 _) hC3); have hk2 := blk_cell e2.out 2; have hf2 := blk_frozen e2.out 2)
          go_meet
          case rel =>
            have hne : C ≠ B := by
              have := blk_lt HB.out.2
              simp at hC1
              omega
            refine ⟨rfl, C, ⟨?_, hne, heap_set_same e2.out 2 _, (Row32.of_replicate (heap_set_other hC2 hne _))⟩, ⟨?_⟩⟩
            · have := HW.out.size; simp at hC1; omega
            · exact below_set (below_then (below_alloc (HW.out) _) (by simp; have := HW.out.size; omega) hC3) HB.out.1
        case rest =>
          obtain ⟨rfl, C, HC2, HW2⟩ := hcut
          clear HB HG hc1 HW
          have HBne := HC2.out.2.1
          go_upto_region 9 with (fail)
          go_cut [14] (fun v w3 => v = .pointer (some ⟨B, 0, none⟩) ∧ Aside0 (TabS w3 B C A0 set.length c0 d ((set.length + 1) * d) ∧ Row32 w3 C ((set.length + 1) * d) (fun p => if p = set.length * d then 1 else 0)) ∧ Aside0 (Below w.heap.size w w3))
          case first =>
            go_wp2_with (go_at_call 47; refine (row_nat B C set.length d ((set.length + 1) * d) _ _ _ rfl HC2.out.2.2.1 (by omega) (by omega) (by omega) (Nat.le_refl _) (by omega)).mono ?_; rintro e w2 ⟨rfl, q, rfl⟩; have hk2 := (HC2.out.2.2.2.drewN q).cell (set.length * d) (by rw [Nat.succ_mul]; omega); have hf2 := (HC2.out.2.2.2.drewN q).frozen (set.length * d))
            go_meet
            case rel => exact ⟨rfl, ⟨heap_set_other (show (wc.drewN q).heap[B]? = _ from HC2.out.2.2.1) (fun h => HBne h.symm) _, (HC2.out.2.2.2.drewN q).set _ _⟩, ⟨below_set (pw_below_drewN HW2.out q) HC2.out.1⟩⟩
          case rest =>
            obtain ⟨rfl, HC3, HW3⟩ := hcut
            have HCB := Aside0.mk HC2.out.1
            clear HC2 HW2
            have hdn : ¬ d = 0 := by omega
            go_wp2
            go_loopw [15] (fun v wr => ∃ (z : Int) (F : Nat → Int), v = .int .i64 z ∧ -1 ≤ z ∧ z < set.length ∧ Aside0 (TabS wr B C A0 set.length c0 d ((set.length + 1) * d) ∧ Row32 wr C ((set.length + 1) * d) F ∧ TGood g46 set d (z + 1).toNat F) ∧ Aside0 (Below w.heap.size w wr)) (fun v _ => (intOf v + 1).toNat)
            case atStart => exact ⟨_, _, rfl, by omega, by omega, ⟨HC3.out.1, HC3.out.2, by rw [show ((set.length : Int) - 1 + 1).toNat = set.length by omega]; exact TGood.first⟩, HW3⟩
            case round =>
              clear HC3 HW3
              obtain ⟨z, F, rfl, hz1, hz2, HT2, HW3⟩ := hrel
              by_cases hz : 0 ≤ z
              · obtain ⟨k, rfl⟩ := Int.eq_ofNat_of_zero_le hz
                have hk2 : k < set.length := by omega
                have HK1 := Aside0.mk (show (k + 1 + 1) * d ≤ (set.length + 1) * d from Nat.mul_le_mul_right d (by omega))
                have HK2 := Aside0.mk (show (k + 1) * d ≤ (set.length + 1) * d from Nat.mul_le_mul_right d (by omega))
                go_wp2_with (first
                  | (go_at_call 47; (with_reducible refine (row_tab HT2.out.1 (k + 1) ((k : Int) + 1) (by omega) (by omega) (by omega) (by omega) HK1.out (by omega)).mono ?_); rintro e w2 ⟨rfl, q1, rfl⟩)
                  | (go_at_call 47; (with_reducible refine (row_tab (HT2.out.1.drewN q1) k (k : Int) rfl (by omega) (by omega) (by omega) HK2.out (by omega)).mono ?_); rintro e w2 ⟨rfl, q2, rfl⟩))
                obtain ⟨wo, hwo⟩ : ∃ wo : World, wo = wr.drewN (q1 + q2) := ⟨_, rfl⟩
                have HI := Aside0.mk (show TabS wo B C A0 set.length c0 d ((set.length + 1) * d) ∧ Row32 wo C ((set.length + 1) * d) F ∧ TGood g46 set d (k + 1) F ∧ TPart g46 set d k 0 F ∧ Below w.heap.size w wo from by
                  subst hwo
                  exact ⟨HT2.out.1, HT2.out.2.1, HT2.out.2.2, fun m hm => absurd hm (by omega), pw_below_drewN HW3.out _⟩)
                rw [← hwo]
                clear hwo HT2 HW3
                go_loopw [73] (fun v wi => ∃ (n : Nat) (F1 : Nat → Int), n ≤ d ∧ v = .int .i64 (n : Int) ∧ Aside0 (TabS wi B C A0 set.length c0 d ((set.length + 1) * d) ∧ Row32 wi C ((set.length + 1) * d) F1 ∧ TGood g46 set d (k + 1) F1 ∧ TPart g46 set d k n F1 ∧ Below w.heap.size w wi)) (fun v _ => d - (intOf v).toNat)
                case atStart => exact ⟨0, F, by omega, rfl, HI⟩
                case round =>
                  clear HI
                  obtain ⟨n, F1, hn, rfl, HI⟩ := hrel
                  by_cases hnd : n < d
                  · obtain ⟨ad, x, rfl, hcx, hx, hmx⟩ := at_nat (Kd.C_below HR.out HI.out.2.2.2.2) k hk2
                    have hxb := HS.out x hmx
                    have HX := Aside0.mk hx
                    clear hx hmx
                    obtain ⟨y, rfl⟩ := Int.eq_ofNat_of_zero_le (show 0 ≤ x by omega)
                    obtain ⟨a, ha⟩ : ∃ a, a = F1 ((k + 1) * d + n) := ⟨_, rfl⟩
                    have hca : wr.cell? ⟨C, (k + 1) * d + n, none⟩ = some (.int .i32 a) := by rw [ha]; exact HI.out.2.1.cell _ (place_lt hnd (by omega))
                    have HA := Aside0.mk (ha.trans (HI.out.2.2.1 (k + 1) (Nat.le_refl _) (by omega) n hnd))
                    clear ha
                    have hab := g46_bd (set.drop (k + 1)) (n : Int)
                    rw [← HA.out] at hab
                    have HP := Aside0.mk (HI.out.2.1.cell (k * d + n) (place_lt hnd (by omega)))
                    have hcp := HP.out
                    have hfp := HI.out.2.1.frozen (k * d + n)
                    by_cases hge : y ≤ n
                    · obtain ⟨b, hb⟩ : ∃ b, b = F1 ((k + 1) * d + (n - y)) := ⟨_, rfl⟩
                      have hcb : wr.cell? ⟨C, (k + 1) * d + (n - y), none⟩ = some (.int .i32 b) := by rw [hb]; exact HI.out.2.1.cell _ (place_lt (by omega) (by omega))
                      have HB2 := Aside0.mk (hb.trans (HI.out.2.2.1 (k + 1) (Nat.le_refl _) (by omega) (n - y) (by omega)))
                      clear hb
                      have hbb := g46_bd (set.drop (k + 1)) ((n - y : Nat) : Int)
                      rw [← HB2.out] at hbb
                      go_wp2_with (go_at_call 46; refine (join_count a b _ (by omega) (by omega) (by omega) (by omega)).mono ?_; rintro e w2 ⟨rfl, rfl⟩)
                      go_roundw
                      case rel =>
                        refine ⟨n + 1, _, by omega, by go_num, ⟨HI.out.1.set HBne _ _, HI.out.2.1.set _ _, HI.out.2.2.1.set hnd _, HI.out.2.2.2.1.set ?_, below_set HI.out.2.2.2.2 HCB.out⟩⟩
                        exact cellv_cons (f := fun a b => min (a + b) 1048577) HX.out HA.out (by rw [if_pos (by omega), HB2.out, Int.ofNat_sub hge]; rfl)
                      case measure => (simp [intOf] <;> omega)
                    · go_wp2_with (go_at_call 46; refine (join_count a 0 _ (by omega) (by omega) (by omega) (by omega)).mono ?_; rintro e w2 ⟨rfl, rfl⟩)
                      go_roundw
                      case rel =>
                        refine ⟨n + 1, _, by omega, by go_num, ⟨HI.out.1.set HBne _ _, HI.out.2.1.set _ _, HI.out.2.2.1.set hnd _, HI.out.2.2.2.1.set ?_, below_set HI.out.2.2.2.2 HCB.out⟩⟩
                        have hz := cellv_cons (f := fun a b => min (a + b) 1048577) HX.out HA.out (b := 0) (by rw [if_neg (by omega)])
                        first | exact hz | exact (congrArg (fun q => min q 1048577) (Int.add_zero a)).symm.trans hz
                      case measure => (simp [intOf] <;> omega)
                  · obtain rfl : n = d := by omega
                    go_wp2
                    go_roundw
                    case rel => exact ⟨(k : Int) - 1, F1, rfl, by omega, by omega, ⟨HI.out.1, HI.out.2.1, by rw [show ((k : Int) - 1 + 1).toNat = k by omega]; exact HI.out.2.2.1.of_part HI.out.2.2.2.1⟩, ⟨HI.out.2.2.2.2⟩⟩
                    case measure => (simp [intOf] <;> omega)
              · obtain rfl : z = -1 := by omega
                go_wp2
                go_ret
                exact ⟨B, rfl, ⟨C, A0, c0, F, HT2.out.1, HT2.out.2.1, fun j hj n hn => HT2.out.2.2 j (by simp) hj n hn⟩, HW3.out⟩

end Go.Proofs.Ytgkgeodphgfgnaa.Pr
