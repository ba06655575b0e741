/- A part of the statement's proof. -/
import Derived.Test.YtnmmdeonkpfccaaProg
import Derived.Below
import Derived.Deep.Draws
import Derived.Deep.AppendLies
import Derived.Maps.AppendAt
import Derived.OwnWalk
import Derived.Laws.BytesArg
import Derived.Laws.MakeOwn
import Derived.Laws.OwnMore
import Derived.Deep.OwnRows
import Derived.Tactics
import Derived.Lib.ConvBytes
import Derived.Laws.Slices
import Derived.WalkKit
import Derived.KernelRfl
import Derived.RowKit3
import Derived.Deep.LoopGhost
import Derived.Deep.QuietTactic
import Derived.BigQuiet
import Derived.WideLaws
import Derived.Deep.DeepCutAuto
import Derived.Deep.CutBlock
import Derived.Deep.RegionHeld3
import Derived.Laws.Rows
import Derived.Lib.AppendStr
import Derived.ArgAppend
import Derived.Laws.IdiomCopy
import Derived.OrdersHeld
import Derived.Laws.BitsLemmas
import Derived.RowKit
import Derived.Test.YtnmmdeonkpfccaaWWords
import Derived.Test.YtnmmdeonkpfccaaWLast
import Derived.Test.YtnmmdeonkpfccaaWTab
import Derived.Test.YtnmmdeonkpfccaaWFour
import Derived.Test.YtnmmdeonkpfccaaWQPut
import Derived.Test.YtnmmdeonkpfccaaWApart
import Derived.Test.YtnmmdeonkpfccaaWArr
import Derived.Test.YtnmmdeonkpfccaaWZeros
import Derived.Test.YtnmmdeonkpfccaaWFoot
import Derived.Test.YtnmmdeonkpfccaaWKept
import Derived.Test.YtnmmdeonkpfccaaWShare
import Derived.Test.YtnmmdeonkpfccaaWN
import Derived.Test.YtnmmdeonkpfccaaWFootNe
import Derived.Test.YtnmmdeonkpfccaaWAt
import Derived.Test.YtnmmdeonkpfccaaWEqStruct
import Derived.Test.YtnmmdeonkpfccaaWRepsOne
import Derived.Test.YtnmmdeonkpfccaaWInv
import Derived.Test.YtnmmdeonkpfccaaWInvWords
import Derived.Test.YtnmmdeonkpfccaaWGuard
import Derived.Test.YtnmmdeonkpfccaaWNEv
import Derived.Test.YtnmmdeonkpfccaaWMore
import Derived.BigFrame
namespace Go.Proofs.Ytnmmdeonkpfccaa.Pr
open Go.RowKit Go.Proofs.YtnmmdeonkpfccaaW.PrintWords Go.Proofs.YtnmmdeonkpfccaaW.PrintLast Go.Proofs.YtnmmdeonkpfccaaW.PrintMore
attribute [local go_sem] max2_int min2_int max_two min_two max_three min_three max_four min_four
set_option linter.unusedVariables false
set_option linter.unusedSimpArgs false

def errW : Option Int → Value
 | none => .nilIface
 | some c => .iface 0 (.int .i64 c)
theorem errW_none : errW none = .nilIface:=rfl
theorem errW_some (c : Int) : errW (some c) = .iface 0 (.int .i64 c):=rfl

theorem info3 : (Try.prog.info? 3).map (fun i => (i.zero,i.size,i.bytes)) = some (some (.int .i64 0),1,8):=by kernel_rfl
theorem info9 : (Try.prog.info? 9).map (fun i => (i.zero,i.size,i.bytes)) = some (some (.string ⟨#[]⟩),1,16):=by kernel_rfl
theorem info51 : (Try.prog.info? 51).map (fun i => (i.zero,i.size,i.bytes)) = some (some (.agg #[(.int .i64 0),(.string ⟨#[]⟩),(.string ⟨#[]⟩),(.string ⟨#[]⟩)]),4,56):=by kernel_rfl
theorem info67 : (Try.prog.info? 67).map (fun i => (i.zero,i.size,i.bytes)) = some (some (.agg #[(.int .i64 0),(.string ⟨#[]⟩),(.string ⟨#[]⟩),(.string ⟨#[]⟩)]),4,56):=by kernel_rfl
theorem info101 : (Try.prog.info? 101).map (fun i => (i.zero,i.size,i.bytes)) = some (some (.agg #[(.string ⟨#[]⟩),(.bool false)]),2,24):=by kernel_rfl
/-! #### struct type 51 -/
structure S51 where
 f0 : Int
 f1 : ByteArray
 f2 : ByteArray
 f3 : ByteArray
def z51 : S51:=⟨(0 : Int),(⟨#[]⟩ : ByteArray),(⟨#[]⟩ : ByteArray),(⟨#[]⟩ : ByteArray)⟩
def k51 : Kd S51:=Kd.iso (Kd.pair (Kd.int .i64) (Kd.pair Kd.string (Kd.pair Kd.string Kd.string))) (fun x : S51 => (x.f0,x.f1,x.f2,x.f3))
theorem k51_heap : Kd.Heap k51:=Kd.heap_iso _ (Kd.heap_pair (Kd.heap_int .i64) (Kd.heap_pair Kd.heap_string (Kd.heap_pair Kd.heap_string Kd.heap_string)))
theorem k51_open {w : World} {x : S51} {cs : List Value} (h : k51.K w x cs) : cs = [.int .i64 x.f0,.string x.f1,.string x.f2,.string x.f3]:=by
 obtain ⟨_,_,rfl,rfl,⟨_,_,rfl,rfl,⟨_,_,rfl,rfl,rfl⟩⟩⟩:=h
 exact rfl
theorem k51_openM {w : World} {base : Nat} {ok : Nat → Prop} {x : S51} {cs : List Value} (h : k51.M w base ok x cs) : cs = [.int .i64 x.f0,.string x.f1,.string x.f2,.string x.f3]:=by
 obtain ⟨_,_,rfl,rfl,⟨_,_,rfl,rfl,⟨_,_,rfl,rfl,rfl⟩⟩⟩:=h
 exact rfl
theorem k51_mk (w : World) (x : S51)  : k51.K w x [.int .i64 x.f0,.string x.f1,.string x.f2,.string x.f3]:=⟨[.int .i64 x.f0],[.string x.f1,.string x.f2,.string x.f3],rfl,rfl,⟨[.string x.f1],[.string x.f2,.string x.f3],rfl,rfl,⟨[.string x.f2],[.string x.f3],rfl,rfl,rfl⟩⟩⟩
theorem k51_mkM (w : World) (base : Nat) (ok : Nat → Prop) (x : S51)  : k51.M w base ok x [.int .i64 x.f0,.string x.f1,.string x.f2,.string x.f3]:=⟨[.int .i64 x.f0],[.string x.f1,.string x.f2,.string x.f3],rfl,rfl,⟨[.string x.f1],[.string x.f2,.string x.f3],rfl,rfl,⟨[.string x.f2],[.string x.f3],rfl,rfl,rfl⟩⟩⟩
theorem k51_mkF (W : World) (ok : Nat → Prop) (x : S51) : Kd.FK k51 W ok x [.int .i64 x.f0,.string x.f1,.string x.f2,.string x.f3]:=fun W2 _ => k51_mk W2 x
def rd_T51 (xs : List S51) (i : Int) : S51:=xs.getD i.toNat z51
theorem at_T51 {w : World} {A : Option Addr} {n : Nat} {xs : List S51} (h : Kd.C k51 w A n xs) (i : Int) (h0 : 0 ≤ i) (h1 : i < n) : ∃ ad ,A = some ad ∧ w.cell? (ad.add (i.toNat * 4)) = some (.int .i64 (rd_T51 xs i).f0) ∧ w.cell? ⟨(ad.add (i.toNat * 4)).block,(ad.add (i.toNat * 4)).off + 1,none⟩ = some (.string (rd_T51 xs i).f1) ∧ w.cell? ⟨(ad.add (i.toNat * 4)).block,(ad.add (i.toNat * 4)).off + 2,none⟩ = some (.string (rd_T51 xs i).f2) ∧ w.cell? ⟨(ad.add (i.toNat * 4)).block,(ad.add (i.toNat * 4)).off + 3,none⟩ = some (.string (rd_T51 xs i).f3):=by
 obtain ⟨ad,c,e,_,hK,hc0⟩:=Kd.C_get h z51 i h0 h1
 have hc : ∀ j u,c[j]? = some u → w.cell? (ad.add (i.toNat * 4 + j)) = some u:=hc0
 obtain rfl:=k51_open hK
 exact ⟨ad,e,hc 0 _ rfl,by rw [← add_field _ _ 1 (by omega)];exact hc 1 _ rfl,by rw [← add_field _ _ 2 (by omega)];exact hc 2 _ rfl,by rw [← add_field _ _ 3 (by omega)];exact hc 3 _ rfl⟩

/-! #### struct type 67 -/
structure S67 where
 f0 : Int
 f1 : ByteArray
 f2 : ByteArray
 f3 : ByteArray
def z67 : S67:=⟨(0 : Int),(⟨#[]⟩ : ByteArray),(⟨#[]⟩ : ByteArray),(⟨#[]⟩ : ByteArray)⟩
def k67 : Kd S67:=Kd.iso (Kd.pair (Kd.int .i64) (Kd.pair Kd.string (Kd.pair Kd.string Kd.string))) (fun x : S67 => (x.f0,x.f1,x.f2,x.f3))
theorem k67_heap : Kd.Heap k67:=Kd.heap_iso _ (Kd.heap_pair (Kd.heap_int .i64) (Kd.heap_pair Kd.heap_string (Kd.heap_pair Kd.heap_string Kd.heap_string)))
theorem k67_open {w : World} {x : S67} {cs : List Value} (h : k67.K w x cs) : cs = [.int .i64 x.f0,.string x.f1,.string x.f2,.string x.f3]:=by
 obtain ⟨_,_,rfl,rfl,⟨_,_,rfl,rfl,⟨_,_,rfl,rfl,rfl⟩⟩⟩:=h
 exact rfl
theorem k67_openM {w : World} {base : Nat} {ok : Nat → Prop} {x : S67} {cs : List Value} (h : k67.M w base ok x cs) : cs = [.int .i64 x.f0,.string x.f1,.string x.f2,.string x.f3]:=by
 obtain ⟨_,_,rfl,rfl,⟨_,_,rfl,rfl,⟨_,_,rfl,rfl,rfl⟩⟩⟩:=h
 exact rfl
theorem k67_mk (w : World) (x : S67)  : k67.K w x [.int .i64 x.f0,.string x.f1,.string x.f2,.string x.f3]:=⟨[.int .i64 x.f0],[.string x.f1,.string x.f2,.string x.f3],rfl,rfl,⟨[.string x.f1],[.string x.f2,.string x.f3],rfl,rfl,⟨[.string x.f2],[.string x.f3],rfl,rfl,rfl⟩⟩⟩
theorem k67_mkM (w : World) (base : Nat) (ok : Nat → Prop) (x : S67)  : k67.M w base ok x [.int .i64 x.f0,.string x.f1,.string x.f2,.string x.f3]:=⟨[.int .i64 x.f0],[.string x.f1,.string x.f2,.string x.f3],rfl,rfl,⟨[.string x.f1],[.string x.f2,.string x.f3],rfl,rfl,⟨[.string x.f2],[.string x.f3],rfl,rfl,rfl⟩⟩⟩
theorem k67_mkF (W : World) (ok : Nat → Prop) (x : S67) : Kd.FK k67 W ok x [.int .i64 x.f0,.string x.f1,.string x.f2,.string x.f3]:=fun W2 _ => k67_mk W2 x
def rd_T67 (xs : List S67) (i : Int) : S67:=xs.getD i.toNat z67
theorem at_T67 {w : World} {A : Option Addr} {n : Nat} {xs : List S67} (h : Kd.C k67 w A n xs) (i : Int) (h0 : 0 ≤ i) (h1 : i < n) : ∃ ad ,A = some ad ∧ w.cell? (ad.add (i.toNat * 4)) = some (.int .i64 (rd_T67 xs i).f0) ∧ w.cell? ⟨(ad.add (i.toNat * 4)).block,(ad.add (i.toNat * 4)).off + 1,none⟩ = some (.string (rd_T67 xs i).f1) ∧ w.cell? ⟨(ad.add (i.toNat * 4)).block,(ad.add (i.toNat * 4)).off + 2,none⟩ = some (.string (rd_T67 xs i).f2) ∧ w.cell? ⟨(ad.add (i.toNat * 4)).block,(ad.add (i.toNat * 4)).off + 3,none⟩ = some (.string (rd_T67 xs i).f3):=by
 obtain ⟨ad,c,e,_,hK,hc0⟩:=Kd.C_get h z67 i h0 h1
 have hc : ∀ j u,c[j]? = some u → w.cell? (ad.add (i.toNat * 4 + j)) = some u:=hc0
 obtain rfl:=k67_open hK
 exact ⟨ad,e,hc 0 _ rfl,by rw [← add_field _ _ 1 (by omega)];exact hc 1 _ rfl,by rw [← add_field _ _ 2 (by omega)];exact hc 2 _ rfl,by rw [← add_field _ _ 3 (by omega)];exact hc 3 _ rfl⟩

def rd_L5 (xs : List (List S51)) (i : Int) : (List S51):=xs.getD i.toNat ([] : List S51)
theorem at_L5 {w : World} {A : Option Addr} {n : Nat} {xs : List (List S51)} (h : Kd.C (Kd.slice 51 k51) w A n xs) (i : Int) (h0 : 0 ≤ i) (h1 : i < n) : ∃ ad A0 c0,A = some ad ∧ w.cell? (ad.add i.toNat) = some (.slice A0 (rd_L5 xs i).length c0) ∧ (rd_L5 xs i).length ≤ c0 ∧ k51.C w A0 (rd_L5 xs i).length (rd_L5 xs i):=by
 obtain ⟨ad,c,e,_,hK,hc0⟩:=Kd.C_get h ([] : List S51) i h0 h1
 have hc : ∀ j u,c[j]? = some u → w.cell? (ad.add (i.toNat * 1 + j)) = some u:=hc0
 obtain ⟨A0,c0,rfl,l0,g0⟩:=hK
 exact ⟨ad,A0,c0,e,by have hq:=hc 0 _ rfl;rwa [Nat.mul_one,Nat.add_zero] at hq,l0,g0⟩

def rd_L6 (xs : List (List Int)) (i : Int) : (List Int):=xs.getD i.toNat ([] : List Int)
theorem at_L6 {w : World} {A : Option Addr} {n : Nat} {xs : List (List Int)} (h : Kd.C (Kd.slice 3 (Kd.int .i64)) w A n xs) (i : Int) (h0 : 0 ≤ i) (h1 : i < n) : ∃ ad A0 c0,A = some ad ∧ w.cell? (ad.add i.toNat) = some (.slice A0 (rd_L6 xs i).length c0) ∧ (rd_L6 xs i).length ≤ c0 ∧ (Kd.int .i64).C w A0 (rd_L6 xs i).length (rd_L6 xs i):=by
 obtain ⟨ad,c,e,_,hK,hc0⟩:=Kd.C_get h ([] : List Int) i h0 h1
 have hc : ∀ j u,c[j]? = some u → w.cell? (ad.add (i.toNat * 1 + j)) = some u:=hc0
 obtain ⟨A0,c0,rfl,l0,g0⟩:=hK
 exact ⟨ad,A0,c0,e,by have hq:=hc 0 _ rfl;rwa [Nat.mul_one,Nat.add_zero] at hq,l0,g0⟩

def rd_L7 (xs : List (List ByteArray)) (i : Int) : (List ByteArray):=xs.getD i.toNat ([] : List ByteArray)
theorem at_L7 {w : World} {A : Option Addr} {n : Nat} {xs : List (List ByteArray)} (h : Kd.C (Kd.slice 9 Kd.string) w A n xs) (i : Int) (h0 : 0 ≤ i) (h1 : i < n) : ∃ ad A0 c0,A = some ad ∧ w.cell? (ad.add i.toNat) = some (.slice A0 (rd_L7 xs i).length c0) ∧ (rd_L7 xs i).length ≤ c0 ∧ Kd.string.C w A0 (rd_L7 xs i).length (rd_L7 xs i):=by
 obtain ⟨ad,c,e,_,hK,hc0⟩:=Kd.C_get h ([] : List ByteArray) i h0 h1
 have hc : ∀ j u,c[j]? = some u → w.cell? (ad.add (i.toNat * 1 + j)) = some u:=hc0
 obtain ⟨A0,c0,rfl,l0,g0⟩:=hK
 exact ⟨ad,A0,c0,e,by have hq:=hc 0 _ rfl;rwa [Nat.mul_one,Nat.add_zero] at hq,l0,g0⟩

/-! #### struct type 101 -/
structure S101 where
 f0 : ByteArray
 f1 : Bool
def z101 : S101:=⟨(⟨#[]⟩ : ByteArray),false⟩
def k101 : Kd S101:=Kd.iso (Kd.pair Kd.string Kd.bool) (fun x : S101 => (x.f0,x.f1))
theorem k101_heap : Kd.Heap k101:=Kd.heap_iso _ (Kd.heap_pair Kd.heap_string Kd.heap_bool)
theorem k101_open {w : World} {x : S101} {cs : List Value} (h : k101.K w x cs) : cs = [.string x.f0,.bool x.f1]:=by
 obtain ⟨_,_,rfl,rfl,rfl⟩:=h
 exact rfl
theorem k101_openM {w : World} {base : Nat} {ok : Nat → Prop} {x : S101} {cs : List Value} (h : k101.M w base ok x cs) : cs = [.string x.f0,.bool x.f1]:=by
 obtain ⟨_,_,rfl,rfl,rfl⟩:=h
 exact rfl
theorem k101_mk (w : World) (x : S101)  : k101.K w x [.string x.f0,.bool x.f1]:=⟨[.string x.f0],[.bool x.f1],rfl,rfl,rfl⟩
theorem k101_mkM (w : World) (base : Nat) (ok : Nat → Prop) (x : S101)  : k101.M w base ok x [.string x.f0,.bool x.f1]:=⟨[.string x.f0],[.bool x.f1],rfl,rfl,rfl⟩
theorem k101_mkF (W : World) (ok : Nat → Prop) (x : S101) : Kd.FK k101 W ok x [.string x.f0,.bool x.f1]:=fun W2 _ => k101_mk W2 x
def rd_T101 (xs : List S101) (i : Int) : S101:=xs.getD i.toNat z101
theorem at_T101 {w : World} {A : Option Addr} {n : Nat} {xs : List S101} (h : Kd.C k101 w A n xs) (i : Int) (h0 : 0 ≤ i) (h1 : i < n) : ∃ ad ,A = some ad ∧ w.cell? (ad.add (i.toNat * 2)) = some (.string (rd_T101 xs i).f0) ∧ w.cell? ⟨(ad.add (i.toNat * 2)).block,(ad.add (i.toNat * 2)).off + 1,none⟩ = some (.bool (rd_T101 xs i).f1):=by
 obtain ⟨ad,c,e,_,hK,hc0⟩:=Kd.C_get h z101 i h0 h1
 have hc : ∀ j u,c[j]? = some u → w.cell? (ad.add (i.toNat * 2 + j)) = some u:=hc0
 obtain rfl:=k101_open hK
 exact ⟨ad,e,hc 0 _ rfl,by rw [← add_field _ _ 1 (by omega)];exact hc 1 _ rfl⟩

end Go.Proofs.Ytnmmdeonkpfccaa.Pr
namespace Go.Proofs.Ytnmmdeonkpfccaa.Pr
open Go.RowKit Go.Proofs.YtnmmdeonkpfccaaW.PrintWords Go.Proofs.YtnmmdeonkpfccaaW.PrintLast Go.Proofs.YtnmmdeonkpfccaaW.PrintMore
attribute [local go_sem] max2_int min2_int max_two min_two max_three min_three max_four min_four
set_option linter.unusedVariables false
set_option linter.unusedSimpArgs false

/-! ### metrolablaw53_own: function 13 -/
def metrolablaw53_own.l0 : Nat → List (S67) → List (S51) → Int → Int → Option ((List (S67)))
 | 0,_,_,_,_ => none
 | k + 1,x3,x6,x7,x8 => if x8 < x7 then (if 0 ≤ x8 then (if x8 < (x6.length : Int) then (if x3.length < 2513169434916 then (metrolablaw53_own.l0 k (x3 ++ [(⟨(rd_T51 x6 x8).f0,(rd_T51 x6 x8).f1,(rd_T51 x6 x8).f2,(rd_T51 x6 x8).f3⟩ : S67)]) x6 x7 (wrap64 (x8 + 1))) else (none)) else (none)) else (none)) else (some x3)
def metrolablaw53_own.f (k : Nat) (l0 : List (S51)) : Option ((List (S67))):=metrolablaw53_own.l0 k ([] : List (S67)) l0 (l0.length : Int) 0
theorem metrolablaw53_own.mono_l : ∀ k,(∀ y0 y1 y2 y3,LeO (metrolablaw53_own.l0 k y0 y1 y2 y3) (metrolablaw53_own.l0 (k + 1) y0 y1 y2 y3))
 | 0 => fun _ _ _ _ r h => by simp [metrolablaw53_own.l0] at h
 | k + 1 => by
  have ih0:=metrolablaw53_own.mono_l k
  ·intro y0 y1 y2 y3
   unfold metrolablaw53_own.l0
   repeat' first
   | (with_reducible exact ih0 _ _ _ _)
   | (with_reducible exact LeO.refl _)
   | (with_reducible exact LeO.none _)
   | (with_reducible refine LeO.ite ?_ ?_)
   | (with_reducible refine LeO.bind ?_ (fun _ => ?_))
   | exact ih0 _ _ _ _
   | exact LeO.none _
   | refine LeO.ite ?_ ?_
   | refine LeO.bind ?_ (fun _ => ?_)
theorem metrolablaw53_own.mono : ∀ a0 k,LeO (metrolablaw53_own.f k a0) (metrolablaw53_own.f (k + 1) a0):=by
 intro a0 k
 have ih0:=metrolablaw53_own.mono_l k
 unfold metrolablaw53_own.f
 repeat' first
   | (with_reducible exact ih0 _ _ _ _)
   | (with_reducible exact LeO.refl _)
   | (with_reducible exact LeO.none _)
   | (with_reducible refine LeO.ite ?_ ?_)
   | (with_reducible refine LeO.bind ?_ (fun _ => ?_))
   | exact ih0 _ _ _ _
   | exact LeO.none _
   | refine LeO.ite ?_ ?_
   | refine LeO.bind ?_ (fun _ => ?_)
set_option maxHeartbeats 8000000 in
set_option maxRecDepth 100000 in
theorem metrolablaw53_own.calls (k : Nat) (A0 : Option Addr) (c0 : Nat) (l0 : List (S51)) (r : List (S67)) (w : World) (hr0 : Kd.C k51 w A0 l0.length l0) (hc0 : l0.length ≤ c0) (h : metrolablaw53_own.f k l0 = some r) :
  Calls Try.prog 13 #[.slice A0 l0.length c0] w fun e w' => ∃ v0_ : Value,e = .returned (v0_) ∧ Kd.R k67 67 w' w.heap.size (fun _ => True) v0_ r ∧ Below w.heap.size w w':=by
 have hu51:=Try.underlying51
 have HR0:=Aside0.mk hr0
 have HC0:=Aside0.mk hc0
 clear hr0 hc0
 have HB:=Aside0.mk (Below.refl w.heap.size w)
 have H : (metrolablaw53_own.l0 k ([] : List (S67)) l0 (l0.length : Int) 0) = some r:=h
 clear h
 have H':=Aside0.mk H
 clear H
 go_enter Try.func13,Try.ntmps13
 go_wp2
 go_loopg [3,8] k (fun kq v3 v8 w' => ∃ (x3_1 : List (S67)) (x8_1 : Int),v8 = .int .i64 x8_1 ∧ Aside0 (metrolablaw53_own.l0 kq x3_1 l0 (l0.length : Int) x8_1 = some r) ∧ Aside0 (kq ≤ k) ∧ Aside0 (Kd.R k67 67 w' w.heap.size (fun _ => True) v3 x3_1) ∧ Aside0 (Below w.heap.size w w'))
 case atStart => exact ⟨(([] : List (S67))),(0),(by first | rfl | (simp;done) | (simp [*];done)),H',⟨Nat.le_refl _⟩,⟨by first | exact Kd.R_nil _ _ _ _ _ | exact Kd.N_nil _ _ _ _ _ | exact Kd.V_nil _ _ _ _ _ | exact Kd.Q_nil _ _ _ _ _ | exact Kd.S_nil _ _ _ _ _⟩,⟨by repeat (first | (with_reducible first | exact HB.out | apply below_alloc | apply pw_below_drewN | apply below_drew1) | exact HB.out)⟩⟩
 case round =>
  clear H'
  try clear c1
  obtain ⟨x3_1,x8_1,rfl,HA,HK1,HO_3,HB⟩:=hrel
  cases gk with
  | zero => exact absurd HA.out (by simp [metrolablaw53_own.l0])
  | succ k1 =>
   have H:=HA.out
   clear HA
   simp only [metrolablaw53_own.l0] at H
   by_cases c2 : x8_1 < (l0.length : Int)
   ·rw [if_pos c2] at H
    have c2b0 : decide (x8_1 < (l0.length : Int)) = true:=decide_eq_true c2
    clear c2
    by_cases c3 : 0 ≤ x8_1
    ·rw [if_pos c3] at H
     have c3b0 : decide (0 ≤ x8_1) = true:=decide_eq_true c3
     clear c3
     by_cases c4 : x8_1 < (l0.length : Int)
     ·rw [if_pos c4] at H
      have c4b0 : decide (x8_1 < (l0.length : Int)) = true:=decide_eq_true c4
      clear c4
      by_cases c5 : x3_1.length < 2513169434916
      ·rw [if_pos c5] at H
       have LMc5:=Aside0.mk c5
       clear c5
       obtain ⟨y103,hy103⟩ : ∃ y_ : List (S67),y_ = (x3_1 ++ [(⟨(rd_T51 l0 x8_1).f0,(rd_T51 l0 x8_1).f1,(rd_T51 l0 x8_1).f2,(rd_T51 l0 x8_1).f3⟩ : S67)]):=⟨_,rfl⟩
       replace H : (metrolablaw53_own.l0 k1 y103 l0 (l0.length : Int) (wrap64 (x8_1 + 1))) = some r:=by first | (rw [hy103];with_reducible exact H) | (have H2_:=(Option.bind_some _ _).symm.trans H;rw [hy103];with_reducible exact H2_) | (have H2_:=(Option.bind_some _ _).symm.trans H;with_reducible exact H2_) | with_reducible exact H | (rw [hy103];exact H) | exact H
       have Ny103:=Aside0.mk hy103
       clear hy103
       have H':=Aside0.mk H
       clear H
       have p101 : 0 ≤ (x8_1 : Int):=of_decide_eq_true (by first | (with_reducible assumption) | assumption)
       have q101 : x8_1 < (l0.length : Int):=of_decide_eq_true (by first | (with_reducible assumption) | assumption)
       obtain ⟨ad101,e101,hx101_0,hx101_1,hx101_2,hx101_3⟩:=at_T51 HR0.out x8_1 p101 q101
       cases e101
       replace hx101_0:=(HB.out.cell (World.block_lt_of_cell? w _ hx101_0)).trans hx101_0
       replace hx101_1:=(HB.out.cell (World.block_lt_of_cell? w _ hx101_1)).trans hx101_1
       replace hx101_2:=(HB.out.cell (World.block_lt_of_cell? w _ hx101_2)).trans hx101_2
       replace hx101_3:=(HB.out.cell (World.block_lt_of_cell? w _ hx101_3)).trans hx101_3
       replace p101:=eq_true p101
       replace q101:=eq_true q101
       go_wp2_with (first | ((with_reducible refine gate_dst (N:=5) rfl ?_);refine box_event ?hg (N:=5) ?hd (cs:=#[.int .i64 0,.string (⟨#[]⟩ : ByteArray),.string (⟨#[]⟩ : ByteArray),.string (⟨#[]⟩ : ByteArray)]) (t:=51) ?hr ?_;(case hd => rfl);(case hg => rfl);(case hr => first | (go_simp;done) | (go_simp;rfl));intro gb102 hg w6 hbox hb;have n0_:=Aside0.mk (Kd.R_below (by (with_reducible repeat (first | apply Kd.R_alloc | apply Kd.R_drewN | apply Kd.R_drew));exact HO_3.out) hb);have n1_:=Aside0.mk (below_step (by repeat (first | (with_reducible first | exact HB.out | apply below_alloc | apply pw_below_drewN | apply below_drew1) | exact HB.out)) hb);have n2_:=Aside0.mk (hbox);have n3_:=Aside0.mk ((by rw [hg];exact (below_size (by repeat (first | (with_reducible first | exact HB.out | apply below_alloc | apply pw_below_drewN | apply below_drew1) | exact HB.out))) : w.heap.size ≤ gb102));have n4_:=Aside0.mk ((by rw [hg];exact (below_size (by repeat (first | (with_reducible first | exact HB.out | apply below_alloc | apply pw_below_drewN | apply below_drew1) | exact HB.out))) : w.heap.size ≤ gb102));clear HO_3;clear HB;have HO_3:=n0_;have HB:=n1_;have BK102:=n2_;have GW102:=n3_;have GE102:=n4_;clear n0_ n1_ n2_ n3_ n4_;clear hb hbox hg;have hcz7_0 : w6.cell? ⟨gb102,0,none⟩ = some (.int .i64 0):=(blk_cell BK102.out 0).trans rfl;have hcz7_1 : w6.cell? ⟨gb102,1,none⟩ = some (.string (⟨#[]⟩ : ByteArray)):=(blk_cell BK102.out 1).trans rfl;have hcz7_2 : w6.cell? ⟨gb102,2,none⟩ = some (.string (⟨#[]⟩ : ByteArray)):=(blk_cell BK102.out 2).trans rfl;have hcz7_3 : w6.cell? ⟨gb102,3,none⟩ = some (.string (⟨#[]⟩ : ByteArray)):=(blk_cell BK102.out 3).trans rfl;have hfz7_0:=blk_frozen BK102.out 0;have hfz7_1:=blk_frozen BK102.out 1;have hfz7_2:=blk_frozen BK102.out 2;have hfz7_3:=blk_frozen BK102.out 3) | ((with_reducible refine gate_builtin (b:=.append) (xs:=#[.tmp 12,.tmp 14]) rfl ?_);at_builtin;refine Kd.R_append k67 (w0:=w) w.heap.size rfl (.tmp 12) (.tmp 14) 31 67 (.agg #[(.int .i64 0),(.string ⟨#[]⟩),(.string ⟨#[]⟩),(.string ⟨#[]⟩)]) 56 rfl Try.underlying31 info67 rfl (by decide) (by omega) u3 x3_1 (⟨(rd_T51 l0 x8_1).f0,(rd_T51 l0 x8_1).f1,(rd_T51 l0 x8_1).f2,(rd_T51 l0 x8_1).f3⟩ : S67) [.int .i64 ((rd_T51 l0 x8_1).f0),.string ((rd_T51 l0 x8_1).f1),.string ((rd_T51 l0 x8_1).f2),.string ((rd_T51 l0 x8_1).f3)] (fun _ => True) (fun _ => False) rfl (by first | (go_simp;done) | (go_simp;rfl)) ?aP (fun _ hk => hk.elim) ?aF ?aO ?aB ?aS ?aL ?_;(case aP => exact k67_mkM _ _ _ (⟨(rd_T51 l0 x8_1).f0,(rd_T51 l0 x8_1).f1,(rd_T51 l0 x8_1).f2,(rd_T51 l0 x8_1).f3⟩ : S67));(case aB => exact (by repeat (first | (with_reducible first | exact HB.out | apply below_alloc | apply pw_below_drewN | apply below_drew1 | refine below_set ?_ GE102.out) | exact HB.out)));(case aF => exact (fun _ _ => trivial));(case aO => exact (by (with_reducible repeat (first | apply Kd.R_alloc | apply Kd.R_drewN | apply Kd.R_drew));exact Kd.R_mono (Kd.R_far (p:=⟨gb102,3,none⟩) (Kd.R_far (p:=⟨gb102,2,none⟩) (Kd.R_far (p:=⟨gb102,1,none⟩) (Kd.R_far (p:=⟨gb102,0,none⟩) (Kd.R_types HO_3.out BK102.out (by decide)) (fun _ hk => hk.2) (.int .i64 ((rd_T51 l0 x8_1).f0))) (fun _ hk => hk.2) (.string ((rd_T51 l0 x8_1).f1))) (fun _ hk => hk.2) (.string ((rd_T51 l0 x8_1).f2))) (fun _ hk => hk.2) (.string ((rd_T51 l0 x8_1).f3))) (fun _ hk => trivial)));(case aS => exact (below_size (by repeat (first | (with_reducible first | exact HB.out | apply below_alloc | apply pw_below_drewN | apply below_drew1 | refine below_set ?_ GE102.out) | exact HB.out))));(case aL => have:=LMc5.out;omega);intro v104 w8 ho hb hg hat;rw [← Ny103.out] at ho;have n0_:=Aside0.mk (blk_grown (g:=gb102) (o:=.cells #[.int .i64 ((rd_T51 l0 x8_1).f0),.string ((rd_T51 l0 x8_1).f1),.string ((rd_T51 l0 x8_1).f2),.string ((rd_T51 l0 x8_1).f3)] 51 (0,0)) (by (with_reducible repeat (first | refine blk_drewN ?_ _ | refine blk_drew ?_ | refine blk_alloc ?_ _));refine blk_put (cs:=#[.int .i64 ((rd_T51 l0 x8_1).f0),.string ((rd_T51 l0 x8_1).f1),.string ((rd_T51 l0 x8_1).f2),.string (⟨#[]⟩ : ByteArray)]) ?_ 3 _ rfl;(with_reducible repeat (first | refine blk_drewN ?_ _ | refine blk_drew ?_ | refine blk_alloc ?_ _));refine blk_put (cs:=#[.int .i64 ((rd_T51 l0 x8_1).f0),.string ((rd_T51 l0 x8_1).f1),.string (⟨#[]⟩ : ByteArray),.string (⟨#[]⟩ : ByteArray)]) ?_ 2 _ rfl;(with_reducible repeat (first | refine blk_drewN ?_ _ | refine blk_drew ?_ | refine blk_alloc ?_ _));refine blk_put (cs:=#[.int .i64 ((rd_T51 l0 x8_1).f0),.string (⟨#[]⟩ : ByteArray),.string (⟨#[]⟩ : ByteArray),.string (⟨#[]⟩ : ByteArray)]) ?_ 1 _ rfl;(with_reducible repeat (first | refine blk_drewN ?_ _ | refine blk_drew ?_ | refine blk_alloc ?_ _));refine blk_put (cs:=#[.int .i64 0,.string (⟨#[]⟩ : ByteArray),.string (⟨#[]⟩ : ByteArray),.string (⟨#[]⟩ : ByteArray)]) ?_ 0 _ rfl;(with_reducible repeat (first | refine blk_drewN ?_ _ | refine blk_drew ?_ | refine blk_alloc ?_ _));exact BK102.out) hg (Kd.R_ne HO_3.out BK102.out (by decide)));have n1_:=Aside0.mk (hb);have n2_:=Aside0.mk (ho);clear BK102;clear HB;clear HO_3;have BK102:=n0_;have HB:=n1_;have HO105:=n2_;clear n0_ n1_ n2_;clear ho hb hg hat))
       go_roundg k1
       case measure => have:=HK1.out;omega
       case rel => exact ⟨(y103),(wrap64 (x8_1 + 1)),(by first | rfl | (simp;done) | (simp [*];done)),H',⟨by have:=HK1.out;omega⟩,⟨by (with_reducible repeat (first | apply Kd.R_alloc | apply Kd.R_drewN | apply Kd.R_drew));exact HO105.out⟩,⟨by repeat (first | (with_reducible first | exact HB.out | apply below_alloc | apply pw_below_drewN | apply below_drew1 | refine below_set ?_ GE102.out) | exact HB.out)⟩⟩
      ·rw [if_neg c5] at H
       exact absurd H (by simp)
     ·rw [if_neg c4] at H
      exact absurd H (by simp)
    ·rw [if_neg c3] at H
     exact absurd H (by simp)
   ·rw [if_neg c2] at H
    have c2b0 : decide (x8_1 < (l0.length : Int)) = false:=decide_eq_false c2
    clear c2
    obtain rfl:=Option.some.inj H
    go_wp2
    go_ret
    exact ⟨_,by first | rfl | (simp [errW_none,errW_some] <;> rfl) | (simp [*,errW_none,errW_some] <;> rfl),by (with_reducible repeat (first | apply Kd.R_alloc | apply Kd.R_drewN | apply Kd.R_drew));exact HO_3.out,by repeat (first | (with_reducible first | exact HB.out | apply below_alloc | apply pw_below_drewN | apply below_drew1) | exact HB.out)⟩

end Go.Proofs.Ytnmmdeonkpfccaa.Pr
namespace Go.Proofs.Ytnmmdeonkpfccaa.Pr
open Go.RowKit Go.Proofs.YtnmmdeonkpfccaaW.PrintWords Go.Proofs.YtnmmdeonkpfccaaW.PrintLast Go.Proofs.YtnmmdeonkpfccaaW.PrintMore
attribute [local go_sem] max2_int min2_int max_two min_two max_three min_three max_four min_four
set_option linter.unusedVariables false
set_option linter.unusedSimpArgs false

/-! ### metrolabref53_Few: function 36 -/
mutual
def metrolabref53_Few.j0 : Nat → List (S67) → Bool → Option (Bool)
 | 0,_,_ => none
 | k + 1,x0,x16 => if x16 = true then (some false) else (metrolabref53_Few.l0 k x0 0)
def metrolabref53_Few.l0 : Nat → List (S67) → Int → Option (Bool)
 | 0,_,_ => none
 | k + 1,x0,x3 => if x3 < (x0.length : Int) then (if 0 ≤ x3 then (if (((rd_T67 x0 x3).f1).size : Int) > 60 then (some false) else (if (((rd_T67 x0 x3).f2).size : Int) > 60 then (some false) else (if (((rd_T67 x0 x3).f3).size : Int) > 60 then (some false) else (metrolabref53_Few.l0 k x0 (wrap64 (x3 + 1)))))) else (none)) else (some true)
end
def metrolabref53_Few.f (k : Nat) (l0 : List (S67)) : Option (Bool):=if (l0.length : Int) > 16 then (if (l0.length : Int) ≤ 4096 then (metrolabref53_Few.j0 k l0 true) else (metrolabref53_Few.j0 k l0 (decide ((l0.length : Int) > 8192)))) else (metrolabref53_Few.j0 k l0 (decide ((l0.length : Int) > 8192)))
theorem metrolabref53_Few.mono_l : ∀ k,(∀ y0 y1,LeO (metrolabref53_Few.j0 k y0 y1) (metrolabref53_Few.j0 (k + 1) y0 y1)) ∧ (∀ y0 y1,LeO (metrolabref53_Few.l0 k y0 y1) (metrolabref53_Few.l0 (k + 1) y0 y1))
 | 0 => ⟨fun _ _ r h => by simp [metrolabref53_Few.j0] at h,fun _ _ r h => by simp [metrolabref53_Few.l0] at h⟩
 | k + 1 => by
  obtain ⟨ih0,ih1⟩:=metrolabref53_Few.mono_l k
  refine ⟨?_,?_⟩
  ·intro y0 y1
   unfold metrolabref53_Few.j0
   repeat' first
   | (with_reducible exact ih0 _ _)
   | (with_reducible exact ih1 _ _)
   | (with_reducible exact LeO.refl _)
   | (with_reducible exact LeO.none _)
   | (with_reducible refine LeO.ite ?_ ?_)
   | (with_reducible refine LeO.bind ?_ (fun _ => ?_))
   | exact ih0 _ _
   | exact ih1 _ _
   | exact LeO.none _
   | refine LeO.ite ?_ ?_
   | refine LeO.bind ?_ (fun _ => ?_)
  ·intro y0 y1
   unfold metrolabref53_Few.l0
   repeat' first
   | (with_reducible exact ih0 _ _)
   | (with_reducible exact ih1 _ _)
   | (with_reducible exact LeO.refl _)
   | (with_reducible exact LeO.none _)
   | (with_reducible refine LeO.ite ?_ ?_)
   | (with_reducible refine LeO.bind ?_ (fun _ => ?_))
   | exact ih0 _ _
   | exact ih1 _ _
   | exact LeO.none _
   | refine LeO.ite ?_ ?_
   | refine LeO.bind ?_ (fun _ => ?_)
theorem metrolabref53_Few.mono : ∀ a0 k,LeO (metrolabref53_Few.f k a0) (metrolabref53_Few.f (k + 1) a0):=by
 intro a0 k
 obtain ⟨ih0,ih1⟩:=metrolabref53_Few.mono_l k
 unfold metrolabref53_Few.f
 repeat' first
   | (with_reducible exact ih0 _ _)
   | (with_reducible exact ih1 _ _)
   | (with_reducible exact LeO.refl _)
   | (with_reducible exact LeO.none _)
   | (with_reducible refine LeO.ite ?_ ?_)
   | (with_reducible refine LeO.bind ?_ (fun _ => ?_))
   | exact ih0 _ _
   | exact ih1 _ _
   | exact LeO.none _
   | refine LeO.ite ?_ ?_
   | refine LeO.bind ?_ (fun _ => ?_)
set_option maxHeartbeats 8000000 in
set_option maxRecDepth 100000 in
theorem metrolabref53_Few.calls (k : Nat) (A0 : Option Addr) (c0 : Nat) (l0 : List (S67)) (r : Bool) (w : World) (hr0 : Kd.C k67 w A0 l0.length l0) (hc0 : l0.length ≤ c0) (h : metrolabref53_Few.f k l0 = some r) :
  Calls Try.prog 36 #[.slice A0 l0.length c0] w fun e w' => e = .returned (.bool r) ∧ Drawn0 w w':=by
 have HR0:=Aside0.mk hr0
 have HC0:=Aside0.mk hc0
 clear hr0 hc0
 have H : (if (l0.length : Int) > 16 then (if (l0.length : Int) ≤ 4096 then (metrolabref53_Few.j0 k l0 true) else (metrolabref53_Few.j0 k l0 (decide ((l0.length : Int) > 8192)))) else (metrolabref53_Few.j0 k l0 (decide ((l0.length : Int) > 8192)))) = some r:=h
 clear h
 have HC2:=Aside0.mk H
 clear H
 go_enter Try.func36,Try.ntmps36
 go_upto_region 1 with (fail)
 go_cut [16] (fun v16 wc => ∃ (kq : Nat) (x16_1 : Bool),v16 = .bool x16_1 ∧ Aside0 (metrolabref53_Few.j0 kq l0 x16_1 = some r) ∧ Aside0 (kq ≤ k) ∧ Drawn0 w wc)
 case first =>
  have H:=HC2.out
  clear HC2
  by_cases c3 : (l0.length : Int) > 16
  ·rw [if_pos c3] at H
   have c3b0 : decide (16 < (l0.length : Int)) = true:=decide_eq_true c3
   have c3b1 : decide (16 < l0.length) = true:=decide_eq_true (by omega)
   clear c3
   (first | rw [c3b0] | (simp only [i64_w,i32_w];rw [c3b0]) | skip)
   by_cases c4 : (l0.length : Int) ≤ 4096
   ·rw [if_pos c4] at H
    have c4b0 : decide ((l0.length : Int) ≤ 4096) = true:=decide_eq_true c4
    have c4b1 : decide (l0.length ≤ 4096) = true:=decide_eq_true (by omega)
    clear c4
    have H':=Aside0.mk H
    clear H
    go_wp2
    go_meet
    case rel => exact ⟨_,(true),(by first | rfl | (simp;done) | (simp [*];done)),H',⟨by first | omega | exact Nat.le_refl _⟩,by repeat (first | exact Drawn0.refl _ | apply Drawn0.step)⟩
   ·rw [if_neg c4] at H
    have c4b0 : decide ((l0.length : Int) ≤ 4096) = false:=decide_eq_false c4
    have c4b1 : decide (l0.length ≤ 4096) = false:=decide_eq_false (by omega)
    clear c4
    have H':=Aside0.mk H
    clear H
    go_wp2
    go_meet
    case rel => exact ⟨_,(decide ((l0.length : Int) > 8192)),(by first | rfl | (simp;done) | (simp [*];done)),H',⟨by first | omega | exact Nat.le_refl _⟩,by repeat (first | exact Drawn0.refl _ | apply Drawn0.step)⟩
  ·rw [if_neg c3] at H
   have c3b0 : decide (16 < (l0.length : Int)) = false:=decide_eq_false c3
   have c3b1 : decide (16 < l0.length) = false:=decide_eq_false (by omega)
   clear c3
   (first | rw [c3b0] | (simp only [i64_w,i32_w];rw [c3b0]) | skip)
   have H':=Aside0.mk H
   clear H
   go_wp2
   go_meet
   case rel => exact ⟨_,(decide ((l0.length : Int) > 8192)),(by first | rfl | (simp;done) | (simp [*];done)),H',⟨by first | omega | exact Nat.le_refl _⟩,by repeat (first | exact Drawn0.refl _ | apply Drawn0.step)⟩
 case rest =>
  clear HC2
  try clear p2
  try clear c3
  try clear c3b0
  try clear c3b1
  try clear c4
  try clear c4b0
  try clear c4b1
  obtain ⟨kq,x16_1,rfl,HA,HJ1,⟨mc1,rfl⟩⟩:=hcut
  cases kq with
  | zero => exact absurd HA.out (by simp [metrolabref53_Few.j0])
  | succ kj1 =>
   have H:=HA.out
   clear HA
   simp only [metrolabref53_Few.j0] at H
   by_cases c5 : x16_1 = true
   ·subst c5
    have H1 : (some false) = some r:=by rw [if_pos rfl] at H;exact H
    clear H
    have H:=H1
    clear H1
    obtain rfl:=Option.some.inj H
    go_wp2
    go_ret
    exact ⟨by first | rfl | (simp;done) | (simp [*];done),by repeat (first | exact Drawn0.refl _ | apply Drawn0.step)⟩
   ·replace c5:=Bool.eq_false_iff.mpr c5
    subst c5
    have H1 : (metrolabref53_Few.l0 kj1 l0 0) = some r:=by rw [if_neg (show ¬ (false = true) by decide)] at H;exact H
    clear H
    have H:=H1
    clear H1
    have H':=Aside0.mk H
    clear H
    go_wp2
    go_loopg [3] kj1 (fun kq v3 w' => ∃ (x3_2 : Int),v3 = .int .i64 x3_2 ∧ Aside0 (metrolabref53_Few.l0 kq l0 x3_2 = some r) ∧ Aside0 (kq ≤ kj1) ∧ Drawn0 w w')
    case atStart => exact ⟨(0),(by first | rfl | (simp;done) | (simp [*];done)),H',⟨Nat.le_refl _⟩,by repeat (first | exact Drawn0.refl _ | apply Drawn0.step)⟩
    case round =>
     clear H'
     try clear c1
     try clear p2
     try clear c3
     try clear c3b0
     try clear c3b1
     try clear c4
     try clear c4b0
     try clear c4b1
     try clear c5
     try clear p2
     obtain ⟨x3_2,rfl,HA,HK2,⟨m2,rfl⟩⟩:=hrel
     cases gk with
     | zero => exact absurd HA.out (by simp [metrolabref53_Few.l0])
     | succ k2 =>
      have H:=HA.out
      clear HA
      simp only [metrolabref53_Few.l0] at H
      by_cases c6 : x3_2 < (l0.length : Int)
      ·rw [if_pos c6] at H
       have c6b0 : decide (x3_2 < (l0.length : Int)) = true:=decide_eq_true c6
       clear c6
       by_cases c7 : 0 ≤ x3_2
       ·rw [if_pos c7] at H
        have c7b0 : decide (0 ≤ x3_2) = true:=decide_eq_true c7
        clear c7
        by_cases c8 : (((rd_T67 l0 x3_2).f1).size : Int) > 60
        ·rw [if_pos c8] at H
         have c8b0 : decide (60 < (((rd_T67 l0 x3_2).f1).size : Int)) = true:=decide_eq_true c8
         have c8b1 : decide (60 < ((rd_T67 l0 x3_2).f1).size) = true:=decide_eq_true (by omega)
         clear c8
         obtain rfl:=Option.some.inj H
         have p106 : 0 ≤ (x3_2 : Int):=of_decide_eq_true (by first | (with_reducible assumption) | assumption)
         have q106 : x3_2 < (l0.length : Int):=of_decide_eq_true (by first | (with_reducible assumption) | assumption)
         obtain ⟨ad106,e106,hx106_0,hx106_1,hx106_2,hx106_3⟩:=at_T67 HR0.out x3_2 p106 q106
         cases e106
         replace p106:=eq_true p106
         replace q106:=eq_true q106
         go_wp2
         go_ret
         exact ⟨by first | rfl | (simp;done) | (simp [*];done),by repeat (first | exact Drawn0.refl _ | apply Drawn0.step)⟩
        ·rw [if_neg c8] at H
         have c8b0 : decide (60 < (((rd_T67 l0 x3_2).f1).size : Int)) = false:=decide_eq_false c8
         have c8b1 : decide (60 < ((rd_T67 l0 x3_2).f1).size) = false:=decide_eq_false (by omega)
         clear c8
         by_cases c9 : (((rd_T67 l0 x3_2).f2).size : Int) > 60
         ·rw [if_pos c9] at H
          have c9b0 : decide (60 < (((rd_T67 l0 x3_2).f2).size : Int)) = true:=decide_eq_true c9
          have c9b1 : decide (60 < ((rd_T67 l0 x3_2).f2).size) = true:=decide_eq_true (by omega)
          clear c9
          obtain rfl:=Option.some.inj H
          have p106 : 0 ≤ (x3_2 : Int):=of_decide_eq_true (by first | (with_reducible assumption) | assumption)
          have q106 : x3_2 < (l0.length : Int):=of_decide_eq_true (by first | (with_reducible assumption) | assumption)
          obtain ⟨ad106,e106,hx106_0,hx106_1,hx106_2,hx106_3⟩:=at_T67 HR0.out x3_2 p106 q106
          cases e106
          replace p106:=eq_true p106
          replace q106:=eq_true q106
          have p107 : 0 ≤ (x3_2 : Int):=of_decide_eq_true (by first | (with_reducible assumption) | assumption)
          have q107 : x3_2 < (l0.length : Int):=of_decide_eq_true (by first | (with_reducible assumption) | assumption)
          obtain ⟨ad107,e107,hx107_0,hx107_1,hx107_2,hx107_3⟩:=at_T67 HR0.out x3_2 p107 q107
          obtain rfl : ad106 = ad107:=(by injection e107)
          replace p107:=eq_true p107
          replace q107:=eq_true q107
          go_wp2
          go_ret
          exact ⟨by first | rfl | (simp;done) | (simp [*];done),by repeat (first | exact Drawn0.refl _ | apply Drawn0.step)⟩
         ·rw [if_neg c9] at H
          have c9b0 : decide (60 < (((rd_T67 l0 x3_2).f2).size : Int)) = false:=decide_eq_false c9
          have c9b1 : decide (60 < ((rd_T67 l0 x3_2).f2).size) = false:=decide_eq_false (by omega)
          clear c9
          by_cases c10 : (((rd_T67 l0 x3_2).f3).size : Int) > 60
          ·rw [if_pos c10] at H
           have c10b0 : decide (60 < (((rd_T67 l0 x3_2).f3).size : Int)) = true:=decide_eq_true c10
           have c10b1 : decide (60 < ((rd_T67 l0 x3_2).f3).size) = true:=decide_eq_true (by omega)
           clear c10
           obtain rfl:=Option.some.inj H
           have p106 : 0 ≤ (x3_2 : Int):=of_decide_eq_true (by first | (with_reducible assumption) | assumption)
           have q106 : x3_2 < (l0.length : Int):=of_decide_eq_true (by first | (with_reducible assumption) | assumption)
           obtain ⟨ad106,e106,hx106_0,hx106_1,hx106_2,hx106_3⟩:=at_T67 HR0.out x3_2 p106 q106
           cases e106
           replace p106:=eq_true p106
           replace q106:=eq_true q106
           have p107 : 0 ≤ (x3_2 : Int):=of_decide_eq_true (by first | (with_reducible assumption) | assumption)
           have q107 : x3_2 < (l0.length : Int):=of_decide_eq_true (by first | (with_reducible assumption) | assumption)
           obtain ⟨ad107,e107,hx107_0,hx107_1,hx107_2,hx107_3⟩:=at_T67 HR0.out x3_2 p107 q107
           obtain rfl : ad106 = ad107:=(by injection e107)
           replace p107:=eq_true p107
           replace q107:=eq_true q107
           have p108 : 0 ≤ (x3_2 : Int):=of_decide_eq_true (by first | (with_reducible assumption) | assumption)
           have q108 : x3_2 < (l0.length : Int):=of_decide_eq_true (by first | (with_reducible assumption) | assumption)
           obtain ⟨ad108,e108,hx108_0,hx108_1,hx108_2,hx108_3⟩:=at_T67 HR0.out x3_2 p108 q108
           obtain rfl : ad106 = ad108:=(by injection e108)
           replace p108:=eq_true p108
           replace q108:=eq_true q108
           go_wp2
           go_ret
           exact ⟨by first | rfl | (simp;done) | (simp [*];done),by repeat (first | exact Drawn0.refl _ | apply Drawn0.step)⟩
          ·rw [if_neg c10] at H
           have c10b0 : decide (60 < (((rd_T67 l0 x3_2).f3).size : Int)) = false:=decide_eq_false c10
           have c10b1 : decide (60 < ((rd_T67 l0 x3_2).f3).size) = false:=decide_eq_false (by omega)
           clear c10
           have H':=Aside0.mk H
           clear H
           have p106 : 0 ≤ (x3_2 : Int):=of_decide_eq_true (by first | (with_reducible assumption) | assumption)
           have q106 : x3_2 < (l0.length : Int):=of_decide_eq_true (by first | (with_reducible assumption) | assumption)
           obtain ⟨ad106,e106,hx106_0,hx106_1,hx106_2,hx106_3⟩:=at_T67 HR0.out x3_2 p106 q106
           cases e106
           replace p106:=eq_true p106
           replace q106:=eq_true q106
           have p107 : 0 ≤ (x3_2 : Int):=of_decide_eq_true (by first | (with_reducible assumption) | assumption)
           have q107 : x3_2 < (l0.length : Int):=of_decide_eq_true (by first | (with_reducible assumption) | assumption)
           obtain ⟨ad107,e107,hx107_0,hx107_1,hx107_2,hx107_3⟩:=at_T67 HR0.out x3_2 p107 q107
           obtain rfl : ad106 = ad107:=(by injection e107)
           replace p107:=eq_true p107
           replace q107:=eq_true q107
           have p108 : 0 ≤ (x3_2 : Int):=of_decide_eq_true (by first | (with_reducible assumption) | assumption)
           have q108 : x3_2 < (l0.length : Int):=of_decide_eq_true (by first | (with_reducible assumption) | assumption)
           obtain ⟨ad108,e108,hx108_0,hx108_1,hx108_2,hx108_3⟩:=at_T67 HR0.out x3_2 p108 q108
           obtain rfl : ad106 = ad108:=(by injection e108)
           replace p108:=eq_true p108
           replace q108:=eq_true q108
           go_wp2
           go_roundg k2
           case measure => have:=HJ1.out;have:=HK2.out;omega
           case rel => exact ⟨(wrap64 (x3_2 + 1)),(by first | rfl | (simp;done) | (simp [*];done)),H',⟨by have:=HJ1.out;have:=HK2.out;omega⟩,by repeat (first | exact Drawn0.refl _ | apply Drawn0.step)⟩
       ·rw [if_neg c7] at H
        exact absurd H (by simp)
      ·rw [if_neg c6] at H
       have c6b0 : decide (x3_2 < (l0.length : Int)) = false:=decide_eq_false c6
       clear c6
       obtain rfl:=Option.some.inj H
       go_wp2
       go_ret
       exact ⟨by first | rfl | (simp;done) | (simp [*];done),by repeat (first | exact Drawn0.refl _ | apply Drawn0.step)⟩

end Go.Proofs.Ytnmmdeonkpfccaa.Pr
namespace Go.Proofs.Ytnmmdeonkpfccaa.Pr
open Go.RowKit Go.Proofs.YtnmmdeonkpfccaaW.PrintWords Go.Proofs.YtnmmdeonkpfccaaW.PrintLast Go.Proofs.YtnmmdeonkpfccaaW.PrintMore
attribute [local go_sem] max2_int min2_int max_two min_two max_three min_three max_four min_four
set_option linter.unusedVariables false
set_option linter.unusedSimpArgs false

/-! ### metrolablaw53_few: function 9 -/
def metrolablaw53_few.f (k : Nat) (l0 : List (S51)) (a1 : ByteArray) : Option (Bool):=(metrolablaw53_own.f k l0).bind fun t109 => ((metrolabref53_Few.f k t109).bind fun t112 => (if t112 = true then (some (decide ((a1.size : Int) ≤ 60))) else (some false)))
theorem metrolablaw53_few.mono : ∀ a0 a1 k,LeO (metrolablaw53_few.f k a0 a1) (metrolablaw53_few.f (k + 1) a0 a1):=by
 intro a0 a1 k
 unfold metrolablaw53_few.f
 repeat' first
   | (with_reducible exact metrolablaw53_own.mono _ _)
   | (with_reducible exact metrolabref53_Few.mono _ _)
   | (with_reducible exact LeO.refl _)
   | (with_reducible exact LeO.none _)
   | (with_reducible refine LeO.ite ?_ ?_)
   | (with_reducible refine LeO.bind ?_ (fun _ => ?_))
   | exact metrolablaw53_own.mono _ _
   | exact metrolabref53_Few.mono _ _
   | exact LeO.none _
   | refine LeO.ite ?_ ?_
   | refine LeO.bind ?_ (fun _ => ?_)
set_option maxHeartbeats 8000000 in
set_option maxRecDepth 100000 in
theorem metrolablaw53_few.calls (k : Nat) (A0 : Option Addr) (c0 : Nat) (l0 : List (S51)) (a1 : ByteArray) (r : Bool) (w : World) (hr0 : Kd.C k51 w A0 l0.length l0) (hc0 : l0.length ≤ c0) (h : metrolablaw53_few.f k l0 a1 = some r) :
  Calls Try.prog 9 #[.slice A0 l0.length c0,.string a1] w fun e w' => e = .returned (.bool r) ∧ Below w.heap.size w w':=by
 have HR0:=Aside0.mk hr0
 have HC0:=Aside0.mk hc0
 clear hr0 hc0
 have HB:=Aside0.mk (Below.refl w.heap.size w)
 have H : ((metrolablaw53_own.f k l0).bind fun t109 => ((metrolabref53_Few.f k t109).bind fun t112 => (if t112 = true then (some (decide ((a1.size : Int) ≤ 60))) else (some false)))) = some r:=h
 clear h
 replace H:=Option.bind_eq_some_iff.mp H
 obtain ⟨t109,A30,H⟩:=H
 replace H : ((metrolabref53_Few.f k t109).bind fun t112 => (if t112 = true then (some (decide ((a1.size : Int) ≤ 60))) else (some false))) = some r:=H
 have A3:=Aside0.mk A30
 clear A30
 replace H:=Option.bind_eq_some_iff.mp H
 obtain ⟨t112,A40,H⟩:=H
 replace H : (if t112 = true then (some (decide ((a1.size : Int) ≤ 60))) else (some false)) = some r:=H
 have A4:=Aside0.mk A40
 clear A40
 by_cases c5 : t112 = true
 ·subst c5
  have H1 : (some (decide ((a1.size : Int) ≤ 60))) = some r:=by rw [if_pos rfl] at H;exact H
  clear H
  have H:=H1
  clear H1
  obtain rfl:=Option.some.inj H
  go_enter Try.func9,Try.ntmps9
  go_wp2_with (first | ((with_reducible refine gate_callee (f:=13) rfl ?_);refine goesL_ (some 6) rfl rfl Try.func13 (by kernel_rfl) rfl #[.slice A0 l0.length c0] rfl (by (try simp only [List.map_toArray,List.map_cons,List.map_nil]);first | done | rfl | (simp only [List.length_drop,List.length_take];rfl)) ?_;(with_reducible refine (metrolablaw53_own.calls k _ _ l0 t109 _ ?side1 ?side2 A3.out).mono ?_);(case side1 => repeat (first | exact HR0.out | (with_reducible refine Kd.C_alloc ?_ _) | (with_reducible refine Kd.C_drewN ?_ _) | (with_reducible refine Kd.C_drew ?_)));(case side2 => exact HC0.out);rintro e w6 ⟨v110,rfl,ho0,hb⟩;refine ⟨_,rfl,?_⟩;have n0_:=Aside0.mk (Kd.R_lower ho0 (below_size (by repeat (first | (with_reducible first | exact HB.out | apply below_alloc | apply pw_below_drewN | apply below_drew1) | exact HB.out))));have n1_:=Aside0.mk (below_step (by repeat (first | (with_reducible first | exact HB.out | apply below_alloc | apply pw_below_drewN | apply below_drew1) | exact HB.out)) hb);clear HB;have HO111:=n0_;have HB:=n1_;clear n0_ n1_;(try clear hb);(try clear hb2);(try clear hk);(try clear hi);(try clear ho0);obtain ⟨Ao7,co7,eo7⟩:=Kd.R_slice HO111.out;subst eo7) | ((with_reducible refine gate_callee (f:=36) rfl ?_);refine goesL_ (some 7) rfl rfl Try.func36 (by kernel_rfl) rfl #[.slice Ao7 t109.length co7] rfl (by (try simp only [List.map_toArray,List.map_cons,List.map_nil]);first | done | rfl | (simp only [List.length_drop,List.length_take];rfl)) ?_;(with_reducible refine (metrolabref53_Few.calls k _ _ t109 true _ ?side1 ?side2 A4.out).mono ?_);(case side1 => repeat (first | exact (Kd.R_reads' HO111.out).2.2 | (with_reducible refine Kd.C_alloc ?_ _) | (with_reducible refine Kd.C_drewN ?_ _) | (with_reducible refine Kd.C_drew ?_)));(case side2 => exact (Kd.R_reads' HO111.out).2.1);rintro e w' ⟨rfl,⟨nd,rfl⟩⟩;refine ⟨_,rfl,?_⟩))
  go_ret
  exact ⟨by first | rfl | (simp [errW_none,errW_some] <;> rfl) | (simp [*,errW_none,errW_some] <;> rfl),by repeat (first | (with_reducible first | exact HB.out | apply below_alloc | apply pw_below_drewN | apply below_drew1) | exact HB.out)⟩
 ·replace c5:=Bool.eq_false_iff.mpr c5
  subst c5
  have H1 : (some false) = some r:=by rw [if_neg (show ¬ (false = true) by decide)] at H;exact H
  clear H
  have H:=H1
  clear H1
  obtain rfl:=Option.some.inj H
  go_enter Try.func9,Try.ntmps9
  go_wp2_with (first | ((with_reducible refine gate_callee (f:=13) rfl ?_);refine goesL_ (some 6) rfl rfl Try.func13 (by kernel_rfl) rfl #[.slice A0 l0.length c0] rfl (by (try simp only [List.map_toArray,List.map_cons,List.map_nil]);first | done | rfl | (simp only [List.length_drop,List.length_take];rfl)) ?_;(with_reducible refine (metrolablaw53_own.calls k _ _ l0 t109 _ ?side1 ?side2 A3.out).mono ?_);(case side1 => repeat (first | exact HR0.out | (with_reducible refine Kd.C_alloc ?_ _) | (with_reducible refine Kd.C_drewN ?_ _) | (with_reducible refine Kd.C_drew ?_)));(case side2 => exact HC0.out);rintro e w8 ⟨v110,rfl,ho0,hb⟩;refine ⟨_,rfl,?_⟩;have n0_:=Aside0.mk (Kd.R_lower ho0 (below_size (by repeat (first | (with_reducible first | exact HB.out | apply below_alloc | apply pw_below_drewN | apply below_drew1) | exact HB.out))));have n1_:=Aside0.mk (below_step (by repeat (first | (with_reducible first | exact HB.out | apply below_alloc | apply pw_below_drewN | apply below_drew1) | exact HB.out)) hb);clear HB;have HO111:=n0_;have HB:=n1_;clear n0_ n1_;(try clear hb);(try clear hb2);(try clear hk);(try clear hi);(try clear ho0);obtain ⟨Ao9,co9,eo9⟩:=Kd.R_slice HO111.out;subst eo9) | ((with_reducible refine gate_callee (f:=36) rfl ?_);refine goesL_ (some 7) rfl rfl Try.func36 (by kernel_rfl) rfl #[.slice Ao9 t109.length co9] rfl (by (try simp only [List.map_toArray,List.map_cons,List.map_nil]);first | done | rfl | (simp only [List.length_drop,List.length_take];rfl)) ?_;(with_reducible refine (metrolabref53_Few.calls k _ _ t109 false _ ?side1 ?side2 A4.out).mono ?_);(case side1 => repeat (first | exact (Kd.R_reads' HO111.out).2.2 | (with_reducible refine Kd.C_alloc ?_ _) | (with_reducible refine Kd.C_drewN ?_ _) | (with_reducible refine Kd.C_drew ?_)));(case side2 => exact (Kd.R_reads' HO111.out).2.1);rintro e w' ⟨rfl,⟨nd,rfl⟩⟩;refine ⟨_,rfl,?_⟩))
  go_ret
  exact ⟨by first | rfl | (simp [errW_none,errW_some] <;> rfl) | (simp [*,errW_none,errW_some] <;> rfl),by repeat (first | (with_reducible first | exact HB.out | apply below_alloc | apply pw_below_drewN | apply below_drew1) | exact HB.out)⟩

end Go.Proofs.Ytnmmdeonkpfccaa.Pr
namespace Go.Proofs.Ytnmmdeonkpfccaa.Pr
open Go.RowKit Go.Proofs.YtnmmdeonkpfccaaW.PrintWords Go.Proofs.YtnmmdeonkpfccaaW.PrintLast Go.Proofs.YtnmmdeonkpfccaaW.PrintMore
attribute [local go_sem] max2_int min2_int max_two min_two max_three min_three max_four min_four
set_option linter.unusedVariables false
set_option linter.unusedSimpArgs false

/-! ### metrolabref17_letter: function 59 -/
def metrolabref17_letter.f (a0 : Int) : Option (Bool):=if a0 ≥ 97 then (if a0 ≤ 122 then (some true) else (if a0 ≥ 65 then (some (decide (a0 ≤ 90))) else (some false))) else (if a0 ≥ 65 then (some (decide (a0 ≤ 90))) else (some false))
set_option maxHeartbeats 8000000 in
set_option maxRecDepth 100000 in
theorem metrolabref17_letter.calls (a0 : Int) (r : Bool) (w : World) (h : metrolabref17_letter.f a0 = some r) :
  Calls Try.prog 59 #[.int .u8 a0] w fun e w' => e = .returned (.bool r) ∧ Drawn0 w w':=by
 have H : (if a0 ≥ 97 then (if a0 ≤ 122 then (some true) else (if a0 ≥ 65 then (some (decide (a0 ≤ 90))) else (some false))) else (if a0 ≥ 65 then (some (decide (a0 ≤ 90))) else (some false))) = some r:=h
 clear h
 by_cases c2 : a0 ≥ 97
 ·rw [if_pos c2] at H
  have c2b0 : decide (97 ≤ a0) = true:=decide_eq_true c2
  clear c2
  by_cases c3 : a0 ≤ 122
  ·rw [if_pos c3] at H
   have c3b0 : decide (a0 ≤ 122) = true:=decide_eq_true c3
   clear c3
   obtain rfl:=Option.some.inj H
   go_enter Try.func59,Try.ntmps59
   go_wp2
   go_ret
   exact ⟨by first | rfl | (simp;done) | (simp [*];done),by repeat (first | exact Drawn0.refl _ | apply Drawn0.step)⟩
  ·rw [if_neg c3] at H
   have c3b0 : decide (a0 ≤ 122) = false:=decide_eq_false c3
   clear c3
   by_cases c4 : a0 ≥ 65
   ·rw [if_pos c4] at H
    have c4b0 : decide (65 ≤ a0) = true:=decide_eq_true c4
    clear c4
    obtain rfl:=Option.some.inj H
    go_enter Try.func59,Try.ntmps59
    go_wp2
    go_ret
    exact ⟨by first | rfl | (simp;done) | (simp [*];done),by repeat (first | exact Drawn0.refl _ | apply Drawn0.step)⟩
   ·rw [if_neg c4] at H
    have c4b0 : decide (65 ≤ a0) = false:=decide_eq_false c4
    clear c4
    obtain rfl:=Option.some.inj H
    go_enter Try.func59,Try.ntmps59
    go_wp2
    go_ret
    exact ⟨by first | rfl | (simp;done) | (simp [*];done),by repeat (first | exact Drawn0.refl _ | apply Drawn0.step)⟩
 ·rw [if_neg c2] at H
  have c2b0 : decide (97 ≤ a0) = false:=decide_eq_false c2
  clear c2
  by_cases c5 : a0 ≥ 65
  ·rw [if_pos c5] at H
   have c5b0 : decide (65 ≤ a0) = true:=decide_eq_true c5
   clear c5
   obtain rfl:=Option.some.inj H
   go_enter Try.func59,Try.ntmps59
   go_wp2
   go_ret
   exact ⟨by first | rfl | (simp;done) | (simp [*];done),by repeat (first | exact Drawn0.refl _ | apply Drawn0.step)⟩
  ·rw [if_neg c5] at H
   have c5b0 : decide (65 ≤ a0) = false:=decide_eq_false c5
   clear c5
   obtain rfl:=Option.some.inj H
   go_enter Try.func59,Try.ntmps59
   go_wp2
   go_ret
   exact ⟨by first | rfl | (simp;done) | (simp [*];done),by repeat (first | exact Drawn0.refl _ | apply Drawn0.step)⟩

end Go.Proofs.Ytnmmdeonkpfccaa.Pr
namespace Go.Proofs.Ytnmmdeonkpfccaa.Pr
open Go.RowKit Go.Proofs.YtnmmdeonkpfccaaW.PrintWords Go.Proofs.YtnmmdeonkpfccaaW.PrintLast Go.Proofs.YtnmmdeonkpfccaaW.PrintMore
attribute [local go_sem] max2_int min2_int max_two min_two max_three min_three max_four min_four
set_option linter.unusedVariables false
set_option linter.unusedSimpArgs false

/-! ### metrolabref17_Name: function 32 -/
mutual
def metrolabref17_Name.j0 : Nat → ByteArray → Bool → Option (Int)
 | 0,_,_ => none
 | k + 1,x0,x15 => if x15 = true then (some 3) else (metrolabref17_Name.l0 k x0 0)
def metrolabref17_Name.l0 : Nat → ByteArray → Int → Option (Int)
 | 0,_,_ => none
 | k + 1,x0,x3 => if x3 < (x0.size : Int) then (if 0 ≤ x3 then ((metrolabref17_letter.f (bt x0 x3)).bind fun t114 => (if t114 = true then (metrolabref17_Name.l0 k x0 (wrap64 (x3 + 1))) else (if (bt x0 x3) < 48 then (some 3) else (if (bt x0 x3) > 57 then (some 3) else (metrolabref17_Name.l0 k x0 (wrap64 (x3 + 1))))))) else (none)) else (some 0)
end
def metrolabref17_Name.f (k : Nat) (a0 : ByteArray) : Option (Int):=if (a0.size : Int) > 24 then (some 17) else (if (a0.size : Int) = 0 then (metrolabref17_Name.j0 k a0 true) else (if 0 < (a0.size : Int) then ((metrolabref17_letter.f (bt a0 0)).bind fun t113 => (metrolabref17_Name.j0 k a0 (!t113))) else (none)))
theorem metrolabref17_Name.mono_l : ∀ k,(∀ y0 y1,LeO (metrolabref17_Name.j0 k y0 y1) (metrolabref17_Name.j0 (k + 1) y0 y1)) ∧ (∀ y0 y1,LeO (metrolabref17_Name.l0 k y0 y1) (metrolabref17_Name.l0 (k + 1) y0 y1))
 | 0 => ⟨fun _ _ r h => by simp [metrolabref17_Name.j0] at h,fun _ _ r h => by simp [metrolabref17_Name.l0] at h⟩
 | k + 1 => by
  obtain ⟨ih0,ih1⟩:=metrolabref17_Name.mono_l k
  refine ⟨?_,?_⟩
  ·intro y0 y1
   unfold metrolabref17_Name.j0
   repeat' first
   | (with_reducible exact ih0 _ _)
   | (with_reducible exact ih1 _ _)
   | (with_reducible exact LeO.refl _)
   | (with_reducible exact LeO.none _)
   | (with_reducible refine LeO.ite ?_ ?_)
   | (with_reducible refine LeO.bind ?_ (fun _ => ?_))
   | exact ih0 _ _
   | exact ih1 _ _
   | exact LeO.none _
   | refine LeO.ite ?_ ?_
   | refine LeO.bind ?_ (fun _ => ?_)
  ·intro y0 y1
   unfold metrolabref17_Name.l0
   repeat' first
   | (with_reducible exact ih0 _ _)
   | (with_reducible exact ih1 _ _)
   | (with_reducible exact LeO.refl _)
   | (with_reducible exact LeO.none _)
   | (with_reducible refine LeO.ite ?_ ?_)
   | (with_reducible refine LeO.bind ?_ (fun _ => ?_))
   | exact ih0 _ _
   | exact ih1 _ _
   | exact LeO.none _
   | refine LeO.ite ?_ ?_
   | refine LeO.bind ?_ (fun _ => ?_)
theorem metrolabref17_Name.mono : ∀ a0 k,LeO (metrolabref17_Name.f k a0) (metrolabref17_Name.f (k + 1) a0):=by
 intro a0 k
 obtain ⟨ih0,ih1⟩:=metrolabref17_Name.mono_l k
 unfold metrolabref17_Name.f
 repeat' first
   | (with_reducible exact ih0 _ _)
   | (with_reducible exact ih1 _ _)
   | (with_reducible exact LeO.refl _)
   | (with_reducible exact LeO.none _)
   | (with_reducible refine LeO.ite ?_ ?_)
   | (with_reducible refine LeO.bind ?_ (fun _ => ?_))
   | exact ih0 _ _
   | exact ih1 _ _
   | exact LeO.none _
   | refine LeO.ite ?_ ?_
   | refine LeO.bind ?_ (fun _ => ?_)
set_option maxHeartbeats 8000000 in
set_option maxRecDepth 100000 in
theorem metrolabref17_Name.calls (k : Nat) (a0 : ByteArray) (r : Int) (w : World) (h : metrolabref17_Name.f k a0 = some r) :
  Calls Try.prog 32 #[.string a0] w fun e w' => e = .returned (.int .i64 r) ∧ Drawn0 w w':=by
 have H : (if (a0.size : Int) > 24 then (some 17) else (if (a0.size : Int) = 0 then (metrolabref17_Name.j0 k a0 true) else (if 0 < (a0.size : Int) then ((metrolabref17_letter.f (bt a0 0)).bind fun t113 => (metrolabref17_Name.j0 k a0 (!t113))) else (none)))) = some r:=h
 clear h
 by_cases c2 : (a0.size : Int) > 24
 ·rw [if_pos c2] at H
  have c2b0 : decide (24 < (a0.size : Int)) = true:=decide_eq_true c2
  have c2b1 : decide (24 < a0.size) = true:=decide_eq_true (by omega)
  clear c2
  obtain rfl:=Option.some.inj H
  go_enter Try.func32,Try.ntmps32
  go_wp2
  go_ret
  exact ⟨by first | rfl | (simp;done) | (simp [*];done),by repeat (first | exact Drawn0.refl _ | apply Drawn0.step)⟩
 ·rw [if_neg c2] at H
  have c2b0 : decide (24 < (a0.size : Int)) = false:=decide_eq_false c2
  have c2b1 : decide (24 < a0.size) = false:=decide_eq_false (by omega)
  clear c2
  have HC3:=Aside0.mk H
  clear H
  go_enter Try.func32,Try.ntmps32
  go_upto_region 3 with (fail)
  go_cut [15] (fun v15 wc => ∃ (kq : Nat) (x15_2 : Bool),v15 = .bool x15_2 ∧ Aside0 (metrolabref17_Name.j0 kq a0 x15_2 = some r) ∧ Aside0 (kq ≤ k) ∧ Drawn0 w wc)
  case first =>
   have H:=HC3.out
   clear HC3
   by_cases c4 : (a0.size : Int) = 0
   ·rw [if_pos c4] at H
    have c4b0 : ((a0.size : Int) == 0) = true:=beq_iff_eq.mpr c4
    have c4b1 : ((a0.size : Int) != 0) = false:=bne_eq_false_iff_eq.mpr c4
    clear c4
    (first | rw [c4b0] | (simp only [i64_w,i32_w];rw [c4b0]) | skip)
    have H':=Aside0.mk H
    clear H
    go_wp2
    go_meet
    case rel => exact ⟨_,(true),(by first | rfl | (simp;done) | (simp [*];done)),H',⟨by first | omega | exact Nat.le_refl _⟩,by repeat (first | exact Drawn0.refl _ | apply Drawn0.step)⟩
   ·rw [if_neg c4] at H
    have c4b0 : ((a0.size : Int) == 0) = false:=beq_eq_false_iff_ne.mpr c4
    have c4b1 : ((a0.size : Int) != 0) = true:=bne_iff_ne.mpr c4
    (first | rw [c4b0] | (simp only [i64_w,i32_w];rw [c4b0]) | skip)
    by_cases c5 : 0 < (a0.size : Int)
    ·rw [if_pos c5] at H
     have c5b0 : decide (0 < (a0.size : Int)) = true:=decide_eq_true c5
     have c5b1 : decide (0 < a0.size) = true:=decide_eq_true (by omega)
     clear c5
     replace H:=Option.bind_eq_some_iff.mp H
     obtain ⟨t113,A70,H⟩:=H
     replace H : (metrolabref17_Name.j0 k a0 (!t113)) = some r:=H
     have A7:=Aside0.mk A70
     clear A70
     have H':=Aside0.mk H
     clear H
     have p6 : 0 ≤ (0 : Int):=(by omega)
     have q6 : 0 < a0.size:=(by have : (0 : Int) < (a0.size : Int):=of_decide_eq_true (by first | (with_reducible assumption) | assumption);omega)
     have hx6 : ∀ h : 0 < a0.size,((a0[0]'h).toNat : Int) = bt a0 0:=bt_at a0 0
     clear p6
     have qi6 : (0 < (a0.size : Int)) = True:=eq_true (of_decide_eq_true (by first | (with_reducible assumption) | assumption))
     replace q6:=eq_true q6
     go_wp2_with (first | (go_at_call 59;(with_reducible refine (metrolabref17_letter.calls (bt a0 0) t113 _ A7.out).mono ?_);rintro e w' ⟨rfl,⟨nd,rfl⟩⟩))
     go_meet
     case rel => exact ⟨_,(!t113),(by first | rfl | (simp;done) | (simp [*];done)),H',⟨by first | omega | exact Nat.le_refl _⟩,by repeat (first | exact Drawn0.refl _ | apply Drawn0.step)⟩
    ·rw [if_neg c5] at H
     exact absurd H (by simp)
  case rest =>
   clear HC3
   try clear c2
   try clear c2b0
   try clear c2b1
   try clear p2
   try clear c3
   try clear c4
   try clear c4b0
   try clear c4b1
   try clear c5
   try clear c5b0
   try clear c5b1
   try clear p6
   try clear q6
   try clear hx6
   try clear qi6
   try clear p6
   try clear q6
   obtain ⟨kq,x15_2,rfl,HA,HJ2,⟨mc2,rfl⟩⟩:=hcut
   cases kq with
   | zero => exact absurd HA.out (by simp [metrolabref17_Name.j0])
   | succ kj2 =>
    have H:=HA.out
    clear HA
    simp only [metrolabref17_Name.j0] at H
    by_cases c8 : x15_2 = true
    ·subst c8
     have H1 : (some 3) = some r:=by rw [if_pos rfl] at H;exact H
     clear H
     have H:=H1
     clear H1
     obtain rfl:=Option.some.inj H
     go_wp2
     go_ret
     exact ⟨by first | rfl | (simp;done) | (simp [*];done),by repeat (first | exact Drawn0.refl _ | apply Drawn0.step)⟩
    ·replace c8:=Bool.eq_false_iff.mpr c8
     subst c8
     have H1 : (metrolabref17_Name.l0 kj2 a0 0) = some r:=by rw [if_neg (show ¬ (false = true) by decide)] at H;exact H
     clear H
     have H:=H1
     clear H1
     have H':=Aside0.mk H
     clear H
     go_wp2
     go_loopg [3] kj2 (fun kq v3 w' => ∃ (x3_2 : Int),v3 = .int .i64 x3_2 ∧ Aside0 (metrolabref17_Name.l0 kq a0 x3_2 = some r) ∧ Aside0 (kq ≤ kj2) ∧ Drawn0 w w')
     case atStart => exact ⟨(0),(by first | rfl | (simp;done) | (simp [*];done)),H',⟨Nat.le_refl _⟩,by repeat (first | exact Drawn0.refl _ | apply Drawn0.step)⟩
     case round =>
      clear H'
      try clear c2
      try clear c2b0
      try clear c2b1
      try clear p2
      try clear c3
      try clear c4
      try clear c4b0
      try clear c4b1
      try clear c5
      try clear c5b0
      try clear c5b1
      try clear p6
      try clear q6
      try clear hx6
      try clear qi6
      try clear c8
      try clear p2
      try clear p6
      try clear q6
      obtain ⟨x3_2,rfl,HA,HK2,⟨m2,rfl⟩⟩:=hrel
      cases gk with
      | zero => exact absurd HA.out (by simp [metrolabref17_Name.l0])
      | succ k2 =>
       have H:=HA.out
       clear HA
       simp only [metrolabref17_Name.l0] at H
       by_cases c9 : x3_2 < (a0.size : Int)
       ·rw [if_pos c9] at H
        have c9b0 : decide (x3_2 < (a0.size : Int)) = true:=decide_eq_true c9
        clear c9
        by_cases c10 : 0 ≤ x3_2
        ·rw [if_pos c10] at H
         have c10b0 : decide (0 ≤ x3_2) = true:=decide_eq_true c10
         clear c10
         replace H:=Option.bind_eq_some_iff.mp H
         obtain ⟨t114,A120,H⟩:=H
         replace H : (if t114 = true then (metrolabref17_Name.l0 k2 a0 (wrap64 (x3_2 + 1))) else (if (bt a0 x3_2) < 48 then (some 3) else (if (bt a0 x3_2) > 57 then (some 3) else (metrolabref17_Name.l0 k2 a0 (wrap64 (x3_2 + 1)))))) = some r:=H
         have A12:=Aside0.mk A120
         clear A120
         by_cases c13 : t114 = true
         ·subst c13
          have H1 : (metrolabref17_Name.l0 k2 a0 (wrap64 (x3_2 + 1))) = some r:=by rw [if_pos rfl] at H;exact H
          clear H
          have H:=H1
          clear H1
          have H':=Aside0.mk H
          clear H
          have p11 : 0 ≤ (x3_2 : Int):=of_decide_eq_true (by first | (with_reducible assumption) | assumption)
          have q11 : x3_2 < (a0.size : Int):=of_decide_eq_true (by first | (with_reducible assumption) | assumption)
          have hx11:=bt_at a0 x3_2
          replace p11:=eq_true p11
          replace q11:=eq_true q11
          go_wp2_with (first | ((with_reducible refine gate_callee (f:=59) rfl ?_);refine goesL_ (some 25) rfl rfl Try.func59 (by kernel_rfl) rfl #[.int .u8 (bt a0 x3_2)] rfl (by (try simp only [List.map_toArray,List.map_cons,List.map_nil]);first | done | rfl | (simp only [List.length_drop,List.length_take];rfl)) ?_;(with_reducible refine (metrolabref17_letter.calls (bt a0 x3_2) true _ A12.out).mono ?_);rintro e w' ⟨rfl,⟨nd,rfl⟩⟩;refine ⟨_,rfl,?_⟩))
          go_roundg k2
          case measure => have:=HJ2.out;have:=HK2.out;omega
          case rel => exact ⟨(wrap64 (x3_2 + 1)),(by first | rfl | (simp;done) | (simp [*];done)),H',⟨by have:=HJ2.out;have:=HK2.out;omega⟩,by repeat (first | exact Drawn0.refl _ | apply Drawn0.step)⟩
         ·replace c13:=Bool.eq_false_iff.mpr c13
          subst c13
          have H1 : (if (bt a0 x3_2) < 48 then (some 3) else (if (bt a0 x3_2) > 57 then (some 3) else (metrolabref17_Name.l0 k2 a0 (wrap64 (x3_2 + 1))))) = some r:=by rw [if_neg (show ¬ (false = true) by decide)] at H;exact H
          clear H
          have H:=H1
          clear H1
          by_cases c15 : (bt a0 x3_2) < 48
          ·rw [if_pos c15] at H
           have c15b0 : decide ((bt a0 x3_2) < 48) = true:=decide_eq_true c15
           clear c15
           obtain rfl:=Option.some.inj H
           have p11 : 0 ≤ (x3_2 : Int):=of_decide_eq_true (by first | (with_reducible assumption) | assumption)
           have q11 : x3_2 < (a0.size : Int):=of_decide_eq_true (by first | (with_reducible assumption) | assumption)
           have hx11:=bt_at a0 x3_2
           replace p11:=eq_true p11
           replace q11:=eq_true q11
           go_wp2_with (first | ((with_reducible refine gate_callee (f:=59) rfl ?_);refine goesL_ (some 25) rfl rfl Try.func59 (by kernel_rfl) rfl #[.int .u8 (bt a0 x3_2)] rfl (by (try simp only [List.map_toArray,List.map_cons,List.map_nil]);first | done | rfl | (simp only [List.length_drop,List.length_take];rfl)) ?_;(with_reducible refine (metrolabref17_letter.calls (bt a0 x3_2) false _ A12.out).mono ?_);rintro e w' ⟨rfl,⟨nd,rfl⟩⟩;refine ⟨_,rfl,?_⟩;have p14 : 0 ≤ (x3_2 : Int):=of_decide_eq_true (by first | (with_reducible assumption) | assumption);have q14 : x3_2 < (a0.size : Int):=of_decide_eq_true (by first | (with_reducible assumption) | assumption);have hx14:=bt_at a0 x3_2;replace p14:=eq_true p14;replace q14:=eq_true q14))
           go_ret
           exact ⟨by first | rfl | (simp;done) | (simp [*];done),by repeat (first | exact Drawn0.refl _ | apply Drawn0.step)⟩
          ·rw [if_neg c15] at H
           have c15b0 : decide ((bt a0 x3_2) < 48) = false:=decide_eq_false c15
           clear c15
           by_cases c17 : (bt a0 x3_2) > 57
           ·rw [if_pos c17] at H
            have c17b0 : decide (57 < (bt a0 x3_2)) = true:=decide_eq_true c17
            clear c17
            obtain rfl:=Option.some.inj H
            have p11 : 0 ≤ (x3_2 : Int):=of_decide_eq_true (by first | (with_reducible assumption) | assumption)
            have q11 : x3_2 < (a0.size : Int):=of_decide_eq_true (by first | (with_reducible assumption) | assumption)
            have hx11:=bt_at a0 x3_2
            replace p11:=eq_true p11
            replace q11:=eq_true q11
            go_wp2_with (first | ((with_reducible refine gate_callee (f:=59) rfl ?_);refine goesL_ (some 25) rfl rfl Try.func59 (by kernel_rfl) rfl #[.int .u8 (bt a0 x3_2)] rfl (by (try simp only [List.map_toArray,List.map_cons,List.map_nil]);first | done | rfl | (simp only [List.length_drop,List.length_take];rfl)) ?_;(with_reducible refine (metrolabref17_letter.calls (bt a0 x3_2) false _ A12.out).mono ?_);rintro e w' ⟨rfl,⟨nd,rfl⟩⟩;refine ⟨_,rfl,?_⟩;have p14 : 0 ≤ (x3_2 : Int):=of_decide_eq_true (by first | (with_reducible assumption) | assumption);have q14 : x3_2 < (a0.size : Int):=of_decide_eq_true (by first | (with_reducible assumption) | assumption);have hx14:=bt_at a0 x3_2;replace p14:=eq_true p14;replace q14:=eq_true q14;have p16 : 0 ≤ (x3_2 : Int):=of_decide_eq_true (by first | (with_reducible assumption) | assumption);have q16 : x3_2 < (a0.size : Int):=of_decide_eq_true (by first | (with_reducible assumption) | assumption);have hx16:=bt_at a0 x3_2;replace p16:=eq_true p16;replace q16:=eq_true q16))
            go_ret
            exact ⟨by first | rfl | (simp;done) | (simp [*];done),by repeat (first | exact Drawn0.refl _ | apply Drawn0.step)⟩
           ·rw [if_neg c17] at H
            have c17b0 : decide (57 < (bt a0 x3_2)) = false:=decide_eq_false c17
            clear c17
            have H':=Aside0.mk H
            clear H
            have p11 : 0 ≤ (x3_2 : Int):=of_decide_eq_true (by first | (with_reducible assumption) | assumption)
            have q11 : x3_2 < (a0.size : Int):=of_decide_eq_true (by first | (with_reducible assumption) | assumption)
            have hx11:=bt_at a0 x3_2
            replace p11:=eq_true p11
            replace q11:=eq_true q11
            go_wp2_with (first | ((with_reducible refine gate_callee (f:=59) rfl ?_);refine goesL_ (some 25) rfl rfl Try.func59 (by kernel_rfl) rfl #[.int .u8 (bt a0 x3_2)] rfl (by (try simp only [List.map_toArray,List.map_cons,List.map_nil]);first | done | rfl | (simp only [List.length_drop,List.length_take];rfl)) ?_;(with_reducible refine (metrolabref17_letter.calls (bt a0 x3_2) false _ A12.out).mono ?_);rintro e w' ⟨rfl,⟨nd,rfl⟩⟩;refine ⟨_,rfl,?_⟩;have p14 : 0 ≤ (x3_2 : Int):=of_decide_eq_true (by first | (with_reducible assumption) | assumption);have q14 : x3_2 < (a0.size : Int):=of_decide_eq_true (by first | (with_reducible assumption) | assumption);have hx14:=bt_at a0 x3_2;replace p14:=eq_true p14;replace q14:=eq_true q14;have p16 : 0 ≤ (x3_2 : Int):=of_decide_eq_true (by first | (with_reducible assumption) | assumption);have q16 : x3_2 < (a0.size : Int):=of_decide_eq_true (by first | (with_reducible assumption) | assumption);have hx16:=bt_at a0 x3_2;replace p16:=eq_true p16;replace q16:=eq_true q16))
            go_roundg k2
            case measure => have:=HJ2.out;have:=HK2.out;omega
            case rel => exact ⟨(wrap64 (x3_2 + 1)),(by first | rfl | (simp;done) | (simp [*];done)),H',⟨by have:=HJ2.out;have:=HK2.out;omega⟩,by repeat (first | exact Drawn0.refl _ | apply Drawn0.step)⟩
        ·rw [if_neg c10] at H
         exact absurd H (by simp)
       ·rw [if_neg c9] at H
        have c9b0 : decide (x3_2 < (a0.size : Int)) = false:=decide_eq_false c9
        clear c9
        obtain rfl:=Option.some.inj H
        go_wp2
        go_ret
        exact ⟨by first | rfl | (simp;done) | (simp [*];done),by repeat (first | exact Drawn0.refl _ | apply Drawn0.step)⟩

end Go.Proofs.Ytnmmdeonkpfccaa.Pr
namespace Go.Proofs.Ytnmmdeonkpfccaa.Pr
open Go.RowKit Go.Proofs.YtnmmdeonkpfccaaW.PrintWords Go.Proofs.YtnmmdeonkpfccaaW.PrintLast Go.Proofs.YtnmmdeonkpfccaaW.PrintMore
attribute [local go_sem] max2_int min2_int max_two min_two max_three min_three max_four min_four
set_option linter.unusedVariables false
set_option linter.unusedSimpArgs false

/-! ### metrolabref53_named: function 69 -/
def metrolabref53_named.f (k : Nat) (a0 : ByteArray) (a1 : Bool) : Option (Int):=if a1 = true then ((metrolabref17_Name.f k a0).bind fun t115 => (some t115)) else (some 0)
theorem metrolabref53_named.mono : ∀ a0 a1 k,LeO (metrolabref53_named.f k a0 a1) (metrolabref53_named.f (k + 1) a0 a1):=by
 intro a0 a1 k
 unfold metrolabref53_named.f
 repeat' first
   | (with_reducible exact metrolabref17_Name.mono _ _)
   | (with_reducible exact LeO.refl _)
   | (with_reducible exact LeO.none _)
   | (with_reducible refine LeO.ite ?_ ?_)
   | (with_reducible refine LeO.bind ?_ (fun _ => ?_))
   | exact metrolabref17_Name.mono _ _
   | exact LeO.none _
   | refine LeO.ite ?_ ?_
   | refine LeO.bind ?_ (fun _ => ?_)
set_option maxHeartbeats 8000000 in
set_option maxRecDepth 100000 in
theorem metrolabref53_named.calls (k : Nat) (a0 : ByteArray) (a1 : Bool) (r : Int) (w : World) (h : metrolabref53_named.f k a0 a1 = some r) :
  Calls Try.prog 69 #[.string a0,.bool a1] w fun e w' => e = .returned (.int .i64 r) ∧ Drawn0 w w':=by
 have H : (if a1 = true then ((metrolabref17_Name.f k a0).bind fun t115 => (some t115)) else (some 0)) = some r:=h
 clear h
 by_cases c3 : a1 = true
 ·subst c3
  have H1 : ((metrolabref17_Name.f k a0).bind fun t115 => (some t115)) = some r:=by rw [if_pos rfl] at H;exact H
  clear H
  have H:=H1
  clear H1
  replace H:=Option.bind_eq_some_iff.mp H
  obtain ⟨t115,A40,H⟩:=H
  replace H : (some t115) = some r:=H
  have A4:=Aside0.mk A40
  clear A40
  obtain rfl:=Option.some.inj H
  go_enter Try.func69,Try.ntmps69
  go_wp2_with (first | ((with_reducible refine gate_callee (f:=32) rfl ?_);refine goesL_ (some 7) rfl rfl Try.func32 (by kernel_rfl) rfl #[.string a0] rfl (by (try simp only [List.map_toArray,List.map_cons,List.map_nil]);first | done | rfl | (simp only [List.length_drop,List.length_take];rfl)) ?_;(with_reducible refine (metrolabref17_Name.calls k a0 t115 _ A4.out).mono ?_);rintro e w' ⟨rfl,⟨nd,rfl⟩⟩;refine ⟨_,rfl,?_⟩))
  go_ret
  exact ⟨by first | rfl | (simp;done) | (simp [*];done),by repeat (first | exact Drawn0.refl _ | apply Drawn0.step)⟩
 ·replace c3:=Bool.eq_false_iff.mpr c3
  subst c3
  have H1 : (some 0) = some r:=by rw [if_neg (show ¬ (false = true) by decide)] at H;exact H
  clear H
  have H:=H1
  clear H1
  obtain rfl:=Option.some.inj H
  go_enter Try.func69,Try.ntmps69
  go_wp2
  go_ret
  exact ⟨by first | rfl | (simp;done) | (simp [*];done),by repeat (first | exact Drawn0.refl _ | apply Drawn0.step)⟩

end Go.Proofs.Ytnmmdeonkpfccaa.Pr
namespace Go.Proofs.Ytnmmdeonkpfccaa.Pr
open Go.RowKit Go.Proofs.YtnmmdeonkpfccaaW.PrintWords Go.Proofs.YtnmmdeonkpfccaaW.PrintLast Go.Proofs.YtnmmdeonkpfccaaW.PrintMore
attribute [local go_sem] max2_int min2_int max_two min_two max_three min_three max_four min_four
set_option linter.unusedVariables false
set_option linter.unusedSimpArgs false

/-! ### metrolabref53_form: function 44 -/
mutual
def metrolabref53_form.j0 : Nat → Bool → Int → ByteArray → ByteArray → ByteArray → Option (Int)
 | 0,_,_,_,_,_ => none
 | k + 1,x16,x117000,x117001,x117002,x117003 => if x16 = true then (some 1) else (if x117000 = 0 then (metrolabref53_form.j1 k (x117000 != 3) true (x117000 == 0) x117000 x117001 x117002 x117003) else (metrolabref53_form.j1 k (x117000 != 3) (x117000 == 3) (x117000 == 0) x117000 x117001 x117002 x117003))
def metrolabref53_form.j1 : Nat → Bool → Bool → Bool → Int → ByteArray → ByteArray → ByteArray → Option (Int)
 | 0,_,_,_,_,_,_,_ => none
 | k + 1,x3,x4,x5,x117000,x117001,x117002,x117003 => (metrolabref53_named.f k x117001 x3).bind fun t117 => (if t117 = 0 then ((metrolabref53_named.f k x117002 x4).bind fun t118 => (if t118 = 0 then ((metrolabref53_named.f k x117003 x5).bind fun t119 => (if t119 = 0 then (if x3 = true then (if x4 = true then (if x5 = true then (some 0) else (if x117003.toList = ([] : List UInt8) then (some 0) else (some 3))) else (if x117002.toList = ([] : List UInt8) then (if x5 = true then (some 0) else (if x117003.toList = ([] : List UInt8) then (some 0) else (some 3))) else (some 3))) else (if x117001.toList = ([] : List UInt8) then (if x4 = true then (if x5 = true then (some 0) else (if x117003.toList = ([] : List UInt8) then (some 0) else (some 3))) else (if x117002.toList = ([] : List UInt8) then (if x5 = true then (some 0) else (if x117003.toList = ([] : List UInt8) then (some 0) else (some 3))) else (some 3))) else (some 3))) else (some t119))) else (some t118))) else (some t117))
end
def metrolabref53_form.f (k : Nat) (a0_0 : Int) (a0_1 : ByteArray) (a0_2 : ByteArray) (a0_3 : ByteArray) : Option (Int):=if a0_0 < 0 then (metrolabref53_form.j0 k true a0_0 a0_1 a0_2 a0_3) else (metrolabref53_form.j0 k (decide (a0_0 > 3)) a0_0 a0_1 a0_2 a0_3)
theorem metrolabref53_form.mono_l : ∀ k,(∀ y0 y1 y2 y3 y4,LeO (metrolabref53_form.j0 k y0 y1 y2 y3 y4) (metrolabref53_form.j0 (k + 1) y0 y1 y2 y3 y4)) ∧ (∀ y0 y1 y2 y3 y4 y5 y6,LeO (metrolabref53_form.j1 k y0 y1 y2 y3 y4 y5 y6) (metrolabref53_form.j1 (k + 1) y0 y1 y2 y3 y4 y5 y6))
 | 0 => ⟨fun _ _ _ _ _ r h => by simp [metrolabref53_form.j0] at h,fun _ _ _ _ _ _ _ r h => by simp [metrolabref53_form.j1] at h⟩
 | k + 1 => by
  obtain ⟨ih0,ih1⟩:=metrolabref53_form.mono_l k
  refine ⟨?_,?_⟩
  ·intro y0 y1 y2 y3 y4
   unfold metrolabref53_form.j0
   repeat' first
   | (with_reducible exact ih0 _ _ _ _ _)
   | (with_reducible exact ih1 _ _ _ _ _ _ _)
   | (with_reducible exact metrolabref53_named.mono _ _ _)
   | (with_reducible exact LeO.refl _)
   | (with_reducible exact LeO.none _)
   | (with_reducible refine LeO.ite ?_ ?_)
   | (with_reducible refine LeO.bind ?_ (fun _ => ?_))
   | exact ih0 _ _ _ _ _
   | exact ih1 _ _ _ _ _ _ _
   | exact metrolabref53_named.mono _ _ _
   | exact LeO.none _
   | refine LeO.ite ?_ ?_
   | refine LeO.bind ?_ (fun _ => ?_)
  ·intro y0 y1 y2 y3 y4 y5 y6
   unfold metrolabref53_form.j1
   repeat' first
   | (with_reducible exact ih0 _ _ _ _ _)
   | (with_reducible exact ih1 _ _ _ _ _ _ _)
   | (with_reducible exact metrolabref53_named.mono _ _ _)
   | (with_reducible exact LeO.refl _)
   | (with_reducible exact LeO.none _)
   | (with_reducible refine LeO.ite ?_ ?_)
   | (with_reducible refine LeO.bind ?_ (fun _ => ?_))
   | exact ih0 _ _ _ _ _
   | exact ih1 _ _ _ _ _ _ _
   | exact metrolabref53_named.mono _ _ _
   | exact LeO.none _
   | refine LeO.ite ?_ ?_
   | refine LeO.bind ?_ (fun _ => ?_)
theorem metrolabref53_form.mono : ∀ a0 a1 a2 a3 k,LeO (metrolabref53_form.f k a0 a1 a2 a3) (metrolabref53_form.f (k + 1) a0 a1 a2 a3):=by
 intro a0 a1 a2 a3 k
 obtain ⟨ih0,ih1⟩:=metrolabref53_form.mono_l k
 unfold metrolabref53_form.f
 repeat' first
   | (with_reducible exact ih0 _ _ _ _ _)
   | (with_reducible exact ih1 _ _ _ _ _ _ _)
   | (with_reducible exact metrolabref53_named.mono _ _ _)
   | (with_reducible exact LeO.refl _)
   | (with_reducible exact LeO.none _)
   | (with_reducible refine LeO.ite ?_ ?_)
   | (with_reducible refine LeO.bind ?_ (fun _ => ?_))
   | exact ih0 _ _ _ _ _
   | exact ih1 _ _ _ _ _ _ _
   | exact metrolabref53_named.mono _ _ _
   | exact LeO.none _
   | refine LeO.ite ?_ ?_
   | refine LeO.bind ?_ (fun _ => ?_)
set_option maxHeartbeats 8000000 in
set_option maxRecDepth 100000 in
theorem metrolabref53_form.calls (k : Nat) (a0_0 : Int) (a0_1 : ByteArray) (a0_2 : ByteArray) (a0_3 : ByteArray) (r : Int) (w : World) (h : metrolabref53_form.f k a0_0 a0_1 a0_2 a0_3 = some r) :
  Calls Try.prog 44 #[.agg #[.int .i64 a0_0,.string a0_1,.string a0_2,.string a0_3]] w fun e w' => e = .returned (.int .i64 r) ∧ Below w.heap.size w w':=by
 have hu67:=Try.underlying67
 have HB:=Aside0.mk (Below.refl w.heap.size w)
 have H : (if a0_0 < 0 then (metrolabref53_form.j0 k true a0_0 a0_1 a0_2 a0_3) else (metrolabref53_form.j0 k (decide (a0_0 > 3)) a0_0 a0_1 a0_2 a0_3)) = some r:=h
 clear h
 have HC2:=Aside0.mk H
 clear H
 go_enter Try.func44,Try.ntmps44
 go_upto_region 1 with (first | ((with_reducible refine gate_dst (N:=1) rfl ?_);refine box_event ?hg (N:=1) ?hd (cs:=#[.int .i64 a0_0,.string a0_1,.string a0_2,.string a0_3]) (t:=67) ?hr ?_;(case hd => rfl);(case hg => rfl);(case hr => first | (go_simp;done) | (go_simp;rfl));intro gb116 hg w3 hbox hb;have n0_:=Aside0.mk (below_step (by repeat (first | (with_reducible first | exact HB.out | apply below_alloc | apply pw_below_drewN | apply below_drew1) | exact HB.out)) hb);have n1_:=Aside0.mk (hbox);have n2_:=Aside0.mk ((by rw [hg];exact (below_size (by repeat (first | (with_reducible first | exact HB.out | apply below_alloc | apply pw_below_drewN | apply below_drew1) | exact HB.out))) : w.heap.size ≤ gb116));have n3_:=Aside0.mk ((by rw [hg];exact (below_size (by repeat (first | (with_reducible first | exact HB.out | apply below_alloc | apply pw_below_drewN | apply below_drew1) | exact HB.out))) : w.heap.size ≤ gb116));clear HB;have HB:=n0_;have BK116:=n1_;have GW116:=n2_;have GE116:=n3_;clear n0_ n1_ n2_ n3_;clear hb hbox hg))
 repeat (go_quiet (first | ((with_reducible refine gate_dst (N:=1) rfl ?_);refine box_event ?hg (N:=1) ?hd (cs:=#[.int .i64 a0_0,.string a0_1,.string a0_2,.string a0_3]) (t:=67) ?hr ?_;(case hd => rfl);(case hg => rfl);(case hr => first | (go_simp;done) | (go_simp;rfl));intro gb116 hg w3 hbox hb;have n0_:=Aside0.mk (below_step (by repeat (first | (with_reducible first | exact HB.out | apply below_alloc | apply pw_below_drewN | apply below_drew1) | exact HB.out)) hb);have n1_:=Aside0.mk (hbox);have n2_:=Aside0.mk ((by rw [hg];exact (below_size (by repeat (first | (with_reducible first | exact HB.out | apply below_alloc | apply pw_below_drewN | apply below_drew1) | exact HB.out))) : w.heap.size ≤ gb116));have n3_:=Aside0.mk ((by rw [hg];exact (below_size (by repeat (first | (with_reducible first | exact HB.out | apply below_alloc | apply pw_below_drewN | apply below_drew1) | exact HB.out))) : w.heap.size ≤ gb116));clear HB;have HB:=n0_;have BK116:=n1_;have GW116:=n2_;have GE116:=n3_;clear n0_ n1_ n2_ n3_;clear hb hbox hg));go_upto_region 1 with (first | ((with_reducible refine gate_dst (N:=1) rfl ?_);refine box_event ?hg (N:=1) ?hd (cs:=#[.int .i64 a0_0,.string a0_1,.string a0_2,.string a0_3]) (t:=67) ?hr ?_;(case hd => rfl);(case hg => rfl);(case hr => first | (go_simp;done) | (go_simp;rfl));intro gb116 hg w3 hbox hb;have n0_:=Aside0.mk (below_step (by repeat (first | (with_reducible first | exact HB.out | apply below_alloc | apply pw_below_drewN | apply below_drew1) | exact HB.out)) hb);have n1_:=Aside0.mk (hbox);have n2_:=Aside0.mk ((by rw [hg];exact (below_size (by repeat (first | (with_reducible first | exact HB.out | apply below_alloc | apply pw_below_drewN | apply below_drew1) | exact HB.out))) : w.heap.size ≤ gb116));have n3_:=Aside0.mk ((by rw [hg];exact (below_size (by repeat (first | (with_reducible first | exact HB.out | apply below_alloc | apply pw_below_drewN | apply below_drew1) | exact HB.out))) : w.heap.size ≤ gb116));clear HB;have HB:=n0_;have BK116:=n1_;have GW116:=n2_;have GE116:=n3_;clear n0_ n1_ n2_ n3_;clear hb hbox hg)))
 (try simp only [Act.put,List.setIfInBounds_toArray,List.set_cons_zero,List.set_cons_succ])
 go_cut [16] (fun v16 wc => ∃ (kq : Nat) (x16_1 : Bool),v16 = .bool x16_1 ∧ Aside0 (metrolabref53_form.j0 kq x16_1 a0_0 a0_1 a0_2 a0_3 = some r) ∧ Aside0 (kq ≤ k) ∧ Aside0 (wc.heap[gb116]? = some (.cells #[.int .i64 a0_0,.string a0_1,.string a0_2,.string a0_3] 67 (0,0))) ∧ Aside0 (Below w.heap.size w wc))
 case first =>
  have H:=HC2.out
  clear HC2
  by_cases c4 : a0_0 < 0
  ·rw [if_pos c4] at H
   have c4b0 : decide (a0_0 < 0) = true:=decide_eq_true c4
   clear c4
   (first | rw [c4b0] | (simp only [i64_w,i32_w];rw [c4b0]) | skip)
   have H':=Aside0.mk H
   clear H
   have hcz5_0 : w3.cell? ⟨gb116,0,none⟩ = some (.int .i64 a0_0):=(blk_cell BK116.out 0).trans rfl
   have hcz5_1 : w3.cell? ⟨gb116,1,none⟩ = some (.string a0_1):=(blk_cell BK116.out 1).trans rfl
   have hcz5_2 : w3.cell? ⟨gb116,2,none⟩ = some (.string a0_2):=(blk_cell BK116.out 2).trans rfl
   have hcz5_3 : w3.cell? ⟨gb116,3,none⟩ = some (.string a0_3):=(blk_cell BK116.out 3).trans rfl
   have hfz5_0:=blk_frozen BK116.out 0
   have hfz5_1:=blk_frozen BK116.out 1
   have hfz5_2:=blk_frozen BK116.out 2
   have hfz5_3:=blk_frozen BK116.out 3
   go_wp2
   repeat (go_quiet (fail);try go_wp2)
   go_meet
   case rel => exact ⟨_,(true),(by first | rfl | (simp;done) | (simp [*];done)),H',⟨by first | omega | exact Nat.le_refl _⟩,⟨by (with_reducible repeat (first | refine blk_drewN ?_ _ | refine blk_drew ?_ | refine blk_alloc ?_ _));exact BK116.out⟩,⟨by repeat (first | (with_reducible first | exact HB.out | apply below_alloc | apply pw_below_drewN | apply below_drew1 | refine below_set ?_ GE116.out) | exact HB.out)⟩⟩
  ·rw [if_neg c4] at H
   have c4b0 : decide (a0_0 < 0) = false:=decide_eq_false c4
   clear c4
   (first | rw [c4b0] | (simp only [i64_w,i32_w];rw [c4b0]) | skip)
   have H':=Aside0.mk H
   clear H
   have hcz6_0 : w3.cell? ⟨gb116,0,none⟩ = some (.int .i64 a0_0):=(blk_cell BK116.out 0).trans rfl
   have hcz6_1 : w3.cell? ⟨gb116,1,none⟩ = some (.string a0_1):=(blk_cell BK116.out 1).trans rfl
   have hcz6_2 : w3.cell? ⟨gb116,2,none⟩ = some (.string a0_2):=(blk_cell BK116.out 2).trans rfl
   have hcz6_3 : w3.cell? ⟨gb116,3,none⟩ = some (.string a0_3):=(blk_cell BK116.out 3).trans rfl
   have hfz6_0:=blk_frozen BK116.out 0
   have hfz6_1:=blk_frozen BK116.out 1
   have hfz6_2:=blk_frozen BK116.out 2
   have hfz6_3:=blk_frozen BK116.out 3
   go_wp2
   repeat (go_quiet (fail);try go_wp2)
   go_meet
   case rel => exact ⟨_,(decide (a0_0 > 3)),(by first | rfl | (simp;done) | (simp [*];done)),H',⟨by first | omega | exact Nat.le_refl _⟩,⟨by (with_reducible repeat (first | refine blk_drewN ?_ _ | refine blk_drew ?_ | refine blk_alloc ?_ _));exact BK116.out⟩,⟨by repeat (first | (with_reducible first | exact HB.out | apply below_alloc | apply pw_below_drewN | apply below_drew1 | refine below_set ?_ GE116.out) | exact HB.out)⟩⟩
 case rest =>
  clear HC2
  try clear p2
  try clear c4
  try clear c4b0
  try clear hcz5_0
  try clear hcz5_1
  try clear hcz5_2
  try clear hcz5_3
  try clear hcz6_0
  try clear hcz6_1
  try clear hcz6_2
  try clear hcz6_3
  try clear hfz5_0
  try clear hfz5_1
  try clear hfz5_2
  try clear hfz5_3
  try clear hfz6_0
  try clear hfz6_1
  try clear hfz6_2
  try clear hfz6_3
  obtain ⟨kq,x16_1,rfl,HA,HJ1,BK116,HB⟩:=hcut
  cases kq with
  | zero => exact absurd HA.out (by simp [metrolabref53_form.j0])
  | succ kj1 =>
   have H:=HA.out
   clear HA
   simp only [metrolabref53_form.j0] at H
   by_cases c7 : x16_1 = true
   ·subst c7
    have H1 : (some 1) = some r:=by rw [if_pos rfl] at H;exact H
    clear H
    have H:=H1
    clear H1
    obtain rfl:=Option.some.inj H
    go_wp2
    repeat (go_quiet (fail);try go_wp2)
    go_ret
    exact ⟨by first | rfl | (simp [errW_none,errW_some] <;> rfl) | (simp [*,errW_none,errW_some] <;> rfl),by repeat (first | (with_reducible first | exact HB.out | apply below_alloc | apply pw_below_drewN | apply below_drew1 | refine below_set ?_ GE116.out) | exact HB.out)⟩
   ·replace c7:=Bool.eq_false_iff.mpr c7
    subst c7
    have H1 : (if a0_0 = 0 then (metrolabref53_form.j1 kj1 (a0_0 != 3) true (a0_0 == 0) a0_0 a0_1 a0_2 a0_3) else (metrolabref53_form.j1 kj1 (a0_0 != 3) (a0_0 == 3) (a0_0 == 0) a0_0 a0_1 a0_2 a0_3)) = some r:=by rw [if_neg (show ¬ (false = true) by decide)] at H;exact H
    clear H
    have H:=H1
    clear H1
    have HC8:=Aside0.mk H
    clear H
    go_upto_region 3 with (fail)
    repeat (go_quiet (fail);go_upto_region 3 with (fail))
    go_cut [3,4,5] (fun v3 v4 v5 wc => ∃ (kq : Nat) (x3_7 : Bool) (x4_7 : Bool) (x5_7 : Bool),v3 = .bool x3_7 ∧ v4 = .bool x4_7 ∧ v5 = .bool x5_7 ∧ Aside0 (metrolabref53_form.j1 kq x3_7 x4_7 x5_7 a0_0 a0_1 a0_2 a0_3 = some r) ∧ Aside0 (kq ≤ kj1) ∧ Aside0 (wc.heap[gb116]? = some (.cells #[.int .i64 a0_0,.string a0_1,.string a0_2,.string a0_3] 67 (0,0))) ∧ Aside0 (Below w.heap.size w wc))
    case first =>
     have H:=HC8.out
     clear HC8
     by_cases c9 : a0_0 = 0
     ·rw [if_pos c9] at H
      have c9b0 : (a0_0 == 0) = true:=beq_iff_eq.mpr c9
      have c9b1 : (a0_0 != 0) = false:=bne_eq_false_iff_eq.mpr c9
      clear c9
      (first | rw [c9b0] | (simp only [i64_w,i32_w];rw [c9b0]) | skip)
      have H':=Aside0.mk H
      clear H
      have hcz10_0 : wc.cell? ⟨gb116,0,none⟩ = some (.int .i64 a0_0):=(blk_cell BK116.out 0).trans rfl
      have hcz10_1 : wc.cell? ⟨gb116,1,none⟩ = some (.string a0_1):=(blk_cell BK116.out 1).trans rfl
      have hcz10_2 : wc.cell? ⟨gb116,2,none⟩ = some (.string a0_2):=(blk_cell BK116.out 2).trans rfl
      have hcz10_3 : wc.cell? ⟨gb116,3,none⟩ = some (.string a0_3):=(blk_cell BK116.out 3).trans rfl
      have hfz10_0:=blk_frozen BK116.out 0
      have hfz10_1:=blk_frozen BK116.out 1
      have hfz10_2:=blk_frozen BK116.out 2
      have hfz10_3:=blk_frozen BK116.out 3
      go_wp2
      repeat (go_quiet (fail);try go_wp2)
      go_meet
      case rel => exact ⟨_,((a0_0 != 3)),(true),((a0_0 == 0)),(by first | rfl | (simp;done) | (simp [*];done)),(by first | rfl | (simp;done) | (simp [*];done)),(by first | rfl | (simp;done) | (simp [*];done)),H',⟨by have:=HJ1.out;first | omega | exact Nat.le_refl _⟩,⟨by (with_reducible repeat (first | refine blk_drewN ?_ _ | refine blk_drew ?_ | refine blk_alloc ?_ _));exact BK116.out⟩,⟨by repeat (first | (with_reducible first | exact HB.out | apply below_alloc | apply pw_below_drewN | apply below_drew1 | refine below_set ?_ GE116.out) | exact HB.out)⟩⟩
     ·rw [if_neg c9] at H
      have c9b0 : (a0_0 == 0) = false:=beq_eq_false_iff_ne.mpr c9
      have c9b1 : (a0_0 != 0) = true:=bne_iff_ne.mpr c9
      (first | rw [c9b0] | (simp only [i64_w,i32_w];rw [c9b0]) | skip)
      have H':=Aside0.mk H
      clear H
      have hcz11_0 : wc.cell? ⟨gb116,0,none⟩ = some (.int .i64 a0_0):=(blk_cell BK116.out 0).trans rfl
      have hcz11_1 : wc.cell? ⟨gb116,1,none⟩ = some (.string a0_1):=(blk_cell BK116.out 1).trans rfl
      have hcz11_2 : wc.cell? ⟨gb116,2,none⟩ = some (.string a0_2):=(blk_cell BK116.out 2).trans rfl
      have hcz11_3 : wc.cell? ⟨gb116,3,none⟩ = some (.string a0_3):=(blk_cell BK116.out 3).trans rfl
      have hfz11_0:=blk_frozen BK116.out 0
      have hfz11_1:=blk_frozen BK116.out 1
      have hfz11_2:=blk_frozen BK116.out 2
      have hfz11_3:=blk_frozen BK116.out 3
      go_wp2
      repeat (go_quiet (fail);try go_wp2)
      go_meet
      case rel => exact ⟨_,((a0_0 != 3)),((a0_0 == 3)),((a0_0 == 0)),(by first | rfl | (simp;done) | (simp [*];done)),(by first | rfl | (simp;done) | (simp [*];done)),(by first | rfl | (simp;done) | (simp [*];done)),H',⟨by have:=HJ1.out;first | omega | exact Nat.le_refl _⟩,⟨by (with_reducible repeat (first | refine blk_drewN ?_ _ | refine blk_drew ?_ | refine blk_alloc ?_ _));exact BK116.out⟩,⟨by repeat (first | (with_reducible first | exact HB.out | apply below_alloc | apply pw_below_drewN | apply below_drew1 | refine below_set ?_ GE116.out) | exact HB.out)⟩⟩
    case rest =>
     clear HC8
     try clear p2
     try clear c4
     try clear c4b0
     try clear c7
     try clear c9
     try clear c9b0
     try clear c9b1
     try clear hcz10_0
     try clear hcz10_1
     try clear hcz10_2
     try clear hcz10_3
     try clear hcz11_0
     try clear hcz11_1
     try clear hcz11_2
     try clear hcz11_3
     try clear hcz5_0
     try clear hcz5_1
     try clear hcz5_2
     try clear hcz5_3
     try clear hcz6_0
     try clear hcz6_1
     try clear hcz6_2
     try clear hcz6_3
     try clear hfz10_0
     try clear hfz10_1
     try clear hfz10_2
     try clear hfz10_3
     try clear hfz11_0
     try clear hfz11_1
     try clear hfz11_2
     try clear hfz11_3
     try clear hfz5_0
     try clear hfz5_1
     try clear hfz5_2
     try clear hfz5_3
     try clear hfz6_0
     try clear hfz6_1
     try clear hfz6_2
     try clear hfz6_3
     try clear p2
     obtain ⟨kq,x3_7,x4_7,x5_7,rfl,rfl,rfl,HA,HJ7,BK116,HB⟩:=hcut
     cases kq with
     | zero => exact absurd HA.out (by simp [metrolabref53_form.j1])
     | succ kj7 =>
      have H:=HA.out
      clear HA
      simp only [metrolabref53_form.j1] at H
      replace H:=Option.bind_eq_some_iff.mp H
      obtain ⟨t117,A120,H⟩:=H
      replace H : (if t117 = 0 then ((metrolabref53_named.f kj7 a0_2 x4_7).bind fun t118 => (if t118 = 0 then ((metrolabref53_named.f kj7 a0_3 x5_7).bind fun t119 => (if t119 = 0 then (if x3_7 = true then (if x4_7 = true then (if x5_7 = true then (some 0) else (if a0_3.toList = ([] : List UInt8) then (some 0) else (some 3))) else (if a0_2.toList = ([] : List UInt8) then (if x5_7 = true then (some 0) else (if a0_3.toList = ([] : List UInt8) then (some 0) else (some 3))) else (some 3))) else (if a0_1.toList = ([] : List UInt8) then (if x4_7 = true then (if x5_7 = true then (some 0) else (if a0_3.toList = ([] : List UInt8) then (some 0) else (some 3))) else (if a0_2.toList = ([] : List UInt8) then (if x5_7 = true then (some 0) else (if a0_3.toList = ([] : List UInt8) then (some 0) else (some 3))) else (some 3))) else (some 3))) else (some t119))) else (some t118))) else (some t117)) = some r:=H
      have A12:=Aside0.mk A120
      clear A120
      by_cases c13 : t117 = 0
      ·rw [if_pos c13] at H
       have c13b0 : (t117 == 0) = true:=beq_iff_eq.mpr c13
       have c13b1 : (t117 != 0) = false:=bne_eq_false_iff_eq.mpr c13
       clear c13
       replace H:=Option.bind_eq_some_iff.mp H
       obtain ⟨t118,A140,H⟩:=H
       replace H : (if t118 = 0 then ((metrolabref53_named.f kj7 a0_3 x5_7).bind fun t119 => (if t119 = 0 then (if x3_7 = true then (if x4_7 = true then (if x5_7 = true then (some 0) else (if a0_3.toList = ([] : List UInt8) then (some 0) else (some 3))) else (if a0_2.toList = ([] : List UInt8) then (if x5_7 = true then (some 0) else (if a0_3.toList = ([] : List UInt8) then (some 0) else (some 3))) else (some 3))) else (if a0_1.toList = ([] : List UInt8) then (if x4_7 = true then (if x5_7 = true then (some 0) else (if a0_3.toList = ([] : List UInt8) then (some 0) else (some 3))) else (if a0_2.toList = ([] : List UInt8) then (if x5_7 = true then (some 0) else (if a0_3.toList = ([] : List UInt8) then (some 0) else (some 3))) else (some 3))) else (some 3))) else (some t119))) else (some t118)) = some r:=H
       have A14:=Aside0.mk A140
       clear A140
       by_cases c15 : t118 = 0
       ·rw [if_pos c15] at H
        have c15b0 : (t118 == 0) = true:=beq_iff_eq.mpr c15
        have c15b1 : (t118 != 0) = false:=bne_eq_false_iff_eq.mpr c15
        clear c15
        replace H:=Option.bind_eq_some_iff.mp H
        obtain ⟨t119,A160,H⟩:=H
        replace H : (if t119 = 0 then (if x3_7 = true then (if x4_7 = true then (if x5_7 = true then (some 0) else (if a0_3.toList = ([] : List UInt8) then (some 0) else (some 3))) else (if a0_2.toList = ([] : List UInt8) then (if x5_7 = true then (some 0) else (if a0_3.toList = ([] : List UInt8) then (some 0) else (some 3))) else (some 3))) else (if a0_1.toList = ([] : List UInt8) then (if x4_7 = true then (if x5_7 = true then (some 0) else (if a0_3.toList = ([] : List UInt8) then (some 0) else (some 3))) else (if a0_2.toList = ([] : List UInt8) then (if x5_7 = true then (some 0) else (if a0_3.toList = ([] : List UInt8) then (some 0) else (some 3))) else (some 3))) else (some 3))) else (some t119)) = some r:=H
        have A16:=Aside0.mk A160
        clear A160
        by_cases c17 : t119 = 0
        ·rw [if_pos c17] at H
         have c17b0 : (t119 == 0) = true:=beq_iff_eq.mpr c17
         have c17b1 : (t119 != 0) = false:=bne_eq_false_iff_eq.mpr c17
         clear c17
         by_cases c18 : x3_7 = true
         ·subst c18
          have H1 : (if x4_7 = true then (if x5_7 = true then (some 0) else (if a0_3.toList = ([] : List UInt8) then (some 0) else (some 3))) else (if a0_2.toList = ([] : List UInt8) then (if x5_7 = true then (some 0) else (if a0_3.toList = ([] : List UInt8) then (some 0) else (some 3))) else (some 3))) = some r:=by rw [if_pos rfl] at H;exact H
          clear H
          have H:=H1
          clear H1
          by_cases c19 : x4_7 = true
          ·subst c19
           have H1 : (if x5_7 = true then (some 0) else (if a0_3.toList = ([] : List UInt8) then (some 0) else (some 3))) = some r:=by rw [if_pos rfl] at H;exact H
           clear H
           have H:=H1
           clear H1
           by_cases c20 : x5_7 = true
           ·subst c20
            have H1 : (some 0) = some r:=by rw [if_pos rfl] at H;exact H
            clear H
            have H:=H1
            clear H1
            obtain rfl:=Option.some.inj H
            have hcz21_0 : wc.cell? ⟨gb116,0,none⟩ = some (.int .i64 a0_0):=(blk_cell BK116.out 0).trans rfl
            have hcz21_1 : wc.cell? ⟨gb116,1,none⟩ = some (.string a0_1):=(blk_cell BK116.out 1).trans rfl
            have hcz21_2 : wc.cell? ⟨gb116,2,none⟩ = some (.string a0_2):=(blk_cell BK116.out 2).trans rfl
            have hcz21_3 : wc.cell? ⟨gb116,3,none⟩ = some (.string a0_3):=(blk_cell BK116.out 3).trans rfl
            have hfz21_0:=blk_frozen BK116.out 0
            have hfz21_1:=blk_frozen BK116.out 1
            have hfz21_2:=blk_frozen BK116.out 2
            have hfz21_3:=blk_frozen BK116.out 3
            go_wp2_with (first | (go_at_call 69;(with_reducible refine (metrolabref53_named.calls kj7 a0_1 true t117 _ A12.out).mono ?_);rintro e w' ⟨rfl,⟨nd,rfl⟩⟩;(try first | exact ⟨rfl,_,World.drewN_drewN _ _ _⟩ | exact ⟨rfl,_,Eq.trans (World.drewN_drewN _ _ _) (congrArg (World.drewN _) (Nat.add_assoc _ _ _))⟩)) | (go_at_call 69;(with_reducible refine (metrolabref53_named.calls kj7 a0_2 true t118 _ A14.out).mono ?_);rintro e w' ⟨rfl,⟨nd,rfl⟩⟩;(try first | exact ⟨rfl,_,World.drewN_drewN _ _ _⟩ | exact ⟨rfl,_,Eq.trans (World.drewN_drewN _ _ _) (congrArg (World.drewN _) (Nat.add_assoc _ _ _))⟩)) | (go_at_call 69;(with_reducible refine (metrolabref53_named.calls kj7 a0_3 true t119 _ A16.out).mono ?_);rintro e w' ⟨rfl,⟨nd,rfl⟩⟩;(try first | exact ⟨rfl,_,World.drewN_drewN _ _ _⟩ | exact ⟨rfl,_,Eq.trans (World.drewN_drewN _ _ _) (congrArg (World.drewN _) (Nat.add_assoc _ _ _))⟩)))
            repeat (go_quiet (first | (go_at_call 69;(with_reducible refine (metrolabref53_named.calls kj7 a0_1 true t117 _ A12.out).mono ?_);rintro e w' ⟨rfl,⟨nd,rfl⟩⟩;(try first | exact ⟨rfl,_,World.drewN_drewN _ _ _⟩ | exact ⟨rfl,_,Eq.trans (World.drewN_drewN _ _ _) (congrArg (World.drewN _) (Nat.add_assoc _ _ _))⟩)) | (go_at_call 69;(with_reducible refine (metrolabref53_named.calls kj7 a0_2 true t118 _ A14.out).mono ?_);rintro e w' ⟨rfl,⟨nd,rfl⟩⟩;(try first | exact ⟨rfl,_,World.drewN_drewN _ _ _⟩ | exact ⟨rfl,_,Eq.trans (World.drewN_drewN _ _ _) (congrArg (World.drewN _) (Nat.add_assoc _ _ _))⟩)) | (go_at_call 69;(with_reducible refine (metrolabref53_named.calls kj7 a0_3 true t119 _ A16.out).mono ?_);rintro e w' ⟨rfl,⟨nd,rfl⟩⟩;(try first | exact ⟨rfl,_,World.drewN_drewN _ _ _⟩ | exact ⟨rfl,_,Eq.trans (World.drewN_drewN _ _ _) (congrArg (World.drewN _) (Nat.add_assoc _ _ _))⟩)));try go_wp2_with (first | (go_at_call 69;(with_reducible refine (metrolabref53_named.calls kj7 a0_1 true t117 _ A12.out).mono ?_);rintro e w' ⟨rfl,⟨nd,rfl⟩⟩;(try first | exact ⟨rfl,_,World.drewN_drewN _ _ _⟩ | exact ⟨rfl,_,Eq.trans (World.drewN_drewN _ _ _) (congrArg (World.drewN _) (Nat.add_assoc _ _ _))⟩)) | (go_at_call 69;(with_reducible refine (metrolabref53_named.calls kj7 a0_2 true t118 _ A14.out).mono ?_);rintro e w' ⟨rfl,⟨nd,rfl⟩⟩;(try first | exact ⟨rfl,_,World.drewN_drewN _ _ _⟩ | exact ⟨rfl,_,Eq.trans (World.drewN_drewN _ _ _) (congrArg (World.drewN _) (Nat.add_assoc _ _ _))⟩)) | (go_at_call 69;(with_reducible refine (metrolabref53_named.calls kj7 a0_3 true t119 _ A16.out).mono ?_);rintro e w' ⟨rfl,⟨nd,rfl⟩⟩;(try first | exact ⟨rfl,_,World.drewN_drewN _ _ _⟩ | exact ⟨rfl,_,Eq.trans (World.drewN_drewN _ _ _) (congrArg (World.drewN _) (Nat.add_assoc _ _ _))⟩))))
            go_ret
            exact ⟨by first | rfl | (simp [errW_none,errW_some] <;> rfl) | (simp [*,errW_none,errW_some] <;> rfl),by repeat (first | (with_reducible first | exact HB.out | apply below_alloc | apply pw_below_drewN | apply below_drew1 | refine below_set ?_ GE116.out) | exact HB.out)⟩
           ·replace c20:=Bool.eq_false_iff.mpr c20
            subst c20
            have H1 : (if a0_3.toList = ([] : List UInt8) then (some 0) else (some 3)) = some r:=by rw [if_neg (show ¬ (false = true) by decide)] at H;exact H
            clear H
            have H:=H1
            clear H1
            by_cases c22 : a0_3.toList = ([] : List UInt8)
            ·rw [if_pos c22] at H
             have c22b0 : (a0_3.toList == ([] : List UInt8)) = true:=beq_iff_eq.mpr c22
             have c22b1 : (a0_3.toList != ([] : List UInt8)) = false:=bne_eq_false_iff_eq.mpr c22
             clear c22
             obtain rfl:=Option.some.inj H
             have hcz23_0 : wc.cell? ⟨gb116,0,none⟩ = some (.int .i64 a0_0):=(blk_cell BK116.out 0).trans rfl
             have hcz23_1 : wc.cell? ⟨gb116,1,none⟩ = some (.string a0_1):=(blk_cell BK116.out 1).trans rfl
             have hcz23_2 : wc.cell? ⟨gb116,2,none⟩ = some (.string a0_2):=(blk_cell BK116.out 2).trans rfl
             have hcz23_3 : wc.cell? ⟨gb116,3,none⟩ = some (.string a0_3):=(blk_cell BK116.out 3).trans rfl
             have hfz23_0:=blk_frozen BK116.out 0
             have hfz23_1:=blk_frozen BK116.out 1
             have hfz23_2:=blk_frozen BK116.out 2
             have hfz23_3:=blk_frozen BK116.out 3
             go_wp2_with (first | (go_at_call 69;(with_reducible refine (metrolabref53_named.calls kj7 a0_1 true t117 _ A12.out).mono ?_);rintro e w' ⟨rfl,⟨nd,rfl⟩⟩;(try first | exact ⟨rfl,_,World.drewN_drewN _ _ _⟩ | exact ⟨rfl,_,Eq.trans (World.drewN_drewN _ _ _) (congrArg (World.drewN _) (Nat.add_assoc _ _ _))⟩)) | (go_at_call 69;(with_reducible refine (metrolabref53_named.calls kj7 a0_2 true t118 _ A14.out).mono ?_);rintro e w' ⟨rfl,⟨nd,rfl⟩⟩;(try first | exact ⟨rfl,_,World.drewN_drewN _ _ _⟩ | exact ⟨rfl,_,Eq.trans (World.drewN_drewN _ _ _) (congrArg (World.drewN _) (Nat.add_assoc _ _ _))⟩)) | (go_at_call 69;(with_reducible refine (metrolabref53_named.calls kj7 a0_3 false t119 _ A16.out).mono ?_);rintro e w' ⟨rfl,⟨nd,rfl⟩⟩;(try first | exact ⟨rfl,_,World.drewN_drewN _ _ _⟩ | exact ⟨rfl,_,Eq.trans (World.drewN_drewN _ _ _) (congrArg (World.drewN _) (Nat.add_assoc _ _ _))⟩)))
             repeat (go_quiet (first | (go_at_call 69;(with_reducible refine (metrolabref53_named.calls kj7 a0_1 true t117 _ A12.out).mono ?_);rintro e w' ⟨rfl,⟨nd,rfl⟩⟩;(try first | exact ⟨rfl,_,World.drewN_drewN _ _ _⟩ | exact ⟨rfl,_,Eq.trans (World.drewN_drewN _ _ _) (congrArg (World.drewN _) (Nat.add_assoc _ _ _))⟩)) | (go_at_call 69;(with_reducible refine (metrolabref53_named.calls kj7 a0_2 true t118 _ A14.out).mono ?_);rintro e w' ⟨rfl,⟨nd,rfl⟩⟩;(try first | exact ⟨rfl,_,World.drewN_drewN _ _ _⟩ | exact ⟨rfl,_,Eq.trans (World.drewN_drewN _ _ _) (congrArg (World.drewN _) (Nat.add_assoc _ _ _))⟩)) | (go_at_call 69;(with_reducible refine (metrolabref53_named.calls kj7 a0_3 false t119 _ A16.out).mono ?_);rintro e w' ⟨rfl,⟨nd,rfl⟩⟩;(try first | exact ⟨rfl,_,World.drewN_drewN _ _ _⟩ | exact ⟨rfl,_,Eq.trans (World.drewN_drewN _ _ _) (congrArg (World.drewN _) (Nat.add_assoc _ _ _))⟩)));try go_wp2_with (first | (go_at_call 69;(with_reducible refine (metrolabref53_named.calls kj7 a0_1 true t117 _ A12.out).mono ?_);rintro e w' ⟨rfl,⟨nd,rfl⟩⟩;(try first | exact ⟨rfl,_,World.drewN_drewN _ _ _⟩ | exact ⟨rfl,_,Eq.trans (World.drewN_drewN _ _ _) (congrArg (World.drewN _) (Nat.add_assoc _ _ _))⟩)) | (go_at_call 69;(with_reducible refine (metrolabref53_named.calls kj7 a0_2 true t118 _ A14.out).mono ?_);rintro e w' ⟨rfl,⟨nd,rfl⟩⟩;(try first | exact ⟨rfl,_,World.drewN_drewN _ _ _⟩ | exact ⟨rfl,_,Eq.trans (World.drewN_drewN _ _ _) (congrArg (World.drewN _) (Nat.add_assoc _ _ _))⟩)) | (go_at_call 69;(with_reducible refine (metrolabref53_named.calls kj7 a0_3 false t119 _ A16.out).mono ?_);rintro e w' ⟨rfl,⟨nd,rfl⟩⟩;(try first | exact ⟨rfl,_,World.drewN_drewN _ _ _⟩ | exact ⟨rfl,_,Eq.trans (World.drewN_drewN _ _ _) (congrArg (World.drewN _) (Nat.add_assoc _ _ _))⟩))))
             go_ret
             exact ⟨by first | rfl | (simp [errW_none,errW_some] <;> rfl) | (simp [*,errW_none,errW_some] <;> rfl),by repeat (first | (with_reducible first | exact HB.out | apply below_alloc | apply pw_below_drewN | apply below_drew1 | refine below_set ?_ GE116.out) | exact HB.out)⟩
            ·rw [if_neg c22] at H
             have c22b0 : (a0_3.toList == ([] : List UInt8)) = false:=beq_eq_false_iff_ne.mpr c22
             have c22b1 : (a0_3.toList != ([] : List UInt8)) = true:=bne_iff_ne.mpr c22
             obtain rfl:=Option.some.inj H
             have hcz24_0 : wc.cell? ⟨gb116,0,none⟩ = some (.int .i64 a0_0):=(blk_cell BK116.out 0).trans rfl
             have hcz24_1 : wc.cell? ⟨gb116,1,none⟩ = some (.string a0_1):=(blk_cell BK116.out 1).trans rfl
             have hcz24_2 : wc.cell? ⟨gb116,2,none⟩ = some (.string a0_2):=(blk_cell BK116.out 2).trans rfl
             have hcz24_3 : wc.cell? ⟨gb116,3,none⟩ = some (.string a0_3):=(blk_cell BK116.out 3).trans rfl
             have hfz24_0:=blk_frozen BK116.out 0
             have hfz24_1:=blk_frozen BK116.out 1
             have hfz24_2:=blk_frozen BK116.out 2
             have hfz24_3:=blk_frozen BK116.out 3
             go_wp2_with (first | (go_at_call 69;(with_reducible refine (metrolabref53_named.calls kj7 a0_1 true t117 _ A12.out).mono ?_);rintro e w' ⟨rfl,⟨nd,rfl⟩⟩;(try first | exact ⟨rfl,_,World.drewN_drewN _ _ _⟩ | exact ⟨rfl,_,Eq.trans (World.drewN_drewN _ _ _) (congrArg (World.drewN _) (Nat.add_assoc _ _ _))⟩)) | (go_at_call 69;(with_reducible refine (metrolabref53_named.calls kj7 a0_2 true t118 _ A14.out).mono ?_);rintro e w' ⟨rfl,⟨nd,rfl⟩⟩;(try first | exact ⟨rfl,_,World.drewN_drewN _ _ _⟩ | exact ⟨rfl,_,Eq.trans (World.drewN_drewN _ _ _) (congrArg (World.drewN _) (Nat.add_assoc _ _ _))⟩)) | (go_at_call 69;(with_reducible refine (metrolabref53_named.calls kj7 a0_3 false t119 _ A16.out).mono ?_);rintro e w' ⟨rfl,⟨nd,rfl⟩⟩;(try first | exact ⟨rfl,_,World.drewN_drewN _ _ _⟩ | exact ⟨rfl,_,Eq.trans (World.drewN_drewN _ _ _) (congrArg (World.drewN _) (Nat.add_assoc _ _ _))⟩)))
             repeat (go_quiet (first | (go_at_call 69;(with_reducible refine (metrolabref53_named.calls kj7 a0_1 true t117 _ A12.out).mono ?_);rintro e w' ⟨rfl,⟨nd,rfl⟩⟩;(try first | exact ⟨rfl,_,World.drewN_drewN _ _ _⟩ | exact ⟨rfl,_,Eq.trans (World.drewN_drewN _ _ _) (congrArg (World.drewN _) (Nat.add_assoc _ _ _))⟩)) | (go_at_call 69;(with_reducible refine (metrolabref53_named.calls kj7 a0_2 true t118 _ A14.out).mono ?_);rintro e w' ⟨rfl,⟨nd,rfl⟩⟩;(try first | exact ⟨rfl,_,World.drewN_drewN _ _ _⟩ | exact ⟨rfl,_,Eq.trans (World.drewN_drewN _ _ _) (congrArg (World.drewN _) (Nat.add_assoc _ _ _))⟩)) | (go_at_call 69;(with_reducible refine (metrolabref53_named.calls kj7 a0_3 false t119 _ A16.out).mono ?_);rintro e w' ⟨rfl,⟨nd,rfl⟩⟩;(try first | exact ⟨rfl,_,World.drewN_drewN _ _ _⟩ | exact ⟨rfl,_,Eq.trans (World.drewN_drewN _ _ _) (congrArg (World.drewN _) (Nat.add_assoc _ _ _))⟩)));try go_wp2_with (first | (go_at_call 69;(with_reducible refine (metrolabref53_named.calls kj7 a0_1 true t117 _ A12.out).mono ?_);rintro e w' ⟨rfl,⟨nd,rfl⟩⟩;(try first | exact ⟨rfl,_,World.drewN_drewN _ _ _⟩ | exact ⟨rfl,_,Eq.trans (World.drewN_drewN _ _ _) (congrArg (World.drewN _) (Nat.add_assoc _ _ _))⟩)) | (go_at_call 69;(with_reducible refine (metrolabref53_named.calls kj7 a0_2 true t118 _ A14.out).mono ?_);rintro e w' ⟨rfl,⟨nd,rfl⟩⟩;(try first | exact ⟨rfl,_,World.drewN_drewN _ _ _⟩ | exact ⟨rfl,_,Eq.trans (World.drewN_drewN _ _ _) (congrArg (World.drewN _) (Nat.add_assoc _ _ _))⟩)) | (go_at_call 69;(with_reducible refine (metrolabref53_named.calls kj7 a0_3 false t119 _ A16.out).mono ?_);rintro e w' ⟨rfl,⟨nd,rfl⟩⟩;(try first | exact ⟨rfl,_,World.drewN_drewN _ _ _⟩ | exact ⟨rfl,_,Eq.trans (World.drewN_drewN _ _ _) (congrArg (World.drewN _) (Nat.add_assoc _ _ _))⟩))))
             go_ret
             exact ⟨by first | rfl | (simp [errW_none,errW_some] <;> rfl) | (simp [*,errW_none,errW_some] <;> rfl),by repeat (first | (with_reducible first | exact HB.out | apply below_alloc | apply pw_below_drewN | apply below_drew1 | refine below_set ?_ GE116.out) | exact HB.out)⟩
          ·replace c19:=Bool.eq_false_iff.mpr c19
           subst c19
           have H1 : (if a0_2.toList = ([] : List UInt8) then (if x5_7 = true then (some 0) else (if a0_3.toList = ([] : List UInt8) then (some 0) else (some 3))) else (some 3)) = some r:=by rw [if_neg (show ¬ (false = true) by decide)] at H;exact H
           clear H
           have H:=H1
           clear H1
           by_cases c25 : a0_2.toList = ([] : List UInt8)
           ·rw [if_pos c25] at H
            have c25b0 : (a0_2.toList == ([] : List UInt8)) = true:=beq_iff_eq.mpr c25
            have c25b1 : (a0_2.toList != ([] : List UInt8)) = false:=bne_eq_false_iff_eq.mpr c25
            clear c25
            by_cases c26 : x5_7 = true
            ·subst c26
             have H1 : (some 0) = some r:=by rw [if_pos rfl] at H;exact H
             clear H
             have H:=H1
             clear H1
             obtain rfl:=Option.some.inj H
             have hcz27_0 : wc.cell? ⟨gb116,0,none⟩ = some (.int .i64 a0_0):=(blk_cell BK116.out 0).trans rfl
             have hcz27_1 : wc.cell? ⟨gb116,1,none⟩ = some (.string a0_1):=(blk_cell BK116.out 1).trans rfl
             have hcz27_2 : wc.cell? ⟨gb116,2,none⟩ = some (.string a0_2):=(blk_cell BK116.out 2).trans rfl
             have hcz27_3 : wc.cell? ⟨gb116,3,none⟩ = some (.string a0_3):=(blk_cell BK116.out 3).trans rfl
             have hfz27_0:=blk_frozen BK116.out 0
             have hfz27_1:=blk_frozen BK116.out 1
             have hfz27_2:=blk_frozen BK116.out 2
             have hfz27_3:=blk_frozen BK116.out 3
             go_wp2_with (first | (go_at_call 69;(with_reducible refine (metrolabref53_named.calls kj7 a0_1 true t117 _ A12.out).mono ?_);rintro e w' ⟨rfl,⟨nd,rfl⟩⟩;(try first | exact ⟨rfl,_,World.drewN_drewN _ _ _⟩ | exact ⟨rfl,_,Eq.trans (World.drewN_drewN _ _ _) (congrArg (World.drewN _) (Nat.add_assoc _ _ _))⟩)) | (go_at_call 69;(with_reducible refine (metrolabref53_named.calls kj7 a0_2 false t118 _ A14.out).mono ?_);rintro e w' ⟨rfl,⟨nd,rfl⟩⟩;(try first | exact ⟨rfl,_,World.drewN_drewN _ _ _⟩ | exact ⟨rfl,_,Eq.trans (World.drewN_drewN _ _ _) (congrArg (World.drewN _) (Nat.add_assoc _ _ _))⟩)) | (go_at_call 69;(with_reducible refine (metrolabref53_named.calls kj7 a0_3 true t119 _ A16.out).mono ?_);rintro e w' ⟨rfl,⟨nd,rfl⟩⟩;(try first | exact ⟨rfl,_,World.drewN_drewN _ _ _⟩ | exact ⟨rfl,_,Eq.trans (World.drewN_drewN _ _ _) (congrArg (World.drewN _) (Nat.add_assoc _ _ _))⟩)))
             repeat (go_quiet (first | (go_at_call 69;(with_reducible refine (metrolabref53_named.calls kj7 a0_1 true t117 _ A12.out).mono ?_);rintro e w' ⟨rfl,⟨nd,rfl⟩⟩;(try first | exact ⟨rfl,_,World.drewN_drewN _ _ _⟩ | exact ⟨rfl,_,Eq.trans (World.drewN_drewN _ _ _) (congrArg (World.drewN _) (Nat.add_assoc _ _ _))⟩)) | (go_at_call 69;(with_reducible refine (metrolabref53_named.calls kj7 a0_2 false t118 _ A14.out).mono ?_);rintro e w' ⟨rfl,⟨nd,rfl⟩⟩;(try first | exact ⟨rfl,_,World.drewN_drewN _ _ _⟩ | exact ⟨rfl,_,Eq.trans (World.drewN_drewN _ _ _) (congrArg (World.drewN _) (Nat.add_assoc _ _ _))⟩)) | (go_at_call 69;(with_reducible refine (metrolabref53_named.calls kj7 a0_3 true t119 _ A16.out).mono ?_);rintro e w' ⟨rfl,⟨nd,rfl⟩⟩;(try first | exact ⟨rfl,_,World.drewN_drewN _ _ _⟩ | exact ⟨rfl,_,Eq.trans (World.drewN_drewN _ _ _) (congrArg (World.drewN _) (Nat.add_assoc _ _ _))⟩)));try go_wp2_with (first | (go_at_call 69;(with_reducible refine (metrolabref53_named.calls kj7 a0_1 true t117 _ A12.out).mono ?_);rintro e w' ⟨rfl,⟨nd,rfl⟩⟩;(try first | exact ⟨rfl,_,World.drewN_drewN _ _ _⟩ | exact ⟨rfl,_,Eq.trans (World.drewN_drewN _ _ _) (congrArg (World.drewN _) (Nat.add_assoc _ _ _))⟩)) | (go_at_call 69;(with_reducible refine (metrolabref53_named.calls kj7 a0_2 false t118 _ A14.out).mono ?_);rintro e w' ⟨rfl,⟨nd,rfl⟩⟩;(try first | exact ⟨rfl,_,World.drewN_drewN _ _ _⟩ | exact ⟨rfl,_,Eq.trans (World.drewN_drewN _ _ _) (congrArg (World.drewN _) (Nat.add_assoc _ _ _))⟩)) | (go_at_call 69;(with_reducible refine (metrolabref53_named.calls kj7 a0_3 true t119 _ A16.out).mono ?_);rintro e w' ⟨rfl,⟨nd,rfl⟩⟩;(try first | exact ⟨rfl,_,World.drewN_drewN _ _ _⟩ | exact ⟨rfl,_,Eq.trans (World.drewN_drewN _ _ _) (congrArg (World.drewN _) (Nat.add_assoc _ _ _))⟩))))
             go_ret
             exact ⟨by first | rfl | (simp [errW_none,errW_some] <;> rfl) | (simp [*,errW_none,errW_some] <;> rfl),by repeat (first | (with_reducible first | exact HB.out | apply below_alloc | apply pw_below_drewN | apply below_drew1 | refine below_set ?_ GE116.out) | exact HB.out)⟩
            ·replace c26:=Bool.eq_false_iff.mpr c26
             subst c26
             have H1 : (if a0_3.toList = ([] : List UInt8) then (some 0) else (some 3)) = some r:=by rw [if_neg (show ¬ (false = true) by decide)] at H;exact H
             clear H
             have H:=H1
             clear H1
             by_cases c28 : a0_3.toList = ([] : List UInt8)
             ·rw [if_pos c28] at H
              have c28b0 : (a0_3.toList == ([] : List UInt8)) = true:=beq_iff_eq.mpr c28
              have c28b1 : (a0_3.toList != ([] : List UInt8)) = false:=bne_eq_false_iff_eq.mpr c28
              clear c28
              obtain rfl:=Option.some.inj H
              have hcz29_0 : wc.cell? ⟨gb116,0,none⟩ = some (.int .i64 a0_0):=(blk_cell BK116.out 0).trans rfl
              have hcz29_1 : wc.cell? ⟨gb116,1,none⟩ = some (.string a0_1):=(blk_cell BK116.out 1).trans rfl
              have hcz29_2 : wc.cell? ⟨gb116,2,none⟩ = some (.string a0_2):=(blk_cell BK116.out 2).trans rfl
              have hcz29_3 : wc.cell? ⟨gb116,3,none⟩ = some (.string a0_3):=(blk_cell BK116.out 3).trans rfl
              have hfz29_0:=blk_frozen BK116.out 0
              have hfz29_1:=blk_frozen BK116.out 1
              have hfz29_2:=blk_frozen BK116.out 2
              have hfz29_3:=blk_frozen BK116.out 3
              go_wp2_with (first | (go_at_call 69;(with_reducible refine (metrolabref53_named.calls kj7 a0_1 true t117 _ A12.out).mono ?_);rintro e w' ⟨rfl,⟨nd,rfl⟩⟩;(try first | exact ⟨rfl,_,World.drewN_drewN _ _ _⟩ | exact ⟨rfl,_,Eq.trans (World.drewN_drewN _ _ _) (congrArg (World.drewN _) (Nat.add_assoc _ _ _))⟩)) | (go_at_call 69;(with_reducible refine (metrolabref53_named.calls kj7 a0_2 false t118 _ A14.out).mono ?_);rintro e w' ⟨rfl,⟨nd,rfl⟩⟩;(try first | exact ⟨rfl,_,World.drewN_drewN _ _ _⟩ | exact ⟨rfl,_,Eq.trans (World.drewN_drewN _ _ _) (congrArg (World.drewN _) (Nat.add_assoc _ _ _))⟩)) | (go_at_call 69;(with_reducible refine (metrolabref53_named.calls kj7 a0_3 false t119 _ A16.out).mono ?_);rintro e w' ⟨rfl,⟨nd,rfl⟩⟩;(try first | exact ⟨rfl,_,World.drewN_drewN _ _ _⟩ | exact ⟨rfl,_,Eq.trans (World.drewN_drewN _ _ _) (congrArg (World.drewN _) (Nat.add_assoc _ _ _))⟩)))
              repeat (go_quiet (first | (go_at_call 69;(with_reducible refine (metrolabref53_named.calls kj7 a0_1 true t117 _ A12.out).mono ?_);rintro e w' ⟨rfl,⟨nd,rfl⟩⟩;(try first | exact ⟨rfl,_,World.drewN_drewN _ _ _⟩ | exact ⟨rfl,_,Eq.trans (World.drewN_drewN _ _ _) (congrArg (World.drewN _) (Nat.add_assoc _ _ _))⟩)) | (go_at_call 69;(with_reducible refine (metrolabref53_named.calls kj7 a0_2 false t118 _ A14.out).mono ?_);rintro e w' ⟨rfl,⟨nd,rfl⟩⟩;(try first | exact ⟨rfl,_,World.drewN_drewN _ _ _⟩ | exact ⟨rfl,_,Eq.trans (World.drewN_drewN _ _ _) (congrArg (World.drewN _) (Nat.add_assoc _ _ _))⟩)) | (go_at_call 69;(with_reducible refine (metrolabref53_named.calls kj7 a0_3 false t119 _ A16.out).mono ?_);rintro e w' ⟨rfl,⟨nd,rfl⟩⟩;(try first | exact ⟨rfl,_,World.drewN_drewN _ _ _⟩ | exact ⟨rfl,_,Eq.trans (World.drewN_drewN _ _ _) (congrArg (World.drewN _) (Nat.add_assoc _ _ _))⟩)));try go_wp2_with (first | (go_at_call 69;(with_reducible refine (metrolabref53_named.calls kj7 a0_1 true t117 _ A12.out).mono ?_);rintro e w' ⟨rfl,⟨nd,rfl⟩⟩;(try first | exact ⟨rfl,_,World.drewN_drewN _ _ _⟩ | exact ⟨rfl,_,Eq.trans (World.drewN_drewN _ _ _) (congrArg (World.drewN _) (Nat.add_assoc _ _ _))⟩)) | (go_at_call 69;(with_reducible refine (metrolabref53_named.calls kj7 a0_2 false t118 _ A14.out).mono ?_);rintro e w' ⟨rfl,⟨nd,rfl⟩⟩;(try first | exact ⟨rfl,_,World.drewN_drewN _ _ _⟩ | exact ⟨rfl,_,Eq.trans (World.drewN_drewN _ _ _) (congrArg (World.drewN _) (Nat.add_assoc _ _ _))⟩)) | (go_at_call 69;(with_reducible refine (metrolabref53_named.calls kj7 a0_3 false t119 _ A16.out).mono ?_);rintro e w' ⟨rfl,⟨nd,rfl⟩⟩;(try first | exact ⟨rfl,_,World.drewN_drewN _ _ _⟩ | exact ⟨rfl,_,Eq.trans (World.drewN_drewN _ _ _) (congrArg (World.drewN _) (Nat.add_assoc _ _ _))⟩))))
              go_ret
              exact ⟨by first | rfl | (simp [errW_none,errW_some] <;> rfl) | (simp [*,errW_none,errW_some] <;> rfl),by repeat (first | (with_reducible first | exact HB.out | apply below_alloc | apply pw_below_drewN | apply below_drew1 | refine below_set ?_ GE116.out) | exact HB.out)⟩
             ·rw [if_neg c28] at H
              have c28b0 : (a0_3.toList == ([] : List UInt8)) = false:=beq_eq_false_iff_ne.mpr c28
              have c28b1 : (a0_3.toList != ([] : List UInt8)) = true:=bne_iff_ne.mpr c28
              obtain rfl:=Option.some.inj H
              have hcz30_0 : wc.cell? ⟨gb116,0,none⟩ = some (.int .i64 a0_0):=(blk_cell BK116.out 0).trans rfl
              have hcz30_1 : wc.cell? ⟨gb116,1,none⟩ = some (.string a0_1):=(blk_cell BK116.out 1).trans rfl
              have hcz30_2 : wc.cell? ⟨gb116,2,none⟩ = some (.string a0_2):=(blk_cell BK116.out 2).trans rfl
              have hcz30_3 : wc.cell? ⟨gb116,3,none⟩ = some (.string a0_3):=(blk_cell BK116.out 3).trans rfl
              have hfz30_0:=blk_frozen BK116.out 0
              have hfz30_1:=blk_frozen BK116.out 1
              have hfz30_2:=blk_frozen BK116.out 2
              have hfz30_3:=blk_frozen BK116.out 3
              go_wp2_with (first | (go_at_call 69;(with_reducible refine (metrolabref53_named.calls kj7 a0_1 true t117 _ A12.out).mono ?_);rintro e w' ⟨rfl,⟨nd,rfl⟩⟩;(try first | exact ⟨rfl,_,World.drewN_drewN _ _ _⟩ | exact ⟨rfl,_,Eq.trans (World.drewN_drewN _ _ _) (congrArg (World.drewN _) (Nat.add_assoc _ _ _))⟩)) | (go_at_call 69;(with_reducible refine (metrolabref53_named.calls kj7 a0_2 false t118 _ A14.out).mono ?_);rintro e w' ⟨rfl,⟨nd,rfl⟩⟩;(try first | exact ⟨rfl,_,World.drewN_drewN _ _ _⟩ | exact ⟨rfl,_,Eq.trans (World.drewN_drewN _ _ _) (congrArg (World.drewN _) (Nat.add_assoc _ _ _))⟩)) | (go_at_call 69;(with_reducible refine (metrolabref53_named.calls kj7 a0_3 false t119 _ A16.out).mono ?_);rintro e w' ⟨rfl,⟨nd,rfl⟩⟩;(try first | exact ⟨rfl,_,World.drewN_drewN _ _ _⟩ | exact ⟨rfl,_,Eq.trans (World.drewN_drewN _ _ _) (congrArg (World.drewN _) (Nat.add_assoc _ _ _))⟩)))
              repeat (go_quiet (first | (go_at_call 69;(with_reducible refine (metrolabref53_named.calls kj7 a0_1 true t117 _ A12.out).mono ?_);rintro e w' ⟨rfl,⟨nd,rfl⟩⟩;(try first | exact ⟨rfl,_,World.drewN_drewN _ _ _⟩ | exact ⟨rfl,_,Eq.trans (World.drewN_drewN _ _ _) (congrArg (World.drewN _) (Nat.add_assoc _ _ _))⟩)) | (go_at_call 69;(with_reducible refine (metrolabref53_named.calls kj7 a0_2 false t118 _ A14.out).mono ?_);rintro e w' ⟨rfl,⟨nd,rfl⟩⟩;(try first | exact ⟨rfl,_,World.drewN_drewN _ _ _⟩ | exact ⟨rfl,_,Eq.trans (World.drewN_drewN _ _ _) (congrArg (World.drewN _) (Nat.add_assoc _ _ _))⟩)) | (go_at_call 69;(with_reducible refine (metrolabref53_named.calls kj7 a0_3 false t119 _ A16.out).mono ?_);rintro e w' ⟨rfl,⟨nd,rfl⟩⟩;(try first | exact ⟨rfl,_,World.drewN_drewN _ _ _⟩ | exact ⟨rfl,_,Eq.trans (World.drewN_drewN _ _ _) (congrArg (World.drewN _) (Nat.add_assoc _ _ _))⟩)));try go_wp2_with (first | (go_at_call 69;(with_reducible refine (metrolabref53_named.calls kj7 a0_1 true t117 _ A12.out).mono ?_);rintro e w' ⟨rfl,⟨nd,rfl⟩⟩;(try first | exact ⟨rfl,_,World.drewN_drewN _ _ _⟩ | exact ⟨rfl,_,Eq.trans (World.drewN_drewN _ _ _) (congrArg (World.drewN _) (Nat.add_assoc _ _ _))⟩)) | (go_at_call 69;(with_reducible refine (metrolabref53_named.calls kj7 a0_2 false t118 _ A14.out).mono ?_);rintro e w' ⟨rfl,⟨nd,rfl⟩⟩;(try first | exact ⟨rfl,_,World.drewN_drewN _ _ _⟩ | exact ⟨rfl,_,Eq.trans (World.drewN_drewN _ _ _) (congrArg (World.drewN _) (Nat.add_assoc _ _ _))⟩)) | (go_at_call 69;(with_reducible refine (metrolabref53_named.calls kj7 a0_3 false t119 _ A16.out).mono ?_);rintro e w' ⟨rfl,⟨nd,rfl⟩⟩;(try first | exact ⟨rfl,_,World.drewN_drewN _ _ _⟩ | exact ⟨rfl,_,Eq.trans (World.drewN_drewN _ _ _) (congrArg (World.drewN _) (Nat.add_assoc _ _ _))⟩))))
              go_ret
              exact ⟨by first | rfl | (simp [errW_none,errW_some] <;> rfl) | (simp [*,errW_none,errW_some] <;> rfl),by repeat (first | (with_reducible first | exact HB.out | apply below_alloc | apply pw_below_drewN | apply below_drew1 | refine below_set ?_ GE116.out) | exact HB.out)⟩
           ·rw [if_neg c25] at H
            have c25b0 : (a0_2.toList == ([] : List UInt8)) = false:=beq_eq_false_iff_ne.mpr c25
            have c25b1 : (a0_2.toList != ([] : List UInt8)) = true:=bne_iff_ne.mpr c25
            obtain rfl:=Option.some.inj H
            have hcz31_0 : wc.cell? ⟨gb116,0,none⟩ = some (.int .i64 a0_0):=(blk_cell BK116.out 0).trans rfl
            have hcz31_1 : wc.cell? ⟨gb116,1,none⟩ = some (.string a0_1):=(blk_cell BK116.out 1).trans rfl
            have hcz31_2 : wc.cell? ⟨gb116,2,none⟩ = some (.string a0_2):=(blk_cell BK116.out 2).trans rfl
            have hcz31_3 : wc.cell? ⟨gb116,3,none⟩ = some (.string a0_3):=(blk_cell BK116.out 3).trans rfl
            have hfz31_0:=blk_frozen BK116.out 0
            have hfz31_1:=blk_frozen BK116.out 1
            have hfz31_2:=blk_frozen BK116.out 2
            have hfz31_3:=blk_frozen BK116.out 3
            go_wp2_with (first | (go_at_call 69;(with_reducible refine (metrolabref53_named.calls kj7 a0_1 true t117 _ A12.out).mono ?_);rintro e w' ⟨rfl,⟨nd,rfl⟩⟩;(try first | exact ⟨rfl,_,World.drewN_drewN _ _ _⟩ | exact ⟨rfl,_,Eq.trans (World.drewN_drewN _ _ _) (congrArg (World.drewN _) (Nat.add_assoc _ _ _))⟩)) | (go_at_call 69;(with_reducible refine (metrolabref53_named.calls kj7 a0_2 false t118 _ A14.out).mono ?_);rintro e w' ⟨rfl,⟨nd,rfl⟩⟩;(try first | exact ⟨rfl,_,World.drewN_drewN _ _ _⟩ | exact ⟨rfl,_,Eq.trans (World.drewN_drewN _ _ _) (congrArg (World.drewN _) (Nat.add_assoc _ _ _))⟩)) | (go_at_call 69;(with_reducible refine (metrolabref53_named.calls kj7 a0_3 x5_7 t119 _ A16.out).mono ?_);rintro e w' ⟨rfl,⟨nd,rfl⟩⟩;(try first | exact ⟨rfl,_,World.drewN_drewN _ _ _⟩ | exact ⟨rfl,_,Eq.trans (World.drewN_drewN _ _ _) (congrArg (World.drewN _) (Nat.add_assoc _ _ _))⟩)))
            repeat (go_quiet (first | (go_at_call 69;(with_reducible refine (metrolabref53_named.calls kj7 a0_1 true t117 _ A12.out).mono ?_);rintro e w' ⟨rfl,⟨nd,rfl⟩⟩;(try first | exact ⟨rfl,_,World.drewN_drewN _ _ _⟩ | exact ⟨rfl,_,Eq.trans (World.drewN_drewN _ _ _) (congrArg (World.drewN _) (Nat.add_assoc _ _ _))⟩)) | (go_at_call 69;(with_reducible refine (metrolabref53_named.calls kj7 a0_2 false t118 _ A14.out).mono ?_);rintro e w' ⟨rfl,⟨nd,rfl⟩⟩;(try first | exact ⟨rfl,_,World.drewN_drewN _ _ _⟩ | exact ⟨rfl,_,Eq.trans (World.drewN_drewN _ _ _) (congrArg (World.drewN _) (Nat.add_assoc _ _ _))⟩)) | (go_at_call 69;(with_reducible refine (metrolabref53_named.calls kj7 a0_3 x5_7 t119 _ A16.out).mono ?_);rintro e w' ⟨rfl,⟨nd,rfl⟩⟩;(try first | exact ⟨rfl,_,World.drewN_drewN _ _ _⟩ | exact ⟨rfl,_,Eq.trans (World.drewN_drewN _ _ _) (congrArg (World.drewN _) (Nat.add_assoc _ _ _))⟩)));try go_wp2_with (first | (go_at_call 69;(with_reducible refine (metrolabref53_named.calls kj7 a0_1 true t117 _ A12.out).mono ?_);rintro e w' ⟨rfl,⟨nd,rfl⟩⟩;(try first | exact ⟨rfl,_,World.drewN_drewN _ _ _⟩ | exact ⟨rfl,_,Eq.trans (World.drewN_drewN _ _ _) (congrArg (World.drewN _) (Nat.add_assoc _ _ _))⟩)) | (go_at_call 69;(with_reducible refine (metrolabref53_named.calls kj7 a0_2 false t118 _ A14.out).mono ?_);rintro e w' ⟨rfl,⟨nd,rfl⟩⟩;(try first | exact ⟨rfl,_,World.drewN_drewN _ _ _⟩ | exact ⟨rfl,_,Eq.trans (World.drewN_drewN _ _ _) (congrArg (World.drewN _) (Nat.add_assoc _ _ _))⟩)) | (go_at_call 69;(with_reducible refine (metrolabref53_named.calls kj7 a0_3 x5_7 t119 _ A16.out).mono ?_);rintro e w' ⟨rfl,⟨nd,rfl⟩⟩;(try first | exact ⟨rfl,_,World.drewN_drewN _ _ _⟩ | exact ⟨rfl,_,Eq.trans (World.drewN_drewN _ _ _) (congrArg (World.drewN _) (Nat.add_assoc _ _ _))⟩))))
            go_ret
            exact ⟨by first | rfl | (simp [errW_none,errW_some] <;> rfl) | (simp [*,errW_none,errW_some] <;> rfl),by repeat (first | (with_reducible first | exact HB.out | apply below_alloc | apply pw_below_drewN | apply below_drew1 | refine below_set ?_ GE116.out) | exact HB.out)⟩
         ·replace c18:=Bool.eq_false_iff.mpr c18
          subst c18
          have H1 : (if a0_1.toList = ([] : List UInt8) then (if x4_7 = true then (if x5_7 = true then (some 0) else (if a0_3.toList = ([] : List UInt8) then (some 0) else (some 3))) else (if a0_2.toList = ([] : List UInt8) then (if x5_7 = true then (some 0) else (if a0_3.toList = ([] : List UInt8) then (some 0) else (some 3))) else (some 3))) else (some 3)) = some r:=by rw [if_neg (show ¬ (false = true) by decide)] at H;exact H
          clear H
          have H:=H1
          clear H1
          by_cases c32 : a0_1.toList = ([] : List UInt8)
          ·rw [if_pos c32] at H
           have c32b0 : (a0_1.toList == ([] : List UInt8)) = true:=beq_iff_eq.mpr c32
           have c32b1 : (a0_1.toList != ([] : List UInt8)) = false:=bne_eq_false_iff_eq.mpr c32
           clear c32
           by_cases c33 : x4_7 = true
           ·subst c33
            have H1 : (if x5_7 = true then (some 0) else (if a0_3.toList = ([] : List UInt8) then (some 0) else (some 3))) = some r:=by rw [if_pos rfl] at H;exact H
            clear H
            have H:=H1
            clear H1
            by_cases c34 : x5_7 = true
            ·subst c34
             have H1 : (some 0) = some r:=by rw [if_pos rfl] at H;exact H
             clear H
             have H:=H1
             clear H1
             obtain rfl:=Option.some.inj H
             have hcz35_0 : wc.cell? ⟨gb116,0,none⟩ = some (.int .i64 a0_0):=(blk_cell BK116.out 0).trans rfl
             have hcz35_1 : wc.cell? ⟨gb116,1,none⟩ = some (.string a0_1):=(blk_cell BK116.out 1).trans rfl
             have hcz35_2 : wc.cell? ⟨gb116,2,none⟩ = some (.string a0_2):=(blk_cell BK116.out 2).trans rfl
             have hcz35_3 : wc.cell? ⟨gb116,3,none⟩ = some (.string a0_3):=(blk_cell BK116.out 3).trans rfl
             have hfz35_0:=blk_frozen BK116.out 0
             have hfz35_1:=blk_frozen BK116.out 1
             have hfz35_2:=blk_frozen BK116.out 2
             have hfz35_3:=blk_frozen BK116.out 3
             go_wp2_with (first | (go_at_call 69;(with_reducible refine (metrolabref53_named.calls kj7 a0_1 false t117 _ A12.out).mono ?_);rintro e w' ⟨rfl,⟨nd,rfl⟩⟩;(try first | exact ⟨rfl,_,World.drewN_drewN _ _ _⟩ | exact ⟨rfl,_,Eq.trans (World.drewN_drewN _ _ _) (congrArg (World.drewN _) (Nat.add_assoc _ _ _))⟩)) | (go_at_call 69;(with_reducible refine (metrolabref53_named.calls kj7 a0_2 true t118 _ A14.out).mono ?_);rintro e w' ⟨rfl,⟨nd,rfl⟩⟩;(try first | exact ⟨rfl,_,World.drewN_drewN _ _ _⟩ | exact ⟨rfl,_,Eq.trans (World.drewN_drewN _ _ _) (congrArg (World.drewN _) (Nat.add_assoc _ _ _))⟩)) | (go_at_call 69;(with_reducible refine (metrolabref53_named.calls kj7 a0_3 true t119 _ A16.out).mono ?_);rintro e w' ⟨rfl,⟨nd,rfl⟩⟩;(try first | exact ⟨rfl,_,World.drewN_drewN _ _ _⟩ | exact ⟨rfl,_,Eq.trans (World.drewN_drewN _ _ _) (congrArg (World.drewN _) (Nat.add_assoc _ _ _))⟩)))
             repeat (go_quiet (first | (go_at_call 69;(with_reducible refine (metrolabref53_named.calls kj7 a0_1 false t117 _ A12.out).mono ?_);rintro e w' ⟨rfl,⟨nd,rfl⟩⟩;(try first | exact ⟨rfl,_,World.drewN_drewN _ _ _⟩ | exact ⟨rfl,_,Eq.trans (World.drewN_drewN _ _ _) (congrArg (World.drewN _) (Nat.add_assoc _ _ _))⟩)) | (go_at_call 69;(with_reducible refine (metrolabref53_named.calls kj7 a0_2 true t118 _ A14.out).mono ?_);rintro e w' ⟨rfl,⟨nd,rfl⟩⟩;(try first | exact ⟨rfl,_,World.drewN_drewN _ _ _⟩ | exact ⟨rfl,_,Eq.trans (World.drewN_drewN _ _ _) (congrArg (World.drewN _) (Nat.add_assoc _ _ _))⟩)) | (go_at_call 69;(with_reducible refine (metrolabref53_named.calls kj7 a0_3 true t119 _ A16.out).mono ?_);rintro e w' ⟨rfl,⟨nd,rfl⟩⟩;(try first | exact ⟨rfl,_,World.drewN_drewN _ _ _⟩ | exact ⟨rfl,_,Eq.trans (World.drewN_drewN _ _ _) (congrArg (World.drewN _) (Nat.add_assoc _ _ _))⟩)));try go_wp2_with (first | (go_at_call 69;(with_reducible refine (metrolabref53_named.calls kj7 a0_1 false t117 _ A12.out).mono ?_);rintro e w' ⟨rfl,⟨nd,rfl⟩⟩;(try first | exact ⟨rfl,_,World.drewN_drewN _ _ _⟩ | exact ⟨rfl,_,Eq.trans (World.drewN_drewN _ _ _) (congrArg (World.drewN _) (Nat.add_assoc _ _ _))⟩)) | (go_at_call 69;(with_reducible refine (metrolabref53_named.calls kj7 a0_2 true t118 _ A14.out).mono ?_);rintro e w' ⟨rfl,⟨nd,rfl⟩⟩;(try first | exact ⟨rfl,_,World.drewN_drewN _ _ _⟩ | exact ⟨rfl,_,Eq.trans (World.drewN_drewN _ _ _) (congrArg (World.drewN _) (Nat.add_assoc _ _ _))⟩)) | (go_at_call 69;(with_reducible refine (metrolabref53_named.calls kj7 a0_3 true t119 _ A16.out).mono ?_);rintro e w' ⟨rfl,⟨nd,rfl⟩⟩;(try first | exact ⟨rfl,_,World.drewN_drewN _ _ _⟩ | exact ⟨rfl,_,Eq.trans (World.drewN_drewN _ _ _) (congrArg (World.drewN _) (Nat.add_assoc _ _ _))⟩))))
             go_ret
             exact ⟨by first | rfl | (simp [errW_none,errW_some] <;> rfl) | (simp [*,errW_none,errW_some] <;> rfl),by repeat (first | (with_reducible first | exact HB.out | apply below_alloc | apply pw_below_drewN | apply below_drew1 | refine below_set ?_ GE116.out) | exact HB.out)⟩
            ·replace c34:=Bool.eq_false_iff.mpr c34
             subst c34
             have H1 : (if a0_3.toList = ([] : List UInt8) then (some 0) else (some 3)) = some r:=by rw [if_neg (show ¬ (false = true) by decide)] at H;exact H
             clear H
             have H:=H1
             clear H1
             by_cases c36 : a0_3.toList = ([] : List UInt8)
             ·rw [if_pos c36] at H
              have c36b0 : (a0_3.toList == ([] : List UInt8)) = true:=beq_iff_eq.mpr c36
              have c36b1 : (a0_3.toList != ([] : List UInt8)) = false:=bne_eq_false_iff_eq.mpr c36
              clear c36
              obtain rfl:=Option.some.inj H
              have hcz37_0 : wc.cell? ⟨gb116,0,none⟩ = some (.int .i64 a0_0):=(blk_cell BK116.out 0).trans rfl
              have hcz37_1 : wc.cell? ⟨gb116,1,none⟩ = some (.string a0_1):=(blk_cell BK116.out 1).trans rfl
              have hcz37_2 : wc.cell? ⟨gb116,2,none⟩ = some (.string a0_2):=(blk_cell BK116.out 2).trans rfl
              have hcz37_3 : wc.cell? ⟨gb116,3,none⟩ = some (.string a0_3):=(blk_cell BK116.out 3).trans rfl
              have hfz37_0:=blk_frozen BK116.out 0
              have hfz37_1:=blk_frozen BK116.out 1
              have hfz37_2:=blk_frozen BK116.out 2
              have hfz37_3:=blk_frozen BK116.out 3
              go_wp2_with (first | (go_at_call 69;(with_reducible refine (metrolabref53_named.calls kj7 a0_1 false t117 _ A12.out).mono ?_);rintro e w' ⟨rfl,⟨nd,rfl⟩⟩;(try first | exact ⟨rfl,_,World.drewN_drewN _ _ _⟩ | exact ⟨rfl,_,Eq.trans (World.drewN_drewN _ _ _) (congrArg (World.drewN _) (Nat.add_assoc _ _ _))⟩)) | (go_at_call 69;(with_reducible refine (metrolabref53_named.calls kj7 a0_2 true t118 _ A14.out).mono ?_);rintro e w' ⟨rfl,⟨nd,rfl⟩⟩;(try first | exact ⟨rfl,_,World.drewN_drewN _ _ _⟩ | exact ⟨rfl,_,Eq.trans (World.drewN_drewN _ _ _) (congrArg (World.drewN _) (Nat.add_assoc _ _ _))⟩)) | (go_at_call 69;(with_reducible refine (metrolabref53_named.calls kj7 a0_3 false t119 _ A16.out).mono ?_);rintro e w' ⟨rfl,⟨nd,rfl⟩⟩;(try first | exact ⟨rfl,_,World.drewN_drewN _ _ _⟩ | exact ⟨rfl,_,Eq.trans (World.drewN_drewN _ _ _) (congrArg (World.drewN _) (Nat.add_assoc _ _ _))⟩)))
              repeat (go_quiet (first | (go_at_call 69;(with_reducible refine (metrolabref53_named.calls kj7 a0_1 false t117 _ A12.out).mono ?_);rintro e w' ⟨rfl,⟨nd,rfl⟩⟩;(try first | exact ⟨rfl,_,World.drewN_drewN _ _ _⟩ | exact ⟨rfl,_,Eq.trans (World.drewN_drewN _ _ _) (congrArg (World.drewN _) (Nat.add_assoc _ _ _))⟩)) | (go_at_call 69;(with_reducible refine (metrolabref53_named.calls kj7 a0_2 true t118 _ A14.out).mono ?_);rintro e w' ⟨rfl,⟨nd,rfl⟩⟩;(try first | exact ⟨rfl,_,World.drewN_drewN _ _ _⟩ | exact ⟨rfl,_,Eq.trans (World.drewN_drewN _ _ _) (congrArg (World.drewN _) (Nat.add_assoc _ _ _))⟩)) | (go_at_call 69;(with_reducible refine (metrolabref53_named.calls kj7 a0_3 false t119 _ A16.out).mono ?_);rintro e w' ⟨rfl,⟨nd,rfl⟩⟩;(try first | exact ⟨rfl,_,World.drewN_drewN _ _ _⟩ | exact ⟨rfl,_,Eq.trans (World.drewN_drewN _ _ _) (congrArg (World.drewN _) (Nat.add_assoc _ _ _))⟩)));try go_wp2_with (first | (go_at_call 69;(with_reducible refine (metrolabref53_named.calls kj7 a0_1 false t117 _ A12.out).mono ?_);rintro e w' ⟨rfl,⟨nd,rfl⟩⟩;(try first | exact ⟨rfl,_,World.drewN_drewN _ _ _⟩ | exact ⟨rfl,_,Eq.trans (World.drewN_drewN _ _ _) (congrArg (World.drewN _) (Nat.add_assoc _ _ _))⟩)) | (go_at_call 69;(with_reducible refine (metrolabref53_named.calls kj7 a0_2 true t118 _ A14.out).mono ?_);rintro e w' ⟨rfl,⟨nd,rfl⟩⟩;(try first | exact ⟨rfl,_,World.drewN_drewN _ _ _⟩ | exact ⟨rfl,_,Eq.trans (World.drewN_drewN _ _ _) (congrArg (World.drewN _) (Nat.add_assoc _ _ _))⟩)) | (go_at_call 69;(with_reducible refine (metrolabref53_named.calls kj7 a0_3 false t119 _ A16.out).mono ?_);rintro e w' ⟨rfl,⟨nd,rfl⟩⟩;(try first | exact ⟨rfl,_,World.drewN_drewN _ _ _⟩ | exact ⟨rfl,_,Eq.trans (World.drewN_drewN _ _ _) (congrArg (World.drewN _) (Nat.add_assoc _ _ _))⟩))))
              go_ret
              exact ⟨by first | rfl | (simp [errW_none,errW_some] <;> rfl) | (simp [*,errW_none,errW_some] <;> rfl),by repeat (first | (with_reducible first | exact HB.out | apply below_alloc | apply pw_below_drewN | apply below_drew1 | refine below_set ?_ GE116.out) | exact HB.out)⟩
             ·rw [if_neg c36] at H
              have c36b0 : (a0_3.toList == ([] : List UInt8)) = false:=beq_eq_false_iff_ne.mpr c36
              have c36b1 : (a0_3.toList != ([] : List UInt8)) = true:=bne_iff_ne.mpr c36
              obtain rfl:=Option.some.inj H
              have hcz38_0 : wc.cell? ⟨gb116,0,none⟩ = some (.int .i64 a0_0):=(blk_cell BK116.out 0).trans rfl
              have hcz38_1 : wc.cell? ⟨gb116,1,none⟩ = some (.string a0_1):=(blk_cell BK116.out 1).trans rfl
              have hcz38_2 : wc.cell? ⟨gb116,2,none⟩ = some (.string a0_2):=(blk_cell BK116.out 2).trans rfl
              have hcz38_3 : wc.cell? ⟨gb116,3,none⟩ = some (.string a0_3):=(blk_cell BK116.out 3).trans rfl
              have hfz38_0:=blk_frozen BK116.out 0
              have hfz38_1:=blk_frozen BK116.out 1
              have hfz38_2:=blk_frozen BK116.out 2
              have hfz38_3:=blk_frozen BK116.out 3
              go_wp2_with (first | (go_at_call 69;(with_reducible refine (metrolabref53_named.calls kj7 a0_1 false t117 _ A12.out).mono ?_);rintro e w' ⟨rfl,⟨nd,rfl⟩⟩;(try first | exact ⟨rfl,_,World.drewN_drewN _ _ _⟩ | exact ⟨rfl,_,Eq.trans (World.drewN_drewN _ _ _) (congrArg (World.drewN _) (Nat.add_assoc _ _ _))⟩)) | (go_at_call 69;(with_reducible refine (metrolabref53_named.calls kj7 a0_2 true t118 _ A14.out).mono ?_);rintro e w' ⟨rfl,⟨nd,rfl⟩⟩;(try first | exact ⟨rfl,_,World.drewN_drewN _ _ _⟩ | exact ⟨rfl,_,Eq.trans (World.drewN_drewN _ _ _) (congrArg (World.drewN _) (Nat.add_assoc _ _ _))⟩)) | (go_at_call 69;(with_reducible refine (metrolabref53_named.calls kj7 a0_3 false t119 _ A16.out).mono ?_);rintro e w' ⟨rfl,⟨nd,rfl⟩⟩;(try first | exact ⟨rfl,_,World.drewN_drewN _ _ _⟩ | exact ⟨rfl,_,Eq.trans (World.drewN_drewN _ _ _) (congrArg (World.drewN _) (Nat.add_assoc _ _ _))⟩)))
              repeat (go_quiet (first | (go_at_call 69;(with_reducible refine (metrolabref53_named.calls kj7 a0_1 false t117 _ A12.out).mono ?_);rintro e w' ⟨rfl,⟨nd,rfl⟩⟩;(try first | exact ⟨rfl,_,World.drewN_drewN _ _ _⟩ | exact ⟨rfl,_,Eq.trans (World.drewN_drewN _ _ _) (congrArg (World.drewN _) (Nat.add_assoc _ _ _))⟩)) | (go_at_call 69;(with_reducible refine (metrolabref53_named.calls kj7 a0_2 true t118 _ A14.out).mono ?_);rintro e w' ⟨rfl,⟨nd,rfl⟩⟩;(try first | exact ⟨rfl,_,World.drewN_drewN _ _ _⟩ | exact ⟨rfl,_,Eq.trans (World.drewN_drewN _ _ _) (congrArg (World.drewN _) (Nat.add_assoc _ _ _))⟩)) | (go_at_call 69;(with_reducible refine (metrolabref53_named.calls kj7 a0_3 false t119 _ A16.out).mono ?_);rintro e w' ⟨rfl,⟨nd,rfl⟩⟩;(try first | exact ⟨rfl,_,World.drewN_drewN _ _ _⟩ | exact ⟨rfl,_,Eq.trans (World.drewN_drewN _ _ _) (congrArg (World.drewN _) (Nat.add_assoc _ _ _))⟩)));try go_wp2_with (first | (go_at_call 69;(with_reducible refine (metrolabref53_named.calls kj7 a0_1 false t117 _ A12.out).mono ?_);rintro e w' ⟨rfl,⟨nd,rfl⟩⟩;(try first | exact ⟨rfl,_,World.drewN_drewN _ _ _⟩ | exact ⟨rfl,_,Eq.trans (World.drewN_drewN _ _ _) (congrArg (World.drewN _) (Nat.add_assoc _ _ _))⟩)) | (go_at_call 69;(with_reducible refine (metrolabref53_named.calls kj7 a0_2 true t118 _ A14.out).mono ?_);rintro e w' ⟨rfl,⟨nd,rfl⟩⟩;(try first | exact ⟨rfl,_,World.drewN_drewN _ _ _⟩ | exact ⟨rfl,_,Eq.trans (World.drewN_drewN _ _ _) (congrArg (World.drewN _) (Nat.add_assoc _ _ _))⟩)) | (go_at_call 69;(with_reducible refine (metrolabref53_named.calls kj7 a0_3 false t119 _ A16.out).mono ?_);rintro e w' ⟨rfl,⟨nd,rfl⟩⟩;(try first | exact ⟨rfl,_,World.drewN_drewN _ _ _⟩ | exact ⟨rfl,_,Eq.trans (World.drewN_drewN _ _ _) (congrArg (World.drewN _) (Nat.add_assoc _ _ _))⟩))))
              go_ret
              exact ⟨by first | rfl | (simp [errW_none,errW_some] <;> rfl) | (simp [*,errW_none,errW_some] <;> rfl),by repeat (first | (with_reducible first | exact HB.out | apply below_alloc | apply pw_below_drewN | apply below_drew1 | refine below_set ?_ GE116.out) | exact HB.out)⟩
           ·replace c33:=Bool.eq_false_iff.mpr c33
            subst c33
            have H1 : (if a0_2.toList = ([] : List UInt8) then (if x5_7 = true then (some 0) else (if a0_3.toList = ([] : List UInt8) then (some 0) else (some 3))) else (some 3)) = some r:=by rw [if_neg (show ¬ (false = true) by decide)] at H;exact H
            clear H
            have H:=H1
            clear H1
            by_cases c39 : a0_2.toList = ([] : List UInt8)
            ·rw [if_pos c39] at H
             have c39b0 : (a0_2.toList == ([] : List UInt8)) = true:=beq_iff_eq.mpr c39
             have c39b1 : (a0_2.toList != ([] : List UInt8)) = false:=bne_eq_false_iff_eq.mpr c39
             clear c39
             by_cases c40 : x5_7 = true
             ·subst c40
              have H1 : (some 0) = some r:=by rw [if_pos rfl] at H;exact H
              clear H
              have H:=H1
              clear H1
              obtain rfl:=Option.some.inj H
              have hcz41_0 : wc.cell? ⟨gb116,0,none⟩ = some (.int .i64 a0_0):=(blk_cell BK116.out 0).trans rfl
              have hcz41_1 : wc.cell? ⟨gb116,1,none⟩ = some (.string a0_1):=(blk_cell BK116.out 1).trans rfl
              have hcz41_2 : wc.cell? ⟨gb116,2,none⟩ = some (.string a0_2):=(blk_cell BK116.out 2).trans rfl
              have hcz41_3 : wc.cell? ⟨gb116,3,none⟩ = some (.string a0_3):=(blk_cell BK116.out 3).trans rfl
              have hfz41_0:=blk_frozen BK116.out 0
              have hfz41_1:=blk_frozen BK116.out 1
              have hfz41_2:=blk_frozen BK116.out 2
              have hfz41_3:=blk_frozen BK116.out 3
              go_wp2_with (first | (go_at_call 69;(with_reducible refine (metrolabref53_named.calls kj7 a0_1 false t117 _ A12.out).mono ?_);rintro e w' ⟨rfl,⟨nd,rfl⟩⟩;(try first | exact ⟨rfl,_,World.drewN_drewN _ _ _⟩ | exact ⟨rfl,_,Eq.trans (World.drewN_drewN _ _ _) (congrArg (World.drewN _) (Nat.add_assoc _ _ _))⟩)) | (go_at_call 69;(with_reducible refine (metrolabref53_named.calls kj7 a0_2 false t118 _ A14.out).mono ?_);rintro e w' ⟨rfl,⟨nd,rfl⟩⟩;(try first | exact ⟨rfl,_,World.drewN_drewN _ _ _⟩ | exact ⟨rfl,_,Eq.trans (World.drewN_drewN _ _ _) (congrArg (World.drewN _) (Nat.add_assoc _ _ _))⟩)) | (go_at_call 69;(with_reducible refine (metrolabref53_named.calls kj7 a0_3 true t119 _ A16.out).mono ?_);rintro e w' ⟨rfl,⟨nd,rfl⟩⟩;(try first | exact ⟨rfl,_,World.drewN_drewN _ _ _⟩ | exact ⟨rfl,_,Eq.trans (World.drewN_drewN _ _ _) (congrArg (World.drewN _) (Nat.add_assoc _ _ _))⟩)))
              repeat (go_quiet (first | (go_at_call 69;(with_reducible refine (metrolabref53_named.calls kj7 a0_1 false t117 _ A12.out).mono ?_);rintro e w' ⟨rfl,⟨nd,rfl⟩⟩;(try first | exact ⟨rfl,_,World.drewN_drewN _ _ _⟩ | exact ⟨rfl,_,Eq.trans (World.drewN_drewN _ _ _) (congrArg (World.drewN _) (Nat.add_assoc _ _ _))⟩)) | (go_at_call 69;(with_reducible refine (metrolabref53_named.calls kj7 a0_2 false t118 _ A14.out).mono ?_);rintro e w' ⟨rfl,⟨nd,rfl⟩⟩;(try first | exact ⟨rfl,_,World.drewN_drewN _ _ _⟩ | exact ⟨rfl,_,Eq.trans (World.drewN_drewN _ _ _) (congrArg (World.drewN _) (Nat.add_assoc _ _ _))⟩)) | (go_at_call 69;(with_reducible refine (metrolabref53_named.calls kj7 a0_3 true t119 _ A16.out).mono ?_);rintro e w' ⟨rfl,⟨nd,rfl⟩⟩;(try first | exact ⟨rfl,_,World.drewN_drewN _ _ _⟩ | exact ⟨rfl,_,Eq.trans (World.drewN_drewN _ _ _) (congrArg (World.drewN _) (Nat.add_assoc _ _ _))⟩)));try go_wp2_with (first | (go_at_call 69;(with_reducible refine (metrolabref53_named.calls kj7 a0_1 false t117 _ A12.out).mono ?_);rintro e w' ⟨rfl,⟨nd,rfl⟩⟩;(try first | exact ⟨rfl,_,World.drewN_drewN _ _ _⟩ | exact ⟨rfl,_,Eq.trans (World.drewN_drewN _ _ _) (congrArg (World.drewN _) (Nat.add_assoc _ _ _))⟩)) | (go_at_call 69;(with_reducible refine (metrolabref53_named.calls kj7 a0_2 false t118 _ A14.out).mono ?_);rintro e w' ⟨rfl,⟨nd,rfl⟩⟩;(try first | exact ⟨rfl,_,World.drewN_drewN _ _ _⟩ | exact ⟨rfl,_,Eq.trans (World.drewN_drewN _ _ _) (congrArg (World.drewN _) (Nat.add_assoc _ _ _))⟩)) | (go_at_call 69;(with_reducible refine (metrolabref53_named.calls kj7 a0_3 true t119 _ A16.out).mono ?_);rintro e w' ⟨rfl,⟨nd,rfl⟩⟩;(try first | exact ⟨rfl,_,World.drewN_drewN _ _ _⟩ | exact ⟨rfl,_,Eq.trans (World.drewN_drewN _ _ _) (congrArg (World.drewN _) (Nat.add_assoc _ _ _))⟩))))
              go_ret
              exact ⟨by first | rfl | (simp [errW_none,errW_some] <;> rfl) | (simp [*,errW_none,errW_some] <;> rfl),by repeat (first | (with_reducible first | exact HB.out | apply below_alloc | apply pw_below_drewN | apply below_drew1 | refine below_set ?_ GE116.out) | exact HB.out)⟩
             ·replace c40:=Bool.eq_false_iff.mpr c40
              subst c40
              have H1 : (if a0_3.toList = ([] : List UInt8) then (some 0) else (some 3)) = some r:=by rw [if_neg (show ¬ (false = true) by decide)] at H;exact H
              clear H
              have H:=H1
              clear H1
              by_cases c42 : a0_3.toList = ([] : List UInt8)
              ·rw [if_pos c42] at H
               have c42b0 : (a0_3.toList == ([] : List UInt8)) = true:=beq_iff_eq.mpr c42
               have c42b1 : (a0_3.toList != ([] : List UInt8)) = false:=bne_eq_false_iff_eq.mpr c42
               clear c42
               obtain rfl:=Option.some.inj H
               have hcz43_0 : wc.cell? ⟨gb116,0,none⟩ = some (.int .i64 a0_0):=(blk_cell BK116.out 0).trans rfl
               have hcz43_1 : wc.cell? ⟨gb116,1,none⟩ = some (.string a0_1):=(blk_cell BK116.out 1).trans rfl
               have hcz43_2 : wc.cell? ⟨gb116,2,none⟩ = some (.string a0_2):=(blk_cell BK116.out 2).trans rfl
               have hcz43_3 : wc.cell? ⟨gb116,3,none⟩ = some (.string a0_3):=(blk_cell BK116.out 3).trans rfl
               have hfz43_0:=blk_frozen BK116.out 0
               have hfz43_1:=blk_frozen BK116.out 1
               have hfz43_2:=blk_frozen BK116.out 2
               have hfz43_3:=blk_frozen BK116.out 3
               go_wp2_with (first | (go_at_call 69;(with_reducible refine (metrolabref53_named.calls kj7 a0_1 false t117 _ A12.out).mono ?_);rintro e w' ⟨rfl,⟨nd,rfl⟩⟩;(try first | exact ⟨rfl,_,World.drewN_drewN _ _ _⟩ | exact ⟨rfl,_,Eq.trans (World.drewN_drewN _ _ _) (congrArg (World.drewN _) (Nat.add_assoc _ _ _))⟩)) | (go_at_call 69;(with_reducible refine (metrolabref53_named.calls kj7 a0_2 false t118 _ A14.out).mono ?_);rintro e w' ⟨rfl,⟨nd,rfl⟩⟩;(try first | exact ⟨rfl,_,World.drewN_drewN _ _ _⟩ | exact ⟨rfl,_,Eq.trans (World.drewN_drewN _ _ _) (congrArg (World.drewN _) (Nat.add_assoc _ _ _))⟩)) | (go_at_call 69;(with_reducible refine (metrolabref53_named.calls kj7 a0_3 false t119 _ A16.out).mono ?_);rintro e w' ⟨rfl,⟨nd,rfl⟩⟩;(try first | exact ⟨rfl,_,World.drewN_drewN _ _ _⟩ | exact ⟨rfl,_,Eq.trans (World.drewN_drewN _ _ _) (congrArg (World.drewN _) (Nat.add_assoc _ _ _))⟩)))
               repeat (go_quiet (first | (go_at_call 69;(with_reducible refine (metrolabref53_named.calls kj7 a0_1 false t117 _ A12.out).mono ?_);rintro e w' ⟨rfl,⟨nd,rfl⟩⟩;(try first | exact ⟨rfl,_,World.drewN_drewN _ _ _⟩ | exact ⟨rfl,_,Eq.trans (World.drewN_drewN _ _ _) (congrArg (World.drewN _) (Nat.add_assoc _ _ _))⟩)) | (go_at_call 69;(with_reducible refine (metrolabref53_named.calls kj7 a0_2 false t118 _ A14.out).mono ?_);rintro e w' ⟨rfl,⟨nd,rfl⟩⟩;(try first | exact ⟨rfl,_,World.drewN_drewN _ _ _⟩ | exact ⟨rfl,_,Eq.trans (World.drewN_drewN _ _ _) (congrArg (World.drewN _) (Nat.add_assoc _ _ _))⟩)) | (go_at_call 69;(with_reducible refine (metrolabref53_named.calls kj7 a0_3 false t119 _ A16.out).mono ?_);rintro e w' ⟨rfl,⟨nd,rfl⟩⟩;(try first | exact ⟨rfl,_,World.drewN_drewN _ _ _⟩ | exact ⟨rfl,_,Eq.trans (World.drewN_drewN _ _ _) (congrArg (World.drewN _) (Nat.add_assoc _ _ _))⟩)));try go_wp2_with (first | (go_at_call 69;(with_reducible refine (metrolabref53_named.calls kj7 a0_1 false t117 _ A12.out).mono ?_);rintro e w' ⟨rfl,⟨nd,rfl⟩⟩;(try first | exact ⟨rfl,_,World.drewN_drewN _ _ _⟩ | exact ⟨rfl,_,Eq.trans (World.drewN_drewN _ _ _) (congrArg (World.drewN _) (Nat.add_assoc _ _ _))⟩)) | (go_at_call 69;(with_reducible refine (metrolabref53_named.calls kj7 a0_2 false t118 _ A14.out).mono ?_);rintro e w' ⟨rfl,⟨nd,rfl⟩⟩;(try first | exact ⟨rfl,_,World.drewN_drewN _ _ _⟩ | exact ⟨rfl,_,Eq.trans (World.drewN_drewN _ _ _) (congrArg (World.drewN _) (Nat.add_assoc _ _ _))⟩)) | (go_at_call 69;(with_reducible refine (metrolabref53_named.calls kj7 a0_3 false t119 _ A16.out).mono ?_);rintro e w' ⟨rfl,⟨nd,rfl⟩⟩;(try first | exact ⟨rfl,_,World.drewN_drewN _ _ _⟩ | exact ⟨rfl,_,Eq.trans (World.drewN_drewN _ _ _) (congrArg (World.drewN _) (Nat.add_assoc _ _ _))⟩))))
               go_ret
               exact ⟨by first | rfl | (simp [errW_none,errW_some] <;> rfl) | (simp [*,errW_none,errW_some] <;> rfl),by repeat (first | (with_reducible first | exact HB.out | apply below_alloc | apply pw_below_drewN | apply below_drew1 | refine below_set ?_ GE116.out) | exact HB.out)⟩
              ·rw [if_neg c42] at H
               have c42b0 : (a0_3.toList == ([] : List UInt8)) = false:=beq_eq_false_iff_ne.mpr c42
               have c42b1 : (a0_3.toList != ([] : List UInt8)) = true:=bne_iff_ne.mpr c42
               obtain rfl:=Option.some.inj H
               have hcz44_0 : wc.cell? ⟨gb116,0,none⟩ = some (.int .i64 a0_0):=(blk_cell BK116.out 0).trans rfl
               have hcz44_1 : wc.cell? ⟨gb116,1,none⟩ = some (.string a0_1):=(blk_cell BK116.out 1).trans rfl
               have hcz44_2 : wc.cell? ⟨gb116,2,none⟩ = some (.string a0_2):=(blk_cell BK116.out 2).trans rfl
               have hcz44_3 : wc.cell? ⟨gb116,3,none⟩ = some (.string a0_3):=(blk_cell BK116.out 3).trans rfl
               have hfz44_0:=blk_frozen BK116.out 0
               have hfz44_1:=blk_frozen BK116.out 1
               have hfz44_2:=blk_frozen BK116.out 2
               have hfz44_3:=blk_frozen BK116.out 3
               go_wp2_with (first | (go_at_call 69;(with_reducible refine (metrolabref53_named.calls kj7 a0_1 false t117 _ A12.out).mono ?_);rintro e w' ⟨rfl,⟨nd,rfl⟩⟩;(try first | exact ⟨rfl,_,World.drewN_drewN _ _ _⟩ | exact ⟨rfl,_,Eq.trans (World.drewN_drewN _ _ _) (congrArg (World.drewN _) (Nat.add_assoc _ _ _))⟩)) | (go_at_call 69;(with_reducible refine (metrolabref53_named.calls kj7 a0_2 false t118 _ A14.out).mono ?_);rintro e w' ⟨rfl,⟨nd,rfl⟩⟩;(try first | exact ⟨rfl,_,World.drewN_drewN _ _ _⟩ | exact ⟨rfl,_,Eq.trans (World.drewN_drewN _ _ _) (congrArg (World.drewN _) (Nat.add_assoc _ _ _))⟩)) | (go_at_call 69;(with_reducible refine (metrolabref53_named.calls kj7 a0_3 false t119 _ A16.out).mono ?_);rintro e w' ⟨rfl,⟨nd,rfl⟩⟩;(try first | exact ⟨rfl,_,World.drewN_drewN _ _ _⟩ | exact ⟨rfl,_,Eq.trans (World.drewN_drewN _ _ _) (congrArg (World.drewN _) (Nat.add_assoc _ _ _))⟩)))
               repeat (go_quiet (first | (go_at_call 69;(with_reducible refine (metrolabref53_named.calls kj7 a0_1 false t117 _ A12.out).mono ?_);rintro e w' ⟨rfl,⟨nd,rfl⟩⟩;(try first | exact ⟨rfl,_,World.drewN_drewN _ _ _⟩ | exact ⟨rfl,_,Eq.trans (World.drewN_drewN _ _ _) (congrArg (World.drewN _) (Nat.add_assoc _ _ _))⟩)) | (go_at_call 69;(with_reducible refine (metrolabref53_named.calls kj7 a0_2 false t118 _ A14.out).mono ?_);rintro e w' ⟨rfl,⟨nd,rfl⟩⟩;(try first | exact ⟨rfl,_,World.drewN_drewN _ _ _⟩ | exact ⟨rfl,_,Eq.trans (World.drewN_drewN _ _ _) (congrArg (World.drewN _) (Nat.add_assoc _ _ _))⟩)) | (go_at_call 69;(with_reducible refine (metrolabref53_named.calls kj7 a0_3 false t119 _ A16.out).mono ?_);rintro e w' ⟨rfl,⟨nd,rfl⟩⟩;(try first | exact ⟨rfl,_,World.drewN_drewN _ _ _⟩ | exact ⟨rfl,_,Eq.trans (World.drewN_drewN _ _ _) (congrArg (World.drewN _) (Nat.add_assoc _ _ _))⟩)));try go_wp2_with (first | (go_at_call 69;(with_reducible refine (metrolabref53_named.calls kj7 a0_1 false t117 _ A12.out).mono ?_);rintro e w' ⟨rfl,⟨nd,rfl⟩⟩;(try first | exact ⟨rfl,_,World.drewN_drewN _ _ _⟩ | exact ⟨rfl,_,Eq.trans (World.drewN_drewN _ _ _) (congrArg (World.drewN _) (Nat.add_assoc _ _ _))⟩)) | (go_at_call 69;(with_reducible refine (metrolabref53_named.calls kj7 a0_2 false t118 _ A14.out).mono ?_);rintro e w' ⟨rfl,⟨nd,rfl⟩⟩;(try first | exact ⟨rfl,_,World.drewN_drewN _ _ _⟩ | exact ⟨rfl,_,Eq.trans (World.drewN_drewN _ _ _) (congrArg (World.drewN _) (Nat.add_assoc _ _ _))⟩)) | (go_at_call 69;(with_reducible refine (metrolabref53_named.calls kj7 a0_3 false t119 _ A16.out).mono ?_);rintro e w' ⟨rfl,⟨nd,rfl⟩⟩;(try first | exact ⟨rfl,_,World.drewN_drewN _ _ _⟩ | exact ⟨rfl,_,Eq.trans (World.drewN_drewN _ _ _) (congrArg (World.drewN _) (Nat.add_assoc _ _ _))⟩))))
               go_ret
               exact ⟨by first | rfl | (simp [errW_none,errW_some] <;> rfl) | (simp [*,errW_none,errW_some] <;> rfl),by repeat (first | (with_reducible first | exact HB.out | apply below_alloc | apply pw_below_drewN | apply below_drew1 | refine below_set ?_ GE116.out) | exact HB.out)⟩
            ·rw [if_neg c39] at H
             have c39b0 : (a0_2.toList == ([] : List UInt8)) = false:=beq_eq_false_iff_ne.mpr c39
             have c39b1 : (a0_2.toList != ([] : List UInt8)) = true:=bne_iff_ne.mpr c39
             obtain rfl:=Option.some.inj H
             have hcz45_0 : wc.cell? ⟨gb116,0,none⟩ = some (.int .i64 a0_0):=(blk_cell BK116.out 0).trans rfl
             have hcz45_1 : wc.cell? ⟨gb116,1,none⟩ = some (.string a0_1):=(blk_cell BK116.out 1).trans rfl
             have hcz45_2 : wc.cell? ⟨gb116,2,none⟩ = some (.string a0_2):=(blk_cell BK116.out 2).trans rfl
             have hcz45_3 : wc.cell? ⟨gb116,3,none⟩ = some (.string a0_3):=(blk_cell BK116.out 3).trans rfl
             have hfz45_0:=blk_frozen BK116.out 0
             have hfz45_1:=blk_frozen BK116.out 1
             have hfz45_2:=blk_frozen BK116.out 2
             have hfz45_3:=blk_frozen BK116.out 3
             go_wp2_with (first | (go_at_call 69;(with_reducible refine (metrolabref53_named.calls kj7 a0_1 false t117 _ A12.out).mono ?_);rintro e w' ⟨rfl,⟨nd,rfl⟩⟩;(try first | exact ⟨rfl,_,World.drewN_drewN _ _ _⟩ | exact ⟨rfl,_,Eq.trans (World.drewN_drewN _ _ _) (congrArg (World.drewN _) (Nat.add_assoc _ _ _))⟩)) | (go_at_call 69;(with_reducible refine (metrolabref53_named.calls kj7 a0_2 false t118 _ A14.out).mono ?_);rintro e w' ⟨rfl,⟨nd,rfl⟩⟩;(try first | exact ⟨rfl,_,World.drewN_drewN _ _ _⟩ | exact ⟨rfl,_,Eq.trans (World.drewN_drewN _ _ _) (congrArg (World.drewN _) (Nat.add_assoc _ _ _))⟩)) | (go_at_call 69;(with_reducible refine (metrolabref53_named.calls kj7 a0_3 x5_7 t119 _ A16.out).mono ?_);rintro e w' ⟨rfl,⟨nd,rfl⟩⟩;(try first | exact ⟨rfl,_,World.drewN_drewN _ _ _⟩ | exact ⟨rfl,_,Eq.trans (World.drewN_drewN _ _ _) (congrArg (World.drewN _) (Nat.add_assoc _ _ _))⟩)))
             repeat (go_quiet (first | (go_at_call 69;(with_reducible refine (metrolabref53_named.calls kj7 a0_1 false t117 _ A12.out).mono ?_);rintro e w' ⟨rfl,⟨nd,rfl⟩⟩;(try first | exact ⟨rfl,_,World.drewN_drewN _ _ _⟩ | exact ⟨rfl,_,Eq.trans (World.drewN_drewN _ _ _) (congrArg (World.drewN _) (Nat.add_assoc _ _ _))⟩)) | (go_at_call 69;(with_reducible refine (metrolabref53_named.calls kj7 a0_2 false t118 _ A14.out).mono ?_);rintro e w' ⟨rfl,⟨nd,rfl⟩⟩;(try first | exact ⟨rfl,_,World.drewN_drewN _ _ _⟩ | exact ⟨rfl,_,Eq.trans (World.drewN_drewN _ _ _) (congrArg (World.drewN _) (Nat.add_assoc _ _ _))⟩)) | (go_at_call 69;(with_reducible refine (metrolabref53_named.calls kj7 a0_3 x5_7 t119 _ A16.out).mono ?_);rintro e w' ⟨rfl,⟨nd,rfl⟩⟩;(try first | exact ⟨rfl,_,World.drewN_drewN _ _ _⟩ | exact ⟨rfl,_,Eq.trans (World.drewN_drewN _ _ _) (congrArg (World.drewN _) (Nat.add_assoc _ _ _))⟩)));try go_wp2_with (first | (go_at_call 69;(with_reducible refine (metrolabref53_named.calls kj7 a0_1 false t117 _ A12.out).mono ?_);rintro e w' ⟨rfl,⟨nd,rfl⟩⟩;(try first | exact ⟨rfl,_,World.drewN_drewN _ _ _⟩ | exact ⟨rfl,_,Eq.trans (World.drewN_drewN _ _ _) (congrArg (World.drewN _) (Nat.add_assoc _ _ _))⟩)) | (go_at_call 69;(with_reducible refine (metrolabref53_named.calls kj7 a0_2 false t118 _ A14.out).mono ?_);rintro e w' ⟨rfl,⟨nd,rfl⟩⟩;(try first | exact ⟨rfl,_,World.drewN_drewN _ _ _⟩ | exact ⟨rfl,_,Eq.trans (World.drewN_drewN _ _ _) (congrArg (World.drewN _) (Nat.add_assoc _ _ _))⟩)) | (go_at_call 69;(with_reducible refine (metrolabref53_named.calls kj7 a0_3 x5_7 t119 _ A16.out).mono ?_);rintro e w' ⟨rfl,⟨nd,rfl⟩⟩;(try first | exact ⟨rfl,_,World.drewN_drewN _ _ _⟩ | exact ⟨rfl,_,Eq.trans (World.drewN_drewN _ _ _) (congrArg (World.drewN _) (Nat.add_assoc _ _ _))⟩))))
             go_ret
             exact ⟨by first | rfl | (simp [errW_none,errW_some] <;> rfl) | (simp [*,errW_none,errW_some] <;> rfl),by repeat (first | (with_reducible first | exact HB.out | apply below_alloc | apply pw_below_drewN | apply below_drew1 | refine below_set ?_ GE116.out) | exact HB.out)⟩
          ·rw [if_neg c32] at H
           have c32b0 : (a0_1.toList == ([] : List UInt8)) = false:=beq_eq_false_iff_ne.mpr c32
           have c32b1 : (a0_1.toList != ([] : List UInt8)) = true:=bne_iff_ne.mpr c32
           obtain rfl:=Option.some.inj H
           have hcz46_0 : wc.cell? ⟨gb116,0,none⟩ = some (.int .i64 a0_0):=(blk_cell BK116.out 0).trans rfl
           have hcz46_1 : wc.cell? ⟨gb116,1,none⟩ = some (.string a0_1):=(blk_cell BK116.out 1).trans rfl
           have hcz46_2 : wc.cell? ⟨gb116,2,none⟩ = some (.string a0_2):=(blk_cell BK116.out 2).trans rfl
           have hcz46_3 : wc.cell? ⟨gb116,3,none⟩ = some (.string a0_3):=(blk_cell BK116.out 3).trans rfl
           have hfz46_0:=blk_frozen BK116.out 0
           have hfz46_1:=blk_frozen BK116.out 1
           have hfz46_2:=blk_frozen BK116.out 2
           have hfz46_3:=blk_frozen BK116.out 3
           go_wp2_with (first | (go_at_call 69;(with_reducible refine (metrolabref53_named.calls kj7 a0_1 false t117 _ A12.out).mono ?_);rintro e w' ⟨rfl,⟨nd,rfl⟩⟩;(try first | exact ⟨rfl,_,World.drewN_drewN _ _ _⟩ | exact ⟨rfl,_,Eq.trans (World.drewN_drewN _ _ _) (congrArg (World.drewN _) (Nat.add_assoc _ _ _))⟩)) | (go_at_call 69;(with_reducible refine (metrolabref53_named.calls kj7 a0_2 x4_7 t118 _ A14.out).mono ?_);rintro e w' ⟨rfl,⟨nd,rfl⟩⟩;(try first | exact ⟨rfl,_,World.drewN_drewN _ _ _⟩ | exact ⟨rfl,_,Eq.trans (World.drewN_drewN _ _ _) (congrArg (World.drewN _) (Nat.add_assoc _ _ _))⟩)) | (go_at_call 69;(with_reducible refine (metrolabref53_named.calls kj7 a0_3 x5_7 t119 _ A16.out).mono ?_);rintro e w' ⟨rfl,⟨nd,rfl⟩⟩;(try first | exact ⟨rfl,_,World.drewN_drewN _ _ _⟩ | exact ⟨rfl,_,Eq.trans (World.drewN_drewN _ _ _) (congrArg (World.drewN _) (Nat.add_assoc _ _ _))⟩)))
           repeat (go_quiet (first | (go_at_call 69;(with_reducible refine (metrolabref53_named.calls kj7 a0_1 false t117 _ A12.out).mono ?_);rintro e w' ⟨rfl,⟨nd,rfl⟩⟩;(try first | exact ⟨rfl,_,World.drewN_drewN _ _ _⟩ | exact ⟨rfl,_,Eq.trans (World.drewN_drewN _ _ _) (congrArg (World.drewN _) (Nat.add_assoc _ _ _))⟩)) | (go_at_call 69;(with_reducible refine (metrolabref53_named.calls kj7 a0_2 x4_7 t118 _ A14.out).mono ?_);rintro e w' ⟨rfl,⟨nd,rfl⟩⟩;(try first | exact ⟨rfl,_,World.drewN_drewN _ _ _⟩ | exact ⟨rfl,_,Eq.trans (World.drewN_drewN _ _ _) (congrArg (World.drewN _) (Nat.add_assoc _ _ _))⟩)) | (go_at_call 69;(with_reducible refine (metrolabref53_named.calls kj7 a0_3 x5_7 t119 _ A16.out).mono ?_);rintro e w' ⟨rfl,⟨nd,rfl⟩⟩;(try first | exact ⟨rfl,_,World.drewN_drewN _ _ _⟩ | exact ⟨rfl,_,Eq.trans (World.drewN_drewN _ _ _) (congrArg (World.drewN _) (Nat.add_assoc _ _ _))⟩)));try go_wp2_with (first | (go_at_call 69;(with_reducible refine (metrolabref53_named.calls kj7 a0_1 false t117 _ A12.out).mono ?_);rintro e w' ⟨rfl,⟨nd,rfl⟩⟩;(try first | exact ⟨rfl,_,World.drewN_drewN _ _ _⟩ | exact ⟨rfl,_,Eq.trans (World.drewN_drewN _ _ _) (congrArg (World.drewN _) (Nat.add_assoc _ _ _))⟩)) | (go_at_call 69;(with_reducible refine (metrolabref53_named.calls kj7 a0_2 x4_7 t118 _ A14.out).mono ?_);rintro e w' ⟨rfl,⟨nd,rfl⟩⟩;(try first | exact ⟨rfl,_,World.drewN_drewN _ _ _⟩ | exact ⟨rfl,_,Eq.trans (World.drewN_drewN _ _ _) (congrArg (World.drewN _) (Nat.add_assoc _ _ _))⟩)) | (go_at_call 69;(with_reducible refine (metrolabref53_named.calls kj7 a0_3 x5_7 t119 _ A16.out).mono ?_);rintro e w' ⟨rfl,⟨nd,rfl⟩⟩;(try first | exact ⟨rfl,_,World.drewN_drewN _ _ _⟩ | exact ⟨rfl,_,Eq.trans (World.drewN_drewN _ _ _) (congrArg (World.drewN _) (Nat.add_assoc _ _ _))⟩))))
           go_ret
           exact ⟨by first | rfl | (simp [errW_none,errW_some] <;> rfl) | (simp [*,errW_none,errW_some] <;> rfl),by repeat (first | (with_reducible first | exact HB.out | apply below_alloc | apply pw_below_drewN | apply below_drew1 | refine below_set ?_ GE116.out) | exact HB.out)⟩
        ·rw [if_neg c17] at H
         have c17b0 : (t119 == 0) = false:=beq_eq_false_iff_ne.mpr c17
         have c17b1 : (t119 != 0) = true:=bne_iff_ne.mpr c17
         obtain rfl:=Option.some.inj H
         have hcz47_0 : wc.cell? ⟨gb116,0,none⟩ = some (.int .i64 a0_0):=(blk_cell BK116.out 0).trans rfl
         have hcz47_1 : wc.cell? ⟨gb116,1,none⟩ = some (.string a0_1):=(blk_cell BK116.out 1).trans rfl
         have hcz47_2 : wc.cell? ⟨gb116,2,none⟩ = some (.string a0_2):=(blk_cell BK116.out 2).trans rfl
         have hcz47_3 : wc.cell? ⟨gb116,3,none⟩ = some (.string a0_3):=(blk_cell BK116.out 3).trans rfl
         have hfz47_0:=blk_frozen BK116.out 0
         have hfz47_1:=blk_frozen BK116.out 1
         have hfz47_2:=blk_frozen BK116.out 2
         have hfz47_3:=blk_frozen BK116.out 3
         go_wp2_with (first | (go_at_call 69;(with_reducible refine (metrolabref53_named.calls kj7 a0_1 x3_7 t117 _ A12.out).mono ?_);rintro e w' ⟨rfl,⟨nd,rfl⟩⟩;(try first | exact ⟨rfl,_,World.drewN_drewN _ _ _⟩ | exact ⟨rfl,_,Eq.trans (World.drewN_drewN _ _ _) (congrArg (World.drewN _) (Nat.add_assoc _ _ _))⟩)) | (go_at_call 69;(with_reducible refine (metrolabref53_named.calls kj7 a0_2 x4_7 t118 _ A14.out).mono ?_);rintro e w' ⟨rfl,⟨nd,rfl⟩⟩;(try first | exact ⟨rfl,_,World.drewN_drewN _ _ _⟩ | exact ⟨rfl,_,Eq.trans (World.drewN_drewN _ _ _) (congrArg (World.drewN _) (Nat.add_assoc _ _ _))⟩)) | (go_at_call 69;(with_reducible refine (metrolabref53_named.calls kj7 a0_3 x5_7 t119 _ A16.out).mono ?_);rintro e w' ⟨rfl,⟨nd,rfl⟩⟩;(try first | exact ⟨rfl,_,World.drewN_drewN _ _ _⟩ | exact ⟨rfl,_,Eq.trans (World.drewN_drewN _ _ _) (congrArg (World.drewN _) (Nat.add_assoc _ _ _))⟩)))
         repeat (go_quiet (first | (go_at_call 69;(with_reducible refine (metrolabref53_named.calls kj7 a0_1 x3_7 t117 _ A12.out).mono ?_);rintro e w' ⟨rfl,⟨nd,rfl⟩⟩;(try first | exact ⟨rfl,_,World.drewN_drewN _ _ _⟩ | exact ⟨rfl,_,Eq.trans (World.drewN_drewN _ _ _) (congrArg (World.drewN _) (Nat.add_assoc _ _ _))⟩)) | (go_at_call 69;(with_reducible refine (metrolabref53_named.calls kj7 a0_2 x4_7 t118 _ A14.out).mono ?_);rintro e w' ⟨rfl,⟨nd,rfl⟩⟩;(try first | exact ⟨rfl,_,World.drewN_drewN _ _ _⟩ | exact ⟨rfl,_,Eq.trans (World.drewN_drewN _ _ _) (congrArg (World.drewN _) (Nat.add_assoc _ _ _))⟩)) | (go_at_call 69;(with_reducible refine (metrolabref53_named.calls kj7 a0_3 x5_7 t119 _ A16.out).mono ?_);rintro e w' ⟨rfl,⟨nd,rfl⟩⟩;(try first | exact ⟨rfl,_,World.drewN_drewN _ _ _⟩ | exact ⟨rfl,_,Eq.trans (World.drewN_drewN _ _ _) (congrArg (World.drewN _) (Nat.add_assoc _ _ _))⟩)));try go_wp2_with (first | (go_at_call 69;(with_reducible refine (metrolabref53_named.calls kj7 a0_1 x3_7 t117 _ A12.out).mono ?_);rintro e w' ⟨rfl,⟨nd,rfl⟩⟩;(try first | exact ⟨rfl,_,World.drewN_drewN _ _ _⟩ | exact ⟨rfl,_,Eq.trans (World.drewN_drewN _ _ _) (congrArg (World.drewN _) (Nat.add_assoc _ _ _))⟩)) | (go_at_call 69;(with_reducible refine (metrolabref53_named.calls kj7 a0_2 x4_7 t118 _ A14.out).mono ?_);rintro e w' ⟨rfl,⟨nd,rfl⟩⟩;(try first | exact ⟨rfl,_,World.drewN_drewN _ _ _⟩ | exact ⟨rfl,_,Eq.trans (World.drewN_drewN _ _ _) (congrArg (World.drewN _) (Nat.add_assoc _ _ _))⟩)) | (go_at_call 69;(with_reducible refine (metrolabref53_named.calls kj7 a0_3 x5_7 t119 _ A16.out).mono ?_);rintro e w' ⟨rfl,⟨nd,rfl⟩⟩;(try first | exact ⟨rfl,_,World.drewN_drewN _ _ _⟩ | exact ⟨rfl,_,Eq.trans (World.drewN_drewN _ _ _) (congrArg (World.drewN _) (Nat.add_assoc _ _ _))⟩))))
         go_ret
         exact ⟨by first | rfl | (simp [errW_none,errW_some] <;> rfl) | (simp [*,errW_none,errW_some] <;> rfl),by repeat (first | (with_reducible first | exact HB.out | apply below_alloc | apply pw_below_drewN | apply below_drew1 | refine below_set ?_ GE116.out) | exact HB.out)⟩
       ·rw [if_neg c15] at H
        have c15b0 : (t118 == 0) = false:=beq_eq_false_iff_ne.mpr c15
        have c15b1 : (t118 != 0) = true:=bne_iff_ne.mpr c15
        obtain rfl:=Option.some.inj H
        have hcz48_0 : wc.cell? ⟨gb116,0,none⟩ = some (.int .i64 a0_0):=(blk_cell BK116.out 0).trans rfl
        have hcz48_1 : wc.cell? ⟨gb116,1,none⟩ = some (.string a0_1):=(blk_cell BK116.out 1).trans rfl
        have hcz48_2 : wc.cell? ⟨gb116,2,none⟩ = some (.string a0_2):=(blk_cell BK116.out 2).trans rfl
        have hcz48_3 : wc.cell? ⟨gb116,3,none⟩ = some (.string a0_3):=(blk_cell BK116.out 3).trans rfl
        have hfz48_0:=blk_frozen BK116.out 0
        have hfz48_1:=blk_frozen BK116.out 1
        have hfz48_2:=blk_frozen BK116.out 2
        have hfz48_3:=blk_frozen BK116.out 3
        go_wp2_with (first | (go_at_call 69;(with_reducible refine (metrolabref53_named.calls kj7 a0_1 x3_7 t117 _ A12.out).mono ?_);rintro e w' ⟨rfl,⟨nd,rfl⟩⟩;(try first | exact ⟨rfl,_,World.drewN_drewN _ _ _⟩ | exact ⟨rfl,_,Eq.trans (World.drewN_drewN _ _ _) (congrArg (World.drewN _) (Nat.add_assoc _ _ _))⟩)) | (go_at_call 69;(with_reducible refine (metrolabref53_named.calls kj7 a0_2 x4_7 t118 _ A14.out).mono ?_);rintro e w' ⟨rfl,⟨nd,rfl⟩⟩;(try first | exact ⟨rfl,_,World.drewN_drewN _ _ _⟩ | exact ⟨rfl,_,Eq.trans (World.drewN_drewN _ _ _) (congrArg (World.drewN _) (Nat.add_assoc _ _ _))⟩)))
        repeat (go_quiet (first | (go_at_call 69;(with_reducible refine (metrolabref53_named.calls kj7 a0_1 x3_7 t117 _ A12.out).mono ?_);rintro e w' ⟨rfl,⟨nd,rfl⟩⟩;(try first | exact ⟨rfl,_,World.drewN_drewN _ _ _⟩ | exact ⟨rfl,_,Eq.trans (World.drewN_drewN _ _ _) (congrArg (World.drewN _) (Nat.add_assoc _ _ _))⟩)) | (go_at_call 69;(with_reducible refine (metrolabref53_named.calls kj7 a0_2 x4_7 t118 _ A14.out).mono ?_);rintro e w' ⟨rfl,⟨nd,rfl⟩⟩;(try first | exact ⟨rfl,_,World.drewN_drewN _ _ _⟩ | exact ⟨rfl,_,Eq.trans (World.drewN_drewN _ _ _) (congrArg (World.drewN _) (Nat.add_assoc _ _ _))⟩)));try go_wp2_with (first | (go_at_call 69;(with_reducible refine (metrolabref53_named.calls kj7 a0_1 x3_7 t117 _ A12.out).mono ?_);rintro e w' ⟨rfl,⟨nd,rfl⟩⟩;(try first | exact ⟨rfl,_,World.drewN_drewN _ _ _⟩ | exact ⟨rfl,_,Eq.trans (World.drewN_drewN _ _ _) (congrArg (World.drewN _) (Nat.add_assoc _ _ _))⟩)) | (go_at_call 69;(with_reducible refine (metrolabref53_named.calls kj7 a0_2 x4_7 t118 _ A14.out).mono ?_);rintro e w' ⟨rfl,⟨nd,rfl⟩⟩;(try first | exact ⟨rfl,_,World.drewN_drewN _ _ _⟩ | exact ⟨rfl,_,Eq.trans (World.drewN_drewN _ _ _) (congrArg (World.drewN _) (Nat.add_assoc _ _ _))⟩))))
        go_ret
        exact ⟨by first | rfl | (simp [errW_none,errW_some] <;> rfl) | (simp [*,errW_none,errW_some] <;> rfl),by repeat (first | (with_reducible first | exact HB.out | apply below_alloc | apply pw_below_drewN | apply below_drew1 | refine below_set ?_ GE116.out) | exact HB.out)⟩
      ·rw [if_neg c13] at H
       have c13b0 : (t117 == 0) = false:=beq_eq_false_iff_ne.mpr c13
       have c13b1 : (t117 != 0) = true:=bne_iff_ne.mpr c13
       obtain rfl:=Option.some.inj H
       have hcz49_0 : wc.cell? ⟨gb116,0,none⟩ = some (.int .i64 a0_0):=(blk_cell BK116.out 0).trans rfl
       have hcz49_1 : wc.cell? ⟨gb116,1,none⟩ = some (.string a0_1):=(blk_cell BK116.out 1).trans rfl
       have hcz49_2 : wc.cell? ⟨gb116,2,none⟩ = some (.string a0_2):=(blk_cell BK116.out 2).trans rfl
       have hcz49_3 : wc.cell? ⟨gb116,3,none⟩ = some (.string a0_3):=(blk_cell BK116.out 3).trans rfl
       have hfz49_0:=blk_frozen BK116.out 0
       have hfz49_1:=blk_frozen BK116.out 1
       have hfz49_2:=blk_frozen BK116.out 2
       have hfz49_3:=blk_frozen BK116.out 3
       go_wp2_with (first | (go_at_call 69;(with_reducible refine (metrolabref53_named.calls kj7 a0_1 x3_7 t117 _ A12.out).mono ?_);rintro e w' ⟨rfl,⟨nd,rfl⟩⟩;(try first | exact ⟨rfl,_,World.drewN_drewN _ _ _⟩ | exact ⟨rfl,_,Eq.trans (World.drewN_drewN _ _ _) (congrArg (World.drewN _) (Nat.add_assoc _ _ _))⟩)))
       repeat (go_quiet (first | (go_at_call 69;(with_reducible refine (metrolabref53_named.calls kj7 a0_1 x3_7 t117 _ A12.out).mono ?_);rintro e w' ⟨rfl,⟨nd,rfl⟩⟩;(try first | exact ⟨rfl,_,World.drewN_drewN _ _ _⟩ | exact ⟨rfl,_,Eq.trans (World.drewN_drewN _ _ _) (congrArg (World.drewN _) (Nat.add_assoc _ _ _))⟩)));try go_wp2_with (first | (go_at_call 69;(with_reducible refine (metrolabref53_named.calls kj7 a0_1 x3_7 t117 _ A12.out).mono ?_);rintro e w' ⟨rfl,⟨nd,rfl⟩⟩;(try first | exact ⟨rfl,_,World.drewN_drewN _ _ _⟩ | exact ⟨rfl,_,Eq.trans (World.drewN_drewN _ _ _) (congrArg (World.drewN _) (Nat.add_assoc _ _ _))⟩))))
       go_ret
       exact ⟨by first | rfl | (simp [errW_none,errW_some] <;> rfl) | (simp [*,errW_none,errW_some] <;> rfl),by repeat (first | (with_reducible first | exact HB.out | apply below_alloc | apply pw_below_drewN | apply below_drew1 | refine below_set ?_ GE116.out) | exact HB.out)⟩

end Go.Proofs.Ytnmmdeonkpfccaa.Pr
/- An operation that bears a guard which says yes, as one without. -/
set_option linter.unusedVariables false
namespace Go.Proofs.Ytnmmdeonkpfccaa.Pr
theorem wpList_unguard {P : Program} {ops : Array Oper} {Q : Exit → Act → World → Prop} {a : Act} {w : World} {rest : List Oper} {o : Oper} {g : Tmp × Bool}
  (_hg : o.guard = some g) (hw : Region.wanted o (yielded ops a.tmps) = true)
  (h : wpList P ops Q ({ o with guard:=none } :: rest) a w) : wpList P ops Q (o :: rest) a w:=by
 unfold wpList at h ⊢
 rw [if_pos hw]
 rw [if_pos (by simp [Region.wanted])] at h
 exact h
end Go.Proofs.Ytnmmdeonkpfccaa.Pr
namespace Go.Proofs.Ytnmmdeonkpfccaa.Pr
open Go.RowKit Go.Proofs.YtnmmdeonkpfccaaW.PrintWords Go.Proofs.YtnmmdeonkpfccaaW.PrintLast Go.Proofs.YtnmmdeonkpfccaaW.PrintMore
attribute [local go_sem] max2_int min2_int max_two min_two max_three min_three max_four min_four
set_option linter.unusedVariables false
set_option linter.unusedSimpArgs false

/-! ### dimension_letter: function 70 -/
def dimension_letter.f (a0 : Int) : Option (Bool):=if a0 ≥ 65 then (if a0 ≤ 90 then (some true) else (if a0 ≥ 97 then (some (decide (a0 ≤ 122))) else (some false))) else (if a0 ≥ 97 then (some (decide (a0 ≤ 122))) else (some false))
set_option maxHeartbeats 8000000 in
set_option maxRecDepth 100000 in
theorem dimension_letter.calls (a0 : Int) (r : Bool) (w : World) (h : dimension_letter.f a0 = some r) :
  Calls Try.prog 70 #[.int .u8 a0] w fun e w' => e = .returned (.bool r) ∧ Drawn0 w w':=by
 have H : (if a0 ≥ 65 then (if a0 ≤ 90 then (some true) else (if a0 ≥ 97 then (some (decide (a0 ≤ 122))) else (some false))) else (if a0 ≥ 97 then (some (decide (a0 ≤ 122))) else (some false))) = some r:=h
 clear h
 by_cases c2 : a0 ≥ 65
 ·rw [if_pos c2] at H
  have c2b0 : decide (65 ≤ a0) = true:=decide_eq_true c2
  clear c2
  by_cases c3 : a0 ≤ 90
  ·rw [if_pos c3] at H
   have c3b0 : decide (a0 ≤ 90) = true:=decide_eq_true c3
   clear c3
   obtain rfl:=Option.some.inj H
   go_enter Try.func70,Try.ntmps70
   go_wp2
   go_ret
   exact ⟨by first | rfl | (simp;done) | (simp [*];done),by repeat (first | exact Drawn0.refl _ | apply Drawn0.step)⟩
  ·rw [if_neg c3] at H
   have c3b0 : decide (a0 ≤ 90) = false:=decide_eq_false c3
   clear c3
   by_cases c4 : a0 ≥ 97
   ·rw [if_pos c4] at H
    have c4b0 : decide (97 ≤ a0) = true:=decide_eq_true c4
    clear c4
    obtain rfl:=Option.some.inj H
    go_enter Try.func70,Try.ntmps70
    go_wp2
    go_ret
    exact ⟨by first | rfl | (simp;done) | (simp [*];done),by repeat (first | exact Drawn0.refl _ | apply Drawn0.step)⟩
   ·rw [if_neg c4] at H
    have c4b0 : decide (97 ≤ a0) = false:=decide_eq_false c4
    clear c4
    obtain rfl:=Option.some.inj H
    go_enter Try.func70,Try.ntmps70
    go_wp2
    go_ret
    exact ⟨by first | rfl | (simp;done) | (simp [*];done),by repeat (first | exact Drawn0.refl _ | apply Drawn0.step)⟩
 ·rw [if_neg c2] at H
  have c2b0 : decide (65 ≤ a0) = false:=decide_eq_false c2
  clear c2
  by_cases c5 : a0 ≥ 97
  ·rw [if_pos c5] at H
   have c5b0 : decide (97 ≤ a0) = true:=decide_eq_true c5
   clear c5
   obtain rfl:=Option.some.inj H
   go_enter Try.func70,Try.ntmps70
   go_wp2
   go_ret
   exact ⟨by first | rfl | (simp;done) | (simp [*];done),by repeat (first | exact Drawn0.refl _ | apply Drawn0.step)⟩
  ·rw [if_neg c5] at H
   have c5b0 : decide (97 ≤ a0) = false:=decide_eq_false c5
   clear c5
   obtain rfl:=Option.some.inj H
   go_enter Try.func70,Try.ntmps70
   go_wp2
   go_ret
   exact ⟨by first | rfl | (simp;done) | (simp [*];done),by repeat (first | exact Drawn0.refl _ | apply Drawn0.step)⟩

/-- THE ONE PURE STATEMENT of dimension_letter: yours. -/
def dimension_letter.Pure : Prop:=∀ (a0 : Int),(Lit.int .u8 a0).wf = true → dimension_letter.f a0 = some true
theorem dimension_letter.walk (P : dimension_letter.Pure) (a0 : Int) (w : World) (w0 : (Lit.int .u8 a0).wf = true) :
  Calls Try.prog 70 #[.int .u8 a0] w fun e w' => e = .returned (.bool true) ∧ Below w.heap.size w w':=by
 have h:=P a0 w0
 refine (dimension_letter.calls a0 true w h).mono ?_
 rintro e w' ⟨rfl,hd⟩
 exact ⟨rfl,hd.below⟩

end Go.Proofs.Ytnmmdeonkpfccaa.Pr
namespace Go.Proofs.Ytnmmdeonkpfccaa.Pr
open Go.RowKit Go.Proofs.YtnmmdeonkpfccaaW.PrintWords Go.Proofs.YtnmmdeonkpfccaaW.PrintLast Go.Proofs.YtnmmdeonkpfccaaW.PrintMore
attribute [local go_sem] max2_int min2_int max_two min_two max_three min_three max_four min_four
set_option linter.unusedVariables false
set_option linter.unusedSimpArgs false

/-! ### dimension_digit: function 71 -/
def dimension_digit.f (a0 : Int) : Option (Bool):=if a0 ≥ 48 then (some (decide (a0 ≤ 57))) else (some false)
set_option maxHeartbeats 8000000 in
set_option maxRecDepth 100000 in
theorem dimension_digit.calls (a0 : Int) (r : Bool) (w : World) (h : dimension_digit.f a0 = some r) :
  Calls Try.prog 71 #[.int .u8 a0] w fun e w' => e = .returned (.bool r) ∧ Drawn0 w w':=by
 have H : (if a0 ≥ 48 then (some (decide (a0 ≤ 57))) else (some false)) = some r:=h
 clear h
 by_cases c2 : a0 ≥ 48
 ·rw [if_pos c2] at H
  have c2b0 : decide (48 ≤ a0) = true:=decide_eq_true c2
  clear c2
  obtain rfl:=Option.some.inj H
  go_enter Try.func71,Try.ntmps71
  go_wp2
  go_ret
  exact ⟨by first | rfl | (simp;done) | (simp [*];done),by repeat (first | exact Drawn0.refl _ | apply Drawn0.step)⟩
 ·rw [if_neg c2] at H
  have c2b0 : decide (48 ≤ a0) = false:=decide_eq_false c2
  clear c2
  obtain rfl:=Option.some.inj H
  go_enter Try.func71,Try.ntmps71
  go_wp2
  go_ret
  exact ⟨by first | rfl | (simp;done) | (simp [*];done),by repeat (first | exact Drawn0.refl _ | apply Drawn0.step)⟩

/-- THE ONE PURE STATEMENT of dimension_digit: yours. -/
def dimension_digit.Pure : Prop:=∀ (a0 : Int),(Lit.int .u8 a0).wf = true → dimension_digit.f a0 = some true
theorem dimension_digit.walk (P : dimension_digit.Pure) (a0 : Int) (w : World) (w0 : (Lit.int .u8 a0).wf = true) :
  Calls Try.prog 71 #[.int .u8 a0] w fun e w' => e = .returned (.bool true) ∧ Below w.heap.size w w':=by
 have h:=P a0 w0
 refine (dimension_digit.calls a0 true w h).mono ?_
 rintro e w' ⟨rfl,hd⟩
 exact ⟨rfl,hd.below⟩

end Go.Proofs.Ytnmmdeonkpfccaa.Pr
/- The contract of dimension.Name. -/
set_option linter.unusedVariables false
namespace Go.Proofs.Ytnmmdeonkpfccaa.Pr
open Go.RowKit Go.Proofs.YtnmmdeonkpfccaaW.PrintWords Go.Proofs.YtnmmdeonkpfccaaW.PrintLast Go.Proofs.YtnmmdeonkpfccaaW.PrintMore

def letB (b : UInt8) : Bool:=decide (65 ≤ b.toNat ∧ b.toNat ≤ 90 ∨ 97 ≤ b.toNat ∧ b.toNat ≤ 122)
def digB (b : UInt8) : Bool:=decide (48 ≤ b.toNat ∧ b.toNat ≤ 57)
/-- The error of a name. -/
def nameL (q : List UInt8) : Int:=if 24 < q.length then 17 else if q = [] then 3 else if letB (q.headD 0) = false then 3 else if q.all (fun b => letB b || digB b) then 0 else 3
def dimension_Name.f (s : ByteArray) : Option Int:=some (nameL s.data.toList)

theorem letter_is (b : UInt8) : dimension_letter.f ((b.toNat : Int)) = some (letB b):=by
 unfold dimension_letter.f letB
 split
 ·split
  ·rw [decide_eq_true (by omega)]
  ·split
   ·congr 1;rw [decide_eq_decide];omega
   ·rw [decide_eq_false (by omega)]
 ·split
  ·congr 1;rw [decide_eq_decide];omega
  ·rw [decide_eq_false (by omega)]
theorem digit_is (b : UInt8) : dimension_digit.f ((b.toNat : Int)) = some (digB b):=by
 unfold dimension_digit.f digB
 split
 ·congr 1;rw [decide_eq_decide];omega
 ·rw [decide_eq_false (by omega)]

theorem below_bytes {B : Nat} {a w : World} (h : Below B a w) (hB : B ≤ w.heap.size) (e : TypeId) (s : ByteArray) : Below B a (Lib.bytesWorld w e s) :=
 h.trans ⟨rfl,rfl,rfl,by rw [Lib.bytesWorld_size];omega,fun k hk => Lib.bytesWorld_at_old w e s k (by omega)⟩
theorem all_take {q : List UInt8} {p : UInt8 → Bool} {k : Nat} (hk : k < q.length) (h : q.all p = true) : p (q.getD k 0) = true:=by
 rw [List.all_eq_true] at h
 rw [List.getD_eq_getElem?_getD,List.getElem?_eq_getElem hk]
 exact h _ (List.getElem_mem hk)
theorem all_of_take {q : List UInt8} {p : UInt8 → Bool} (h : ∀ k,k < q.length → p (q.getD k 0) = true) : q.all p = true:=by
 rw [List.all_eq_true]
 intro x hx
 obtain ⟨k,hk,rfl⟩:=List.getElem_of_mem hx
 have:=h k hk
 rwa [List.getD_eq_getElem?_getD,List.getElem?_eq_getElem hk] at this
theorem not_all {q : List UInt8} {p : UInt8 → Bool} {k : Nat} (hk : k < q.length) (h : p (q.getD k 0) = false) : q.all p = false:=by
 rw [Bool.eq_false_iff]
 intro hh
 rw [all_take hk hh] at h
 cases h

set_option maxHeartbeats 1000000 in
set_option maxRecDepth 100000 in
theorem dimension_Name.calls (a0 : ByteArray) (r : Int) (w : World) (h : dimension_Name.f a0 = some r) :
  Calls Try.prog 49 #[.string a0] w fun e w' => e = .returned (.int .i64 r) ∧ Below w.heap.size w w':=by
 obtain ⟨q,hq⟩ : ∃ q,q = a0.data.toList:=⟨_,rfl⟩
 have hsz : a0.size = q.length:=by rw [hq,Array.length_toList];rfl
 have hr : nameL q = r:=by rw [hq];exact Option.some.inj h
 clear h
 have HR:=Aside0.mk hr
 have HQ:=Aside0.mk hq
 by_cases h24 : 24 < q.length
 ·have e : r = 17:=by rw [← hr];unfold nameL;rw [if_pos h24]
  subst e
  have c1 : decide (24 < (a0.size : Int)) = true:=decide_eq_true (by omega)
  have c2 : decide (24 < a0.size) = true:=decide_eq_true (by omega)
  clear hq hr
  go_enter Try.func49,Try.ntmps49
  go_wp2
  go_ret
  exact ⟨rfl,Below.refl _ _⟩
 ·have c1 : decide (24 < (a0.size : Int)) = false:=decide_eq_false (by omega)
  have c2 : decide (24 < a0.size) = false:=decide_eq_false (by omega)
  by_cases hnil : q = []
  ·have e : r = 3:=by rw [← hr];unfold nameL;rw [if_neg h24,if_pos hnil]
   subst e
   have c3 : a0.toList = []:=by rw [ByteArray.toList_eq,← hq,hnil]
   have c4 : a0.data = #[]:=Array.toList_eq_nil_iff.1 (by rw [← hq,hnil])
   have c5 : a0.data.toList = []:=by rw [← hq,hnil]
   clear hq hr
   go_enter Try.func49,Try.ntmps49
   go_wp2
   go_ret
   exact ⟨rfl,Below.refl _ _⟩
  ·have hpos : 0 < q.length:=by
    cases q with
    | nil => exact absurd rfl hnil
    | cons _ _ => simp
   obtain ⟨b0,hb0⟩ : ∃ b0,b0 = q.headD 0:=⟨_,rfl⟩
   have c3 : ¬ a0.toList = []:=by rw [ByteArray.toList_eq,← hq];exact hnil
   have c4 : (a0.toList == ([] : List UInt8)) = false:=beq_eq_false_iff_ne.mpr c3
   have c5 : decide (a0.toList = ([] : List UInt8)) = false:=decide_eq_false c3
   have c6 : a0.toList.isEmpty = false:=by cases he : a0.toList with | nil => exact absurd he c3 | cons _ _ => rfl
   have hx6 : ∀ h : 0 < a0.size,((a0[0]'h).toNat : Int) = (b0.toNat : Int):=by
    intro h
    have : a0[0]'h = b0:=by
     rw [hb0,hq]
     have h2 : 0 < a0.data.size:=h
     show a0.data[0] = a0.data.toList.headD 0
     rw [List.headD_eq_head?_getD,List.head?_eq_getElem?,Array.getElem?_toList,Array.getElem?_eq_getElem h2]
     rfl
    rw [this]
   have q6 : (0 < a0.size) = True:=eq_true (by omega)
   have qi6 : (0 < (a0.size : Int)) = True:=eq_true (by omega)
   have hne0 : ¬ (a0.size : Int) = 0:=by omega
   by_cases hl0 : letB b0 = false
   ·have e : r = 3:=by rw [← hr];unfold nameL;rw [if_neg h24,if_neg hnil,if_pos (by rw [← hb0];exact hl0)]
    subst e
    have HL:=Aside0.mk ((letter_is b0).trans (congrArg some hl0))
    clear hq hr hl0 hb0 c3 hnil
    go_enter Try.func49,Try.ntmps49
    go_wp2_with (go_at_call 70;(with_reducible refine (dimension_letter.calls _ _ _ HL.out).mono ?_);rintro e w1 ⟨rfl,⟨q1,rfl⟩⟩)
    go_ret
    exact ⟨rfl,pw_below_drewN (Below.refl _ _) q1⟩
   ·have hl1 : letB b0 = true:=by cases hh : letB b0 with | true => rfl | false => exact absurd hh hl0
    have HL:=Aside0.mk ((letter_is b0).trans (congrArg some hl1))
    have HR2:=Aside0.mk (show (if q.all (fun b => letB b || digB b) then (0 : Int) else 3) = r from by rw [← hr];unfold nameL;rw [if_neg h24,if_neg hnil,if_neg (show ¬ letB (q.headD 0) = false by rw [← hb0];exact hl0)])
    have HQ2:=Aside0.mk (show ∀ (W : World) (j : Nat),j < q.length → (Lib.bytesWorld W 5 a0).cell? ⟨W.heap.size,j,none⟩ = some (.int .u8 (q.getD j 0).toNat) from fun W j hj => by rw [hq];exact Lib.bytesWorld_cell W 5 a0 j (by omega))
    have hconv:=fun W : World => Lib.run_convert_string_bytes (P:=Try.prog) W 9 104 5 a0 Try.underlying9 Try.underlying104 Try.underlying5
    clear hq hr hl0 hb0 c3 hnil HR HQ hl1
    go_enter Try.func49,Try.ntmps49
    go_wp2_with (go_at_call 70;(with_reducible refine (dimension_letter.calls _ _ _ HL.out).mono ?_);rintro e w1 ⟨rfl,⟨q1,rfl⟩⟩)
    go_loopw [19] (fun vi wr => ∃ (k : Nat),k ≤ q.length ∧ vi = .int .i64 (k : Int) ∧ Below w.heap.size w wr ∧ Aside0 ((∀ j,j < k → (letB (q.getD j 0) || digB (q.getD j 0)) = true) ∧ (∀ j,j < q.length → wr.cell? ⟨w.heap.size,j,none⟩ = some (.int .u8 (q.getD j 0).toNat)))) (fun vi _ => q.length - (intOf vi).toNat)
    case atStart => exact ⟨0,by omega,rfl,below_bytes (pw_below_drewN (Below.refl _ _) q1) (Nat.le_refl _) _ _,⟨fun j hj => absurd hj (by omega),fun j hj => by have:=HQ2.out (w.drewN q1) j hj;exact this⟩⟩
    case round =>
     obtain ⟨k,hk,rfl,hB,HI⟩:=hrel
     by_cases hlt : k < q.length
     ·obtain ⟨b,hb⟩ : ∃ b,b = q.getD k 0:=⟨_,rfl⟩
      have hcb : wr.cell? ⟨w.heap.size,k,none⟩ = some (.int .u8 b.toNat):=by rw [hb];exact HI.out.2 k hlt
      have HB:=Aside0.mk hb
      clear hb
      by_cases hl : letB b = true
      ·have HL2:=Aside0.mk ((letter_is b).trans (congrArg some hl))
       have HL3:=Aside0.mk hl
       clear hl
       go_wp2_with (go_at_call 70;(with_reducible refine (dimension_letter.calls _ _ _ HL2.out).mono ?_);rintro e w1 ⟨rfl,⟨q2,rfl⟩⟩)
       go_roundw
       case rel => exact ⟨k + 1,by omega,by go_num,pw_below_drewN hB q2,⟨fun j hj => by
        by_cases e : j = k
        ·rw [e,← HB.out,HL3.out];rfl
        ·exact HI.out.1 j (by omega),HI.out.2⟩⟩
       case measure => (simp [intOf] <;> omega)
      ·replace hl : letB b = false:=Bool.eq_false_iff.mpr hl
       have HL2:=Aside0.mk ((letter_is b).trans (congrArg some hl))
       by_cases hd : digB b = true
       ·have HD2:=Aside0.mk ((digit_is b).trans (congrArg some hd))
        have HD3:=Aside0.mk hd
        clear hl hd
        go_wp2_with (first | (go_at_call 70;(with_reducible refine (dimension_letter.calls _ _ _ HL2.out).mono ?_);rintro e w1 ⟨rfl,⟨q2,rfl⟩⟩) | (go_at_call 71;(with_reducible refine (dimension_digit.calls _ _ _ HD2.out).mono ?_);rintro e w1 ⟨rfl,⟨q3,rfl⟩⟩))
        go_roundw
        case rel => exact ⟨k + 1,by omega,by go_num,by repeat (first | exact hB | refine pw_below_drewN ?_ _),⟨fun j hj => by
         by_cases e : j = k
         ·rw [e,← HB.out,HD3.out,Bool.or_true]
         ·exact HI.out.1 j (by omega),HI.out.2⟩⟩
        case measure => (simp [intOf] <;> omega)
       ·replace hd : digB b = false:=Bool.eq_false_iff.mpr hd
        have HD2:=Aside0.mk ((digit_is b).trans (congrArg some hd))
        have e : r = 3:=by
         have h1:=HR2.out
         rw [not_all hlt (by rw [← HB.out,hl,hd];rfl)] at h1
         exact h1.symm.trans (if_neg (by decide))
        subst e
        clear hl hd
        go_wp2_with (first | (go_at_call 70;(with_reducible refine (dimension_letter.calls _ _ _ HL2.out).mono ?_);rintro e w1 ⟨rfl,⟨q2,rfl⟩⟩) | (go_at_call 71;(with_reducible refine (dimension_digit.calls _ _ _ HD2.out).mono ?_);rintro e w1 ⟨rfl,⟨q3,rfl⟩⟩))
        go_ret
        exact ⟨rfl,by repeat (first | exact hB | refine pw_below_drewN ?_ _)⟩
     ·obtain rfl : k = q.length:=by omega
      have e : r = 0:=by
       have h1:=HR2.out
       rw [if_pos (all_of_take HI.out.1)] at h1
       exact h1.symm
      subst e
      go_wp2
      go_ret
      exact ⟨rfl,hB⟩

end Go.Proofs.Ytnmmdeonkpfccaa.Pr
