/- A part of the statement's proof. -/
import Derived.Test.YtnmmdeonkpfccaaProg
import Derived.Below
import Derived.Deep.Draws
import Derived.Deep.AppendLies
import Derived.Maps.AppendAt
import Derived.OwnWalk
import Derived.Laws.BytesArg
import Derived.Laws.MakeOwn
import Derived.Laws.OwnMore
import Derived.Deep.OwnRows
import Derived.Tactics
import Derived.Lib.ConvBytes
import Derived.Laws.Slices
import Derived.WalkKit
import Derived.KernelRfl
import Derived.RowKit3
import Derived.Deep.LoopGhost
import Derived.Deep.QuietTactic
import Derived.BigQuiet
import Derived.WideLaws
import Derived.Deep.DeepCutAuto
import Derived.Deep.CutBlock
import Derived.Deep.RegionHeld3
import Derived.Laws.Rows
import Derived.Lib.AppendStr
import Derived.ArgAppend
import Derived.Laws.IdiomCopy
import Derived.OrdersHeld
import Derived.Laws.BitsLemmas
import Derived.RowKit
import Derived.Test.YtnmmdeonkpfccaaDGaugesWWords
import Derived.Test.YtnmmdeonkpfccaaDGaugesWLast
import Derived.Test.YtnmmdeonkpfccaaDGaugesWApart
import Derived.Test.YtnmmdeonkpfccaaDGaugesWFoot
import Derived.Test.YtnmmdeonkpfccaaDGaugesWKept
import Derived.Test.YtnmmdeonkpfccaaDGaugesWShare
import Derived.Test.YtnmmdeonkpfccaaDGaugesWN
import Derived.Laws.StructEq
import Derived.Test.YtnmmdeonkpfccaaDGaugesWRepsOne
import Derived.Test.YtnmmdeonkpfccaaDGaugesWMore
import Derived.RangeFuncNested
import Derived.RangeFuncBound
import Derived.RangeFuncCalls
import Derived.RangeFuncLeaves
import Derived.RangeFuncBox
import Derived.Shelf.Abstract
import Derived.OwnWalkIn
import Derived.TacticsInMore
import Derived.LoopNIn
import Derived.LoopIn
import Derived.Lib.Hide
import Derived.Test.YtnmmdeonkpfccaaDGauges1
import Derived.Maps.OwnIn
import Derived.Sort.KeysCollected
import Derived.Lib.SlMapFilter
import Derived.RangeFuncSeq
import Derived.BigFrame
namespace Go.Proofs.Ytnmmdeonkpfccaa.Pr
open Go.RowKit Go.Proofs.YtnmmdeonkpfccaaW.PrintWords Go.Proofs.YtnmmdeonkpfccaaW.PrintLast Go.Proofs.YtnmmdeonkpfccaaW.PrintMore
attribute [local go_sem] max2_int min2_int max_two min_two max_three min_three max_four min_four
set_option linter.unusedVariables false
set_option linter.unusedSimpArgs false
def errW : Option Int → Value
 | none => .nilIface
 | some c => .iface 0 (.int .i64 c)
theorem errW_none : errW none = .nilIface:=rfl
theorem errW_some (c : Int) : errW (some c) = .iface 0 (.int .i64 c):=rfl
theorem info3 : (Try.prog.info? 3).map (fun i => (i.zero,i.size,i.bytes)) = some (some (.int .i64 0),1,8):=by kernel_rfl
theorem info51 : (Try.prog.info? 51).map (fun i => (i.zero,i.size,i.bytes)) = some (some (.agg #[(.int .i64 0),(.string ⟨#[]⟩),(.string ⟨#[]⟩),(.string ⟨#[]⟩)]),4,56):=by kernel_rfl
theorem info67 : (Try.prog.info? 67).map (fun i => (i.zero,i.size,i.bytes)) = some (some (.agg #[(.int .i64 0),(.string ⟨#[]⟩),(.string ⟨#[]⟩),(.string ⟨#[]⟩)]),4,56):=by kernel_rfl
structure S51 where
 f0 : Int
 f1 : ByteArray
 f2 : ByteArray
 f3 : ByteArray
def z51 : S51:=⟨(0 : Int),(⟨#[]⟩ : ByteArray),(⟨#[]⟩ : ByteArray),(⟨#[]⟩ : ByteArray)⟩
def k51 : Kd S51:=Kd.iso (Kd.pair (Kd.int .i64) (Kd.pair Kd.string (Kd.pair Kd.string Kd.string))) (fun x : S51 => (x.f0,x.f1,x.f2,x.f3))
theorem k51_open {w : World} {x : S51} {cs : List Value} (h : k51.K w x cs) : cs = [.int .i64 x.f0,.string x.f1,.string x.f2,.string x.f3]:=by
 obtain ⟨_,_,rfl,rfl,⟨_,_,rfl,rfl,⟨_,_,rfl,rfl,rfl⟩⟩⟩:=h
 exact rfl
theorem k51_mk (w : World) (x : S51)  : k51.K w x [.int .i64 x.f0,.string x.f1,.string x.f2,.string x.f3]:=⟨[.int .i64 x.f0],[.string x.f1,.string x.f2,.string x.f3],rfl,rfl,⟨[.string x.f1],[.string x.f2,.string x.f3],rfl,rfl,⟨[.string x.f2],[.string x.f3],rfl,rfl,rfl⟩⟩⟩
theorem k51_mkM (w : World) (base : Nat) (ok : Nat → Prop) (x : S51)  : k51.M w base ok x [.int .i64 x.f0,.string x.f1,.string x.f2,.string x.f3]:=⟨[.int .i64 x.f0],[.string x.f1,.string x.f2,.string x.f3],rfl,rfl,⟨[.string x.f1],[.string x.f2,.string x.f3],rfl,rfl,⟨[.string x.f2],[.string x.f3],rfl,rfl,rfl⟩⟩⟩
def rd_T51 (xs : List S51) (i : Int) : S51:=xs.getD i.toNat z51
theorem at_T51 {w : World} {A : Option Addr} {n : Nat} {xs : List S51} (h : Kd.C k51 w A n xs) (i : Int) (h0 : 0 ≤ i) (h1 : i < n) : ∃ ad ,A = some ad ∧ w.cell? (ad.add (i.toNat * 4)) = some (.int .i64 (rd_T51 xs i).f0) ∧ w.cell? ⟨(ad.add (i.toNat * 4)).block,(ad.add (i.toNat * 4)).off + 1,none⟩ = some (.string (rd_T51 xs i).f1) ∧ w.cell? ⟨(ad.add (i.toNat * 4)).block,(ad.add (i.toNat * 4)).off + 2,none⟩ = some (.string (rd_T51 xs i).f2) ∧ w.cell? ⟨(ad.add (i.toNat * 4)).block,(ad.add (i.toNat * 4)).off + 3,none⟩ = some (.string (rd_T51 xs i).f3):=by
 obtain ⟨ad,c,e,_,hK,hc0⟩:=Kd.C_get h z51 i h0 h1
 have hc : ∀ j u,c[j]? = some u → w.cell? (ad.add (i.toNat * 4 + j)) = some u:=hc0
 obtain rfl:=k51_open hK
 exact ⟨ad,e,hc 0 _ rfl,by rw [← add_field _ _ 1 (by omega)];exact hc 1 _ rfl,by rw [← add_field _ _ 2 (by omega)];exact hc 2 _ rfl,by rw [← add_field _ _ 3 (by omega)];exact hc 3 _ rfl⟩
structure S67 where
 f0 : Int
 f1 : ByteArray
 f2 : ByteArray
 f3 : ByteArray
def z67 : S67:=⟨(0 : Int),(⟨#[]⟩ : ByteArray),(⟨#[]⟩ : ByteArray),(⟨#[]⟩ : ByteArray)⟩
def k67 : Kd S67:=Kd.iso (Kd.pair (Kd.int .i64) (Kd.pair Kd.string (Kd.pair Kd.string Kd.string))) (fun x : S67 => (x.f0,x.f1,x.f2,x.f3))
theorem k67_open {w : World} {x : S67} {cs : List Value} (h : k67.K w x cs) : cs = [.int .i64 x.f0,.string x.f1,.string x.f2,.string x.f3]:=by
 obtain ⟨_,_,rfl,rfl,⟨_,_,rfl,rfl,⟨_,_,rfl,rfl,rfl⟩⟩⟩:=h
 exact rfl
theorem k67_mkM (w : World) (base : Nat) (ok : Nat → Prop) (x : S67)  : k67.M w base ok x [.int .i64 x.f0,.string x.f1,.string x.f2,.string x.f3]:=⟨[.int .i64 x.f0],[.string x.f1,.string x.f2,.string x.f3],rfl,rfl,⟨[.string x.f1],[.string x.f2,.string x.f3],rfl,rfl,⟨[.string x.f2],[.string x.f3],rfl,rfl,rfl⟩⟩⟩
def rd_T67 (xs : List S67) (i : Int) : S67:=xs.getD i.toNat z67
theorem at_T67 {w : World} {A : Option Addr} {n : Nat} {xs : List S67} (h : Kd.C k67 w A n xs) (i : Int) (h0 : 0 ≤ i) (h1 : i < n) : ∃ ad ,A = some ad ∧ w.cell? (ad.add (i.toNat * 4)) = some (.int .i64 (rd_T67 xs i).f0) ∧ w.cell? ⟨(ad.add (i.toNat * 4)).block,(ad.add (i.toNat * 4)).off + 1,none⟩ = some (.string (rd_T67 xs i).f1) ∧ w.cell? ⟨(ad.add (i.toNat * 4)).block,(ad.add (i.toNat * 4)).off + 2,none⟩ = some (.string (rd_T67 xs i).f2) ∧ w.cell? ⟨(ad.add (i.toNat * 4)).block,(ad.add (i.toNat * 4)).off + 3,none⟩ = some (.string (rd_T67 xs i).f3):=by
 obtain ⟨ad,c,e,_,hK,hc0⟩:=Kd.C_get h z67 i h0 h1
 have hc : ∀ j u,c[j]? = some u → w.cell? (ad.add (i.toNat * 4 + j)) = some u:=hc0
 obtain rfl:=k67_open hK
 exact ⟨ad,e,hc 0 _ rfl,by rw [← add_field _ _ 1 (by omega)];exact hc 1 _ rfl,by rw [← add_field _ _ 2 (by omega)];exact hc 2 _ rfl,by rw [← add_field _ _ 3 (by omega)];exact hc 3 _ rfl⟩
structure S101 where
 f0 : ByteArray
 f1 : Bool
def z101 : S101:=⟨(⟨#[]⟩ : ByteArray),false⟩
def k101 : Kd S101:=Kd.iso (Kd.pair Kd.string Kd.bool) (fun x : S101 => (x.f0,x.f1))
theorem k101_open {w : World} {x : S101} {cs : List Value} (h : k101.K w x cs) : cs = [.string x.f0,.bool x.f1]:=by
 obtain ⟨_,_,rfl,rfl,rfl⟩:=h
 exact rfl
theorem k101_mkM (w : World) (base : Nat) (ok : Nat → Prop) (x : S101)  : k101.M w base ok x [.string x.f0,.bool x.f1]:=⟨[.string x.f0],[.bool x.f1],rfl,rfl,rfl⟩
def rd_T101 (xs : List S101) (i : Int) : S101:=xs.getD i.toNat z101
theorem at_T101 {w : World} {A : Option Addr} {n : Nat} {xs : List S101} (h : Kd.C k101 w A n xs) (i : Int) (h0 : 0 ≤ i) (h1 : i < n) : ∃ ad ,A = some ad ∧ w.cell? (ad.add (i.toNat * 2)) = some (.string (rd_T101 xs i).f0) ∧ w.cell? ⟨(ad.add (i.toNat * 2)).block,(ad.add (i.toNat * 2)).off + 1,none⟩ = some (.bool (rd_T101 xs i).f1):=by
 obtain ⟨ad,c,e,_,hK,hc0⟩:=Kd.C_get h z101 i h0 h1
 have hc : ∀ j u,c[j]? = some u → w.cell? (ad.add (i.toNat * 2 + j)) = some u:=hc0
 obtain rfl:=k101_open hK
 exact ⟨ad,e,hc 0 _ rfl,by rw [← add_field _ _ 1 (by omega)];exact hc 1 _ rfl⟩
end Go.Proofs.Ytnmmdeonkpfccaa.Pr
set_option linter.unusedVariables false
namespace Go.Proofs.Ytnmmdeonkpfccaa.Pr
open Go.RowKit Go.Shelf Go.Proofs.YtnmmdeonkpfccaaW.PrintWords Go.Proofs.YtnmmdeonkpfccaaW.PrintLast Go.Proofs.YtnmmdeonkpfccaaW.PrintMore
open Go.Proofs.Ytnmmdeonkpfccaa.Rg
attribute [local go_sem] Oper.semAt_some
def evV (x : S51) : Value:=.agg #[.int .i64 x.f0,.string x.f1,.string x.f2,.string x.f3]
def encIE (p : Int × S51) : Array Value:=#[.int .i64 p.1,evV p.2]
def backK (l : List S51) (k : Nat) : List (Int × S51):=(List.range k).map fun (j : Nat) => ((l.length : Int) - 1 - j,l.getD (l.length - 1 - j) z51)
theorem backK_succ (l : List S51) (k : Nat) : backK l (k + 1) = backK l k ++ [((l.length : Int) - 1 - k,l.getD (l.length - 1 - k) z51)]:=by simp [backK,List.range_succ]
theorem backK_len (l : List S51) (k : Nat) : (backK l k).length = k:=by simp [backK]
set_option maxRecDepth 100000 in
set_option maxHeartbeats 1000000 in
theorem back_seq (C : Nat → Prop) (A0 : Option Addr) (c0 B : Nat) (l : List S51) (w0 : World) (hl : l.length ≤ 4096) (hr0 : Kd.C k51 w0 A0 l.length l) (hA : ∀ ad,A0 = some ad → l ≠ [] → ¬ C ad.block) (hB : w0.cell? ⟨B,0,none⟩ = some (.slice A0 l.length c0)) (hCB : ¬ C B) :
  SeqB Try.prog 84 #[.pointer (some ⟨B,0,none⟩)] encIE C (fun xs => xs = backK l l.length) (fun ys => ∃ k,k ≤ l.length ∧ ys = backK l k) w0:=by
 intro n lp J W hW hC hJ hY h0
 show CallsIn Fence.wide n Try.prog 84 #[.func (.yield lp) #[] #[],.pointer (some ⟨B,0,none⟩)] W _
 have hsame0 : ∀ i,i < w0.heap.size → ¬ C i → W.heap[i]? = w0.heap[i]?:=fun i hi _ => hW.block i hi
 have hcB : W.cell? ⟨B,0,none⟩ = some (.slice A0 l.length c0):=(World.cell?_of_block (hW.block B (World.block_lt_of_cell? w0 _ hB))).trans hB
 have HR0:=Aside0.mk hr0
 have HB0:=Aside0.mk hB
 have hnb : (l.length : Int) ≤ 4096:=by omega
 clear hr0 hB
 refine callsIn_of_wp Try.func84 rfl trivial ?_ rfl
 simp only [Try.ntmps84,List.size_toArray,List.length_cons,List.length_nil,Nat.reduceAdd,Nat.reduceSub,Array.replicate_succ,Array.replicate_zero,List.push_toArray,List.append_toArray,List.nil_append,List.cons_append]
 gi_wp2
 gi_loopw [3] (fun v wr => ∃ (k : Nat) (z : Int),k ≤ l.length ∧ v = .int .i64 z ∧ Aside0 (z = (l.length : Int) - 1 - k) ∧ Aside0 (J (backK l k) wr) ∧ Aside0 (∀ i,i < w0.heap.size → ¬ C i → wr.heap[i]? = w0.heap[i]?) ∧ W.heap.size ≤ wr.heap.size) (fun v _ => (intOf v + 1).toNat)
 case atStart => exact ⟨0,(l.length : Int) - 1,by omega,rfl,⟨by omega⟩,⟨h0⟩,⟨hsame0⟩,Nat.le_refl _⟩
 case round =>
  obtain ⟨k,z,hk,rfl,HZ,HJ,HS,hsz⟩:=hrel
  by_cases hlt : k < l.length
  ·have hz0 : 0 ≤ z:=by rw [HZ.out];omega
   have hz1 : z < (l.length : Int):=by rw [HZ.out];omega
   obtain ⟨x,hx⟩ : ∃ x,x = l.getD (l.length - 1 - k) z51:=⟨_,rfl⟩
   have hrd : rd_T51 l z = x:=by unfold rd_T51;rw [hx,HZ.out];congr 1;omega
   obtain ⟨ad,e1,hx0,hx1,hx2,hx3⟩:=at_T51 HR0.out z hz0 hz1
   cases e1
   rw [hrd] at hx0 hx1 hx2 hx3
   have hnc : ¬ C (ad.add (z.toNat * 4)).block:=by
    have:=hA ad rfl (fun e => by rw [e] at hlt;simp at hlt)
    unfold Addr.add
    split
    ·exact this
    ·exact this
   have hst : ∀ {a : Addr} {v : Value},a.block = (ad.add (z.toNat * 4)).block → w0.cell? a = some v → wr.cell? a = some v:=fun {a v} hb h => by
    have hlt':=World.block_lt_of_cell? w0 _ h
    obtain ⟨b,o,s⟩:=a
    exact (World.cell?_of_block (HS.out b hlt' (by rw [show b = _ from hb];exact hnc))).trans h
   replace hx0:=hst (by rfl) hx0
   replace hx1:=hst (by rfl) hx1
   replace hx2:=hst (by rfl) hx2
   replace hx3:=hst (by rfl) hx3
   have hcb : wr.cell? ⟨B,0,none⟩ = some (.slice (some ad) l.length c0):=(World.cell?_of_block (HS.out B (World.block_lt_of_cell? w0 _ HB0.out) hCB)).trans HB0.out
   obtain ⟨fn,tmps,assign,body,hy,hR⟩:=hY (n - 1) (backK l k) (z,x) wr HJ.out hsz ⟨k + 1,hlt,by rw [backK_succ,← HZ.out,hx]⟩
   simp only [encIE,evV] at hy
   have HX:=Aside0.mk hx
   clear hx hrd hst hcB hsame0 hY
   gi_wp2
   refine ⟨fun h => absurd h (by decide),hR.mono ?_⟩
   rintro e W3 ⟨rfl,hJ3,hk3⟩
   have HJ3:=Aside0.mk hJ3
   have HK3:=Aside0.mk hk3
   clear hJ3 hk3 hx0 hx1 hx2 hx3 hcb
   gi_wp2
   go_roundw
   case rel => exact ⟨k + 1,z - 1,by omega,rfl,⟨by rw [HZ.out];omega⟩,⟨by rw [backK_succ,← HZ.out,← HX.out];exact HJ3.out⟩,⟨fun i hi hc => (HK3.out.same i (by have:=hW.size;omega) hc).trans (HS.out i hi hc)⟩,Nat.le_trans hsz HK3.out.size⟩
   case measure => simp [intOf];omega
  ·obtain rfl : k = l.length:=by omega
   have hz1 : z = -1:=by rw [HZ.out];omega
   subst hz1
   gi_wp2
   go_end0
   exact ⟨⟨_,rfl⟩,hsz,_,rfl,HJ.out⟩
set_option maxHeartbeats 1000000 in
theorem back_in (n : Nat) (A0 : Option Addr) (c0 k : Nat) (w : World) :
  CallsIn Fence.wide n Try.prog 65 #[.slice A0 k c0] w fun e w' => e = .returned (.func (.func 84) #[] #[.pointer (some ⟨w.heap.size,0,none⟩)]) ∧ w' = w.alloc (.cells #[.slice A0 k c0] 22):=by
 refine callsIn_of_wp Try.func65 rfl trivial ?_ rfl
 simp only [Try.ntmps65,List.size_toArray,List.length_cons,List.length_nil,Nat.reduceAdd,Nat.reduceSub,Array.replicate_succ,Array.replicate_zero,List.push_toArray,List.append_toArray,List.nil_append,List.cons_append]
 gi_wp2
 go_ret
 exact ⟨rfl,rfl⟩
theorem states_in (n : Nat) (A0 : Option Addr) (c0 k : Nat) (w : World) :
  CallsIn Fence.wide n Try.prog 38 #[.slice A0 k c0] w fun e w' => e = .returned (.func (.func 64) #[] #[.pointer (some ⟨w.heap.size,0,none⟩)]) ∧ w' = w.alloc (.cells #[.slice A0 k c0] 22):=by
 refine callsIn_of_wp Try.func38 rfl trivial ?_ rfl
 simp only [Try.ntmps38,List.size_toArray,List.length_cons,List.length_nil,Nat.reduceAdd,Nat.reduceSub,Array.replicate_succ,Array.replicate_zero,List.push_toArray,List.append_toArray,List.nil_append,List.cons_append]
 gi_wp2
 go_ret
 exact ⟨rfl,rfl⟩
end Go.Proofs.Ytnmmdeonkpfccaa.Pr
set_option linter.unusedVariables false
namespace Go.Proofs.Ytnmmdeonkpfccaa.Rg
open Go Go.RowKit Go.Maps
def RV (v : Value) : Option (DataW Value × List MemPlace):=some (.held v,[])
def heldOr (o : Option Value) (z : DataW Value) : DataW Value:=match o with | some v => .held v | none => z
def Tells (D : DataW Value) (f : List UInt8 → Option Value) : Prop:=∀ q,Maps.has D (.string q) = (f q).isSome ∧ ∀ z,D.atKey (.string q) z = heldOr (f q) z
def MapF (P : Program) (k : TypeId) (w : World) (b n : Nat) (f : List UInt8 → Option Value) : Prop:=∃ D : DataW Value,w.ownsMap P k RV b n D ∧ Tells D f
variable {P : Program} {k : TypeId} {w : World} {b n : Nat} {f : List UInt8 → Option Value}
theorem MapF.made (w : World) (P : Program) (k : TypeId) : MapF P k (w.alloc (.map #[] 0)) w.heap.size 0 (fun _ => none) :=
 ⟨_,World.ownsMap_made w P k RV,fun _ => ⟨rfl,fun _ => rfl⟩⟩
theorem MapF.kept {w' : World} {row : Option Nat} (h : MapF P k w b n f) (hg : w.grownBy w' row) (hne : some b ≠ row) : MapF P k w' b n f :=
 let ⟨D,h1,h2⟩:=h;⟨D,h1.kept hg hne,h2⟩
theorem MapF.alloc (h : MapF P k w b n f) (o : Obj) : MapF P k (w.alloc o) b n f:=let ⟨D,h1,h2⟩:=h;⟨D,h1.alloc o,h2⟩
theorem MapF.lt (h : MapF P k w b n f) : b < w.heap.size:=let ⟨_,h1,_⟩:=h;h1.lt
theorem MapF.mono (h : MapF P k w b n f) {n' : Nat} (hn : n ≤ n') : MapF P k w b n' f:=let ⟨D,h1,h2⟩:=h;⟨D,h1.mono hn,h2⟩
theorem MapF.same {w' : World} (h : MapF P k w b n f) (he : w'.heap[b]? = w.heap[b]?) : MapF P k w' b n f:=by
 obtain ⟨D,⟨es,clock,hb,F,hs,hD⟩,h2⟩:=h
 exact ⟨D,⟨es,clock,he.trans hb,F,hs,hD⟩,h2⟩
theorem MapF.setCell (h : MapF P k w b n f) {a : Addr} (ha : b ≠ a.block) (u : Value) : MapF P k (w.setCell a u) b n f:=let ⟨D,h1,h2⟩:=h;⟨D,h1.setCell ha u,h2⟩
theorem MapF.isMap (h : MapF P k w b n f) : ∃ es clock,w.heap[b]? = some (.map es clock):=let ⟨_,⟨es,c,hb,_⟩,_⟩:=h;⟨es,c,hb⟩
def putF (f : List UInt8 → Option Value) (q : List UInt8) (v : Value) : List UInt8 → Option Value:=fun r => if r = q then some v else f r
theorem keyS (q : List UInt8) : WideAt.IsKeyLit (.string q):=by unfold WideAt.IsKeyLit;exact trivial
theorem Tells.put {D : DataW Value} (hD : Maps.IsMap D) (h : Tells D f) (q : List UInt8) (v : Value) : Tells (D.put (.string q) (.held v)) (putF f q v):=fun r => by
 unfold putF
 by_cases e : r = q
 ·subst e
  rw [if_pos rfl]
  exact ⟨has_put_same hD (keyS r) _,fun z => atKey_put_same hD (keyS r) _ z⟩
 ·have hne : Lit.string r ≠ Lit.string q:=fun h => e (by cases h;rfl)
  rw [if_neg e]
  exact ⟨(has_put_other hne _).trans (h r).1,fun z => (atKey_put_other hne _ z).trans ((h r).2 z)⟩
theorem MapF.look (h : MapF P k w b n f) {t e : TypeId} (hk : P.underlying k = some .string) (ht : P.underlying t = some (.map k e)) {z : Value} (hz : (zeroValue e).run P w = .ok z w) {s : ByteArray} (hs : s.size ≤ maxLen) (c : Bool) :
  (Instr.lookup t (.map (some b)) (.string s) c).run P w = .ok (if c then .tuple #[(f s.data.toList).getD z,.bool (f s.data.toList).isSome] else (f s.data.toList).getD z) w:=by
 obtain ⟨D,h1,h2⟩:=h
 have hv : ∀ {v : Value} {ps : List MemPlace},RV v = some (D.atKey (.string s.data.toList) (.held z),ps) → v = (f s.data.toList).getD z:=by
  intro v ps hh
  have hh:=congrArg Prod.fst (Option.some.inj hh)
  rw [(h2 _).2] at hh
  cases hf : f s.data.toList with
  | none => rw [hf] at hh;cases hh;rfl
  | some u => rw [hf] at hh;cases hh;rfl
 cases c
 ·obtain ⟨v,ps,hrun,hr⟩:=h1.lookup (string_keyed hk) ht hz (zd:=.held z) (zp:=[]) rfl (WideMaps.keyOf_string_mk hk hs)
  rw [hrun,hv hr];rfl
 ·obtain ⟨v,ps,hrun,hr⟩:=h1.look_ok (string_keyed hk) ht hz (zd:=.held z) (zp:=[]) rfl (WideMaps.keyOf_string_mk hk hs)
  rw [hrun,hv hr,(h2 _).1];rfl
theorem MapF.store (h : MapF P k w b n f) {t e : TypeId} (hk : P.underlying k = some .string) (ht : P.underlying t = some (.map k e)) (hn : n < maxLen) {s : ByteArray} (hs : s.size ≤ maxLen) (v : Value) :
  ∃ w',(Instr.mapUpdate t (.map (some b)) (.string s) v).run P w = .ok () w' ∧ MapF P k w' b (n + 1) (putF f s.data.toList v) ∧ w.grownBy w' (some b):=by
 obtain ⟨D,h1,h2⟩:=h
 obtain ⟨w',r1,r2,r3⟩:=h1.update (string_keyed hk) ht hn (WideMaps.keyOf_string_mk hk hs) (val:=v) (d:=.held v) (ps:=[]) rfl
 exact ⟨w',r1,⟨_,r2,h2.put h1.isMap _ _⟩,r3⟩
section
variable {ops : Array Oper} {rest : List Oper} {o : Oper} {a : Act} {Q : Exit → Act → World → Prop}
theorem wpList_lookF (hg : o.guard = none) (m x : Operand) (t : TypeId) (hop : o.op = Op.lookup t m x false) (k e : TypeId) (hk : P.underlying k = some .string) (ht : P.underlying t = some (.map k e)) {z : Value} (hz : (zeroValue e).run P w = .ok z w)
  (hm : a.eval m = .map (some b)) (hown : MapF P k w b n f) (s : ByteArray) (hx : a.eval x = .string s) (hs : s.size ≤ maxLen) (v : Value) (hv : (f s.data.toList).getD z = v)
  (hK : wpList P ops Q rest (a.put o.dst v) w) : wpList P ops Q (o :: rest) a w:=by
 refine wpList_plain hg fun K' hK' => ?_
 have hrun:=hown.look hk ht hz hs false
 rw [if_neg (by decide),hv] at hrun
 unfold Oper.wp
 simp [execOp,hop,hm,hx,hrun,Result.andThen]
 exact hK' _ _ hK
theorem wpList_lookF_ok (hg : o.guard = none) (m x : Operand) (t : TypeId) (hop : o.op = Op.lookup t m x true) (k e : TypeId) (hk : P.underlying k = some .string) (ht : P.underlying t = some (.map k e)) {z : Value} (hz : (zeroValue e).run P w = .ok z w)
  (hm : a.eval m = .map (some b)) (hown : MapF P k w b n f) (s : ByteArray) (hx : a.eval x = .string s) (hs : s.size ≤ maxLen) (v : Value) (hv : (f s.data.toList).getD z = v) (c : Bool) (hc : (f s.data.toList).isSome = c)
  (hK : wpList P ops Q rest (a.put o.dst (.tuple #[v,.bool c])) w) : wpList P ops Q (o :: rest) a w:=by
 refine wpList_plain hg fun K' hK' => ?_
 have hrun:=hown.look hk ht hz hs true
 rw [if_pos rfl,hv,hc] at hrun
 unfold Oper.wp
 simp [execOp,hop,hm,hx,hrun,Result.andThen]
 exact hK' _ _ hK
theorem wpList_storeF (hg : o.guard = none) (m x v : Operand) (t : TypeId) (hop : o.op = Op.mapUpdate t m x v) (k e : TypeId) (hk : P.underlying k = some .string) (ht : P.underlying t = some (.map k e))
  (hm : a.eval m = .map (some b)) (hown : MapF P k w b n f) (hn : n < maxLen) (s : ByteArray) (hx : a.eval x = .string s) (hs : s.size ≤ maxLen) (u : Value) (hv : a.eval v = u)
  (hK : ∀ w',MapF P k w' b (n + 1) (putF f s.data.toList u) → w.grownBy w' (some b) → wpList P ops Q rest (a.put o.dst undef) w') : wpList P ops Q (o :: rest) a w:=by
 refine wpList_plain hg fun K' hK' => ?_
 obtain ⟨w',hrun,r1,r2⟩:=hown.store hk ht hn hs u
 unfold Oper.wp
 simp [execOp,hop,hm,hx,hv,hrun,Result.andThen]
 exact hK' _ _ (hK w' r1 r2)
variable {F : Fence} {nF : Nat}
theorem wpListIn_lookF_ok (hg : o.guard = none) (m x : Operand) (t : TypeId) (hop : o.op = Op.lookup t m x true) (k e : TypeId) (hk : P.underlying k = some .string) (ht : P.underlying t = some (.map k e)) {z : Value} (hz : (zeroValue e).run P w = .ok z w)
  (hm : a.eval m = .map (some b)) (hown : MapF P k w b n f) (s : ByteArray) (hx : a.eval x = .string s) (hs : s.size ≤ maxLen) (v : Value) (hv : (f s.data.toList).getD z = v) (c : Bool) (hc : (f s.data.toList).isSome = c)
  (hK : wpListIn F nF P ops Q rest (a.put o.dst (.tuple #[v,.bool c])) w) : wpListIn F nF P ops Q (o :: rest) a w:=by
 refine wpListIn_plain hg fun K' hK' => ?_
 have hrun:=hown.look hk ht hz hs true
 rw [if_pos rfl,hv,hc] at hrun
 unfold Oper.wpIn
 refine ⟨by simp [Oper.about,hop],?_⟩
 rw [Oper.semAt_plain F _ _ (by rw [hop];intro c hc';cases hc')]
 simp [execOp,hop,hm,hx,hrun,Result.andThen]
 exact hK' _ _ hK
theorem wpListIn_storeF (hg : o.guard = none) (m x v : Operand) (t : TypeId) (hop : o.op = Op.mapUpdate t m x v) (k e : TypeId) (hk : P.underlying k = some .string) (ht : P.underlying t = some (.map k e))
  (hm : a.eval m = .map (some b)) (hown : MapF P k w b n f) (hn : n < maxLen) (s : ByteArray) (hx : a.eval x = .string s) (hs : s.size ≤ maxLen) (u : Value) (hv : a.eval v = u)
  (hK : ∀ w',MapF P k w' b (n + 1) (putF f s.data.toList u) → w.grownBy w' (some b) → wpListIn F nF P ops Q rest (a.put o.dst undef) w') : wpListIn F nF P ops Q (o :: rest) a w:=by
 refine wpListIn_plain hg fun K' hK' => ?_
 obtain ⟨w',hrun,r1,r2⟩:=hown.store hk ht hn hs u
 unfold Oper.wpIn
 refine ⟨by simp [Oper.about,hop],?_⟩
 rw [Oper.semAt_plain F _ _ (by rw [hop];intro c hc';cases hc')]
 simp [execOp,hop,hm,hx,hv,hrun,Result.andThen]
 exact hK' _ _ (hK w' r1 r2)
end
theorem MapF.keys (h : MapF P k w b n f) (hk : P.underlying k = some .string) : ∃ D : DataW Value,w.ownsMap P k RV b n D ∧ Tells D f ∧ (strKeys D).Nodup ∧ (∀ q,q ∈ strKeys D ↔ (f q).isSome = true) ∧ Maps.size D ≤ n:=by
 obtain ⟨D,h1,h2⟩:=h
 refine ⟨D,h1,h2,?_,?_,h1.size_le⟩
 ·obtain ⟨es,hD,hpw,_⟩:=h1.entries (string_keyed hk)
  obtain ⟨es',hD',hko⟩:=h1.keysOf
  obtain rfl : es = es':=by rw [hD] at hD';simpa using hD'
  subst hD
  show (es.map fun p => strOf p.1).Nodup
  refine List.pairwise_map.2 (hpw.imp_of_mem fun {p q} hp' hq' hne e => hne ?_)
  obtain ⟨v,hv⟩:=hko p hp'
  obtain ⟨u,hu⟩:=hko q hq'
  obtain ⟨x,_,hx,_⟩:=Maps.keyOf_str hk hv
  obtain ⟨y,_,hy,_⟩:=Maps.keyOf_str hk hu
  rw [hx,hy] at e ⊢
  exact congrArg _ e
 ·intro q
  rw [← (h2 q).1]
  obtain ⟨es,hD,hko⟩:=h1.keysOf
  subst hD
  rw [has_eq,List.any_eq_true]
  show q ∈ es.map (fun p => strOf p.1) ↔ _
  rw [List.mem_map]
  constructor
  ·rintro ⟨p,hp,rfl⟩
   obtain ⟨v,hv⟩:=hko p hp
   obtain ⟨x,_,hx,_⟩:=Maps.keyOf_str hk hv
   exact ⟨p,hp,by rw [hx];exact WideAt.sameKey_self (keyS _)⟩
  ·rintro ⟨p,hp,hs⟩
   have:=(WideAt.sameKey_iff (b:=.string q) (keyS q)).1 hs
   exact ⟨p,hp,by rw [this];rfl⟩
def dropF (f : List UInt8 → Option Value) (p : List UInt8 → Bool) : List UInt8 → Option Value:=fun q => if p q then none else f q
theorem Tells.drop {D : DataW Value} (hD : Maps.IsMap D) (h : Tells D f) (pd : Lit → DataW Value → Bool) (p : List UInt8 → Bool) (hp : ∀ q d,pd (.string q) d = p q) : Tells (Lib.deleteFuncD pd D) (dropF f p):=fun q => by
 obtain ⟨es,rfl⟩:=hD
 have hs : ∀ x : Lit × DataW Value,x.1.sameKey (.string q) = true → x.1 = .string q:=fun x hx => (WideAt.sameKey_iff (b:=.string q) (keyS q)).1 hx
 unfold dropF
 cases hq : p q with
 | true =>
  rw [if_pos rfl]
  have hnone : has (Lib.deleteFuncD pd (.map es)) (.string q) = false:=by
   show (es.filter fun p => !pd p.1 p.2).any (fun p => p.1.sameKey (.string q)) = false
   rw [List.any_eq_false]
   intro x hx hxs
   have h2:=(List.mem_filter.1 hx).2
   rw [hs x hxs,hp,hq] at h2
   cases h2
  exact ⟨hnone,fun z => atKey_of_not_has hnone z⟩
 | false =>
  rw [if_neg (by decide)]
  have hkeep : ∀ x : Lit × DataW Value,x.1.sameKey (.string q) = true → (!pd x.1 x.2) = true:=fun x hx => by rw [hs x hx,hp,hq];rfl
  refine ⟨Eq.trans ?_ (h q).1,fun z => Eq.trans ?_ ((h q).2 z)⟩
  ·exact any_filter_keep hkeep es
  ·have:=find_filter_keep (f:=fun p : Lit × DataW Value => p.1.sameKey (.string q)) (g:=fun p => !pd p.1 p.2) hkeep es
   simp only [DataW.atKey,Lib.deleteFuncD]
   rw [this]
end Go.Proofs.Ytnmmdeonkpfccaa.Rg
set_option linter.unusedVariables false
namespace Go.Proofs.Ytnmmdeonkpfccaa.Rg
open Go Go.RowKit
theorem wpListIn_yield {F : Fence} {nF : Nat} {P : Program} {ops : Array Oper} {rest : List Oper} {o : Oper} {a : Act} {Q : Exit → Act → World → Prop} {w : World} (hg : o.guard = none) (hF : ∀ f,F.fn f) (hd : F.depth.isSome = true → 1 ≤ nF)
  (x y z : Operand) (ts : Array TypeId) (hop : o.op = Op.call { callee:=.value x,args:=#[y,z],argTypes:=ts }) (lp : Nat) (hx : a.eval x = .func (.yield lp) #[] #[]) (u v : Value) (hy : a.eval y = u) (hz : a.eval z = v)
  {R : Ending → World → Prop} (hY : YieldAt F (nF - 1) P lp #[u,v] w R) (hK : ∀ e w',R e w' → ∃ b,e = .returned b ∧ wpListIn F nF P ops Q rest (a.put o.dst b) w') : wpListIn F nF P ops Q (o :: rest) a w:=by
 refine wpListIn_plain hg fun K' hK' => ?_
 obtain ⟨fn,tmps,assign,body,hrun,hR⟩:=hY
 unfold Oper.wpIn
 refine ⟨fun f _ => hF f,?_⟩
 rw [Oper.semAt_plain F _ _ (by rw [hop];intro c hc';cases hc')]
 have he : (execOp a.eval o).run P w = .ok (.round lp fn tmps assign body) w:=by
  simp [execOp,hop,resolve,invoke,hx,hy,hz,hrun,Deferred.ofValue]
 rw [he,Oper.uponIn_round]
 refine ⟨hd,hR.mono ?_⟩
 intro e w' hr
 obtain ⟨b,rfl,hk⟩:=hK e w' hr
 exact hK' _ _ hk
theorem gate_callv {F : Fence} {nF : Nat} {P : Program} {ops : Array Oper} {rest : List Oper} {o : Oper} {a : Act} {Q : Exit → Act → World → Prop} {w : World} {x y z : Operand} {ts : Array TypeId}
  (_ : o.op = Op.call { callee:=Callee.value x,args:=#[y,z],argTypes:=ts }) (h : wpListIn F nF P ops Q (o :: rest) a w) : wpListIn F nF P ops Q (o :: rest) a w:=h
end Go.Proofs.Ytnmmdeonkpfccaa.Rg
set_option linter.unusedVariables false
namespace Go.Proofs.Ytnmmdeonkpfccaa.Pr
open Go.RowKit Go.Shelf Go.Proofs.YtnmmdeonkpfccaaW.PrintWords Go.Proofs.YtnmmdeonkpfccaaW.PrintLast Go.Proofs.YtnmmdeonkpfccaaW.PrintMore
open Go.Proofs.Ytnmmdeonkpfccaa.Rg
attribute [local go_sem] Oper.semAt_some
def lastA (l : List S51) : Nat → List (List UInt8 × Int × Int)
 | 0 => []
 | k + 1 => if (l.getD (l.length - 1 - k) z51).f0 = 1 then ((l.getD (l.length - 1 - k) z51).f1.data.toList,(l.length : Int) - 1 - k,2) :: lastA l k
  else if (l.getD (l.length - 1 - k) z51).f0 = 2 then ((l.getD (l.length - 1 - k) z51).f1.data.toList,(l.length : Int) - 1 - k,3) :: lastA l k else lastA l k
def chkA (l : List S51) (k : Nat) : Int × Int:=if (l.getD (l.length - 1 - k) z51).f0 = 0 then ((lastA l k).lookup (l.getD (l.length - 1 - k) z51).f1.data.toList).getD (-1,1) else (-1,0)
def statK (l : List S51) (k : Nat) : List (Int × Int × Int):=(List.range k).map fun (j : Nat) => ((l.length : Int) - 1 - j,chkA l j)
theorem statK_succ (l : List S51) (k : Nat) : statK l (k + 1) = statK l k ++ [((l.length : Int) - 1 - k,chkA l k)]:=by simp [statK,List.range_succ]
def pairV (p : Int × Int) : Value:=.agg #[.int .i64 p.1,.int .i64 p.2]
def encS (p : Int × Int × Int) : Array Value:=#[.int .i64 p.1,pairV p.2]
def fLast (A : List (List UInt8 × Int × Int)) : List UInt8 → Option Value:=fun q => (A.lookup q).map pairV
theorem fLast_put (A : List (List UInt8 × Int × Int)) (q : List UInt8) (p : Int × Int) : putF (fLast A) q (pairV p) = fLast ((q,p) :: A):=by
 funext r
 unfold putF fLast
 rw [List.lookup_cons]
 by_cases h : r = q
 ·rw [if_pos h,h];simp
 ·rw [if_neg h]
  have : (r == q) = false:=beq_eq_false_iff_ne.mpr h
  rw [this]
theorem backK_inj {l : List S51} {j k : Nat} (h : backK l j = backK l k) : j = k:=by have:=congrArg List.length h;rwa [backK_len,backK_len] at this
set_option maxRecDepth 100000 in
set_option maxHeartbeats 1000000 in
theorem states_seq (C : Nat → Prop) (A0 : Option Addr) (c0 B : Nat) (l : List S51) (w0 : World) (hl : l.length ≤ 4096) (hg : ∀ x ∈ l,x.f1.size ≤ 24) (hr0 : Kd.C k51 w0 A0 l.length l) (hA : ∀ ad,A0 = some ad → l ≠ [] → ¬ C ad.block) (hAl : ∀ ad,A0 = some ad → l ≠ [] → ad.block < w0.heap.size) (hB : w0.cell? ⟨B,0,none⟩ = some (.slice A0 l.length c0)) (hCB : ¬ C B) :
  SeqB Try.prog 64 #[.pointer (some ⟨B,0,none⟩)] encS C (fun xs => xs = statK l l.length) (fun ys => ∃ k,k ≤ l.length ∧ ys = statK l k) w0:=by
 intro n lp J W hW hC hJ hY h0
 show CallsIn Fence.wide n Try.prog 64 #[.func (.yield lp) #[] #[],.pointer (some ⟨B,0,none⟩)] W _
 have hBl:=World.block_lt_of_cell? w0 _ hB
 have hcB : W.cell? ⟨B,0,none⟩ = some (.slice A0 l.length c0):=(World.cell?_of_block (hW.block B hBl)).trans hB
 have hBW : B < W.heap.size:=Nat.lt_of_lt_of_le hBl hW.size
 have HR0:=Aside0.mk hr0
 have hmm:=@run_makeMap Try.prog
 have hb3 : Below W.heap.size W (((W.alloc (Obj.cells #[Value.func (.yield lp) #[] #[]] 91)).alloc (Obj.map #[] 0)).alloc (Obj.cells #[Value.map (some (W.heap.size + 1))] 92)):=(((Below.refl _ W).alloc (Nat.le_refl _) _).alloc (by simp) _).alloc (by simp;omega) _
 have hc3 : (((W.alloc (Obj.cells #[Value.func (.yield lp) #[] #[]] 91)).alloc (Obj.map #[] 0)).alloc (Obj.cells #[Value.map (some (W.heap.size + 1))] 92)).cell? ⟨B,0,none⟩ = some (.slice A0 l.length c0):=(hb3.cell (p:=⟨B,0,none⟩) hBW).trans hcB
 have hf65 : Fence.wide.fn 65:=trivial
 clear hr0 hB
 refine callsIn_of_wp_marks Try.func64 rfl trivial ?_ rfl
 simp only [Try.ntmps64,List.size_toArray,List.length_cons,List.length_nil,Nat.reduceAdd,Nat.reduceSub,Array.replicate_succ,Array.replicate_zero,List.push_toArray,List.append_toArray,List.nil_append,List.cons_append]
 gi_wp2_with (refine ⟨fun h => absurd h (by decide),?_⟩;gi_at_call 65;refine (back_in _ A0 c0 l.length _).mono ?_;rintro e w' ⟨rfl,rfl⟩)
 obtain ⟨Wl,hWl⟩ : ∃ Wl,((((W.alloc (Obj.cells #[Value.func (.yield lp) #[] #[]] 91)).alloc (Obj.map #[] 0)).alloc (Obj.cells #[Value.map (some (W.heap.size + 1))] 92)).alloc (Obj.cells #[Value.slice A0 l.length c0] 22)) = Wl:=⟨_,rfl⟩
 have hs4 : Wl.heap.size = W.heap.size + 4:=by rw [← hWl];simp
 have hb4 : Below W.heap.size W Wl:=by rw [← hWl];exact hb3.alloc (by simp;omega) _
 have hy0 : Wl.heap[W.heap.size]? = some (.cells #[.func (.yield lp) #[] #[]] 91):=by rw [← hWl];exact blk_alloc (blk_alloc (blk_alloc (blk_new _ _) _) _) _
 have hm0 : MapF Try.prog 9 Wl (W.heap.size + 1) 0 (fLast []):=by
  rw [← hWl]
  have:=((MapF.made (W.alloc (Obj.cells #[Value.func (.yield lp) #[] #[]] 91)) Try.prog 9).alloc (Obj.cells #[Value.map (some (W.heap.size + 1))] 92)).alloc (Obj.cells #[Value.slice A0 l.length c0] 22)
  rwa [World.size_alloc] at this
 have hp0 : Wl.heap[W.heap.size + 2]? = some (.cells #[.map (some (W.heap.size + 1))] 92):=by
  rw [← hWl]
  have:=blk_alloc (blk_new ((W.alloc (Obj.cells #[Value.func (.yield lp) #[] #[]] 91)).alloc (Obj.map #[] 0)) (Obj.cells #[Value.map (some (W.heap.size + 1))] 92)) (Obj.cells #[Value.slice A0 l.length c0] 22)
  rwa [World.size_alloc,World.size_alloc] at this
 have hq0 : Wl.cell? ⟨W.heap.size + 3,0,none⟩ = some (.slice A0 l.length c0):=by
  rw [← hWl]
  have:=blk_new (((W.alloc (Obj.cells #[Value.func (.yield lp) #[] #[]] 91)).alloc (Obj.map #[] 0)).alloc (Obj.cells #[Value.map (some (W.heap.size + 1))] 92)) (Obj.cells #[Value.slice A0 l.length c0] 22)
  rw [World.size_alloc,World.size_alloc,World.size_alloc] at this
  exact (blk_cell this 0).trans rfl
 rw [hWl]
 clear hWl hb3 hc3 hf65
 have hb0l : Below w0.heap.size w0 Wl:=hW.trans (hb4.mono hW.size)
 refine rangeB (gf:=84) (lb:=#[.pointer (some ⟨W.heap.size + 3,0,none⟩)]) rfl (enters_of Try.func84 (by kernel_rfl) rfl) (fun i => C i ∨ i = W.heap.size + 1) (fun i hi => by rcases hi with h | rfl;have:=hC i h;omega;omega) (Below.refl _ Wl)
  (back_seq _ A0 c0 (W.heap.size + 3) l Wl hl (Kd.C_below HR0.out hb0l) (fun ad ha hne h => by
   have h1:=hA ad ha hne;have h2:=hAl ad ha hne;have h3:=hW.size
   rcases h with (h | h) | h;exact h1 h;omega;omega) hq0 (fun h => by rcases h with (h | h) | h;have:=hC _ h;omega;omega;omega)) (fun _ => rfl)
  (fun pre Wr => ∃ k,k ≤ l.length ∧ pre = backK l k ∧ J (statK l k) Wr ∧ MapF Try.prog 9 Wr (W.heap.size + 1) k (fLast (lastA l k)) ∧ Wr.heap[W.heap.size]? = some (.cells #[.func (.yield lp) #[] #[]] 91) ∧ Wr.heap[W.heap.size + 2]? = some (.cells #[.map (some (W.heap.size + 1))] 92))
  ?hI ⟨0,by omega,rfl,hJ _ _ _ h0 (Nat.le_refl _) hb4.size hb4.os.symm hb4.tape.symm hb4.output.symm hb4.block,hm0,hy0,hp0⟩
  (fun x a' Wr => ∃ gx,Wl.heap.size + 2 ≤ gx ∧ Wr.heap[gx]? = some (.cells #[.int .i64 x.2.f0,.string x.2.f1,.string x.2.f2,.string x.2.f3] 51) ∧ a' = { tmps:=#[.func (.yield lp) #[] #[],.pointer (some ⟨B,0,none⟩),.pointer (some ⟨W.heap.size,0,none⟩),.pointer (some ⟨W.heap.size + 1 + 1,0,none⟩),.int .i64 x.1,.pointer (some ⟨gx,0,none⟩),undef,undef,undef,.map (some (W.heap.size + 1)),.slice A0 l.length c0,.func (.func 84) #[] #[.pointer (some ⟨W.heap.size + 1 + 1 + 1,0,none⟩)],.int .i64 x.1,evV x.2,undef,undef,undef,undef,undef,undef,undef,undef,undef,undef,undef,undef,undef,undef,undef,undef,undef,undef,undef,undef,undef,undef,undef,undef,undef,undef,undef,undef,undef,undef,undef,undef,undef,undef],defers:=[] })
  ?hAx ?assign ?body ?done
 case hI =>
  rintro pre Wr Wr' ⟨k,hk,hp,hj,hm,hy,hpp⟩ hsz hsz2 ho ht hou hs
  exact ⟨k,hk,hp,hJ _ _ _ hj (by omega) hsz2 ho ht hou (fun i hi => hs i (by omega)),hm.same (hs _ (by omega)),(hs _ (by omega)).trans hy,(hs _ (by omega)).trans hpp⟩
 case hAx =>
  rintro x a' Wr Wr' ⟨gx,h1,h2,h3⟩ hsz ho ht hou hs
  exact ⟨gx,h1,(hs _ (by omega)).trans h2,h3⟩
 case assign =>
  rintro m pre ⟨i,x⟩ Wr ⟨k,hk,hp,hj,hm,hy,hpp⟩ hsz hpf
  have HJ:=Aside0.mk hj
  have HM:=Aside0.mk hm
  have HY:=Aside0.mk hy
  have HP:=Aside0.mk hpp
  have HPR:=Aside0.mk hp
  have HJR:=Aside0.mk hJ
  clear hj hm hy hpp hp hpf hb4 hy0 hm0 hp0 hq0 hb0l hW hY hJ hC h0
  simp only [encIE,evV]
  gi_wp2
  exact ⟨(KeepC.refl _ _).alloc _,⟨k,hk,HPR.out,HJR.out _ _ _ HJ.out (by omega) (by simp) rfl rfl rfl (fun j hj => Below.heap_alloc _ _ _ (by omega)),HM.out.alloc _,blk_alloc HY.out _,blk_alloc HP.out _⟩,Wr.heap.size,by omega,blk_new _ _,rfl⟩
 case body =>
  rintro m pre ⟨i,x⟩ a' Wr ⟨k,hk,hp,hj,hm,hy,hpp⟩ hsz ⟨gx,hgx,hbx,rfl⟩ ⟨k',hk',hpk⟩
  have hkk : k' = k + 1:=by
   have:=congrArg List.length hpk
   rw [hp,List.length_append,backK_len,backK_len] at this
   simpa using this.symm
  subst hkk
  rw [hp,backK_succ] at hpk
  have hix:=List.append_cancel_left hpk
  simp only [List.cons.injEq,Prod.mk.injEq,and_true] at hix
  obtain ⟨hi,hx⟩:=hix
  have hxm : x.f1.size ≤ 24:=by
   refine hg x ?_
   rw [hx,List.getD_eq_getElem?_getD,List.getElem?_eq_getElem (by omega)]
   exact List.getElem_mem _
  have hxm2 : x.f1.size ≤ maxLen:=by unfold maxLen;omega
  have hlx:=(Array.getElem?_eq_some_iff.1 hbx).1
  have hch : chkA l k = if x.f0 = 0 then ((lastA l k).lookup x.f1.data.toList).getD (-1,1) else (-1,0):=by unfold chkA;rw [← hx]
  have hla : lastA l (k + 1) = if x.f0 = 1 then (x.f1.data.toList,i,2) :: lastA l k else if x.f0 = 2 then (x.f1.data.toList,i,3) :: lastA l k else lastA l k:=by rw [hi,hx];rfl
  have hst : statK l (k + 1) = statK l k ++ [(i,chkA l k)]:=by rw [statK_succ,hi]
  have HCH:=Aside0.mk hch
  have HLA:=Aside0.mk hla
  have HST:=Aside0.mk hst
  have HJ:=Aside0.mk hj
  have HM:=Aside0.mk hm
  have HY:=Aside0.mk hy
  have HP:=Aside0.mk hpp
  have HPR:=Aside0.mk (show pre ++ [(i,x)] = backK l (k + 1) from by rw [backK_succ,hp,hi,hx])
  have HJR:=Aside0.mk hJ
  have HYR:=Aside0.mk hY
  have HX:=Aside0.mk hbx
  have HCC:=Aside0.mk hC
  have hcy : Wr.cell? ⟨W.heap.size,0,none⟩ = some (.func (.yield lp) #[] #[]):=(blk_cell hy 0).trans rfl
  have hcp : Wr.cell? ⟨W.heap.size + 1 + 1,0,none⟩ = some (.map (some (W.heap.size + 1))):=(blk_cell hpp 0).trans rfl
  have hcx0 : Wr.cell? ⟨gx,0,none⟩ = some (.int .i64 x.f0):=(blk_cell hbx 0).trans rfl
  have hcx1 : Wr.cell? ⟨gx,1,none⟩ = some (.string x.f1):=(blk_cell hbx 1).trans rfl
  have hsz' : W.heap.size + 6 ≤ Wr.heap.size:=by omega
  have hBA : ∀ o : Obj,Below Wr.heap.size Wr (Wr.alloc o):=fun o => (Below.refl _ Wr).alloc (Nat.le_refl _) o
  have hcy1:=fun o : Obj => ((hBA o).cell (p:=⟨W.heap.size,0,none⟩) (show W.heap.size < _ by omega)).trans hcy
  have hcp1:=fun o : Obj => ((hBA o).cell (p:=⟨W.heap.size + 1 + 1,0,none⟩) (show W.heap.size + 1 + 1 < _ by omega)).trans hcp
  have hcx01:=fun o : Obj => ((hBA o).cell (p:=⟨gx,0,none⟩) hlx).trans hcx0
  have hcx11:=fun o : Obj => ((hBA o).cell (p:=⟨gx,1,none⟩) hlx).trans hcx1
  clear hch hla hst hj hm hy hpp hi hp hpk hJ hY hbx hC h0 hb4 hy0 hm0 hp0 hq0 hb0l hW hx hg
  have HYZ:=Aside0.mk (show ∀ (at_ st : Int),chkA l k = (at_,st) → ∀ r m W1,J (statK l k) W1 → W.heap.size ≤ W1.heap.size → YieldAt (Fence.wide.inRound r) m Try.prog lp #[.int .i64 i,.agg #[.int .i64 at_,.int .i64 st]] W1 (fun e W' => e = .returned (.bool true) ∧ J (statK l (k + 1)) W' ∧ KeepC C W1 W') from by
   intro at_ st hc r m W1 hj hs
   have:=HYR.out m (statK l k) (i,chkA l k) W1 hj hs ⟨k + 1,hk',HST.out.symm⟩
   rw [← HST.out,hc] at this
   exact this)
  clear HYR
  have HJN:=Aside0.mk (show ∀ Wc,Near (W.heap.size + 1) Wr Wc → J (statK l k) Wc from fun Wc hn => HJR.out _ _ _ HJ.out (by omega) hn.2.2.2.size hn.1 hn.2.1 hn.2.2.1 (fun j hj => hn.2.2.2.same j (by omega) (by omega)))
  have HSN:=Aside0.mk (show ∀ Wc,Near (W.heap.size + 1) Wr Wc → W.heap.size ≤ Wc.heap.size from fun Wc hn => Nat.le_trans (by omega) hn.2.2.2.size)
  have FIN:=Aside0.mk (show ∀ Wc w',Near (W.heap.size + 1) Wr Wc → MapF Try.prog 9 Wc (W.heap.size + 1) (k + 1) (fLast (lastA l (k + 1))) → J (statK l (k + 1)) w' → KeepC C Wc w' →
    KeepC (fun i => C i ∨ i = W.heap.size + 1) Wr w' ∧ (∃ k,k ≤ l.length ∧ pre ++ [(i,x)] = backK l k ∧ J (statK l k) w' ∧ MapF Try.prog 9 w' (W.heap.size + 1) k (fLast (lastA l k)) ∧ w'.heap[W.heap.size]? = some (.cells #[.func (.yield lp) #[] #[]] 91) ∧ w'.heap[W.heap.size + 2]? = some (.cells #[.map (some (W.heap.size + 1))] 92)) from by
   intro Wc w' hn hm hj hk
   have hc : ∀ i,W.heap.size ≤ i → ¬ C i:=fun i hi hh => by have:=HCC.out i hh;omega
   have hz:=hn.2.2.2.size
   refine ⟨(hn.2.2.2.mono fun i h => .inr h).trans (hk.mono fun i h => .inl h),k + 1,hk',HPR.out,hj,hm.same (hk.same _ (by omega) (hc _ (by omega))),?_,?_⟩
   ·exact (hk.same _ (by omega) (hc _ (by omega))).trans ((hn.2.2.2.same _ (by omega) (by omega)).trans HY.out)
   ·exact (hk.same _ (by omega) (hc _ (by omega))).trans ((hn.2.2.2.same _ (by omega) (by omega)).trans HP.out))
  by_cases k1 : x.f0 = 1
  ·rw [k1] at hcx0 hcx01
   have HYO:=Aside0.mk (HYZ.out (-1) 0 (HCH.out.trans (if_neg (by omega))))
   have HL2:=Aside0.mk (HLA.out.trans (if_pos k1))
   clear k1
   gi_wp2_with (first | ((gi_at_mapUpdate;refine wpListIn_storeF rfl _ _ _ 92 rfl 9 65 Try.underlying9 Try.underlying92 rfl (HM.out.alloc _) (by unfold maxLen;omega) x.f1 rfl hxm2 (pairV (i,2)) rfl ?_;intro w8 hs8 hg8;have HS8:=Aside0.mk hs8;have HN8:=Aside0.mk (((Near.refl (W.heap.size + 1) Wr).alloc _).grown hg8);have hcy8 : w8.cell? ⟨W.heap.size,0,none⟩ = some (.func (.yield lp) #[] #[]):=(World.cell?_of_block (HN8.out.2.2.2.same W.heap.size (by omega) (by omega))).trans hcy;have hcc8:=blk_grown (blk_new Wr (.cells #[.int .i64 (-1),.int .i64 0] 65)) hg8 (by simp;omega);have hcc80 : w8.cell? ⟨Wr.heap.size,0,none⟩ = some (.int .i64 (-1)):=(blk_cell hcc8 0).trans rfl;have hcc81 : w8.cell? ⟨Wr.heap.size,1,none⟩ = some (.int .i64 0):=(blk_cell hcc8 1).trans rfl;clear hs8 hg8 hcc8)) | ((with_reducible refine gate_callv (x:=.tmp 43) (y:=.tmp 44) (z:=.tmp 45) rfl ?_);refine wpListIn_yield rfl (fun _ => trivial) (fun h => absurd (show false = true from h) (by decide)) (.tmp 43) (.tmp 44) (.tmp 45) _ rfl lp rfl _ _ rfl rfl (HYO.out _ _ _ (HJN.out _ HN8.out) (HSN.out _ HN8.out)) ?_;rintro e w9 ⟨rfl,hj9,hk9⟩;refine ⟨_,rfl,?_⟩;have HJ9:=Aside0.mk hj9;have HK9:=Aside0.mk hk9;clear hj9 hk9))
   exact FIN.out _ _ HN8.out (by rw [HL2.out,← fLast_put];exact HS8.out) HJ9.out HK9.out
  ·have k1b : (x.f0 == 1) = false:=beq_eq_false_iff_ne.mpr k1
   by_cases k2 : x.f0 = 2
   ·rw [k2] at hcx0 hcx01
    have HYO:=Aside0.mk (HYZ.out (-1) 0 (HCH.out.trans (if_neg (by omega))))
    have HL2:=Aside0.mk (HLA.out.trans ((if_neg k1).trans (if_pos k2)))
    clear k1 k1b k2
    gi_wp2_with (first | ((gi_at_mapUpdate;refine wpListIn_storeF rfl _ _ _ 92 rfl 9 65 Try.underlying9 Try.underlying92 rfl (HM.out.alloc _) (by unfold maxLen;omega) x.f1 rfl hxm2 (pairV (i,3)) rfl ?_;intro w8 hs8 hg8;have HS8:=Aside0.mk hs8;have HN8:=Aside0.mk (((Near.refl (W.heap.size + 1) Wr).alloc _).grown hg8);have hcy8 : w8.cell? ⟨W.heap.size,0,none⟩ = some (.func (.yield lp) #[] #[]):=(World.cell?_of_block (HN8.out.2.2.2.same W.heap.size (by omega) (by omega))).trans hcy;have hcc8:=blk_grown (blk_new Wr (.cells #[.int .i64 (-1),.int .i64 0] 65)) hg8 (by simp;omega);have hcc80 : w8.cell? ⟨Wr.heap.size,0,none⟩ = some (.int .i64 (-1)):=(blk_cell hcc8 0).trans rfl;have hcc81 : w8.cell? ⟨Wr.heap.size,1,none⟩ = some (.int .i64 0):=(blk_cell hcc8 1).trans rfl;clear hs8 hg8 hcc8)) | ((with_reducible refine gate_callv (x:=.tmp 43) (y:=.tmp 44) (z:=.tmp 45) rfl ?_);refine wpListIn_yield rfl (fun _ => trivial) (fun h => absurd (show false = true from h) (by decide)) (.tmp 43) (.tmp 44) (.tmp 45) _ rfl lp rfl _ _ rfl rfl (HYO.out _ _ _ (HJN.out _ HN8.out) (HSN.out _ HN8.out)) ?_;rintro e w9 ⟨rfl,hj9,hk9⟩;refine ⟨_,rfl,?_⟩;have HJ9:=Aside0.mk hj9;have HK9:=Aside0.mk hk9;clear hj9 hk9))
    exact FIN.out _ _ HN8.out (by rw [HL2.out,← fLast_put];exact HS8.out) HJ9.out HK9.out
   ·have k2b : (x.f0 == 2) = false:=beq_eq_false_iff_ne.mpr k2
    have HL2:=Aside0.mk (HLA.out.trans ((if_neg k1).trans (if_neg k2)))
    by_cases k0 : x.f0 = 0
    ·rw [k0] at hcx0 hcx01
     obtain ⟨lk,hlk⟩ : ∃ lk,lk = (lastA l k).lookup x.f1.data.toList:=⟨_,rfl⟩
     have HC0:=Aside0.mk (show chkA l k = lk.getD (-1,1) from by rw [HCH.out,if_pos k0,hlk])
     have hcy2:=fun o o' : Obj => (((hBA o).alloc (by simp) o').cell (p:=⟨W.heap.size,0,none⟩) (show W.heap.size < _ by omega)).trans hcy
     cases lk with
     | none =>
      have HV:=Aside0.mk (show (fLast (lastA l k) x.f1.data.toList).getD (.agg #[.int .i64 0,.int .i64 0]) = .agg #[.int .i64 0,.int .i64 0] from by unfold fLast;rw [← hlk];rfl)
      have HC:=Aside0.mk (show (fLast (lastA l k) x.f1.data.toList).isSome = false from by unfold fLast;rw [← hlk];rfl)
      have HYO:=Aside0.mk (HYZ.out (-1) 1 HC0.out)
      clear k0 k1 k2 hlk
      gi_wp2_with (first | (gi_at_lookup;refine wpListIn_lookF_ok rfl _ _ 92 rfl 9 65 Try.underlying9 Try.underlying92 (Try.zeroValue65 _) rfl (HM.out.alloc _) x.f1 rfl hxm2 _ HV.out _ HC.out ?_) | ((with_reducible refine gate_callv (x:=.tmp 43) (y:=.tmp 44) (z:=.tmp 45) rfl ?_);refine wpListIn_yield rfl (fun _ => trivial) (fun h => absurd (show false = true from h) (by decide)) (.tmp 43) (.tmp 44) (.tmp 45) _ rfl lp rfl _ _ rfl rfl (HYO.out _ _ _ (HJN.out _ (((Near.refl _ _).alloc _).alloc _)) (HSN.out _ (((Near.refl _ _).alloc _).alloc _))) ?_;rintro e w9 ⟨rfl,hj9,hk9⟩;refine ⟨_,rfl,?_⟩;have HJ9:=Aside0.mk hj9;have HK9:=Aside0.mk hk9;clear hj9 hk9))
      exact FIN.out _ _ (((Near.refl _ _).alloc _).alloc _) (by rw [HL2.out];exact ((HM.out.alloc _).alloc _).mono (Nat.le_succ _)) HJ9.out HK9.out
     | some p =>
      obtain ⟨pa,ps⟩:=p
      have HV:=Aside0.mk (show (fLast (lastA l k) x.f1.data.toList).getD (.agg #[.int .i64 0,.int .i64 0]) = .agg #[.int .i64 pa,.int .i64 ps] from by unfold fLast;rw [← hlk];rfl)
      have HC:=Aside0.mk (show (fLast (lastA l k) x.f1.data.toList).isSome = true from by unfold fLast;rw [← hlk];rfl)
      have HYO:=Aside0.mk (HYZ.out pa ps HC0.out)
      clear k0 k1 k2 hlk
      gi_wp2_with (first | (gi_at_lookup;refine wpListIn_lookF_ok rfl _ _ 92 rfl 9 65 Try.underlying9 Try.underlying92 (Try.zeroValue65 _) rfl (HM.out.alloc _) x.f1 rfl hxm2 _ HV.out _ HC.out ?_) | ((with_reducible refine gate_callv (x:=.tmp 43) (y:=.tmp 44) (z:=.tmp 45) rfl ?_);refine wpListIn_yield rfl (fun _ => trivial) (fun h => absurd (show false = true from h) (by decide)) (.tmp 43) (.tmp 44) (.tmp 45) _ rfl lp rfl _ _ rfl rfl (HYO.out _ _ _ (HJN.out _ (((Near.refl _ _).alloc _).alloc _)) (HSN.out _ (((Near.refl _ _).alloc _).alloc _))) ?_;rintro e w9 ⟨rfl,hj9,hk9⟩;refine ⟨_,rfl,?_⟩;have HJ9:=Aside0.mk hj9;have HK9:=Aside0.mk hk9;clear hj9 hk9))
      exact FIN.out _ _ (((Near.refl _ _).alloc _).alloc _) (by rw [HL2.out];exact ((HM.out.alloc _).alloc _).mono (Nat.le_succ _)) HJ9.out HK9.out
    ·have k0b : (x.f0 == 0) = false:=beq_eq_false_iff_ne.mpr k0
     have HYO:=Aside0.mk (HYZ.out (-1) 0 (HCH.out.trans (if_neg k0)))
     clear k0 k1 k2
     gi_wp2_with ((with_reducible refine gate_callv (x:=.tmp 43) (y:=.tmp 44) (z:=.tmp 45) rfl ?_);refine wpListIn_yield rfl (fun _ => trivial) (fun h => absurd (show false = true from h) (by decide)) (.tmp 43) (.tmp 44) (.tmp 45) _ rfl lp rfl _ _ rfl rfl (HYO.out _ _ _ (HJN.out _ ((Near.refl _ _).alloc _)) (HSN.out _ ((Near.refl _ _).alloc _))) ?_;rintro e w9 ⟨rfl,hj9,hk9⟩;refine ⟨_,rfl,?_⟩;have HJ9:=Aside0.mk hj9;have HK9:=Aside0.mk hk9;clear hj9 hk9)
     exact FIN.out _ _ ((Near.refl _ _).alloc _) (by rw [HL2.out];exact (HM.out.alloc _).mono (Nat.le_succ _)) HJ9.out HK9.out
 case done =>
  rintro xs W' rfl ⟨k,hk,hp,hj,_,_,_⟩ hK hsz
  obtain rfl:=backK_inj hp
  gi_wp2
  rw [hs4] at hK
  have hD:=(Array.getElem?_eq_some_iff.1 hK).1
  refine ⟨by simp,.inl ⟨_,_,rfl,run_takeDeferred hK,?_⟩⟩
  exact ⟨_,results_none rfl _ _ _,⟨_,rfl⟩,by simp;omega,hJ _ _ _ hj (by omega) (by simp) rfl rfl rfl (fun i hi => World.putObj_heap_other (by omega))⟩
end Go.Proofs.Ytnmmdeonkpfccaa.Pr
set_option linter.unusedVariables false
namespace Go.Proofs.Ytnmmdeonkpfccaa.Pr
theorem wpList_unguard {P : Program} {ops : Array Oper} {Q : Exit → Act → World → Prop} {a : Act} {w : World} {rest : List Oper} {o : Oper} {g : Tmp × Bool}
  (_hg : o.guard = some g) (hw : Region.wanted o (yielded ops a.tmps) = true)
  (h : wpList P ops Q ({ o with guard:=none } :: rest) a w) : wpList P ops Q (o :: rest) a w:=by
 unfold wpList at h ⊢
 rw [if_pos hw]
 rw [if_pos (by simp [Region.wanted])] at h
 exact h
end Go.Proofs.Ytnmmdeonkpfccaa.Pr
namespace Go.Proofs.Ytnmmdeonkpfccaa.Pr
open Go.RowKit Go.Proofs.YtnmmdeonkpfccaaW.PrintWords Go.Proofs.YtnmmdeonkpfccaaW.PrintLast Go.Proofs.YtnmmdeonkpfccaaW.PrintMore
attribute [local go_sem] max2_int min2_int max_two min_two max_three min_three max_four min_four
set_option linter.unusedVariables false
set_option linter.unusedSimpArgs false
def dimension_letter.f (a0 : Int) : Option (Bool):=if a0 ≥ 65 then (if a0 ≤ 90 then (some true) else (if a0 ≥ 97 then (some (decide (a0 ≤ 122))) else (some false))) else (if a0 ≥ 97 then (some (decide (a0 ≤ 122))) else (some false))
set_option maxHeartbeats 8000000 in
set_option maxRecDepth 100000 in
theorem dimension_letter.calls (a0 : Int) (r : Bool) (w : World) (h : dimension_letter.f a0 = some r) :
  Calls Try.prog 70 #[.int .u8 a0] w fun e w' => e = .returned (.bool r) ∧ Drawn0 w w':=by
 have H : (if a0 ≥ 65 then (if a0 ≤ 90 then (some true) else (if a0 ≥ 97 then (some (decide (a0 ≤ 122))) else (some false))) else (if a0 ≥ 97 then (some (decide (a0 ≤ 122))) else (some false))) = some r:=h
 clear h
 by_cases c2 : a0 ≥ 65
 ·rw [if_pos c2] at H
  have c2b0 : decide (65 ≤ a0) = true:=decide_eq_true c2
  clear c2
  by_cases c3 : a0 ≤ 90
  ·rw [if_pos c3] at H
   have c3b0 : decide (a0 ≤ 90) = true:=decide_eq_true c3
   clear c3
   obtain rfl:=Option.some.inj H
   go_enter Try.func70,Try.ntmps70
   go_wp2
   go_ret
   exact ⟨by first | rfl | (simp;done) | (simp [*];done),by repeat (first | exact Drawn0.refl _ | apply Drawn0.step)⟩
  ·rw [if_neg c3] at H
   have c3b0 : decide (a0 ≤ 90) = false:=decide_eq_false c3
   clear c3
   by_cases c4 : a0 ≥ 97
   ·rw [if_pos c4] at H
    have c4b0 : decide (97 ≤ a0) = true:=decide_eq_true c4
    clear c4
    obtain rfl:=Option.some.inj H
    go_enter Try.func70,Try.ntmps70
    go_wp2
    go_ret
    exact ⟨by first | rfl | (simp;done) | (simp [*];done),by repeat (first | exact Drawn0.refl _ | apply Drawn0.step)⟩
   ·rw [if_neg c4] at H
    have c4b0 : decide (97 ≤ a0) = false:=decide_eq_false c4
    clear c4
    obtain rfl:=Option.some.inj H
    go_enter Try.func70,Try.ntmps70
    go_wp2
    go_ret
    exact ⟨by first | rfl | (simp;done) | (simp [*];done),by repeat (first | exact Drawn0.refl _ | apply Drawn0.step)⟩
 ·rw [if_neg c2] at H
  have c2b0 : decide (65 ≤ a0) = false:=decide_eq_false c2
  clear c2
  by_cases c5 : a0 ≥ 97
  ·rw [if_pos c5] at H
   have c5b0 : decide (97 ≤ a0) = true:=decide_eq_true c5
   clear c5
   obtain rfl:=Option.some.inj H
   go_enter Try.func70,Try.ntmps70
   go_wp2
   go_ret
   exact ⟨by first | rfl | (simp;done) | (simp [*];done),by repeat (first | exact Drawn0.refl _ | apply Drawn0.step)⟩
  ·rw [if_neg c5] at H
   have c5b0 : decide (97 ≤ a0) = false:=decide_eq_false c5
   clear c5
   obtain rfl:=Option.some.inj H
   go_enter Try.func70,Try.ntmps70
   go_wp2
   go_ret
   exact ⟨by first | rfl | (simp;done) | (simp [*];done),by repeat (first | exact Drawn0.refl _ | apply Drawn0.step)⟩
end Go.Proofs.Ytnmmdeonkpfccaa.Pr
namespace Go.Proofs.Ytnmmdeonkpfccaa.Pr
open Go.RowKit Go.Proofs.YtnmmdeonkpfccaaW.PrintWords Go.Proofs.YtnmmdeonkpfccaaW.PrintLast Go.Proofs.YtnmmdeonkpfccaaW.PrintMore
attribute [local go_sem] max2_int min2_int max_two min_two max_three min_three max_four min_four
set_option linter.unusedVariables false
set_option linter.unusedSimpArgs false
def dimension_digit.f (a0 : Int) : Option (Bool):=if a0 ≥ 48 then (some (decide (a0 ≤ 57))) else (some false)
set_option maxHeartbeats 8000000 in
set_option maxRecDepth 100000 in
theorem dimension_digit.calls (a0 : Int) (r : Bool) (w : World) (h : dimension_digit.f a0 = some r) :
  Calls Try.prog 71 #[.int .u8 a0] w fun e w' => e = .returned (.bool r) ∧ Drawn0 w w':=by
 have H : (if a0 ≥ 48 then (some (decide (a0 ≤ 57))) else (some false)) = some r:=h
 clear h
 by_cases c2 : a0 ≥ 48
 ·rw [if_pos c2] at H
  have c2b0 : decide (48 ≤ a0) = true:=decide_eq_true c2
  clear c2
  obtain rfl:=Option.some.inj H
  go_enter Try.func71,Try.ntmps71
  go_wp2
  go_ret
  exact ⟨by first | rfl | (simp;done) | (simp [*];done),by repeat (first | exact Drawn0.refl _ | apply Drawn0.step)⟩
 ·rw [if_neg c2] at H
  have c2b0 : decide (48 ≤ a0) = false:=decide_eq_false c2
  clear c2
  obtain rfl:=Option.some.inj H
  go_enter Try.func71,Try.ntmps71
  go_wp2
  go_ret
  exact ⟨by first | rfl | (simp;done) | (simp [*];done),by repeat (first | exact Drawn0.refl _ | apply Drawn0.step)⟩
end Go.Proofs.Ytnmmdeonkpfccaa.Pr
set_option linter.unusedVariables false
namespace Go.Proofs.Ytnmmdeonkpfccaa.Pr
open Go.RowKit Go.Proofs.YtnmmdeonkpfccaaW.PrintWords Go.Proofs.YtnmmdeonkpfccaaW.PrintLast Go.Proofs.YtnmmdeonkpfccaaW.PrintMore
def letB (b : UInt8) : Bool:=decide (65 ≤ b.toNat ∧ b.toNat ≤ 90 ∨ 97 ≤ b.toNat ∧ b.toNat ≤ 122)
def digB (b : UInt8) : Bool:=decide (48 ≤ b.toNat ∧ b.toNat ≤ 57)
def nameL (q : List UInt8) : Int:=if 24 < q.length then 17 else if q = [] then 3 else if letB (q.headD 0) = false then 3 else if q.all (fun b => letB b || digB b) then 0 else 3
def dimension_Name.f (s : ByteArray) : Option Int:=some (nameL s.data.toList)
theorem letter_is (b : UInt8) : dimension_letter.f ((b.toNat : Int)) = some (letB b):=by
 unfold dimension_letter.f letB
 split
 ·split
  ·rw [decide_eq_true (by omega)]
  ·split
   ·congr 1;rw [decide_eq_decide];omega
   ·rw [decide_eq_false (by omega)]
 ·split
  ·congr 1;rw [decide_eq_decide];omega
  ·rw [decide_eq_false (by omega)]
theorem digit_is (b : UInt8) : dimension_digit.f ((b.toNat : Int)) = some (digB b):=by
 unfold dimension_digit.f digB
 split
 ·congr 1;rw [decide_eq_decide];omega
 ·rw [decide_eq_false (by omega)]
theorem below_bytes {B : Nat} {a w : World} (h : Below B a w) (hB : B ≤ w.heap.size) (e : TypeId) (s : ByteArray) : Below B a (Lib.bytesWorld w e s) :=
 h.trans ⟨rfl,rfl,rfl,by rw [Lib.bytesWorld_size];omega,fun k hk => Lib.bytesWorld_at_old w e s k (by omega)⟩
theorem all_take {q : List UInt8} {p : UInt8 → Bool} {k : Nat} (hk : k < q.length) (h : q.all p = true) : p (q.getD k 0) = true:=by
 rw [List.all_eq_true] at h
 rw [List.getD_eq_getElem?_getD,List.getElem?_eq_getElem hk]
 exact h _ (List.getElem_mem hk)
theorem all_of_take {q : List UInt8} {p : UInt8 → Bool} (h : ∀ k,k < q.length → p (q.getD k 0) = true) : q.all p = true:=by
 rw [List.all_eq_true]
 intro x hx
 obtain ⟨k,hk,rfl⟩:=List.getElem_of_mem hx
 have:=h k hk
 rwa [List.getD_eq_getElem?_getD,List.getElem?_eq_getElem hk] at this
theorem not_all {q : List UInt8} {p : UInt8 → Bool} {k : Nat} (hk : k < q.length) (h : p (q.getD k 0) = false) : q.all p = false:=by
 rw [Bool.eq_false_iff]
 intro hh
 rw [all_take hk hh] at h
 cases h
set_option maxHeartbeats 1000000 in
set_option maxRecDepth 100000 in
theorem dimension_Name.calls (a0 : ByteArray) (r : Int) (w : World) (h : dimension_Name.f a0 = some r) :
  Calls Try.prog 49 #[.string a0] w fun e w' => e = .returned (.int .i64 r) ∧ Below w.heap.size w w':=by
 obtain ⟨q,hq⟩ : ∃ q,q = a0.data.toList:=⟨_,rfl⟩
 have hsz : a0.size = q.length:=by rw [hq,Array.length_toList];rfl
 have hr : nameL q = r:=by rw [hq];exact Option.some.inj h
 clear h
 have HR:=Aside0.mk hr
 have HQ:=Aside0.mk hq
 by_cases h24 : 24 < q.length
 ·have e : r = 17:=by rw [← hr];unfold nameL;rw [if_pos h24]
  subst e
  have c1 : decide (24 < (a0.size : Int)) = true:=decide_eq_true (by omega)
  have c2 : decide (24 < a0.size) = true:=decide_eq_true (by omega)
  clear hq hr
  go_enter Try.func49,Try.ntmps49
  go_wp2
  go_ret
  exact ⟨rfl,Below.refl _ _⟩
 ·have c1 : decide (24 < (a0.size : Int)) = false:=decide_eq_false (by omega)
  have c2 : decide (24 < a0.size) = false:=decide_eq_false (by omega)
  by_cases hnil : q = []
  ·have e : r = 3:=by rw [← hr];unfold nameL;rw [if_neg h24,if_pos hnil]
   subst e
   have c3 : a0.toList = []:=by rw [ByteArray.toList_eq,← hq,hnil]
   have c4 : a0.data = #[]:=Array.toList_eq_nil_iff.1 (by rw [← hq,hnil])
   have c5 : a0.data.toList = []:=by rw [← hq,hnil]
   clear hq hr
   go_enter Try.func49,Try.ntmps49
   go_wp2
   go_ret
   exact ⟨rfl,Below.refl _ _⟩
  ·have hpos : 0 < q.length:=by
    cases q with
    | nil => exact absurd rfl hnil
    | cons _ _ => simp
   obtain ⟨b0,hb0⟩ : ∃ b0,b0 = q.headD 0:=⟨_,rfl⟩
   have c3 : ¬ a0.toList = []:=by rw [ByteArray.toList_eq,← hq];exact hnil
   have c4 : (a0.toList == ([] : List UInt8)) = false:=beq_eq_false_iff_ne.mpr c3
   have c5 : decide (a0.toList = ([] : List UInt8)) = false:=decide_eq_false c3
   have c6 : a0.toList.isEmpty = false:=by cases he : a0.toList with | nil => exact absurd he c3 | cons _ _ => rfl
   have hx6 : ∀ h : 0 < a0.size,((a0[0]'h).toNat : Int) = (b0.toNat : Int):=by
    intro h
    have : a0[0]'h = b0:=by
     rw [hb0,hq]
     have h2 : 0 < a0.data.size:=h
     show a0.data[0] = a0.data.toList.headD 0
     rw [List.headD_eq_head?_getD,List.head?_eq_getElem?,Array.getElem?_toList,Array.getElem?_eq_getElem h2]
     rfl
    rw [this]
   have q6 : (0 < a0.size) = True:=eq_true (by omega)
   have qi6 : (0 < (a0.size : Int)) = True:=eq_true (by omega)
   have hne0 : ¬ (a0.size : Int) = 0:=by omega
   by_cases hl0 : letB b0 = false
   ·have e : r = 3:=by rw [← hr];unfold nameL;rw [if_neg h24,if_neg hnil,if_pos (by rw [← hb0];exact hl0)]
    subst e
    have HL:=Aside0.mk ((letter_is b0).trans (congrArg some hl0))
    clear hq hr hl0 hb0 c3 hnil
    go_enter Try.func49,Try.ntmps49
    go_wp2_with (go_at_call 70;(with_reducible refine (dimension_letter.calls _ _ _ HL.out).mono ?_);rintro e w1 ⟨rfl,⟨q1,rfl⟩⟩)
    go_ret
    exact ⟨rfl,pw_below_drewN (Below.refl _ _) q1⟩
   ·have hl1 : letB b0 = true:=by cases hh : letB b0 with | true => rfl | false => exact absurd hh hl0
    have HL:=Aside0.mk ((letter_is b0).trans (congrArg some hl1))
    have HR2:=Aside0.mk (show (if q.all (fun b => letB b || digB b) then (0 : Int) else 3) = r from by rw [← hr];unfold nameL;rw [if_neg h24,if_neg hnil,if_neg (show ¬ letB (q.headD 0) = false by rw [← hb0];exact hl0)])
    have HQ2:=Aside0.mk (show ∀ (W : World) (j : Nat),j < q.length → (Lib.bytesWorld W 5 a0).cell? ⟨W.heap.size,j,none⟩ = some (.int .u8 (q.getD j 0).toNat) from fun W j hj => by rw [hq];exact Lib.bytesWorld_cell W 5 a0 j (by omega))
    have hconv:=fun W : World => Lib.run_convert_string_bytes (P:=Try.prog) W 9 104 5 a0 Try.underlying9 Try.underlying104 Try.underlying5
    clear hq hr hl0 hb0 c3 hnil HR HQ hl1
    go_enter Try.func49,Try.ntmps49
    go_wp2_with (go_at_call 70;(with_reducible refine (dimension_letter.calls _ _ _ HL.out).mono ?_);rintro e w1 ⟨rfl,⟨q1,rfl⟩⟩)
    go_loopw [19] (fun vi wr => ∃ (k : Nat),k ≤ q.length ∧ vi = .int .i64 (k : Int) ∧ Below w.heap.size w wr ∧ Aside0 ((∀ j,j < k → (letB (q.getD j 0) || digB (q.getD j 0)) = true) ∧ (∀ j,j < q.length → wr.cell? ⟨w.heap.size,j,none⟩ = some (.int .u8 (q.getD j 0).toNat)))) (fun vi _ => q.length - (intOf vi).toNat)
    case atStart => exact ⟨0,by omega,rfl,below_bytes (pw_below_drewN (Below.refl _ _) q1) (Nat.le_refl _) _ _,⟨fun j hj => absurd hj (by omega),fun j hj => by have:=HQ2.out (w.drewN q1) j hj;exact this⟩⟩
    case round =>
     obtain ⟨k,hk,rfl,hB,HI⟩:=hrel
     by_cases hlt : k < q.length
     ·obtain ⟨b,hb⟩ : ∃ b,b = q.getD k 0:=⟨_,rfl⟩
      have hcb : wr.cell? ⟨w.heap.size,k,none⟩ = some (.int .u8 b.toNat):=by rw [hb];exact HI.out.2 k hlt
      have HB:=Aside0.mk hb
      clear hb
      by_cases hl : letB b = true
      ·have HL2:=Aside0.mk ((letter_is b).trans (congrArg some hl))
       have HL3:=Aside0.mk hl
       clear hl
       go_wp2_with (go_at_call 70;(with_reducible refine (dimension_letter.calls _ _ _ HL2.out).mono ?_);rintro e w1 ⟨rfl,⟨q2,rfl⟩⟩)
       go_roundw
       case rel => exact ⟨k + 1,by omega,by go_num,pw_below_drewN hB q2,⟨fun j hj => by
        by_cases e : j = k
        ·rw [e,← HB.out,HL3.out];rfl
        ·exact HI.out.1 j (by omega),HI.out.2⟩⟩
       case measure => (simp [intOf] <;> omega)
      ·replace hl : letB b = false:=Bool.eq_false_iff.mpr hl
       have HL2:=Aside0.mk ((letter_is b).trans (congrArg some hl))
       by_cases hd : digB b = true
       ·have HD2:=Aside0.mk ((digit_is b).trans (congrArg some hd))
        have HD3:=Aside0.mk hd
        clear hl hd
        go_wp2_with (first | (go_at_call 70;(with_reducible refine (dimension_letter.calls _ _ _ HL2.out).mono ?_);rintro e w1 ⟨rfl,⟨q2,rfl⟩⟩) | (go_at_call 71;(with_reducible refine (dimension_digit.calls _ _ _ HD2.out).mono ?_);rintro e w1 ⟨rfl,⟨q3,rfl⟩⟩))
        go_roundw
        case rel => exact ⟨k + 1,by omega,by go_num,by repeat (first | exact hB | refine pw_below_drewN ?_ _),⟨fun j hj => by
         by_cases e : j = k
         ·rw [e,← HB.out,HD3.out,Bool.or_true]
         ·exact HI.out.1 j (by omega),HI.out.2⟩⟩
        case measure => (simp [intOf] <;> omega)
       ·replace hd : digB b = false:=Bool.eq_false_iff.mpr hd
        have HD2:=Aside0.mk ((digit_is b).trans (congrArg some hd))
        have e : r = 3:=by
         have h1:=HR2.out
         rw [not_all hlt (by rw [← HB.out,hl,hd];rfl)] at h1
         exact h1.symm.trans (if_neg (by decide))
        subst e
        clear hl hd
        go_wp2_with (first | (go_at_call 70;(with_reducible refine (dimension_letter.calls _ _ _ HL2.out).mono ?_);rintro e w1 ⟨rfl,⟨q2,rfl⟩⟩) | (go_at_call 71;(with_reducible refine (dimension_digit.calls _ _ _ HD2.out).mono ?_);rintro e w1 ⟨rfl,⟨q3,rfl⟩⟩))
        go_ret
        exact ⟨rfl,by repeat (first | exact hB | refine pw_below_drewN ?_ _)⟩
     ·obtain rfl : k = q.length:=by omega
      have e : r = 0:=by
       have h1:=HR2.out
       rw [if_pos (all_of_take HI.out.1)] at h1
       exact h1.symm
      subst e
      go_wp2
      go_ret
      exact ⟨rfl,hB⟩
end Go.Proofs.Ytnmmdeonkpfccaa.Pr
