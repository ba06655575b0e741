/- A part of the statement's proof. -/
import Derived.Test.YtnmmdeonkpfccaaDEnds3
import Derived.RegionTactic
import Derived.ChangeAlike
import Derived.Test.YtnmmdeonkpfccaaDEnds2
import Derived.Test.YtnmmdeonkpfccaaDEnds1
import Derived.Laws.Cover1
import Derived.Sort.Walk0
set_option linter.unusedVariables false
namespace Go.Proofs.Ytnmmdeonkpfccaa.Pr
open Go.RowKit Go.Shelf Go.Maps Go.Proofs.YtnmmdeonkpfccaaW.PrintWords Go.Proofs.YtnmmdeonkpfccaaW.PrintLast Go.Proofs.YtnmmdeonkpfccaaW.PrintMore
open Go.Proofs.Ytnmmdeonkpfccaa.Rg
def riskP (g : ByteArray) (x : S51) (s : Int) : Bool:=s == 3 || (s == 1 && decide (x.f1.data.toList = g.data.toList))
set_option maxHeartbeats 1000000 in
set_option maxRecDepth 100000 in
theorem judges54 (g : ByteArray) (Bg : Nat) (w : World) (hb : w.cell? ⟨Bg,0,none⟩ = some (.string g)) : Judges 54 #[.pointer (some ⟨Bg,0,none⟩)] (riskP g) w:=by
 intro W x s hW
 show Calls Try.prog 54 #[.agg #[.int .i64 x.f0,.string x.f1,.string x.f2,.string x.f3],.int .i64 s,.pointer (some ⟨Bg,0,none⟩)] W _
 have hbl:=World.block_lt_of_cell? w _ hb
 have hbW : W.cell? ⟨Bg,0,none⟩ = some (.string g):=(hW.cell (p:=⟨Bg,0,none⟩) hbl).trans hb
 have hbB : ∀ o : Obj,(W.alloc o).cell? ⟨Bg,0,none⟩ = some (.string g):=fun o => (((Below.refl _ W).alloc (Nat.le_refl _) o).cell (p:=⟨Bg,0,none⟩) (Nat.lt_of_lt_of_le hbl hW.size)).trans hbW
 have HB:=Aside0.mk (show ∀ o : Obj,Below W.heap.size W (W.alloc o) from fun o => (Below.refl _ W).alloc (Nat.le_refl _) o)
 by_cases h3 : s = 3
 ·subst h3
  have hr : riskP g x 3 = true:=rfl
  rw [hr]
  go_enter Try.func54,Try.ntmps54
  go_wp2
  go_ret
  exact ⟨rfl,HB.out _⟩
 ·have h3b : (s == 3) = false:=beq_eq_false_iff_ne.mpr h3
  by_cases h1 : s = 1
  ·subst h1
   obtain ⟨r,hr⟩ : ∃ r,r = decide (x.f1.data.toList = g.data.toList):=⟨_,rfl⟩
   have hrr : riskP g x 1 = r:=by rw [hr];rfl
   rw [hrr]
   have he : (x.f1.toList == g.toList) = r:=by rw [hr,ByteArray.toList_eq,ByteArray.toList_eq];exact Bool.eq_iff_iff.2 (by simp)
   have he2 : decide (x.f1.toList = g.toList) = r:=by rw [hr,ByteArray.toList_eq,ByteArray.toList_eq]
   clear hr hrr h3 h3b
   go_enter Try.func54,Try.ntmps54
   go_wp2
   go_ret
   exact ⟨rfl,HB.out _⟩
  ·have h1b : (s == 1) = false:=beq_eq_false_iff_ne.mpr h1
   have hr : riskP g x s = false:=by unfold riskP;rw [h3b,h1b];rfl
   rw [hr]
   clear h3 h1
   go_enter Try.func54,Try.ntmps54
   go_wp2
   go_ret
   exact ⟨rfl,HB.out _⟩
def riskL (l : List S51) (g : ByteArray) : List (List UInt8):=(keptL (riskP g) l).filter fun q => !decide (q ∈ recL l)
def atRiskV (l : List S51) (g : ByteArray) : List ByteArray × Int:=if checkV l ≠ 0 then ([],checkV l) else if nameL g.data.toList ≠ 0 then ([],nameL g.data.toList) else (strs (riskL l g),0)
def recall_AtRisk.f (l : List S51) (g : ByteArray) : Option (List ByteArray × Int):=some (atRiskV l g)
set_option maxHeartbeats 1000000 in
set_option maxRecDepth 100000 in
theorem recall_AtRisk.calls (A0 : Option Addr) (c0 : Nat) (l0 : List (S51)) (a1 : ByteArray) (r1 : List ByteArray) (r2 : Int) (w : World) (hr0 : Kd.C k51 w A0 l0.length l0) (hc0 : l0.length ≤ c0) (h : recall_AtRisk.f l0 a1 = some (r1,r2)) :
  Calls Try.prog 26 #[.slice A0 l0.length c0,.string a1] w fun e w' => ∃ v0_ : Value,e = .returned (.tuple #[v0_,.int .i64 r2]) ∧ Kd.R Kd.string 9 w' w.heap.size (fun _ => True) v0_ r1 ∧ Below w.heap.size w w':=by
 have e:=Option.some.inj h
 clear h
 have hb0 : Below w.heap.size w (w.alloc (.cells #[.string a1] 9)):=(Below.refl _ w).alloc (Nat.le_refl _) _
 have HB0:=Aside0.mk hb0
 have HR0:=Aside0.mk hr0
 obtain ⟨g,hg⟩ : ∃ g,g = checkV l0:=⟨_,rfl⟩
 have HCK:=Aside0.mk (recall_Check.calls A0 c0 l0 g _ (Kd.C_below hr0 hb0) hc0 (congrArg some hg.symm))
 by_cases hck : g = 0
 ·subst hck
  obtain ⟨nm,hnm⟩ : ∃ nm,nm = nameL a1.data.toList:=⟨_,rfl⟩
  have HN:=Aside0.mk (fun W => dimension_Name.calls a1 nm W (congrArg some hnm.symm))
  by_cases hn : nm = 0
  ·subst hn
   have hr : r1 = strs (riskL l0 a1) ∧ r2 = 0:=by unfold atRiskV at e;rw [← hg,← hnm,if_neg (by decide),if_neg (by decide)] at e;cases e;exact ⟨rfl,rfl⟩
   obtain ⟨rfl,rfl⟩:=hr
   obtain ⟨hl,hnx⟩:=check_zero hg.symm
   have HH:=Aside0.mk hg.symm
   have HNX:=Aside0.mk hnx
   clear e hg hnm hr0 hb0 hnx
   go_enter Try.func26,Try.ntmps26
   go_wp2_with (first | (go_at_call 16;refine HCK.out.mono ?_;rintro e w1 ⟨rfl,hb1⟩;have HB1:=Aside0.mk hb1;have hg1 : w1.cell? ⟨w.heap.size,0,none⟩ = some (.string a1):=(blk_cell (blk_below (blk_new w (.cells #[.string a1] 9)) hb1) 0).trans rfl;clear hb1) | (go_at_call 49;refine (HN.out _).mono ?_;rintro e w2 ⟨rfl,hb2⟩;have HB2:=Aside0.mk hb2;have HG2:=Aside0.mk ((hb2.cell (p:=⟨w.heap.size,0,none⟩) (World.block_lt_of_cell? w1 _ hg1)).trans hg1);clear hb2 hg1) | (go_at_call 41;refine (recalled_ok A0 c0 l0 _ (Kd.C_below (Kd.C_below (Kd.C_below HR0.out HB0.out) HB1.out) HB2.out) HH.out).mono ?_;rintro e w3 ⟨b,rfl,h1,h2,h3⟩;have H1:=Aside0.mk h1;have H2:=Aside0.mk h2;have H3:=Aside0.mk h3;clear h1 h2 h3))
   have hb4 : Below w3.heap.size w3 (w3.alloc (.cells #[.map (some b)] 49)):=(Below.refl _ w3).alloc (Nat.le_refl _) _
   have hsz0:=HB1.out.size
   rw [World.size_alloc] at hsz0
   have hb14 : Below w.heap.size w (w3.alloc (.cells #[.map (some b)] 49)):=(((HB0.out.trans (HB1.out.mono HB0.out.size)).trans (HB2.out.mono (by omega))).trans (H3.out.mono (by have:=HB2.out.size;omega))).trans (hb4.mono (by have:=HB2.out.size;have:=H3.out.size;omega))
   have HB14:=Aside0.mk hb14
   have hgg : (w3.alloc (.cells #[.map (some b)] 49)).cell? ⟨w.heap.size,0,none⟩ = some (.string a1):=(hb4.cell (p:=⟨w.heap.size,0,none⟩) (show w.heap.size < w3.heap.size by have:=HB2.out.size;have:=H3.out.size;omega)).trans ((H3.out.cell (p:=⟨w.heap.size,0,none⟩) (World.block_lt_of_cell? w2 _ HG2.out)).trans HG2.out)
   have HKP:=Aside0.mk (kept_ok A0 c0 l0 54 #[.pointer (some ⟨w.heap.size,0,none⟩)] (riskP a1) _ (Kd.C_below HR0.out hb14) hl (fun x hx => (namesX_zero (HNX.out x hx)).2.1) (fun x hx => (namesX_zero (HNX.out x hx)).2.2.1) (enters_of Try.func54 (by kernel_rfl) rfl) (judges54 a1 w.heap.size _ hgg))
   have HBX:=Aside0.mk (show (w3.alloc (.cells #[.map (some b)] 49)).heap[w3.heap.size]? = some (.cells #[.map (some b)] 49) from blk_new _ _)
   have hbl:=H2.out.lt
   have HM3:=Aside0.mk (H2.out.alloc (.cells #[.map (some b)] 49))
   clear hb14 hb4 hgg
   go_wp2_with (first | (go_at_call 53;refine HKP.out.mono ?_;rintro e w4 ⟨b2,rfl,h1,h2,h3⟩;have K1:=Aside0.mk h1;have K2:=Aside0.mk h2;have K3:=Aside0.mk h3;have HDL:=Aside0.mk (delete_ok 56 (enters_of Try.func56 (by kernel_rfl) rfl) never56 b2 4096 w3.heap.size b 4096 _ _ w4 h2 ((blk_cell (blk_below HBX.out h3) 0).trans rfl) (HM3.out.below h3) (by rw [World.size_alloc] at h1;omega) (by rw [World.size_alloc] at h1;omega));clear h1 h2 h3) | (go_at_call 55;refine HDL.out.mono ?_;rintro e w5 ⟨rfl,h1,h2⟩;have D1:=Aside0.mk h1;have D2:=Aside0.mk h2;clear h1 h2) | (go_at_call 40;refine (sorted_ok b2 4096 _ _ D1.out (by omega)).mono ?_;rintro e w6 ⟨v,rfl,h4,h5⟩;have H4:=Aside0.mk h4;have H5:=Aside0.mk h5;clear h4 h5))
   go_ret2
   have hx:=K1.out
   rw [World.size_alloc] at hx
   have hb5 : Below w.heap.size w w5:=(HB14.out.trans (K3.out.mono HB14.out.size)).grown D2.out (by have:=HB14.out.size;have:=K3.out.size;omega) (fun k e => by cases e;have:=HB14.out.size;rw [World.size_alloc] at this;omega)
   exact ⟨_,rfl,R_base H4.out hb5.size,hb5.trans (H5.out.mono hb5.size)⟩
  ·have hr : r1 = [] ∧ r2 = nm:=by unfold atRiskV at e;rw [← hg,← hnm,if_neg (by decide),if_pos hn] at e;cases e;exact ⟨rfl,rfl⟩
   obtain ⟨rfl,rfl⟩:=hr
   have hn1 : (r2 != 0) = true:=bne_iff_ne.mpr hn
   have hn2 : (r2 == 0) = false:=beq_eq_false_iff_ne.mpr hn
   clear e hg hnm hr0 hb0 hn
   go_enter Try.func26,Try.ntmps26
   go_wp2_with (first | (go_at_call 16;refine HCK.out.mono ?_;rintro e w1 ⟨rfl,hb1⟩;have HB1:=Aside0.mk hb1;have hg1 : w1.cell? ⟨w.heap.size,0,none⟩ = some (.string a1):=(blk_cell (blk_below (blk_new w (.cells #[.string a1] 9)) hb1) 0).trans rfl;clear hb1) | (go_at_call 49;refine (HN.out _).mono ?_;rintro e w2 ⟨rfl,hb2⟩;have HB2:=Aside0.mk hb2;clear hb2))
   go_ret2
   have hx:=HB0.out.trans (HB1.out.mono HB0.out.size)
   exact ⟨_,rfl,Kd.R_nil _ _ _ _ _,hx.trans (HB2.out.mono hx.size)⟩
 ·have hr : r1 = [] ∧ r2 = g:=by unfold atRiskV at e;rw [← hg,if_pos hck] at e;cases e;exact ⟨rfl,rfl⟩
  obtain ⟨rfl,rfl⟩:=hr
  have hg1 : (r2 != 0) = true:=bne_iff_ne.mpr hck
  have hg2 : (r2 == 0) = false:=beq_eq_false_iff_ne.mpr hck
  clear e hg hck hr0 hb0
  go_enter Try.func26,Try.ntmps26
  go_wp2_with (go_at_call 16;refine HCK.out.mono ?_;rintro e w1 ⟨rfl,hb1⟩;have HB1:=Aside0.mk hb1;clear hb1)
  go_ret2
  exact ⟨_,rfl,Kd.R_nil _ _ _ _ _,HB0.out.trans (HB1.out.mono HB0.out.size)⟩
end Go.Proofs.Ytnmmdeonkpfccaa.Pr
set_option linter.unusedVariables false
namespace Go.Proofs.Ytnmmdeonkpfccaa.Pr
open Go.RowKit Go.Shelf Go.Maps Go.Proofs.YtnmmdeonkpfccaaW.PrintWords Go.Proofs.YtnmmdeonkpfccaaW.PrintLast Go.Proofs.YtnmmdeonkpfccaaW.PrintMore
open Go.Proofs.Ytnmmdeonkpfccaa.Rg
attribute [local go_sem] Oper.semAt_some
def unsK (l : List S51) : Nat → List (List UInt8)
 | 0 => []
 | k + 1 => if (chkA l k).2 = 1 then (evK l k).f1.data.toList :: unsK l k else unsK l k
def unsureV (l : List S51) : List ByteArray × Int:=if checkV l ≠ 0 then ([],checkV l) else (strs (unsK l l.length),0)
def recall_Unsure.f (l : List S51) : Option (List ByteArray × Int):=some (unsureV l)
set_option maxRecDepth 100000 in
set_option maxHeartbeats 2000000 in
theorem Unsure_ok (A0 : Option Addr) (c0 : Nat) (l : List (S51)) (w : World) (hr0 : Kd.C k51 w A0 l.length l) (hc0 : l.length ≤ c0) (hck : checkV l = 0) :
  Calls Try.prog 22 #[.slice A0 l.length c0] w fun e w' => ∃ v,e = .returned (.tuple #[v,.int .i64 0]) ∧ Kd.R Kd.string 9 w' w.heap.size (fun _ => True) v (strs (unsK l l.length)) ∧ Below w.heap.size w w':=by
 obtain ⟨hl,hnx⟩:=check_zero hck
 have hg : ∀ x ∈ l,x.f1.size ≤ 24:=fun x hx => (namesX_zero (hnx x hx)).2.1
 have hlt:=slice_lt hr0
 have HCK:=Aside0.mk (fun W hr => recall_Check.calls A0 c0 l 0 W hr hc0 (congrArg some hck))
 have HR0:=Aside0.mk hr0
 have HG:=Aside0.mk hg
 have HLT:=Aside0.mk hlt
 have hmm:=@run_makeMap Try.prog
 have hf16 : Fence.wide.fn 16:=trivial
 have hf38 : Fence.wide.fn 38:=trivial
 have hf40 : Fence.wide.fn 40:=trivial
 have hb1 : Below w.heap.size w (w.alloc (.cells #[.slice A0 l.length c0] 22)):=(Below.refl _ w).alloc (Nat.le_refl _) _
 have HB0:=Aside0.mk hb1
 clear hr0 hnx hg hlt hck hb1
 refine (callsIn_wide (n:=3)).1 ?_
 refine callsIn_of_wp_marks Try.func22 rfl trivial ?_ rfl
 simp only [Try.ntmps22,List.size_toArray,List.length_cons,List.length_nil,Nat.reduceAdd,Nat.reduceSub,Array.replicate_succ,Array.replicate_zero,List.push_toArray,List.append_toArray,List.nil_append,List.cons_append]
 gi_wp2_with (first | ((first | refine ⟨fun h => absurd h (by decide),?_⟩ | skip);gi_at_call 16;refine (callsIn_wide.2 (HCK.out _ (Kd.C_below HR0.out HB0.out))).mono ?_;rintro e w1 ⟨rfl,hb1⟩;have HB1:=Aside0.mk hb1;have hl1 : w1.cell? ⟨w.heap.size,0,none⟩ = some (.slice A0 l.length c0):=(blk_cell (blk_below (blk_new w (.cells #[.slice A0 l.length c0] 22)) hb1) 0).trans rfl;have hs1 : w.heap.size + 1 ≤ w1.heap.size:=(by have:=hb1.size;simpa using this);have hl3 : ((w1.alloc (.map #[] 0)).alloc (.cells #[.map (some w1.heap.size)] 49)).cell? ⟨w.heap.size,0,none⟩ = some (.slice A0 l.length c0):=((((Below.refl w1.heap.size w1).alloc (Nat.le_refl _) _).alloc (by simp) _).cell (p:=⟨w.heap.size,0,none⟩) (by show w.heap.size < w1.heap.size;omega)).trans hl1;clear hb1) | ((first | refine ⟨fun h => absurd h (by decide),?_⟩ | skip);gi_at_call 38;refine (states_in _ A0 c0 l.length _).mono ?_;rintro e w' ⟨rfl,rfl⟩))
 obtain ⟨Wl,hWl⟩ : ∃ Wl,(((w1.alloc (Obj.map #[] 0)).alloc (Obj.cells #[Value.map (some w1.heap.size)] 49)).alloc (Obj.cells #[Value.slice A0 l.length c0] 22)) = Wl:=⟨_,rfl⟩
 have hsl : Wl.heap.size = w1.heap.size + 3:=by rw [← hWl];simp
 have hb3 : Below w1.heap.size w1 Wl:=by rw [← hWl];exact (((Below.refl _ w1).alloc (Nat.le_refl _) _).alloc (by simp) _).alloc (by simp;omega) _
 have q0 : Wl.heap[w.heap.size]? = some (.cells #[.slice A0 l.length c0] 22):=(hb3.block _ (by omega)).trans (blk_below (blk_new w (.cells #[.slice A0 l.length c0] 22)) HB1.out)
 have q1 : MapF Try.prog 9 Wl w1.heap.size 0 (fSet (unsK l 0)):=by
  rw [← hWl,show unsK l 0 = [] from rfl,fSet_nil]
  exact ((MapF.made w1 Try.prog 9).alloc _).alloc _
 have q2 : Wl.heap[w1.heap.size + 1]? = some (.cells #[.map (some w1.heap.size)] 49):=by
  rw [← hWl]
  have:=blk_new (w1.alloc (Obj.map #[] 0)) (Obj.cells #[Value.map (some w1.heap.size)] 49)
  rw [World.size_alloc] at this
  exact blk_alloc this _
 have hL0 : Wl.cell? ⟨w1.heap.size + 2,0,none⟩ = some (.slice A0 l.length c0):=by
  rw [← hWl]
  have:=blk_new ((w1.alloc (Obj.map #[] 0)).alloc (Obj.cells #[Value.map (some w1.heap.size)] 49)) (Obj.cells #[Value.slice A0 l.length c0] 22)
  rw [World.size_alloc,World.size_alloc] at this
  exact (blk_cell this 0).trans rfl
 rw [hWl]
 clear hWl hf16 hf38 hl1 hl3
 have hbw : Below w.heap.size w Wl:=(HB0.out.trans (HB1.out.mono HB0.out.size)).trans (hb3.mono (by omega))
 refine rangeB2 (gf:=64) (lb:=#[.pointer (some ⟨w1.heap.size + 2,0,none⟩)]) rfl (enters_of Try.func64 (by kernel_rfl) rfl) (fun i => i = w1.heap.size) (fun i hi => by omega)
  (states_seq _ A0 c0 (w1.heap.size + 2) l Wl hl HG.out (Kd.C_below HR0.out hbw) (fun ad ha hne h => by have:=HLT.out ad ha hne;omega) (fun ad ha hne => by have:=HLT.out ad ha hne;omega) hL0 (fun h => by omega)) (fun _ => rfl)
  (fun pre Wr => ∃ (k : Nat),k ≤ l.length ∧ pre = statK l k ∧ MapF Try.prog 9 Wr w1.heap.size k (fSet (unsK l k)) ∧ (∀ i,(i = w.heap.size ∨ i = w1.heap.size + 1) → Wr.heap[i]? = Wl.heap[i]?) ∧ Below w.heap.size w Wr)
  ?hI ⟨0,by omega,rfl,q1,fun _ _ => rfl,hbw⟩ ?round ?done
 case hI =>
  rintro pre Wr Wr' ⟨k,hk,hp,hm1,hb,hB⟩ hsz hsz2 h1 h2 h3 h4
  exact ⟨k,hk,hp,hm1.same (h4 _ (by omega)),fun i hi => (h4 i (by omega)).trans (hb i hi),below_reads hB (by omega) hsz2 h1 h2 h3 h4⟩
 case round =>
  rintro m pre ⟨i,a,s⟩ Wr hI hsz hpf
  have HI:=Aside0.mk hI
  have Q0:=Aside0.mk q0
  have Q2:=Aside0.mk q2
  clear hI hpf q0 q1 q2 hL0 hbw hb3
  simp only [encS,pairV]
  gi_wp2
  obtain ⟨k,hk,hp,hm1,hb,hB⟩:=HI.out
  refine ⟨(KeepC.refl _ _).alloc _,⟨k,hk,hp,hm1.alloc _,fun i hi => (Below.heap_alloc _ _ _ (by omega)).trans (hb i hi),hB.alloc (by omega) _⟩,?_⟩
  clear k hk hp hm1 hb hB
  rintro m2 pre2 W2 hone ⟨k,hk,hp,hm1,hb,hB⟩ hsz2 ⟨k',hk',hpk⟩
  obtain ⟨rfl,hx⟩:=statK_next hp hpk
  simp only [Prod.mk.injEq] at hx
  obtain ⟨hi,hc⟩:=hx
  have hcs : s = (chkA l k).2:=by rw [← hc]
  have hbx : W2.heap[Wr.heap.size]? = some (.cells #[.int .i64 a,.int .i64 s] 65):=(hone.2.2.2.2 _ (by omega)).trans (blk_new _ _)
  have hc1 : W2.cell? ⟨Wr.heap.size,1,none⟩ = some (.int .i64 s):=(blk_cell hbx 1).trans rfl
  have hl2 : W2.cell? ⟨w.heap.size,0,none⟩ = some (.slice A0 l.length c0):=(blk_cell ((hb _ (by omega)).trans Q0.out) 0).trans rfl
  have hm2 : W2.cell? ⟨w1.heap.size + 1,0,none⟩ = some (.map (some w1.heap.size)):=(blk_cell ((hb _ (by omega)).trans Q2.out) 0).trans rfl
  have hi0 : 0 ≤ i:=by rw [hi];omega
  have hi1 : i < (l.length : Int):=by rw [hi];omega
  obtain ⟨x,hx⟩ : ∃ x,x = evK l k:=⟨_,rfl⟩
  have hrd : rd_T51 l i = x:=by unfold rd_T51;rw [hx,hi];unfold evK;congr 1;omega
  have hxm : x.f1.size ≤ 24:=by
   refine HG.out x ?_
   rw [hx];unfold evK
   rw [List.getD_eq_getElem?_getD,List.getElem?_eq_getElem (by omega)]
   exact List.getElem_mem _
  have hxm2 : x.f1.size ≤ maxLen:=by unfold maxLen;omega
  obtain ⟨ad,e1,hx0,hx1,hx2,hx3⟩:=at_T51 HR0.out i hi0 hi1
  cases e1
  rw [hrd] at hx0 hx1 hx2 hx3
  replace hx1:=(hB.cell (World.block_lt_of_cell? w _ hx1)).trans hx1
  have HM1:=Aside0.mk hm1
  have HBL:=Aside0.mk hb
  have HP:=Aside0.mk hpk
  have HBB:=Aside0.mk hB
  have HKS:=Aside0.mk (show unsK l (k + 1) = if s = 1 then x.f1.data.toList :: unsK l k else unsK l k from by rw [hcs,hx];rfl)
  have FIN:=Aside0.mk (show ∀ W',NearC (fun i => i = w1.heap.size) W2 W' → MapF Try.prog 9 W' w1.heap.size (k + 1) (fSet (unsK l (k + 1))) →
    KeepC (fun i => i = w1.heap.size) W2 W' ∧ ∃ k,k ≤ l.length ∧ pre2 ++ [(i,a,s)] = statK l k ∧ MapF Try.prog 9 W' w1.heap.size k (fSet (unsK l k)) ∧ (∀ i,(i = w.heap.size ∨ i = w1.heap.size + 1) → W'.heap[i]? = Wl.heap[i]?) ∧ Below w.heap.size w W' from by
   intro W' hn h1
   exact ⟨hn.2.2.2,k + 1,hk',HP.out,h1,fun i hi => (hn.2.2.2.same i (by omega) (by omega)).trans (HBL.out i hi),below_reads HBB.out (Nat.le_refl _) hn.2.2.2.size hn.1 hn.2.1 hn.2.2.1 (fun i hi => hn.2.2.2.same i (by omega) (by omega))⟩)
  clear hm1 hb hpk hB hcs hi hc hp hbx hone HI hx hrd hx0 hx2 hx3
  by_cases k1 : s = 1
  ·rw [k1] at hc1
   have HK2:=Aside0.mk (HKS.out.trans (if_pos k1))
   obtain ⟨w8,hrun,hm8,hg8⟩:=(show MapF Try.prog 9 W2.drew w1.heap.size k (fSet (unsK l k)) from HM1.out.same rfl).store Try.underlying9 Try.underlying49 (by unfold maxLen;omega) (s:=x.f1) hxm2 (.bool true)
   have HM8:=Aside0.mk hm8
   have HN8:=Aside0.mk (show NearC (fun i => i = w1.heap.size) W2 w8 from NearC.grown (Y:=W2.drew) ⟨rfl,rfl,rfl,(KeepC.refl _ _).drew⟩ hg8 rfl)
   have hz : ¬ i < 0:=by omega
   clear k1 hm8 hg8
   gi_wp2
   gi_region
   all_goals exact FIN.out _ HN8.out (by rw [HK2.out,← fSet_put];exact HM8.out)
  ·have k1b : (s == 1) = false:=beq_eq_false_iff_ne.mpr k1
   have HK2:=Aside0.mk (HKS.out.trans (if_neg k1))
   clear k1
   gi_wp2
   exact FIN.out _ (NearC.refl _ _) (by rw [HK2.out];exact HM1.out.mono (Nat.le_succ _))
 case done =>
  rintro xs W' rfl ⟨k,hk,hp,hm1,hb,hB⟩ hK hsz
  obtain rfl:=statK_inj hp
  have hc3 : W'.cell? ⟨w1.heap.size + 1,0,none⟩ = some (.map (some w1.heap.size)):=(blk_cell ((hb _ (by omega)).trans q2) 0).trans rfl
  rw [hsl] at hK
  have HS:=Aside0.mk (sorted_ok w1.heap.size l.length (unsK l l.length) W' hm1 (by omega))
  have HB:=Aside0.mk hB
  clear hm1 hb hB q0 q1 q2 hbw hL0 hp
  gi_wp2_with ((first | refine ⟨fun h => absurd h (by decide),?_⟩ | skip);gi_at_call 40;refine (callsIn_wide.2 HS.out).mono ?_;rintro e w9 ⟨v,rfl,h4,h5⟩;have H4:=Aside0.mk h4;have H5:=Aside0.mk h5;clear h4 h5)
  have hK9 : w9.heap[w1.heap.size + 3]? = some (.deferred (some [])):=(H5.out.block (w1.heap.size + 3) (by omega)).trans hK
  have hD:=(Array.getElem?_eq_some_iff.1 hK9).1
  refine ⟨by simp,.inl ⟨_,_,rfl,run_takeDeferred hK9,?_⟩⟩
  refine ⟨_,results_tmp2 (fn:=Try.f22) rfl _ _ _,_,rfl,?_,?_⟩
  ·exact R_base (Kd.R_of_own (enc:=Value.string) (h1:=fun _ => rfl) (ownsRow_putObj (Kd.own_of_R (enc:=Value.string) (h1:=fun _ => rfl) H4.out) _ hK9 rfl) (fun _ _ => trivial)) HB.out.size
  ·exact below_reads (HB.out.trans (H5.out.mono HB.out.size)) (Nat.le_refl _) (by simp) rfl rfl rfl (fun i hi => World.putObj_heap_other (by omega))
set_option maxRecDepth 100000 in
set_option maxHeartbeats 1000000 in
theorem recall_Unsure.calls (A0 : Option Addr) (c0 : Nat) (l0 : List (S51)) (r1 : List ByteArray) (r2 : Int) (w : World) (hr0 : Kd.C k51 w A0 l0.length l0) (hc0 : l0.length ≤ c0) (h : recall_Unsure.f l0 = some (r1,r2)) :
  Calls Try.prog 22 #[.slice A0 l0.length c0] w fun e w' => ∃ v0_ : Value,e = .returned (.tuple #[v0_,.int .i64 r2]) ∧ Kd.R Kd.string 9 w' w.heap.size (fun _ => True) v0_ r1 ∧ Below w.heap.size w w':=by
 have e:=Option.some.inj h
 clear h
 by_cases hck : checkV l0 = 0
 ·have hr : r1 = strs (unsK l0 l0.length) ∧ r2 = 0:=by unfold unsureV at e;rw [if_neg (by rw [hck];decide)] at e;cases e;exact ⟨rfl,rfl⟩
  obtain ⟨rfl,rfl⟩:=hr
  exact Unsure_ok A0 c0 l0 w hr0 hc0 hck
 ·obtain ⟨g,hg⟩ : ∃ g,g = checkV l0:=⟨_,rfl⟩
  have hr : r1 = [] ∧ r2 = g:=by unfold unsureV at e;rw [if_pos hck] at e;cases e;exact ⟨rfl,hg.symm⟩
  obtain ⟨rfl,rfl⟩:=hr
  have hb0 : Below w.heap.size w (w.alloc (.cells #[.slice A0 l0.length c0] 22)):=(Below.refl _ w).alloc (Nat.le_refl _) _
  have HB0:=Aside0.mk hb0
  have HCK:=Aside0.mk (recall_Check.calls A0 c0 l0 r2 _ (Kd.C_below hr0 hb0) hc0 (congrArg some hg.symm))
  rw [← hg] at hck
  have hg1 : (r2 != 0) = true:=bne_iff_ne.mpr hck
  have hg2 : (r2 == 0) = false:=beq_eq_false_iff_ne.mpr hck
  clear e hg hck hr0 hb0
  go_enter Try.func22,Try.ntmps22
  go_wp2_with (go_at_call 16;refine HCK.out.mono ?_;rintro e w1 ⟨rfl,hb1⟩;have HB1:=Aside0.mk hb1;clear hb1)
  go_ret2
  exact ⟨_,rfl,Kd.R_nil _ _ _ _ _,HB0.out.trans (HB1.out.mono HB0.out.size)⟩
end Go.Proofs.Ytnmmdeonkpfccaa.Pr
set_option linter.unusedVariables false
namespace Go.Proofs.Ytnmmdeonkpfccaa.Pr
open Go.RowKit Go.Proofs.YtnmmdeonkpfccaaW.PrintWords Go.Proofs.YtnmmdeonkpfccaaW.PrintLast Go.Proofs.YtnmmdeonkpfccaaW.PrintMore
theorem Ev.const {α : Type} {g : Nat → Option α} {r : α} (h : ∀ k,g (k + 1) = some r) : Ev g r:=Ev.step (f:=fun _ => some r) h (Ev.now r)
theorem drop_at {α : Type} {l : List α} {i : Nat} (h : i < l.length) : ∃ x,l[i]? = some x ∧ l.drop i = x :: l.drop (i + 1) :=
 ⟨l[i],List.getElem?_eq_getElem h,List.drop_eq_getElem_cons h⟩
theorem wrap_nat {i : Nat} (h : i ≤ 9223372036854775806) : wrap64 ((i : Int) + 1) = ((i + 1 : Nat) : Int):=by unfold wrap64;omega
abbrev to67 (x : S51) : S67:=⟨x.f0,x.f1,x.f2,x.f3⟩
def rl (l : List S51) : List S67:=l.map to67
theorem rl_len (l : List S51) : (rl l).length = l.length:=by unfold rl;rw [List.length_map]
theorem rd51_at {l : List S51} {i : Nat} {x : S51} (h : l[i]? = some x) : rd_T51 l (i : Int) = x:=by unfold rd_T51;rw [Int.toNat_natCast,List.getD_eq_getElem?_getD,h];rfl
theorem rd67_at {l : List S51} {i : Nat} {x : S51} (h : l[i]? = some x) : rd_T67 (rl l) (i : Int) = to67 x:=by unfold rd_T67 rl;rw [Int.toNat_natCast,List.getD_eq_getElem?_getD,List.getElem?_map,h];rfl
theorem rdOf_at {α : Type} {d : α} {l : List α} {i : Nat} {x : α} (h : l[i]? = some x) : rdOf d l (i : Int) = x:=by unfold rdOf;rw [Int.toNat_natCast,List.getD_eq_getElem?_getD,h];rfl
theorem own_go (l : List S51) (hn : l.length ≤ 2513169434915) : ∀ (d i : Nat),i ≤ l.length → l.length - i = d → Ev (fun k => metrolablaw53_own.l0 k (rl (l.take i)) l (l.length : Int) (i : Int)) (rl l):=by
 intro d
 induction d with
 | zero =>
  intro i hi hd
  obtain rfl : i = l.length:=by omega
  refine Ev.const fun k => ?_
  simp only [metrolablaw53_own.l0]
  rw [if_neg (by omega),List.take_length]
 | succ d ih =>
  intro i hi hd
  obtain ⟨x,hx,hdr⟩:=drop_at (show i < l.length by omega)
  refine Ev.step (f:=fun k => metrolablaw53_own.l0 k (rl (l.take (i + 1))) l (l.length : Int) ((i + 1 : Nat) : Int)) (fun k => ?_) (ih (i + 1) (by omega) (by omega))
  simp only [metrolablaw53_own.l0]
  rw [if_pos (by omega),if_pos (by omega),if_pos (by omega),if_pos (by rw [rl_len,List.length_take];omega),wrap_nat (by omega),rd51_at hx]
  have e : l.take (i + 1) = l.take i ++ [x]:=by rw [List.take_add_one,hx];rfl
  rw [e]
  unfold rl
  rw [List.map_append]
  rfl
theorem own_ev (l : List S51) (hn : l.length ≤ 2513169434915) : Ev (fun k => metrolablaw53_own.f k l) (rl l):=by
 have:=own_go l hn l.length 0 (by omega) (by omega)
 exact this
theorem few_go (l : List S51) (hn : l.length ≤ 2513169434915) : ∀ (d i : Nat),i ≤ l.length → l.length - i = d → ∃ b,Ev (fun k => metrolabref53_Few.l0 k (rl l) (i : Int)) b:=by
 intro d
 induction d with
 | zero =>
  intro i hi hd
  obtain rfl : i = l.length:=by omega
  refine ⟨true,Ev.const fun k => ?_⟩
  simp only [metrolabref53_Few.l0]
  rw [if_neg (by rw [rl_len];omega)]
 | succ d ih =>
  intro i hi hd
  obtain ⟨b,hb⟩:=ih (i + 1) (by omega) (by omega)
  by_cases h : ((rd_T67 (rl l) i).f1.size : Int) > 60 ∨ ((rd_T67 (rl l) i).f2.size : Int) > 60 ∨ ((rd_T67 (rl l) i).f3.size : Int) > 60
  ·refine ⟨false,Ev.const fun k => ?_⟩
   simp only [metrolabref53_Few.l0]
   rw [if_pos (by rw [rl_len];omega),if_pos (by omega)]
   split
   ·rfl
   ·split
    ·rfl
    ·rw [if_pos (by omega)]
  ·refine ⟨b,Ev.step (f:=fun k => metrolabref53_Few.l0 k (rl l) ((i + 1 : Nat) : Int)) (fun k => ?_) hb⟩
   simp only [metrolabref53_Few.l0]
   rw [if_pos (by rw [rl_len];omega),if_pos (by omega),if_neg (by omega),if_neg (by omega),if_neg (by omega),wrap_nat (by omega)]
theorem Few_ev (l : List S51) (hn : l.length ≤ 2513169434915) : ∃ b,Ev (fun k => metrolabref53_Few.f k (rl l)) b:=by
 obtain ⟨b,hb⟩:=few_go l hn l.length 0 (by omega) (by omega)
 have hj : ∀ c : Bool,∃ b,Ev (fun k => metrolabref53_Few.j0 k (rl l) c) b:=by
  intro c
  cases c
  ·exact ⟨b,Ev.step (f:=fun k => metrolabref53_Few.l0 k (rl l) (0 : Int)) (fun k => by simp only [metrolabref53_Few.j0];rw [if_neg (by decide)]) hb⟩
  ·exact ⟨false,Ev.const fun k => by simp only [metrolabref53_Few.j0];rw [if_pos True.intro]⟩
 unfold metrolabref53_Few.f
 by_cases h1 : ((rl l).length : Int) > 16
 ·simp only [if_pos h1]
  by_cases h2 : ((rl l).length : Int) ≤ 4096
  ·simp only [if_pos h2];exact hj _
  ·simp only [if_neg h2];exact hj _
 ·simp only [if_neg h1];exact hj _
theorem few_ev (l : List S51) (a : ByteArray) (hn : l.length ≤ 2513169434915) : ∃ b,Ev (fun k => metrolablaw53_few.f k l a) b:=by
 obtain ⟨b,hb⟩:=Few_ev l hn
 unfold metrolablaw53_few.f
 cases b
 ·exact ⟨false,Ev.bind (own_ev l hn) (Ev.bind hb (Ev.now _))⟩
 ·exact ⟨_,Ev.bind (own_ev l hn) (Ev.bind hb (Ev.now _))⟩
theorem bt_at {s : ByteArray} {i : Nat} {b : UInt8} (h : s.data.toList[i]? = some b) : bt s (i : Int) = (b.toNat : Int):=by
 unfold bt
 rw [Array.getElem?_toList] at h
 obtain ⟨h1,h2⟩:=Array.getElem?_eq_some_iff.1 h
 rw [dif_pos (show (i : Int).toNat < s.size by rw [Int.toNat_natCast];exact h1)]
 show (((s.data[(i : Int).toNat]'(by rw [Int.toNat_natCast];exact h1)).toNat : Int)) = _
 simp only [Int.toNat_natCast]
 rw [h2]
theorem letter_eq (b : UInt8) : metrolabref17_letter.f (b.toNat : Int) = some (letB b):=by
 unfold metrolabref17_letter.f letB
 split
 ·split
  ·rw [decide_eq_true (by omega)]
  ·split
   ·congr 1;rw [decide_eq_decide];omega
   ·rw [decide_eq_false (by omega)]
 ·split
  ·congr 1;rw [decide_eq_decide];omega
  ·rw [decide_eq_false (by omega)]
theorem size_len (s : ByteArray) : s.size = s.data.toList.length:=by rw [Array.length_toList];rfl
def nmP (b : UInt8) : Bool:=letB b || digB b
theorem name_go (s : ByteArray) (hn : s.size ≤ 24) : ∀ (d i : Nat),i ≤ s.size → s.size - i = d → Ev (fun k => metrolabref17_Name.l0 k s (i : Int)) (if (s.data.toList.drop i).all nmP then 0 else 3):=by
 intro d
 induction d with
 | zero =>
  intro i hi hd
  obtain rfl : i = s.size:=by omega
  refine Ev.const fun k => ?_
  simp only [metrolabref17_Name.l0]
  rw [if_neg (by omega),size_len,List.drop_length];rfl
 | succ d ih =>
  intro i hi hd
  obtain ⟨x,hx,hdr⟩:=drop_at (l:=s.data.toList) (i:=i) (by rw [← size_len];omega)
  have hih:=ih (i + 1) (by omega) (by omega)
  rw [hdr,List.all_cons]
  by_cases h1 : letB x = true
  ·have : nmP x = true:=by unfold nmP;rw [h1];rfl
   rw [this,Bool.true_and]
   refine Ev.step (f:=fun k => metrolabref17_Name.l0 k s ((i + 1 : Nat) : Int)) (fun k => ?_) hih
   simp only [metrolabref17_Name.l0]
   rw [if_pos (by omega),if_pos (by omega),bt_at hx,letter_eq,h1,Option.bind_some,if_pos rfl,wrap_nat (by omega)]
  ·have h1:=Bool.eq_false_iff.2 h1
   by_cases h2 : digB x = true
   ·have : nmP x = true:=by unfold nmP;rw [h2,Bool.or_true]
    rw [this,Bool.true_and]
    unfold digB at h2
    have h2:=of_decide_eq_true h2
    refine Ev.step (f:=fun k => metrolabref17_Name.l0 k s ((i + 1 : Nat) : Int)) (fun k => ?_) hih
    simp only [metrolabref17_Name.l0]
    rw [if_pos (by omega),if_pos (by omega),bt_at hx,letter_eq,h1,Option.bind_some,if_neg (by decide),if_neg (by omega),if_neg (by omega),wrap_nat (by omega)]
   ·have : nmP x = false:=by unfold nmP;rw [h1,Bool.false_or];exact Bool.eq_false_iff.2 h2
    rw [this,Bool.false_and]
    have h2 : ¬ (48 ≤ x.toNat ∧ x.toNat ≤ 57):=fun h => h2 (decide_eq_true h)
    refine Ev.const fun k => ?_
    simp only [metrolabref17_Name.l0]
    rw [if_pos (by omega),if_pos (by omega),bt_at hx,letter_eq,h1,Option.bind_some,if_neg (by decide)]
    by_cases h3 : (x.toNat : Int) < 48
    ·rw [if_pos h3];rfl
    ·rw [if_neg h3,if_pos (by omega)];rfl
theorem refName_ev (s : ByteArray) : Ev (fun k => metrolabref17_Name.f k s) (nameL s.data.toList):=by
 unfold metrolabref17_Name.f nameL
 by_cases h1 : (s.size : Int) > 24
 ·simp only [if_pos h1];rw [if_pos (by rw [← size_len];omega)];exact Ev.now _
 ·simp only [if_neg h1];rw [if_neg (by rw [← size_len];omega)]
  by_cases h2 : (s.size : Int) = 0
  ·simp only [if_pos h2];rw [if_pos (List.eq_nil_of_length_eq_zero (by rw [← size_len];omega))]
   exact Ev.const fun k => by simp only [metrolabref17_Name.j0];rw [if_pos True.intro]
  ·simp only [if_neg h2,if_pos (show (0 : Int) < s.size by omega)]
   obtain ⟨x,hx,hdr⟩:=drop_at (l:=s.data.toList) (i:=0) (by rw [← size_len];omega)
   rw [List.drop_zero] at hdr
   rw [if_neg (by rw [hdr];exact List.cons_ne_nil _ _)]
   have hb:=bt_at hx
   have hl : metrolabref17_letter.f (bt s 0) = some (letB x):=by rw [show bt s 0 = (x.toNat : Int) from hb];exact letter_eq x
   simp only [hl,Option.bind_some]
   have hd : s.data.toList.headD 0 = x:=by rw [hdr];rfl
   rw [hd]
   by_cases h3 : letB x = false
   ·rw [if_pos h3,h3]
    exact Ev.const fun k => by simp only [metrolabref17_Name.j0,Bool.not_false];rw [if_pos True.intro]
   ·have h3 : letB x = true:=by simpa using h3
    rw [if_neg (by rw [h3];decide),h3]
    refine Ev.step (f:=fun k => metrolabref17_Name.l0 k s ((0 : Nat) : Int)) (fun k => by simp only [metrolabref17_Name.j0,Bool.not_true];rw [if_neg (by decide)];rfl) ?_
    exact name_go s (by omega) s.size 0 (by omega) (by omega)
theorem named_ev (s : ByteArray) (u : Bool) : Ev (fun k => metrolabref53_named.f k s u) (if u = true then nameL s.data.toList else 0):=by
 unfold metrolabref53_named.f
 cases u
 ·simp only [if_neg (show ¬ (false = true) by decide)];exact Ev.now _
 ·simp only [if_pos True.intro];exact Ev.bind (refName_ev s) (Ev.now _)
end Go.Proofs.Ytnmmdeonkpfccaa.Pr
set_option linter.unusedVariables false
namespace Go.Proofs.Ytnmmdeonkpfccaa.Pr
open Go.RowKit Go.Proofs.YtnmmdeonkpfccaaW.PrintWords Go.Proofs.YtnmmdeonkpfccaaW.PrintLast Go.Proofs.YtnmmdeonkpfccaaW.PrintMore
theorem bt_of_nf {b : Bool} (h : ¬ b = false) : b = true:=by cases b <;> simp_all
theorem nil_iff (s : ByteArray) : s.toList = ([] : List UInt8) ↔ s.data.toList = []:=by rw [ByteArray.toList_eq]
def nzE (u : Bool) (q : List UInt8) : Int:=if u = true then nameL q else 0
theorem form_j1 (x : S51) (g p t : Bool) : Ev (fun k => metrolabref53_form.j1 k g p t x.f0 x.f1 x.f2 x.f3) (nfold 0 [(x.f1.data.toList,g),(x.f2.data.toList,p),(x.f3.data.toList,t)]):=by
 refine Ev.step (f:=fun k => _) (fun k => by simp only [metrolabref53_form.j1];exact rfl) ?_
 simp only [nil_iff]
 by_cases h1 : nzE g x.f1.data.toList = 0
 ·refine Ev.bind (named_ev x.f1 g) ?_
  rw [show (if g = true then nameL x.f1.data.toList else 0) = 0 from h1]
  simp only [if_true]
  by_cases h2 : nzE p x.f2.data.toList = 0
  ·refine Ev.bind (named_ev x.f2 p) ?_
   rw [show (if p = true then nameL x.f2.data.toList else 0) = 0 from h2]
   simp only [if_true]
   by_cases h3 : nzE t x.f3.data.toList = 0
   ·refine Ev.bind (named_ev x.f3 t) ?_
    rw [show (if t = true then nameL x.f3.data.toList else 0) = 0 from h3]
    simp only [if_true]
    unfold nzE at h1 h2 h3
    cases g <;> cases p <;> cases t <;> simp_all [nfold] <;> (repeat' split) <;> first | exact Ev.now _ | simp_all
   ·refine Ev.bind (named_ev x.f3 t) ?_
    simp only [if_neg (show ¬ (if t = true then nameL x.f3.data.toList else 0) = 0 from h3)]
    have e : nfold 0 [(x.f1.data.toList,g),(x.f2.data.toList,p),(x.f3.data.toList,t)] = (if t = true then nameL x.f3.data.toList else 0):=by
     unfold nzE at h1 h2 h3
     cases g <;> cases p <;> cases t <;> simp_all [nfold] <;> (repeat' split) <;> rfl
    rw [e];exact Ev.now _
  ·refine Ev.bind (named_ev x.f2 p) ?_
   simp only [if_neg (show ¬ (if p = true then nameL x.f2.data.toList else 0) = 0 from h2)]
   have e : nfold 0 [(x.f1.data.toList,g),(x.f2.data.toList,p),(x.f3.data.toList,t)] = (if p = true then nameL x.f2.data.toList else 0):=by
    unfold nzE at h1 h2
    cases g <;> cases p <;> simp_all [nfold] <;> (repeat' split) <;> rfl
   rw [e];exact Ev.now _
 ·refine Ev.bind (named_ev x.f1 g) ?_
  simp only [if_neg (show ¬ (if g = true then nameL x.f1.data.toList else 0) = 0 from h1)]
  have e : nfold 0 [(x.f1.data.toList,g),(x.f2.data.toList,p),(x.f3.data.toList,t)] = (if g = true then nameL x.f1.data.toList else 0):=by
   unfold nzE at h1
   cases g <;> simp_all [nfold]
  rw [e];exact Ev.now _
theorem form_ev (x : S51) : Ev (fun k => metrolabref53_form.f k x.f0 x.f1 x.f2 x.f3) (namesX x):=by
 unfold metrolabref53_form.f namesX namesV
 by_cases h1 : x.f0 < 0
 ·simp only [if_pos h1];rw [if_pos (.inl h1)]
  exact Ev.const fun k => by simp only [metrolabref53_form.j0];rw [if_pos True.intro]
 ·simp only [if_neg h1]
  by_cases h2 : x.f0 > 3
  ·rw [if_pos (.inr h2)]
   refine Ev.const fun k => ?_
   rw [decide_eq_true h2]
   simp only [metrolabref53_form.j0];rw [if_pos True.intro]
  ·rw [if_neg (by omega)]
   have hd : decide (x.f0 > 3) = false:=decide_eq_false h2
   simp only [hd]
   by_cases h0 : x.f0 = 0
   ·refine Ev.step (f:=fun k => metrolabref53_form.j1 k (x.f0 != 3) true (x.f0 == 0) x.f0 x.f1 x.f2 x.f3) (fun k => by simp only [metrolabref53_form.j0];rw [if_neg (by decide),if_pos h0]) ?_
    rw [show (x.f0 == 0 || x.f0 == 3) = true by rw [h0];rfl]
    exact form_j1 x _ _ _
   ·refine Ev.step (f:=fun k => metrolabref53_form.j1 k (x.f0 != 3) (x.f0 == 3) (x.f0 == 0) x.f0 x.f1 x.f2 x.f3) (fun k => by simp only [metrolabref53_form.j0];rw [if_neg (by decide),if_neg h0]) ?_
    rw [show (x.f0 == 0 || x.f0 == 3) = (x.f0 == 3) by rw [beq_eq_false_iff_ne.2 h0];rfl]
    exact form_j1 x _ _ _
def wdP (q : List UInt8) (x : S51) : Bool:=decide (x.f0 = 3 ∧ x.f2.data.toList = q)
def msP (q : List UInt8) (x : S51) : Bool:=decide (x.f0 = 0 ∧ x.f2.data.toList = q)
def coP (q s : List UInt8) (x : S51) : Bool:=decide (x.f0 = 0 ∧ x.f2.data.toList = q ∧ x.f3.data.toList ≠ s)
theorem str_eq (a b : ByteArray) : a.toList = b.toList ↔ a.data.toList = b.data.toList:=by rw [ByteArray.toList_eq,ByteArray.toList_eq]
theorem withdrawn_go (l : List S51) (hn : l.length ≤ 2513169434915) (a : ByteArray) : ∀ (d i : Nat),i ≤ l.length → l.length - i = d → Ev (fun k => metrolabref53_Withdrawn.l0 k (rl l) a (i : Int)) ((l.drop i).any (wdP a.data.toList)):=by
 intro d
 induction d with
 | zero =>
  intro i hi hd
  obtain rfl : i = l.length:=by omega
  refine Ev.const fun k => ?_
  simp only [metrolabref53_Withdrawn.l0]
  rw [if_neg (by rw [rl_len];omega),List.drop_length];rfl
 | succ d ih =>
  intro i hi hd
  obtain ⟨x,hx,hdr⟩:=drop_at (show i < l.length by omega)
  rw [hdr,List.any_cons]
  by_cases h : x.f0 = 3 ∧ x.f2.data.toList = a.data.toList
  ·rw [show wdP a.data.toList x = true from decide_eq_true h,Bool.true_or]
   refine Ev.const fun k => ?_
   simp only [metrolabref53_Withdrawn.l0]
   rw [if_pos (by rw [rl_len];omega),if_pos (by omega),rd67_at hx,if_pos h.1,if_pos ((str_eq _ _).2 h.2)]
  ·rw [show wdP a.data.toList x = false from decide_eq_false h,Bool.false_or]
   refine Ev.step (f:=fun k => metrolabref53_Withdrawn.l0 k (rl l) a ((i + 1 : Nat) : Int)) (fun k => ?_) (ih (i + 1) (by omega) (by omega))
   simp only [metrolabref53_Withdrawn.l0]
   rw [if_pos (by rw [rl_len];omega),if_pos (by omega),rd67_at hx,wrap_nat (by omega)]
   by_cases h1 : (to67 x).f0 = 3
   ·rw [if_pos h1,if_neg (fun e => h ⟨h1,(str_eq _ _).1 e⟩)]
   ·rw [if_neg h1]
theorem withdrawn_ev (l : List S51) (hn : l.length ≤ 2513169434915) (a : ByteArray) : Ev (fun k => metrolabref53_Withdrawn.f k (rl l) a) (l.any (wdP a.data.toList)):=withdrawn_go l hn a l.length 0 (by omega) (by omega)
theorem measured_go (l : List S51) (hn : l.length ≤ 2513169434915) (a : ByteArray) : ∀ (d i : Nat),i ≤ l.length → l.length - i = d → Ev (fun k => metrolabref53_Measured.l0 k (rl l) a (i : Int)) ((l.drop i).any (msP a.data.toList)):=by
 intro d
 induction d with
 | zero =>
  intro i hi hd
  obtain rfl : i = l.length:=by omega
  refine Ev.const fun k => ?_
  simp only [metrolabref53_Measured.l0]
  rw [if_neg (by rw [rl_len];omega),List.drop_length];rfl
 | succ d ih =>
  intro i hi hd
  obtain ⟨x,hx,hdr⟩:=drop_at (show i < l.length by omega)
  rw [hdr,List.any_cons]
  by_cases h : x.f0 = 0 ∧ x.f2.data.toList = a.data.toList
  ·rw [show msP a.data.toList x = true from decide_eq_true h,Bool.true_or]
   refine Ev.const fun k => ?_
   simp only [metrolabref53_Measured.l0]
   rw [if_pos (by rw [rl_len];omega),if_pos (by omega),rd67_at hx,if_pos h.1,if_pos ((str_eq _ _).2 h.2)]
  ·rw [show msP a.data.toList x = false from decide_eq_false h,Bool.false_or]
   refine Ev.step (f:=fun k => metrolabref53_Measured.l0 k (rl l) a ((i + 1 : Nat) : Int)) (fun k => ?_) (ih (i + 1) (by omega) (by omega))
   simp only [metrolabref53_Measured.l0]
   rw [if_pos (by rw [rl_len];omega),if_pos (by omega),rd67_at hx,wrap_nat (by omega)]
   by_cases h1 : (to67 x).f0 = 0
   ·rw [if_pos h1,if_neg (fun e => h ⟨h1,(str_eq _ _).1 e⟩)]
   ·rw [if_neg h1]
theorem measured_ev (l : List S51) (hn : l.length ≤ 2513169434915) (a : ByteArray) : Ev (fun k => metrolabref53_Measured.f k (rl l) a) (l.any (msP a.data.toList)):=measured_go l hn a l.length 0 (by omega) (by omega)
def refF : List S51 → List S51 → Int
 | _,[] => 0
 | pre,x :: r => if namesX x ≠ 0 then namesX x else if x.f0 = 0 ∧ pre.any (wdP x.f2.data.toList) = true then 14
  else if x.f0 = 0 ∧ pre.any (coP x.f2.data.toList x.f3.data.toList) = true then 16
  else if x.f0 = 3 ∧ pre.any (msP x.f2.data.toList) = false then 6 else if x.f0 = 3 ∧ pre.any (wdP x.f2.data.toList) = true then 14 else refF (pre ++ [x]) r
theorem check_rec (l : List S51) (hn : l.length ≤ 2513169434915) : ∀ (d i : Nat),i ≤ l.length → l.length - i = d → Ev (fun k => metrolabref53_Check.l0 k (rl l) (i : Int)) (refF (l.take i) (l.drop i)):=by
 intro d
 induction d with
 | zero =>
  intro i hi hd
  obtain rfl : i = l.length:=by omega
  refine Ev.const fun k => ?_
  simp only [metrolabref53_Check.l0]
  rw [if_neg (by rw [rl_len];omega),List.drop_length];rfl
 | succ d ih =>
  intro i hi hd
  obtain ⟨x,hx,hdr⟩:=drop_at (show i < l.length by omega)
  have hih:=ih (i + 1) (by omega) (by omega)
  have etk : l.take (i + 1) = l.take i ++ [x]:=by rw [List.take_add_one,hx];rfl
  rw [etk] at hih
  have htk : (rl l).take ((i : Int)).toNat = rl (l.take i):=by rw [Int.toNat_natCast];unfold rl;rw [List.map_take]
  have hlt : (l.take i).length ≤ 2513169434915:=by rw [List.length_take];omega
  have hil : (i : Int) ≤ ((rl l).length : Int):=by rw [rl_len];omega
  rw [hdr]
  refine Ev.step (f:=fun k => _) (fun k => by simp only [metrolabref53_Check.l0];rw [if_pos (by rw [rl_len];omega),if_pos (by omega),rd67_at hx]) ?_
  refine Ev.bind (form_ev x) ?_
  by_cases hx0 : namesX x = 0
  rotate_left
  ·simp only [if_neg hx0,refF,if_pos hx0];exact Ev.now _
  simp only [if_pos hx0,refF,if_neg (show ¬ namesX x ≠ 0 from fun h => h hx0)]
  have hj3 : Ev (fun k => metrolabref53_Check.j3 k (rl l) (i : Int) false x.f0 x.f1 x.f2 x.f3) (if x.f0 = 3 ∧ (l.take i).any (wdP x.f2.data.toList) = true then 14 else refF (l.take i ++ [x]) (l.drop (i + 1))):=by
   by_cases h3 : x.f0 = 3
   ·refine Ev.step (f:=fun k => _) (fun k => by simp only [metrolabref53_Check.j3];rw [if_neg (by decide),if_pos h3,if_pos (by omega),if_pos hil,htk]) ?_
    refine Ev.bind (withdrawn_ev _ hlt _) ?_
    by_cases hw : (l.take i).any (wdP x.f2.data.toList) = true
    ·rw [if_pos ⟨h3,hw⟩];simp only [if_pos hw];exact Ev.now _
    ·rw [if_neg (fun h => hw h.2)];simp only [if_neg hw];rw [wrap_nat (by omega)];exact hih
   ·rw [if_neg (fun h => h3 h.1)]
    refine Ev.step (f:=fun k => metrolabref53_Check.l0 k (rl l) ((i + 1 : Nat) : Int)) (fun k => by simp only [metrolabref53_Check.j3];rw [if_neg (by decide),if_neg h3,wrap_nat (by omega)]) hih
  have hl1e : Ev (fun k => metrolabref53_Check.l1 k (rl l) (i : Int) (i : Int) x.f0 x.f1 x.f2 x.f3) (if x.f0 = 3 ∧ (l.take i).any (msP x.f2.data.toList) = false then 6 else if x.f0 = 3 ∧ (l.take i).any (wdP x.f2.data.toList) = true then 14 else refF (l.take i ++ [x]) (l.drop (i + 1))):=by
   by_cases h3 : x.f0 = 3
   ·refine Ev.step (f:=fun k => _) (fun k => by simp only [metrolabref53_Check.l1];rw [if_neg (by omega),if_pos h3,if_pos (by omega),if_pos hil,htk]) ?_
    refine Ev.bind (measured_ev _ hlt _) ?_
    by_cases hw : (l.take i).any (msP x.f2.data.toList) = false
    ·rw [if_pos ⟨h3,hw⟩,hw]
     exact Ev.const fun k => by simp only [metrolabref53_Check.j3,Bool.not_false];rw [if_pos True.intro]
    ·rw [if_neg (fun h => hw h.2),bt_of_nf hw];exact hj3
   ·rw [if_neg (fun h => h3 h.1)]
    exact Ev.step (f:=fun k => metrolabref53_Check.j3 k (rl l) (i : Int) false x.f0 x.f1 x.f2 x.f3) (fun k => by simp only [metrolabref53_Check.l1];rw [if_neg (by omega),if_neg h3]) hj3
  have hl1 : ∀ (e j : Nat),j ≤ i → i - j = e → Ev (fun k => metrolabref53_Check.l1 k (rl l) (i : Int) (j : Int) x.f0 x.f1 x.f2 x.f3) (if x.f0 = 0 ∧ ((l.take i).drop j).any (coP x.f2.data.toList x.f3.data.toList) = true then 16 else if x.f0 = 3 ∧ (l.take i).any (msP x.f2.data.toList) = false then 6 else if x.f0 = 3 ∧ (l.take i).any (wdP x.f2.data.toList) = true then 14 else refF (l.take i ++ [x]) (l.drop (i + 1))):=by
   intro e
   induction e with
   | zero =>
    intro j hj he
    obtain rfl : j = i:=by omega
    rw [show (l.take j).drop j = [] from List.drop_eq_nil_of_le (by rw [List.length_take];omega)]
    rw [if_neg (by intro h;cases h.2)]
    exact hl1e
   | succ e ih2 =>
    intro j hj he
    obtain ⟨y,hy,hdy⟩:=drop_at (l:=l.take i) (i:=j) (by rw [List.length_take];omega)
    have hy2 : l[j]? = some y:=by rw [List.getElem?_take,if_pos (by omega)] at hy;exact hy
    have hih2:=ih2 (j + 1) (by omega) (by omega)
    rw [hdy,List.any_cons]
    by_cases h0 : x.f0 = 0
    ·by_cases hc : y.f0 = 0 ∧ y.f2.data.toList = x.f2.data.toList ∧ y.f3.data.toList ≠ x.f3.data.toList
     ·rw [show coP x.f2.data.toList x.f3.data.toList y = true from decide_eq_true hc,Bool.true_or,if_pos ⟨h0,rfl⟩]
      refine Ev.const fun k => ?_
      simp only [metrolabref53_Check.l1]
      rw [if_pos (by omega),if_pos h0,if_pos (by omega),if_pos (by rw [rl_len];omega),rd67_at hy2,if_pos hc.1,if_pos ((str_eq _ _).2 hc.2.1),if_neg (fun e => hc.2.2 ((str_eq _ _).1 e))]
     ·rw [show coP x.f2.data.toList x.f3.data.toList y = false from decide_eq_false hc,Bool.false_or]
      refine Ev.step (f:=fun k => metrolabref53_Check.l1 k (rl l) (i : Int) ((j + 1 : Nat) : Int) x.f0 x.f1 x.f2 x.f3) (fun k => ?_) hih2
      simp only [metrolabref53_Check.l1]
      rw [if_pos (by omega),if_pos h0,if_pos (by omega),if_pos (by rw [rl_len];omega),rd67_at hy2,wrap_nat (by omega)]
      by_cases c1 : (to67 y).f0 = 0
      ·rw [if_pos c1]
       by_cases c2 : (to67 y).f2.toList = x.f2.toList
       ·rw [if_pos c2]
        by_cases c3 : (to67 y).f3.toList = x.f3.toList
        ·rw [if_pos c3]
        ·exact absurd ⟨c1,(str_eq _ _).1 c2,fun e => c3 ((str_eq _ _).2 e)⟩ hc
       ·rw [if_neg c2]
      ·rw [if_neg c1]
    ·rw [if_neg (fun h => h0 h.1)]
     rw [if_neg (fun h => h0 h.1)] at hih2
     refine Ev.step (f:=fun k => metrolabref53_Check.l1 k (rl l) (i : Int) ((j + 1 : Nat) : Int) x.f0 x.f1 x.f2 x.f3) (fun k => ?_) hih2
     simp only [metrolabref53_Check.l1]
     rw [if_pos (by omega),if_neg h0,wrap_nat (by omega)]
  have hl10:=hl1 i 0 (by omega) (by omega)
  rw [List.drop_zero] at hl10
  have hj1 : Ev (fun k => metrolabref53_Check.j1 k (rl l) (i : Int) false x.f0 x.f1 x.f2 x.f3) _:=Ev.step (f:=fun k => metrolabref53_Check.l1 k (rl l) (i : Int) ((0 : Nat) : Int) x.f0 x.f1 x.f2 x.f3) (fun k => by simp only [metrolabref53_Check.j1];rw [if_neg (by decide)];rfl) hl10
  by_cases h0 : x.f0 = 0
  ·simp only [if_pos h0,if_pos hil]
   rw [htk]
   refine Ev.bind (withdrawn_ev _ hlt _) ?_
   by_cases hw : (l.take i).any (wdP x.f2.data.toList) = true
   ·rw [if_pos ⟨h0,hw⟩,hw]
    exact Ev.const fun k => by simp only [metrolabref53_Check.j1];rw [if_pos True.intro]
   ·rw [if_neg (fun h => hw h.2),Bool.eq_false_iff.2 hw]
    rw [Bool.eq_false_iff.2 hw] at hj1
    exact hj1
  ·simp only [if_neg h0]
   rw [if_neg (fun h => h0 h.1)]
   exact hj1
theorem refCheck_ev (l : List S51) (hn : l.length ≤ 2513169434915) : Ev (fun k => metrolabref53_Check.f k (rl l)) (if 4096 < l.length then 5 else refF [] l):=by
 unfold metrolabref53_Check.f
 by_cases h : 4096 < l.length
 ·rw [if_pos h];simp only [if_pos (show ((rl l).length : Int) > 4096 by rw [rl_len];omega)];exact Ev.now _
 ·rw [if_neg h];simp only [if_neg (show ¬ ((rl l).length : Int) > 4096 by rw [rl_len];omega)]
  exact check_rec l hn l.length 0 (by omega) (by omega)
theorem check_same : ∀ (r pre : List S51) (L : List (List UInt8 × ByteArray)) (G : List (List UInt8)),
  (∀ q,q ∈ G ↔ pre.any (wdP q) = true) → (∀ q,L.lookup q = none ↔ pre.any (msP q) = false) → (∀ q s,L.lookup q = some s → ∀ y ∈ pre,y.f0 = 0 → y.f2.data.toList = q → y.f3.data.toList = s.data.toList) →
  checkF L G r = refF pre r:=by
 intro r
 induction r with
 | nil => intro pre L G h1 h2 h3;unfold checkF refF;rfl
 | cons x r ih =>
  intro pre L G h1 h2 h3
  unfold checkF refF
  by_cases hx : namesX x = 0
  rotate_left
  ·rw [if_pos hx,if_pos hx]
  rw [if_neg (show ¬ namesX x ≠ 0 from fun h => h hx),if_neg (show ¬ namesX x ≠ 0 from fun h => h hx)]
  by_cases h0 : x.f0 = 0
  ·have n3 : ¬ x.f0 = 3:=by omega
   rw [if_pos h0]
   by_cases hg : x.f2.data.toList ∈ G
   ·rw [if_pos hg,if_pos ⟨h0,(h1 _).1 hg⟩]
   ·rw [if_neg hg,if_neg (fun h => hg ((h1 _).2 h.2))]
    have hpush : ∀ (hc : pre.any (coP x.f2.data.toList x.f3.data.toList) = false),checkF ((x.f2.data.toList,x.f3) :: L) G r = refF (pre ++ [x]) r:=by
     intro hc
     refine ih _ _ _ (fun q => ?_) (fun q => ?_) (fun q s hs y hy y0 yq => ?_)
     ·rw [h1,List.any_append]
      have : [x].any (wdP q) = false:=by rw [List.any_cons,List.any_nil,Bool.or_false];exact decide_eq_false (fun h => n3 h.1)
      rw [this,Bool.or_false]
     ·rw [List.lookup_cons,List.any_append]
      by_cases e : q = x.f2.data.toList
      ·have e1 : (q == x.f2.data.toList) = true:=by rw [e];exact beq_self_eq_true _
       rw [e1]
       have : [x].any (msP q) = true:=by rw [List.any_cons];rw [show msP q x = true from decide_eq_true ⟨h0,e.symm⟩];rfl
       rw [this,Bool.or_true];simp
      ·have e1 : (q == x.f2.data.toList) = false:=beq_eq_false_iff_ne.2 e
       rw [e1]
       have : [x].any (msP q) = false:=by rw [List.any_cons,List.any_nil,Bool.or_false];exact decide_eq_false (fun h => e h.2.symm)
       rw [this,Bool.or_false];exact h2 q
     ·rw [List.lookup_cons] at hs
      by_cases e : q = x.f2.data.toList
      ·have e1 : (q == x.f2.data.toList) = true:=by rw [e];exact beq_self_eq_true _
       rw [e1] at hs
       obtain rfl:=Option.some.inj hs
       rcases List.mem_append.1 hy with hy | hy
       ·have:=List.any_eq_false.1 hc y hy
        exact Classical.byContradiction fun hne => this (decide_eq_true ⟨y0,yq.trans e,hne⟩)
       ·obtain rfl:=List.mem_singleton.1 hy;rfl
      ·have e1 : (q == x.f2.data.toList) = false:=beq_eq_false_iff_ne.2 e
       rw [e1] at hs
       rcases List.mem_append.1 hy with hy | hy
       ·exact h3 q s hs y hy y0 yq
       ·obtain rfl:=List.mem_singleton.1 hy;exact absurd yq.symm e
    cases hL : L.lookup x.f2.data.toList with
    | none =>
     have hc : pre.any (coP x.f2.data.toList x.f3.data.toList) = false:=by
      rw [List.any_eq_false]
      intro y hy hh
      have hh:=of_decide_eq_true hh
      exact List.any_eq_false.1 ((h2 _).1 hL) y hy (decide_eq_true ⟨hh.1,hh.2.1⟩)
     show checkF _ _ _ = _
     rw [if_neg (by rw [hc];intro h;cases h.2),if_neg (fun h => n3 h.1),if_neg (fun h => n3 h.1)]
     exact hpush hc
    | some s =>
     show (if s.data.toList = x.f3.data.toList then _ else _) = _
     by_cases hs : s.data.toList = x.f3.data.toList
     ·rw [if_pos hs]
      have hc : pre.any (coP x.f2.data.toList x.f3.data.toList) = false:=by
       rw [List.any_eq_false]
       intro y hy hh
       have hh:=of_decide_eq_true hh
       exact hh.2.2 ((h3 _ s hL y hy hh.1 hh.2.1).trans hs)
      rw [if_neg (by rw [hc];intro h;cases h.2),if_neg (fun h => n3 h.1),if_neg (fun h => n3 h.1)]
      exact hpush hc
     ·rw [if_neg hs]
      have hm : pre.any (msP x.f2.data.toList) = true:=bt_of_nf fun h => by rw [(h2 _).2 h] at hL;cases hL
      obtain ⟨y,hy,hyy⟩:=List.any_eq_true.1 hm
      have hyy:=of_decide_eq_true hyy
      rw [if_pos ⟨h0,List.any_eq_true.2 ⟨y,hy,decide_eq_true ⟨hyy.1,hyy.2,fun e => hs ((h3 _ s hL y hy hyy.1 hyy.2).symm.trans e)⟩⟩⟩]
  ·rw [if_neg h0,if_neg (show ¬ (x.f0 = 0 ∧ pre.any (wdP x.f2.data.toList) = true) from fun h => h0 h.1),if_neg (show ¬ (x.f0 = 0 ∧ pre.any (coP x.f2.data.toList x.f3.data.toList) = true) from fun h => h0 h.1)]
   by_cases n3 : x.f0 = 3
   ·rw [if_pos n3]
    by_cases hl : L.lookup x.f2.data.toList = none
    ·rw [if_pos hl,if_pos ⟨n3,(h2 _).1 hl⟩]
    ·rw [if_neg hl,if_neg (show ¬ (x.f0 = 3 ∧ pre.any (msP x.f2.data.toList) = false) from fun h => hl ((h2 _).2 h.2))]
     by_cases hg : x.f2.data.toList ∈ G
     ·rw [if_pos hg,if_pos ⟨n3,(h1 _).1 hg⟩]
     ·rw [if_neg hg,if_neg (fun h => hg ((h1 _).2 h.2))]
      refine ih _ _ _ (fun q => ?_) (fun q => ?_) (fun q s hs y hy y0 yq => ?_)
      ·rw [List.mem_cons,h1,List.any_append,Bool.or_eq_true]
       have : ([x].any (wdP q) = true) ↔ q = x.f2.data.toList:=by
        rw [List.any_cons,List.any_nil,Bool.or_false]
        unfold wdP
        rw [decide_eq_true_iff]
        exact ⟨fun h => h.2.symm,fun h => ⟨n3,h.symm⟩⟩
       rw [this];exact Or.comm
      ·rw [List.any_append]
       have : [x].any (msP q) = false:=by rw [List.any_cons,List.any_nil,Bool.or_false];exact decide_eq_false (fun h => h0 h.1)
       rw [this,Bool.or_false];exact h2 q
      ·rcases List.mem_append.1 hy with hy | hy
       ·exact h3 q s hs y hy y0 yq
       ·obtain rfl:=List.mem_singleton.1 hy;exact absurd y0 h0
   ·rw [if_neg n3,if_neg (fun h => n3 h.1),if_neg (fun h => n3 h.1)]
    refine ih _ _ _ (fun q => ?_) (fun q => ?_) (fun q s hs y hy y0 yq => ?_)
    ·rw [h1,List.any_append]
     have : [x].any (wdP q) = false:=by rw [List.any_cons,List.any_nil,Bool.or_false];exact decide_eq_false (fun h => n3 h.1)
     rw [this,Bool.or_false]
    ·rw [List.any_append]
     have : [x].any (msP q) = false:=by rw [List.any_cons,List.any_nil,Bool.or_false];exact decide_eq_false (fun h => h0 h.1)
     rw [this,Bool.or_false];exact h2 q
    ·rcases List.mem_append.1 hy with hy | hy
     ·exact h3 q s hs y hy y0 yq
     ·obtain rfl:=List.mem_singleton.1 hy;exact absurd y0 h0
theorem check_ev (l : List S51) (hn : l.length ≤ 2513169434915) : Ev (fun k => metrolabref53_Check.f k (rl l)) (checkV l):=by
 have h:=refCheck_ev l hn
 unfold checkV
 rw [check_same l [] [] [] (fun q => by simp) (fun q => by simp) (fun q s h => by simp at h)]
 exact h
end Go.Proofs.Ytnmmdeonkpfccaa.Pr
set_option linter.unusedVariables false
namespace Go.Proofs.Ytnmmdeonkpfccaa.Pr
open Go.RowKit Go.Proofs.YtnmmdeonkpfccaaW.PrintWords Go.Proofs.YtnmmdeonkpfccaaW.PrintLast Go.Proofs.YtnmmdeonkpfccaaW.PrintMore
def nx (g : List UInt8) : Nat → List S51 → Option (Int × Int)
 | _,[] => none
 | i,x :: r => if (x.f0 = 1 ∨ x.f0 = 2) ∧ x.f1.data.toList = g then some ((i : Int),1 + x.f0) else nx g (i + 1) r
def gA (l : List S51) (i : Nat) : S51:=l.getD i z51
def stA (l : List S51) (i : Nat) : Int × Int:=if (gA l i).f0 = 0 then (nx (gA l i).f1.data.toList (i + 1) (l.drop (i + 1))).getD (-1,1) else (-1,0)
theorem gA_at {l : List S51} {i : Nat} {x : S51} (h : l[i]? = some x) : gA l i = x:=by unfold gA;rw [List.getD_eq_getElem?_getD,h];rfl
theorem lastA_nx (l : List S51) (g : List UInt8) : ∀ k,k ≤ l.length → (lastA l k).lookup g = nx g (l.length - k) (l.drop (l.length - k)):=by
 intro k
 induction k with
 | zero => intro _;rw [Nat.sub_zero,List.drop_length];rfl
 | succ k ih =>
  intro hk
  obtain ⟨x,hx,hdr⟩:=drop_at (l:=l) (i:=l.length - (k + 1)) (by omega)
  have e1 : l.length - (k + 1) + 1 = l.length - k:=by omega
  have e2 : l.length - 1 - k = l.length - (k + 1):=by omega
  rw [e1] at hdr
  have hih:=ih (by omega)
  have hi : (l.length : Int) - 1 - k = ((l.length - (k + 1) : Nat) : Int):=by omega
  have hg : l.getD (l.length - 1 - k) z51 = x:=by rw [e2];exact gA_at hx
  rw [hdr]
  unfold nx lastA
  rw [hg,hi,e1]
  by_cases h1 : x.f0 = 1
  ·rw [if_pos h1,List.lookup_cons]
   by_cases hgg : x.f1.data.toList = g
   ·rw [if_pos ⟨.inl h1,hgg⟩,h1]
    have : (g == x.f1.data.toList) = true:=by rw [hgg];exact beq_self_eq_true _
    rw [this];rfl
   ·rw [if_neg (fun h => hgg h.2)]
    have : (g == x.f1.data.toList) = false:=beq_eq_false_iff_ne.2 (fun h => hgg h.symm)
    rw [this];exact hih
  ·rw [if_neg h1]
   by_cases h2 : x.f0 = 2
   ·rw [if_pos h2,List.lookup_cons]
    by_cases hgg : x.f1.data.toList = g
    ·rw [if_pos ⟨.inr h2,hgg⟩,h2]
     have : (g == x.f1.data.toList) = true:=by rw [hgg];exact beq_self_eq_true _
     rw [this];rfl
    ·rw [if_neg (fun h => hgg h.2)]
     have : (g == x.f1.data.toList) = false:=beq_eq_false_iff_ne.2 (fun h => hgg h.symm)
     rw [this];exact hih
   ·rw [if_neg h2,if_neg (fun h => h.1.elim h1 h2)];exact hih
theorem chkA_st (l : List S51) (k : Nat) (hk : k < l.length) : chkA l k = stA l (l.length - 1 - k):=by
 unfold chkA stA gA
 have:=lastA_nx l (l.getD (l.length - 1 - k) z51).f1.data.toList k (by omega)
 rw [this,show l.length - 1 - k + 1 = l.length - k by omega]
end Go.Proofs.Ytnmmdeonkpfccaa.Pr
set_option linter.unusedVariables false
namespace Go.Proofs.Ytnmmdeonkpfccaa.Pr
open Go.RowKit Go.Proofs.YtnmmdeonkpfccaaW.PrintWords Go.Proofs.YtnmmdeonkpfccaaW.PrintLast Go.Proofs.YtnmmdeonkpfccaaW.PrintMore
abbrev Nm:=List UInt8
theorem nm_lt_of {a b : Nm} (h : ¬ a < b) (h2 : a ≠ b) : b < a:=by
 refine Classical.byContradiction fun h3 => h2 ?_
 exact List.le_antisymm (List.not_lt.1 h3) (List.not_lt.1 h)
def Asc (l : List Nm) : Prop:=l.Pairwise (· < ·)
theorem asc_same : ∀ {a b : List Nm},Asc a → Asc b → (∀ q,q ∈ a ↔ q ∈ b) → a = b
 | [],[],_,_,_ => rfl
 | [],y :: b,_,_,h => by have:=(h y).2 (List.mem_cons_self ..);cases this
 | x :: a,[],_,_,h => by have:=(h x).1 (List.mem_cons_self ..);cases this
 | x :: a,y :: b,ha,hb,h => by
  obtain ⟨ha1,ha2⟩:=List.pairwise_cons.1 ha
  obtain ⟨hb1,hb2⟩:=List.pairwise_cons.1 hb
  have e : x = y:=by
   rcases List.mem_cons.1 ((h x).1 (List.mem_cons_self ..)) with e | h1
   ·exact e
   ·rcases List.mem_cons.1 ((h y).2 (List.mem_cons_self ..)) with e | h2
    ·exact e.symm
    ·exact absurd (List.lt_trans (hb1 _ h1) (ha1 _ h2)) (List.lt_irrefl _)
  subst e
  rw [asc_same ha2 hb2 fun q => ?_]
  constructor
  ·intro hq
   rcases List.mem_cons.1 ((h q).1 (List.mem_cons_of_mem _ hq)) with e | h1
   ·exact absurd (e ▸ ha1 _ hq) (List.lt_irrefl _)
   ·exact h1
  ·intro hq
   rcases List.mem_cons.1 ((h q).2 (List.mem_cons_of_mem _ hq)) with e | h1
   ·exact absurd (e ▸ hb1 _ hq) (List.lt_irrefl _)
   ·exact h1
def ins (s : Nm) : List Nm → List Nm
 | [] => [s]
 | x :: r => if x < s then x :: ins s r else s :: (x :: r).filter fun y => decide (y ≠ s)
theorem mem_ins {s q : Nm} : ∀ {l : List Nm},q ∈ ins s l ↔ q = s ∨ q ∈ l
 | [] => by unfold ins;simp
 | x :: r => by
  unfold ins
  split
  ·rw [List.mem_cons,mem_ins,List.mem_cons];exact or_left_comm
  ·rw [List.mem_cons,List.mem_filter,decide_eq_true_iff]
   by_cases e : q = s
   ·exact ⟨fun _ => .inl e,fun _ => .inl e⟩
   ·exact ⟨fun h => h.imp_right fun h => h.1,fun h => h.imp_right fun h => ⟨h,e⟩⟩
theorem asc_ins {s : Nm} : ∀ {l : List Nm},Asc l → Asc (ins s l)
 | [],_ => List.pairwise_singleton ..
 | x :: r,h => by
  obtain ⟨h1,h2⟩:=List.pairwise_cons.1 h
  unfold ins
  split
  ·rename_i hx
   refine List.pairwise_cons.2 ⟨fun y hy => ?_,asc_ins h2⟩
   rcases mem_ins.1 hy with e | hy
   ·exact e ▸ hx
   ·exact h1 y hy
  ·rename_i hx
   refine List.pairwise_cons.2 ⟨fun y hy => ?_,List.Pairwise.filter _ h⟩
   obtain ⟨hy,hne⟩:=List.mem_filter.1 hy
   have hne:=of_decide_eq_true hne
   refine nm_lt_of (fun hlt => ?_) hne
   rcases List.mem_cons.1 hy with e | hy
   ·exact hx (e ▸ hlt)
   ·exact hx (List.lt_trans (h1 y hy) hlt)
theorem len_ins (s : Nm) : ∀ l : List Nm,(ins s l).length ≤ l.length + 1
 | [] => by unfold ins;simp
 | x :: r => by
  unfold ins
  split
  ·have:=len_ins s r;simp only [List.length_cons];omega
  ·have:=List.length_filter_le (fun y => decide (y ≠ s)) (x :: r);rw [List.length_cons];omega
def mkB (q : Nm) : ByteArray:=⟨q.toArray⟩
def bs (l : List Nm) : List ByteArray:=l.map mkB
theorem mkB_list (q : Nm) : (mkB q).toList = q:=by rw [ByteArray.toList_eq];rfl
theorem bs_len (l : List Nm) : (bs l).length = l.length:=by unfold bs;rw [List.length_map]
theorem rdB_at {l : List Nm} {i : Nat} {x : Nm} (h : l[i]? = some x) : rdOf ByteArray.empty (bs l) (i : Int) = mkB x:=rdOf_at (by unfold bs;rw [List.getElem?_map,h];rfl)
theorem asc_sortU (S : List Nm) : Asc (sortU S):=by
 have hp:=List.mergeSort_perm (ddup S) fun x y => decide (x ≤ y)
 have h1 : (sortU S).Pairwise fun a b => decide (a ≤ b) = true:=by
  unfold sortU
  refine List.pairwise_mergeSort (le:=fun x y : Nm => decide (x ≤ y)) ?_ ?_ _
  ·intro a b c h1 h2
   exact decide_eq_true (List.le_trans (of_decide_eq_true h1) (of_decide_eq_true h2))
  ·intro a b
   by_cases h : b < a
   ·rw [decide_eq_true (show b ≤ a from List.le_of_lt h),Bool.or_true]
   ·rw [decide_eq_true (show a ≤ b from List.not_lt.1 h)];rfl
 have h2 : (sortU S).Pairwise fun a b => a ≠ b:=(List.Perm.pairwise_iff (fun h e => h e.symm) hp).2 (nodup_ddup S)
 refine (h1.and h2).imp ?_
 rintro a b ⟨ha,hb⟩
 exact nm_lt_of (List.not_lt.2 (of_decide_eq_true ha)) (fun e => hb e.symm)
theorem mem_sortU {S : List Nm} {q : Nm} : q ∈ sortU S ↔ q ∈ S:=by
 unfold sortU;rw [List.mem_mergeSort,mem_ddup]
theorem strs_of {S l : List Nm} (h : Asc l) (hm : ∀ q,q ∈ l ↔ q ∈ S) : strs S = bs l:=by
 have : sortU S = l:=asc_same (asc_sortU S) h fun q => by rw [mem_sortU];exact (hm q).symm
 unfold strs;rw [this];rfl
def accS (sel : Nat → Option Nm) : Nat → List Nm
 | 0 => []
 | i + 1 => match sel i with | some q => ins q (accS sel i) | none => accS sel i
theorem acc_asc (sel : Nat → Option Nm) : ∀ i,Asc (accS sel i)
 | 0 => List.Pairwise.nil
 | i + 1 => by 
  unfold accS
  split
  ·exact asc_ins (acc_asc sel i)
  ·exact acc_asc sel i
theorem acc_len (sel : Nat → Option Nm) : ∀ i,(accS sel i).length ≤ i
 | 0 => Nat.le_refl _
 | i + 1 => by
  have:=acc_len sel i
  unfold accS;split
  ·rename_i q _;have:=len_ins q (accS sel i);omega
  ·omega
theorem acc_mem (sel : Nat → Option Nm) {q : Nm} : ∀ i,q ∈ accS sel i ↔ ∃ j,j < i ∧ sel j = some q
 | 0 => by unfold accS;simp
 | i + 1 => by
  unfold accS
  split
  ·rename_i p hp
   rw [mem_ins,acc_mem sel i]
   constructor
   ·rintro (e | ⟨j,h1,h2⟩)
    ·exact ⟨i,by omega,e ▸ hp⟩
    ·exact ⟨j,by omega,h2⟩
   ·rintro ⟨j,h1,h2⟩
    by_cases e : j = i
    ·subst e;rw [hp] at h2;exact .inl (Option.some.inj h2).symm
    ·exact .inr ⟨j,by omega,h2⟩
  ·rename_i hp
   rw [acc_mem sel i]
   constructor
   ·rintro ⟨j,h1,h2⟩;exact ⟨j,by omega,h2⟩
   ·rintro ⟨j,h1,h2⟩
    by_cases e : j = i
    ·subst e;rw [hp] at h2;cases h2
    ·exact ⟨j,by omega,h2⟩
end Go.Proofs.Ytnmmdeonkpfccaa.Pr
set_option linter.unusedVariables false
set_option linter.unusedSimpArgs false
namespace Go.Proofs.Ytnmmdeonkpfccaa.Pr
open Go.RowKit Go.Proofs.YtnmmdeonkpfccaaW.PrintWords Go.Proofs.YtnmmdeonkpfccaaW.PrintLast Go.Proofs.YtnmmdeonkpfccaaW.PrintMore
attribute [local go_sem] max2_int min2_int max_two min_two max_three min_three max_four min_four
def sv : List S51:=(metrolablaw53_Seven.f).getD []
theorem sv_len : sv.length = 7:=by decide +kernel
theorem sv_ck : checkV sv = 0:=by decide +kernel
theorem sv_ck6 : checkV (sv.take 6) = 0:=by decide +kernel
theorem sv_parts : recall_Parts.f sv = some (bs [[112,50],[112,51]],0):=by
 unfold recall_Parts.f partsV
 rw [if_neg (fun h => h sv_ck),show recL sv = [[112,50],[112,51]] by decide +kernel,strs_of (l:=[[112,50],[112,51]]) (by unfold Asc;decide) (fun q => Iff.rfl)]
theorem sv_lots : recall_Lots.f sv = some (bs [[88],[89]],0):=by
 unfold recall_Lots.f lotsV
 rw [if_neg (fun h => h sv_ck),show lotK sv sv.length = [[89],[88]] by decide +kernel,strs_of (l:=[[88],[89]]) (by unfold Asc;decide) (fun q => by simp [or_comm])]
theorem sv_unsure : recall_Unsure.f (sv.take 6) = some (bs [[104]],0):=by
 unfold recall_Unsure.f unsureV
 rw [if_neg (fun h => h sv_ck6),show unsK (sv.take 6) (sv.take 6).length = [[104]] by decide +kernel,strs_of (l:=[[104]]) (by unfold Asc;decide) (fun q => Iff.rfl)]
theorem sv_risk : recall_AtRisk.f (sv.take 6) (⟨#[104]⟩ : ByteArray) = some (bs [[112,50]],0):=by
 unfold recall_AtRisk.f atRiskV
 rw [if_neg (fun h => h sv_ck6),if_neg (fun h => h (by decide +kernel)),show riskL (sv.take 6) (⟨#[104]⟩ : ByteArray) = [[112,50]] by decide +kernel,strs_of (l:=[[112,50]]) (by unfold Asc;decide) (fun q => Iff.rfl)]
def metrolablaw53_awake.f : Option (Bool):=some true
set_option maxHeartbeats 8000000 in
set_option maxRecDepth 100000 in
theorem metrolablaw53_awake.calls (r : Bool) (w : World) (h : metrolablaw53_awake.f = some r) :
  Calls Try.prog 10 #[] w fun e w' => e = .returned (.bool r) ∧ Below w.heap.size w w':=by
 obtain rfl:=Option.some.inj h
 clear h
 have HB:=Aside0.mk (Below.refl w.heap.size w)
 obtain ⟨t120,e120⟩ : ∃ t,t = sv:=⟨_,rfl⟩
 obtain ⟨t127,e127⟩ : ∃ t,t = sv:=⟨_,rfl⟩
 obtain ⟨t134,e134⟩ : ∃ t,t = sv:=⟨_,rfl⟩
 obtain ⟨t141,e141⟩ : ∃ t,t = sv:=⟨_,rfl⟩
 obtain ⟨t147,e147⟩ : ∃ t,t = sv:=⟨_,rfl⟩
 obtain ⟨t153,e153⟩ : ∃ t,t = sv:=⟨_,rfl⟩
 obtain ⟨t164,e164⟩ : ∃ t,t = sv:=⟨_,rfl⟩
 obtain ⟨t175,e175⟩ : ∃ t,t = sv:=⟨_,rfl⟩
 obtain ⟨t123,e123⟩ : ∃ t,t = ([2,3,0,3,3,0,0] : List Int):=⟨_,rfl⟩
 obtain ⟨t124,e124⟩ : ∃ t,t = (0 : Int):=⟨_,rfl⟩
 obtain ⟨t130,e130⟩ : ∃ t,t = bs [[112,50],[112,51]]:=⟨_,rfl⟩
 obtain ⟨t131,e131⟩ : ∃ t,t = (0 : Int):=⟨_,rfl⟩
 obtain ⟨t137,e137⟩ : ∃ t,t = bs [[88],[89]]:=⟨_,rfl⟩
 obtain ⟨t138,e138⟩ : ∃ t,t = (0 : Int):=⟨_,rfl⟩
 obtain ⟨t144,e144⟩ : ∃ t,t = (4 : Int):=⟨_,rfl⟩
 obtain ⟨t145,e145⟩ : ∃ t,t = (5 : Int):=⟨_,rfl⟩
 obtain ⟨t146,e146⟩ : ∃ t,t = (0 : Int):=⟨_,rfl⟩
 obtain ⟨t150,e150⟩ : ∃ t,t = (0 : Int):=⟨_,rfl⟩
 obtain ⟨t151,e151⟩ : ∃ t,t = (0 : Int):=⟨_,rfl⟩
 obtain ⟨t152,e152⟩ : ∃ t,t = (14 : Int):=⟨_,rfl⟩
 obtain ⟨t160,e160⟩ : ∃ t,t = ([2,1,0,3,3,0] : List Int):=⟨_,rfl⟩
 obtain ⟨t161,e161⟩ : ∃ t,t = (0 : Int):=⟨_,rfl⟩
 obtain ⟨t171,e171⟩ : ∃ t,t = bs [[104]]:=⟨_,rfl⟩
 obtain ⟨t172,e172⟩ : ∃ t,t = (0 : Int):=⟨_,rfl⟩
 obtain ⟨t182,e182⟩ : ∃ t,t = bs [[112,50]]:=⟨_,rfl⟩
 obtain ⟨t183,e183⟩ : ∃ t,t = (0 : Int):=⟨_,rfl⟩
 obtain ⟨y156,hy156⟩ : ∃ y_ : List (S51),y_ = (t153.take 6):=⟨_,rfl⟩
 have Ny156:=Aside0.mk hy156
 obtain ⟨y167,hy167⟩ : ∃ y_ : List (S51),y_ = (t164.take 6):=⟨_,rfl⟩
 have Ny167:=Aside0.mk hy167
 obtain ⟨y178,hy178⟩ : ∃ y_ : List (S51),y_ = (t175.take 6):=⟨_,rfl⟩
 have Ny178:=Aside0.mk hy178
 have A1:=Aside0.mk (show metrolablaw53_Seven.f = some t120 by rw [e120];rfl)
 have A3:=Aside0.mk (show metrolablaw53_Seven.f = some t127 by rw [e127];rfl)
 have A5:=Aside0.mk (show metrolablaw53_Seven.f = some t134 by rw [e134];rfl)
 have A7:=Aside0.mk (show metrolablaw53_Seven.f = some t141 by rw [e141];rfl)
 have A9:=Aside0.mk (show metrolablaw53_Seven.f = some t147 by rw [e147];rfl)
 have A11:=Aside0.mk (show metrolablaw53_Seven.f = some t153 by rw [e153];rfl)
 have A14:=Aside0.mk (show metrolablaw53_Seven.f = some t164 by rw [e164];rfl)
 have A17:=Aside0.mk (show metrolablaw53_Seven.f = some t175 by rw [e175];rfl)
 have A2:=Aside0.mk (show recall_States.f t120 = some (t123,t124) by rw [e120,e123,e124];exact (by decide +kernel))
 have A4:=Aside0.mk (show recall_Parts.f t127 = some (t130,t131) by rw [e127,e130,e131];exact sv_parts)
 have A6:=Aside0.mk (show recall_Lots.f t134 = some (t137,t138) by rw [e134,e137,e138];exact sv_lots)
 have A8:=Aside0.mk (show recall_Reason.f t141 (⟨#[112,51]⟩ : ByteArray) = some (t144,t145,t146) by rw [e141,e144,e145,e146];exact (by decide +kernel))
 have A10:=Aside0.mk (show recall_Reason.f t147 (⟨#[112,49]⟩ : ByteArray) = some (t150,t151,t152) by rw [e147,e150,e151,e152];exact (by decide +kernel))
 have A13:=Aside0.mk (show recall_States.f y156 = some (t160,t161) by rw [hy156,e153,e160,e161];exact (by decide +kernel))
 have A16:=Aside0.mk (show recall_Unsure.f y167 = some (t171,t172) by rw [hy167,e164,e171,e172];exact sv_unsure)
 have A19:=Aside0.mk (show recall_AtRisk.f y178 (⟨#[104]⟩ : ByteArray) = some (t182,t183) by rw [hy178,e175,e182,e183];exact sv_risk)
 have c12 : 6 ≤ (t153.length : Int):=by rw [e153,sv_len];decide
 have c12b0:=eq_true c12
 have c12b1 : decide (6 ≤ (t153.length : Int)) = true:=decide_eq_true c12
 clear c12
 have c15 : 6 ≤ (t164.length : Int):=by rw [e164,sv_len];decide
 have c15b0:=eq_true c15
 have c15b1 : decide (6 ≤ (t164.length : Int)) = true:=decide_eq_true c15
 clear c15
 have c18 : 6 ≤ (t175.length : Int):=by rw [e175,sv_len];decide
 have c18b0:=eq_true c18
 have c18b1 : decide (6 ≤ (t175.length : Int)) = true:=decide_eq_true c18
 clear c18
 have c48 : (wrap64 ((wrap64 ((wrap64 ((wrap64 ((wrap64 ((wrap64 (t124 + t131)) + t138)) + t146)) + t161)) + t172)) + t183)) = 0:=by rw [e124,e131,e138,e146,e161,e172,e183];decide +kernel
 have c49 : t152 = 14:=e152
 have c50 : t144 = 4:=e144
 have c51 : t145 = 5:=e145
 have c52 : (t160.length : Int) = 6:=by rw [e160];rfl
 have c53 : 1 < (t160.length : Int):=by rw [c52];decide
 have c54b0 : (rd t160 1 != 1) = false:=by rw [e160];rfl
 have c48b0 : ((wrap64 ((wrap64 ((wrap64 ((wrap64 ((wrap64 ((wrap64 (t124 + t131)) + t138)) + t146)) + t161)) + t172)) + t183)) == 0) = true:=beq_iff_eq.mpr c48
 have c48b1 : ((wrap64 ((wrap64 ((wrap64 ((wrap64 ((wrap64 ((wrap64 (t124 + t131)) + t138)) + t146)) + t161)) + t172)) + t183)) != 0) = false:=bne_eq_false_iff_eq.mpr c48
 have c49b0 : (t152 == 14) = true:=beq_iff_eq.mpr c49
 have c49b1 : (t152 != 14) = false:=bne_eq_false_iff_eq.mpr c49
 have c50b0 : (t144 == 4) = true:=beq_iff_eq.mpr c50
 have c50b1 : (t144 != 4) = false:=bne_eq_false_iff_eq.mpr c50
 have c51b0 : (t145 == 5) = true:=beq_iff_eq.mpr c51
 have c51b1 : (t145 != 5) = false:=bne_eq_false_iff_eq.mpr c51
 have c52b0 : ((t160.length : Int) == 6) = true:=beq_iff_eq.mpr c52
 have c52b1 : ((t160.length : Int) != 6) = false:=bne_eq_false_iff_eq.mpr c52
 have c53b0 : decide (1 < (t160.length : Int)) = true:=decide_eq_true c53
 have c53b1 : decide (1 < t160.length) = true:=decide_eq_true (by omega)
 obtain ⟨y187,hy187⟩ : ∃ y_,y_ = ([2,3,0,3,3,0,0] : List Int):=⟨_,rfl⟩
 have Ny187:=Aside0.mk hy187
 have A57:=Aside0.mk (show slices_Equal_int_int.f 10 t123 y187 = some true by rw [hy187,e123];decide +kernel)
 obtain ⟨y191,hy191⟩ : ∃ y_,y_ = ([(⟨#[112,50]⟩ : ByteArray),(⟨#[112,51]⟩ : ByteArray)] : List ByteArray):=⟨_,rfl⟩
 have Ny191:=Aside0.mk hy191
 have A59:=Aside0.mk (show slices_Equal_string_string.f 10 t130 y191 = some true by rw [hy191,e130];decide +kernel)
 obtain ⟨y195,hy195⟩ : ∃ y_,y_ = ([(⟨#[88]⟩ : ByteArray),(⟨#[89]⟩ : ByteArray)] : List ByteArray):=⟨_,rfl⟩
 have Ny195:=Aside0.mk hy195
 have A61:=Aside0.mk (show slices_Equal_string_string.f 10 t137 y195 = some true by rw [hy195,e137];decide +kernel)
 obtain ⟨y199,hy199⟩ : ∃ y_,y_ = ([(⟨#[104]⟩ : ByteArray)] : List ByteArray):=⟨_,rfl⟩
 have Ny199:=Aside0.mk hy199
 have A63:=Aside0.mk (show slices_Equal_string_string.f 10 t171 y199 = some true by rw [hy199,e171];decide +kernel)
 obtain ⟨y203,hy203⟩ : ∃ y_,y_ = ([(⟨#[112,50]⟩ : ByteArray)] : List ByteArray):=⟨_,rfl⟩
 have Ny203:=Aside0.mk hy203
 have A65:=Aside0.mk (show slices_Equal_string_string.f 10 t182 y203 = some true by rw [hy203,e182];decide +kernel)
 clear e120 e127 e134 e141 e147 e153 e164 e175 e123 e124 e130 e131 e137 e138 e144 e145 e146 e150 e151 e152 e160 e161 e171 e172 e182 e183 hy156 hy167 hy178 hy187 hy191 hy195 hy199 hy203
 clear c48 c49 c50 c51 c52
 go_enter Try.func10,Try.ntmps10
 go_upto_region 9 with (first | ((with_reducible refine gate_callee (f:=37) rfl ?_);refine goesL_ (some 20) rfl rfl Try.func37 (by kernel_rfl) rfl #[] rfl (by (try simp only [List.map_toArray,List.map_cons,List.map_nil]);first | done | rfl | (simp only [List.length_drop,List.length_take];rfl)) ?_;(with_reducible refine (metrolablaw53_Seven.calls  t120 _ A1.out).mono ?_);rintro e w21 ⟨v121,rfl,ho0,hb⟩;refine ⟨_,rfl,?_⟩;have n0_:=Aside0.mk (Kd.R_lower ho0 (below_size (by repeat (first | (with_reducible first | exact HB.out | apply below_alloc | apply pw_below_drewN | apply below_drew1) | exact HB.out))));have n1_:=Aside0.mk (below_step (by repeat (first | (with_reducible first | exact HB.out | apply below_alloc | apply pw_below_drewN | apply below_drew1) | exact HB.out)) hb);clear HB;have HO122:=n0_;have HB:=n1_;clear n0_ n1_;(try clear hb);(try clear hb2);(try clear hk);(try clear hi);(try clear ho0);obtain ⟨Ao22,co22,eo22⟩:=Kd.R_slice HO122.out;subst eo22) | ((with_reducible refine gate_callee (f:=11) rfl ?_);refine goesL_ (some 21) rfl rfl Try.func11 (by kernel_rfl) rfl #[.slice Ao22 t120.length co22] rfl (by (try simp only [List.map_toArray,List.map_cons,List.map_nil]);first | done | rfl | (simp only [List.length_drop,List.length_take];rfl)) ?_;(with_reducible refine (recall_States.calls _ _ t120 t123 t124 _ ?side1 ?side2 A2.out).mono ?_);(case side1 => repeat (first | exact (Kd.R_reads' HO122.out).2.2 | (with_reducible refine Kd.C_alloc ?_ _) | (with_reducible refine Kd.C_drewN ?_ _) | (with_reducible refine Kd.C_drew ?_)));(case side2 => exact (Kd.R_reads' HO122.out).2.1);rintro e w23 ⟨v125,rfl,ho0,hb⟩;refine ⟨_,rfl,?_⟩;have n0_:=Aside0.mk (Kd.R_below (by (with_reducible repeat (first | apply Kd.R_alloc | apply Kd.R_drewN | apply Kd.R_drew));exact HO122.out) hb);have n1_:=Aside0.mk (Kd.R_lower ho0 (below_size (by repeat (first | (with_reducible first | exact HB.out | apply below_alloc | apply pw_below_drewN | apply below_drew1) | exact HB.out))));have n2_:=Aside0.mk (below_step (by repeat (first | (with_reducible first | exact HB.out | apply below_alloc | apply pw_below_drewN | apply below_drew1) | exact HB.out)) hb);clear HO122;clear HB;have HO122:=n0_;have HO126:=n1_;have HB:=n2_;clear n0_ n1_ n2_;(try clear hb);(try clear hb2);(try clear hk);(try clear hi);(try clear ho0)) | ((with_reducible refine gate_callee (f:=37) rfl ?_);refine goesL_ (some 25) rfl rfl Try.func37 (by kernel_rfl) rfl #[] rfl (by (try simp only [List.map_toArray,List.map_cons,List.map_nil]);first | done | rfl | (simp only [List.length_drop,List.length_take];rfl)) ?_;(with_reducible refine (metrolablaw53_Seven.calls  t127 _ A3.out).mono ?_);rintro e w24 ⟨v128,rfl,ho0,hb⟩;refine ⟨_,rfl,?_⟩;have n0_:=Aside0.mk (Kd.R_elder' (by (with_reducible repeat (first | apply Kd.R_alloc | apply Kd.R_drewN | apply Kd.R_drew));exact HO122.out) (Kd.R_base ho0) hb);have n1_:=Aside0.mk (Kd.R_below (by (with_reducible repeat (first | apply Kd.R_alloc | apply Kd.R_drewN | apply Kd.R_drew));exact HO126.out) hb);have n2_:=Aside0.mk (Kd.R_lower (Kd.R_new' ho0 (Kd.R_lt (by (with_reducible repeat (first | apply Kd.R_alloc | apply Kd.R_drewN | apply Kd.R_drew));exact HO122.out))) (below_size (by repeat (first | (with_reducible first | exact HB.out | apply below_alloc | apply pw_below_drewN | apply below_drew1) | exact HB.out))));have n3_:=Aside0.mk (below_step (by repeat (first | (with_reducible first | exact HB.out | apply below_alloc | apply pw_below_drewN | apply below_drew1) | exact HB.out)) hb);clear HO122;clear HO126;clear HB;have HO122:=n0_;have HO126:=n1_;have HO129:=n2_;have HB:=n3_;clear n0_ n1_ n2_ n3_;(try clear hb);(try clear hb2);(try clear hk);(try clear hi);(try clear ho0);obtain ⟨Ao25,co25,eo25⟩:=Kd.R_slice HO129.out;subst eo25) | ((with_reducible refine gate_callee (f:=14) rfl ?_);refine goesL_ (some 26) rfl rfl Try.func14 (by kernel_rfl) rfl #[.slice Ao25 t127.length co25] rfl (by (try simp only [List.map_toArray,List.map_cons,List.map_nil]);first | done | rfl | (simp only [List.length_drop,List.length_take];rfl)) ?_;(with_reducible refine (recall_Parts.calls _ _ t127 t130 t131 _ ?side1 ?side2 A4.out).mono ?_);(case side1 => repeat (first | exact (Kd.R_reads' HO129.out).2.2 | (with_reducible refine Kd.C_alloc ?_ _) | (with_reducible refine Kd.C_drewN ?_ _) | (with_reducible refine Kd.C_drew ?_)));(case side2 => exact (Kd.R_reads' HO129.out).2.1);rintro e w26 ⟨v132,rfl,ho0,hb⟩;refine ⟨_,rfl,?_⟩;have n0_:=Aside0.mk (Kd.R_below (by (with_reducible repeat (first | apply Kd.R_alloc | apply Kd.R_drewN | apply Kd.R_drew));exact HO122.out) hb);have n1_:=Aside0.mk (Kd.R_below (by (with_reducible repeat (first | apply Kd.R_alloc | apply Kd.R_drewN | apply Kd.R_drew));exact HO126.out) hb);have n2_:=Aside0.mk (Kd.R_below (by (with_reducible repeat (first | apply Kd.R_alloc | apply Kd.R_drewN | apply Kd.R_drew));exact HO129.out) hb);have n3_:=Aside0.mk (Kd.R_lower ho0 (below_size (by repeat (first | (with_reducible first | exact HB.out | apply below_alloc | apply pw_below_drewN | apply below_drew1) | exact HB.out))));have n4_:=Aside0.mk (below_step (by repeat (first | (with_reducible first | exact HB.out | apply below_alloc | apply pw_below_drewN | apply below_drew1) | exact HB.out)) hb);clear HO122;clear HO126;clear HO129;clear HB;have HO122:=n0_;have HO126:=n1_;have HO129:=n2_;have HO133:=n3_;have HB:=n4_;clear n0_ n1_ n2_ n3_ n4_;(try clear hb);(try clear hb2);(try clear hk);(try clear hi);(try clear ho0)) | ((with_reducible refine gate_callee (f:=37) rfl ?_);refine goesL_ (some 30) rfl rfl Try.func37 (by kernel_rfl) rfl #[] rfl (by (try simp only [List.map_toArray,List.map_cons,List.map_nil]);first | done | rfl | (simp only [List.length_drop,List.length_take];rfl)) ?_;(with_reducible refine (metrolablaw53_Seven.calls  t134 _ A5.out).mono ?_);rintro e w27 ⟨v135,rfl,ho0,hb⟩;refine ⟨_,rfl,?_⟩;have n0_:=Aside0.mk (Kd.R_elder' (by (with_reducible repeat (first | apply Kd.R_alloc | apply Kd.R_drewN | apply Kd.R_drew));exact HO122.out) (Kd.R_base ho0) hb);have n1_:=Aside0.mk (Kd.R_below (by (with_reducible repeat (first | apply Kd.R_alloc | apply Kd.R_drewN | apply Kd.R_drew));exact HO126.out) hb);have n2_:=Aside0.mk (Kd.R_elder' (by (with_reducible repeat (first | apply Kd.R_alloc | apply Kd.R_drewN | apply Kd.R_drew));exact HO129.out) (Kd.R_base ho0) hb);have n3_:=Aside0.mk (Kd.R_below (by (with_reducible repeat (first | apply Kd.R_alloc | apply Kd.R_drewN | apply Kd.R_drew));exact HO133.out) hb);have n4_:=Aside0.mk (Kd.R_lower (Kd.R_new' (Kd.R_new' ho0 (Kd.R_lt (by (with_reducible repeat (first | apply Kd.R_alloc | apply Kd.R_drewN | apply Kd.R_drew));exact HO122.out))) (Kd.R_lt (by (with_reducible repeat (first | apply Kd.R_alloc | apply Kd.R_drewN | apply Kd.R_drew));exact HO129.out))) (below_size (by repeat (first | (with_reducible first | exact HB.out | apply below_alloc | apply pw_below_drewN | apply below_drew1) | exact HB.out))));have n5_:=Aside0.mk (below_step (by repeat (first | (with_reducible first | exact HB.out | apply below_alloc | apply pw_below_drewN | apply below_drew1) | exact HB.out)) hb);clear HO122;clear HO126;clear HO129;clear HO133;clear HB;have HO122:=n0_;have HO126:=n1_;have HO129:=n2_;have HO133:=n3_;have HO136:=n4_;have HB:=n5_;clear n0_ n1_ n2_ n3_ n4_ n5_;(try clear hb);(try clear hb2);(try clear hk);(try clear hi);(try clear ho0);obtain ⟨Ao28,co28,eo28⟩:=Kd.R_slice HO136.out;subst eo28) | ((with_reducible refine gate_callee (f:=20) rfl ?_);refine goesL_ (some 31) rfl rfl Try.func20 (by kernel_rfl) rfl #[.slice Ao28 t134.length co28] rfl (by (try simp only [List.map_toArray,List.map_cons,List.map_nil]);first | done | rfl | (simp only [List.length_drop,List.length_take];rfl)) ?_;(with_reducible refine (recall_Lots.calls _ _ t134 t137 t138 _ ?side1 ?side2 A6.out).mono ?_);(case side1 => repeat (first | exact (Kd.R_reads' HO136.out).2.2 | (with_reducible refine Kd.C_alloc ?_ _) | (with_reducible refine Kd.C_drewN ?_ _) | (with_reducible refine Kd.C_drew ?_)));(case side2 => exact (Kd.R_reads' HO136.out).2.1);rintro e w29 ⟨v139,rfl,ho0,hb⟩;refine ⟨_,rfl,?_⟩;have n0_:=Aside0.mk (Kd.R_below (by (with_reducible repeat (first | apply Kd.R_alloc | apply Kd.R_drewN | apply Kd.R_drew));exact HO122.out) hb);have n1_:=Aside0.mk (Kd.R_below (by (with_reducible repeat (first | apply Kd.R_alloc | apply Kd.R_drewN | apply Kd.R_drew));exact HO126.out) hb);have n2_:=Aside0.mk (Kd.R_below (by (with_reducible repeat (first | apply Kd.R_alloc | apply Kd.R_drewN | apply Kd.R_drew));exact HO129.out) hb);have n3_:=Aside0.mk (Kd.R_elder' (by (with_reducible repeat (first | apply Kd.R_alloc | apply Kd.R_drewN | apply Kd.R_drew));exact HO133.out) (Kd.R_base ho0) hb);have n4_:=Aside0.mk (Kd.R_below (by (with_reducible repeat (first | apply Kd.R_alloc | apply Kd.R_drewN | apply Kd.R_drew));exact HO136.out) hb);have n5_:=Aside0.mk (Kd.R_lower (Kd.R_new' ho0 (Kd.R_lt (by (with_reducible repeat (first | apply Kd.R_alloc | apply Kd.R_drewN | apply Kd.R_drew));exact HO133.out))) (below_size (by repeat (first | (with_reducible first | exact HB.out | apply below_alloc | apply pw_below_drewN | apply below_drew1) | exact HB.out))));have n6_:=Aside0.mk (below_step (by repeat (first | (with_reducible first | exact HB.out | apply below_alloc | apply pw_below_drewN | apply below_drew1) | exact HB.out)) hb);clear HO122;clear HO126;clear HO129;clear HO133;clear HO136;clear HB;have HO122:=n0_;have HO126:=n1_;have HO129:=n2_;have HO133:=n3_;have HO136:=n4_;have HO140:=n5_;have HB:=n6_;clear n0_ n1_ n2_ n3_ n4_ n5_ n6_;(try clear hb);(try clear hb2);(try clear hk);(try clear hi);(try clear ho0)) | ((with_reducible refine gate_callee (f:=37) rfl ?_);refine goesL_ (some 35) rfl rfl Try.func37 (by kernel_rfl) rfl #[] rfl (by (try simp only [List.map_toArray,List.map_cons,List.map_nil]);first | done | rfl | (simp only [List.length_drop,List.length_take];rfl)) ?_;(with_reducible refine (metrolablaw53_Seven.calls  t141 _ A7.out).mono ?_);rintro e w30 ⟨v142,rfl,ho0,hb⟩;refine ⟨_,rfl,?_⟩;have n0_:=Aside0.mk (Kd.R_elder' (by (with_reducible repeat (first | apply Kd.R_alloc | apply Kd.R_drewN | apply Kd.R_drew));exact HO122.out) (Kd.R_base ho0) hb);have n1_:=Aside0.mk (Kd.R_below (by (with_reducible repeat (first | apply Kd.R_alloc | apply Kd.R_drewN | apply Kd.R_drew));exact HO126.out) hb);have n2_:=Aside0.mk (Kd.R_elder' (by (with_reducible repeat (first | apply Kd.R_alloc | apply Kd.R_drewN | apply Kd.R_drew));exact HO129.out) (Kd.R_base ho0) hb);have n3_:=Aside0.mk (Kd.R_below (by (with_reducible repeat (first | apply Kd.R_alloc | apply Kd.R_drewN | apply Kd.R_drew));exact HO133.out) hb);have n4_:=Aside0.mk (Kd.R_elder' (by (with_reducible repeat (first | apply Kd.R_alloc | apply Kd.R_drewN | apply Kd.R_drew));exact HO136.out) (Kd.R_base ho0) hb);have n5_:=Aside0.mk (Kd.R_below (by (with_reducible repeat (first | apply Kd.R_alloc | apply Kd.R_drewN | apply Kd.R_drew));exact HO140.out) hb);have n6_:=Aside0.mk (Kd.R_lower (Kd.R_new' (Kd.R_new' (Kd.R_new' ho0 (Kd.R_lt (by (with_reducible repeat (first | apply Kd.R_alloc | apply Kd.R_drewN | apply Kd.R_drew));exact HO122.out))) (Kd.R_lt (by (with_reducible repeat (first | apply Kd.R_alloc | apply Kd.R_drewN | apply Kd.R_drew));exact HO129.out))) (Kd.R_lt (by (with_reducible repeat (first | apply Kd.R_alloc | apply Kd.R_drewN | apply Kd.R_drew));exact HO136.out))) (below_size (by repeat (first | (with_reducible first | exact HB.out | apply below_alloc | apply pw_below_drewN | apply below_drew1) | exact HB.out))));have n7_:=Aside0.mk (below_step (by repeat (first | (with_reducible first | exact HB.out | apply below_alloc | apply pw_below_drewN | apply below_drew1) | exact HB.out)) hb);clear HO122;clear HO126;clear HO129;clear HO133;clear HO136;clear HO140;clear HB;have HO122:=n0_;have HO126:=n1_;have HO129:=n2_;have HO133:=n3_;have HO136:=n4_;have HO140:=n5_;have HO143:=n6_;have HB:=n7_;clear n0_ n1_ n2_ n3_ n4_ n5_ n6_ n7_;(try clear hb);(try clear hb2);(try clear hk);(try clear hi);(try clear ho0);obtain ⟨Ao31,co31,eo31⟩:=Kd.R_slice HO143.out;subst eo31) | ((with_reducible refine gate_callee (f:=24) rfl ?_);refine goesL_ (some 36) rfl rfl Try.func24 (by kernel_rfl) rfl #[.slice Ao31 t141.length co31,.string (⟨#[112,51]⟩ : ByteArray)] rfl (by (try simp only [List.map_toArray,List.map_cons,List.map_nil]);first | done | rfl | (simp only [List.length_drop,List.length_take];rfl)) ?_;(with_reducible refine (recall_Reason.calls _ _ t141 (⟨#[112,51]⟩ : ByteArray) t144 t145 t146 _ ?side1 ?side2 A8.out).mono ?_);(case side1 => repeat (first | exact (Kd.R_reads' HO143.out).2.2 | (with_reducible refine Kd.C_alloc ?_ _) | (with_reducible refine Kd.C_drewN ?_ _) | (with_reducible refine Kd.C_drew ?_)));(case side2 => exact (Kd.R_reads' HO143.out).2.1);rintro e w32 ⟨rfl,hb⟩;refine ⟨_,rfl,?_⟩;have n0_:=Aside0.mk (Kd.R_below (by (with_reducible repeat (first | apply Kd.R_alloc | apply Kd.R_drewN | apply Kd.R_drew));exact HO122.out) hb);have n1_:=Aside0.mk (Kd.R_below (by (with_reducible repeat (first | apply Kd.R_alloc | apply Kd.R_drewN | apply Kd.R_drew));exact HO126.out) hb);have n2_:=Aside0.mk (Kd.R_below (by (with_reducible repeat (first | apply Kd.R_alloc | apply Kd.R_drewN | apply Kd.R_drew));exact HO129.out) hb);have n3_:=Aside0.mk (Kd.R_below (by (with_reducible repeat (first | apply Kd.R_alloc | apply Kd.R_drewN | apply Kd.R_drew));exact HO133.out) hb);have n4_:=Aside0.mk (Kd.R_below (by (with_reducible repeat (first | apply Kd.R_alloc | apply Kd.R_drewN | apply Kd.R_drew));exact HO136.out) hb);have n5_:=Aside0.mk (Kd.R_below (by (with_reducible repeat (first | apply Kd.R_alloc | apply Kd.R_drewN | apply Kd.R_drew));exact HO140.out) hb);have n6_:=Aside0.mk (Kd.R_below (by (with_reducible repeat (first | apply Kd.R_alloc | apply Kd.R_drewN | apply Kd.R_drew));exact HO143.out) hb);have n7_:=Aside0.mk (below_step (by repeat (first | (with_reducible first | exact HB.out | apply below_alloc | apply pw_below_drewN | apply below_drew1) | exact HB.out)) hb);clear HO122;clear HO126;clear HO129;clear HO133;clear HO136;clear HO140;clear HO143;clear HB;have HO122:=n0_;have HO126:=n1_;have HO129:=n2_;have HO133:=n3_;have HO136:=n4_;have HO140:=n5_;have HO143:=n6_;have HB:=n7_;clear n0_ n1_ n2_ n3_ n4_ n5_ n6_ n7_;(try clear hb);(try clear hb2);(try clear hk);(try clear hi)) | ((with_reducible refine gate_callee (f:=37) rfl ?_);refine goesL_ (some 41) rfl rfl Try.func37 (by kernel_rfl) rfl #[] rfl (by (try simp only [List.map_toArray,List.map_cons,List.map_nil]);first | done | rfl | (simp only [List.length_drop,List.length_take];rfl)) ?_;(with_reducible refine (metrolablaw53_Seven.calls  t147 _ A9.out).mono ?_);rintro e w33 ⟨v148,rfl,ho0,hb⟩;refine ⟨_,rfl,?_⟩;have n0_:=Aside0.mk (Kd.R_elder' (by (with_reducible repeat (first | apply Kd.R_alloc | apply Kd.R_drewN | apply Kd.R_drew));exact HO122.out) (Kd.R_base ho0) hb);have n1_:=Aside0.mk (Kd.R_below (by (with_reducible repeat (first | apply Kd.R_alloc | apply Kd.R_drewN | apply Kd.R_drew));exact HO126.out) hb);have n2_:=Aside0.mk (Kd.R_elder' (by (with_reducible repeat (first | apply Kd.R_alloc | apply Kd.R_drewN | apply Kd.R_drew));exact HO129.out) (Kd.R_base ho0) hb);have n3_:=Aside0.mk (Kd.R_below (by (with_reducible repeat (first | apply Kd.R_alloc | apply Kd.R_drewN | apply Kd.R_drew));exact HO133.out) hb);have n4_:=Aside0.mk (Kd.R_elder' (by (with_reducible repeat (first | apply Kd.R_alloc | apply Kd.R_drewN | apply Kd.R_drew));exact HO136.out) (Kd.R_base ho0) hb);have n5_:=Aside0.mk (Kd.R_below (by (with_reducible repeat (first | apply Kd.R_alloc | apply Kd.R_drewN | apply Kd.R_drew));exact HO140.out) hb);have n6_:=Aside0.mk (Kd.R_elder' (by (with_reducible repeat (first | apply Kd.R_alloc | apply Kd.R_drewN | apply Kd.R_drew));exact HO143.out) (Kd.R_base ho0) hb);have n7_:=Aside0.mk (Kd.R_lower (Kd.R_new' (Kd.R_new' (Kd.R_new' (Kd.R_new' ho0 (Kd.R_lt (by (with_reducible repeat (first | apply Kd.R_alloc | apply Kd.R_drewN | apply Kd.R_drew));exact HO122.out))) (Kd.R_lt (by (with_reducible repeat (first | apply Kd.R_alloc | apply Kd.R_drewN | apply Kd.R_drew));exact HO129.out))) (Kd.R_lt (by (with_reducible repeat (first | apply Kd.R_alloc | apply Kd.R_drewN | apply Kd.R_drew));exact HO136.out))) (Kd.R_lt (by (with_reducible repeat (first | apply Kd.R_alloc | apply Kd.R_drewN | apply Kd.R_drew));exact HO143.out))) (below_size (by repeat (first | (with_reducible first | exact HB.out | apply below_alloc | apply pw_below_drewN | apply below_drew1) | exact HB.out))));have n8_:=Aside0.mk (below_step (by repeat (first | (with_reducible first | exact HB.out | apply below_alloc | apply pw_below_drewN | apply below_drew1) | exact HB.out)) hb);clear HO122;clear HO126;clear HO129;clear HO133;clear HO136;clear HO140;clear HO143;clear HB;have HO122:=n0_;have HO126:=n1_;have HO129:=n2_;have HO133:=n3_;have HO136:=n4_;have HO140:=n5_;have HO143:=n6_;have HO149:=n7_;have HB:=n8_;clear n0_ n1_ n2_ n3_ n4_ n5_ n6_ n7_ n8_;(try clear hb);(try clear hb2);(try clear hk);(try clear hi);(try clear ho0);obtain ⟨Ao34,co34,eo34⟩:=Kd.R_slice HO149.out;subst eo34) | ((with_reducible refine gate_callee (f:=24) rfl ?_);refine goesL_ (some 42) rfl rfl Try.func24 (by kernel_rfl) rfl #[.slice Ao34 t147.length co34,.string (⟨#[112,49]⟩ : ByteArray)] rfl (by (try simp only [List.map_toArray,List.map_cons,List.map_nil]);first | done | rfl | (simp only [List.length_drop,List.length_take];rfl)) ?_;(with_reducible refine (recall_Reason.calls _ _ t147 (⟨#[112,49]⟩ : ByteArray) t150 t151 t152 _ ?side1 ?side2 A10.out).mono ?_);(case side1 => repeat (first | exact (Kd.R_reads' HO149.out).2.2 | (with_reducible refine Kd.C_alloc ?_ _) | (with_reducible refine Kd.C_drewN ?_ _) | (with_reducible refine Kd.C_drew ?_)));(case side2 => exact (Kd.R_reads' HO149.out).2.1);rintro e w35 ⟨rfl,hb⟩;refine ⟨_,rfl,?_⟩;have n0_:=Aside0.mk (Kd.R_below (by (with_reducible repeat (first | apply Kd.R_alloc | apply Kd.R_drewN | apply Kd.R_drew));exact HO122.out) hb);have n1_:=Aside0.mk (Kd.R_below (by (with_reducible repeat (first | apply Kd.R_alloc | apply Kd.R_drewN | apply Kd.R_drew));exact HO126.out) hb);have n2_:=Aside0.mk (Kd.R_below (by (with_reducible repeat (first | apply Kd.R_alloc | apply Kd.R_drewN | apply Kd.R_drew));exact HO129.out) hb);have n3_:=Aside0.mk (Kd.R_below (by (with_reducible repeat (first | apply Kd.R_alloc | apply Kd.R_drewN | apply Kd.R_drew));exact HO133.out) hb);have n4_:=Aside0.mk (Kd.R_below (by (with_reducible repeat (first | apply Kd.R_alloc | apply Kd.R_drewN | apply Kd.R_drew));exact HO136.out) hb);have n5_:=Aside0.mk (Kd.R_below (by (with_reducible repeat (first | apply Kd.R_alloc | apply Kd.R_drewN | apply Kd.R_drew));exact HO140.out) hb);have n6_:=Aside0.mk (Kd.R_below (by (with_reducible repeat (first | apply Kd.R_alloc | apply Kd.R_drewN | apply Kd.R_drew));exact HO143.out) hb);have n7_:=Aside0.mk (Kd.R_below (by (with_reducible repeat (first | apply Kd.R_alloc | apply Kd.R_drewN | apply Kd.R_drew));exact HO149.out) hb);have n8_:=Aside0.mk (below_step (by repeat (first | (with_reducible first | exact HB.out | apply below_alloc | apply pw_below_drewN | apply below_drew1) | exact HB.out)) hb);clear HO122;clear HO126;clear HO129;clear HO133;clear HO136;clear HO140;clear HO143;clear HO149;clear HB;have HO122:=n0_;have HO126:=n1_;have HO129:=n2_;have HO133:=n3_;have HO136:=n4_;have HO140:=n5_;have HO143:=n6_;have HO149:=n7_;have HB:=n8_;clear n0_ n1_ n2_ n3_ n4_ n5_ n6_ n7_ n8_;(try clear hb);(try clear hb2);(try clear hk);(try clear hi)) | ((with_reducible refine gate_callee (f:=37) rfl ?_);refine goesL_ (some 47) rfl rfl Try.func37 (by kernel_rfl) rfl #[] rfl (by (try simp only [List.map_toArray,List.map_cons,List.map_nil]);first | done | rfl | (simp only [List.length_drop,List.length_take];rfl)) ?_;(with_reducible refine (metrolablaw53_Seven.calls  t153 _ A11.out).mono ?_);rintro e w36 ⟨v154,rfl,ho0,hb⟩;refine ⟨_,rfl,?_⟩;have n0_:=Aside0.mk (Kd.R_elder' (by (with_reducible repeat (first | apply Kd.R_alloc | apply Kd.R_drewN | apply Kd.R_drew));exact HO122.out) (Kd.R_base ho0) hb);have n1_:=Aside0.mk (Kd.R_below (by (with_reducible repeat (first | apply Kd.R_alloc | apply Kd.R_drewN | apply Kd.R_drew));exact HO126.out) hb);have n2_:=Aside0.mk (Kd.R_elder' (by (with_reducible repeat (first | apply Kd.R_alloc | apply Kd.R_drewN | apply Kd.R_drew));exact HO129.out) (Kd.R_base ho0) hb);have n3_:=Aside0.mk (Kd.R_below (by (with_reducible repeat (first | apply Kd.R_alloc | apply Kd.R_drewN | apply Kd.R_drew));exact HO133.out) hb);have n4_:=Aside0.mk (Kd.R_elder' (by (with_reducible repeat (first | apply Kd.R_alloc | apply Kd.R_drewN | apply Kd.R_drew));exact HO136.out) (Kd.R_base ho0) hb);have n5_:=Aside0.mk (Kd.R_below (by (with_reducible repeat (first | apply Kd.R_alloc | apply Kd.R_drewN | apply Kd.R_drew));exact HO140.out) hb);have n6_:=Aside0.mk (Kd.R_elder' (by (with_reducible repeat (first | apply Kd.R_alloc | apply Kd.R_drewN | apply Kd.R_drew));exact HO143.out) (Kd.R_base ho0) hb);have n7_:=Aside0.mk (Kd.R_elder' (by (with_reducible repeat (first | apply Kd.R_alloc | apply Kd.R_drewN | apply Kd.R_drew));exact HO149.out) (Kd.R_base ho0) hb);have n8_:=Aside0.mk (Kd.R_lower (Kd.R_new' (Kd.R_new' (Kd.R_new' (Kd.R_new' (Kd.R_new' ho0 (Kd.R_lt (by (with_reducible repeat (first | apply Kd.R_alloc | apply Kd.R_drewN | apply Kd.R_drew));exact HO122.out))) (Kd.R_lt (by (with_reducible repeat (first | apply Kd.R_alloc | apply Kd.R_drewN | apply Kd.R_drew));exact HO129.out))) (Kd.R_lt (by (with_reducible repeat (first | apply Kd.R_alloc | apply Kd.R_drewN | apply Kd.R_drew));exact HO136.out))) (Kd.R_lt (by (with_reducible repeat (first | apply Kd.R_alloc | apply Kd.R_drewN | apply Kd.R_drew));exact HO143.out))) (Kd.R_lt (by (with_reducible repeat (first | apply Kd.R_alloc | apply Kd.R_drewN | apply Kd.R_drew));exact HO149.out))) (below_size (by repeat (first | (with_reducible first | exact HB.out | apply below_alloc | apply pw_below_drewN | apply below_drew1) | exact HB.out))));have n9_:=Aside0.mk (below_step (by repeat (first | (with_reducible first | exact HB.out | apply below_alloc | apply pw_below_drewN | apply below_drew1) | exact HB.out)) hb);clear HO122;clear HO126;clear HO129;clear HO133;clear HO136;clear HO140;clear HO143;clear HO149;clear HB;have HO122:=n0_;have HO126:=n1_;have HO129:=n2_;have HO133:=n3_;have HO136:=n4_;have HO140:=n5_;have HO143:=n6_;have HO149:=n7_;have HO155:=n8_;have HB:=n9_;clear n0_ n1_ n2_ n3_ n4_ n5_ n6_ n7_ n8_ n9_;(try clear hb);(try clear hb2);(try clear hk);(try clear hi);(try clear ho0);obtain ⟨Ao38,co38,eo38⟩:=Kd.R_slice HO155.out;subst eo38;have q37 : (6 : Int) ≤ ((t153.length : Int) : Int):=of_decide_eq_true (by first | (with_reducible assumption) | assumption);obtain ⟨i037,hi037,_,hsz37,_⟩:=info_parts info51;have hroom37 : t153.length ≤ co38:=(Kd.R_reads' HO155.out).2.1;have hC37 : Kd.C k51 _ Ao38 t153.length t153:=(Kd.R_reads' HO155.out).2.2;have hcut37:=cut_to (P:=Try.prog) 22 51 .i64 Try.underlying22 hi037 Ao38 t153.length co38 6 (by omega) q37 hroom37;have hr37:=Kd.C_take (m:=6) hC37 (by omega);have hy37 : y156.length = (6 : Int).toNat:=(by rw [Ny156.out,List.length_take];omega);rw [← Ny156.out] at hr37;rw [← hy37] at hcut37;have HR159:=Aside0.mk hr37;have HC159:=Aside0.mk (show y156.length ≤ co38 from by omega);clear hr37 hC37 hroom37 hi037 hsz37;have KY37:=Aside0.mk hy37;clear hy37;have KL37:=Aside0.mk (show 6 ≤ t153.length from by omega);replace q37:=eq_true q37) | ((with_reducible refine gate_callee (f:=11) rfl ?_);refine goesL_ (some 49) rfl rfl Try.func11 (by kernel_rfl) rfl #[.slice Ao38 y156.length co38] rfl (by (try simp only [List.map_toArray,List.map_cons,List.map_nil]);first | done | rfl | (simp only [List.length_drop,List.length_take];rfl)) ?_;(with_reducible refine (recall_States.calls _ _ y156 t160 t161 _ ?side1 ?side2 A13.out).mono ?_);(case side1 => repeat (first | exact (by repeat (first | (with_reducible exact HR159.out) | (with_reducible refine Kd.C_alloc ?_ _) | (with_reducible refine Kd.C_drewN ?_ _) | (with_reducible refine Kd.C_drew ?_) | exact HR159.out)) | (with_reducible refine Kd.C_alloc ?_ _) | (with_reducible refine Kd.C_drewN ?_ _) | (with_reducible refine Kd.C_drew ?_)));(case side2 => exact HC159.out);rintro e w39 ⟨v162,rfl,ho0,hb⟩;refine ⟨_,rfl,?_⟩;have n0_:=Aside0.mk (Kd.R_below (by (with_reducible repeat (first | apply Kd.R_alloc | apply Kd.R_drewN | apply Kd.R_drew));exact HO122.out) hb);have n1_:=Aside0.mk (Kd.R_elder' (by (with_reducible repeat (first | apply Kd.R_alloc | apply Kd.R_drewN | apply Kd.R_drew));exact HO126.out) (Kd.R_base ho0) hb);have n2_:=Aside0.mk (Kd.R_below (by (with_reducible repeat (first | apply Kd.R_alloc | apply Kd.R_drewN | apply Kd.R_drew));exact HO129.out) hb);have n3_:=Aside0.mk (Kd.R_below (by (with_reducible repeat (first | apply Kd.R_alloc | apply Kd.R_drewN | apply Kd.R_drew));exact HO133.out) hb);have n4_:=Aside0.mk (Kd.R_below (by (with_reducible repeat (first | apply Kd.R_alloc | apply Kd.R_drewN | apply Kd.R_drew));exact HO136.out) hb);have n5_:=Aside0.mk (Kd.R_below (by (with_reducible repeat (first | apply Kd.R_alloc | apply Kd.R_drewN | apply Kd.R_drew));exact HO140.out) hb);have n6_:=Aside0.mk (Kd.R_below (by (with_reducible repeat (first | apply Kd.R_alloc | apply Kd.R_drewN | apply Kd.R_drew));exact HO143.out) hb);have n7_:=Aside0.mk (Kd.R_below (by (with_reducible repeat (first | apply Kd.R_alloc | apply Kd.R_drewN | apply Kd.R_drew));exact HO149.out) hb);have n8_:=Aside0.mk (Kd.R_below (by (with_reducible repeat (first | apply Kd.R_alloc | apply Kd.R_drewN | apply Kd.R_drew));exact HO155.out) hb);have n9_:=Aside0.mk (Kd.R_lower (Kd.R_new' ho0 (Kd.R_lt (by (with_reducible repeat (first | apply Kd.R_alloc | apply Kd.R_drewN | apply Kd.R_drew));exact HO126.out))) (below_size (by repeat (first | (with_reducible first | exact HB.out | apply below_alloc | apply pw_below_drewN | apply below_drew1) | exact HB.out))));have n10_:=Aside0.mk (Kd.C_below (by repeat (first | (with_reducible exact HR159.out) | (with_reducible refine Kd.C_alloc ?_ _) | (with_reducible refine Kd.C_drewN ?_ _) | (with_reducible refine Kd.C_drew ?_) | exact HR159.out)) hb);have n11_:=Aside0.mk (below_step (by repeat (first | (with_reducible first | exact HB.out | apply below_alloc | apply pw_below_drewN | apply below_drew1) | exact HB.out)) hb);clear HO122;clear HO126;clear HO129;clear HO133;clear HO136;clear HO140;clear HO143;clear HO149;clear HO155;clear HR159;clear HB;have HO122:=n0_;have HO126:=n1_;have HO129:=n2_;have HO133:=n3_;have HO136:=n4_;have HO140:=n5_;have HO143:=n6_;have HO149:=n7_;have HO155:=n8_;have HO163:=n9_;have HR159:=n10_;have HB:=n11_;clear n0_ n1_ n2_ n3_ n4_ n5_ n6_ n7_ n8_ n9_ n10_ n11_;(try clear hb);(try clear hb2);(try clear hk);(try clear hi);(try clear ho0)) | ((with_reducible refine gate_callee (f:=37) rfl ?_);refine goesL_ (some 53) rfl rfl Try.func37 (by kernel_rfl) rfl #[] rfl (by (try simp only [List.map_toArray,List.map_cons,List.map_nil]);first | done | rfl | (simp only [List.length_drop,List.length_take];rfl)) ?_;(with_reducible refine (metrolablaw53_Seven.calls  t164 _ A14.out).mono ?_);rintro e w40 ⟨v165,rfl,ho0,hb⟩;refine ⟨_,rfl,?_⟩;have n0_:=Aside0.mk (Kd.R_elder' (by (with_reducible repeat (first | apply Kd.R_alloc | apply Kd.R_drewN | apply Kd.R_drew));exact HO122.out) (Kd.R_base ho0) hb);have n1_:=Aside0.mk (Kd.R_below (by (with_reducible repeat (first | apply Kd.R_alloc | apply Kd.R_drewN | apply Kd.R_drew));exact HO126.out) hb);have n2_:=Aside0.mk (Kd.R_elder' (by (with_reducible repeat (first | apply Kd.R_alloc | apply Kd.R_drewN | apply Kd.R_drew));exact HO129.out) (Kd.R_base ho0) hb);have n3_:=Aside0.mk (Kd.R_below (by (with_reducible repeat (first | apply Kd.R_alloc | apply Kd.R_drewN | apply Kd.R_drew));exact HO133.out) hb);have n4_:=Aside0.mk (Kd.R_elder' (by (with_reducible repeat (first | apply Kd.R_alloc | apply Kd.R_drewN | apply Kd.R_drew));exact HO136.out) (Kd.R_base ho0) hb);have n5_:=Aside0.mk (Kd.R_below (by (with_reducible repeat (first | apply Kd.R_alloc | apply Kd.R_drewN | apply Kd.R_drew));exact HO140.out) hb);have n6_:=Aside0.mk (Kd.R_elder' (by (with_reducible repeat (first | apply Kd.R_alloc | apply Kd.R_drewN | apply Kd.R_drew));exact HO143.out) (Kd.R_base ho0) hb);have n7_:=Aside0.mk (Kd.R_elder' (by (with_reducible repeat (first | apply Kd.R_alloc | apply Kd.R_drewN | apply Kd.R_drew));exact HO149.out) (Kd.R_base ho0) hb);have n8_:=Aside0.mk (Kd.R_elder' (by (with_reducible repeat (first | apply Kd.R_alloc | apply Kd.R_drewN | apply Kd.R_drew));exact HO155.out) (Kd.R_base ho0) hb);have n9_:=Aside0.mk (Kd.R_below (by (with_reducible repeat (first | apply Kd.R_alloc | apply Kd.R_drewN | apply Kd.R_drew));exact HO163.out) hb);have n10_:=Aside0.mk (Kd.R_lower (Kd.R_new' (Kd.R_new' (Kd.R_new' (Kd.R_new' (Kd.R_new' (Kd.R_new' ho0 (Kd.R_lt (by (with_reducible repeat (first | apply Kd.R_alloc | apply Kd.R_drewN | apply Kd.R_drew));exact HO122.out))) (Kd.R_lt (by (with_reducible repeat (first | apply Kd.R_alloc | apply Kd.R_drewN | apply Kd.R_drew));exact HO129.out))) (Kd.R_lt (by (with_reducible repeat (first | apply Kd.R_alloc | apply Kd.R_drewN | apply Kd.R_drew));exact HO136.out))) (Kd.R_lt (by (with_reducible repeat (first | apply Kd.R_alloc | apply Kd.R_drewN | apply Kd.R_drew));exact HO143.out))) (Kd.R_lt (by (with_reducible repeat (first | apply Kd.R_alloc | apply Kd.R_drewN | apply Kd.R_drew));exact HO149.out))) (Kd.R_lt (by (with_reducible repeat (first | apply Kd.R_alloc | apply Kd.R_drewN | apply Kd.R_drew));exact HO155.out))) (below_size (by repeat (first | (with_reducible first | exact HB.out | apply below_alloc | apply pw_below_drewN | apply below_drew1) | exact HB.out))));have n11_:=Aside0.mk (Kd.C_below (by repeat (first | (with_reducible exact HR159.out) | (with_reducible refine Kd.C_alloc ?_ _) | (with_reducible refine Kd.C_drewN ?_ _) | (with_reducible refine Kd.C_drew ?_) | exact HR159.out)) hb);have n12_:=Aside0.mk (below_step (by repeat (first | (with_reducible first | exact HB.out | apply below_alloc | apply pw_below_drewN | apply below_drew1) | exact HB.out)) hb);clear HO122;clear HO126;clear HO129;clear HO133;clear HO136;clear HO140;clear HO143;clear HO149;clear HO155;clear HO163;clear HR159;clear HB;have HO122:=n0_;have HO126:=n1_;have HO129:=n2_;have HO133:=n3_;have HO136:=n4_;have HO140:=n5_;have HO143:=n6_;have HO149:=n7_;have HO155:=n8_;have HO163:=n9_;have HO166:=n10_;have HR159:=n11_;have HB:=n12_;clear n0_ n1_ n2_ n3_ n4_ n5_ n6_ n7_ n8_ n9_ n10_ n11_ n12_;(try clear hb);(try clear hb2);(try clear hk);(try clear hi);(try clear ho0);obtain ⟨Ao42,co42,eo42⟩:=Kd.R_slice HO166.out;subst eo42;have q41 : (6 : Int) ≤ ((t164.length : Int) : Int):=of_decide_eq_true (by first | (with_reducible assumption) | assumption);obtain ⟨i041,hi041,_,hsz41,_⟩:=info_parts info51;have hroom41 : t164.length ≤ co42:=(Kd.R_reads' HO166.out).2.1;have hC41 : Kd.C k51 _ Ao42 t164.length t164:=(Kd.R_reads' HO166.out).2.2;have hcut41:=cut_to (P:=Try.prog) 22 51 .i64 Try.underlying22 hi041 Ao42 t164.length co42 6 (by omega) q41 hroom41;have hr41:=Kd.C_take (m:=6) hC41 (by omega);have hy41 : y167.length = (6 : Int).toNat:=(by rw [Ny167.out,List.length_take];omega);rw [← Ny167.out] at hr41;rw [← hy41] at hcut41;have HR170:=Aside0.mk hr41;have HC170:=Aside0.mk (show y167.length ≤ co42 from by omega);clear hr41 hC41 hroom41 hi041 hsz41;have KY41:=Aside0.mk hy41;clear hy41;have KL41:=Aside0.mk (show 6 ≤ t164.length from by omega);replace q41:=eq_true q41) | ((with_reducible refine gate_callee (f:=22) rfl ?_);refine goesL_ (some 55) rfl rfl Try.func22 (by kernel_rfl) rfl #[.slice Ao42 y167.length co42] rfl (by (try simp only [List.map_toArray,List.map_cons,List.map_nil]);first | done | rfl | (simp only [List.length_drop,List.length_take];rfl)) ?_;(with_reducible refine (recall_Unsure.calls _ _ y167 t171 t172 _ ?side1 ?side2 A16.out).mono ?_);(case side1 => repeat (first | exact (by repeat (first | (with_reducible exact HR170.out) | (with_reducible refine Kd.C_alloc ?_ _) | (with_reducible refine Kd.C_drewN ?_ _) | (with_reducible refine Kd.C_drew ?_) | exact HR170.out)) | (with_reducible refine Kd.C_alloc ?_ _) | (with_reducible refine Kd.C_drewN ?_ _) | (with_reducible refine Kd.C_drew ?_)));(case side2 => exact HC170.out);rintro e w43 ⟨v173,rfl,ho0,hb⟩;refine ⟨_,rfl,?_⟩;have n0_:=Aside0.mk (Kd.R_below (by (with_reducible repeat (first | apply Kd.R_alloc | apply Kd.R_drewN | apply Kd.R_drew));exact HO122.out) hb);have n1_:=Aside0.mk (Kd.R_below (by (with_reducible repeat (first | apply Kd.R_alloc | apply Kd.R_drewN | apply Kd.R_drew));exact HO126.out) hb);have n2_:=Aside0.mk (Kd.R_below (by (with_reducible repeat (first | apply Kd.R_alloc | apply Kd.R_drewN | apply Kd.R_drew));exact HO129.out) hb);have n3_:=Aside0.mk (Kd.R_elder' (by (with_reducible repeat (first | apply Kd.R_alloc | apply Kd.R_drewN | apply Kd.R_drew));exact HO133.out) (Kd.R_base ho0) hb);have n4_:=Aside0.mk (Kd.R_below (by (with_reducible repeat (first | apply Kd.R_alloc | apply Kd.R_drewN | apply Kd.R_drew));exact HO136.out) hb);have n5_:=Aside0.mk (Kd.R_elder' (by (with_reducible repeat (first | apply Kd.R_alloc | apply Kd.R_drewN | apply Kd.R_drew));exact HO140.out) (Kd.R_base ho0) hb);have n6_:=Aside0.mk (Kd.R_below (by (with_reducible repeat (first | apply Kd.R_alloc | apply Kd.R_drewN | apply Kd.R_drew));exact HO143.out) hb);have n7_:=Aside0.mk (Kd.R_below (by (with_reducible repeat (first | apply Kd.R_alloc | apply Kd.R_drewN | apply Kd.R_drew));exact HO149.out) hb);have n8_:=Aside0.mk (Kd.R_below (by (with_reducible repeat (first | apply Kd.R_alloc | apply Kd.R_drewN | apply Kd.R_drew));exact HO155.out) hb);have n9_:=Aside0.mk (Kd.R_below (by (with_reducible repeat (first | apply Kd.R_alloc | apply Kd.R_drewN | apply Kd.R_drew));exact HO163.out) hb);have n10_:=Aside0.mk (Kd.R_below (by (with_reducible repeat (first | apply Kd.R_alloc | apply Kd.R_drewN | apply Kd.R_drew));exact HO166.out) hb);have n11_:=Aside0.mk (Kd.R_lower (Kd.R_new' (Kd.R_new' ho0 (Kd.R_lt (by (with_reducible repeat (first | apply Kd.R_alloc | apply Kd.R_drewN | apply Kd.R_drew));exact HO133.out))) (Kd.R_lt (by (with_reducible repeat (first | apply Kd.R_alloc | apply Kd.R_drewN | apply Kd.R_drew));exact HO140.out))) (below_size (by repeat (first | (with_reducible first | exact HB.out | apply below_alloc | apply pw_below_drewN | apply below_drew1) | exact HB.out))));have n12_:=Aside0.mk (Kd.C_below (by repeat (first | (with_reducible exact HR159.out) | (with_reducible refine Kd.C_alloc ?_ _) | (with_reducible refine Kd.C_drewN ?_ _) | (with_reducible refine Kd.C_drew ?_) | exact HR159.out)) hb);have n13_:=Aside0.mk (Kd.C_below (by repeat (first | (with_reducible exact HR170.out) | (with_reducible refine Kd.C_alloc ?_ _) | (with_reducible refine Kd.C_drewN ?_ _) | (with_reducible refine Kd.C_drew ?_) | exact HR170.out)) hb);have n14_:=Aside0.mk (below_step (by repeat (first | (with_reducible first | exact HB.out | apply below_alloc | apply pw_below_drewN | apply below_drew1) | exact HB.out)) hb);clear HO122;clear HO126;clear HO129;clear HO133;clear HO136;clear HO140;clear HO143;clear HO149;clear HO155;clear HO163;clear HO166;clear HR159;clear HR170;clear HB;have HO122:=n0_;have HO126:=n1_;have HO129:=n2_;have HO133:=n3_;have HO136:=n4_;have HO140:=n5_;have HO143:=n6_;have HO149:=n7_;have HO155:=n8_;have HO163:=n9_;have HO166:=n10_;have HO174:=n11_;have HR159:=n12_;have HR170:=n13_;have HB:=n14_;clear n0_ n1_ n2_ n3_ n4_ n5_ n6_ n7_ n8_ n9_ n10_ n11_ n12_ n13_ n14_;(try clear hb);(try clear hb2);(try clear hk);(try clear hi);(try clear ho0)) | ((with_reducible refine gate_callee (f:=37) rfl ?_);refine goesL_ (some 59) rfl rfl Try.func37 (by kernel_rfl) rfl #[] rfl (by (try simp only [List.map_toArray,List.map_cons,List.map_nil]);first | done | rfl | (simp only [List.length_drop,List.length_take];rfl)) ?_;(with_reducible refine (metrolablaw53_Seven.calls  t175 _ A17.out).mono ?_);rintro e w44 ⟨v176,rfl,ho0,hb⟩;refine ⟨_,rfl,?_⟩;have n0_:=Aside0.mk (Kd.R_elder' (by (with_reducible repeat (first | apply Kd.R_alloc | apply Kd.R_drewN | apply Kd.R_drew));exact HO122.out) (Kd.R_base ho0) hb);have n1_:=Aside0.mk (Kd.R_below (by (with_reducible repeat (first | apply Kd.R_alloc | apply Kd.R_drewN | apply Kd.R_drew));exact HO126.out) hb);have n2_:=Aside0.mk (Kd.R_elder' (by (with_reducible repeat (first | apply Kd.R_alloc | apply Kd.R_drewN | apply Kd.R_drew));exact HO129.out) (Kd.R_base ho0) hb);have n3_:=Aside0.mk (Kd.R_below (by (with_reducible repeat (first | apply Kd.R_alloc | apply Kd.R_drewN | apply Kd.R_drew));exact HO133.out) hb);have n4_:=Aside0.mk (Kd.R_elder' (by (with_reducible repeat (first | apply Kd.R_alloc | apply Kd.R_drewN | apply Kd.R_drew));exact HO136.out) (Kd.R_base ho0) hb);have n5_:=Aside0.mk (Kd.R_below (by (with_reducible repeat (first | apply Kd.R_alloc | apply Kd.R_drewN | apply Kd.R_drew));exact HO140.out) hb);have n6_:=Aside0.mk (Kd.R_elder' (by (with_reducible repeat (first | apply Kd.R_alloc | apply Kd.R_drewN | apply Kd.R_drew));exact HO143.out) (Kd.R_base ho0) hb);have n7_:=Aside0.mk (Kd.R_elder' (by (with_reducible repeat (first | apply Kd.R_alloc | apply Kd.R_drewN | apply Kd.R_drew));exact HO149.out) (Kd.R_base ho0) hb);have n8_:=Aside0.mk (Kd.R_elder' (by (with_reducible repeat (first | apply Kd.R_alloc | apply Kd.R_drewN | apply Kd.R_drew));exact HO155.out) (Kd.R_base ho0) hb);have n9_:=Aside0.mk (Kd.R_below (by (with_reducible repeat (first | apply Kd.R_alloc | apply Kd.R_drewN | apply Kd.R_drew));exact HO163.out) hb);have n10_:=Aside0.mk (Kd.R_elder' (by (with_reducible repeat (first | apply Kd.R_alloc | apply Kd.R_drewN | apply Kd.R_drew));exact HO166.out) (Kd.R_base ho0) hb);have n11_:=Aside0.mk (Kd.R_below (by (with_reducible repeat (first | apply Kd.R_alloc | apply Kd.R_drewN | apply Kd.R_drew));exact HO174.out) hb);have n12_:=Aside0.mk (Kd.R_lower (Kd.R_new' (Kd.R_new' (Kd.R_new' (Kd.R_new' (Kd.R_new' (Kd.R_new' (Kd.R_new' ho0 (Kd.R_lt (by (with_reducible repeat (first | apply Kd.R_alloc | apply Kd.R_drewN | apply Kd.R_drew));exact HO122.out))) (Kd.R_lt (by (with_reducible repeat (first | apply Kd.R_alloc | apply Kd.R_drewN | apply Kd.R_drew));exact HO129.out))) (Kd.R_lt (by (with_reducible repeat (first | apply Kd.R_alloc | apply Kd.R_drewN | apply Kd.R_drew));exact HO136.out))) (Kd.R_lt (by (with_reducible repeat (first | apply Kd.R_alloc | apply Kd.R_drewN | apply Kd.R_drew));exact HO143.out))) (Kd.R_lt (by (with_reducible repeat (first | apply Kd.R_alloc | apply Kd.R_drewN | apply Kd.R_drew));exact HO149.out))) (Kd.R_lt (by (with_reducible repeat (first | apply Kd.R_alloc | apply Kd.R_drewN | apply Kd.R_drew));exact HO155.out))) (Kd.R_lt (by (with_reducible repeat (first | apply Kd.R_alloc | apply Kd.R_drewN | apply Kd.R_drew));exact HO166.out))) (below_size (by repeat (first | (with_reducible first | exact HB.out | apply below_alloc | apply pw_below_drewN | apply below_drew1) | exact HB.out))));have n13_:=Aside0.mk (Kd.C_below (by repeat (first | (with_reducible exact HR159.out) | (with_reducible refine Kd.C_alloc ?_ _) | (with_reducible refine Kd.C_drewN ?_ _) | (with_reducible refine Kd.C_drew ?_) | exact HR159.out)) hb);have n14_:=Aside0.mk (Kd.C_below (by repeat (first | (with_reducible exact HR170.out) | (with_reducible refine Kd.C_alloc ?_ _) | (with_reducible refine Kd.C_drewN ?_ _) | (with_reducible refine Kd.C_drew ?_) | exact HR170.out)) hb);have n15_:=Aside0.mk (below_step (by repeat (first | (with_reducible first | exact HB.out | apply below_alloc | apply pw_below_drewN | apply below_drew1) | exact HB.out)) hb);clear HO122;clear HO126;clear HO129;clear HO133;clear HO136;clear HO140;clear HO143;clear HO149;clear HO155;clear HO163;clear HO166;clear HO174;clear HR159;clear HR170;clear HB;have HO122:=n0_;have HO126:=n1_;have HO129:=n2_;have HO133:=n3_;have HO136:=n4_;have HO140:=n5_;have HO143:=n6_;have HO149:=n7_;have HO155:=n8_;have HO163:=n9_;have HO166:=n10_;have HO174:=n11_;have HO177:=n12_;have HR159:=n13_;have HR170:=n14_;have HB:=n15_;clear n0_ n1_ n2_ n3_ n4_ n5_ n6_ n7_ n8_ n9_ n10_ n11_ n12_ n13_ n14_ n15_;(try clear hb);(try clear hb2);(try clear hk);(try clear hi);(try clear ho0);obtain ⟨Ao46,co46,eo46⟩:=Kd.R_slice HO177.out;subst eo46;have q45 : (6 : Int) ≤ ((t175.length : Int) : Int):=of_decide_eq_true (by first | (with_reducible assumption) | assumption);obtain ⟨i045,hi045,_,hsz45,_⟩:=info_parts info51;have hroom45 : t175.length ≤ co46:=(Kd.R_reads' HO177.out).2.1;have hC45 : Kd.C k51 _ Ao46 t175.length t175:=(Kd.R_reads' HO177.out).2.2;have hcut45:=cut_to (P:=Try.prog) 22 51 .i64 Try.underlying22 hi045 Ao46 t175.length co46 6 (by omega) q45 hroom45;have hr45:=Kd.C_take (m:=6) hC45 (by omega);have hy45 : y178.length = (6 : Int).toNat:=(by rw [Ny178.out,List.length_take];omega);rw [← Ny178.out] at hr45;rw [← hy45] at hcut45;have HR181:=Aside0.mk hr45;have HC181:=Aside0.mk (show y178.length ≤ co46 from by omega);clear hr45 hC45 hroom45 hi045 hsz45;have KY45:=Aside0.mk hy45;clear hy45;have KL45:=Aside0.mk (show 6 ≤ t175.length from by omega);replace q45:=eq_true q45) | ((with_reducible refine gate_callee (f:=26) rfl ?_);refine goesL_ (some 61) rfl rfl Try.func26 (by kernel_rfl) rfl #[.slice Ao46 y178.length co46,.string (⟨#[104]⟩ : ByteArray)] rfl (by (try simp only [List.map_toArray,List.map_cons,List.map_nil]);first | done | rfl | (simp only [List.length_drop,List.length_take];rfl)) ?_;(with_reducible refine (recall_AtRisk.calls _ _ y178 (⟨#[104]⟩ : ByteArray) t182 t183 _ ?side1 ?side2 A19.out).mono ?_);(case side1 => repeat (first | exact (by repeat (first | (with_reducible exact HR181.out) | (with_reducible refine Kd.C_alloc ?_ _) | (with_reducible refine Kd.C_drewN ?_ _) | (with_reducible refine Kd.C_drew ?_) | exact HR181.out)) | (with_reducible refine Kd.C_alloc ?_ _) | (with_reducible refine Kd.C_drewN ?_ _) | (with_reducible refine Kd.C_drew ?_)));(case side2 => exact HC181.out);rintro e w47 ⟨v184,rfl,ho0,hb⟩;refine ⟨_,rfl,?_⟩;have n0_:=Aside0.mk (Kd.R_below (by (with_reducible repeat (first | apply Kd.R_alloc | apply Kd.R_drewN | apply Kd.R_drew));exact HO122.out) hb);have n1_:=Aside0.mk (Kd.R_below (by (with_reducible repeat (first | apply Kd.R_alloc | apply Kd.R_drewN | apply Kd.R_drew));exact HO126.out) hb);have n2_:=Aside0.mk (Kd.R_below (by (with_reducible repeat (first | apply Kd.R_alloc | apply Kd.R_drewN | apply Kd.R_drew));exact HO129.out) hb);have n3_:=Aside0.mk (Kd.R_elder' (by (with_reducible repeat (first | apply Kd.R_alloc | apply Kd.R_drewN | apply Kd.R_drew));exact HO133.out) (Kd.R_base ho0) hb);have n4_:=Aside0.mk (Kd.R_below (by (with_reducible repeat (first | apply Kd.R_alloc | apply Kd.R_drewN | apply Kd.R_drew));exact HO136.out) hb);have n5_:=Aside0.mk (Kd.R_elder' (by (with_reducible repeat (first | apply Kd.R_alloc | apply Kd.R_drewN | apply Kd.R_drew));exact HO140.out) (Kd.R_base ho0) hb);have n6_:=Aside0.mk (Kd.R_below (by (with_reducible repeat (first | apply Kd.R_alloc | apply Kd.R_drewN | apply Kd.R_drew));exact HO143.out) hb);have n7_:=Aside0.mk (Kd.R_below (by (with_reducible repeat (first | apply Kd.R_alloc | apply Kd.R_drewN | apply Kd.R_drew));exact HO149.out) hb);have n8_:=Aside0.mk (Kd.R_below (by (with_reducible repeat (first | apply Kd.R_alloc | apply Kd.R_drewN | apply Kd.R_drew));exact HO155.out) hb);have n9_:=Aside0.mk (Kd.R_below (by (with_reducible repeat (first | apply Kd.R_alloc | apply Kd.R_drewN | apply Kd.R_drew));exact HO163.out) hb);have n10_:=Aside0.mk (Kd.R_below (by (with_reducible repeat (first | apply Kd.R_alloc | apply Kd.R_drewN | apply Kd.R_drew));exact HO166.out) hb);have n11_:=Aside0.mk (Kd.R_elder' (by (with_reducible repeat (first | apply Kd.R_alloc | apply Kd.R_drewN | apply Kd.R_drew));exact HO174.out) (Kd.R_base ho0) hb);have n12_:=Aside0.mk (Kd.R_below (by (with_reducible repeat (first | apply Kd.R_alloc | apply Kd.R_drewN | apply Kd.R_drew));exact HO177.out) hb);have n13_:=Aside0.mk (Kd.R_lower (Kd.R_new' (Kd.R_new' (Kd.R_new' ho0 (Kd.R_lt (by (with_reducible repeat (first | apply Kd.R_alloc | apply Kd.R_drewN | apply Kd.R_drew));exact HO133.out))) (Kd.R_lt (by (with_reducible repeat (first | apply Kd.R_alloc | apply Kd.R_drewN | apply Kd.R_drew));exact HO140.out))) (Kd.R_lt (by (with_reducible repeat (first | apply Kd.R_alloc | apply Kd.R_drewN | apply Kd.R_drew));exact HO174.out))) (below_size (by repeat (first | (with_reducible first | exact HB.out | apply below_alloc | apply pw_below_drewN | apply below_drew1) | exact HB.out))));have n14_:=Aside0.mk (Kd.C_below (by repeat (first | (with_reducible exact HR159.out) | (with_reducible refine Kd.C_alloc ?_ _) | (with_reducible refine Kd.C_drewN ?_ _) | (with_reducible refine Kd.C_drew ?_) | exact HR159.out)) hb);have n15_:=Aside0.mk (Kd.C_below (by repeat (first | (with_reducible exact HR170.out) | (with_reducible refine Kd.C_alloc ?_ _) | (with_reducible refine Kd.C_drewN ?_ _) | (with_reducible refine Kd.C_drew ?_) | exact HR170.out)) hb);have n16_:=Aside0.mk (Kd.C_below (by repeat (first | (with_reducible exact HR181.out) | (with_reducible refine Kd.C_alloc ?_ _) | (with_reducible refine Kd.C_drewN ?_ _) | (with_reducible refine Kd.C_drew ?_) | exact HR181.out)) hb);have n17_:=Aside0.mk (below_step (by repeat (first | (with_reducible first | exact HB.out | apply below_alloc | apply pw_below_drewN | apply below_drew1) | exact HB.out)) hb);clear HO122;clear HO126;clear HO129;clear HO133;clear HO136;clear HO140;clear HO143;clear HO149;clear HO155;clear HO163;clear HO166;clear HO174;clear HO177;clear HR159;clear HR170;clear HR181;clear HB;have HO122:=n0_;have HO126:=n1_;have HO129:=n2_;have HO133:=n3_;have HO136:=n4_;have HO140:=n5_;have HO143:=n6_;have HO149:=n7_;have HO155:=n8_;have HO163:=n9_;have HO166:=n10_;have HO174:=n11_;have HO177:=n12_;have HO185:=n13_;have HR159:=n14_;have HR170:=n15_;have HR181:=n16_;have HB:=n17_;clear n0_ n1_ n2_ n3_ n4_ n5_ n6_ n7_ n8_ n9_ n10_ n11_ n12_ n13_ n14_ n15_ n16_ n17_;(try clear hb);(try clear hb2);(try clear hk);(try clear hi);(try clear ho0)))
 (try simp only [Act.put,List.setIfInBounds_toArray,List.set_cons_zero,List.set_cons_succ])
 go_cut [100] (fun v100 wc => v100 = .bool false ∧ Aside0 (Kd.R (Kd.int .i64) 3 wc w.heap.size (fun _ => True) v125 t123) ∧ Aside0 (Kd.R Kd.string 9 wc w.heap.size (fun k_ => some k_ ≠ (v139 : Value).ownBlock ∧ some k_ ≠ (v173 : Value).ownBlock ∧ some k_ ≠ (v184 : Value).ownBlock) v132 t130) ∧ Aside0 (Kd.R Kd.string 9 wc w.heap.size (fun k_ => some k_ ≠ (v132 : Value).ownBlock ∧ some k_ ≠ (v173 : Value).ownBlock ∧ some k_ ≠ (v184 : Value).ownBlock) v139 t137) ∧ Aside0 (Kd.R Kd.string 9 wc w.heap.size (fun k_ => some k_ ≠ (v132 : Value).ownBlock ∧ some k_ ≠ (v139 : Value).ownBlock ∧ some k_ ≠ (v184 : Value).ownBlock) v173 t171) ∧ Aside0 (Kd.R Kd.string 9 wc w.heap.size (fun k_ => some k_ ≠ (v132 : Value).ownBlock ∧ some k_ ≠ (v139 : Value).ownBlock ∧ some k_ ≠ (v173 : Value).ownBlock) v184 t182) ∧ Aside0 (Kd.C k51 wc Ao38 y156.length y156) ∧ Aside0 (Kd.C k51 wc Ao42 y167.length y167) ∧ Aside0 (Kd.C k51 wc Ao46 y178.length y178) ∧ Aside0 (Below w.heap.size w wc))
 case first =>
  (first | rw [c48b0] | (simp only [i64_w,i32_w];rw [c48b0]) | skip)
  obtain ⟨Ao54,co54,eo54⟩:=Kd.R_slice HO163.out
  subst eo54
  have p186 : 0 ≤ (1 : Int):=(by omega)
  have q186 : 1 < (t160.length : Int):=c53
  obtain ⟨ad186,e186,hx186_0⟩:=Kd.at_int (Kd.R_reads' HO163.out).2.2 1 p186 q186
  cases e186
  (try simp only [show (1 : Int).toNat = 1 from rfl,Nat.reduceMul,Nat.reduceEqDiff,Go.Addr.add,↓reduceIte] at hx186_0)
  have qi186 : (1 < t160.length) = True:=eq_true (by omega)
  (try rw [show ((1 : Int)).toNat = 1 from rfl] at hx186_0)
  replace p186:=eq_true p186
  replace q186:=eq_true q186
  clear c53
  go_wp2
  go_meet
  case rel => exact ⟨(by first | rfl | (rw [c54b0]) | (simp;done) | (simp [*];done)),⟨by (with_reducible repeat (first | apply Kd.R_alloc | apply Kd.R_drewN | apply Kd.R_drew));exact Kd.R_mono HO126.out (fun _ hk => trivial)⟩,⟨by (with_reducible repeat (first | apply Kd.R_alloc | apply Kd.R_drewN | apply Kd.R_drew));exact Kd.R_mono HO133.out (fun _ hk => ⟨hk.1.1.2,⟨hk.1.2,hk.2⟩⟩)⟩,⟨by (with_reducible repeat (first | apply Kd.R_alloc | apply Kd.R_drewN | apply Kd.R_drew));exact Kd.R_mono HO140.out (fun _ hk => ⟨hk.1.1.2,⟨hk.1.2,hk.2⟩⟩)⟩,⟨by (with_reducible repeat (first | apply Kd.R_alloc | apply Kd.R_drewN | apply Kd.R_drew));exact Kd.R_mono HO174.out (fun _ hk => ⟨hk.1.1.2,⟨hk.1.2,hk.2⟩⟩)⟩,⟨by (with_reducible repeat (first | apply Kd.R_alloc | apply Kd.R_drewN | apply Kd.R_drew));exact Kd.R_mono HO185.out (fun _ hk => ⟨hk.1.1.2,⟨hk.1.2,hk.2⟩⟩)⟩,⟨by repeat (first | (with_reducible exact HR159.out) | (with_reducible refine Kd.C_alloc ?_ _) | (with_reducible refine Kd.C_drewN ?_ _) | (with_reducible refine Kd.C_drew ?_) | exact HR159.out)⟩,⟨by repeat (first | (with_reducible exact HR170.out) | (with_reducible refine Kd.C_alloc ?_ _) | (with_reducible refine Kd.C_drewN ?_ _) | (with_reducible refine Kd.C_drew ?_) | exact HR170.out)⟩,⟨by repeat (first | (with_reducible exact HR181.out) | (with_reducible refine Kd.C_alloc ?_ _) | (with_reducible refine Kd.C_drewN ?_ _) | (with_reducible refine Kd.C_drew ?_) | exact HR181.out)⟩,⟨by repeat (first | (with_reducible first | exact HB.out | apply below_alloc | apply pw_below_drewN | apply below_drew1) | exact HB.out)⟩⟩
 case rest =>
  obtain ⟨rfl,HO_1,HO_3,HO_5,HO_15,HO_17,HR159,HR170,HR181,HB⟩:=hcut
  try clear c1
  try clear c10
  try clear c11
  try clear c12
  try clear c12b0
  try clear c12b1
  try clear c14
  try clear c15
  try clear c15b0
  try clear c15b1
  try clear c18
  try clear c18b0
  try clear c18b1
  try clear c2
  try clear c20
  try clear c22
  try clear c24
  try clear c26
  try clear c3
  try clear c37
  try clear c4
  try clear c48
  try clear c48b0
  try clear c48b1
  try clear c49
  try clear c49b0
  try clear c49b1
  try clear c5
  try clear c50
  try clear c50b0
  try clear c50b1
  try clear c51
  try clear c51b0
  try clear c51b1
  try clear c52
  try clear c52b0
  try clear c52b1
  try clear c53
  try clear c53b0
  try clear c53b1
  try clear hx1
  try clear hx18
  try clear hx186_0
  try clear p1
  try clear p18
  try clear p186
  try clear p2
  try clear p6
  try clear q1
  try clear q18
  try clear q186
  try clear q3
  try clear q37
  try clear q4
  try clear q41
  try clear q45
  try clear qi1
  try clear qi18
  go_wp2_with (first | ((with_reducible refine gate_dst (N:=102) rfl ?_);(try refine wpList_unguard rfl rfl ?_);refine Kd.R_lit (Kd.int .i64) _ 3 ?hg (N:=102) ?hd (xs:=([2,3,0,3,3,0,0] : List Int)) (inner:=[.int .i64 2,.int .i64 3,.int .i64 0,.int .i64 3,.int .i64 3,.int .i64 0,.int .i64 0]) (ok:=fun _ => True) (okp:=fun _ => True) ?hr ?hp (fun _ hk => hk) trivial (Below.refl _ _) (Nat.le_refl _) (by simp) ?_;(case hd => rfl);(case hg => rfl);(case hr => first | (go_simp;done) | (go_simp;rfl));(case hp => exact (Reps.one (show Kd.M (Kd.int .i64) _ _ _ 2 [.int .i64 2] from rfl) (Reps.one (show Kd.M (Kd.int .i64) _ _ _ 3 [.int .i64 3] from rfl) (Reps.one (show Kd.M (Kd.int .i64) _ _ _ 0 [.int .i64 0] from rfl) (Reps.one (show Kd.M (Kd.int .i64) _ _ _ 3 [.int .i64 3] from rfl) (Reps.one (show Kd.M (Kd.int .i64) _ _ _ 3 [.int .i64 3] from rfl) (Reps.one (show Kd.M (Kd.int .i64) _ _ _ 0 [.int .i64 0] from rfl) (Reps.one (show Kd.M (Kd.int .i64) _ _ _ 0 [.int .i64 0] from rfl) (Reps.none _ _)))))))));intro v188 w66 ho67 hb hg_ hnew_;clear hg_ hnew_;(first | rw [← Ny187.out] at ho67 | (simp only [Int.reduceToNat] at ho67;rw [← Ny187.out] at ho67));have n0_:=Aside0.mk (Kd.R_elder' (by (with_reducible repeat (first | apply Kd.R_alloc | apply Kd.R_drewN | apply Kd.R_drew));exact HO_1.out) (Kd.R_base ho67) hb);have n1_:=Aside0.mk (Kd.R_below (by (with_reducible repeat (first | apply Kd.R_alloc | apply Kd.R_drewN | apply Kd.R_drew));exact HO_3.out) hb);have n2_:=Aside0.mk (Kd.R_below (by (with_reducible repeat (first | apply Kd.R_alloc | apply Kd.R_drewN | apply Kd.R_drew));exact HO_5.out) hb);have n3_:=Aside0.mk (Kd.R_below (by (with_reducible repeat (first | apply Kd.R_alloc | apply Kd.R_drewN | apply Kd.R_drew));exact HO_15.out) hb);have n4_:=Aside0.mk (Kd.R_below (by (with_reducible repeat (first | apply Kd.R_alloc | apply Kd.R_drewN | apply Kd.R_drew));exact HO_17.out) hb);have n5_:=Aside0.mk (Kd.R_lower (Kd.R_new' ho67 (Kd.R_lt (by (with_reducible repeat (first | apply Kd.R_alloc | apply Kd.R_drewN | apply Kd.R_drew));exact HO_1.out))) (below_size (by repeat (first | (with_reducible first | exact HB.out | apply below_alloc | apply pw_below_drewN | apply below_drew1) | exact HB.out))));have n6_:=HR159;have n7_:=HR170;have n8_:=HR181;have n9_:=Aside0.mk (below_step (by repeat (first | (with_reducible first | exact HB.out | apply below_alloc | apply pw_below_drewN | apply below_drew1) | exact HB.out)) hb);clear HO_1;clear HO_3;clear HO_5;clear HO_15;clear HO_17;clear HR159;clear HR170;clear HR181;clear HB;have HO_1:=n0_;have HO_3:=n1_;have HO_5:=n2_;have HO_15:=n3_;have HO_17:=n4_;have HO189:=n5_;have HR159:=n6_;have HR170:=n7_;have HR181:=n8_;have HB:=n9_;clear n0_ n1_ n2_ n3_ n4_ n5_ n6_ n7_ n8_ n9_;clear hb ho67;obtain ⟨Ao68,co68,eo68⟩:=Kd.R_slice HO_1.out;subst eo68;obtain ⟨Ao69,co69,eo69⟩:=Kd.R_slice HO189.out;subst eo69) | ((with_reducible refine gate_callee (f:=18) rfl ?_);refine goesL_ (some 103) rfl rfl Try.func18 (by kernel_rfl) rfl #[.slice Ao68 t123.length co68,.slice Ao69 y187.length co69] rfl (by (try simp only [List.map_toArray,List.map_cons,List.map_nil]);first | done | rfl | (simp only [List.length_drop,List.length_take];rfl)) ?_;(with_reducible refine (slices_Equal_int_int.calls 10 _ _ t123 _ _ y187 true _ ?side1 ?side2 ?side3 ?side4 A57.out).mono ?_);(case side1 => repeat (first | exact (Kd.R_reads' HO_1.out).2.2 | (with_reducible refine Kd.C_alloc ?_ _) | (with_reducible refine Kd.C_drewN ?_ _) | (with_reducible refine Kd.C_drew ?_)));(case side2 => exact (Kd.R_reads' HO_1.out).2.1);(case side3 => repeat (first | exact (Kd.R_reads' HO189.out).2.2 | (with_reducible refine Kd.C_alloc ?_ _) | (with_reducible refine Kd.C_drewN ?_ _) | (with_reducible refine Kd.C_drew ?_)));(case side4 => exact (Kd.R_reads' HO189.out).2.1);rintro e w' ⟨rfl,⟨nd,rfl⟩⟩;refine ⟨_,rfl,?_⟩) | ((with_reducible refine gate_dst (N:=108) rfl ?_);(try refine wpList_unguard rfl rfl ?_);refine Kd.R_lit Kd.string _ 9 ?hg (N:=108) ?hd (xs:=([(⟨#[112,50]⟩ : ByteArray),(⟨#[112,51]⟩ : ByteArray)] : List ByteArray)) (inner:=[.string (⟨#[112,50]⟩ : ByteArray),.string (⟨#[112,51]⟩ : ByteArray)]) (ok:=fun _ => True) (okp:=fun _ => True) ?hr ?hp (fun _ hk => hk) trivial (Below.refl _ _) (Nat.le_refl _) (by simp) ?_;(case hd => rfl);(case hg => rfl);(case hr => first | (go_simp;done) | (go_simp;rfl));(case hp => exact (Reps.one (show Kd.M Kd.string _ _ _ (⟨#[112,50]⟩ : ByteArray) [.string (⟨#[112,50]⟩ : ByteArray)] from rfl) (Reps.one (show Kd.M Kd.string _ _ _ (⟨#[112,51]⟩ : ByteArray) [.string (⟨#[112,51]⟩ : ByteArray)] from rfl) (Reps.none _ _))));intro v192 w70 ho71 hb hg_ hnew_;clear hg_ hnew_;(first | rw [← Ny191.out] at ho71 | (simp only [Int.reduceToNat] at ho71;rw [← Ny191.out] at ho71));have n0_:=Aside0.mk (Kd.R_below (by (with_reducible repeat (first | apply Kd.R_alloc | apply Kd.R_drewN | apply Kd.R_drew));exact HO_1.out) hb);have n1_:=Aside0.mk (Kd.R_elder' (by (with_reducible repeat (first | apply Kd.R_alloc | apply Kd.R_drewN | apply Kd.R_drew));exact HO_3.out) (Kd.R_base ho71) hb);have n2_:=Aside0.mk (Kd.R_elder' (by (with_reducible repeat (first | apply Kd.R_alloc | apply Kd.R_drewN | apply Kd.R_drew));exact HO_5.out) (Kd.R_base ho71) hb);have n3_:=Aside0.mk (Kd.R_elder' (by (with_reducible repeat (first | apply Kd.R_alloc | apply Kd.R_drewN | apply Kd.R_drew));exact HO_15.out) (Kd.R_base ho71) hb);have n4_:=Aside0.mk (Kd.R_elder' (by (with_reducible repeat (first | apply Kd.R_alloc | apply Kd.R_drewN | apply Kd.R_drew));exact HO_17.out) (Kd.R_base ho71) hb);have n5_:=Aside0.mk (Kd.R_below (by (with_reducible repeat (first | apply Kd.R_alloc | apply Kd.R_drewN | apply Kd.R_drew));exact HO189.out) hb);have n6_:=Aside0.mk (Kd.R_lower (Kd.R_new' (Kd.R_new' (Kd.R_new' (Kd.R_new' ho71 (Kd.R_lt (by (with_reducible repeat (first | apply Kd.R_alloc | apply Kd.R_drewN | apply Kd.R_drew));exact HO_3.out))) (Kd.R_lt (by (with_reducible repeat (first | apply Kd.R_alloc | apply Kd.R_drewN | apply Kd.R_drew));exact HO_5.out))) (Kd.R_lt (by (with_reducible repeat (first | apply Kd.R_alloc | apply Kd.R_drewN | apply Kd.R_drew));exact HO_15.out))) (Kd.R_lt (by (with_reducible repeat (first | apply Kd.R_alloc | apply Kd.R_drewN | apply Kd.R_drew));exact HO_17.out))) (below_size (by repeat (first | (with_reducible first | exact HB.out | apply below_alloc | apply pw_below_drewN | apply below_drew1) | exact HB.out))));have n7_:=HR159;have n8_:=HR170;have n9_:=HR181;have n10_:=Aside0.mk (below_step (by repeat (first | (with_reducible first | exact HB.out | apply below_alloc | apply pw_below_drewN | apply below_drew1) | exact HB.out)) hb);clear HO_1;clear HO_3;clear HO_5;clear HO_15;clear HO_17;clear HO189;clear HR159;clear HR170;clear HR181;clear HB;have HO_1:=n0_;have HO_3:=n1_;have HO_5:=n2_;have HO_15:=n3_;have HO_17:=n4_;have HO189:=n5_;have HO193:=n6_;have HR159:=n7_;have HR170:=n8_;have HR181:=n9_;have HB:=n10_;clear n0_ n1_ n2_ n3_ n4_ n5_ n6_ n7_ n8_ n9_ n10_;clear hb ho71;obtain ⟨Ao72,co72,eo72⟩:=Kd.R_slice HO_3.out;subst eo72;obtain ⟨Ao73,co73,eo73⟩:=Kd.R_slice HO193.out;subst eo73) | (go_at_call 19;(with_reducible refine (slices_Equal_string_string.calls 10 _ _ t130 _ _ y191 true _ ?side1 ?side2 ?side3 ?side4 A59.out).mono ?_);(case side1 => repeat (first | exact (Kd.R_reads' HO_3.out).2.2 | (with_reducible refine Kd.C_alloc ?_ _) | (with_reducible refine Kd.C_drewN ?_ _) | (with_reducible refine Kd.C_drew ?_)));(case side2 => exact (Kd.R_reads' HO_3.out).2.1);(case side3 => repeat (first | exact (Kd.R_reads' HO193.out).2.2 | (with_reducible refine Kd.C_alloc ?_ _) | (with_reducible refine Kd.C_drewN ?_ _) | (with_reducible refine Kd.C_drew ?_)));(case side4 => exact (Kd.R_reads' HO193.out).2.1);rintro e w' ⟨rfl,⟨nd,rfl⟩⟩) | ((with_reducible refine gate_dst (N:=113) rfl ?_);(try refine wpList_unguard rfl rfl ?_);refine Kd.R_lit Kd.string _ 9 ?hg (N:=113) ?hd (xs:=([(⟨#[88]⟩ : ByteArray),(⟨#[89]⟩ : ByteArray)] : List ByteArray)) (inner:=[.string (⟨#[88]⟩ : ByteArray),.string (⟨#[89]⟩ : ByteArray)]) (ok:=fun _ => True) (okp:=fun _ => True) ?hr ?hp (fun _ hk => hk) trivial (Below.refl _ _) (Nat.le_refl _) (by simp) ?_;(case hd => rfl);(case hg => rfl);(case hr => first | (go_simp;done) | (go_simp;rfl));(case hp => exact (Reps.one (show Kd.M Kd.string _ _ _ (⟨#[88]⟩ : ByteArray) [.string (⟨#[88]⟩ : ByteArray)] from rfl) (Reps.one (show Kd.M Kd.string _ _ _ (⟨#[89]⟩ : ByteArray) [.string (⟨#[89]⟩ : ByteArray)] from rfl) (Reps.none _ _))));intro v196 w74 ho75 hb hg_ hnew_;clear hg_ hnew_;(first | rw [← Ny195.out] at ho75 | (simp only [Int.reduceToNat] at ho75;rw [← Ny195.out] at ho75));have n0_:=Aside0.mk (Kd.R_below (by (with_reducible repeat (first | apply Kd.R_alloc | apply Kd.R_drewN | apply Kd.R_drew));exact HO_1.out) hb);have n1_:=Aside0.mk (Kd.R_elder' (by (with_reducible repeat (first | apply Kd.R_alloc | apply Kd.R_drewN | apply Kd.R_drew));exact HO_3.out) (Kd.R_base ho75) hb);have n2_:=Aside0.mk (Kd.R_elder' (by (with_reducible repeat (first | apply Kd.R_alloc | apply Kd.R_drewN | apply Kd.R_drew));exact HO_5.out) (Kd.R_base ho75) hb);have n3_:=Aside0.mk (Kd.R_elder' (by (with_reducible repeat (first | apply Kd.R_alloc | apply Kd.R_drewN | apply Kd.R_drew));exact HO_15.out) (Kd.R_base ho75) hb);have n4_:=Aside0.mk (Kd.R_elder' (by (with_reducible repeat (first | apply Kd.R_alloc | apply Kd.R_drewN | apply Kd.R_drew));exact HO_17.out) (Kd.R_base ho75) hb);have n5_:=Aside0.mk (Kd.R_below (by (with_reducible repeat (first | apply Kd.R_alloc | apply Kd.R_drewN | apply Kd.R_drew));exact HO189.out) hb);have n6_:=Aside0.mk (Kd.R_elder' (by (with_reducible repeat (first | apply Kd.R_alloc | apply Kd.R_drewN | apply Kd.R_drew));exact HO193.out) (Kd.R_base ho75) hb);have n7_:=Aside0.mk (Kd.R_lower (Kd.R_new' (Kd.R_new' (Kd.R_new' (Kd.R_new' (Kd.R_new' ho75 (Kd.R_lt (by (with_reducible repeat (first | apply Kd.R_alloc | apply Kd.R_drewN | apply Kd.R_drew));exact HO_3.out))) (Kd.R_lt (by (with_reducible repeat (first | apply Kd.R_alloc | apply Kd.R_drewN | apply Kd.R_drew));exact HO_5.out))) (Kd.R_lt (by (with_reducible repeat (first | apply Kd.R_alloc | apply Kd.R_drewN | apply Kd.R_drew));exact HO_15.out))) (Kd.R_lt (by (with_reducible repeat (first | apply Kd.R_alloc | apply Kd.R_drewN | apply Kd.R_drew));exact HO_17.out))) (Kd.R_lt (by (with_reducible repeat (first | apply Kd.R_alloc | apply Kd.R_drewN | apply Kd.R_drew));exact HO193.out))) (below_size (by repeat (first | (with_reducible first | exact HB.out | apply below_alloc | apply pw_below_drewN | apply below_drew1) | exact HB.out))));have n8_:=HR159;have n9_:=HR170;have n10_:=HR181;have n11_:=Aside0.mk (below_step (by repeat (first | (with_reducible first | exact HB.out | apply below_alloc | apply pw_below_drewN | apply below_drew1) | exact HB.out)) hb);clear HO_1;clear HO_3;clear HO_5;clear HO_15;clear HO_17;clear HO189;clear HO193;clear HR159;clear HR170;clear HR181;clear HB;have HO_1:=n0_;have HO_3:=n1_;have HO_5:=n2_;have HO_15:=n3_;have HO_17:=n4_;have HO189:=n5_;have HO193:=n6_;have HO197:=n7_;have HR159:=n8_;have HR170:=n9_;have HR181:=n10_;have HB:=n11_;clear n0_ n1_ n2_ n3_ n4_ n5_ n6_ n7_ n8_ n9_ n10_ n11_;clear hb ho75;obtain ⟨Ao76,co76,eo76⟩:=Kd.R_slice HO_5.out;subst eo76;obtain ⟨Ao77,co77,eo77⟩:=Kd.R_slice HO197.out;subst eo77) | (go_at_call 19;(with_reducible refine (slices_Equal_string_string.calls 10 _ _ t137 _ _ y195 true _ ?side1 ?side2 ?side3 ?side4 A61.out).mono ?_);(case side1 => repeat (first | exact (Kd.R_reads' HO_5.out).2.2 | (with_reducible refine Kd.C_alloc ?_ _) | (with_reducible refine Kd.C_drewN ?_ _) | (with_reducible refine Kd.C_drew ?_)));(case side2 => exact (Kd.R_reads' HO_5.out).2.1);(case side3 => repeat (first | exact (Kd.R_reads' HO197.out).2.2 | (with_reducible refine Kd.C_alloc ?_ _) | (with_reducible refine Kd.C_drewN ?_ _) | (with_reducible refine Kd.C_drew ?_)));(case side4 => exact (Kd.R_reads' HO197.out).2.1);rintro e w' ⟨rfl,⟨nd,rfl⟩⟩) | ((with_reducible refine gate_dst (N:=118) rfl ?_);(try refine wpList_unguard rfl rfl ?_);refine Kd.R_lit Kd.string _ 9 ?hg (N:=118) ?hd (xs:=([(⟨#[104]⟩ : ByteArray)] : List ByteArray)) (inner:=[.string (⟨#[104]⟩ : ByteArray)]) (ok:=fun _ => True) (okp:=fun _ => True) ?hr ?hp (fun _ hk => hk) trivial (Below.refl _ _) (Nat.le_refl _) (by simp) ?_;(case hd => rfl);(case hg => rfl);(case hr => first | (go_simp;done) | (go_simp;rfl));(case hp => exact (Reps.one (show Kd.M Kd.string _ _ _ (⟨#[104]⟩ : ByteArray) [.string (⟨#[104]⟩ : ByteArray)] from rfl) (Reps.none _ _)));intro v200 w78 ho79 hb hg_ hnew_;clear hg_ hnew_;(first | rw [← Ny199.out] at ho79 | (simp only [Int.reduceToNat] at ho79;rw [← Ny199.out] at ho79));have n0_:=Aside0.mk (Kd.R_below (by (with_reducible repeat (first | apply Kd.R_alloc | apply Kd.R_drewN | apply Kd.R_drew));exact HO_1.out) hb);have n1_:=Aside0.mk (Kd.R_elder' (by (with_reducible repeat (first | apply Kd.R_alloc | apply Kd.R_drewN | apply Kd.R_drew));exact HO_3.out) (Kd.R_base ho79) hb);have n2_:=Aside0.mk (Kd.R_elder' (by (with_reducible repeat (first | apply Kd.R_alloc | apply Kd.R_drewN | apply Kd.R_drew));exact HO_5.out) (Kd.R_base ho79) hb);have n3_:=Aside0.mk (Kd.R_elder' (by (with_reducible repeat (first | apply Kd.R_alloc | apply Kd.R_drewN | apply Kd.R_drew));exact HO_15.out) (Kd.R_base ho79) hb);have n4_:=Aside0.mk (Kd.R_elder' (by (with_reducible repeat (first | apply Kd.R_alloc | apply Kd.R_drewN | apply Kd.R_drew));exact HO_17.out) (Kd.R_base ho79) hb);have n5_:=Aside0.mk (Kd.R_below (by (with_reducible repeat (first | apply Kd.R_alloc | apply Kd.R_drewN | apply Kd.R_drew));exact HO189.out) hb);have n6_:=Aside0.mk (Kd.R_elder' (by (with_reducible repeat (first | apply Kd.R_alloc | apply Kd.R_drewN | apply Kd.R_drew));exact HO193.out) (Kd.R_base ho79) hb);have n7_:=Aside0.mk (Kd.R_elder' (by (with_reducible repeat (first | apply Kd.R_alloc | apply Kd.R_drewN | apply Kd.R_drew));exact HO197.out) (Kd.R_base ho79) hb);have n8_:=Aside0.mk (Kd.R_lower (Kd.R_new' (Kd.R_new' (Kd.R_new' (Kd.R_new' (Kd.R_new' (Kd.R_new' ho79 (Kd.R_lt (by (with_reducible repeat (first | apply Kd.R_alloc | apply Kd.R_drewN | apply Kd.R_drew));exact HO_3.out))) (Kd.R_lt (by (with_reducible repeat (first | apply Kd.R_alloc | apply Kd.R_drewN | apply Kd.R_drew));exact HO_5.out))) (Kd.R_lt (by (with_reducible repeat (first | apply Kd.R_alloc | apply Kd.R_drewN | apply Kd.R_drew));exact HO_15.out))) (Kd.R_lt (by (with_reducible repeat (first | apply Kd.R_alloc | apply Kd.R_drewN | apply Kd.R_drew));exact HO_17.out))) (Kd.R_lt (by (with_reducible repeat (first | apply Kd.R_alloc | apply Kd.R_drewN | apply Kd.R_drew));exact HO193.out))) (Kd.R_lt (by (with_reducible repeat (first | apply Kd.R_alloc | apply Kd.R_drewN | apply Kd.R_drew));exact HO197.out))) (below_size (by repeat (first | (with_reducible first | exact HB.out | apply below_alloc | apply pw_below_drewN | apply below_drew1) | exact HB.out))));have n9_:=HR159;have n10_:=HR170;have n11_:=HR181;have n12_:=Aside0.mk (below_step (by repeat (first | (with_reducible first | exact HB.out | apply below_alloc | apply pw_below_drewN | apply below_drew1) | exact HB.out)) hb);clear HO_1;clear HO_3;clear HO_5;clear HO_15;clear HO_17;clear HO189;clear HO193;clear HO197;clear HR159;clear HR170;clear HR181;clear HB;have HO_1:=n0_;have HO_3:=n1_;have HO_5:=n2_;have HO_15:=n3_;have HO_17:=n4_;have HO189:=n5_;have HO193:=n6_;have HO197:=n7_;have HO201:=n8_;have HR159:=n9_;have HR170:=n10_;have HR181:=n11_;have HB:=n12_;clear n0_ n1_ n2_ n3_ n4_ n5_ n6_ n7_ n8_ n9_ n10_ n11_ n12_;clear hb ho79;obtain ⟨Ao80,co80,eo80⟩:=Kd.R_slice HO_15.out;subst eo80;obtain ⟨Ao81,co81,eo81⟩:=Kd.R_slice HO201.out;subst eo81) | (go_at_call 19;(with_reducible refine (slices_Equal_string_string.calls 10 _ _ t171 _ _ y199 true _ ?side1 ?side2 ?side3 ?side4 A63.out).mono ?_);(case side1 => repeat (first | exact (Kd.R_reads' HO_15.out).2.2 | (with_reducible refine Kd.C_alloc ?_ _) | (with_reducible refine Kd.C_drewN ?_ _) | (with_reducible refine Kd.C_drew ?_)));(case side2 => exact (Kd.R_reads' HO_15.out).2.1);(case side3 => repeat (first | exact (Kd.R_reads' HO201.out).2.2 | (with_reducible refine Kd.C_alloc ?_ _) | (with_reducible refine Kd.C_drewN ?_ _) | (with_reducible refine Kd.C_drew ?_)));(case side4 => exact (Kd.R_reads' HO201.out).2.1);rintro e w' ⟨rfl,⟨nd,rfl⟩⟩) | ((with_reducible refine gate_dst (N:=123) rfl ?_);(try refine wpList_unguard rfl rfl ?_);refine Kd.R_lit Kd.string _ 9 ?hg (N:=123) ?hd (xs:=([(⟨#[112,50]⟩ : ByteArray)] : List ByteArray)) (inner:=[.string (⟨#[112,50]⟩ : ByteArray)]) (ok:=fun _ => True) (okp:=fun _ => True) ?hr ?hp (fun _ hk => hk) trivial (Below.refl _ _) (Nat.le_refl _) (by simp) ?_;(case hd => rfl);(case hg => rfl);(case hr => first | (go_simp;done) | (go_simp;rfl));(case hp => exact (Reps.one (show Kd.M Kd.string _ _ _ (⟨#[112,50]⟩ : ByteArray) [.string (⟨#[112,50]⟩ : ByteArray)] from rfl) (Reps.none _ _)));intro v204 w82 ho83 hb hg_ hnew_;clear hg_ hnew_;(first | rw [← Ny203.out] at ho83 | (simp only [Int.reduceToNat] at ho83;rw [← Ny203.out] at ho83));have n0_:=Aside0.mk (Kd.R_below (by (with_reducible repeat (first | apply Kd.R_alloc | apply Kd.R_drewN | apply Kd.R_drew));exact HO_1.out) hb);have n1_:=Aside0.mk (Kd.R_elder' (by (with_reducible repeat (first | apply Kd.R_alloc | apply Kd.R_drewN | apply Kd.R_drew));exact HO_3.out) (Kd.R_base ho83) hb);have n2_:=Aside0.mk (Kd.R_elder' (by (with_reducible repeat (first | apply Kd.R_alloc | apply Kd.R_drewN | apply Kd.R_drew));exact HO_5.out) (Kd.R_base ho83) hb);have n3_:=Aside0.mk (Kd.R_elder' (by (with_reducible repeat (first | apply Kd.R_alloc | apply Kd.R_drewN | apply Kd.R_drew));exact HO_15.out) (Kd.R_base ho83) hb);have n4_:=Aside0.mk (Kd.R_elder' (by (with_reducible repeat (first | apply Kd.R_alloc | apply Kd.R_drewN | apply Kd.R_drew));exact HO_17.out) (Kd.R_base ho83) hb);have n5_:=Aside0.mk (Kd.R_below (by (with_reducible repeat (first | apply Kd.R_alloc | apply Kd.R_drewN | apply Kd.R_drew));exact HO189.out) hb);have n6_:=Aside0.mk (Kd.R_elder' (by (with_reducible repeat (first | apply Kd.R_alloc | apply Kd.R_drewN | apply Kd.R_drew));exact HO193.out) (Kd.R_base ho83) hb);have n7_:=Aside0.mk (Kd.R_elder' (by (with_reducible repeat (first | apply Kd.R_alloc | apply Kd.R_drewN | apply Kd.R_drew));exact HO197.out) (Kd.R_base ho83) hb);have n8_:=Aside0.mk (Kd.R_elder' (by (with_reducible repeat (first | apply Kd.R_alloc | apply Kd.R_drewN | apply Kd.R_drew));exact HO201.out) (Kd.R_base ho83) hb);have n9_:=Aside0.mk (Kd.R_lower (Kd.R_new' (Kd.R_new' (Kd.R_new' (Kd.R_new' (Kd.R_new' (Kd.R_new' (Kd.R_new' ho83 (Kd.R_lt (by (with_reducible repeat (first | apply Kd.R_alloc | apply Kd.R_drewN | apply Kd.R_drew));exact HO_3.out))) (Kd.R_lt (by (with_reducible repeat (first | apply Kd.R_alloc | apply Kd.R_drewN | apply Kd.R_drew));exact HO_5.out))) (Kd.R_lt (by (with_reducible repeat (first | apply Kd.R_alloc | apply Kd.R_drewN | apply Kd.R_drew));exact HO_15.out))) (Kd.R_lt (by (with_reducible repeat (first | apply Kd.R_alloc | apply Kd.R_drewN | apply Kd.R_drew));exact HO_17.out))) (Kd.R_lt (by (with_reducible repeat (first | apply Kd.R_alloc | apply Kd.R_drewN | apply Kd.R_drew));exact HO193.out))) (Kd.R_lt (by (with_reducible repeat (first | apply Kd.R_alloc | apply Kd.R_drewN | apply Kd.R_drew));exact HO197.out))) (Kd.R_lt (by (with_reducible repeat (first | apply Kd.R_alloc | apply Kd.R_drewN | apply Kd.R_drew));exact HO201.out))) (below_size (by repeat (first | (with_reducible first | exact HB.out | apply below_alloc | apply pw_below_drewN | apply below_drew1) | exact HB.out))));have n10_:=HR159;have n11_:=HR170;have n12_:=HR181;have n13_:=Aside0.mk (below_step (by repeat (first | (with_reducible first | exact HB.out | apply below_alloc | apply pw_below_drewN | apply below_drew1) | exact HB.out)) hb);clear HO_1;clear HO_3;clear HO_5;clear HO_15;clear HO_17;clear HO189;clear HO193;clear HO197;clear HO201;clear HR159;clear HR170;clear HR181;clear HB;have HO_1:=n0_;have HO_3:=n1_;have HO_5:=n2_;have HO_15:=n3_;have HO_17:=n4_;have HO189:=n5_;have HO193:=n6_;have HO197:=n7_;have HO201:=n8_;have HO205:=n9_;have HR159:=n10_;have HR170:=n11_;have HR181:=n12_;have HB:=n13_;clear n0_ n1_ n2_ n3_ n4_ n5_ n6_ n7_ n8_ n9_ n10_ n11_ n12_ n13_;clear hb ho83;obtain ⟨Ao84,co84,eo84⟩:=Kd.R_slice HO_17.out;subst eo84;obtain ⟨Ao85,co85,eo85⟩:=Kd.R_slice HO205.out;subst eo85) | (go_at_call 19;(with_reducible refine (slices_Equal_string_string.calls 10 _ _ t182 _ _ y203 true _ ?side1 ?side2 ?side3 ?side4 A65.out).mono ?_);(case side1 => repeat (first | exact (Kd.R_reads' HO_17.out).2.2 | (with_reducible refine Kd.C_alloc ?_ _) | (with_reducible refine Kd.C_drewN ?_ _) | (with_reducible refine Kd.C_drew ?_)));(case side2 => exact (Kd.R_reads' HO_17.out).2.1);(case side3 => repeat (first | exact (Kd.R_reads' HO205.out).2.2 | (with_reducible refine Kd.C_alloc ?_ _) | (with_reducible refine Kd.C_drewN ?_ _) | (with_reducible refine Kd.C_drew ?_)));(case side4 => exact (Kd.R_reads' HO205.out).2.1);rintro e w' ⟨rfl,⟨nd,rfl⟩⟩))
  go_ret
  exact ⟨by first | rfl | (simp [errW_none,errW_some] <;> rfl) | (simp [*,errW_none,errW_some] <;> rfl),by repeat (first | (with_reducible first | exact HB.out | apply below_alloc | apply pw_below_drewN | apply below_drew1) | exact HB.out)⟩
end Go.Proofs.Ytnmmdeonkpfccaa.Pr
set_option linter.unusedVariables false
namespace Go.Proofs.Ytnmmdeonkpfccaa.Pr
open Go.RowKit Go.Shelf Go.Proofs.YtnmmdeonkpfccaaW.PrintWords Go.Proofs.YtnmmdeonkpfccaaW.PrintLast Go.Proofs.YtnmmdeonkpfccaaW.PrintMore
theorem reps_evs {w : World} {base : Nat} {ok : Nat → Prop} : ∀ l : List S51,Reps (k51.M w base ok) 4 l (l.flatMap evL)
 | [] => Reps.none _ _
 | x :: r => Reps.c4 (k51_mkM w base ok x) (reps_evs r)
theorem evs_len : ∀ l : List S51,(l.flatMap evL).length = l.length * 4
 | [] => rfl
 | x :: r => by rw [List.flatMap_cons,List.length_append,evs_len r,List.length_cons];show 4 + _ = _;omega
theorem evs_one : ∀ (l : List S51),∀ u ∈ l.flatMap evL,u.oneCell' = true:=by
 intro l u hu
 obtain ⟨x,_,hx⟩:=List.mem_flatMap.1 hu
 unfold evL at hx
 rcases List.mem_cons.1 hx with rfl | hx
 ·rfl
 rcases List.mem_cons.1 hx with rfl | hx
 ·rfl
 rcases List.mem_cons.1 hx with rfl | hx
 ·rfl
 rcases List.mem_cons.1 hx with rfl | hx
 ·rfl
 cases hx
theorem evs_at : ∀ (l : List S51) (i : Nat) (u : Value),(l.flatMap evL)[i]? = some u → ∃ j k x,i = j * 4 + k ∧ k < 4 ∧ l[j]? = some x ∧ (evL x)[k]? = some u
 | [],i,u,h => by cases h
 | x :: r,i,u,h => by
  rw [List.flatMap_cons] at h
  rcases Nat.lt_or_ge i 4 with hi | hi
  ·rw [List.getElem?_append_left hi] at h
   exact ⟨0,i,x,by omega,hi,rfl,h⟩
  ·rw [List.getElem?_append_right hi] at h
   obtain ⟨j,k,y,h1,h2,h3,h4⟩:=evs_at r (i - 4) u h
   exact ⟨j + 1,k,y,by omega,h2,h3,h4⟩
def recall_Event_31.f (l : List S51) : Option (List S51):=if l.length ≤ 4096 then some l else none
set_option maxRecDepth 100000 in
set_option maxHeartbeats 1000000 in
theorem clone_empty (ad : Addr) (c : Nat) (w : World) :
  Calls Try.prog 31 #[.slice (some ad) 0 c] w fun e w' => ∃ v',e = .returned v' ∧ w'.ownsRow w.heap.size 51 4 v' 0 [] ∧ Below w.heap.size w w':=by
 obtain ⟨i0,hi,hz0,hz1,hz2⟩:=info_parts info51
 have q22 : ∀ (w : World) (a : Option Addr) (n c n' c' : Nat),(binOp .eql 22 (.slice a n c) (.slice none n' c')).run Try.prog w = .ok (.bool a.isNone) w:=fun w a n c n' c' => Lib.run_eql_slice_nil w _ _ a n c n' c' Try.underlying22
 go_enter Try.func31,Try.ntmps31
 go_wp2_with (at_builtin;refine wpList_append_own _ rfl _ _ 22 rfl w.heap.size 51 i0 _ 4 56 Try.underlying22 hi hz0 hz1 hz2 rfl (by decide) _ _ _ rfl (World.ownsRow_made w #[] 0 (Nat.le_refl _) (Nat.zero_le _) (by simp)) ad 0 c [] rfl ?qc1 ?qc2 ?qc3 ?qc4 ?qc5 ?qc6 ?_)
 case qc1 => rfl
 case qc2 => intro j u hj;cases hj
 case qc3 => intro u hu;cases hu
 case qc4 => decide
 case qc5 => decide
 case qc6 => simp
 intro v' w1 hown hgrow hnil
 go_wp2
 go_ret
 exact ⟨v',rfl,hown,((Below.refl _ w).alloc (Nat.le_refl _) _).grown hgrow (by simp) (by intro k hk;simp [Value.ownBlock] at hk;omega)⟩
theorem recall_Event_31.calls (A0 : Option Addr) (c0 : Nat) (l0 : List S51) (r : List S51) (w : World) (hr0 : Kd.C k51 w A0 l0.length l0) (hc0 : l0.length ≤ c0) (h : recall_Event_31.f l0 = some r) :
  Calls Try.prog 31 #[.slice A0 l0.length c0] w fun e w' => ∃ v0_ : Value,e = .returned v0_ ∧ Kd.R k51 51 w' w.heap.size (fun _ => True) v0_ r ∧ Below w.heap.size w w':=by
 unfold recall_Event_31.f at h
 split at h
 ·rename_i hl
  obtain rfl:=Option.some.inj h
  cases A0 with
  | none =>
   cases l0 with
   | nil =>
    refine (AnyE.slices_Clone_nil Try.clone31 0 c0 w).mono ?_
    rintro e w' ⟨rfl,rfl⟩
    exact ⟨_,rfl,Kd.R_nil _ _ _ _ _,Below.refl _ _⟩
   | cons x t =>
    obtain ⟨ad,e,_⟩:=hr0.2.2 (by simp)
    cases e
  | some ad =>
   cases l0 with
   | nil =>
    refine (clone_empty ad c0 w).mono ?_
    rintro e w' ⟨v',rfl,ho,hb⟩
    exact ⟨v',rfl,⟨fun _ _ => trivial,[],ho,Reps.none _ _⟩,hb⟩
   | cons y t =>
    obtain ⟨ad',e1,h0,_⟩:=at_T51 hr0 0 (Int.le_refl _) (by simp)
    cases e1
    obtain ⟨b,off,spot⟩:=ad
    have hs : spot = none:=by
     unfold World.cell? at h0
     split at h0
     ·split at h0
      ·cases h0
      ·rename_i hs
       simp [Addr.add] at hs
       exact hs
     ·cases h0
    subst hs
    obtain ⟨i0,hi,hz0,hz1,hz2⟩:=info_parts info51
    refine (AnyE.slices_Clone Try.clone31 i0 _ 4 56 hi hz0 hz1 hz2 rfl (by decide) Try.sizeOf51 b off (y :: t).length c0 ((y :: t).flatMap evL) w (evs_len _) (by unfold maxLen;omega) (by omega) ?_ (evs_one _)).mono ?_
    ·intro i u hu
     obtain ⟨j,k,x,rfl,hk,hx,hu⟩:=evs_at _ _ _ hu
     have hj:=(List.getElem?_eq_some_iff.1 hx).1
     obtain ⟨ad,e,k0,k1,k2,k3⟩:=at_T51 hr0 (j : Int) (by omega) (by omega)
     cases e
     have hrd : rd_T51 (y :: t) (j : Int) = x:=by unfold rd_T51;rw [Int.toNat_natCast,List.getD_eq_getElem?_getD,hx];rfl
     have hadd : (Addr.add ⟨b,off,none⟩ ((j : Int).toNat * 4)) = ⟨b,off + j * 4,none⟩:=by
      rw [Int.toNat_natCast]
      unfold Addr.add
      split
      ·rename_i h;rw [h];rfl
      ·rfl
     rw [hadd,hrd] at k0 k1 k2 k3
     rw [← Nat.add_assoc]
     match k,hk,hu with
     | 0,_,hu => cases hu;exact k0
     | 1,_,hu => cases hu;exact k1
     | 2,_,hu => cases hu;exact k2
     | 3,_,hu => cases hu;exact k3
    ·rintro e w' ⟨v',rfl,ho,_,hb⟩
     exact ⟨v',rfl,⟨fun _ _ => trivial,_,ho,reps_evs _⟩,hb⟩
 ·cases h
end Go.Proofs.Ytnmmdeonkpfccaa.Pr
