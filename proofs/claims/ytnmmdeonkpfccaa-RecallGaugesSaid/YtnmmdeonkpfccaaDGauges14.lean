/- The statement is proved as it is given, without a condition of ours. -/
import Derived.Test.YtnmmdeonkpfccaaDGauges5
import Derived.Test.YtnmmdeonkpfccaaDGauges4
import Derived.Test.YtnmmdeonkpfccaaDGauges10
import Derived.Test.YtnmmdeonkpfccaaDGauges13
import Derived.Outline
import Derived.Test.YtnmmdeonkpfccaaDGauges12
import Derived.Test.YtnmmdeonkpfccaaDGauges2
import Derived.Test.YtnmmdeonkpfccaaDGauges9
import Derived.Test.YtnmmdeonkpfccaaDGauges8
import Derived.Laws.Cover1
import Derived.Test.YtnmmdeonkpfccaaDGauges11
import Derived.Deep.Slices
import Derived.Deep.Fields
import Derived.ChangeSame
import Derived.SizedLaws
import Derived.Test.YtnmmdeonkpfccaaRows
import Derived.WalkKit
import Derived.ProofKit
import Derived.OpenShut
import Derived.ShutString
import Derived.ChangeOld
import Derived.Below
set_option linter.unusedVariables false
namespace Go.Proofs.Ytnmmdeonkpfccaa.Pr
open Go.RowKit Go.Shelf Go.Maps Go.Proofs.YtnmmdeonkpfccaaW.PrintWords Go.Proofs.YtnmmdeonkpfccaaW.PrintLast Go.Proofs.YtnmmdeonkpfccaaW.PrintMore
open Go.Proofs.Ytnmmdeonkpfccaa.Rg
def ckG (g : ByteArray) (x : S51) : Bool:=(x.f0 == 1 || x.f0 == 2) && decide (x.f1.data.toList = g.data.toList)
def lessK (l : List S51) (g : ByteArray) : Nat → List S51
 | 0 => []
 | k + 1 => if ckG g (l.getD k z51) = true then lessK l g k else lessK l g k ++ [l.getD k z51]
def atK (l : List S51) (g : ByteArray) : Nat → List Int
 | 0 => []
 | k + 1 => if ckG g (l.getD k z51) = true then atK l g k else atK l g k ++ [(k : Int)]
def badK (l : List S51) : Nat → List (List UInt8)
 | 0 => []
 | k + 1 => if (l.getD k z51).f0 = 2 then (l.getD k z51).f1.data.toList :: badK l k else badK l k
theorem statesL_len (l : List S51) : (statesL l).length = l.length:=by unfold statesL;rw [List.length_map,List.length_range]
theorem lessK_len (l : List S51) (g : ByteArray) : ∀ k,(lessK l g k).length ≤ k
 | 0 => Nat.le_refl _
 | k + 1 => by
  unfold lessK
  have:=lessK_len l g k
  split
  ·omega
  ·rw [List.length_append,List.length_singleton];omega
theorem atK_len (l : List S51) (g : ByteArray) : ∀ k,(atK l g k).length = (lessK l g k).length
 | 0 => rfl
 | k + 1 => by
  unfold lessK atK
  split
  ·exact atK_len l g k
  ·rw [List.length_append,List.length_append,atK_len l g k];rfl
def GS (w : World) (K : Nat) (v5 v7 : Value) (S5 : List Int) (S7 : List ByteArray) (X : List S51) (Y : List Int) (n : Nat) (Z : List (List UInt8)) (v9 v10 : Value) (W : World) : Prop :=
 Below w.heap.size w W ∧ w.heap.size ≤ K ∧ K + 2 ≤ W.heap.size ∧ Kd.R (Kd.int .i64) 3 W w.heap.size (fun k => k < K) v5 S5 ∧ Kd.R Kd.string 9 W w.heap.size (fun k => k < K) v7 S7 ∧
  Kd.R k51 51 W w.heap.size (fun k => K + 2 ≤ k) v9 X ∧ Kd.R (Kd.int .i64) 3 W w.heap.size (fun k => K + 2 ≤ k) v10 Y ∧ MapF Try.prog 9 W K n (fSet Z) ∧ W.heap[K + 1]? = some (.cells #[.map (some K)] 49 (0,0))
section
variable {w W W' : World} {K n n' : Nat} {v5 v7 v9 v10 v9' v10' : Value} {S5 : List Int} {S7 : List ByteArray} {X X' : List S51} {Y Y' : List Int} {Z Z' : List (List UInt8)}
theorem GS.alloc (h : GS w K v5 v7 S5 S7 X Y n Z v9 v10 W) (o : Obj) : GS w K v5 v7 S5 S7 X Y n Z v9 v10 (W.alloc o):=by
 obtain ⟨h1,h2,h3,h4,h5,h6,h7,h8,h9⟩:=h
 exact ⟨h1.alloc (by omega) _,h2,by simp;omega,Kd.R_alloc h4 _,Kd.R_alloc h5 _,Kd.R_alloc h6 _,Kd.R_alloc h7 _,h8.alloc _,blk_alloc h9 _⟩
theorem GS.map (h : GS w K v5 v7 S5 S7 X Y n Z v9 v10 W) (hg : W.grownBy W' (some K)) (hm : MapF Try.prog 9 W' K n' (fSet Z')) : GS w K v5 v7 S5 S7 X Y n' Z' v9 v10 W':=by
 obtain ⟨h1,h2,h3,h4,h5,h6,h7,h8,h9⟩:=h
 have hs:=hg.size
 refine ⟨h1.grown hg h1.size (fun k e => by cases e;exact h2),h2,by omega,Kd.R_grown h4 hg (fun k hk e => by cases e;omega),Kd.R_grown h5 hg (fun k hk e => by cases e;omega),Kd.R_grown h6 hg (fun k hk e => by cases e;omega),Kd.R_grown h7 hg (fun k hk e => by cases e;omega),hm,?_⟩
 exact (hg.block (K + 1) (by omega) (fun e => by cases e)).trans h9
theorem GS.app9 (h : GS w K v5 v7 S5 S7 X Y n Z v9 v10 W) (hg : W.grownBy W' v9.ownBlock) (ho : Kd.R k51 51 W' w.heap.size (fun k => K + 2 ≤ k) v9' X') (hb : Below w.heap.size w W') : GS w K v5 v7 S5 S7 X' Y n Z v9' v10 W':=by
 obtain ⟨h1,h2,h3,h4,h5,h6,h7,h8,h9⟩:=h
 have hs:=hg.size
 have ht:=Kd.R_typed h6
 exact ⟨hb,h2,by omega,Kd.R_over' h4 ht (by decide) hg,Kd.R_over' h5 ht (by decide) hg,ho,Kd.R_over' h7 ht (by decide) hg,h8.kept hg (fun e => by have:=h6.1 K e.symm;omega),(hg.block (K + 1) (by omega) (fun e => by have:=h6.1 _ e.symm;omega)).trans h9⟩
theorem GS.app10 (h : GS w K v5 v7 S5 S7 X Y n Z v9 v10 W) (hg : W.grownBy W' v10.ownBlock) (ho : Kd.R (Kd.int .i64) 3 W' w.heap.size (fun k => K + 2 ≤ k) v10' Y') (hb : Below w.heap.size w W') : GS w K v5 v7 S5 S7 X Y' n Z v9 v10' W':=by
 obtain ⟨h1,h2,h3,h4,h5,h6,h7,h8,h9⟩:=h
 have hs:=hg.size
 have ht:=Kd.R_typed h7
 exact ⟨hb,h2,by omega,Kd.R_grown h4 hg (fun k hk e => by have:=h7.1 _ e.symm;omega),Kd.R_over' h5 ht (by decide) hg,Kd.R_over' h6 ht (by decide) hg,ho,h8.kept hg (fun e => by have:=h7.1 K e.symm;omega),(hg.block (K + 1) (by omega) (fun e => by have:=h7.1 _ e.symm;omega)).trans h9⟩
theorem GS.mono (h : GS w K v5 v7 S5 S7 X Y n Z v9 v10 W) (hn : n ≤ n') : GS w K v5 v7 S5 S7 X Y n' Z v9 v10 W :=
 ⟨h.1,h.2.1,h.2.2.1,h.2.2.2.1,h.2.2.2.2.1,h.2.2.2.2.2.1,h.2.2.2.2.2.2.1,h.2.2.2.2.2.2.2.1.mono hn,h.2.2.2.2.2.2.2.2⟩
end
set_option maxRecDepth 100000 in
set_option maxHeartbeats 4000000 in
theorem gauges_ok (A0 : Option Addr) (c0 : Nat) (l : List S51) (g : ByteArray) (w : World) (hr0 : Kd.C k51 w A0 l.length l) (hc0 : l.length ≤ c0) (kk : Nat) (hri : metrolablaw53_right.f kk l = some true) (h16 : l.length ≤ 16) (hck : checkV l = 0) (hck2 : checkV (lessK l g l.length) = 0) (h60 : g.size ≤ 60)
  (hL2 : ∀ k,k < (atK l g l.length).length → ∃ i : Nat,rd (atK l g l.length) (k : Int) = (i : Int) ∧ i < l.length ∧ rd (statesL (lessK l g l.length)) (k : Int) = if (l.getD i z51).f0 = 0 ∧ (l.getD i z51).f1.data.toList = g.data.toList then 1 else rd (statesL l) (i : Int))
  (hL3 : ∀ p ∈ strs (recL l),l.any (badP p (badK l l.length)) = true) :
  Calls Try.prog 6 #[.slice A0 l.length c0,.string g] w fun e w' => e = .returned (.bool true) ∧ Below w.heap.size w w':=by
 have HR0:=Aside0.mk hr0
 have hmm:=@run_makeMap Try.prog
 have hu51:=Try.underlying51
 have hg60 : decide (60 < (g.size : Int)) = false:=decide_eq_false (by omega)
 have HRI:=Aside0.mk (metrolablaw53_right.calls kk A0 c0 l true w hr0 hc0 hri)
 have HS:=Aside0.mk (show recall_States.f l = some (statesL l,0) by unfold recall_States.f statesV;rw [if_neg (fun h => h hck)])
 have HP:=Aside0.mk (show recall_Parts.f l = some (strs (recL l),0) by unfold recall_Parts.f partsV;rw [if_neg (fun h => h hck)])
 have HC0:=Aside0.mk hc0
 have HL2:=Aside0.mk hL2
 have HL3:=Aside0.mk hL3
 have HCK2:=Aside0.mk hck2
 have HCK:=Aside0.mk hck
 have HSL:=Aside0.mk (statesL_len l)
 clear hr0 hri hc0 hL2 hL3 hck hck2
 go_enter Try.func6,Try.ntmps6
 go_wp2_with (first | (go_at_call 28;refine HRI.out.mono ?_;rintro e w1 ⟨rfl,hb1⟩;have HB1:=Aside0.mk hb1;clear hb1) | (go_at_call 11;refine (recall_States.calls A0 c0 l (statesL l) 0 _ (Kd.C_below HR0.out HB1.out) HC0.out HS.out).mono ?_;rintro e w2 ⟨v5,rfl,ho5,hb2⟩;have HB2:=Aside0.mk hb2;have HO5:=Aside0.mk ho5;obtain ⟨A5,c5,rfl⟩:=Kd.R_slice ho5;rw [HSL.out] at HO5 ⊢;clear hb2 ho5) | (go_at_call 14;refine (recall_Parts.calls A0 c0 l (strs (recL l)) 0 _ (Kd.C_below (Kd.C_below HR0.out HB1.out) HB2.out) HC0.out HP.out).mono ?_;rintro e w3 ⟨v7,rfl,ho7,hb3⟩;have HB3:=Aside0.mk hb3;have HO7:=Aside0.mk ho7;obtain ⟨A7,c7,rfl⟩:=Kd.R_slice ho7;clear hb3 ho7))
 have hs1:=HB1.out.size
 have hs2:=HB2.out.size
 have hs3:=HB3.out.size
 have H0 : GS w w3.heap.size (.slice A5 l.length c5) (.slice A7 (strs (recL l)).length c7) (statesL l) (strs (recL l)) [] [] 0 [] (.slice none 0 0) (.slice none 0 0) ((w3.alloc (Obj.map #[] 0)).alloc (Obj.cells #[Value.map (some w3.heap.size)] 49)):=by
  have hb3:=HB1.out.trans ((HB2.out.mono hs1).trans (HB3.out.mono (by omega)))
  refine ⟨(hb3.alloc (by omega) _).alloc (by simp;omega) _,by omega,by simp,?_,?_,Kd.R_nil _ _ _ _ _,Kd.R_nil _ _ _ _ _,by rw [fSet_nil];exact (MapF.made w3 Try.prog 9).alloc _,?_⟩
  ·refine Kd.R_alloc (Kd.R_alloc (Kd.R_mono (Kd.R_bound (Kd.R_below (Kd.R_lower HO5.out hs1) HB3.out)) (fun k hk => hk.2.2.1)) _) _
  ·refine Kd.R_alloc (Kd.R_alloc (Kd.R_mono (Kd.R_bound (Kd.R_lower HO7.out (by omega))) (fun k hk => hk.2.2.1)) _) _
  ·have:=blk_new (w3.alloc (Obj.map #[] 0)) (Obj.cells #[Value.map (some w3.heap.size)] 49)
   rwa [World.size_alloc] at this
 have HG0:=Aside0.mk H0
 clear H0
 go_loopw [9,10,43] (fun v9 v10 v43 wr => ∃ (k : Nat) (u9 u10 : Value),k ≤ l.length ∧ u9 = v9 ∧ u10 = v10 ∧ v43 = .int .i64 (k : Int) ∧ Aside0 (GS w w3.heap.size (.slice A5 l.length c5) (.slice A7 (strs (recL l)).length c7) (statesL l) (strs (recL l)) (lessK l g k) (atK l g k) k (badK l k) u9 u10 wr)) (fun _ _ v43 _ => l.length - (intOf v43).toNat)
 case atStart => exact ⟨0,_,_,by omega,rfl,rfl,rfl,⟨HG0.out⟩⟩
 case round =>
  obtain ⟨k,u9,u10,hk,rfl,rfl,rfl,HG⟩:=hrel
  clear HG0
  by_cases hlt : k < l.length
  ·obtain ⟨x,hx⟩ : ∃ x,x = l.getD k z51:=⟨_,rfl⟩
   have hxg : x = l[k]:=by rw [hx,List.getD_eq_getElem?_getD,List.getElem?_eq_getElem hlt];rfl
   have hrd : rd_T51 l (k : Int) = x:=by unfold rd_T51;rw [Int.toNat_natCast,hx]
   obtain ⟨hkind,hs1,hs2,hs3⟩:=namesX_zero ((check_zero HCK.out).2 x (by rw [hxg];exact List.getElem_mem _))
   have hm1 : x.f1.size ≤ maxLen:=by unfold maxLen;omega
   obtain ⟨ad,e1,hx0,hx1,hx2,hx3⟩:=at_T51 HR0.out (k : Int) (by omega) (by omega)
   cases e1
   rw [hrd,Int.toNat_natCast] at hx0 hx1 hx2 hx3
   replace hx0:=(HG.out.1.cell (World.block_lt_of_cell? w _ hx0)).trans hx0
   replace hx1:=(HG.out.1.cell (World.block_lt_of_cell? w _ hx1)).trans hx1
   replace hx2:=(HG.out.1.cell (World.block_lt_of_cell? w _ hx2)).trans hx2
   replace hx3:=(HG.out.1.cell (World.block_lt_of_cell? w _ hx3)).trans hx3
   have HLK:=Aside0.mk (show lessK l g (k + 1) = if ckG g x = true then lessK l g k else lessK l g k ++ [x] from by rw [hx];rfl)
   have HAK:=Aside0.mk (show atK l g (k + 1) = if ckG g x = true then atK l g k else atK l g k ++ [(k : Int)] from by rw [hx];rfl)
   have HBK:=Aside0.mk (show badK l (k + 1) = if x.f0 = 2 then x.f1.data.toList :: badK l k else badK l k from by rw [hx];rfl)
   obtain ⟨r,hr⟩ : ∃ r,r = decide (x.f1.data.toList = g.data.toList):=⟨_,rfl⟩
   have he : (x.f1.toList == g.toList) = r:=by rw [hr,ByteArray.toList_eq,ByteArray.toList_eq];exact Bool.eq_iff_iff.2 (by simp)
   have he2 : decide (x.f1.toList = g.toList) = r:=by rw [hr,ByteArray.toList_eq,ByteArray.toList_eq]
   have HCG:=Aside0.mk (show ckG g x = ((x.f0 == 1 || x.f0 == 2) && r) from by rw [hr];rfl)
   have hszr:=HG.out.2.2.1
   have hbx:=HG.out.2.2.2.2.2.2.2.2
   have hcx : wr.cell? ⟨w3.heap.size + 1,0,none⟩ = some (.map (some w3.heap.size)):=(blk_cell hbx 0).trans rfl
   have hcx1 : ∀ o : Obj,(wr.alloc o).cell? ⟨w3.heap.size + 1,0,none⟩ = some (.map (some w3.heap.size)):=fun o => (((Below.refl _ wr).alloc (Nat.le_refl _) o).cell (p:=⟨w3.heap.size + 1,0,none⟩) (show w3.heap.size + 1 < _ by omega)).trans hcx
   clear hx hrd hxg hs1 hs2 hs3 hr hbx
   by_cases k2 : x.f0 = 2
   ·rw [k2] at hx0
    have HBK2:=Aside0.mk (HBK.out.trans (if_pos k2))
    have HCG2:=Aside0.mk (show ckG g x = r from by rw [HCG.out,k2];rfl)
    clear HBK HCG hkind
    cases r with
    | true =>
     have HLK2:=Aside0.mk (HLK.out.trans (if_pos HCG2.out))
     have HAK2:=Aside0.mk (HAK.out.trans (if_pos HCG2.out))
     clear HLK HAK k2
     go_wp2_with (at_mapUpdate;refine wpList_storeF rfl _ _ _ 49 rfl 9 4 Try.underlying9 Try.underlying49 rfl (HG.out.2.2.2.2.2.2.2.1.alloc _) (by unfold maxLen;omega) x.f1 rfl hm1 (.bool true) rfl ?_;intro w9 hs9 hg9;have HGm:=Aside0.mk ((HG.out.alloc _).map hg9 (by rw [fSet_put] at hs9;exact hs9));have hcc:=blk_grown (blk_new wr (.cells #[.int .i64 2,.string x.f1,.string x.f2,.string x.f3] 51)) hg9 (by simp;omega);have hcc0 : w9.cell? ⟨wr.heap.size,0,none⟩ = some (.int .i64 2):=(blk_cell hcc 0).trans rfl;have hcc1 : w9.cell? ⟨wr.heap.size,1,none⟩ = some (.string x.f1):=(blk_cell hcc 1).trans rfl;have hcc2 : w9.cell? ⟨wr.heap.size,2,none⟩ = some (.string x.f2):=(blk_cell hcc 2).trans rfl;have hcc3 : w9.cell? ⟨wr.heap.size,3,none⟩ = some (.string x.f3):=(blk_cell hcc 3).trans rfl;clear hs9 hg9 hcc)
     go_roundw
     case rel => exact ⟨k + 1,_,_,by omega,rfl,rfl,by go_num,⟨by rw [HLK2.out,HAK2.out,HBK2.out];exact HGm.out⟩⟩
     case measure => (simp [intOf] <;> omega)
    | false =>
     have HLK2:=Aside0.mk (HLK.out.trans (if_neg (by rw [HCG2.out];decide)))
     have HAK2:=Aside0.mk (HAK.out.trans (if_neg (by rw [HCG2.out];decide)))
     have K2C:=Aside0.mk k2
     clear HLK HAK k2
     go_wp2_with (first | (at_mapUpdate;refine wpList_storeF rfl _ _ _ 49 rfl 9 4 Try.underlying9 Try.underlying49 rfl (HG.out.2.2.2.2.2.2.2.1.alloc _) (by unfold maxLen;omega) x.f1 rfl hm1 (.bool true) rfl ?_;intro w9 hs9 hg9;have HGm:=Aside0.mk ((HG.out.alloc _).map hg9 (by rw [fSet_put] at hs9;exact hs9));have hcc:=blk_grown (blk_new wr (.cells #[.int .i64 2,.string x.f1,.string x.f2,.string x.f3] 51)) hg9 (by simp;omega);have hcc0 : w9.cell? ⟨wr.heap.size,0,none⟩ = some (.int .i64 2):=(blk_cell hcc 0).trans rfl;have hcc1 : w9.cell? ⟨wr.heap.size,1,none⟩ = some (.string x.f1):=(blk_cell hcc 1).trans rfl;have hcc2 : w9.cell? ⟨wr.heap.size,2,none⟩ = some (.string x.f2):=(blk_cell hcc 2).trans rfl;have hcc3 : w9.cell? ⟨wr.heap.size,3,none⟩ = some (.string x.f3):=(blk_cell hcc 3).trans rfl;clear hs9 hg9 hcc) | ((with_reducible refine gate_builtin (b:=.append) (xs:=#[.tmp 68,.tmp 70]) rfl ?_);at_builtin;refine Kd.R_append k51 (w0:=w) w.heap.size rfl (.tmp 68) (.tmp 70) 22 51 (.agg #[(.int .i64 0),(.string ⟨#[]⟩),(.string ⟨#[]⟩),(.string ⟨#[]⟩)]) 56 rfl Try.underlying22 info51 rfl (by decide) (by omega) u9 (lessK l g k) x [.int .i64 2,.string x.f1,.string x.f2,.string x.f3] (fun k => w3.heap.size + 2 ≤ k) (fun _ => False) rfl rfl ?aP (fun _ hk => hk.elim) ?aF HGm.out.2.2.2.2.2.1 HGm.out.1 ?aS ?aL ?_;(case aP => (have:=k51_mkM wr w.heap.size (fun _ => False) x;rw [K2C.out] at this;exact this));(case aF => intro j hj;have:=HGm.out.2.2.1;omega);(case aS => exact HGm.out.1.size);(case aL => have:=lessK_len l g k;omega);intro u9b w5 ho hb hg;intro _;have HG9:=Aside0.mk (GS.app9 HGm.out hg ho hb);clear ho hb hg) | ((with_reducible refine gate_builtin (b:=.append) (xs:=#[.tmp 72,.tmp 74]) rfl ?_);at_builtin;refine Kd.R_append (Kd.int .i64) (w0:=w) w.heap.size rfl (.tmp 72) (.tmp 74) 25 3 (.int .i64 0) 8 rfl Try.underlying25 info3 rfl (by decide) (by omega) u10 (atK l g k) (k : Int) [.int .i64 k] (fun k => w3.heap.size + 2 ≤ k) (fun _ => False) rfl rfl ?bP (fun _ hk => hk.elim) ?bF HG9.out.2.2.2.2.2.2.1 HG9.out.1 ?bS ?bL ?_;(case bP => exact rfl);(case bF => intro j hj;have:=HG9.out.2.2.1;omega);(case bS => exact HG9.out.1.size);(case bL => have:=lessK_len l g k;have:=atK_len l g k;omega);intro u10b w6 ho hb hg;intro _;have HG10:=Aside0.mk (GS.app10 HG9.out hg ho hb);clear ho hb hg))
     go_roundw
     case rel => exact ⟨k + 1,_,_,by omega,rfl,rfl,by go_num,⟨by rw [HLK2.out,HAK2.out,HBK2.out];exact HG10.out⟩⟩
     case measure => (simp [intOf] <;> omega)
   ·have k2b : (x.f0 == 2) = false:=beq_eq_false_iff_ne.mpr k2
    have HBK2:=Aside0.mk (HBK.out.trans (if_neg k2))
    clear HBK
    by_cases k1 : x.f0 = 1
    ·rw [k1] at hx0
     have HCG2:=Aside0.mk (show ckG g x = r from by rw [HCG.out,k1];rfl)
     clear HCG hkind k2 k2b
     cases r with
     | true =>
      have HLK2:=Aside0.mk (HLK.out.trans (if_pos HCG2.out))
      have HAK2:=Aside0.mk (HAK.out.trans (if_pos HCG2.out))
      clear HLK HAK k1
      go_wp2
      go_roundw
      case rel => exact ⟨k + 1,_,_,by omega,rfl,rfl,by go_num,⟨by rw [HLK2.out,HAK2.out,HBK2.out];exact (HG.out.alloc _).mono (Nat.le_succ _)⟩⟩
      case measure => (simp [intOf] <;> omega)
     | false =>
      have HLK2:=Aside0.mk (HLK.out.trans (if_neg (by rw [HCG2.out];decide)))
      have HAK2:=Aside0.mk (HAK.out.trans (if_neg (by rw [HCG2.out];decide)))
      have K2C:=Aside0.mk k1
      have HGa:=Aside0.mk (HG.out.alloc (.cells #[.int .i64 1,.string x.f1,.string x.f2,.string x.f3] 51))
      clear HLK HAK k1
      go_wp2_with (first | ((with_reducible refine gate_builtin (b:=.append) (xs:=#[.tmp 68,.tmp 70]) rfl ?_);at_builtin;refine Kd.R_append k51 (w0:=w) w.heap.size rfl (.tmp 68) (.tmp 70) 22 51 (.agg #[(.int .i64 0),(.string ⟨#[]⟩),(.string ⟨#[]⟩),(.string ⟨#[]⟩)]) 56 rfl Try.underlying22 info51 rfl (by decide) (by omega) u9 (lessK l g k) x [.int .i64 1,.string x.f1,.string x.f2,.string x.f3] (fun k => w3.heap.size + 2 ≤ k) (fun _ => False) rfl ?aX ?aP (fun _ hk => hk.elim) ?aF HGa.out.2.2.2.2.2.1 HGa.out.1 ?aS ?aL ?_;(case aX => (rw [World.size_alloc];rfl));(case aP => (have:=k51_mkM wr w.heap.size (fun _ => False) x;rw [K2C.out] at this;exact this));(case aF => intro j hj;have:=HGa.out.2.2.1;omega);(case aS => exact HGa.out.1.size);(case aL => have:=lessK_len l g k;omega);intro u9b w5 ho hb hg;intro _;have HG9:=Aside0.mk (GS.app9 HGa.out hg ho hb);clear ho hb hg) | ((with_reducible refine gate_builtin (b:=.append) (xs:=#[.tmp 72,.tmp 74]) rfl ?_);at_builtin;refine Kd.R_append (Kd.int .i64) (w0:=w) w.heap.size rfl (.tmp 72) (.tmp 74) 25 3 (.int .i64 0) 8 rfl Try.underlying25 info3 rfl (by decide) (by omega) u10 (atK l g k) (k : Int) [.int .i64 k] (fun k => w3.heap.size + 2 ≤ k) (fun _ => False) rfl rfl ?bP (fun _ hk => hk.elim) ?bF HG9.out.2.2.2.2.2.2.1 HG9.out.1 ?bS ?bL ?_;(case bP => exact rfl);(case bF => intro j hj;have:=HG9.out.2.2.1;omega);(case bS => exact HG9.out.1.size);(case bL => have:=lessK_len l g k;have:=atK_len l g k;omega);intro u10b w6 ho hb hg;intro _;have HG10:=Aside0.mk (GS.app10 HG9.out hg ho hb);clear ho hb hg))
      go_roundw
      case rel => exact ⟨k + 1,_,_,by omega,rfl,rfl,by go_num,⟨by rw [HLK2.out,HAK2.out,HBK2.out];exact HG10.out.mono (Nat.le_succ _)⟩⟩
      case measure => (simp [intOf] <;> omega)
    ·have k1b : (x.f0 == 1) = false:=beq_eq_false_iff_ne.mpr k1
     have HCG2:=Aside0.mk (show ckG g x = false from by rw [HCG.out,k1b,k2b];rfl)
     have HLK2:=Aside0.mk (HLK.out.trans (if_neg (by rw [HCG2.out];decide)))
     have HAK2:=Aside0.mk (HAK.out.trans (if_neg (by rw [HCG2.out];decide)))
     have HGa:=Aside0.mk (HG.out.alloc (.cells #[.int .i64 x.f0,.string x.f1,.string x.f2,.string x.f3] 51))
     clear HLK HAK k1 k2 HCG hkind he he2
     go_wp2_with (first | ((with_reducible refine gate_builtin (b:=.append) (xs:=#[.tmp 68,.tmp 70]) rfl ?_);at_builtin;refine Kd.R_append k51 (w0:=w) w.heap.size rfl (.tmp 68) (.tmp 70) 22 51 (.agg #[(.int .i64 0),(.string ⟨#[]⟩),(.string ⟨#[]⟩),(.string ⟨#[]⟩)]) 56 rfl Try.underlying22 info51 rfl (by decide) (by omega) u9 (lessK l g k) x [.int .i64 x.f0,.string x.f1,.string x.f2,.string x.f3] (fun k => w3.heap.size + 2 ≤ k) (fun _ => False) rfl ?aX ?aP (fun _ hk => hk.elim) ?aF HGa.out.2.2.2.2.2.1 HGa.out.1 ?aS ?aL ?_;(case aX => (rw [World.size_alloc];rfl));(case aP => exact k51_mkM _ _ _ x);(case aF => intro j hj;have:=HGa.out.2.2.1;omega);(case aS => exact HGa.out.1.size);(case aL => have:=lessK_len l g k;omega);intro u9b w5 ho hb hg;intro _;have HG9:=Aside0.mk (GS.app9 HGa.out hg ho hb);clear ho hb hg) | ((with_reducible refine gate_builtin (b:=.append) (xs:=#[.tmp 72,.tmp 74]) rfl ?_);at_builtin;refine Kd.R_append (Kd.int .i64) (w0:=w) w.heap.size rfl (.tmp 72) (.tmp 74) 25 3 (.int .i64 0) 8 rfl Try.underlying25 info3 rfl (by decide) (by omega) u10 (atK l g k) (k : Int) [.int .i64 k] (fun k => w3.heap.size + 2 ≤ k) (fun _ => False) rfl rfl ?bP (fun _ hk => hk.elim) ?bF HG9.out.2.2.2.2.2.2.1 HG9.out.1 ?bS ?bL ?_;(case bP => exact rfl);(case bF => intro j hj;have:=HG9.out.2.2.1;omega);(case bS => exact HG9.out.1.size);(case bL => have:=lessK_len l g k;have:=atK_len l g k;omega);intro u10b w6 ho hb hg;intro _;have HG10:=Aside0.mk (GS.app10 HG9.out hg ho hb);clear ho hb hg))
     go_roundw
     case rel => exact ⟨k + 1,_,_,by omega,rfl,rfl,by go_num,⟨by rw [HLK2.out,HAK2.out,HBK2.out];exact HG10.out.mono (Nat.le_succ _)⟩⟩
     case measure => (simp [intOf] <;> omega)
  ·obtain rfl : k = l.length:=by omega
   obtain ⟨A9,c9,rfl⟩:=Kd.R_slice HG.out.2.2.2.2.2.1
   obtain ⟨A10,c10,rfl⟩:=Kd.R_slice HG.out.2.2.2.2.2.2.1
   have HS2:=Aside0.mk (show recall_States.f (lessK l g l.length) = some (statesL (lessK l g l.length),0) by unfold recall_States.f statesV;rw [if_neg (fun h => h HCK2.out)])
   have HSL2:=Aside0.mk (statesL_len (lessK l g l.length))
   have HR9:=Aside0.mk (Kd.R_reads' HG.out.2.2.2.2.2.1)
   have HAL:=Aside0.mk (atK_len l g l.length)
   have hyl : (lessK l g l.length).length ≤ l.length:=lessK_len l g l.length
   obtain ⟨Y,hY⟩ : ∃ Y,Y = atK l g l.length:=⟨_,rfl⟩
   obtain ⟨X,hX⟩ : ∃ X,X = lessK l g l.length:=⟨_,rfl⟩
   rw [← hY] at HG HL2 HAL
   rw [← hX] at HG HL2 HAL HS2 HSL2 HR9 hyl
   rw [← hY,← hX]
   clear hX hY HCK2
   go_wp2_with (go_at_call 11;refine (recall_States.calls A9 c9 X (statesL X) 0 _ HR9.out.2.2 HR9.out.2.1 HS2.out).mono ?_;rintro e w4 ⟨v14,rfl,ho,hb⟩;have HB4:=Aside0.mk hb;have HO14:=Aside0.mk ho;obtain ⟨A14,c14,rfl⟩:=Kd.R_slice ho;rw [HSL2.out] at HO14 ⊢;clear hb ho)
   have hs4:=HB4.out.size
   have hszr:=HG.out.2.2.1
   have HB5:=Aside0.mk (HG.out.1.trans (HB4.out.mono HG.out.1.size))
   have HO5b:=Aside0.mk (Kd.R_below HG.out.2.2.2.1 HB4.out)
   have HO7b:=Aside0.mk (Kd.R_below HG.out.2.2.2.2.1 HB4.out)
   have HO10b:=Aside0.mk (Kd.R_below HG.out.2.2.2.2.2.2.1 HB4.out)
   have HM4:=Aside0.mk (HG.out.2.2.2.2.2.2.2.1.below HB4.out)
   have HX4:=Aside0.mk ((HB4.out.block (w3.heap.size + 1) (by omega)).trans HG.out.2.2.2.2.2.2.2.2)
   have hyl2 : Y.length = X.length:=HAL.out
   have HYL:=Aside0.mk hyl2
   have hyl3 : Y.length ≤ 16:=by omega
   clear hyl2
   go_loop [104] (fun v104 => ∃ k : Nat,k ≤ Y.length ∧ v104 = .int .i64 (k : Int)) (fun v104 => Y.length - (intOf v104).toNat)
   case atStart => exact ⟨0,by omega,rfl⟩
   case round =>
    obtain ⟨k,hk,rfl⟩:=hrel
    by_cases hlt : k < Y.length
    ·obtain ⟨i,h1,h2,h3⟩:=HL2.out k hlt
     obtain ⟨x,hx⟩ : ∃ x,x = l.getD i z51:=⟨_,rfl⟩
     rw [← hx] at h3
     have hrd : rd_T51 l (i : Int) = x:=by unfold rd_T51;rw [Int.toNat_natCast,hx]
     obtain ⟨ad,e1,hx0,hx1,hx2,hx3⟩:=at_T51 HR0.out (i : Int) (by omega) (by omega)
     cases e1
     rw [hrd,Int.toNat_natCast] at hx0 hx1
     replace hx0:=(HB5.out.cell (World.block_lt_of_cell? w _ hx0)).trans hx0
     replace hx1:=(HB5.out.cell (World.block_lt_of_cell? w _ hx1)).trans hx1
     obtain ⟨a10,e10,hy⟩:=Kd.at_int (Kd.R_reads' HO10b.out).2.2 (k : Int) (by omega) (by omega)
     cases e10
     rw [h1,Int.toNat_natCast] at hy
     obtain ⟨a5,e5,hz⟩:=Kd.at_int (Kd.R_reads' HO5b.out).2.2 (i : Int) (by omega) (by rw [HSL.out];omega)
     cases e5
     rw [Int.toNat_natCast] at hz
     obtain ⟨a14,e14,hq⟩:=Kd.at_int (Kd.R_reads' HO14.out).2.2 (k : Int) (by omega) (by rw [HSL2.out];have:=HYL.out;omega)
     cases e14
     rw [h3,Int.toNat_natCast] at hq
     have hkx : k < X.length:=by have:=HYL.out;omega
     obtain ⟨sz,hsz⟩ : ∃ sz,sz = rd (statesL l) (i : Int):=⟨_,rfl⟩
     rw [← hsz] at hz hq
     obtain ⟨r,hr⟩ : ∃ r,r = decide (x.f1.data.toList = g.data.toList):=⟨_,rfl⟩
     have he : (x.f1.toList == g.toList) = r:=by rw [hr,ByteArray.toList_eq,ByteArray.toList_eq];exact Bool.eq_iff_iff.2 (by simp)
     have he2 : decide (x.f1.toList = g.toList) = r:=by rw [hr,ByteArray.toList_eq,ByteArray.toList_eq]
     by_cases k0 : x.f0 = 0
     ·rw [k0] at hx0
      cases r with
      | true =>
       rw [if_pos ⟨k0,of_decide_eq_true hr.symm⟩] at hq
       clear h1 h3 hx hrd hx2 hx3 hr hsz k0
       go_wp2
       go_round
       case rel => exact ⟨k + 1,by omega,by go_num⟩
       case measure => (simp [intOf] <;> omega)
      | false =>
       rw [if_neg (fun h => by rw [decide_eq_true h.2] at hr;cases hr)] at hq
       clear h1 h3 hx hrd hx2 hx3 hr hsz k0
       go_wp2
       go_round
       case rel => exact ⟨k + 1,by omega,by go_num⟩
       case measure => (simp [intOf] <;> omega)
     ·rw [if_neg (fun h => k0 h.1)] at hq
      have k0b : (x.f0 == 0) = false:=beq_eq_false_iff_ne.mpr k0
      clear h1 h3 hx hrd hx2 hx3 hr hsz k0 he he2
      go_wp2
      go_round
      case rel => exact ⟨k + 1,by omega,by go_num⟩
      case measure => (simp [intOf] <;> omega)
    ·obtain rfl : k = Y.length:=by omega
     obtain ⟨P,hP⟩ : ∃ P,P = strs (recL l):=⟨_,rfl⟩
     rw [← hP] at HO7b HL3 ⊢
     have hPl : P.length ≤ 9223372036854775807:=(Kd.R_reads' HO7b.out).2.2.2.1
     clear hP HG HP HO7
     go_wp2
     go_loopw [137] (fun v137 wr2 => ∃ k : Nat,k ≤ P.length ∧ v137 = .int .i64 (k : Int) ∧ Aside0 (Below w4.heap.size w4 wr2)) (fun v137 _ => P.length - (intOf v137).toNat)
     case atStart => exact ⟨0,by omega,rfl,⟨Below.refl _ _⟩⟩
     case round =>
      obtain ⟨k,hk2,rfl,HB6⟩:=hrel
      by_cases hlt2 : k < P.length
      ·obtain ⟨p,hp⟩ : ∃ p,p = rdOf ByteArray.empty P (k : Int):=⟨_,rfl⟩
       have hpm : p ∈ P:=by rw [hp];unfold rdOf;rw [Int.toNat_natCast,List.getD_eq_getElem?_getD,List.getElem?_eq_getElem hlt2];exact List.getElem_mem _
       obtain ⟨a7,e7,hy⟩:=Kd.at_string (Kd.R_reads' HO7b.out).2.2 (k : Int) (by omega) (by omega)
       cases e7
       rw [← hp,Int.toNat_natCast] at hy
       replace hy:=(HB6.out.cell (World.block_lt_of_cell? w4 _ hy)).trans hy
       have hs6:=HB6.out.size
       have hb7:=HB5.out.trans (HB6.out.mono HB5.out.size)
       have hcb : (wr.alloc (.cells #[.string p] 9)).cell? ⟨wr.heap.size,0,none⟩ = some (.string p):=(blk_cell (blk_new wr (.cells #[.string p] 9)) 0).trans rfl
       have hX5:=blk_alloc ((HB6.out.block (w3.heap.size + 1) (by omega)).trans HX4.out) (.cells #[.string p] 9)
       have hcx : (wr.alloc (.cells #[.string p] 9)).cell? ⟨w3.heap.size + 1,0,none⟩ = some (.map (some w3.heap.size)):=(blk_cell hX5 0).trans rfl
       have hz : ∀ x ∈ l,x.f1.size ≤ 60:=fun x hx => by have:=(namesX_zero ((check_zero HCK.out).2 x hx)).2.1;omega
       have hh:=has30 A0 c0 l p (badK l l.length) wr.heap.size (w3.heap.size + 1) w3.heap.size l.length (wr.alloc (.cells #[.string p] 9)) (Kd.C_below HR0.out (hb7.alloc hb7.size _)) (by omega) hz hcb hcx ((HM4.out.below HB6.out).alloc _)
       rw [HL3.out p hpm] at hh
       have HH:=Aside0.mk hh
       clear hh hz hcx hcb hX5 hpm hp hb7
       go_wp2_with (go_at_call 29;refine HH.out.mono ?_;rintro e w7 ⟨rfl,hb⟩;have HB7:=Aside0.mk hb;clear hb)
       go_roundw
       case rel => exact ⟨k + 1,by omega,by go_num,⟨(HB6.out.alloc hs6 _).trans (HB7.out.mono (by simp;omega))⟩⟩
       case measure => (simp [intOf] <;> omega)
      ·have hs6:=HB6.out.size
       have HB7:=Aside0.mk (HB5.out.trans (HB6.out.mono HB5.out.size))
       go_wp2_with (go_at_call 10;refine (metrolablaw53_awake.calls true _ rfl).mono ?_;rintro e w8 ⟨rfl,hb⟩;have HB8:=Aside0.mk hb;clear hb)
       go_ret
       exact ⟨rfl,HB7.out.trans (HB8.out.mono HB7.out.size)⟩
end Go.Proofs.Ytnmmdeonkpfccaa.Pr
set_option linter.unusedVariables false
namespace Go.Proofs.Ytnmmdeonkpfccaa.Pr
open Go.RowKit Go.Proofs.YtnmmdeonkpfccaaW.PrintWords Go.Proofs.YtnmmdeonkpfccaaW.PrintLast Go.Proofs.YtnmmdeonkpfccaaW.PrintMore
abbrev knd (l : List S51) (i : Nat) : Int:=(gA l i).f0
abbrev prt (l : List S51) (i : Nat) : Nm:=(gA l i).f2.data.toList
theorem evK_gA (l : List S51) (k : Nat) : evK l k = gA l (l.length - 1 - k):=rfl
theorem st_meas {l : List S51} {i : Nat} (h : (stA l i).2 ≠ 0) : knd l i = 0:=by
 refine Classical.byContradiction fun h0 => h ?_
 unfold stA;rw [if_neg h0]
theorem kept_mem (p : S51 → Int → Bool) (l : List S51) (q : Nm) : ∀ n,n ≤ l.length →
  (q ∈ (keptS p l n).1 ↔ ∃ j,l.length - n ≤ j ∧ j < l.length ∧ knd l j = 0 ∧ (stA l j).2 ≠ 2 ∧ p (gA l j) (stA l j).2 = true ∧ prt l j = q) ∧
  (q ∈ (keptS p l n).2 ↔ ∃ j,l.length - n ≤ j ∧ j < l.length ∧ (knd l j = 3 ∨ (stA l j).2 = 2) ∧ prt l j = q):=by
 intro n
 induction n with
 | zero =>
  intro _
  unfold keptS
  refine ⟨⟨fun h => (List.not_mem_nil h).elim,?_⟩,⟨fun h => (List.not_mem_nil h).elim,?_⟩⟩ <;> rintro ⟨j,h1,h2,_⟩ <;> omega
 | succ n ih =>
  intro hn
  obtain ⟨ih1,ih2⟩:=ih (by omega)
  have ej : ∀ j,l.length - (n + 1) ≤ j ↔ j = l.length - 1 - n ∨ l.length - n ≤ j:=fun j => by omega
  unfold keptS
  rw [evK_gA,chkA_st l n (by omega)]
  have hlt : l.length - 1 - n < l.length:=by omega
  split
  ·rename_i hc
   refine ⟨ih1.trans ⟨?_,?_⟩,?_⟩
   ·rintro ⟨j,h1,h2⟩;exact ⟨j,by omega,h2⟩
   ·rintro ⟨j,h1,h2,h3,h4,h5⟩
    rcases (ej j).1 h1 with rfl | h1
    ·rcases hc with hc | hc
     ·have : (0 : Int) = 3:=h3.symm.trans hc;omega
     ·exact absurd hc h4
    ·exact ⟨j,h1,h2,h3,h4,h5⟩
   ·rw [List.mem_cons,ih2]
    constructor
    ·rintro (e | ⟨j,h1,h2⟩)
     ·exact ⟨_,by omega,hlt,hc,e.symm⟩
     ·exact ⟨j,by omega,h2⟩
    ·rintro ⟨j,h1,h2,h3,h4⟩
     rcases (ej j).1 h1 with rfl | h1
     ·exact .inl h4.symm
     ·exact .inr ⟨j,h1,h2,h3,h4⟩
  ·rename_i hc
   have hc3 : ∀ j,l.length - (n + 1) ≤ j → j < l.length → (knd l j = 3 ∨ (stA l j).2 = 2) → l.length - n ≤ j:=by
    intro j h1 h2 h3
    rcases (ej j).1 h1 with rfl | h1
    ·exact absurd h3 hc
    ·exact h1
   have ih2' : q ∈ (keptS p l n).2 ↔ ∃ j,l.length - (n + 1) ≤ j ∧ j < l.length ∧ (knd l j = 3 ∨ (stA l j).2 = 2) ∧ prt l j = q :=
    ih2.trans ⟨fun ⟨j,h1,h2⟩ => ⟨j,by omega,h2⟩,fun ⟨j,h1,h2,h3,h4⟩ => ⟨j,hc3 j h1 h2 h3,h2,h3,h4⟩⟩
   split
   ·rename_i hp
    refine ⟨?_,ih2'⟩
    rw [List.mem_cons,ih1]
    constructor
    ·rintro (e | ⟨j,h1,h2⟩)
     ·exact ⟨_,by omega,hlt,hp.1,fun h => hc (.inr h),hp.2,e.symm⟩
     ·exact ⟨j,by omega,h2⟩
    ·rintro ⟨j,h1,h2,h3,h4,h5,h6⟩
     rcases (ej j).1 h1 with rfl | h1
     ·exact .inl h6.symm
     ·exact .inr ⟨j,h1,h2,h3,h4,h5,h6⟩
   ·rename_i hp
    refine ⟨ih1.trans ⟨fun ⟨j,h1,h2⟩ => ⟨j,by omega,h2⟩,?_⟩,ih2'⟩
    rintro ⟨j,h1,h2,h3,h4,h5,h6⟩
    rcases (ej j).1 h1 with rfl | h1
    ·exact absurd ⟨h3,h5⟩ hp
    ·exact ⟨j,h1,h2,h3,h4,h5,h6⟩
theorem keptL_mem (p : S51 → Int → Bool) (l : List S51) (q : Nm) : q ∈ keptL p l ↔ (∃ j,j < l.length ∧ knd l j = 0 ∧ (stA l j).2 ≠ 2 ∧ p (gA l j) (stA l j).2 = true ∧ prt l j = q) ∧ ¬ ∃ j,j < l.length ∧ (knd l j = 3 ∨ (stA l j).2 = 2) ∧ prt l j = q:=by
 unfold keptL
 obtain ⟨h1,h2⟩:=kept_mem p l q l.length (Nat.le_refl _)
 rw [List.mem_filter,h1]
 simp only [Nat.sub_self,Nat.zero_le,true_and] at h2 ⊢
 rw [Bool.not_eq_true',decide_eq_false_iff_not,h2]
theorem recL_mem (l : List S51) (q : Nm) : q ∈ recL l ↔ (∃ j,j < l.length ∧ (stA l j).2 = 3 ∧ prt l j = q) ∧ ¬ ∃ j,j < l.length ∧ (knd l j = 3 ∨ (stA l j).2 = 2) ∧ prt l j = q:=by
 unfold recL
 rw [keptL_mem]
 refine and_congr_left fun _ => ⟨?_,?_⟩
 ·rintro ⟨j,h1,h2,h3,h4,h5⟩;exact ⟨j,h1,by simpa using h4,h5⟩
 ·rintro ⟨j,h1,h2,h3⟩;exact ⟨j,h1,st_meas (by omega),by omega,by rw [h2];rfl,h3⟩
end Go.Proofs.Ytnmmdeonkpfccaa.Pr
set_option linter.unusedVariables false
namespace Go.Proofs.Ytnmmdeonkpfccaa.Pr
open Go.RowKit Go.Proofs.YtnmmdeonkpfccaaW.PrintWords Go.Proofs.YtnmmdeonkpfccaaW.PrintLast Go.Proofs.YtnmmdeonkpfccaaW.PrintMore
theorem right_ev (l : List S51) (hn : l.length ≤ 2513169434915) : ∃ b,Ev (fun k => metrolablaw53_right.f k l) b ∧ (b = true → l.length ≤ 16 ∧ checkV l = 0):=by
 unfold metrolablaw53_right.f
 by_cases h : (l.length : Int) ≤ 16
 ·simp only [if_pos h]
  obtain ⟨b,hb⟩:=few_ev l ⟨#[]⟩ hn
  cases b
  ·exact ⟨false,Ev.bind hb (by simp only [if_neg (show ¬ (false = true) by decide)];exact Ev.now _),fun h => by cases h⟩
  ·refine ⟨checkV l == 0,Ev.bind hb ?_,fun h2 => ⟨by omega,by simpa using h2⟩⟩
   simp only [if_true]
   exact Ev.bind (own_ev l hn) (Ev.bind (check_ev l hn) (Ev.now _))
 ·simp only [if_neg h]
  exact ⟨false,Ev.now _,fun h => by cases h⟩
theorem nx_none (g : Nm) : ∀ (s : List S51) (i : Nat),(∀ x ∈ s,¬ ((x.f0 = 1 ∨ x.f0 = 2) ∧ x.f1.data.toList = g)) → nx g i s = none
 | [],_,_ => rfl
 | x :: s,i,h => by
  unfold nx
  rw [if_neg (h x (.head _))]
  exact nx_none g s (i + 1) fun y hy => h y (.tail _ hy)
theorem nx_gauge {l : List S51} {g : Nm} : ∀ (d i : Nat) {p : Int × Int},i ≤ l.length → l.length - i = d → nx g i (l.drop i) = some p → ∃ j : Nat,i ≤ j ∧ j < l.length ∧ p.1 = (j : Int) ∧ p.2 = 1 + (gA l j).f0 ∧ ((gA l j).f0 = 1 ∨ (gA l j).f0 = 2) ∧ (gA l j).f1.data.toList = g:=by
 intro d
 induction d with
 | zero =>
  intro i p hi hd h
  rw [show l.drop i = [] from List.drop_eq_nil_of_le (by omega)] at h
  cases h
 | succ d ih =>
  intro i p hi hd h
  obtain ⟨x,hx,hdr⟩:=drop_at (show i < l.length by omega)
  rw [hdr] at h
  unfold nx at h
  split at h
  ·rename_i hc
   obtain rfl:=Option.some.inj h
   exact ⟨i,Nat.le_refl _,by omega,rfl,by rw [gA_at hx],by rw [gA_at hx];exact hc.1,by rw [gA_at hx];exact hc.2⟩
  ·obtain ⟨j,h1,h2,h3⟩:=ih (i + 1) (by omega) (by omega) h
   exact ⟨j,by omega,h2,h3⟩
theorem st_three {l : List S51} {j : Nat} (hj : j < l.length) (h : (stA l j).2 = 3) : ∃ m : Nat,(stA l j).1 = (m : Int) ∧ j < m ∧ m < l.length ∧ knd l m = 2 ∧ (gA l m).f1.data.toList = (gA l j).f1.data.toList:=by
 have h0 : knd l j = 0:=st_meas (by omega)
 unfold stA at h ⊢
 rw [if_pos h0] at h ⊢
 cases hN : nx (gA l j).f1.data.toList (j + 1) (l.drop (j + 1)) with
 | none => rw [hN] at h;simp at h
 | some p =>
  rw [hN] at h
  obtain ⟨m,h1,h2,h3,h4,h5,h6⟩:=nx_gauge (l.length - (j + 1)) (j + 1) (by omega) rfl hN
  simp only [Option.getD_some] at h ⊢
  exact ⟨m,h3,by omega,h2,by show (gA l m).f0 = 2;omega,h6⟩
theorem gA_mem {l : List S51} {j : Nat} (h : j < l.length) : gA l j ∈ l:=by
 rw [gA_at (List.getElem?_eq_getElem h)];exact List.getElem_mem _
theorem gA_app2 {l s : List S51} {j : Nat} (h : l.length ≤ j) : gA (l ++ s) j = gA s (j - l.length):=by
 unfold gA;rw [List.getD_eq_getElem?_getD,List.getD_eq_getElem?_getD,List.getElem?_append_right h]
theorem checkV_eq {l : List S51} (h : l.length ≤ 4096) : checkV l = checkF [] [] l:=by unfold checkV;rw [if_neg (by omega)]
end Go.Proofs.Ytnmmdeonkpfccaa.Pr
set_option linter.unusedVariables false
namespace Go.Proofs.Ytnmmdeonkpfccaa.Pr
open Go.RowKit Go.Proofs.YtnmmdeonkpfccaaW.PrintWords Go.Proofs.YtnmmdeonkpfccaaW.PrintLast Go.Proofs.YtnmmdeonkpfccaaW.PrintMore
def keepG (g : ByteArray) (x : S51) : Bool:=!ckG g x
theorem ckG_iff (g : ByteArray) (x : S51) : ckG g x = true ↔ (x.f0 = 1 ∨ x.f0 = 2) ∧ x.f1.data.toList = g.data.toList:=by
 unfold ckG
 rw [Bool.and_eq_true,Bool.or_eq_true,beq_iff_eq,beq_iff_eq,decide_eq_true_iff]
theorem keepG_false {g : ByteArray} {x : S51} (h : keepG g x = false) : (x.f0 = 1 ∨ x.f0 = 2) ∧ x.f1.data.toList = g.data.toList:=by
 unfold keepG at h
 exact (ckG_iff g x).1 (by cases hc : ckG g x with | true => rfl | false => rw [hc] at h;cases h)
theorem keepG_true {g : ByteArray} {x : S51} (h : keepG g x = true) : ¬ ((x.f0 = 1 ∨ x.f0 = 2) ∧ x.f1.data.toList = g.data.toList):=by
 unfold keepG at h
 intro hc
 rw [(ckG_iff g x).2 hc] at h
 cases h
theorem getD_at {l : List S51} {k : Nat} (h : k < l.length) : l.take (k + 1) = l.take k ++ [l.getD k z51]:=by
 rw [List.take_add_one,List.getD_eq_getElem?_getD,List.getElem?_eq_getElem h];rfl
theorem less_eq (l : List S51) (g : ByteArray) : ∀ n,n ≤ l.length → lessK l g n = (l.take n).filter (keepG g)
 | 0,_ => rfl
 | n + 1,h => by
  unfold lessK
  rw [getD_at (by omega),List.filter_append,less_eq l g n (by omega)]
  by_cases hc : ckG g (l.getD n z51) = true
  ·rw [if_pos hc,List.filter_cons_of_neg (by unfold keepG;rw [hc];decide),List.filter_nil,List.append_nil]
  ·rw [if_neg hc,List.filter_cons_of_pos (by unfold keepG;rw [Bool.eq_false_iff.2 hc];rfl),List.filter_nil]
theorem less_all (l : List S51) (g : ByteArray) : lessK l g l.length = l.filter (keepG g):=by rw [less_eq l g _ (Nat.le_refl _),List.take_length]
theorem check_less (g : ByteArray) : ∀ (l : List S51) (L : List (Nm × ByteArray)) (G : List Nm),checkF L G l = 0 → checkF L G (l.filter (keepG g)) = 0
 | [],L,G,_ => rfl
 | x :: r,L,G,h => by
  rw [checkF_cons] at h
  by_cases hn : namesX x = 0
  ·rw [if_neg (fun h => h hn)] at h
   by_cases hk : keepG g x = true
   ·rw [List.filter_cons_of_pos hk,checkF_cons,if_neg (fun h => h hn)]
    by_cases h0 : x.f0 = 0
    ·rw [if_pos h0] at h ⊢
     by_cases hG : x.f2.data.toList ∈ G
     ·rw [if_pos hG] at h;cases h
     ·rw [if_neg hG] at h ⊢
      cases hL : L.lookup x.f2.data.toList with
      | none => rw [hL] at h;exact check_less g r _ _ h
      | some z =>
       rw [hL] at h
       simp only at h ⊢
       by_cases he : z.data.toList = x.f3.data.toList
       ·rw [if_pos he] at h ⊢;exact check_less g r _ _ h
       ·rw [if_neg he] at h;cases h
    ·rw [if_neg h0] at h ⊢
     by_cases h3 : x.f0 = 3
     ·rw [if_pos h3] at h ⊢
      by_cases hL : L.lookup x.f2.data.toList = none
      ·rw [if_pos hL] at h;cases h
      ·rw [if_neg hL] at h ⊢
       by_cases hG : x.f2.data.toList ∈ G
       ·rw [if_pos hG] at h;cases h
       ·rw [if_neg hG] at h ⊢;exact check_less g r _ _ h
     ·rw [if_neg h3] at h ⊢;exact check_less g r _ _ h
   ·rw [List.filter_cons_of_neg hk]
    have:=(keepG_false (Bool.eq_false_iff.2 hk)).1
    rw [if_neg (show ¬ x.f0 = 0 by omega),if_neg (show ¬ x.f0 = 3 by omega)] at h
    exact check_less g r _ _ h
  ·rw [if_pos hn] at h;exact absurd h hn
theorem at_less (l : List S51) (g : ByteArray) : ∀ n,n ≤ l.length → ∀ k,k < (atK l g n).length → ∃ i : Nat,rd (atK l g n) (k : Int) = (i : Int) ∧ i < n ∧ keepG g (l.getD i z51) = true ∧ ((l.take i).filter (keepG g)).length = k
 | 0,_,k,hk => by simp [atK] at hk
 | n + 1,hn,k,hk => by
  unfold atK at hk ⊢
  by_cases hc : ckG g (l.getD n z51) = true
  ·rw [if_pos hc] at hk ⊢
   obtain ⟨i,h1,h2,h3⟩:=at_less l g n (by omega) k hk
   exact ⟨i,h1,by omega,h3⟩
  ·rw [if_neg hc] at hk ⊢
   rw [List.length_append,List.length_singleton] at hk
   by_cases hl : k < (atK l g n).length
   ·obtain ⟨i,h1,h2,h3⟩:=at_less l g n (by omega) k hl
    refine ⟨i,?_,by omega,h3⟩
    rw [← h1]
    unfold rd
    rw [Int.toNat_natCast,List.getD_eq_getElem?_getD,List.getD_eq_getElem?_getD,List.getElem?_append_left hl]
   ·have hkn : k = (atK l g n).length:=by omega
    refine ⟨n,?_,by omega,by unfold keepG;rw [Bool.eq_false_iff.2 hc];rfl,?_⟩
    ·unfold rd
     rw [Int.toNat_natCast,List.getD_eq_getElem?_getD,List.getElem?_append_right (by omega),hkn,Nat.sub_self];rfl
    ·rw [hkn,atK_len,less_eq l g n (by omega)]
theorem nx_keep {g : ByteArray} {q : Nm} (hq : q ≠ g.data.toList) : ∀ (s : List S51) (i i' : Nat),(nx q i' (s.filter (keepG g))).map (·.2) = (nx q i s).map (·.2)
 | [],_,_ => rfl
 | y :: s,i,i' => by
  by_cases hk : keepG g y = true
  ·rw [List.filter_cons_of_pos hk]
   unfold nx
   by_cases h : (y.f0 = 1 ∨ y.f0 = 2) ∧ y.f1.data.toList = q
   ·rw [if_pos h,if_pos h];rfl
   ·rw [if_neg h,if_neg h];exact nx_keep hq s _ _
  ·rw [List.filter_cons_of_neg hk]
   have:=(keepG_false (Bool.eq_false_iff.2 hk)).2
   rw [nx_keep hq s (i + 1) i']
   conv => rhs;unfold nx
   rw [if_neg (fun h => hq (h.2.symm.trans this))]
theorem rd_states (l : List S51) {k : Nat} (hk : k < l.length) : rd (statesL l) (k : Int) = (stA l k).2:=by
 rw [statesL_eq]
 unfold rd stL
 rw [Int.toNat_natCast,List.getD_eq_getElem?_getD,List.getElem?_map,List.getElem?_range hk];rfl
theorem less_states (l : List S51) (g : ByteArray) : ∀ k,k < (atK l g l.length).length → ∃ i : Nat,rd (atK l g l.length) (k : Int) = (i : Int) ∧ i < l.length ∧ rd (statesL (lessK l g l.length)) (k : Int) = if (l.getD i z51).f0 = 0 ∧ (l.getD i z51).f1.data.toList = g.data.toList then 1 else rd (statesL l) (i : Int):=by
 intro k hk
 obtain ⟨i,h1,h2,h3,h4⟩:=at_less l g l.length (Nat.le_refl _) k hk
 refine ⟨i,h1,h2,?_⟩
 have hkl : k < (lessK l g l.length).length:=by rw [← atK_len];exact hk
 rw [rd_states _ hkl,rd_states _ h2,less_all]
 obtain ⟨x,hx,hdr⟩:=drop_at h2
 have hxd : l.getD i z51 = x:=gA_at hx
 rw [hxd] at h3 ⊢
 have hsplit : l.filter (keepG g) = (l.take i).filter (keepG g) ++ (x :: (l.drop (i + 1)).filter (keepG g)):=by
  conv => lhs;rw [← List.take_append_drop i l,hdr,List.filter_append,List.filter_cons_of_pos h3]
 have hg : gA (l.filter (keepG g)) k = x:=by
  rw [hsplit,gA_app2 (by omega),h4,Nat.sub_self];rfl
 have hd : (l.filter (keepG g)).drop (k + 1) = (l.drop (i + 1)).filter (keepG g):=by
  rw [hsplit,List.drop_append,h4]
  simp [h4]
 unfold stA
 rw [hg,hd,show gA l i = x from gA_at hx]
 by_cases h0 : x.f0 = 0
 ·rw [if_pos h0,if_pos h0]
  by_cases hq : x.f1.data.toList = g.data.toList
  ·rw [if_pos ⟨h0,hq⟩,hq,nx_none _ _ _ (fun y hy h => keepG_true (List.mem_filter.1 hy).2 h)];rfl
  ·rw [if_neg (fun h => hq h.2)]
   have:=nx_keep hq (l.drop (i + 1)) (i + 1) (k + 1)
   have gen : ∀ a b : Option (Int × Int),a.map (·.2) = b.map (·.2) → (a.getD (-1,1)).2 = (b.getD (-1,1)).2:=by
    intro a b hab
    cases a with
    | none => cases b with
     | none => rfl
     | some _ => cases hab
    | some u => cases b with
     | none => cases hab
     | some v => exact Option.some.inj hab
   exact gen _ _ this
 ·rw [if_neg h0,if_neg h0,if_neg (fun h => h0 h.1)]
theorem bad_mem (l : List S51) (q : Nm) : ∀ n,q ∈ badK l n ↔ ∃ i,i < n ∧ (l.getD i z51).f0 = 2 ∧ (l.getD i z51).f1.data.toList = q
 | 0 => ⟨(fun h => by cases h),(fun ⟨i,h,_⟩ => by omega)⟩
 | n + 1 => by
  unfold badK
  have ih:=bad_mem l q n
  split
  ·rename_i h
   rw [List.mem_cons,ih]
   constructor
   ·rintro (e | ⟨i,h1,h2⟩)
    ·exact ⟨n,by omega,h,e.symm⟩
    ·exact ⟨i,by omega,h2⟩
   ·rintro ⟨i,h1,h2,h3⟩
    by_cases e : i = n
    ·subst e;exact .inl h3.symm
    ·exact .inr ⟨i,by omega,h2,h3⟩
  ·rename_i h
   rw [ih]
   constructor
   ·rintro ⟨i,h1,h2⟩;exact ⟨i,by omega,h2⟩
   ·rintro ⟨i,h1,h2,h3⟩
    by_cases e : i = n
    ·subst e;exact absurd h2 h
    ·exact ⟨i,by omega,h2,h3⟩
theorem bad_parts (l : List S51) : ∀ p ∈ strs (recL l),l.any (badP p (badK l l.length)) = true:=by
 intro p hp
 obtain ⟨q,hq,rfl⟩:=List.mem_map.1 (show p ∈ bs (sortU (recL l)) from hp)
 rw [mem_sortU,recL_mem] at hq
 obtain ⟨⟨j,h1,h2,h3⟩,_⟩:=hq
 obtain ⟨m,m1,m2,m3,m4,m5⟩:=st_three h1 h2
 have hk : knd l j = 0:=st_meas (by omega)
 rw [List.any_eq_true]
 refine ⟨gA l j,gA_mem h1,?_⟩
 unfold badP
 have hb : (gA l j).f1.data.toList ∈ badK l l.length:=(bad_mem l _ _).2 ⟨m,m3,m4,m5⟩
 have hk' : (gA l j).f0 = 0:=hk
 have h3' : (gA l j).f2.data.toList = (mkB q).data.toList:=h3
 rw [hk',decide_eq_true h3',decide_eq_true hb];rfl
set_option maxHeartbeats 1000000 in
set_option maxRecDepth 100000 in
theorem gauges_awake (A0 : Option Addr) (c0 : Nat) (l : List S51) (g : ByteArray) (w : World) (hr0 : Kd.C k51 w A0 l.length l) (hc0 : l.length ≤ c0) (kk : Nat) (b : Bool) (hri : metrolablaw53_right.f kk l = some b) (hb : b = false ∨ 60 < g.size) :
  Calls Try.prog 6 #[.slice A0 l.length c0,.string g] w fun e w' => e = .returned (.bool true) ∧ Below w.heap.size w w':=by
 have HRI:=Aside0.mk (metrolablaw53_right.calls kk A0 c0 l b w hr0 hc0 hri)
 clear hr0 hc0 hri
 cases b with
 | false =>
  clear hb
  go_enter Try.func6,Try.ntmps6
  go_wp2_with (first | (go_at_call 28;refine HRI.out.mono ?_;rintro e w1 ⟨rfl,hb1⟩;have HB1:=Aside0.mk hb1;clear hb1) | (go_at_call 10;refine (metrolablaw53_awake.calls true _ rfl).mono ?_;rintro e w8 ⟨rfl,hb⟩;have HB8:=Aside0.mk hb;clear hb))
  go_ret
  exact ⟨rfl,HB1.out.trans (HB8.out.mono HB1.out.size)⟩
 | true =>
  have hg60 : decide (60 < (g.size : Int)) = true:=decide_eq_true (by rcases hb with h | h;cases h;omega)
  clear hb
  go_enter Try.func6,Try.ntmps6
  go_wp2_with (first | (go_at_call 28;refine HRI.out.mono ?_;rintro e w1 ⟨rfl,hb1⟩;have HB1:=Aside0.mk hb1;clear hb1) | (go_at_call 10;refine (metrolablaw53_awake.calls true _ rfl).mono ?_;rintro e w8 ⟨rfl,hb⟩;have HB8:=Aside0.mk hb;clear hb))
  go_ret
  exact ⟨rfl,HB1.out.trans (HB8.out.mono HB1.out.size)⟩
def metrolablaw53_RecallGauges.f (k : Nat) (l : List S51) (a : ByteArray) : Option Bool:=if l.length ≤ 2513169434915 then some true else none
theorem metrolablaw53_RecallGauges.calls (k : Nat) (A0 : Option Addr) (c0 : Nat) (l0 : List S51) (a1 : ByteArray) (r : Bool) (w : World) (hr0 : Kd.C k51 w A0 l0.length l0) (hc0 : l0.length ≤ c0) (hlaw : Aside0 (r = true)) (h : metrolablaw53_RecallGauges.f k l0 a1 = some r) :
  Calls Try.prog 6 #[.slice A0 l0.length c0,.string a1] w fun e w' => e = .returned (.bool r) ∧ Below w.heap.size w w':=by
 unfold metrolablaw53_RecallGauges.f at h
 split at h
 ·rename_i hn
  obtain rfl:=Option.some.inj h
  obtain ⟨b,hb,hr⟩:=right_ev l0 hn
  obtain ⟨kk,hk⟩:=Ev.rounds hb
  by_cases hc : b = false ∨ 60 < a1.size
  ·exact gauges_awake A0 c0 l0 a1 w hr0 hc0 kk b hk hc
  ·have hbt : b = true:=by cases b with | true => rfl | false => exact absurd (.inl rfl) hc
   subst hbt
   obtain ⟨h16,hck⟩:=hr rfl
   refine gauges_ok A0 c0 l0 a1 w hr0 hc0 kk hk h16 hck ?_ (by have:=fun h => hc (.inr h);omega) (less_states l0 a1) (bad_parts l0)
   have hll:=lessK_len l0 a1 l0.length
   rw [checkV_eq (by omega),less_all]
   refine check_less a1 l0 _ _ ?_
   rw [← checkV_eq (by omega)];exact hck
 ·cases h
end Go.Proofs.Ytnmmdeonkpfccaa.Pr
set_option linter.unusedVariables false
namespace Go.Proofs.Ytnmmdeonkpfccaa.Pr
open Go.RowKit Go.ChangeShapes Go.WideShapes Go.Deep Go.Proofs.YtnmmdeonkpfccaaW.PrintWords Go.Proofs.YtnmmdeonkpfccaaW.PrintLast Go.Proofs.YtnmmdeonkpfccaaW.PrintMore
def okEv (x : S51) : Prop:=(Lit.int .i64 x.f0).wf = true ∧ x.f1.size ≤ maxLen ∧ x.f2.size ≤ maxLen ∧ x.f3.size ≤ maxLen
variable {H : Type} {enc : TypeId × Value → H} {w : World} {base : Nat} {spare : Nat → Bool} {held : Bool}
set_option maxRecDepth 20000 in
theorem open_event {n : Nat} {cs : List Value} {x : DataW H × List MemPlace} (h : DataW.trod enc Try.prog w base spare held n 51 cs = some x) : ∃ e : S51,cs = [.int .i64 e.f0,.string e.f1,.string e.f2,.string e.f3] ∧ okEv e:=by
 obtain ⟨ys,n',hn',hy,hlen,hyl,hf⟩:=DataW.trod_struct Try.underlying51 h
 have hc4 : cs.length = 4:=hlen.trans (by kernel_rfl)
 match cs,hc4 with
 | [c0,c1,c2,c3],_ =>
  match ys,hyl with
  | [y0,y1,y2,y3],_ =>
   have h0:=hf 0 _ rfl
   have h1:=hf 1 _ rfl
   have h2:=hf 2 _ rfl
   have h3:=hf 3 _ rfl
   have e3 : Try.prog.cellsOf 3 = 1:=by kernel_rfl
   have e9 : Try.prog.cellsOf 9 = 1:=by kernel_rfl
   change DataW.trod enc Try.prog w base spare held n' 3 (([c0,c1,c2,c3].drop 0).take (Try.prog.cellsOf 3)) = some y0 at h0
   change DataW.trod enc Try.prog w base spare held n' 9 (([c0,c1,c2,c3].drop 1).take (Try.prog.cellsOf 9)) = some y1 at h1
   change DataW.trod enc Try.prog w base spare held n' 9 (([c0,c1,c2,c3].drop 2).take (Try.prog.cellsOf 9)) = some y2 at h2
   change DataW.trod enc Try.prog w base spare held n' 9 (([c0,c1,c2,c3].drop 3).take (Try.prog.cellsOf 9)) = some y3 at h3
   rw [e3] at h0
   rw [e9] at h1 h2 h3
   obtain ⟨k,hk,_,hw⟩:=DataW.trod_int Try.underlying3 h0
   obtain ⟨s1,hs1,_,z1⟩:=DataW.trod_string Try.underlying9 h1
   obtain ⟨s2,hs2,_,z2⟩:=DataW.trod_string Try.underlying9 h2
   obtain ⟨s3,hs3,_,z3⟩:=DataW.trod_string Try.underlying9 h3
   cases hk;cases hs1;cases hs2;cases hs3
   exact ⟨⟨k,s1,s2,s3⟩,rfl,hw,z1,z2,z3⟩
theorem open_events {fuel : Nat} {cs : List Value} {x : DataW H × List MemPlace} (h : DataW.trod enc Try.prog w base spare held fuel 22 cs = some x) :
  (cs = [.slice none 0 0] ∧ x = (.nil,[])) ∨
  ∃ (a : Addr) (len cap : Nat) (es sp : List (DataW H)) (l : List S51),cs = [.slice (some a) len cap] ∧ len ≤ cap ∧ x.1 = .slice es sp ∧ es.length = len ∧ l.length = len ∧ Kd.C k51 w (some a) len l ∧ ∀ y ∈ l,okEv y:=by
 rcases open_slice Try.underlying22 h with h0 | ⟨a,len,cap,m,n,D,Pl,hcs,hb,hl,hm,hmm,hx,hi⟩
 ·exact .inl h0
 ·refine .inr ⟨a,len,cap,(List.range len).map D,(List.range (m - len)).map (fun j => D (len + j)),?_⟩
  have hC : Try.prog.cellsOf 51 = 4:=by kernel_rfl
  have hlm : len ≤ m:=by rw [hmm];split;exact hl;exact Nat.le_refl _
  have hev : ∀ i,i < len → ∃ e : S51,okEv e ∧ ∀ j u,[Value.int .i64 e.f0,.string e.f1,.string e.f2,.string e.f3][j]? = some u → w.cell? (a.add (i * 4 + j)) = some u:=by
   intro i hil
   obtain ⟨cs',hc,ht⟩:=hi i (Nat.lt_of_lt_of_le hil hlm)
   obtain ⟨e,he,hok⟩:=open_event ht
   rw [hC] at hc
   obtain ⟨_,hcl,hat⟩:=World.cells?_some hc
   refine ⟨e,hok,fun j u hj => ?_⟩
   have hj4 : j < 4:=by
    have:=(List.getElem?_eq_some_iff.1 hj).1
    simpa using this
   have:=hat j hj4
   rw [he,hj,Go.Deep.add_add] at this
   exact this
  have hf : ∃ f : Nat → S51,∀ i,i < len → okEv (f i) ∧ ∀ j u,[Value.int .i64 (f i).f0,.string (f i).f1,.string (f i).f2,.string (f i).f3][j]? = some u → w.cell? (a.add (i * 4 + j)) = some u:=by
   refine ⟨fun i => if hil : i < len then Classical.choose (hev i hil) else z51,fun i hil => ?_⟩
   simp only [dif_pos hil]
   exact Classical.choose_spec (hev i hil)
  obtain ⟨f,hf⟩:=hf
  refine ⟨(List.range len).map f,hcs,hl,by rw [hx],by simp,by simp,?_,?_⟩
  ·refine ⟨by simp,by unfold maxLen at hm;omega,fun _ => ⟨a,rfl,fun j p hj => ?_⟩⟩
   have hjl : j < len:=by
    have:=(List.getElem?_eq_some_iff.1 hj).1
    simpa using this
   have hp : p = f j:=by
    rw [List.getElem?_map,List.getElem?_range hjl] at hj
    exact (Option.some.inj hj).symm
   subst hp
   exact ⟨_,rfl,k51_mk w (f j),(hf j hjl).2⟩
  ·intro y hy
   obtain ⟨i,hi',rfl⟩:=List.mem_map.1 hy
   exact (hf i (List.mem_range.1 hi')).1
end Go.Proofs.Ytnmmdeonkpfccaa.Pr
namespace Go.Proofs.Ytnmmdeonkpfccaa.Pr
open Go.RowKit
def metrolablaw53_RecallGauges.Pure : Prop:=∀ (l0 : List S51) (a1 : ByteArray),l0.length * 56 ≤ 140737488351232 → (∀ x ∈ l0,okEv x) → a1.size ≤ 140737488351232 → ∃ k,metrolablaw53_RecallGauges.f k l0 a1 = some true
end Go.Proofs.Ytnmmdeonkpfccaa.Pr
namespace Go.Proofs.Ytnmmdeonkpfccaa.Pure
open Go.RowKit Go.Proofs.Ytnmmdeonkpfccaa.Pr Go.Proofs.YtnmmdeonkpfccaaW.PrintWords Go.Proofs.YtnmmdeonkpfccaaW.PrintLast
theorem RecallGauges : metrolablaw53_RecallGauges.Pure:=by
 intro l0 a1 hl _ _
 exact ⟨0,by unfold metrolablaw53_RecallGauges.f;rw [if_pos (by omega)]⟩
end Go.Proofs.Ytnmmdeonkpfccaa.Pure
namespace Go.Proofs.Ytnmmdeonkpfccaa.recallGauges
open Go.ChangeShapes Go.WideShapes Go.ChangeAt Go.RowKit
open Go.ChangeMaps (open_string shut_string)
set_option linter.unusedVariables false
theorem own : ownKnob Try.prog.godebug = none:=by kernel_rfl
theorem laidOut : laidOutB Try.prog = true:=by kernel_rfl
set_option maxRecDepth 100000 in
theorem lifted (os : Os) (started : os.Started) (H : Type) (enc : TypeId × Value → H) :
  ReturnsInHanded {} Try.checked os 6 .any (Rows.recallGaugesSpec.pre6 enc Try.prog Try.f6 Rows.recallGaugesRow.domain false) (Rows.recallGaugesSpec.post enc Try.prog Try.f6 false true false false):=by
 refine returnsInHanded_of_change_sized (C:=Try.checked) own started (by kernel_rfl) Try.func6
  (ChangeSpec.witness6 (enc:=enc) (C:=Try.checked) false ⟨#[],#[.slice none 0 0,.string ByteArray.empty],[]⟩ 8 (by kernel_rfl) (by kernel_rfl) (by kernel_rfl) (by kernel_rfl)) ?_
 intro W base args ds gs before hval0 hW hcnd hsz0 _
 have hsz : (DataW.weightsEach Try.prog (Try.f6.params.toList ++ Rows.recallGaugesSpec.plain.varTypes Try.prog) (ds ++ gs)).all (· ≤ reachBytes) = true:=hsz0
 have hval : ∀ (j : Nat) t v,Try.f6.params[j]? = some t → args[j]? = some v → Value.okWide Try.prog W .any base t v:=hval0
 have hW':=hW
 obtain ⟨p,q,hA0,hV,rfl,hfz,hnd⟩:=hW
 have hA : DataW.TrodAll enc Try.prog W 0 (fun _ => true) true Try.f6.params.toList args.toList ds p:=hA0
 rw [Try.params6] at hA hval hsz
 obtain ⟨v0,vs0,d0,ds0,p0,q0,hargs,rfl,rfl,h0,r0⟩:=trodAll_cons hA
 obtain ⟨v1,vs1,d1,ds1,p1,q1,rfl,rfl,rfl,h1,r1⟩:=trodAll_cons r0
 obtain ⟨rfl,rfl,rfl⟩:=trodAll_nil r1
 obtain rfl : args = #[v0,v1]:=by cases args;simp_all
 obtain ⟨rfl,rfl⟩:=trodVars_none hV
 obtain ⟨a0,len0,cap0,rfl⟩:=okWide_slice Try.underlying22 (hval 0 22 v0 rfl rfl)
 have k0:=h0
 have lt0 : ∀ x ∈ p0,x.block < W.heap.size:=by obtain ⟨m,hm⟩:=k0;exact DataW.trod_lt m _ _ _ hm
 obtain ⟨z0,rfl,hC0,hcap0,hev0,y0⟩ : ∃ zs : List Pr.S51,len0 = zs.length ∧ YtnmmdeonkpfccaaW.PrintWords.Kd.C Pr.k51 W a0 zs.length zs ∧ zs.length ≤ cap0 ∧ (∀ y ∈ zs,Pr.okEv y) ∧ zs.length * 56 ≤ 140737488351232:=by
  obtain ⟨fuel,hf⟩:=h0
  rcases Pr.open_events hf with ⟨hcs,_⟩ | ⟨a,len,cap,es,sp,l,hcs,hl,hx,hes,hll,hC,hok⟩
  ·simp [Value.cells] at hcs
   obtain ⟨rfl,rfl,rfl⟩:=hcs
   exact ⟨[],rfl,⟨rfl,(by simp only [List.length_nil];omega),fun h => absurd h (by simp only [List.length_nil];omega)⟩,Nat.le_refl _,(fun _ h => by cases h),by simp⟩
  ·simp [Value.cells] at hcs
   obtain ⟨rfl,rfl,rfl⟩:=hcs
   have z:=sized_slice hsz (j:=0) (t:=22) rfl (congrArg some hx) Try.underlying22
   rw [show Try.prog.bytesOf 51 = 56 by kernel_rfl,hes,← hll] at z
   exact ⟨l,hll.symm,hll ▸ hC,hll ▸ hl,hok,Nat.le_trans (Nat.mul_le_mul_right _ (Nat.le_add_right _ _)) z⟩
 obtain ⟨a1,rfl,rfl,rfl,y1⟩:=open_string Try.underlying9 (hval 1 9 v1 rfl rfl) h1
 have w1 : a1.size ≤ 140737488351232:=by
  have z:=sized_string hsz (j:=1) (t:=9) rfl rfl
  rw [Array.length_toList] at z
  exact z
 clear hA0 hval0 hsz0 hsz
 obtain ⟨k,hk⟩:=Pure.RecallGauges z0 a1 y0 hev0 w1
 refine (Pr.metrolablaw53_RecallGauges.calls k a0 cap0 z0 a1 true W hC0 hcap0 ⟨rfl⟩ hk).mono fun e W' ⟨he,bel⟩ => ?_
 subst he
 exact ⟨_,rfl,_,_,_,[],_,[],hW',trodAll_mk1 (shut_bool Try.underlying4 _),(trodAll_cons_mk (Below.trod laidOut (by kernel_rfl) (of_decide_eq_true (by kernel_rfl)) k0 bel lt0) (trodAll_cons_mk (shut_string Try.underlying9 y1) trodAll_mk0)),rfl,bel.frame _,fun h => by cases h⟩
theorem over : Rows.recallGaugesRow.holds Try.pinned (OpenSpec.ofChange Rows.recallGaugesSpec) :=
 OpenClaim.holds_of_wide 6 Try.f6 rfl rfl rfl rfl rfl rfl rfl ⟨rfl,rfl,rfl,rfl,rfl⟩ rfl rfl rfl rfl rfl (by kernel_rfl) Try.func6 (by kernel_rfl)
  (of_decide_eq_true (by kernel_rfl)) (by unfold Func.isWrapper;first | (rw [if_pos (by decide +kernel)];kernel_rfl) | (rw [if_neg (by decide +kernel)];exact ⟨rfl,rfl⟩))
  (fun os started H enc _ => lifted os started H enc)
theorem proved : Rows.RecallGaugesSaid:=over
#print axioms proved
end Go.Proofs.Ytnmmdeonkpfccaa.recallGauges
namespace Go.Proofs.Ytnmmdeonkpfccaa
theorem recallGauges_holds : Rows.RecallGaugesSaid:=recallGauges.proved
end Go.Proofs.Ytnmmdeonkpfccaa
