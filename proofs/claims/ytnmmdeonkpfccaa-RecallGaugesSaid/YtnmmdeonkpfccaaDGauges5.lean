/- A part of the statement's proof. -/
import Derived.Test.YtnmmdeonkpfccaaDGauges4
import Derived.Test.YtnmmdeonkpfccaaDGauges2
set_option linter.unusedVariables false
namespace Go.Proofs.Ytnmmdeonkpfccaa.Pr
open Go.RowKit Go.Shelf Go.Maps Go.Proofs.YtnmmdeonkpfccaaW.PrintWords Go.Proofs.YtnmmdeonkpfccaaW.PrintLast Go.Proofs.YtnmmdeonkpfccaaW.PrintMore
open Go.Proofs.Ytnmmdeonkpfccaa.Rg
attribute [local go_sem] Oper.semAt_some
def evK (l : List S51) (k : Nat) : S51:=l.getD (l.length - 1 - k) z51
def keptS (p : S51 → Int → Bool) (l : List S51) : Nat → List (List UInt8) × List (List UInt8)
 | 0 => ([],[])
 | k + 1 => if (evK l k).f0 = 3 ∨ (chkA l k).2 = 2 then ((keptS p l k).1,(evK l k).f2.data.toList :: (keptS p l k).2)
  else if (evK l k).f0 = 0 ∧ p (evK l k) (chkA l k).2 = true then ((evK l k).f2.data.toList :: (keptS p l k).1,(keptS p l k).2) else keptS p l k
def keptL (p : S51 → Int → Bool) (l : List S51) : List (List UInt8):=(keptS p l l.length).1.filter fun q => !decide (q ∈ (keptS p l l.length).2)
theorem fSet_drop (O N : List (List UInt8)) : dropF (fSet O) (fun q => decide (q ∈ N)) = fSet (O.filter fun q => !decide (q ∈ N)):=by
 funext q
 unfold dropF fSet
 by_cases h : q ∈ N
 ·rw [if_pos (decide_eq_true h),if_neg (by rw [List.mem_filter];rintro ⟨_,h2⟩;simp [h] at h2)]
 ·rw [if_neg (by simpa using h)]
  by_cases h2 : q ∈ O
  ·rw [if_pos h2,if_pos (List.mem_filter.2 ⟨h2,by simp [h]⟩)]
  ·rw [if_neg h2,if_neg (fun h3 => h2 (List.mem_filter.1 h3).1)]
set_option maxHeartbeats 1000000 in
theorem never72 (s : ByteArray) (hs : s.size ≤ maxLen) (val : Value) (Bn bn n : Nat) (N : List (List UInt8)) (W : World) (hb : W.cell? ⟨Bn,0,none⟩ = some (.map (some bn))) (hm : MapF Try.prog 9 W bn n (fSet N)) :
  Calls Try.prog 72 #[.string s,val,.pointer (some ⟨Bn,0,none⟩)] W fun e w' => e = .returned (.bool (decide (s.data.toList ∈ N))) ∧ w' = W:=by
 have HV:=Aside0.mk (show (fSet N s.data.toList).getD (.bool false) = .bool (decide (s.data.toList ∈ N)) from by unfold fSet;by_cases h : s.data.toList ∈ N <;> simp [h])
 go_enter Try.func72,Try.ntmps72
 go_wp2_with (at_lookup;refine wpList_lookF rfl _ _ 49 rfl 9 4 Try.underlying9 Try.underlying49 (Try.zeroValue4 _) rfl hm s rfl hs _ HV.out ?_)
 go_ret
 exact ⟨rfl,rfl⟩
set_option maxHeartbeats 1000000 in
theorem never56 (s : ByteArray) (hs : s.size ≤ maxLen) (val : Value) (Bn bn n : Nat) (N : List (List UInt8)) (W : World) (hb : W.cell? ⟨Bn,0,none⟩ = some (.map (some bn))) (hm : MapF Try.prog 9 W bn n (fSet N)) :
  Calls Try.prog 56 #[.string s,val,.pointer (some ⟨Bn,0,none⟩)] W fun e w' => e = .returned (.bool (decide (s.data.toList ∈ N))) ∧ w' = W:=by
 have HV:=Aside0.mk (show (fSet N s.data.toList).getD (.bool false) = .bool (decide (s.data.toList ∈ N)) from by unfold fSet;by_cases h : s.data.toList ∈ N <;> simp [h])
 go_enter Try.func56,Try.ntmps56
 go_wp2_with (at_lookup;refine wpList_lookF rfl _ _ 49 rfl 9 4 Try.underlying9 Try.underlying49 (Try.zeroValue4 _) rfl hm s rfl hs _ HV.out ?_)
 go_ret
 exact ⟨rfl,rfl⟩
theorem delete_ok (g : Nat) (eg : ∀ args w,(callFunc g args).run Try.prog w = .ok (.enter g args) w)
  (hgc : ∀ (s : ByteArray) (_ : s.size ≤ maxLen) (val : Value) (Bn bn n : Nat) (N : List (List UInt8)) (W : World) (_ : W.cell? ⟨Bn,0,none⟩ = some (.map (some bn))) (_ : MapF Try.prog 9 W bn n (fSet N)),
   Calls Try.prog g #[.string s,val,.pointer (some ⟨Bn,0,none⟩)] W fun e w' => e = .returned (.bool (decide (s.data.toList ∈ N))) ∧ w' = W)
  (b n Bn bn nn : Nat) (O N : List (List UInt8)) (w : World) (hO : MapF Try.prog 9 w b n (fSet O)) (hb : w.cell? ⟨Bn,0,none⟩ = some (.map (some bn))) (hN : MapF Try.prog 9 w bn nn (fSet N)) (hne : bn ≠ b) (hne2 : Bn ≠ b) :
  Calls Try.prog 55 #[.map (some b),.func (.func g) #[] #[.pointer (some ⟨Bn,0,none⟩)]] w fun e w' => e = .returned (.tuple #[]) ∧ MapF Try.prog 9 w' b n (fSet (O.filter fun q => !decide (q ∈ N))) ∧ w.grownBy w' (some b):=by
 obtain ⟨D,hown,ht⟩:=hO
 have hlt : Bn < w.heap.size:=World.block_lt_of_cell? w _ hb
 refine (AnyDf.maps_DeleteFunc Try.del55 (string_keyed Try.underlying9) RV (fun kl _ => match kl with | .string q => decide (q ∈ N) | _ => false) g #[.pointer (some ⟨Bn,0,none⟩)] b n D w eg hown ?_).mono ?_
 ·intro W key val kl yd yp hg hk _
  obtain ⟨x,rfl,rfl,hx⟩:=Maps.keyOf_str Try.underlying9 hk
  have hbW : W.cell? ⟨Bn,0,none⟩ = some (.map (some bn)):=(World.cell?_of_block (hg.block Bn hlt (by simpa using hne2))).trans hb
  have:=hgc ⟨x.toArray⟩ (by simpa [ByteArray.size] using hx) val Bn bn nn N W hbW (hN.kept hg (by simpa using hne))
  refine Calls.mono this ?_
  rintro e w' ⟨rfl,rfl⟩
  exact ⟨by simp,World.grownBy.refl _ _⟩
 ·rintro e w' ⟨rfl,h1,h2⟩
  refine ⟨rfl,⟨_,h1,?_⟩,h2⟩
  rw [← fSet_drop]
  exact ht.drop hown.isMap _ _ (fun q d => rfl)
def NearC (C : Nat → Prop) (X Y : World) : Prop:=X.os = Y.os ∧ X.tape = Y.tape ∧ X.output = Y.output ∧ KeepC C X Y
theorem NearC.refl (C : Nat → Prop) (X : World) : NearC C X X:=⟨rfl,rfl,rfl,KeepC.refl _ _⟩
theorem NearC.alloc {C : Nat → Prop} {X Y : World} (h : NearC C X Y) (o : Obj) : NearC C X (Y.alloc o):=⟨h.1,h.2.1,h.2.2.1,h.2.2.2.alloc o⟩
theorem NearC.grown {C : Nat → Prop} {M : Nat} {X Y Z : World} (h : NearC C X Y) (hg : Y.grownBy Z (some M)) (hM : C M) : NearC C X Z :=
 ⟨h.1.trans hg.os.symm,h.2.1.trans hg.tape.symm,h.2.2.1.trans hg.output.symm,h.2.2.2.grown hg (fun k e => by cases e;exact .inr hM)⟩
theorem NearC.below {C : Nat → Prop} {X Y Z : World} (h : NearC C X Y) (hb : Below Y.heap.size Y Z) : NearC C X Z:=⟨h.1.trans hb.os.symm,h.2.1.trans hb.tape.symm,h.2.2.1.trans hb.output.symm,h.2.2.2.of_below hb⟩
theorem NearC.setCell {C : Nat → Prop} {X Y : World} (h : NearC C X Y) {p : Addr} (hp : X.heap.size ≤ p.block ∨ C p.block) (u : Value) : NearC C X (Y.setCell p u):=⟨h.1,h.2.1,h.2.2.1,h.2.2.2.setCell hp u⟩
def Judges (fs : Nat) (lbs : Array Value) (p : S51 → Int → Bool) (w : World) : Prop:=∀ (W : World) (x : S51) (s : Int),Below w.heap.size w W → Calls Try.prog fs (#[evV x,.int .i64 s] ++ lbs) W fun e w' => e = .returned (.bool (p x s)) ∧ Below W.heap.size W w'
set_option maxRecDepth 100000 in
set_option maxHeartbeats 1000000 in
theorem kept_ok (A0 : Option Addr) (c0 : Nat) (l : List (S51)) (fs : Nat) (lbs : Array Value) (p : S51 → Int → Bool) (w : World) (hr0 : Kd.C k51 w A0 l.length l) (hl : l.length ≤ 4096) (hg : ∀ x ∈ l,x.f1.size ≤ 24) (hg2 : ∀ x ∈ l,x.f2.size ≤ 24)
  (eg : ∀ args w,(callFunc fs args).run Try.prog w = .ok (.enter fs args) w) (hj : Judges fs lbs p w) :
  Calls Try.prog 53 #[.slice A0 l.length c0,.func (.func fs) #[] lbs] w fun e w' => ∃ b,e = .returned (.map (some b)) ∧ w.heap.size ≤ b ∧ MapF Try.prog 9 w' b 4096 (fSet (keptL p l)) ∧ Below w.heap.size w w':=by
 have hlt:=slice_lt hr0
 have HR0:=Aside0.mk hr0
 have HG:=Aside0.mk hg
 have HG2:=Aside0.mk hg2
 have HLT:=Aside0.mk hlt
 have HJJ:=Aside0.mk hj
 have hmm:=@run_makeMap Try.prog
 have hf38 : Fence.wide.fn 38:=trivial
 have hf55 : Fence.wide.fn 55:=trivial
 clear hr0 hg hg2 hlt hj
 refine (callsIn_wide (n:=3)).1 ?_
 refine callsIn_of_wp_marks Try.func53 rfl trivial ?_ rfl
 simp only [Try.ntmps53,List.size_toArray,List.length_cons,List.length_nil,Nat.reduceAdd,Nat.reduceSub,Array.replicate_succ,Array.replicate_zero,List.push_toArray,List.append_toArray,List.nil_append,List.cons_append]
 obtain ⟨W6,hW6⟩ : ∃ W6,(((((w.alloc (Obj.cells #[Value.slice A0 l.length c0] 22)).alloc (Obj.cells #[Value.func (.func fs) #[] lbs] 80)).alloc (Obj.map #[] 0)).alloc (Obj.cells #[Value.map (some (w.heap.size + 2))] 49)).alloc (Obj.map #[] 0)).alloc (Obj.cells #[Value.map (some (w.heap.size + 4))] 49) = W6:=⟨_,rfl⟩
 have hs6 : W6.heap.size = w.heap.size + 6:=by rw [← hW6];simp
 have hb6 : Below w.heap.size w W6:=by rw [← hW6];exact ((((((Below.refl _ w).alloc (Nat.le_refl _) _).alloc (by simp) _).alloc (by simp;omega) _).alloc (by simp;omega) _).alloc (by simp;omega) _).alloc (by simp;omega) _
 have k0 : W6.heap[w.heap.size]? = some (.cells #[.slice A0 l.length c0] 22):=by rw [← hW6];exact blk_alloc (blk_alloc (blk_alloc (blk_alloc (blk_alloc (blk_new _ _) _) _) _) _) _
 have k1 : W6.heap[w.heap.size + 1]? = some (.cells #[.func (.func fs) #[] lbs] 80):=by
  rw [← hW6]
  have:=blk_new (w.alloc (Obj.cells #[Value.slice A0 l.length c0] 22)) (Obj.cells #[Value.func (.func fs) #[] lbs] 80)
  rw [World.size_alloc] at this
  exact blk_alloc (blk_alloc (blk_alloc (blk_alloc this _) _) _) _
 have k2 : MapF Try.prog 9 W6 (w.heap.size + 2) 0 (fSet []):=by
  rw [← hW6,fSet_nil]
  have:=MapF.made ((w.alloc (Obj.cells #[Value.slice A0 l.length c0] 22)).alloc (Obj.cells #[Value.func (.func fs) #[] lbs] 80)) Try.prog 9
  rw [World.size_alloc,World.size_alloc] at this
  exact ((this.alloc _).alloc _).alloc _
 have k3 : W6.heap[w.heap.size + 3]? = some (.cells #[.map (some (w.heap.size + 2))] 49):=by
  rw [← hW6]
  have:=blk_new (((w.alloc (Obj.cells #[Value.slice A0 l.length c0] 22)).alloc (Obj.cells #[Value.func (.func fs) #[] lbs] 80)).alloc (Obj.map #[] 0)) (Obj.cells #[Value.map (some (w.heap.size + 2))] 49)
  rw [World.size_alloc,World.size_alloc,World.size_alloc] at this
  exact blk_alloc (blk_alloc this _) _
 have k4 : MapF Try.prog 9 W6 (w.heap.size + 4) 0 (fSet []):=by
  rw [← hW6,fSet_nil]
  have:=MapF.made ((((w.alloc (Obj.cells #[Value.slice A0 l.length c0] 22)).alloc (Obj.cells #[Value.func (.func fs) #[] lbs] 80)).alloc (Obj.map #[] 0)).alloc (Obj.cells #[Value.map (some (w.heap.size + 2))] 49)) Try.prog 9
  rw [World.size_alloc,World.size_alloc,World.size_alloc,World.size_alloc] at this
  exact this.alloc _
 have k5 : W6.heap[w.heap.size + 5]? = some (.cells #[.map (some (w.heap.size + 4))] 49):=by
  rw [← hW6]
  have:=blk_new (((((w.alloc (Obj.cells #[Value.slice A0 l.length c0] 22)).alloc (Obj.cells #[Value.func (.func fs) #[] lbs] 80)).alloc (Obj.map #[] 0)).alloc (Obj.cells #[Value.map (some (w.heap.size + 2))] 49)).alloc (Obj.map #[] 0)) (Obj.cells #[Value.map (some (w.heap.size + 4))] 49)
  rw [World.size_alloc,World.size_alloc,World.size_alloc,World.size_alloc,World.size_alloc] at this
  exact this
 have hc60 : W6.cell? ⟨w.heap.size,0,none⟩ = some (.slice A0 l.length c0):=(blk_cell k0 0).trans rfl
 gi_wp2_with ((first | refine ⟨fun h => absurd h (by decide),?_⟩ | skip);gi_at_call 38;refine (states_in _ A0 c0 l.length _).mono ?_;rintro e w' ⟨rfl,rfl⟩)
 obtain ⟨Wl,hWl⟩ : ∃ Wl,W6.alloc (Obj.cells #[Value.slice A0 l.length c0] 22) = Wl:=⟨_,rfl⟩
 have hsl : Wl.heap.size = w.heap.size + 7:=by rw [← hWl];simp;omega
 have hbl : Below w.heap.size w Wl:=by rw [← hWl];exact hb6.alloc (by omega) _
 have hL0 : Wl.cell? ⟨w.heap.size + 6,0,none⟩ = some (.slice A0 l.length c0):=by
  rw [← hWl]
  have:=blk_new W6 (Obj.cells #[Value.slice A0 l.length c0] 22)
  rw [hs6] at this
  exact (blk_cell this 0).trans rfl
 have q0 : Wl.heap[w.heap.size]? = some (.cells #[.slice A0 l.length c0] 22):=by rw [← hWl];exact blk_alloc k0 _
 have q1 : Wl.heap[w.heap.size + 1]? = some (.cells #[.func (.func fs) #[] lbs] 80):=by rw [← hWl];exact blk_alloc k1 _
 have q2 : MapF Try.prog 9 Wl (w.heap.size + 2) 0 (fSet []):=by rw [← hWl];exact k2.alloc _
 have q3 : Wl.heap[w.heap.size + 3]? = some (.cells #[.map (some (w.heap.size + 2))] 49):=by rw [← hWl];exact blk_alloc k3 _
 have q4 : MapF Try.prog 9 Wl (w.heap.size + 4) 0 (fSet []):=by rw [← hWl];exact k4.alloc _
 have q5 : Wl.heap[w.heap.size + 5]? = some (.cells #[.map (some (w.heap.size + 4))] 49):=by rw [← hWl];exact blk_alloc k5 _
 rw [hWl]
 clear hWl hf38 hW6 hs6 hb6 k0 k1 k2 k3 k4 k5 hc60
 refine rangeB2 (gf:=64) (lb:=#[.pointer (some ⟨w.heap.size + 6,0,none⟩)]) rfl (enters_of Try.func64 (by kernel_rfl) rfl) (fun i => i = w.heap.size + 2 ∨ i = w.heap.size + 4) (fun i hi => by omega)
  (states_seq _ A0 c0 (w.heap.size + 6) l Wl hl HG.out (Kd.C_below HR0.out hbl) (fun ad ha hne h => by have:=HLT.out ad ha hne;omega) (fun ad ha hne => by have:=HLT.out ad ha hne;omega) hL0 (fun h => by omega)) (fun _ => rfl)
  (fun pre Wr => ∃ (k : Nat),k ≤ l.length ∧ pre = statK l k ∧ MapF Try.prog 9 Wr (w.heap.size + 2) k (fSet (keptS p l k).1) ∧ MapF Try.prog 9 Wr (w.heap.size + 4) k (fSet (keptS p l k).2) ∧
   (∀ i,(i = w.heap.size ∨ i = w.heap.size + 1 ∨ i = w.heap.size + 3 ∨ i = w.heap.size + 5) → Wr.heap[i]? = Wl.heap[i]?) ∧ Below w.heap.size w Wr)
  ?hI ⟨0,by omega,rfl,q2,q4,fun _ _ => rfl,hbl⟩ ?round ?done
 case hI =>
  rintro pre Wr Wr' ⟨k,hk,hp,hm1,hm2,hb,hB⟩ hsz hsz2 h1 h2 h3 h4
  exact ⟨k,hk,hp,hm1.same (h4 _ (by omega)),hm2.same (h4 _ (by omega)),fun i hi => (h4 i (by omega)).trans (hb i hi),below_reads hB (by omega) hsz2 h1 h2 h3 h4⟩
 case round =>
  rintro m pre ⟨i,a,s⟩ Wr hI hsz hpf
  have HI:=Aside0.mk hI
  have Q0:=Aside0.mk q0
  have Q1:=Aside0.mk q1
  have Q3:=Aside0.mk q3
  have Q5:=Aside0.mk q5
  clear hI hpf q0 q1 q2 q3 q4 q5 hL0 hbl
  simp only [encS,pairV]
  gi_wp2
  obtain ⟨k,hk,hp,hm1,hm2,hb,hB⟩:=HI.out
  refine ⟨(KeepC.refl _ _).alloc _,⟨k,hk,hp,hm1.alloc _,hm2.alloc _,fun i hi => (Below.heap_alloc _ _ _ (by omega)).trans (hb i hi),hB.alloc (by omega) _⟩,?_⟩
  clear k hk hp hm1 hm2 hb hB
  rintro m2 pre2 W2 hone ⟨k,hk,hp,hm1,hm2,hb,hB⟩ hsz2 ⟨k',hk',hpk⟩
  obtain ⟨rfl,hx⟩:=statK_next hp hpk
  simp only [Prod.mk.injEq] at hx
  obtain ⟨hi,hc⟩:=hx
  have hcs : s = (chkA l k).2:=by rw [← hc]
  have hbx : W2.heap[Wr.heap.size]? = some (.cells #[.int .i64 a,.int .i64 s] 65):=(hone.2.2.2.2 _ (by omega)).trans (blk_new _ _)
  have hszr : Wr.heap.size + 1 = W2.heap.size:=by rw [← hone.1];simp
  have hc1 : W2.cell? ⟨Wr.heap.size,1,none⟩ = some (.int .i64 s):=(blk_cell hbx 1).trans rfl
  have hl2 : W2.cell? ⟨w.heap.size,0,none⟩ = some (.slice A0 l.length c0):=(blk_cell ((hb _ (by omega)).trans Q0.out) 0).trans rfl
  have hi0 : 0 ≤ i:=by rw [hi];omega
  have hi1 : i < (l.length : Int):=by rw [hi];omega
  obtain ⟨x,hx⟩ : ∃ x,x = evK l k:=⟨_,rfl⟩
  have hrd : rd_T51 l i = x:=by unfold rd_T51;rw [hx,hi];unfold evK;congr 1;omega
  have hxm : x.f2.size ≤ 24:=by
   refine HG2.out x ?_
   rw [hx];unfold evK
   rw [List.getD_eq_getElem?_getD,List.getElem?_eq_getElem (by omega)]
   exact List.getElem_mem _
  have hxm2 : x.f2.size ≤ maxLen:=by unfold maxLen;omega
  obtain ⟨ad,e1,hx0,hx1,hx2,hx3⟩:=at_T51 HR0.out i hi0 hi1
  cases e1
  rw [hrd] at hx0 hx1 hx2 hx3
  replace hx0:=(hB.cell (World.block_lt_of_cell? w _ hx0)).trans hx0
  replace hx1:=(hB.cell (World.block_lt_of_cell? w _ hx1)).trans hx1
  replace hx2:=(hB.cell (World.block_lt_of_cell? w _ hx2)).trans hx2
  replace hx3:=(hB.cell (World.block_lt_of_cell? w _ hx3)).trans hx3
  have HM1:=Aside0.mk hm1
  have HM2:=Aside0.mk hm2
  have HBL:=Aside0.mk hb
  have HP:=Aside0.mk hpk
  have HBB:=Aside0.mk hB
  have HCS:=Aside0.mk hcs
  have HX:=Aside0.mk hx
  have HBX:=Aside0.mk hbx
  have HKS:=Aside0.mk (show keptS p l (k + 1) = if x.f0 = 3 ∨ s = 2 then ((keptS p l k).1,x.f2.data.toList :: (keptS p l k).2) else if x.f0 = 0 ∧ p x s = true then (x.f2.data.toList :: (keptS p l k).1,(keptS p l k).2) else keptS p l k from by rw [hcs,hx];rfl)
  clear hm1 hm2 hb hpk hB hcs hi hc hp hbx hone HI hx hrd
  have hBA : ∀ o : Obj,Below W2.heap.size W2 (W2.alloc o):=fun o => (Below.refl _ W2).alloc (Nat.le_refl _) o
  have hcA:=fun o : Obj => ((hBA o).cell (p:=⟨Wr.heap.size,1,none⟩) (show Wr.heap.size < _ by omega)).trans hc1
  have h3A:=fun o : Obj => ((hBA o).cell (p:=⟨w.heap.size + 1 + 1 + 1,0,none⟩) (show w.heap.size + 1 + 1 + 1 < _ by omega)).trans ((blk_cell ((HBL.out _ (by omega)).trans Q3.out) 0).trans rfl : W2.cell? ⟨w.heap.size + 1 + 1 + 1,0,none⟩ = some (.map (some (w.heap.size + 2))))
  have h5A:=fun o : Obj => ((hBA o).cell (p:=⟨w.heap.size + 1 + 1 + 1 + 1 + 1,0,none⟩) (show w.heap.size + 1 + 1 + 1 + 1 + 1 < _ by omega)).trans ((blk_cell ((HBL.out _ (by omega)).trans Q5.out) 0).trans rfl : W2.cell? ⟨w.heap.size + 1 + 1 + 1 + 1 + 1,0,none⟩ = some (.map (some (w.heap.size + 4))))
  have h1A:=fun o : Obj => ((hBA o).cell (p:=⟨w.heap.size + 1,0,none⟩) (show w.heap.size + 1 < _ by omega)).trans ((blk_cell ((HBL.out _ (by omega)).trans Q1.out) 0).trans rfl : W2.cell? ⟨w.heap.size + 1,0,none⟩ = some (.func (.func fs) #[] lbs))
  have FIN:=Aside0.mk (show ∀ W',NearC (fun i => i = w.heap.size + 2 ∨ i = w.heap.size + 4) W2 W' → MapF Try.prog 9 W' (w.heap.size + 2) (k + 1) (fSet (keptS p l (k + 1)).1) → MapF Try.prog 9 W' (w.heap.size + 4) (k + 1) (fSet (keptS p l (k + 1)).2) →
    KeepC (fun i => i = w.heap.size + 2 ∨ i = w.heap.size + 4) W2 W' ∧ ∃ k,k ≤ l.length ∧ pre2 ++ [(i,a,s)] = statK l k ∧ MapF Try.prog 9 W' (w.heap.size + 2) k (fSet (keptS p l k).1) ∧ MapF Try.prog 9 W' (w.heap.size + 4) k (fSet (keptS p l k).2) ∧
     (∀ i,(i = w.heap.size ∨ i = w.heap.size + 1 ∨ i = w.heap.size + 3 ∨ i = w.heap.size + 5) → W'.heap[i]? = Wl.heap[i]?) ∧ Below w.heap.size w W' from by
   intro W' hn h1 h2
   exact ⟨hn.2.2.2,k + 1,hk',HP.out,h1,h2,fun i hi => (hn.2.2.2.same i (by omega) (by omega)).trans (HBL.out i hi),below_reads HBB.out (Nat.le_refl _) hn.2.2.2.size hn.1 hn.2.1 hn.2.2.1 (fun i hi => hn.2.2.2.same i (by omega) (by omega))⟩)
  clear hBA
  by_cases k3 : x.f0 = 3
  ·rw [k3] at hx0
   have HK2:=Aside0.mk (HKS.out.trans (if_pos (.inl k3)))
   clear k3
   gi_wp2_with (gi_at_mapUpdate;refine wpListIn_storeF rfl _ _ _ 49 rfl 9 4 Try.underlying9 Try.underlying49 rfl (HM2.out.alloc _) (by unfold maxLen;omega) x.f2 rfl hxm2 (.bool true) rfl ?_;intro w8 hs8 hg8;have HS8:=Aside0.mk hs8;have HG8:=Aside0.mk hg8;clear hs8 hg8)
   exact FIN.out _ (((NearC.refl _ _).alloc _).grown HG8.out (.inr rfl)) (by rw [HK2.out];exact (((HM1.out.alloc _).kept HG8.out (by simp)).mono (Nat.le_succ _))) (by rw [HK2.out,← fSet_put];exact HS8.out)
  ·have k3b : (x.f0 == 3) = false:=beq_eq_false_iff_ne.mpr k3
   by_cases k2 : s = 2
   ·have HK2:=Aside0.mk (HKS.out.trans (if_pos (.inr k2)))
    rw [k2] at hc1 hcA
    clear k3 k2
    gi_wp2_with (gi_at_mapUpdate;refine wpListIn_storeF rfl _ _ _ 49 rfl 9 4 Try.underlying9 Try.underlying49 rfl (HM2.out.alloc _) (by unfold maxLen;omega) x.f2 rfl hxm2 (.bool true) rfl ?_;intro w8 hs8 hg8;have HS8:=Aside0.mk hs8;have HG8:=Aside0.mk hg8;clear hs8 hg8)
    exact FIN.out _ (((NearC.refl _ _).alloc _).grown HG8.out (.inr rfl)) (by rw [HK2.out];exact (((HM1.out.alloc _).kept HG8.out (by simp)).mono (Nat.le_succ _))) (by rw [HK2.out,← fSet_put];exact HS8.out)
   ·have k2b : (s == 2) = false:=beq_eq_false_iff_ne.mpr k2
    have HKN:=Aside0.mk (HKS.out.trans (if_neg (by rintro (h | h);exact k3 h;exact k2 h)))
    by_cases k0 : x.f0 = 0
    ·obtain ⟨r,hr⟩ : ∃ r,r = p x s:=⟨_,rfl⟩
     have HJ0:=Aside0.mk (show ∀ W,Below w.heap.size w W → Calls Try.prog fs (#[.agg #[.int .i64 0,.string x.f1,.string x.f2,.string x.f3],.int .i64 s] ++ lbs) W fun e w' => e = .returned (.bool r) ∧ Below W.heap.size W w' from fun W hW => by
      have:=HJJ.out W x s hW
      unfold evV at this
      rw [k0,← hr] at this
      exact this)
     rw [k0] at hx0
     have hff : Fence.wide.fn fs:=trivial
     cases r with
     | true =>
      have HK2:=Aside0.mk (HKN.out.trans (if_pos ⟨k0,hr.symm⟩))
      clear k3 k2 k0 hr HKN
      gi_wp2_with (first | ((first | refine ⟨fun h => absurd (show false = true from h) (by decide),?_⟩ | skip);gi_at_fn fs;refine (CallsIn.inRound _ (callsIn_wide.2 (HJ0.out _ (HBB.out.alloc (by omega) _)))).mono ?_;rintro e w9 ⟨rfl,hb9⟩;have HB9:=Aside0.mk hb9;have HM19:=Aside0.mk ((HM1.out.alloc (.cells #[.int .i64 0,.string x.f1,.string x.f2,.string x.f3] 51)).below hb9);have HM29:=Aside0.mk ((HM2.out.alloc (.cells #[.int .i64 0,.string x.f1,.string x.f2,.string x.f3] 51)).below hb9);have hx29 : w9.cell? ⟨W2.heap.size,2,none⟩ = some (.string x.f2):=(blk_cell (blk_below (blk_new W2 (.cells #[.int .i64 0,.string x.f1,.string x.f2,.string x.f3] 51)) hb9) 2).trans rfl;have hv39 : w9.cell? ⟨w.heap.size + 1 + 1 + 1,0,none⟩ = some (.map (some (w.heap.size + 2))):=(blk_cell (blk_below (blk_alloc ((HBL.out _ (by omega)).trans Q3.out) (.cells #[.int .i64 0,.string x.f1,.string x.f2,.string x.f3] 51)) hb9) 0).trans rfl;clear hb9) | (gi_at_mapUpdate;refine wpListIn_storeF rfl _ _ _ 49 rfl 9 4 Try.underlying9 Try.underlying49 rfl HM19.out (by unfold maxLen;omega) x.f2 rfl hxm2 (.bool true) rfl ?_;intro w8 hs8 hg8;have HS8:=Aside0.mk hs8;have HG8:=Aside0.mk hg8;clear hs8 hg8))
      exact FIN.out _ ((((NearC.refl _ _).alloc _).below HB9.out).grown HG8.out (.inl rfl)) (by rw [HK2.out,← fSet_put];exact HS8.out) (by rw [HK2.out];exact (HM29.out.kept HG8.out (by simp)).mono (Nat.le_succ _))
     | false =>
      have HK2:=Aside0.mk (HKN.out.trans (if_neg (by rintro ⟨_,h⟩;rw [← hr] at h;cases h)))
      clear k3 k2 k0 hr HKN
      gi_wp2_with (first | ((first | refine ⟨fun h => absurd (show false = true from h) (by decide),?_⟩ | skip);gi_at_fn fs;refine (CallsIn.inRound _ (callsIn_wide.2 (HJ0.out _ (HBB.out.alloc (by omega) _)))).mono ?_;rintro e w9 ⟨rfl,hb9⟩;have HB9:=Aside0.mk hb9;have HM19:=Aside0.mk ((HM1.out.alloc (.cells #[.int .i64 0,.string x.f1,.string x.f2,.string x.f3] 51)).below hb9);have HM29:=Aside0.mk ((HM2.out.alloc (.cells #[.int .i64 0,.string x.f1,.string x.f2,.string x.f3] 51)).below hb9);have hx29 : w9.cell? ⟨W2.heap.size,2,none⟩ = some (.string x.f2):=(blk_cell (blk_below (blk_new W2 (.cells #[.int .i64 0,.string x.f1,.string x.f2,.string x.f3] 51)) hb9) 2).trans rfl;have hv39 : w9.cell? ⟨w.heap.size + 1 + 1 + 1,0,none⟩ = some (.map (some (w.heap.size + 2))):=(blk_cell (blk_below (blk_alloc ((HBL.out _ (by omega)).trans Q3.out) (.cells #[.int .i64 0,.string x.f1,.string x.f2,.string x.f3] 51)) hb9) 0).trans rfl;clear hb9) | (gi_at_mapUpdate;refine wpListIn_storeF rfl _ _ _ 49 rfl 9 4 Try.underlying9 Try.underlying49 rfl HM19.out (by unfold maxLen;omega) x.f2 rfl hxm2 (.bool true) rfl ?_;intro w8 hs8 hg8;have HS8:=Aside0.mk hs8;have HG8:=Aside0.mk hg8;clear hs8 hg8))
      exact FIN.out _ (((NearC.refl _ _).alloc _).below HB9.out) (by rw [HK2.out];exact HM19.out.mono (Nat.le_succ _)) (by rw [HK2.out];exact HM29.out.mono (Nat.le_succ _))
    ·have k0b : (x.f0 == 0) = false:=beq_eq_false_iff_ne.mpr k0
     have HK2:=Aside0.mk (HKN.out.trans (if_neg (fun h => k0 h.1)))
     clear k3 k2 k0 HKN
     gi_wp2
     refine ⟨fun _ h => (by cases h),?_⟩
     gi_wp2
     exact FIN.out (W2.alloc (.cells #[.int .i64 x.f0,.string x.f1,.string x.f2,.string x.f3] 51)) ((NearC.refl _ _).alloc _) (by rw [HK2.out];exact (HM1.out.alloc _).mono (Nat.le_succ _)) (by rw [HK2.out];exact (HM2.out.alloc _).mono (Nat.le_succ _))
 case done =>
  rintro xs W' rfl ⟨k,hk,hp,hm1,hm2,hb,hB⟩ hK hsz
  obtain rfl:=statK_inj hp
  have hc3 : W'.cell? ⟨w.heap.size + 1 + 1 + 1,0,none⟩ = some (.map (some (w.heap.size + 2))):=(blk_cell ((hb _ (by omega)).trans q3) 0).trans rfl
  have hc5 : W'.cell? ⟨w.heap.size + 1 + 1 + 1 + 1 + 1,0,none⟩ = some (.map (some (w.heap.size + 4))):=(blk_cell ((hb _ (by omega)).trans q5) 0).trans rfl
  have hdel:=delete_ok 72 (enters_of Try.func72 (by kernel_rfl) rfl) never72 (w.heap.size + 2) l.length (w.heap.size + 1 + 1 + 1 + 1 + 1) (w.heap.size + 4) l.length _ _ W' hm1 hc5 hm2 (by omega) (by omega)
  rw [hsl] at hK
  have HDEL:=Aside0.mk hdel
  have HB:=Aside0.mk hB
  clear hdel hm1 hm2 hb hB q0 q1 q2 q3 q4 q5 hbl hL0 hp
  gi_wp2_with ((first | refine ⟨fun h => absurd h (by decide),?_⟩ | skip);gi_at_call 55;refine (callsIn_wide.2 HDEL.out).mono ?_;rintro e w9 ⟨rfl,hm9,hg9⟩;have HM9:=Aside0.mk hm9;have HG9:=Aside0.mk hg9;have hc39 : w9.cell? ⟨w.heap.size + 1 + 1 + 1,0,none⟩ = some (.map (some (w.heap.size + 2))):=(World.cell?_of_block (hg9.block (w.heap.size + 3) (by omega) (by simp))).trans hc3;clear hm9 hg9)
  have hK9 : w9.heap[w.heap.size + 7]? = some (.deferred (some [])):=(HG9.out.block (w.heap.size + 7) (by omega) (by simp)).trans hK
  have hD:=(Array.getElem?_eq_some_iff.1 hK9).1
  refine ⟨by simp,.inl ⟨_,_,rfl,run_takeDeferred hK9,?_⟩⟩
  refine ⟨_,results_tmp (fn:=Try.f53) rfl _ _ _,w.heap.size + 2,rfl,by omega,?_,?_⟩
  ·exact (HM9.out.same (World.putObj_heap_other (by omega))).mono hl
  ·exact below_reads (HB.out.grown HG9.out HB.out.size (fun k e => by cases e;omega)) (Nat.le_refl _) (by simp) rfl rfl rfl (fun i hi => World.putObj_heap_other (by omega))
end Go.Proofs.Ytnmmdeonkpfccaa.Pr
set_option linter.unusedVariables false
namespace Go.Proofs.Ytnmmdeonkpfccaa.Pr
open Go.RowKit Go.Shelf Go.Maps Go.Proofs.YtnmmdeonkpfccaaW.PrintWords Go.Proofs.YtnmmdeonkpfccaaW.PrintLast Go.Proofs.YtnmmdeonkpfccaaW.PrintMore
open Go.Proofs.Ytnmmdeonkpfccaa.Rg
set_option maxHeartbeats 1000000 in
theorem judges68 (w : World) : Judges 68 #[] (fun _ s => s == 3) w:=by
 intro W x s hW
 show Calls Try.prog 68 #[.agg #[.int .i64 x.f0,.string x.f1,.string x.f2,.string x.f3],.int .i64 s] W _
 go_enter Try.func68,Try.ntmps68
 go_wp2
 go_ret
 exact ⟨rfl,(Below.refl _ W).alloc (Nat.le_refl _) _⟩
def recL (l : List S51) : List (List UInt8):=keptL (fun _ s => s == 3) l
theorem recalled_ok (A0 : Option Addr) (c0 : Nat) (l : List (S51)) (w : World) (hr0 : Kd.C k51 w A0 l.length l) (hck : checkV l = 0) :
  Calls Try.prog 41 #[.slice A0 l.length c0] w fun e w' => ∃ b,e = .returned (.map (some b)) ∧ w.heap.size ≤ b ∧ MapF Try.prog 9 w' b 4096 (fSet (recL l)) ∧ Below w.heap.size w w':=by
 obtain ⟨hl,hnx⟩:=check_zero hck
 have hk:=kept_ok A0 c0 l 68 #[] (fun _ s => s == 3) w hr0 hl (fun x hx => (namesX_zero (hnx x hx)).2.1) (fun x hx => (namesX_zero (hnx x hx)).2.2.1) (enters_of Try.func68 (by kernel_rfl) rfl) (judges68 w)
 go_enter Try.func41,Try.ntmps41
 go_wp2_with (go_at_call 53;refine hk.mono ?_;rintro e w1 ⟨b,rfl,h1,h2,h3⟩)
 go_ret
 exact ⟨b,rfl,h1,h2,h3⟩
def partsV (l : List S51) : List ByteArray × Int:=if checkV l ≠ 0 then ([],checkV l) else (strs (recL l),0)
def recall_Parts.f (l : List S51) : Option (List ByteArray × Int):=some (partsV l)
set_option maxHeartbeats 1000000 in
set_option maxRecDepth 100000 in
theorem recall_Parts.calls (A0 : Option Addr) (c0 : Nat) (l0 : List (S51)) (r1 : List ByteArray) (r2 : Int) (w : World) (hr0 : Kd.C k51 w A0 l0.length l0) (hc0 : l0.length ≤ c0) (h : recall_Parts.f l0 = some (r1,r2)) :
  Calls Try.prog 14 #[.slice A0 l0.length c0] w fun e w' => ∃ v0_ : Value,e = .returned (.tuple #[v0_,.int .i64 r2]) ∧ Kd.R Kd.string 9 w' w.heap.size (fun _ => True) v0_ r1 ∧ Below w.heap.size w w':=by
 have e:=Option.some.inj h
 clear h
 have HR0:=Aside0.mk hr0
 by_cases hck : checkV l0 = 0
 ·have hr : r1 = strs (recL l0) ∧ r2 = 0:=by unfold partsV at e;rw [if_neg (by rw [hck];decide)] at e;cases e;exact ⟨rfl,rfl⟩
  obtain ⟨rfl,rfl⟩:=hr
  have HCK:=Aside0.mk (recall_Check.calls A0 c0 l0 0 w hr0 hc0 (congrArg some hck))
  have HH:=Aside0.mk hck
  clear e hck hr0
  go_enter Try.func14,Try.ntmps14
  go_wp2_with (first | (go_at_call 16;refine HCK.out.mono ?_;rintro e w1 ⟨rfl,hb1⟩;have HB1:=Aside0.mk hb1;clear hb1) | (go_at_call 41;refine (recalled_ok A0 c0 l0 _ (Kd.C_below HR0.out HB1.out) HH.out).mono ?_;rintro e w2 ⟨b,rfl,h1,h2,h3⟩;have H1:=Aside0.mk h1;have H2:=Aside0.mk h2;have H3:=Aside0.mk h3;clear h1 h2 h3) | (go_at_call 40;refine (sorted_ok b 4096 (recL l0) _ H2.out (by omega)).mono ?_;rintro e w3 ⟨v,rfl,h4,h5⟩;have H4:=Aside0.mk h4;have H5:=Aside0.mk h5;clear h4 h5))
  go_ret2
  have hb2:=HB1.out.trans (H3.out.mono HB1.out.size)
  exact ⟨_,rfl,R_base H4.out hb2.size,hb2.trans (H5.out.mono hb2.size)⟩
 ·obtain ⟨g,hg⟩ : ∃ g,g = checkV l0:=⟨_,rfl⟩
  have hr : r1 = [] ∧ r2 = g:=by unfold partsV at e;rw [if_pos hck] at e;cases e;exact ⟨rfl,hg.symm⟩
  obtain ⟨rfl,rfl⟩:=hr
  have HCK:=Aside0.mk (recall_Check.calls A0 c0 l0 r2 w hr0 hc0 (congrArg some hg.symm))
  rw [← hg] at hck
  have hg1 : (r2 != 0) = true:=bne_iff_ne.mpr hck
  have hg2 : (r2 == 0) = false:=beq_eq_false_iff_ne.mpr hck
  clear e hg hck hr0
  go_enter Try.func14,Try.ntmps14
  go_wp2_with (go_at_call 16;refine HCK.out.mono ?_;rintro e w1 ⟨rfl,hb1⟩;have HB1:=Aside0.mk hb1;clear hb1)
  go_ret2
  exact ⟨_,rfl,Kd.R_nil _ _ _ _ _,HB1.out⟩
def lotK (l : List S51) : Nat → List (List UInt8)
 | 0 => []
 | k + 1 => if (l.getD k z51).f0 = 0 ∧ (l.getD k z51).f2.data.toList ∈ recL l then (l.getD k z51).f3.data.toList :: lotK l k else lotK l k
def lotsV (l : List S51) : List ByteArray × Int:=if checkV l ≠ 0 then ([],checkV l) else (strs (lotK l l.length),0)
def recall_Lots.f (l : List S51) : Option (List ByteArray × Int):=some (lotsV l)
set_option maxHeartbeats 1000000 in
set_option maxRecDepth 100000 in
theorem recall_Lots.calls (A0 : Option Addr) (c0 : Nat) (l0 : List (S51)) (r1 : List ByteArray) (r2 : Int) (w : World) (hr0 : Kd.C k51 w A0 l0.length l0) (hc0 : l0.length ≤ c0) (h : recall_Lots.f l0 = some (r1,r2)) :
  Calls Try.prog 20 #[.slice A0 l0.length c0] w fun e w' => ∃ v0_ : Value,e = .returned (.tuple #[v0_,.int .i64 r2]) ∧ Kd.R Kd.string 9 w' w.heap.size (fun _ => True) v0_ r1 ∧ Below w.heap.size w w':=by
 have e:=Option.some.inj h
 clear h
 have HR0:=Aside0.mk hr0
 by_cases hck : checkV l0 = 0
 ·have hr : r1 = strs (lotK l0 l0.length) ∧ r2 = 0:=by unfold lotsV at e;rw [if_neg (by rw [hck];decide)] at e;cases e;exact ⟨rfl,rfl⟩
  obtain ⟨rfl,rfl⟩:=hr
  have HCK:=Aside0.mk (recall_Check.calls A0 c0 l0 0 w hr0 hc0 (congrArg some hck))
  have HH:=Aside0.mk hck
  obtain ⟨hl,hnx⟩:=check_zero hck
  have HNX:=Aside0.mk hnx
  have hu51:=Try.underlying51
  have hmm:=@run_makeMap Try.prog
  clear e hck hr0 hnx
  go_enter Try.func20,Try.ntmps20
  go_wp2_with (first | (go_at_call 16;refine HCK.out.mono ?_;rintro e w1 ⟨rfl,hb1⟩;have HB1:=Aside0.mk hb1;clear hb1) | (go_at_call 41;refine (recalled_ok A0 c0 l0 _ (Kd.C_below HR0.out HB1.out) HH.out).mono ?_;rintro e w2 ⟨b,rfl,h1,h2,h3⟩;have H1:=Aside0.mk h1;have H2:=Aside0.mk h2;have H3:=Aside0.mk h3;clear h1 h2 h3))
  have hsz2:=H3.out.size
  have hsz1:=HB1.out.size
  have hb2:=H2.out.lt
  have hb1:=H1.out
  go_loopw [19] (fun vi wr => ∃ (k : Nat),k ≤ l0.length ∧ vi = .int .i64 (k : Int) ∧ Aside0 (Below w.heap.size w wr) ∧ Aside0 (MapF Try.prog 9 wr b 4096 (fSet (recL l0))) ∧ Aside0 (MapF Try.prog 9 wr w2.heap.size k (fSet (lotK l0 k)))) (fun vi _ => l0.length - (intOf vi).toNat)
  case atStart => exact ⟨0,by omega,rfl,⟨(HB1.out.trans (H3.out.mono HB1.out.size)).alloc (by omega) _⟩,⟨H2.out.alloc _⟩,⟨by rw [show lotK l0 0 = [] from rfl,fSet_nil];exact MapF.made w2 Try.prog 9⟩⟩
  case round =>
   obtain ⟨k,hk,rfl,HB,HM,HL⟩:=hrel
   by_cases hlt : k < l0.length
   ·obtain ⟨x,hx⟩ : ∃ x,x = l0.getD k z51:=⟨_,rfl⟩
    have hxg : x = l0[k]:=by rw [hx,List.getD_eq_getElem?_getD,List.getElem?_eq_getElem hlt];rfl
    have hrd : rd_T51 l0 (k : Int) = x:=by unfold rd_T51;rw [Int.toNat_natCast,hx]
    obtain ⟨hkind,hs1,hs2,hs3⟩:=namesX_zero (HNX.out x (by rw [hxg];exact List.getElem_mem _))
    have hm2 : x.f2.size ≤ maxLen:=by unfold maxLen;omega
    have hm3 : x.f3.size ≤ maxLen:=by unfold maxLen;omega
    obtain ⟨ad,e1,hx0,hx1,hx2,hx3⟩:=at_T51 HR0.out (k : Int) (by omega) (by omega)
    cases e1
    rw [hrd,Int.toNat_natCast] at hx0 hx1 hx2 hx3
    replace hx0:=(HB.out.cell (World.block_lt_of_cell? w _ hx0)).trans hx0
    replace hx1:=(HB.out.cell (World.block_lt_of_cell? w _ hx1)).trans hx1
    replace hx2:=(HB.out.cell (World.block_lt_of_cell? w _ hx2)).trans hx2
    replace hx3:=(HB.out.cell (World.block_lt_of_cell? w _ hx3)).trans hx3
    have HLK:=Aside0.mk (show lotK l0 (k + 1) = if x.f0 = 0 ∧ x.f2.data.toList ∈ recL l0 then x.f3.data.toList :: lotK l0 k else lotK l0 k from by rw [hx];rfl)
    obtain ⟨gn,hgn⟩ : ∃ gn,gn = decide (x.f2.data.toList ∈ recL l0):=⟨_,rfl⟩
    have HGN:=Aside0.mk (show (fSet (recL l0) x.f2.data.toList).getD (.bool false) = .bool gn from by rw [hgn];unfold fSet;by_cases hh : x.f2.data.toList ∈ recL l0 <;> simp [hh])
    have hszr:=HB.out.size
    clear hx hrd hxg hs1 hs2 hs3 hkind
    by_cases k0 : x.f0 = 0
    ·rw [k0] at hx0
     cases gn with
     | true =>
      have HK2:=Aside0.mk (HLK.out.trans (if_pos ⟨k0,of_decide_eq_true hgn.symm⟩))
      clear k0 hgn HLK
      go_wp2_with (first | (at_lookup;refine wpList_unguard rfl rfl ?_;refine wpList_lookF rfl _ _ 49 rfl 9 4 Try.underlying9 Try.underlying49 (Try.zeroValue4 _) rfl (HM.out.alloc _) x.f2 rfl hm2 (.bool true) HGN.out ?_) | (at_mapUpdate;refine wpList_storeF rfl _ _ _ 49 rfl 9 4 Try.underlying9 Try.underlying49 rfl (HL.out.alloc _) (by unfold maxLen;omega) x.f3 rfl hm3 (.bool true) rfl ?_;intro w9 hs9 hg9;have HS9:=Aside0.mk hs9;have HG9:=Aside0.mk hg9;clear hs9 hg9))
      go_roundw
      case rel => exact ⟨k + 1,by omega,by go_num,⟨(HB.out.alloc hszr _).grown HG9.out (by simp;omega) (fun k e => by cases e;omega)⟩,⟨(HM.out.alloc _).kept HG9.out (by simp;omega)⟩,⟨by rw [HK2.out,← fSet_put];exact HS9.out⟩⟩
      case measure => (simp [intOf] <;> omega)
     | false =>
      have HK2:=Aside0.mk (HLK.out.trans (if_neg (by rintro ⟨_,h⟩;rw [decide_eq_true h] at hgn;cases hgn)))
      clear k0 hgn HLK
      go_wp2_with (first | (at_lookup;refine wpList_unguard rfl rfl ?_;refine wpList_lookF rfl _ _ 49 rfl 9 4 Try.underlying9 Try.underlying49 (Try.zeroValue4 _) rfl (HM.out.alloc _) x.f2 rfl hm2 (.bool false) HGN.out ?_))
      go_roundw
      case rel => exact ⟨k + 1,by omega,by go_num,⟨HB.out.alloc hszr _⟩,⟨HM.out.alloc _⟩,⟨by rw [HK2.out];exact (HL.out.alloc _).mono (Nat.le_succ _)⟩⟩
      case measure => (simp [intOf] <;> omega)
    ·have k0b : (x.f0 == 0) = false:=beq_eq_false_iff_ne.mpr k0
     have HK2:=Aside0.mk (HLK.out.trans (if_neg (fun h => k0 h.1)))
     clear k0 hgn HLK
     go_wp2
     go_roundw
     case rel => exact ⟨k + 1,by omega,by go_num,⟨HB.out.alloc hszr _⟩,⟨HM.out.alloc _⟩,⟨by rw [HK2.out];exact (HL.out.alloc _).mono (Nat.le_succ _)⟩⟩
     case measure => (simp [intOf] <;> omega)
   ·obtain rfl : k = l0.length:=by omega
    go_wp2_with (go_at_call 40;refine (sorted_ok w2.heap.size l0.length (lotK l0 l0.length) _ HL.out (by omega)).mono ?_;rintro e w3 ⟨v,rfl,h4,h5⟩;have H4:=Aside0.mk h4;have H5:=Aside0.mk h5;clear h4 h5)
    go_ret2
    exact ⟨_,rfl,R_base H4.out HB.out.size,HB.out.trans (H5.out.mono HB.out.size)⟩
 ·obtain ⟨g,hg⟩ : ∃ g,g = checkV l0:=⟨_,rfl⟩
  have hr : r1 = [] ∧ r2 = g:=by unfold lotsV at e;rw [if_pos hck] at e;cases e;exact ⟨rfl,hg.symm⟩
  obtain ⟨rfl,rfl⟩:=hr
  have HCK:=Aside0.mk (recall_Check.calls A0 c0 l0 r2 w hr0 hc0 (congrArg some hg.symm))
  rw [← hg] at hck
  have hg1 : (r2 != 0) = true:=bne_iff_ne.mpr hck
  have hg2 : (r2 == 0) = false:=beq_eq_false_iff_ne.mpr hck
  clear e hg hck hr0
  go_enter Try.func20,Try.ntmps20
  go_wp2_with (go_at_call 16;refine HCK.out.mono ?_;rintro e w1 ⟨rfl,hb1⟩;have HB1:=Aside0.mk hb1;clear hb1)
  go_ret2
  exact ⟨_,rfl,Kd.R_nil _ _ _ _ _,HB1.out⟩
end Go.Proofs.Ytnmmdeonkpfccaa.Pr
set_option linter.unusedVariables false
namespace Go.Proofs.Ytnmmdeonkpfccaa.Pr
open Go.RowKit Go.Shelf Go.Maps Go.Proofs.YtnmmdeonkpfccaaW.PrintWords Go.Proofs.YtnmmdeonkpfccaaW.PrintLast Go.Proofs.YtnmmdeonkpfccaaW.PrintMore
open Go.Proofs.Ytnmmdeonkpfccaa.Rg
instance inhS51 : Inhabited S51:=⟨z51⟩
def measP (s : ByteArray) (x : S51) : Bool:=x.f0 == 0 && decide (x.f2.data.toList = s.data.toList)
def evL (x : S51) : List Value:=[.int .i64 x.f0,.string x.f1,.string x.f2,.string x.f3]
set_option maxHeartbeats 1000000 in
set_option maxRecDepth 100000 in
theorem judges50 (g : ByteArray) (Bg : Nat) (w : World) (hb : w.cell? ⟨Bg,0,none⟩ = some (.string g)) : PredBelow Try.prog 50 #[.pointer (some ⟨Bg,0,none⟩)] (fun x => .agg (evL x).toArray) (measP g) w:=by
 intro W x hW
 show Calls Try.prog 50 #[.agg #[.int .i64 x.f0,.string x.f1,.string x.f2,.string x.f3],.pointer (some ⟨Bg,0,none⟩)] W _
 have hbl:=World.block_lt_of_cell? w _ hb
 have hbW : W.cell? ⟨Bg,0,none⟩ = some (.string g):=(hW.cell (p:=⟨Bg,0,none⟩) hbl).trans hb
 have hbB : ∀ o : Obj,(W.alloc o).cell? ⟨Bg,0,none⟩ = some (.string g):=fun o => (((Below.refl _ W).alloc (Nat.le_refl _) o).cell (p:=⟨Bg,0,none⟩) (Nat.lt_of_lt_of_le hbl hW.size)).trans hbW
 have HB:=Aside0.mk (show ∀ o : Obj,Below w.heap.size w (W.alloc o) from fun o => hW.alloc hW.size o)
 by_cases h0 : x.f0 = 0
 ·obtain ⟨r,hr⟩ : ∃ r,r = decide (x.f2.data.toList = g.data.toList):=⟨_,rfl⟩
  have hrr : measP g x = r:=by rw [hr];unfold measP;rw [h0];rfl
  rw [hrr]
  have he : (x.f2.toList == g.toList) = r:=by rw [hr,ByteArray.toList_eq,ByteArray.toList_eq];exact Bool.eq_iff_iff.2 (by simp)
  have he2 : decide (x.f2.toList = g.toList) = r:=by rw [hr,ByteArray.toList_eq,ByteArray.toList_eq]
  rw [h0]
  clear hr hrr h0
  go_enter Try.func50,Try.ntmps50
  go_wp2
  go_ret
  exact ⟨rfl,HB.out _⟩
 ·have h0b : (x.f0 == 0) = false:=beq_eq_false_iff_ne.mpr h0
  have hr : measP g x = false:=by unfold measP;rw [h0b];rfl
  rw [hr]
  clear h0
  go_enter Try.func50,Try.ntmps50
  go_wp2
  go_ret
  exact ⟨rfl,HB.out _⟩
set_option maxHeartbeats 1000000 in
set_option maxRecDepth 100000 in
theorem index_none (A0 : Option Addr) (c0 : Nat) (fv : Value) (w : World) : Calls Try.prog 58 #[.slice A0 0 c0,fv] w fun e w' => e = .returned (.int .i64 (-1)) ∧ Below w.heap.size w w':=by
 go_enter Try.func58,Try.ntmps58
 go_wp2
 go_loopw [8] (fun v wr => v = .int .i64 0 ∧ wr = w) (fun _ _ => 0)
 case atStart => exact ⟨rfl,rfl⟩
 case round =>
  obtain ⟨rfl,rfl⟩:=hrel
  go_wp2
  go_ret
  exact ⟨rfl,Below.refl _ _⟩
theorem has_ok (A0 : Option Addr) (c0 : Nat) (l : List S51) (g : ByteArray) (Bg : Nat) (w : World) (hr0 : Kd.C k51 w A0 l.length l) (hl : l.length ≤ 4096) (hb : w.cell? ⟨Bg,0,none⟩ = some (.string g)) :
  Calls Try.prog 29 #[.slice A0 l.length c0,.func (.func 50) #[] #[.pointer (some ⟨Bg,0,none⟩)]] w fun e w' => e = .returned (.bool (l.any (measP g))) ∧ Below w.heap.size w w':=by
 cases l with
 | nil =>
  show Calls Try.prog 29 #[.slice A0 0 c0,.func (.func 50) #[] #[.pointer (some ⟨Bg,0,none⟩)]] w _
  go_enter Try.func29,Try.ntmps29
  go_wp2_with (go_at_call 58;refine (index_none A0 c0 _ w).mono ?_;rintro e w1 ⟨rfl,hb1⟩)
  go_ret
  exact ⟨rfl,hb1⟩
 | cons y r =>
  obtain ⟨ad,e1,h0,_⟩:=at_T51 hr0 0 (Int.le_refl _) (by simp)
  subst e1
  obtain ⟨b,off,spot⟩:=ad
  have hs : spot = none:=by
   unfold World.cell? at h0
   split at h0
   ·split at h0
    ·cases h0
    ·rename_i hs
     simp [Addr.add] at hs
     exact hs
   ·cases h0
  subst hs
  have hblk : b < w.heap.size:=by
   have:=World.block_lt_of_cell? w _ h0
   simpa [Addr.add] using this
  have:=AnyQ.slices_ContainsFunc Try.cf29 4 Try.isAgg51 Try.sizeOf51 evL (fun _ => rfl) (measP g) 50 #[.pointer (some ⟨Bg,0,none⟩)] (enters_of Try.func50 (by kernel_rfl) rfl) b off (y :: r).length c0 (y :: r) w (judges50 g Bg w hb) (Nat.le_refl _) (by omega) hblk ?_
  ·rw [List.take_length] at this
   exact this
  ·intro j hj i v hv
   obtain ⟨ad,e,k0,k1,k2,k3⟩:=at_T51 hr0 (j : Int) (by omega) (by omega)
   cases e
   have hrd : rd_T51 (y :: r) (j : Int) = (y :: r)[j]!:=by unfold rd_T51;rw [Int.toNat_natCast,List.getD_eq_getElem?_getD,List.getElem!_eq_getElem?_getD];rfl
   have hadd : (Addr.add ⟨b,off,none⟩ ((j : Int).toNat * 4)) = ⟨b,off + j * 4,none⟩:=by
    rw [Int.toNat_natCast]
    unfold Addr.add
    split
    ·rename_i h;rw [h];rfl
    ·rfl
   rw [hadd,hrd] at k0 k1 k2 k3
   match i,hv with
   | 0,hv => cases hv;exact k0
   | 1,hv => cases hv;exact k1
   | 2,hv => cases hv;exact k2
   | 3,hv => cases hv;exact k3
end Go.Proofs.Ytnmmdeonkpfccaa.Pr
set_option linter.unusedVariables false
namespace Go.Proofs.Ytnmmdeonkpfccaa.Pr
open Go.RowKit Go.Shelf Go.Maps Go.Proofs.YtnmmdeonkpfccaaW.PrintWords Go.Proofs.YtnmmdeonkpfccaaW.PrintLast Go.Proofs.YtnmmdeonkpfccaaW.PrintMore
open Go.Proofs.Ytnmmdeonkpfccaa.Rg
abbrev Ev60:={ x : S51 // x.f1.size ≤ 60 }
instance inhEv60 : Inhabited Ev60:=⟨⟨z51,by decide⟩⟩
def badP (p : ByteArray) (G : List (List UInt8)) (x : S51) : Bool:=x.f0 == 0 && (decide (x.f2.data.toList = p.data.toList) && decide (x.f1.data.toList ∈ G))
set_option maxHeartbeats 1000000 in
set_option maxRecDepth 100000 in
theorem judges30 (p : ByteArray) (G : List (List UInt8)) (Bp Bx B n : Nat) (w : World) (hb : w.cell? ⟨Bp,0,none⟩ = some (.string p)) (hx : w.cell? ⟨Bx,0,none⟩ = some (.map (some B))) (hm : MapF Try.prog 9 w B n (fSet G)) :
  PredBelow Try.prog 30 #[.pointer (some ⟨Bp,0,none⟩),.pointer (some ⟨Bx,0,none⟩)] (fun x : Ev60 => .agg (evL x.1).toArray) (fun x => badP p G x.1) w:=by
 intro W ⟨x,hs⟩ hW
 show Calls Try.prog 30 #[.agg #[.int .i64 x.f0,.string x.f1,.string x.f2,.string x.f3],.pointer (some ⟨Bp,0,none⟩),.pointer (some ⟨Bx,0,none⟩)] W fun e w' => e = .returned (.bool (badP p G x)) ∧ Below w.heap.size w w'
 have hbl:=World.block_lt_of_cell? w _ hb
 have hxl:=World.block_lt_of_cell? w _ hx
 have hbW : W.cell? ⟨Bp,0,none⟩ = some (.string p):=(hW.cell (p:=⟨Bp,0,none⟩) hbl).trans hb
 have hxW : W.cell? ⟨Bx,0,none⟩ = some (.map (some B)):=(hW.cell (p:=⟨Bx,0,none⟩) hxl).trans hx
 have hbB : ∀ o : Obj,(W.alloc o).cell? ⟨Bp,0,none⟩ = some (.string p):=fun o => (((Below.refl _ W).alloc (Nat.le_refl _) o).cell (p:=⟨Bp,0,none⟩) (Nat.lt_of_lt_of_le hbl hW.size)).trans hbW
 have hxB : ∀ o : Obj,(W.alloc o).cell? ⟨Bx,0,none⟩ = some (.map (some B)):=fun o => (((Below.refl _ W).alloc (Nat.le_refl _) o).cell (p:=⟨Bx,0,none⟩) (Nat.lt_of_lt_of_le hxl hW.size)).trans hxW
 have HB:=Aside0.mk (show ∀ o : Obj,Below w.heap.size w (W.alloc o) from fun o => hW.alloc hW.size o)
 have HM:=Aside0.mk (show ∀ o : Obj,MapF Try.prog 9 (W.alloc o) B n (fSet G) from fun o => (hm.below hW).alloc o)
 have hm1 : x.f1.size ≤ maxLen:=by unfold maxLen;omega
 clear hm hb hx hs
 by_cases h0 : x.f0 = 0
 ·obtain ⟨r,hr⟩ : ∃ r,r = decide (x.f2.data.toList = p.data.toList):=⟨_,rfl⟩
  have he : (x.f2.toList == p.toList) = r:=by rw [hr,ByteArray.toList_eq,ByteArray.toList_eq];exact Bool.eq_iff_iff.2 (by simp)
  have he2 : decide (x.f2.toList = p.toList) = r:=by rw [hr,ByteArray.toList_eq,ByteArray.toList_eq]
  obtain ⟨q,hq⟩ : ∃ q,q = decide (x.f1.data.toList ∈ G):=⟨_,rfl⟩
  have HG:=Aside0.mk (show (fSet G x.f1.data.toList).getD (.bool false) = .bool q from by rw [hq];unfold fSet;by_cases hh : x.f1.data.toList ∈ G <;> simp [hh])
  have HR:=Aside0.mk (show badP p G x = (r && q) from by rw [hr,hq];unfold badP;rw [h0];rfl)
  rw [HR.out]
  rw [h0]
  clear hr hq h0
  cases r
  ·go_enter Try.func30,Try.ntmps30
   go_wp2
   go_ret
   exact ⟨rfl,HB.out _⟩
  ·go_enter Try.func30,Try.ntmps30
   go_wp2_with (at_lookup;refine wpList_unguard rfl rfl ?_;refine wpList_lookF rfl _ _ 49 rfl 9 4 Try.underlying9 Try.underlying49 (Try.zeroValue4 _) rfl (HM.out _) x.f1 rfl hm1 (.bool q) HG.out ?_)
   go_ret
   exact ⟨by simp,HB.out _⟩
 ·have h0b : (x.f0 == 0) = false:=beq_eq_false_iff_ne.mpr h0
  have hr : badP p G x = false:=by unfold badP;rw [h0b];rfl
  rw [hr]
  clear h0
  go_enter Try.func30,Try.ntmps30
  go_wp2
  go_ret
  exact ⟨rfl,HB.out _⟩
theorem has30 (A0 : Option Addr) (c0 : Nat) (l : List S51) (p : ByteArray) (G : List (List UInt8)) (Bp Bx B n : Nat) (w : World) (hr0 : Kd.C k51 w A0 l.length l) (hl : l.length ≤ 4096) (hz : ∀ x ∈ l,x.f1.size ≤ 60) (hb : w.cell? ⟨Bp,0,none⟩ = some (.string p)) (hx : w.cell? ⟨Bx,0,none⟩ = some (.map (some B))) (hm : MapF Try.prog 9 w B n (fSet G)) :
  Calls Try.prog 29 #[.slice A0 l.length c0,.func (.func 30) #[] #[.pointer (some ⟨Bp,0,none⟩),.pointer (some ⟨Bx,0,none⟩)]] w fun e w' => e = .returned (.bool (l.any (badP p G))) ∧ Below w.heap.size w w':=by
 cases l with
 | nil =>
  show Calls Try.prog 29 #[.slice A0 0 c0,.func (.func 30) #[] #[.pointer (some ⟨Bp,0,none⟩),.pointer (some ⟨Bx,0,none⟩)]] w _
  go_enter Try.func29,Try.ntmps29
  go_wp2_with (go_at_call 58;refine (index_none A0 c0 _ w).mono ?_;rintro e w1 ⟨rfl,hb1⟩)
  go_ret
  exact ⟨rfl,hb1⟩
 | cons y r =>
  obtain ⟨ad,e1,h0,_⟩:=at_T51 hr0 0 (Int.le_refl _) (by simp)
  subst e1
  obtain ⟨b,off,spot⟩:=ad
  have hs : spot = none:=by
   unfold World.cell? at h0
   split at h0
   ·split at h0
    ·cases h0
    ·rename_i hs
     simp [Addr.add] at hs
     exact hs
   ·cases h0
  subst hs
  have hblk : b < w.heap.size:=by
   have:=World.block_lt_of_cell? w _ h0
   simpa [Addr.add] using this
  obtain ⟨L,hL⟩ : ∃ L : List Ev60,L.map (·.1) = y :: r:=⟨(y :: r).attach.map fun z => ⟨z.1,hz z.1 z.2⟩,by rw [List.map_map];exact List.attach_map_subtype_val _⟩
  have hlen : L.length = (y :: r).length:=by rw [← hL,List.length_map]
  have:=AnyQ.slices_ContainsFunc Try.cf29 4 Try.isAgg51 Try.sizeOf51 (fun x : Ev60 => evL x.1) (fun _ => rfl) (fun x => badP p G x.1) 30 #[.pointer (some ⟨Bp,0,none⟩),.pointer (some ⟨Bx,0,none⟩)] (enters_of Try.func30 (by kernel_rfl) rfl) b off (y :: r).length c0 L w (judges30 p G Bp Bx B n w hb hx hm) (by omega) (by omega) hblk ?_
  ·rw [List.take_of_length_le (by omega)] at this
   have e : L.any (fun x => badP p G x.1) = (y :: r).any (badP p G):=by rw [← hL,List.any_map];rfl
   rw [e] at this
   exact this
  ·intro j hj i v hv
   obtain ⟨ad,e,k0,k1,k2,k3⟩:=at_T51 hr0 (j : Int) (by omega) (by omega)
   cases e
   have hrd : rd_T51 (y :: r) (j : Int) = (L[j]!).1:=by
    unfold rd_T51;rw [Int.toNat_natCast,List.getD_eq_getElem?_getD,← hL,List.getElem?_map,List.getElem!_eq_getElem?_getD,List.getElem?_eq_getElem (show j < L.length by omega)];rfl
   have hadd : (Addr.add ⟨b,off,none⟩ ((j : Int).toNat * 4)) = ⟨b,off + j * 4,none⟩:=by
    rw [Int.toNat_natCast]
    unfold Addr.add
    split
    ·rename_i h;rw [h];rfl
    ·rfl
   rw [hadd,hrd] at k0 k1 k2 k3
   match i,hv with
   | 0,hv => cases hv;exact k0
   | 1,hv => cases hv;exact k1
   | 2,hv => cases hv;exact k2
   | 3,hv => cases hv;exact k3
end Go.Proofs.Ytnmmdeonkpfccaa.Pr
namespace Go.Proofs.Ytnmmdeonkpfccaa.Pr
open Go.RowKit Go.Proofs.YtnmmdeonkpfccaaW.PrintWords Go.Proofs.YtnmmdeonkpfccaaW.PrintLast Go.Proofs.YtnmmdeonkpfccaaW.PrintMore
attribute [local go_sem] max2_int min2_int max_two min_two max_three min_three max_four min_four
set_option linter.unusedVariables false
set_option linter.unusedSimpArgs false
def metrolablaw53_own.l0 : Nat → List (S67) → List (S51) → Int → Int → Option ((List (S67)))
 | 0,_,_,_,_ => none
 | k + 1,x3,x6,x7,x8 => if x8 < x7 then (if 0 ≤ x8 then (if x8 < (x6.length : Int) then (if x3.length < 2513169434916 then (metrolablaw53_own.l0 k (x3 ++ [(⟨(rd_T51 x6 x8).f0,(rd_T51 x6 x8).f1,(rd_T51 x6 x8).f2,(rd_T51 x6 x8).f3⟩ : S67)]) x6 x7 (wrap64 (x8 + 1))) else (none)) else (none)) else (none)) else (some x3)
def metrolablaw53_own.f (k : Nat) (l0 : List (S51)) : Option ((List (S67))):=metrolablaw53_own.l0 k ([] : List (S67)) l0 (l0.length : Int) 0
set_option maxHeartbeats 8000000 in
set_option maxRecDepth 100000 in
theorem metrolablaw53_own.calls (k : Nat) (A0 : Option Addr) (c0 : Nat) (l0 : List (S51)) (r : List (S67)) (w : World) (hr0 : Kd.C k51 w A0 l0.length l0) (hc0 : l0.length ≤ c0) (h : metrolablaw53_own.f k l0 = some r) :
  Calls Try.prog 13 #[.slice A0 l0.length c0] w fun e w' => ∃ v0_ : Value,e = .returned (v0_) ∧ Kd.R k67 67 w' w.heap.size (fun _ => True) v0_ r ∧ Below w.heap.size w w':=by
 have hu51:=Try.underlying51
 have HR0:=Aside0.mk hr0
 have HC0:=Aside0.mk hc0
 clear hr0 hc0
 have HB:=Aside0.mk (Below.refl w.heap.size w)
 have H : (metrolablaw53_own.l0 k ([] : List (S67)) l0 (l0.length : Int) 0) = some r:=h
 clear h
 have H':=Aside0.mk H
 clear H
 go_enter Try.func13,Try.ntmps13
 go_wp2
 go_loopg [3,8] k (fun kq v3 v8 w' => ∃ (x3_1 : List (S67)) (x8_1 : Int),v8 = .int .i64 x8_1 ∧ Aside0 (metrolablaw53_own.l0 kq x3_1 l0 (l0.length : Int) x8_1 = some r) ∧ Aside0 (kq ≤ k) ∧ Aside0 (Kd.R k67 67 w' w.heap.size (fun _ => True) v3 x3_1) ∧ Aside0 (Below w.heap.size w w'))
 case atStart => exact ⟨(([] : List (S67))),(0),(by first | rfl | (simp;done) | (simp [*];done)),H',⟨Nat.le_refl _⟩,⟨by first | exact Kd.R_nil _ _ _ _ _ | exact Kd.N_nil _ _ _ _ _ | exact Kd.V_nil _ _ _ _ _ | exact Kd.Q_nil _ _ _ _ _ | exact Kd.S_nil _ _ _ _ _⟩,⟨by repeat (first | (with_reducible first | exact HB.out | apply below_alloc | apply pw_below_drewN | apply below_drew1) | exact HB.out)⟩⟩
 case round =>
  clear H'
  try clear c1
  obtain ⟨x3_1,x8_1,rfl,HA,HK1,HO_3,HB⟩:=hrel
  cases gk with
  | zero => exact absurd HA.out (by simp [metrolablaw53_own.l0])
  | succ k1 =>
   have H:=HA.out
   clear HA
   simp only [metrolablaw53_own.l0] at H
   by_cases c2 : x8_1 < (l0.length : Int)
   ·rw [if_pos c2] at H
    have c2b0 : decide (x8_1 < (l0.length : Int)) = true:=decide_eq_true c2
    clear c2
    by_cases c3 : 0 ≤ x8_1
    ·rw [if_pos c3] at H
     have c3b0 : decide (0 ≤ x8_1) = true:=decide_eq_true c3
     clear c3
     by_cases c4 : x8_1 < (l0.length : Int)
     ·rw [if_pos c4] at H
      have c4b0 : decide (x8_1 < (l0.length : Int)) = true:=decide_eq_true c4
      clear c4
      by_cases c5 : x3_1.length < 2513169434916
      ·rw [if_pos c5] at H
       have LMc5:=Aside0.mk c5
       clear c5
       obtain ⟨y103,hy103⟩ : ∃ y_ : List (S67),y_ = (x3_1 ++ [(⟨(rd_T51 l0 x8_1).f0,(rd_T51 l0 x8_1).f1,(rd_T51 l0 x8_1).f2,(rd_T51 l0 x8_1).f3⟩ : S67)]):=⟨_,rfl⟩
       replace H : (metrolablaw53_own.l0 k1 y103 l0 (l0.length : Int) (wrap64 (x8_1 + 1))) = some r:=by first | (rw [hy103];with_reducible exact H) | (have H2_:=(Option.bind_some _ _).symm.trans H;rw [hy103];with_reducible exact H2_) | (have H2_:=(Option.bind_some _ _).symm.trans H;with_reducible exact H2_) | with_reducible exact H | (rw [hy103];exact H) | exact H
       have Ny103:=Aside0.mk hy103
       clear hy103
       have H':=Aside0.mk H
       clear H
       have p101 : 0 ≤ (x8_1 : Int):=of_decide_eq_true (by first | (with_reducible assumption) | assumption)
       have q101 : x8_1 < (l0.length : Int):=of_decide_eq_true (by first | (with_reducible assumption) | assumption)
       obtain ⟨ad101,e101,hx101_0,hx101_1,hx101_2,hx101_3⟩:=at_T51 HR0.out x8_1 p101 q101
       cases e101
       replace hx101_0:=(HB.out.cell (World.block_lt_of_cell? w _ hx101_0)).trans hx101_0
       replace hx101_1:=(HB.out.cell (World.block_lt_of_cell? w _ hx101_1)).trans hx101_1
       replace hx101_2:=(HB.out.cell (World.block_lt_of_cell? w _ hx101_2)).trans hx101_2
       replace hx101_3:=(HB.out.cell (World.block_lt_of_cell? w _ hx101_3)).trans hx101_3
       replace p101:=eq_true p101
       replace q101:=eq_true q101
       go_wp2_with (first | ((with_reducible refine gate_dst (N:=5) rfl ?_);refine box_event ?hg (N:=5) ?hd (cs:=#[.int .i64 0,.string (⟨#[]⟩ : ByteArray),.string (⟨#[]⟩ : ByteArray),.string (⟨#[]⟩ : ByteArray)]) (t:=51) ?hr ?_;(case hd => rfl);(case hg => rfl);(case hr => first | (go_simp;done) | (go_simp;rfl));intro gb102 hg w6 hbox hb;have n0_:=Aside0.mk (Kd.R_below (by (with_reducible repeat (first | apply Kd.R_alloc | apply Kd.R_drewN | apply Kd.R_drew));exact HO_3.out) hb);have n1_:=Aside0.mk (below_step (by repeat (first | (with_reducible first | exact HB.out | apply below_alloc | apply pw_below_drewN | apply below_drew1) | exact HB.out)) hb);have n2_:=Aside0.mk (hbox);have n3_:=Aside0.mk ((by rw [hg];exact (below_size (by repeat (first | (with_reducible first | exact HB.out | apply below_alloc | apply pw_below_drewN | apply below_drew1) | exact HB.out))) : w.heap.size ≤ gb102));have n4_:=Aside0.mk ((by rw [hg];exact (below_size (by repeat (first | (with_reducible first | exact HB.out | apply below_alloc | apply pw_below_drewN | apply below_drew1) | exact HB.out))) : w.heap.size ≤ gb102));clear HO_3;clear HB;have HO_3:=n0_;have HB:=n1_;have BK102:=n2_;have GW102:=n3_;have GE102:=n4_;clear n0_ n1_ n2_ n3_ n4_;clear hb hbox hg;have hcz7_0 : w6.cell? ⟨gb102,0,none⟩ = some (.int .i64 0):=(blk_cell BK102.out 0).trans rfl;have hcz7_1 : w6.cell? ⟨gb102,1,none⟩ = some (.string (⟨#[]⟩ : ByteArray)):=(blk_cell BK102.out 1).trans rfl;have hcz7_2 : w6.cell? ⟨gb102,2,none⟩ = some (.string (⟨#[]⟩ : ByteArray)):=(blk_cell BK102.out 2).trans rfl;have hcz7_3 : w6.cell? ⟨gb102,3,none⟩ = some (.string (⟨#[]⟩ : ByteArray)):=(blk_cell BK102.out 3).trans rfl;have hfz7_0:=blk_frozen BK102.out 0;have hfz7_1:=blk_frozen BK102.out 1;have hfz7_2:=blk_frozen BK102.out 2;have hfz7_3:=blk_frozen BK102.out 3) | ((with_reducible refine gate_builtin (b:=.append) (xs:=#[.tmp 12,.tmp 14]) rfl ?_);at_builtin;refine Kd.R_append k67 (w0:=w) w.heap.size rfl (.tmp 12) (.tmp 14) 31 67 (.agg #[(.int .i64 0),(.string ⟨#[]⟩),(.string ⟨#[]⟩),(.string ⟨#[]⟩)]) 56 rfl Try.underlying31 info67 rfl (by decide) (by omega) u3 x3_1 (⟨(rd_T51 l0 x8_1).f0,(rd_T51 l0 x8_1).f1,(rd_T51 l0 x8_1).f2,(rd_T51 l0 x8_1).f3⟩ : S67) [.int .i64 ((rd_T51 l0 x8_1).f0),.string ((rd_T51 l0 x8_1).f1),.string ((rd_T51 l0 x8_1).f2),.string ((rd_T51 l0 x8_1).f3)] (fun _ => True) (fun _ => False) rfl (by first | (go_simp;done) | (go_simp;rfl)) ?aP (fun _ hk => hk.elim) ?aF ?aO ?aB ?aS ?aL ?_;(case aP => exact k67_mkM _ _ _ (⟨(rd_T51 l0 x8_1).f0,(rd_T51 l0 x8_1).f1,(rd_T51 l0 x8_1).f2,(rd_T51 l0 x8_1).f3⟩ : S67));(case aB => exact (by repeat (first | (with_reducible first | exact HB.out | apply below_alloc | apply pw_below_drewN | apply below_drew1 | refine below_set ?_ GE102.out) | exact HB.out)));(case aF => exact (fun _ _ => trivial));(case aO => exact (by (with_reducible repeat (first | apply Kd.R_alloc | apply Kd.R_drewN | apply Kd.R_drew));exact Kd.R_mono (Kd.R_far (p:=⟨gb102,3,none⟩) (Kd.R_far (p:=⟨gb102,2,none⟩) (Kd.R_far (p:=⟨gb102,1,none⟩) (Kd.R_far (p:=⟨gb102,0,none⟩) (Kd.R_types HO_3.out BK102.out (by decide)) (fun _ hk => hk.2) (.int .i64 ((rd_T51 l0 x8_1).f0))) (fun _ hk => hk.2) (.string ((rd_T51 l0 x8_1).f1))) (fun _ hk => hk.2) (.string ((rd_T51 l0 x8_1).f2))) (fun _ hk => hk.2) (.string ((rd_T51 l0 x8_1).f3))) (fun _ hk => trivial)));(case aS => exact (below_size (by repeat (first | (with_reducible first | exact HB.out | apply below_alloc | apply pw_below_drewN | apply below_drew1 | refine below_set ?_ GE102.out) | exact HB.out))));(case aL => have:=LMc5.out;omega);intro v104 w8 ho hb hg hat;rw [← Ny103.out] at ho;have n0_:=Aside0.mk (blk_grown (g:=gb102) (o:=.cells #[.int .i64 ((rd_T51 l0 x8_1).f0),.string ((rd_T51 l0 x8_1).f1),.string ((rd_T51 l0 x8_1).f2),.string ((rd_T51 l0 x8_1).f3)] 51 (0,0)) (by (with_reducible repeat (first | refine blk_drewN ?_ _ | refine blk_drew ?_ | refine blk_alloc ?_ _));refine blk_put (cs:=#[.int .i64 ((rd_T51 l0 x8_1).f0),.string ((rd_T51 l0 x8_1).f1),.string ((rd_T51 l0 x8_1).f2),.string (⟨#[]⟩ : ByteArray)]) ?_ 3 _ rfl;(with_reducible repeat (first | refine blk_drewN ?_ _ | refine blk_drew ?_ | refine blk_alloc ?_ _));refine blk_put (cs:=#[.int .i64 ((rd_T51 l0 x8_1).f0),.string ((rd_T51 l0 x8_1).f1),.string (⟨#[]⟩ : ByteArray),.string (⟨#[]⟩ : ByteArray)]) ?_ 2 _ rfl;(with_reducible repeat (first | refine blk_drewN ?_ _ | refine blk_drew ?_ | refine blk_alloc ?_ _));refine blk_put (cs:=#[.int .i64 ((rd_T51 l0 x8_1).f0),.string (⟨#[]⟩ : ByteArray),.string (⟨#[]⟩ : ByteArray),.string (⟨#[]⟩ : ByteArray)]) ?_ 1 _ rfl;(with_reducible repeat (first | refine blk_drewN ?_ _ | refine blk_drew ?_ | refine blk_alloc ?_ _));refine blk_put (cs:=#[.int .i64 0,.string (⟨#[]⟩ : ByteArray),.string (⟨#[]⟩ : ByteArray),.string (⟨#[]⟩ : ByteArray)]) ?_ 0 _ rfl;(with_reducible repeat (first | refine blk_drewN ?_ _ | refine blk_drew ?_ | refine blk_alloc ?_ _));exact BK102.out) hg (Kd.R_ne HO_3.out BK102.out (by decide)));have n1_:=Aside0.mk (hb);have n2_:=Aside0.mk (ho);clear BK102;clear HB;clear HO_3;have BK102:=n0_;have HB:=n1_;have HO105:=n2_;clear n0_ n1_ n2_;clear ho hb hg hat))
       go_roundg k1
       case measure => have:=HK1.out;omega
       case rel => exact ⟨(y103),(wrap64 (x8_1 + 1)),(by first | rfl | (simp;done) | (simp [*];done)),H',⟨by have:=HK1.out;omega⟩,⟨by (with_reducible repeat (first | apply Kd.R_alloc | apply Kd.R_drewN | apply Kd.R_drew));exact HO105.out⟩,⟨by repeat (first | (with_reducible first | exact HB.out | apply below_alloc | apply pw_below_drewN | apply below_drew1 | refine below_set ?_ GE102.out) | exact HB.out)⟩⟩
      ·rw [if_neg c5] at H
       exact absurd H (by simp)
     ·rw [if_neg c4] at H
      exact absurd H (by simp)
    ·rw [if_neg c3] at H
     exact absurd H (by simp)
   ·rw [if_neg c2] at H
    have c2b0 : decide (x8_1 < (l0.length : Int)) = false:=decide_eq_false c2
    clear c2
    obtain rfl:=Option.some.inj H
    go_wp2
    go_ret
    exact ⟨_,by first | rfl | (simp [errW_none,errW_some] <;> rfl) | (simp [*,errW_none,errW_some] <;> rfl),by (with_reducible repeat (first | apply Kd.R_alloc | apply Kd.R_drewN | apply Kd.R_drew));exact HO_3.out,by repeat (first | (with_reducible first | exact HB.out | apply below_alloc | apply pw_below_drewN | apply below_drew1) | exact HB.out)⟩
end Go.Proofs.Ytnmmdeonkpfccaa.Pr
namespace Go.Proofs.Ytnmmdeonkpfccaa.Pr
open Go.RowKit Go.Proofs.YtnmmdeonkpfccaaW.PrintWords Go.Proofs.YtnmmdeonkpfccaaW.PrintLast Go.Proofs.YtnmmdeonkpfccaaW.PrintMore
attribute [local go_sem] max2_int min2_int max_two min_two max_three min_three max_four min_four
set_option linter.unusedVariables false
set_option linter.unusedSimpArgs false
def metrolabref17_letter.f (a0 : Int) : Option (Bool):=if a0 ≥ 97 then (if a0 ≤ 122 then (some true) else (if a0 ≥ 65 then (some (decide (a0 ≤ 90))) else (some false))) else (if a0 ≥ 65 then (some (decide (a0 ≤ 90))) else (some false))
set_option maxHeartbeats 8000000 in
set_option maxRecDepth 100000 in
theorem metrolabref17_letter.calls (a0 : Int) (r : Bool) (w : World) (h : metrolabref17_letter.f a0 = some r) :
  Calls Try.prog 59 #[.int .u8 a0] w fun e w' => e = .returned (.bool r) ∧ Drawn0 w w':=by
 have H : (if a0 ≥ 97 then (if a0 ≤ 122 then (some true) else (if a0 ≥ 65 then (some (decide (a0 ≤ 90))) else (some false))) else (if a0 ≥ 65 then (some (decide (a0 ≤ 90))) else (some false))) = some r:=h
 clear h
 by_cases c2 : a0 ≥ 97
 ·rw [if_pos c2] at H
  have c2b0 : decide (97 ≤ a0) = true:=decide_eq_true c2
  clear c2
  by_cases c3 : a0 ≤ 122
  ·rw [if_pos c3] at H
   have c3b0 : decide (a0 ≤ 122) = true:=decide_eq_true c3
   clear c3
   obtain rfl:=Option.some.inj H
   go_enter Try.func59,Try.ntmps59
   go_wp2
   go_ret
   exact ⟨by first | rfl | (simp;done) | (simp [*];done),by repeat (first | exact Drawn0.refl _ | apply Drawn0.step)⟩
  ·rw [if_neg c3] at H
   have c3b0 : decide (a0 ≤ 122) = false:=decide_eq_false c3
   clear c3
   by_cases c4 : a0 ≥ 65
   ·rw [if_pos c4] at H
    have c4b0 : decide (65 ≤ a0) = true:=decide_eq_true c4
    clear c4
    obtain rfl:=Option.some.inj H
    go_enter Try.func59,Try.ntmps59
    go_wp2
    go_ret
    exact ⟨by first | rfl | (simp;done) | (simp [*];done),by repeat (first | exact Drawn0.refl _ | apply Drawn0.step)⟩
   ·rw [if_neg c4] at H
    have c4b0 : decide (65 ≤ a0) = false:=decide_eq_false c4
    clear c4
    obtain rfl:=Option.some.inj H
    go_enter Try.func59,Try.ntmps59
    go_wp2
    go_ret
    exact ⟨by first | rfl | (simp;done) | (simp [*];done),by repeat (first | exact Drawn0.refl _ | apply Drawn0.step)⟩
 ·rw [if_neg c2] at H
  have c2b0 : decide (97 ≤ a0) = false:=decide_eq_false c2
  clear c2
  by_cases c5 : a0 ≥ 65
  ·rw [if_pos c5] at H
   have c5b0 : decide (65 ≤ a0) = true:=decide_eq_true c5
   clear c5
   obtain rfl:=Option.some.inj H
   go_enter Try.func59,Try.ntmps59
   go_wp2
   go_ret
   exact ⟨by first | rfl | (simp;done) | (simp [*];done),by repeat (first | exact Drawn0.refl _ | apply Drawn0.step)⟩
  ·rw [if_neg c5] at H
   have c5b0 : decide (65 ≤ a0) = false:=decide_eq_false c5
   clear c5
   obtain rfl:=Option.some.inj H
   go_enter Try.func59,Try.ntmps59
   go_wp2
   go_ret
   exact ⟨by first | rfl | (simp;done) | (simp [*];done),by repeat (first | exact Drawn0.refl _ | apply Drawn0.step)⟩
end Go.Proofs.Ytnmmdeonkpfccaa.Pr
