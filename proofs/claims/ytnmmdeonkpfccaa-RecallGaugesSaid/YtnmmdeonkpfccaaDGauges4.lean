/- A part of the statement's proof. -/
import Derived.Test.YtnmmdeonkpfccaaDGauges3
import Derived.Test.YtnmmdeonkpfccaaDGauges2
import Derived.Shelf.SlIter.Nil
import Derived.Shelf.SortM.Plain
import Derived.Shelf.SortM.SortNone
import Derived.Ground.GgzProg
import Derived.Ground.SlgmProg
import Derived.Shelf.SlMaps.DeleteFunc
import Derived.Ground.SlmdProg
import Derived.Shelf.SlicesQ.IndexFunc
import Derived.Ground.SlgfProg
import Derived.Ground.SlgnProg
import Derived.Shelf.SlicesE.Clone
import Derived.Shelf.SlGeneric
import Derived.Test.YtnmmdeonkpfccaaProg
import Derived.Shelf.AbstractIn
set_option linter.unusedVariables false
namespace Go.Proofs.Ytnmmdeonkpfccaa.Pr
open Go.RowKit Go.Proofs.YtnmmdeonkpfccaaW.PrintWords Go.Proofs.YtnmmdeonkpfccaaW.PrintLast Go.Proofs.YtnmmdeonkpfccaaW.PrintMore
open Go.Proofs.Ytnmmdeonkpfccaa.Rg
def fLots (L : List (List UInt8 × ByteArray)) : List UInt8 → Option Value:=fun q => (L.lookup q).map Value.string
def fSet (G : List (List UInt8)) : List UInt8 → Option Value:=fun q => if q ∈ G then some (.bool true) else none
theorem fSet_nil : fSet [] = fun _ => none:=by funext q;simp [fSet]
theorem fLots_put (L : List (List UInt8 × ByteArray)) (q : List UInt8) (s : ByteArray) : putF (fLots L) q (.string s) = fLots ((q,s) :: L):=by
 funext r
 unfold putF fLots
 rw [List.lookup_cons]
 by_cases h : r = q
 ·rw [if_pos h,h];simp
 ·rw [if_neg h]
  have : (r == q) = false:=beq_eq_false_iff_ne.mpr h
  rw [this]
theorem fSet_put (G : List (List UInt8)) (q : List UInt8) : putF (fSet G) q (.bool true) = fSet (q :: G):=by
 funext r
 unfold putF fSet
 by_cases h : r = q
 ·rw [if_pos h,if_pos (by rw [h];exact .head _)]
 ·rw [if_neg h]
  by_cases h2 : r ∈ G
  ·rw [if_pos h2,if_pos (.tail _ h2)]
  ·rw [if_neg h2,if_neg (by rw [List.mem_cons];rintro (e | e);exact h e;exact h2 e)]
def checkF : List (List UInt8 × ByteArray) → List (List UInt8) → List S51 → Int
 | _,_,[] => 0
 | L,G,x :: r =>
  if namesX x ≠ 0 then namesX x
  else if x.f0 = 0 then
   (if x.f2.data.toList ∈ G then 14 else match L.lookup x.f2.data.toList with
    | none => checkF ((x.f2.data.toList,x.f3) :: L) G r
    | some s => if s.data.toList = x.f3.data.toList then checkF ((x.f2.data.toList,x.f3) :: L) G r else 16)
  else if x.f0 = 3 then
   (if L.lookup x.f2.data.toList = none then 6 else if x.f2.data.toList ∈ G then 14 else checkF L (x.f2.data.toList :: G) r)
  else checkF L G r
theorem checkF_cons (L : List (List UInt8 × ByteArray)) (G : List (List UInt8)) (x : S51) (r : List S51) : checkF L G (x :: r) =
  if namesX x ≠ 0 then namesX x
  else if x.f0 = 0 then
   (if x.f2.data.toList ∈ G then 14 else match L.lookup x.f2.data.toList with
    | none => checkF ((x.f2.data.toList,x.f3) :: L) G r
    | some s => if s.data.toList = x.f3.data.toList then checkF ((x.f2.data.toList,x.f3) :: L) G r else 16)
  else if x.f0 = 3 then
   (if L.lookup x.f2.data.toList = none then 6 else if x.f2.data.toList ∈ G then 14 else checkF L (x.f2.data.toList :: G) r)
  else checkF L G r:=rfl
def checkV (l : List S51) : Int:=if 4096 < l.length then 5 else checkF [] [] l
def recall_Check.f (l : List S51) : Option Int:=some (checkV l)
theorem _root_.Go.Proofs.Ytnmmdeonkpfccaa.Rg.MapF.below {P : Program} {k : TypeId} {w w' : World} {b n : Nat} {f : List UInt8 → Option Value} (h : MapF P k w b n f) (hb : Below w.heap.size w w') : MapF P k w' b n f:=h.same (hb.block b h.lt)
theorem ev_box {wr w6 w8 : World} {gb : Nat} {t : TypeId} {z0 z1 z2 z3 v0 v1 v2 v3 : Value} (hg : gb = wr.heap.size) (hbox : w6.heap[gb]? = some (.cells #[z0,z1,z2,z3] t (0,0))) (hb : Below wr.heap.size wr w6)
  (hb8 : Below ((((w6.setCell ⟨gb,0,none⟩ v0).setCell ⟨gb,1,none⟩ v1).setCell ⟨gb,2,none⟩ v2).setCell ⟨gb,3,none⟩ v3).heap.size ((((w6.setCell ⟨gb,0,none⟩ v0).setCell ⟨gb,1,none⟩ v1).setCell ⟨gb,2,none⟩ v2).setCell ⟨gb,3,none⟩ v3) w8) :
  Below wr.heap.size wr w8 ∧ w8.heap[gb]? = some (.cells #[v0,v1,v2,v3] t (0,0)):=by
 have hle : wr.heap.size ≤ gb:=by omega
 have h4 : ((((w6.setCell ⟨gb,0,none⟩ v0).setCell ⟨gb,1,none⟩ v1).setCell ⟨gb,2,none⟩ v2).setCell ⟨gb,3,none⟩ v3).heap[gb]? = some (.cells #[v0,v1,v2,v3] t (0,0)):=by
  refine blk_put (cs:=#[v0,v1,v2,z3]) ?_ 3 _ rfl
  refine blk_put (cs:=#[v0,v1,z2,z3]) ?_ 2 _ rfl
  refine blk_put (cs:=#[v0,z1,z2,z3]) ?_ 1 _ rfl
  exact blk_put (cs:=#[z0,z1,z2,z3]) hbox 0 _ rfl
 have hbb : Below wr.heap.size wr ((((w6.setCell ⟨gb,0,none⟩ v0).setCell ⟨gb,1,none⟩ v1).setCell ⟨gb,2,none⟩ v2).setCell ⟨gb,3,none⟩ v3):=(((hb.setCell (p:=⟨gb,0,none⟩) hle _).setCell (p:=⟨gb,1,none⟩) hle _).setCell (p:=⟨gb,2,none⟩) hle _).setCell (p:=⟨gb,3,none⟩) hle _
 exact ⟨hbb.trans (hb8.mono hbb.size),(hb8.block _ (Array.getElem?_eq_some_iff.1 h4).1).trans h4⟩
set_option maxHeartbeats 1000000 in
set_option maxRecDepth 100000 in
theorem recall_Check.calls (A0 : Option Addr) (c0 : Nat) (l0 : List (S51)) (r : Int) (w : World) (hr0 : Kd.C k51 w A0 l0.length l0) (hc0 : l0.length ≤ c0) (h : recall_Check.f l0 = some r) :
  Calls Try.prog 16 #[.slice A0 l0.length c0] w fun e w' => e = .returned (.int .i64 r) ∧ Below w.heap.size w w':=by
 have hr : checkV l0 = r:=Option.some.inj h
 clear h
 by_cases h4 : 4096 < l0.length
 ·have e : r = 5:=by rw [← hr];unfold checkV;rw [if_pos h4]
  subst e
  have c1 : decide (4096 < (l0.length : Int)) = true:=decide_eq_true (by omega)
  have c2 : decide (4096 < l0.length) = true:=decide_eq_true h4
  clear hr hr0
  go_enter Try.func16,Try.ntmps16
  go_wp2
  go_ret
  exact ⟨rfl,Below.refl _ _⟩
 ·have c1 : decide (4096 < (l0.length : Int)) = false:=decide_eq_false (by omega)
  have c2 : decide (4096 < l0.length) = false:=decide_eq_false h4
  have HRR:=Aside0.mk (show checkF [] [] l0 = r from by rw [← hr];unfold checkV;rw [if_neg h4])
  have HR0:=Aside0.mk hr0
  have hu51:=Try.underlying51
  have hmm:=@run_makeMap Try.prog
  clear hr hr0
  go_enter Try.func16,Try.ntmps16
  go_wp2
  go_loopw [17] (fun vi wr => ∃ (k : Nat) (L : List (List UInt8 × ByteArray)) (G : List (List UInt8)),k ≤ l0.length ∧ vi = .int .i64 (k : Int) ∧ Aside0 (Below w.heap.size w wr) ∧ Aside0 (checkF L G (l0.drop k) = r) ∧ Aside0 (MapF Try.prog 9 wr w.heap.size k (fLots L)) ∧ Aside0 (MapF Try.prog 9 wr (w.heap.size + 1) k (fSet G))) (fun vi _ => l0.length - (intOf vi).toNat)
  case atStart => exact ⟨0,[],[],by omega,rfl,⟨((Below.refl _ w).alloc (Nat.le_refl _) _).alloc (by simp) _⟩,⟨HRR.out⟩,⟨(MapF.made w Try.prog 9).alloc _⟩,⟨by rw [fSet_nil];have:=MapF.made (w.alloc (.map #[] 0)) Try.prog 9;rwa [World.size_alloc] at this⟩⟩
  case round =>
   obtain ⟨k,L,G,hk,rfl,HB,HF,HL,HG⟩:=hrel
   by_cases hlt : k < l0.length
   ·obtain ⟨x,hx⟩ : ∃ x,x = l0[k]:=⟨_,rfl⟩
    have hrd : rd_T51 l0 (k : Int) = x:=by unfold rd_T51;rw [Int.toNat_natCast,List.getD_eq_getElem?_getD,List.getElem?_eq_getElem hlt,hx];rfl
    obtain ⟨ad,e1,hx0,hx1,hx2,hx3⟩:=at_T51 HR0.out (k : Int) (by omega) (by omega)
    cases e1
    rw [hrd,Int.toNat_natCast] at hx0 hx1 hx2 hx3
    replace hx0:=(HB.out.cell (World.block_lt_of_cell? w _ hx0)).trans hx0
    replace hx1:=(HB.out.cell (World.block_lt_of_cell? w _ hx1)).trans hx1
    replace hx2:=(HB.out.cell (World.block_lt_of_cell? w _ hx2)).trans hx2
    replace hx3:=(HB.out.cell (World.block_lt_of_cell? w _ hx3)).trans hx3
    have HF2:=Aside0.mk (show checkF L G (x :: l0.drop (k + 1)) = r from by rw [← HF.out,List.drop_eq_getElem_cons hlt,hx])
    have HN:=Aside0.mk (names_is x 7 (by omega))
    clear hx hrd
    by_cases hn : namesX x = 0
    ·obtain ⟨hkind,hs1,hs2,hs3⟩:=namesX_zero hn
     rw [hn] at HN
     have hm2 : x.f2.size ≤ maxLen:=by unfold maxLen;omega
     obtain ⟨p,hp⟩ : ∃ p,p = x.f2.data.toList:=⟨_,rfl⟩
     obtain ⟨lk,hlk⟩ : ∃ lk,lk = L.lookup p:=⟨_,rfl⟩
     obtain ⟨VV,hVV⟩ : ∃ VV : ByteArray,VV = lk.getD ⟨#[]⟩:=⟨_,rfl⟩
     obtain ⟨CC,hCC⟩ : ∃ CC,CC = lk.isSome:=⟨_,rfl⟩
     have HV:=Aside0.mk (show (fLots L x.f2.data.toList).getD (.string (⟨#[]⟩ : ByteArray)) = .string VV from by rw [← hp,hVV];unfold fLots;rw [← hlk];cases lk <;> rfl)
     have HC:=Aside0.mk (show (fLots L x.f2.data.toList).isSome = CC from by rw [← hp,hCC];unfold fLots;rw [← hlk];cases lk <;> rfl)
     obtain ⟨gn,hgn⟩ : ∃ gn,gn = decide (p ∈ G):=⟨_,rfl⟩
     have HGN:=Aside0.mk (show (fSet G x.f2.data.toList).getD (.bool false) = .bool gn from by rw [← hp,hgn];unfold fSet;by_cases hh : p ∈ G <;> simp [hh])
     have HF3:=Aside0.mk HF2.out
     by_cases k0 : x.f0 = 0
     ·rw [k0] at hx0 HN
      have HK:=Aside0.mk k0
      by_cases hg : p ∈ G
      ·have e : r = 14:=by rw [← HF2.out,checkF_cons,if_neg (by rw [hn];decide),if_pos k0,if_pos (by rw [← hp];exact hg)]
       subst e
       have hgt : gn = true:=by rw [hgn];exact decide_eq_true hg
       subst hgt
       clear hg hgn hp hlk hVV hCC k0 hn HF HF2 HF3
       go_wp2_with (first | ((with_reducible refine gate_dst (N:=6) rfl ?_);refine box_event ?hg (N:=6) ?hd (cs:=#[.int .i64 0,.string (⟨#[]⟩ : ByteArray),.string (⟨#[]⟩ : ByteArray),.string (⟨#[]⟩ : ByteArray)]) (t:=51) ?hr ?_;(case hd => rfl);(case hg => rfl);(case hr => first | (go_simp;done) | (go_simp;rfl));intro gb hg w6 hbox hb;have BK:=Aside0.mk hbox;have HB6:=Aside0.mk hb;have GB:=Aside0.mk hg;clear hg hbox hb;have hcz0 : w6.cell? ⟨gb,0,none⟩ = some (.int .i64 0):=(blk_cell BK.out 0).trans rfl;have hcz1 : w6.cell? ⟨gb,1,none⟩ = some (.string (⟨#[]⟩ : ByteArray)):=(blk_cell BK.out 1).trans rfl;have hcz2 : w6.cell? ⟨gb,2,none⟩ = some (.string (⟨#[]⟩ : ByteArray)):=(blk_cell BK.out 2).trans rfl;have hcz3 : w6.cell? ⟨gb,3,none⟩ = some (.string (⟨#[]⟩ : ByteArray)):=(blk_cell BK.out 3).trans rfl;have hfz0:=blk_frozen BK.out 0;have hfz1:=blk_frozen BK.out 1;have hfz2:=blk_frozen BK.out 2;have hfz3:=blk_frozen BK.out 3) | (go_at_call 43;(with_reducible refine (recall_names.calls 7 0 x.f1 x.f2 x.f3 _ _ HN.out).mono ?_);rintro e w8 ⟨rfl,hb8⟩;have HE:=Aside0.mk (ev_box GB.out BK.out HB6.out hb8);clear hb8 hcz0 hcz1 hcz2 hcz3 hfz0 hfz1 hfz2 hfz3 hx0 hx1 hx2 hx3 BK HB6;have HL8:=Aside0.mk (HL.out.below (HE.out.1.mono (Nat.le_refl _)));have HG8:=Aside0.mk (HG.out.below HE.out.1);have HB8:=Aside0.mk (HB.out.trans (HE.out.1.mono HB.out.size));clear HL HG HB;have hc0 : w8.cell? ⟨gb,0,none⟩ = some (.int .i64 0):=(blk_cell HE.out.2 0).trans rfl;have hc2 : w8.cell? ⟨gb,2,none⟩ = some (.string x.f2):=(blk_cell HE.out.2 2).trans rfl;have hc3 : w8.cell? ⟨gb,3,none⟩ = some (.string x.f3):=(blk_cell HE.out.2 3).trans rfl) | (at_lookup;refine wpList_lookF_ok rfl _ _ 71 rfl 9 9 Try.underlying9 Try.underlying71 (Try.zeroValue9 _) rfl HL8.out x.f2 rfl hm2 (.string VV) HV.out _ HC.out ?_) | (at_lookup;refine wpList_lookF rfl _ _ 49 rfl 9 4 Try.underlying9 Try.underlying49 (Try.zeroValue4 _) rfl HG8.out x.f2 rfl hm2 (.bool _) HGN.out ?_))
       go_ret
       exact ⟨rfl,HB8.out⟩
      ·have hgt : gn = false:=by rw [hgn];exact decide_eq_false hg
       subst hgt
       by_cases hbad : lk.isSome = true ∧ VV.data.toList ≠ x.f3.data.toList
       ·have e : r = 16:=by
         rw [← HF2.out,checkF_cons,if_neg (by rw [hn];decide),if_pos k0,if_neg (by rw [← hp];exact hg),← hp,← hlk]
         cases hl : lk with
         | none => rw [hl] at hbad;exact absurd hbad.1 (by decide)
         | some s => simp only;rw [if_neg (by rw [hVV,hl] at hbad;exact hbad.2)]
        subst e
        have hC1 : CC = true:=by rw [hCC];exact hbad.1
        subst hC1
        have hne : ¬ VV.toList = x.f3.toList:=by rw [ByteArray.toList_eq,ByteArray.toList_eq];exact hbad.2
        have hne1 : (VV.toList == x.f3.toList) = false:=beq_eq_false_iff_ne.mpr hne
        have hne2 : (VV.toList != x.f3.toList) = true:=bne_iff_ne.mpr hne
        have hne3 : decide (VV.toList = x.f3.toList) = false:=decide_eq_false hne
        clear hg hgn hp hlk hVV hCC k0 hn HF HF2 HF3 hbad
        go_wp2_with (first | ((with_reducible refine gate_dst (N:=6) rfl ?_);refine box_event ?hg (N:=6) ?hd (cs:=#[.int .i64 0,.string (⟨#[]⟩ : ByteArray),.string (⟨#[]⟩ : ByteArray),.string (⟨#[]⟩ : ByteArray)]) (t:=51) ?hr ?_;(case hd => rfl);(case hg => rfl);(case hr => first | (go_simp;done) | (go_simp;rfl));intro gb hg w6 hbox hb;have BK:=Aside0.mk hbox;have HB6:=Aside0.mk hb;have GB:=Aside0.mk hg;clear hg hbox hb;have hcz0 : w6.cell? ⟨gb,0,none⟩ = some (.int .i64 0):=(blk_cell BK.out 0).trans rfl;have hcz1 : w6.cell? ⟨gb,1,none⟩ = some (.string (⟨#[]⟩ : ByteArray)):=(blk_cell BK.out 1).trans rfl;have hcz2 : w6.cell? ⟨gb,2,none⟩ = some (.string (⟨#[]⟩ : ByteArray)):=(blk_cell BK.out 2).trans rfl;have hcz3 : w6.cell? ⟨gb,3,none⟩ = some (.string (⟨#[]⟩ : ByteArray)):=(blk_cell BK.out 3).trans rfl;have hfz0:=blk_frozen BK.out 0;have hfz1:=blk_frozen BK.out 1;have hfz2:=blk_frozen BK.out 2;have hfz3:=blk_frozen BK.out 3) | (go_at_call 43;(with_reducible refine (recall_names.calls 7 0 x.f1 x.f2 x.f3 _ _ HN.out).mono ?_);rintro e w8 ⟨rfl,hb8⟩;have HE:=Aside0.mk (ev_box GB.out BK.out HB6.out hb8);clear hb8 hcz0 hcz1 hcz2 hcz3 hfz0 hfz1 hfz2 hfz3 hx0 hx1 hx2 hx3 BK HB6;have HL8:=Aside0.mk (HL.out.below (HE.out.1.mono (Nat.le_refl _)));have HG8:=Aside0.mk (HG.out.below HE.out.1);have HB8:=Aside0.mk (HB.out.trans (HE.out.1.mono HB.out.size));clear HL HG HB;have hc0 : w8.cell? ⟨gb,0,none⟩ = some (.int .i64 0):=(blk_cell HE.out.2 0).trans rfl;have hc2 : w8.cell? ⟨gb,2,none⟩ = some (.string x.f2):=(blk_cell HE.out.2 2).trans rfl;have hc3 : w8.cell? ⟨gb,3,none⟩ = some (.string x.f3):=(blk_cell HE.out.2 3).trans rfl) | (at_lookup;refine wpList_lookF_ok rfl _ _ 71 rfl 9 9 Try.underlying9 Try.underlying71 (Try.zeroValue9 _) rfl HL8.out x.f2 rfl hm2 (.string VV) HV.out _ HC.out ?_) | (at_lookup;refine wpList_lookF rfl _ _ 49 rfl 9 4 Try.underlying9 Try.underlying49 (Try.zeroValue4 _) rfl HG8.out x.f2 rfl hm2 (.bool _) HGN.out ?_))
        go_ret
        exact ⟨rfl,HB8.out⟩
       ·have HF4:=Aside0.mk (show checkF ((p,x.f3) :: L) G (l0.drop (k + 1)) = r from by
         rw [← HF2.out,checkF_cons,if_neg (by rw [hn];decide),if_pos k0,if_neg (by rw [← hp];exact hg),← hp,← hlk]
         cases hl : lk with
         | none => rfl
         | some s =>
          simp only
          rw [if_pos (Classical.byContradiction fun hh => hbad ⟨by rw [hl];rfl,by rw [hVV,hl];exact hh⟩)])
        have HPP:=Aside0.mk hp
        by_cases hcs : lk.isSome = true
        ·have hC1 : CC = true:=by rw [hCC];exact hcs
         subst hC1
         have heq : VV.toList = x.f3.toList:=by rw [ByteArray.toList_eq,ByteArray.toList_eq];exact Classical.byContradiction fun hh => hbad ⟨hcs,hh⟩
         have hne1 : (VV.toList == x.f3.toList) = true:=beq_iff_eq.mpr heq
         have hne2 : (VV.toList != x.f3.toList) = false:=bne_eq_false_iff_eq.mpr heq
         have hne3 : decide (VV.toList = x.f3.toList) = true:=decide_eq_true heq
         clear hg hgn hp hlk hVV hCC k0 hn HF HF2 HF3 hbad heq hcs
         go_wp2_with (first | ((with_reducible refine gate_dst (N:=6) rfl ?_);refine box_event ?hg (N:=6) ?hd (cs:=#[.int .i64 0,.string (⟨#[]⟩ : ByteArray),.string (⟨#[]⟩ : ByteArray),.string (⟨#[]⟩ : ByteArray)]) (t:=51) ?hr ?_;(case hd => rfl);(case hg => rfl);(case hr => first | (go_simp;done) | (go_simp;rfl));intro gb hg w6 hbox hb;have BK:=Aside0.mk hbox;have HB6:=Aside0.mk hb;have GB:=Aside0.mk hg;clear hg hbox hb;have hcz0 : w6.cell? ⟨gb,0,none⟩ = some (.int .i64 0):=(blk_cell BK.out 0).trans rfl;have hcz1 : w6.cell? ⟨gb,1,none⟩ = some (.string (⟨#[]⟩ : ByteArray)):=(blk_cell BK.out 1).trans rfl;have hcz2 : w6.cell? ⟨gb,2,none⟩ = some (.string (⟨#[]⟩ : ByteArray)):=(blk_cell BK.out 2).trans rfl;have hcz3 : w6.cell? ⟨gb,3,none⟩ = some (.string (⟨#[]⟩ : ByteArray)):=(blk_cell BK.out 3).trans rfl;have hfz0:=blk_frozen BK.out 0;have hfz1:=blk_frozen BK.out 1;have hfz2:=blk_frozen BK.out 2;have hfz3:=blk_frozen BK.out 3) | (go_at_call 43;(with_reducible refine (recall_names.calls 7 0 x.f1 x.f2 x.f3 _ _ HN.out).mono ?_);rintro e w8 ⟨rfl,hb8⟩;have HE:=Aside0.mk (ev_box GB.out BK.out HB6.out hb8);clear hb8 hcz0 hcz1 hcz2 hcz3 hfz0 hfz1 hfz2 hfz3 hx0 hx1 hx2 hx3 BK HB6;have HL8:=Aside0.mk (HL.out.below (HE.out.1.mono (Nat.le_refl _)));have HG8:=Aside0.mk (HG.out.below HE.out.1);have HB8:=Aside0.mk (HB.out.trans (HE.out.1.mono HB.out.size));clear HL HG HB;have hc0 : w8.cell? ⟨gb,0,none⟩ = some (.int .i64 0):=(blk_cell HE.out.2 0).trans rfl;have hc2 : w8.cell? ⟨gb,2,none⟩ = some (.string x.f2):=(blk_cell HE.out.2 2).trans rfl;have hc3 : w8.cell? ⟨gb,3,none⟩ = some (.string x.f3):=(blk_cell HE.out.2 3).trans rfl) | (at_lookup;refine wpList_lookF_ok rfl _ _ 71 rfl 9 9 Try.underlying9 Try.underlying71 (Try.zeroValue9 _) rfl HL8.out x.f2 rfl hm2 (.string VV) HV.out _ HC.out ?_) | (at_lookup;refine wpList_lookF rfl _ _ 49 rfl 9 4 Try.underlying9 Try.underlying49 (Try.zeroValue4 _) rfl HG8.out x.f2 rfl hm2 (.bool _) HGN.out ?_) | (at_mapUpdate;refine wpList_storeF rfl _ _ _ 71 rfl 9 9 Try.underlying9 Try.underlying71 rfl HL8.out (by unfold maxLen;omega) x.f2 rfl hm2 (.string x.f3) rfl ?_;intro w9 hs9 hg9;have HS9:=Aside0.mk hs9;have HG9:=Aside0.mk hg9;clear hs9 hg9))
         go_roundw
         case rel => exact ⟨k + 1,_,_,by omega,by go_num,⟨HB8.out.grown HG9.out HB8.out.size (fun k e => by cases e;exact Nat.le_refl _)⟩,HF4,⟨by rw [HPP.out,← fLots_put];exact HS9.out⟩,⟨(HG8.out.kept HG9.out (by simp)).mono (Nat.le_succ _)⟩⟩
         case measure => (simp [intOf] <;> omega)
        ·have hC1 : CC = false:=by rw [hCC];exact Bool.eq_false_iff.mpr hcs
         subst hC1
         clear hg hgn hp hlk hVV hCC k0 hn HF HF2 HF3 hbad hcs
         go_wp2_with (first | ((with_reducible refine gate_dst (N:=6) rfl ?_);refine box_event ?hg (N:=6) ?hd (cs:=#[.int .i64 0,.string (⟨#[]⟩ : ByteArray),.string (⟨#[]⟩ : ByteArray),.string (⟨#[]⟩ : ByteArray)]) (t:=51) ?hr ?_;(case hd => rfl);(case hg => rfl);(case hr => first | (go_simp;done) | (go_simp;rfl));intro gb hg w6 hbox hb;have BK:=Aside0.mk hbox;have HB6:=Aside0.mk hb;have GB:=Aside0.mk hg;clear hg hbox hb;have hcz0 : w6.cell? ⟨gb,0,none⟩ = some (.int .i64 0):=(blk_cell BK.out 0).trans rfl;have hcz1 : w6.cell? ⟨gb,1,none⟩ = some (.string (⟨#[]⟩ : ByteArray)):=(blk_cell BK.out 1).trans rfl;have hcz2 : w6.cell? ⟨gb,2,none⟩ = some (.string (⟨#[]⟩ : ByteArray)):=(blk_cell BK.out 2).trans rfl;have hcz3 : w6.cell? ⟨gb,3,none⟩ = some (.string (⟨#[]⟩ : ByteArray)):=(blk_cell BK.out 3).trans rfl;have hfz0:=blk_frozen BK.out 0;have hfz1:=blk_frozen BK.out 1;have hfz2:=blk_frozen BK.out 2;have hfz3:=blk_frozen BK.out 3) | (go_at_call 43;(with_reducible refine (recall_names.calls 7 0 x.f1 x.f2 x.f3 _ _ HN.out).mono ?_);rintro e w8 ⟨rfl,hb8⟩;have HE:=Aside0.mk (ev_box GB.out BK.out HB6.out hb8);clear hb8 hcz0 hcz1 hcz2 hcz3 hfz0 hfz1 hfz2 hfz3 hx0 hx1 hx2 hx3 BK HB6;have HL8:=Aside0.mk (HL.out.below (HE.out.1.mono (Nat.le_refl _)));have HG8:=Aside0.mk (HG.out.below HE.out.1);have HB8:=Aside0.mk (HB.out.trans (HE.out.1.mono HB.out.size));clear HL HG HB;have hc0 : w8.cell? ⟨gb,0,none⟩ = some (.int .i64 0):=(blk_cell HE.out.2 0).trans rfl;have hc2 : w8.cell? ⟨gb,2,none⟩ = some (.string x.f2):=(blk_cell HE.out.2 2).trans rfl;have hc3 : w8.cell? ⟨gb,3,none⟩ = some (.string x.f3):=(blk_cell HE.out.2 3).trans rfl) | (at_lookup;refine wpList_lookF_ok rfl _ _ 71 rfl 9 9 Try.underlying9 Try.underlying71 (Try.zeroValue9 _) rfl HL8.out x.f2 rfl hm2 (.string VV) HV.out _ HC.out ?_) | (at_lookup;refine wpList_lookF rfl _ _ 49 rfl 9 4 Try.underlying9 Try.underlying49 (Try.zeroValue4 _) rfl HG8.out x.f2 rfl hm2 (.bool _) HGN.out ?_) | (at_mapUpdate;refine wpList_storeF rfl _ _ _ 71 rfl 9 9 Try.underlying9 Try.underlying71 rfl HL8.out (by unfold maxLen;omega) x.f2 rfl hm2 (.string x.f3) rfl ?_;intro w9 hs9 hg9;have HS9:=Aside0.mk hs9;have HG9:=Aside0.mk hg9;clear hs9 hg9))
         go_roundw
         case rel => exact ⟨k + 1,_,_,by omega,by go_num,⟨HB8.out.grown HG9.out HB8.out.size (fun k e => by cases e;exact Nat.le_refl _)⟩,HF4,⟨by rw [HPP.out,← fLots_put];exact HS9.out⟩,⟨(HG8.out.kept HG9.out (by simp)).mono (Nat.le_succ _)⟩⟩
         case measure => (simp [intOf] <;> omega)
     ·have k0b : (x.f0 == 0) = false:=beq_eq_false_iff_ne.mpr k0
      by_cases k3 : x.f0 = 3
      ·rw [k3] at hx0 HN
       by_cases hnn : lk = none
       ·have e : r = 6:=by rw [← HF2.out,checkF_cons,if_neg (by rw [hn];decide),if_neg k0,if_pos k3,if_pos (by rw [← hp,← hlk];exact hnn)]
        subst e
        have hC1 : CC = false:=by rw [hCC,hnn];rfl
        subst hC1
        clear hgn hp hlk hVV hCC k0 k3 k0b hn HF HF2 HF3 hnn
        go_wp2_with (first | ((with_reducible refine gate_dst (N:=6) rfl ?_);refine box_event ?hg (N:=6) ?hd (cs:=#[.int .i64 0,.string (⟨#[]⟩ : ByteArray),.string (⟨#[]⟩ : ByteArray),.string (⟨#[]⟩ : ByteArray)]) (t:=51) ?hr ?_;(case hd => rfl);(case hg => rfl);(case hr => first | (go_simp;done) | (go_simp;rfl));intro gb hg w6 hbox hb;have BK:=Aside0.mk hbox;have HB6:=Aside0.mk hb;have GB:=Aside0.mk hg;clear hg hbox hb;have hcz0 : w6.cell? ⟨gb,0,none⟩ = some (.int .i64 0):=(blk_cell BK.out 0).trans rfl;have hcz1 : w6.cell? ⟨gb,1,none⟩ = some (.string (⟨#[]⟩ : ByteArray)):=(blk_cell BK.out 1).trans rfl;have hcz2 : w6.cell? ⟨gb,2,none⟩ = some (.string (⟨#[]⟩ : ByteArray)):=(blk_cell BK.out 2).trans rfl;have hcz3 : w6.cell? ⟨gb,3,none⟩ = some (.string (⟨#[]⟩ : ByteArray)):=(blk_cell BK.out 3).trans rfl;have hfz0:=blk_frozen BK.out 0;have hfz1:=blk_frozen BK.out 1;have hfz2:=blk_frozen BK.out 2;have hfz3:=blk_frozen BK.out 3) | (go_at_call 43;(with_reducible refine (recall_names.calls 7 3 x.f1 x.f2 x.f3 _ _ HN.out).mono ?_);rintro e w8 ⟨rfl,hb8⟩;have HE:=Aside0.mk (ev_box GB.out BK.out HB6.out hb8);clear hb8 hcz0 hcz1 hcz2 hcz3 hfz0 hfz1 hfz2 hfz3 hx0 hx1 hx2 hx3 BK HB6;have HL8:=Aside0.mk (HL.out.below (HE.out.1.mono (Nat.le_refl _)));have HG8:=Aside0.mk (HG.out.below HE.out.1);have HB8:=Aside0.mk (HB.out.trans (HE.out.1.mono HB.out.size));clear HL HG HB;have hc0 : w8.cell? ⟨gb,0,none⟩ = some (.int .i64 3):=(blk_cell HE.out.2 0).trans rfl;have hc2 : w8.cell? ⟨gb,2,none⟩ = some (.string x.f2):=(blk_cell HE.out.2 2).trans rfl;have hc3 : w8.cell? ⟨gb,3,none⟩ = some (.string x.f3):=(blk_cell HE.out.2 3).trans rfl) | (at_lookup;refine wpList_lookF_ok rfl _ _ 71 rfl 9 9 Try.underlying9 Try.underlying71 (Try.zeroValue9 _) rfl HL8.out x.f2 rfl hm2 (.string VV) HV.out _ HC.out ?_) | (at_lookup;refine wpList_lookF rfl _ _ 49 rfl 9 4 Try.underlying9 Try.underlying49 (Try.zeroValue4 _) rfl HG8.out x.f2 rfl hm2 (.bool _) HGN.out ?_))
        go_ret
        exact ⟨rfl,HB8.out⟩
       ·have hC1 : CC = true:=by rw [hCC];cases hl : lk with | none => exact absurd hl hnn | some _ => rfl
        subst hC1
        by_cases hg : p ∈ G
        ·have e : r = 14:=by rw [← HF2.out,checkF_cons,if_neg (by rw [hn];decide),if_neg k0,if_pos k3,if_neg (by rw [← hp,← hlk];exact hnn),if_pos (by rw [← hp];exact hg)]
         subst e
         have hgt : gn = true:=by rw [hgn];exact decide_eq_true hg
         subst hgt
         clear hg hgn hp hlk hVV hCC k0 k3 k0b hn HF HF2 HF3 hnn
         go_wp2_with (first | ((with_reducible refine gate_dst (N:=6) rfl ?_);refine box_event ?hg (N:=6) ?hd (cs:=#[.int .i64 0,.string (⟨#[]⟩ : ByteArray),.string (⟨#[]⟩ : ByteArray),.string (⟨#[]⟩ : ByteArray)]) (t:=51) ?hr ?_;(case hd => rfl);(case hg => rfl);(case hr => first | (go_simp;done) | (go_simp;rfl));intro gb hg w6 hbox hb;have BK:=Aside0.mk hbox;have HB6:=Aside0.mk hb;have GB:=Aside0.mk hg;clear hg hbox hb;have hcz0 : w6.cell? ⟨gb,0,none⟩ = some (.int .i64 0):=(blk_cell BK.out 0).trans rfl;have hcz1 : w6.cell? ⟨gb,1,none⟩ = some (.string (⟨#[]⟩ : ByteArray)):=(blk_cell BK.out 1).trans rfl;have hcz2 : w6.cell? ⟨gb,2,none⟩ = some (.string (⟨#[]⟩ : ByteArray)):=(blk_cell BK.out 2).trans rfl;have hcz3 : w6.cell? ⟨gb,3,none⟩ = some (.string (⟨#[]⟩ : ByteArray)):=(blk_cell BK.out 3).trans rfl;have hfz0:=blk_frozen BK.out 0;have hfz1:=blk_frozen BK.out 1;have hfz2:=blk_frozen BK.out 2;have hfz3:=blk_frozen BK.out 3) | (go_at_call 43;(with_reducible refine (recall_names.calls 7 3 x.f1 x.f2 x.f3 _ _ HN.out).mono ?_);rintro e w8 ⟨rfl,hb8⟩;have HE:=Aside0.mk (ev_box GB.out BK.out HB6.out hb8);clear hb8 hcz0 hcz1 hcz2 hcz3 hfz0 hfz1 hfz2 hfz3 hx0 hx1 hx2 hx3 BK HB6;have HL8:=Aside0.mk (HL.out.below (HE.out.1.mono (Nat.le_refl _)));have HG8:=Aside0.mk (HG.out.below HE.out.1);have HB8:=Aside0.mk (HB.out.trans (HE.out.1.mono HB.out.size));clear HL HG HB;have hc0 : w8.cell? ⟨gb,0,none⟩ = some (.int .i64 3):=(blk_cell HE.out.2 0).trans rfl;have hc2 : w8.cell? ⟨gb,2,none⟩ = some (.string x.f2):=(blk_cell HE.out.2 2).trans rfl;have hc3 : w8.cell? ⟨gb,3,none⟩ = some (.string x.f3):=(blk_cell HE.out.2 3).trans rfl) | (at_lookup;refine wpList_lookF_ok rfl _ _ 71 rfl 9 9 Try.underlying9 Try.underlying71 (Try.zeroValue9 _) rfl HL8.out x.f2 rfl hm2 (.string VV) HV.out _ HC.out ?_) | (at_lookup;refine wpList_lookF rfl _ _ 49 rfl 9 4 Try.underlying9 Try.underlying49 (Try.zeroValue4 _) rfl HG8.out x.f2 rfl hm2 (.bool _) HGN.out ?_))
         go_ret
         exact ⟨rfl,HB8.out⟩
        ·have HF4:=Aside0.mk (show checkF L (p :: G) (l0.drop (k + 1)) = r from by rw [← HF2.out,checkF_cons,if_neg (by rw [hn];decide),if_neg k0,if_pos k3,if_neg (by rw [← hp,← hlk];exact hnn),if_neg (by rw [← hp];exact hg),← hp])
         have hgt : gn = false:=by rw [hgn];exact decide_eq_false hg
         subst hgt
         have HPP:=Aside0.mk hp
         clear hg hgn hp hlk hVV hCC k0 k3 k0b hn HF HF2 HF3 hnn
         go_wp2_with (first | ((with_reducible refine gate_dst (N:=6) rfl ?_);refine box_event ?hg (N:=6) ?hd (cs:=#[.int .i64 0,.string (⟨#[]⟩ : ByteArray),.string (⟨#[]⟩ : ByteArray),.string (⟨#[]⟩ : ByteArray)]) (t:=51) ?hr ?_;(case hd => rfl);(case hg => rfl);(case hr => first | (go_simp;done) | (go_simp;rfl));intro gb hg w6 hbox hb;have BK:=Aside0.mk hbox;have HB6:=Aside0.mk hb;have GB:=Aside0.mk hg;clear hg hbox hb;have hcz0 : w6.cell? ⟨gb,0,none⟩ = some (.int .i64 0):=(blk_cell BK.out 0).trans rfl;have hcz1 : w6.cell? ⟨gb,1,none⟩ = some (.string (⟨#[]⟩ : ByteArray)):=(blk_cell BK.out 1).trans rfl;have hcz2 : w6.cell? ⟨gb,2,none⟩ = some (.string (⟨#[]⟩ : ByteArray)):=(blk_cell BK.out 2).trans rfl;have hcz3 : w6.cell? ⟨gb,3,none⟩ = some (.string (⟨#[]⟩ : ByteArray)):=(blk_cell BK.out 3).trans rfl;have hfz0:=blk_frozen BK.out 0;have hfz1:=blk_frozen BK.out 1;have hfz2:=blk_frozen BK.out 2;have hfz3:=blk_frozen BK.out 3) | (go_at_call 43;(with_reducible refine (recall_names.calls 7 3 x.f1 x.f2 x.f3 _ _ HN.out).mono ?_);rintro e w8 ⟨rfl,hb8⟩;have HE:=Aside0.mk (ev_box GB.out BK.out HB6.out hb8);clear hb8 hcz0 hcz1 hcz2 hcz3 hfz0 hfz1 hfz2 hfz3 hx0 hx1 hx2 hx3 BK HB6;have HL8:=Aside0.mk (HL.out.below (HE.out.1.mono (Nat.le_refl _)));have HG8:=Aside0.mk (HG.out.below HE.out.1);have HB8:=Aside0.mk (HB.out.trans (HE.out.1.mono HB.out.size));clear HL HG HB;have hc0 : w8.cell? ⟨gb,0,none⟩ = some (.int .i64 3):=(blk_cell HE.out.2 0).trans rfl;have hc2 : w8.cell? ⟨gb,2,none⟩ = some (.string x.f2):=(blk_cell HE.out.2 2).trans rfl;have hc3 : w8.cell? ⟨gb,3,none⟩ = some (.string x.f3):=(blk_cell HE.out.2 3).trans rfl) | (at_lookup;refine wpList_lookF_ok rfl _ _ 71 rfl 9 9 Try.underlying9 Try.underlying71 (Try.zeroValue9 _) rfl HL8.out x.f2 rfl hm2 (.string VV) HV.out _ HC.out ?_) | (at_lookup;refine wpList_lookF rfl _ _ 49 rfl 9 4 Try.underlying9 Try.underlying49 (Try.zeroValue4 _) rfl HG8.out x.f2 rfl hm2 (.bool _) HGN.out ?_) | (at_mapUpdate;refine wpList_storeF rfl _ _ _ 49 rfl 9 4 Try.underlying9 Try.underlying49 rfl HG8.out (by unfold maxLen;omega) x.f2 rfl hm2 (.bool true) rfl ?_;intro w9 hs9 hg9;have HS9:=Aside0.mk hs9;have HG9:=Aside0.mk hg9;clear hs9 hg9))
         go_roundw
         case rel => exact ⟨k + 1,_,_,by omega,by go_num,⟨HB8.out.grown HG9.out HB8.out.size (fun k e => by cases e;exact Nat.le_succ _)⟩,HF4,⟨(HL8.out.kept HG9.out (by simp)).mono (Nat.le_succ _)⟩,⟨by rw [HPP.out,← fSet_put];exact HS9.out⟩⟩
         case measure => (simp [intOf] <;> omega)
      ·have k3b : (x.f0 == 3) = false:=beq_eq_false_iff_ne.mpr k3
       have HF4:=Aside0.mk (show checkF L G (l0.drop (k + 1)) = r from by rw [← HF2.out,checkF_cons,if_neg (by rw [hn];decide),if_neg k0,if_neg k3])
       clear hgn hp hlk hVV hCC k0 k3 hn HF HF2 HF3
       go_wp2_with (first | ((with_reducible refine gate_dst (N:=6) rfl ?_);refine box_event ?hg (N:=6) ?hd (cs:=#[.int .i64 0,.string (⟨#[]⟩ : ByteArray),.string (⟨#[]⟩ : ByteArray),.string (⟨#[]⟩ : ByteArray)]) (t:=51) ?hr ?_;(case hd => rfl);(case hg => rfl);(case hr => first | (go_simp;done) | (go_simp;rfl));intro gb hg w6 hbox hb;have BK:=Aside0.mk hbox;have HB6:=Aside0.mk hb;have GB:=Aside0.mk hg;clear hg hbox hb;have hcz0 : w6.cell? ⟨gb,0,none⟩ = some (.int .i64 0):=(blk_cell BK.out 0).trans rfl;have hcz1 : w6.cell? ⟨gb,1,none⟩ = some (.string (⟨#[]⟩ : ByteArray)):=(blk_cell BK.out 1).trans rfl;have hcz2 : w6.cell? ⟨gb,2,none⟩ = some (.string (⟨#[]⟩ : ByteArray)):=(blk_cell BK.out 2).trans rfl;have hcz3 : w6.cell? ⟨gb,3,none⟩ = some (.string (⟨#[]⟩ : ByteArray)):=(blk_cell BK.out 3).trans rfl;have hfz0:=blk_frozen BK.out 0;have hfz1:=blk_frozen BK.out 1;have hfz2:=blk_frozen BK.out 2;have hfz3:=blk_frozen BK.out 3) | (go_at_call 43;(with_reducible refine (recall_names.calls 7 x.f0 x.f1 x.f2 x.f3 _ _ HN.out).mono ?_);rintro e w8 ⟨rfl,hb8⟩;have HE:=Aside0.mk (ev_box GB.out BK.out HB6.out hb8);clear hb8 hcz0 hcz1 hcz2 hcz3 hfz0 hfz1 hfz2 hfz3 hx0 hx1 hx2 hx3 BK HB6;have HL8:=Aside0.mk (HL.out.below (HE.out.1.mono (Nat.le_refl _)));have HG8:=Aside0.mk (HG.out.below HE.out.1);have HB8:=Aside0.mk (HB.out.trans (HE.out.1.mono HB.out.size));clear HL HG HB;have hc0 : w8.cell? ⟨gb,0,none⟩ = some (.int .i64 x.f0):=(blk_cell HE.out.2 0).trans rfl;have hc2 : w8.cell? ⟨gb,2,none⟩ = some (.string x.f2):=(blk_cell HE.out.2 2).trans rfl;have hc3 : w8.cell? ⟨gb,3,none⟩ = some (.string x.f3):=(blk_cell HE.out.2 3).trans rfl) | (at_lookup;refine wpList_lookF_ok rfl _ _ 71 rfl 9 9 Try.underlying9 Try.underlying71 (Try.zeroValue9 _) rfl HL8.out x.f2 rfl hm2 (.string VV) HV.out _ HC.out ?_) | (at_lookup;refine wpList_lookF rfl _ _ 49 rfl 9 4 Try.underlying9 Try.underlying49 (Try.zeroValue4 _) rfl HG8.out x.f2 rfl hm2 (.bool _) HGN.out ?_))
       go_roundw
       case rel => exact ⟨k + 1,_,_,by omega,by go_num,HB8,HF4,⟨HL8.out.mono (Nat.le_succ _)⟩,⟨HG8.out.mono (Nat.le_succ _)⟩⟩
       case measure => (simp [intOf] <;> omega)
    ·have e : r = namesX x:=by rw [← HF2.out,checkF_cons,if_pos hn]
     subst e
     have hn1 : (namesX x != 0) = true:=bne_iff_ne.mpr hn
     have hn2 : (namesX x == 0) = false:=beq_eq_false_iff_ne.mpr hn
     go_wp2_with (first | ((with_reducible refine gate_dst (N:=6) rfl ?_);refine box_event ?hg (N:=6) ?hd (cs:=#[.int .i64 0,.string (⟨#[]⟩ : ByteArray),.string (⟨#[]⟩ : ByteArray),.string (⟨#[]⟩ : ByteArray)]) (t:=51) ?hr ?_;(case hd => rfl);(case hg => rfl);(case hr => first | (go_simp;done) | (go_simp;rfl));intro gb hg w6 hbox hb;have BK:=Aside0.mk hbox;have HB6:=Aside0.mk hb;have GB:=Aside0.mk hg;clear hg hbox hb;have hcz0 : w6.cell? ⟨gb,0,none⟩ = some (.int .i64 0):=(blk_cell BK.out 0).trans rfl;have hcz1 : w6.cell? ⟨gb,1,none⟩ = some (.string (⟨#[]⟩ : ByteArray)):=(blk_cell BK.out 1).trans rfl;have hcz2 : w6.cell? ⟨gb,2,none⟩ = some (.string (⟨#[]⟩ : ByteArray)):=(blk_cell BK.out 2).trans rfl;have hcz3 : w6.cell? ⟨gb,3,none⟩ = some (.string (⟨#[]⟩ : ByteArray)):=(blk_cell BK.out 3).trans rfl;have hfz0:=blk_frozen BK.out 0;have hfz1:=blk_frozen BK.out 1;have hfz2:=blk_frozen BK.out 2;have hfz3:=blk_frozen BK.out 3) | (go_at_call 43;(with_reducible refine (recall_names.calls 7 x.f0 x.f1 x.f2 x.f3 _ _ HN.out).mono ?_);rintro e w8 ⟨rfl,hb8⟩;have HE:=Aside0.mk (ev_box GB.out BK.out HB6.out hb8);clear hb8 hcz0 hcz1 hcz2 hcz3 hfz0 hfz1 hfz2 hfz3 hx0 hx1 hx2 hx3 BK HB6;have HL8:=Aside0.mk (HL.out.below (HE.out.1.mono (Nat.le_refl _)));have HG8:=Aside0.mk (HG.out.below HE.out.1);have HB8:=Aside0.mk (HB.out.trans (HE.out.1.mono HB.out.size));clear HL HG HB;have hc0 : w8.cell? ⟨gb,0,none⟩ = some (.int .i64 x.f0):=(blk_cell HE.out.2 0).trans rfl;have hc2 : w8.cell? ⟨gb,2,none⟩ = some (.string x.f2):=(blk_cell HE.out.2 2).trans rfl;have hc3 : w8.cell? ⟨gb,3,none⟩ = some (.string x.f3):=(blk_cell HE.out.2 3).trans rfl))
     go_ret
     exact ⟨rfl,HB8.out⟩
   ·obtain rfl : k = l0.length:=by omega
    have e : r = 0:=by rw [← HF.out,List.drop_eq_nil_of_le (Nat.le_refl _)];rfl
    subst e
    go_wp2
    go_ret
    exact ⟨rfl,HB.out⟩
end Go.Proofs.Ytnmmdeonkpfccaa.Pr
set_option linter.unusedVariables false
namespace Go.Proofs.Ytnmmdeonkpfccaa.Pr
open Go.RowKit Go.Shelf Go.Proofs.YtnmmdeonkpfccaaW.PrintWords Go.Proofs.YtnmmdeonkpfccaaW.PrintLast Go.Proofs.YtnmmdeonkpfccaaW.PrintMore
open Go.Proofs.Ytnmmdeonkpfccaa.Rg
attribute [local go_sem] Oper.semAt_some
def statesL (l : List S51) : List Int:=(List.range l.length).map fun i => (chkA l (l.length - 1 - i)).2
def statesV (l : List S51) : List Int × Int:=if checkV l ≠ 0 then ([],checkV l) else (statesL l,0)
def recall_States.f (l : List S51) : Option (List Int × Int):=some (statesV l)
theorem slice_lt {w : World} {A0 : Option Addr} {l : List S51} (h : Kd.C k51 w A0 l.length l) : ∀ ad,A0 = some ad → l ≠ [] → ad.block < w.heap.size:=by
 rintro ad rfl hne
 have hp : 0 < l.length:=by cases l with | nil => exact absurd rfl hne | cons _ _ => simp
 obtain ⟨ad',e,h0,_⟩:=at_T51 h 0 (Int.le_refl _) (by omega)
 cases e
 have:=World.block_lt_of_cell? w _ h0
 unfold Addr.add at this
 simpa using this
theorem check_zero {l : List S51} (h : checkV l = 0) : l.length ≤ 4096 ∧ ∀ x ∈ l,namesX x = 0:=by
 unfold checkV at h
 split at h
 ·cases h
 ·refine ⟨by omega,?_⟩
  have : ∀ (l : List S51) L G,checkF L G l = 0 → ∀ x ∈ l,namesX x = 0:=by
   intro l
   induction l with
   | nil => intro L G _ x hx;cases hx
   | cons y r ih =>
    intro L G h x hx
    rw [checkF_cons] at h
    by_cases hn : namesX y = 0
    ·rw [if_neg (by rw [hn];decide)] at h
     rcases List.mem_cons.1 hx with rfl | hx
     ·exact hn
     ·split at h
      ·split at h
       ·cases h
       ·split at h
        ·exact ih _ _ h x hx
        ·split at h
         ·exact ih _ _ h x hx
         ·cases h
      ·split at h
       ·split at h
        ·cases h
        ·split at h
         ·cases h
         ·exact ih _ _ h x hx
       ·exact ih _ _ h x hx
    ·rw [if_pos hn] at h;exact absurd h hn
  exact this l _ _ h
theorem made_ints (n : Nat) : madeCells #[Value.int .i64 0] n = ((List.replicate n (0 : Int)).map (Value.int .i64)).toArray:=by
 apply Array.ext
 ·simp [madeCells]
 ·intro i h1 h2
  simp [madeCells,Nat.mod_one]
theorem set_ints (xs : List Int) (i : Nat) (v : Int) : ((xs.map (Value.int .i64)).toArray).setIfInBounds i (.int .i64 v) = ((xs.set i v).map (Value.int .i64)).toArray:=by
 simp [List.map_set]
theorem R_of_blk {w0 W : World} {G : Nat} {xs : List Int} (h : W.heap[G]? = some (.cells ((xs.map (Value.int .i64)).toArray) 3)) (hG : w0.heap.size ≤ G) (hn : xs.length ≤ 4096) :
  Kd.R (Kd.int .i64) 3 W w0.heap.size (fun _ => True) (.slice (some ⟨G,0,none⟩) xs.length xs.length) xs:=by
 refine Kd.R_of_own (enc:=Value.int .i64) (h1:=fun _ => rfl) ?_ (fun _ _ => trivial)
 refine ⟨by simp [encs],.inr ⟨G,xs.length,_,rfl,hG,h,Nat.le_refl _,by unfold maxLen;omega,by simp,by simp [encs,List.take_of_length_le]⟩⟩
theorem statK_inj {l : List S51} {j k : Nat} (h : statK l j = statK l k) : j = k:=by have:=congrArg List.length h;simpa [statK] using this
theorem statK_next {l : List S51} {k k' : Nat} {pre : List (Int × Int × Int)} {x : Int × Int × Int} (hp : pre = statK l k) (h : pre ++ [x] = statK l k') : k' = k + 1 ∧ x = ((l.length : Int) - 1 - k,chkA l k):=by
 have hkk : k' = k + 1:=by
  have:=congrArg List.length h
  rw [hp,List.length_append] at this
  simp [statK] at this
  exact this.symm
 subst hkk
 rw [hp,statK_succ] at h
 have:=List.append_cancel_left h
 simp only [List.cons.injEq,and_true] at this
 exact ⟨rfl,this⟩
set_option maxRecDepth 100000 in
set_option maxHeartbeats 1000000 in
theorem States_ok (A0 : Option Addr) (c0 : Nat) (l : List (S51)) (w : World) (hr0 : Kd.C k51 w A0 l.length l) (hc0 : l.length ≤ c0) (hck : checkV l = 0) :
  Calls Try.prog 11 #[.slice A0 l.length c0] w fun e w' => ∃ v,e = .returned (.tuple #[v,.int .i64 0]) ∧ Kd.R (Kd.int .i64) 3 w' w.heap.size (fun _ => True) v (statesL l) ∧ Below w.heap.size w w':=by
 obtain ⟨hl,hnx⟩:=check_zero hck
 have hg : ∀ x ∈ l,x.f1.size ≤ 24:=fun x hx => (namesX_zero (hnx x hx)).2.1
 have hlt:=slice_lt hr0
 have HCK:=Aside0.mk (recall_Check.calls A0 c0 l 0 w hr0 hc0 (congrArg some hck))
 have HR0:=Aside0.mk hr0
 have hmk:=print_make_int (P:=Try.prog) 25 3 (.int .i64 0) 8 Try.underlying25 info3 rfl (by decide) (l.length : Int) (by omega) (by omega)
 have hf16 : Fence.wide.fn 16:=trivial
 have hf38 : Fence.wide.fn 38:=trivial
 have HG:=Aside0.mk hg
 have HLT:=Aside0.mk hlt
 clear hr0 hnx hg hlt hck
 refine (callsIn_wide (n:=3)).1 ?_
 refine callsIn_of_wp_marks Try.func11 rfl trivial ?_ rfl
 simp only [Try.ntmps11,List.size_toArray,List.length_cons,List.length_nil,Nat.reduceAdd,Nat.reduceSub,Array.replicate_succ,Array.replicate_zero,List.push_toArray,List.append_toArray,List.nil_append,List.cons_append]
 gi_wp2_with (first | ((first | refine ⟨fun h => absurd h (by decide),?_⟩ | skip);gi_at_call 16;refine (callsIn_wide.2 HCK.out).mono ?_;rintro e w1 ⟨rfl,hb1⟩;have HB1:=Aside0.mk hb1;clear hb1) | ((first | refine ⟨fun h => absurd h (by decide),?_⟩ | skip);gi_at_call 38;refine (states_in _ A0 c0 l.length _).mono ?_;rintro e w' ⟨rfl,rfl⟩))
 obtain ⟨Wl,hWl⟩ : ∃ Wl,(((w1.alloc (Obj.cells (madeCells #[Value.int .i64 0] l.length) 3)).alloc (Obj.cells #[Value.slice (some ⟨w1.heap.size,0,none⟩) l.length l.length] 25)).alloc (Obj.cells #[Value.slice A0 l.length c0] 22)) = Wl:=⟨_,rfl⟩
 have hs3 : Wl.heap.size = w1.heap.size + 3:=by rw [← hWl];simp
 have hb3 : Below w1.heap.size w1 Wl:=by rw [← hWl];exact (((Below.refl _ w1).alloc (Nat.le_refl _) _).alloc (by simp) _).alloc (by simp;omega) _
 have hG0 : Wl.heap[w1.heap.size]? = some (.cells ((List.replicate l.length (0 : Int)).map (Value.int .i64)).toArray 3):=by rw [← hWl,← made_ints];exact blk_alloc (blk_alloc (blk_new _ _) _) _
 have hO0 : Wl.heap[w1.heap.size + 1]? = some (.cells #[.slice (some ⟨w1.heap.size,0,none⟩) l.length l.length] 25):=by
  rw [← hWl]
  have:=blk_alloc (blk_new (w1.alloc (Obj.cells (madeCells #[Value.int .i64 0] l.length) 3)) (Obj.cells #[Value.slice (some ⟨w1.heap.size,0,none⟩) l.length l.length] 25)) (Obj.cells #[Value.slice A0 l.length c0] 22)
  rwa [World.size_alloc] at this
 have hL0 : Wl.cell? ⟨w1.heap.size + 2,0,none⟩ = some (.slice A0 l.length c0):=by
  rw [← hWl]
  have:=blk_new ((w1.alloc (Obj.cells (madeCells #[Value.int .i64 0] l.length) 3)).alloc (Obj.cells #[Value.slice (some ⟨w1.heap.size,0,none⟩) l.length l.length] 25)) (Obj.cells #[Value.slice A0 l.length c0] 22)
  rw [World.size_alloc,World.size_alloc] at this
  exact (blk_cell this 0).trans rfl
 rw [hWl]
 clear hWl hf16 hf38 hmk
 have hsz1:=HB1.out.size
 have hbw : Below w.heap.size w Wl:=HB1.out.trans (hb3.mono hsz1)
 refine rangeB2 (gf:=64) (lb:=#[.pointer (some ⟨w1.heap.size + 2,0,none⟩)]) rfl (enters_of Try.func64 (by kernel_rfl) rfl) (fun i => i = w1.heap.size) (fun i hi => by omega)
  (states_seq _ A0 c0 (w1.heap.size + 2) l Wl hl HG.out (Kd.C_below HR0.out hbw) (fun ad ha hne h => by have:=HLT.out ad ha hne;omega) (fun ad ha hne => by have:=HLT.out ad ha hne;omega) hL0 (fun h => by omega)) (fun _ => rfl)
  (fun pre Wr => ∃ (k : Nat) (out : List Int),k ≤ l.length ∧ pre = statK l k ∧ out.length = l.length ∧ (∀ j,l.length - k ≤ j → j < l.length → out[j]? = some (chkA l (l.length - 1 - j)).2) ∧ Wr.heap[w1.heap.size]? = some (.cells (out.map (Value.int .i64)).toArray 3) ∧ Wr.heap[w1.heap.size + 1]? = some (.cells #[.slice (some ⟨w1.heap.size,0,none⟩) l.length l.length] 25) ∧ Below w.heap.size w Wr)
  ?hI ⟨0,_,by omega,rfl,by simp,fun j h1 h2 => by omega,hG0,hO0,hbw⟩ ?round ?done
 case hI =>
  rintro pre Wr Wr' ⟨k,out,hk,hp,ho,hv,hg,hb,hB⟩ hsz hsz2 h1 h2 h3 h4
  exact ⟨k,out,hk,hp,ho,hv,(h4 _ (by omega)).trans hg,(h4 _ (by omega)).trans hb,below_reads hB (by omega) hsz2 h1 h2 h3 h4⟩
 case round =>
  rintro m pre ⟨i,a,s⟩ Wr hI hsz hpf
  have HI:=Aside0.mk hI
  clear hI hpf hG0 hO0 hL0 hb3 hbw
  simp only [encS,pairV]
  gi_wp2
  obtain ⟨k,out,hk,hp,ho,hv,hg,hb,hB⟩:=HI.out
  refine ⟨(KeepC.refl _ _).alloc _,⟨k,out,hk,hp,ho,hv,blk_alloc hg _,blk_alloc hb _,hB.alloc (by omega) _⟩,?_⟩
  clear k out hk hp ho hv hg hb hB
  rintro m2 pre2 W2 hone ⟨k,out,hk,hp,ho,hv,hg,hb,hB⟩ hsz2 ⟨k',hk',hpk⟩
  obtain ⟨rfl,hx⟩:=statK_next hp hpk
  simp only [Prod.mk.injEq] at hx
  obtain ⟨hi,hc⟩:=hx
  have hcs : s = (chkA l k).2:=by rw [← hc]
  have hbx : W2.heap[Wr.heap.size]? = some (.cells #[.int .i64 a,.int .i64 s] 65):=(hone.2.2.2.2 _ (by omega)).trans (blk_new _ _)
  have hc1 : W2.cell? ⟨Wr.heap.size,1,none⟩ = some (.int .i64 s):=(blk_cell hbx 1).trans rfl
  have hc2 : W2.cell? ⟨w1.heap.size + 1,0,none⟩ = some (.slice (some ⟨w1.heap.size,0,none⟩) l.length l.length):=(blk_cell hb 0).trans rfl
  have hi0 : 0 ≤ i:=by rw [hi];omega
  have hi1 : i < (l.length : Int):=by rw [hi];omega
  have hit : i.toNat = l.length - 1 - k:=by rw [hi];omega
  have hc3 : W2.cell? ⟨w1.heap.size,i.toNat,none⟩ = some (.int .i64 (out[i.toNat]?.getD 0)):=by
   rw [blk_cell hg]
   simp [List.getElem?_eq_getElem (show i.toNat < out.length by omega)]
  have hf3:=blk_frozen hg i.toNat
  have HG2:=Aside0.mk hg
  have HB2:=Aside0.mk hb
  have HV:=Aside0.mk hv
  have HP:=Aside0.mk hpk
  have HBB:=Aside0.mk hB
  have HIT:=Aside0.mk hit
  have HCS:=Aside0.mk hcs
  clear hg hb hv hpk hB hit hcs hi hc hp hbx hone HI
  gi_wp2
  refine ⟨KeepC.setCell (C:=fun i => i = w1.heap.size) (KeepC.refl _ _) (.inr rfl) _,k + 1,out.set i.toNat s,hk',HP.out,by rw [List.length_set,ho],fun j h1 h2 => ?_,blk_put HG2.out _ _ (set_ints _ _ _),(Below.heap_setCell _ _ _ _ (show w1.heap.size + 1 ≠ w1.heap.size by omega)).trans HB2.out,HBB.out.setCell (p:=⟨w1.heap.size,i.toNat,none⟩) (show w.heap.size ≤ w1.heap.size by omega) _⟩
  by_cases hj : j = i.toNat
  ·rw [hj,List.getElem?_set_self (by omega),HCS.out,HIT.out,show l.length - 1 - (l.length - 1 - k) = k by omega]
  ·rw [List.getElem?_set_ne (fun e => hj e.symm)]
   exact HV.out j (by have:=HIT.out;omega) h2
 case done =>
  rintro xs W' rfl ⟨k,out,hk,hp,ho,hv,hg,hb,hB⟩ hK hsz
  obtain rfl:=statK_inj hp
  have hc2 : W'.cell? ⟨w1.heap.size + 1,0,none⟩ = some (.slice (some ⟨w1.heap.size,0,none⟩) l.length l.length):=(blk_cell hb 0).trans rfl
  have hout : out = statesL l:=by
   apply List.ext_getElem?
   intro j
   by_cases hj : j < l.length
   ·rw [hv j (by omega) hj];simp [statesL,hj]
   ·rw [List.getElem?_eq_none (by omega),List.getElem?_eq_none (by simp [statesL];omega)]
  gi_wp2
  rw [hs3] at hK
  have hD:=(Array.getElem?_eq_some_iff.1 hK).1
  refine ⟨by simp,.inl ⟨_,_,rfl,run_takeDeferred hK,?_⟩⟩
  refine ⟨_,results_tmp2 (fn:=Try.f11) rfl _ _ _,_,rfl,?_,?_⟩
  ·rw [hout] at hg ho
   have:=R_of_blk (w0:=w) (W:=W'.putObj (w1.heap.size + 3) (.deferred none)) (G:=w1.heap.size) (xs:=statesL l) ((World.putObj_heap_other (by omega)).trans hg) (by omega) (by omega)
   rwa [ho] at this
  ·exact below_reads hB (Nat.le_refl _) (by simp) rfl rfl rfl (fun i hi => World.putObj_heap_other (by omega))
set_option maxRecDepth 100000 in
set_option maxHeartbeats 1000000 in
theorem recall_States.calls (A0 : Option Addr) (c0 : Nat) (l0 : List (S51)) (r1 : List Int) (r2 : Int) (w : World) (hr0 : Kd.C k51 w A0 l0.length l0) (hc0 : l0.length ≤ c0) (h : recall_States.f l0 = some (r1,r2)) :
  Calls Try.prog 11 #[.slice A0 l0.length c0] w fun e w' => ∃ v0_ : Value,e = .returned (.tuple #[v0_,.int .i64 r2]) ∧ Kd.R (Kd.int .i64) 3 w' w.heap.size (fun _ => True) v0_ r1 ∧ Below w.heap.size w w':=by
 have e:=Option.some.inj h
 clear h
 by_cases hck : checkV l0 = 0
 ·have hr : r1 = statesL l0 ∧ r2 = 0:=by unfold statesV at e;rw [if_neg (by rw [hck];decide)] at e;cases e;exact ⟨rfl,rfl⟩
  obtain ⟨rfl,rfl⟩:=hr
  exact States_ok A0 c0 l0 w hr0 hc0 hck
 ·obtain ⟨g,hg⟩ : ∃ g,g = checkV l0:=⟨_,rfl⟩
  have hr : r1 = [] ∧ r2 = g:=by unfold statesV at e;rw [if_pos hck] at e;cases e;exact ⟨rfl,hg.symm⟩
  obtain ⟨rfl,rfl⟩:=hr
  have HCK:=Aside0.mk (recall_Check.calls A0 c0 l0 r2 w hr0 hc0 (congrArg some hg.symm))
  rw [← hg] at hck
  have hg1 : (r2 != 0) = true:=bne_iff_ne.mpr hck
  have hg2 : (r2 == 0) = false:=beq_eq_false_iff_ne.mpr hck
  clear e hg hck hr0
  go_enter Try.func11,Try.ntmps11
  go_wp2_with (go_at_call 16;refine HCK.out.mono ?_;rintro e w1 ⟨rfl,hb1⟩;have HB1:=Aside0.mk hb1;clear hb1)
  go_ret2
  exact ⟨_,rfl,Kd.R_nil _ _ _ _ _,HB1.out⟩
end Go.Proofs.Ytnmmdeonkpfccaa.Pr
namespace Go.Proofs
open Go.Shelf
def Try.keys67_ren : Go.Shelf.Ren:=⟨fun | 7 => 67 | 10 => 86 | n => n,fun | 23 => 49 | 26 => 9 | 3 => 4 | 28 => 99 | 0 => 0 | 27 => 98 | 33 => 119 | 4 => 4 | n => n,fun | n => n⟩
theorem Try.keys67 : Go.Proofs.SlLaysZ.n7 Try.prog Try.keys67_ren:={
 mixed:=by kernel_rfl
 f7:=⟨Try.f67.name,by decide,Try.func67.trans (congrArg some (by kernel_rfl))⟩
 f10:=⟨Try.f86.name,by decide,Try.func86.trans (congrArg some (by kernel_rfl))⟩
 t0:=Try.underlying0
 a0:=Try.isAgg0
 z0:=Try.sizeOf0
 v0:=Try.zeroValue0
 t4:=Try.underlying4
 a4:=Try.isAgg4
 z4:=Try.sizeOf4
 v4:=Try.zeroValue4
 t23:=Try.underlying49
 a23:=Try.isAgg49
 z23:=Try.sizeOf49
 v23:=Try.zeroValue49
 t26:=Try.underlying9
 a26:=Try.isAgg9
 z26:=Try.sizeOf9
 v26:=Try.zeroValue9
 t27:=Try.underlying98
 a27:=Try.isAgg98
 z27:=Try.sizeOf98
 v27:=Try.zeroValue98
 t28:=Try.underlying99
 a28:=Try.isAgg99
 z28:=Try.sizeOf99
 v28:=Try.zeroValue99
 t33:=Try.underlying119
 a33:=Try.isAgg119
 z33:=Try.sizeOf119
 v33:=Try.zeroValue119 }
def Try.sorted66_ren : Go.Shelf.Ren:=⟨fun | 6 => 66 | 8 => 85 | 9 => 35 | 11 => 93 | 13 => 63 | 12 => 62 | 23 => 82 | 24 => 83 | 14 => 73 | 15 => 74 | 16 => 75 | 17 => 76 | 18 => 77 | 19 => 78 | 20 => 79 | 21 => 80 | 22 => 81 | 25 => 87 | 26 => 88 | 27 => 89 | 28 => 90 | 29 => 91 | 30 => 92 | 31 => 94 | n => n,fun | 26 => 9 | 28 => 99 | 24 => 33 | 0 => 0 | 3 => 3 | 37 => 90 | 48 => 115 | 50 => 117 | 4 => 4 | 40 => 107 | 39 => 106 | 45 => 112 | 5 => 5 | 9 => 9 | 51 => 120 | 55 => 124 | 57 => 127 | 58 => 128 | 33 => 119 | n => n,fun | n => n⟩
theorem Try.sorted66 : Go.Proofs.SlLaysZ.n6 Try.prog Try.sorted66_ren:={
 mixed:=by kernel_rfl
 f6:=⟨Try.f66.name,by decide,Try.func66.trans (congrArg some (by kernel_rfl))⟩
 f8:=⟨Try.f85.name,by decide,Try.func85.trans (congrArg some (by kernel_rfl))⟩
 f11:=⟨Try.f93.name,by decide,Try.func93.trans (congrArg some (by kernel_rfl))⟩
 t0:=Try.underlying0
 a0:=Try.isAgg0
 z0:=Try.sizeOf0
 v0:=Try.zeroValue0
 t24:=Try.underlying33
 a24:=Try.isAgg33
 z24:=Try.sizeOf33
 v24:=Try.zeroValue33
 t26:=Try.underlying9
 a26:=Try.isAgg9
 z26:=Try.sizeOf9
 v26:=Try.zeroValue9
 t28:=Try.underlying99
 a28:=Try.isAgg99
 z28:=Try.sizeOf99
 v28:=Try.zeroValue99
 i26:=by kernel_rfl }
def Try.sort35_ren : Go.Shelf.Ren:=⟨fun | 6 => 35 | 8 => 63 | 9 => 62 | 19 => 82 | 20 => 83 | 21 => 73 | 22 => 74 | 23 => 75 | 24 => 76 | 25 => 77 | 26 => 78 | 27 => 79 | 28 => 80 | 29 => 81 | 36 => 87 | 31 => 88 | 32 => 89 | 37 => 90 | 38 => 91 | 39 => 92 | 41 => 94 | n => n,fun | 27 => 33 | 29 => 9 | 3 => 3 | 32 => 90 | 26 => 33 | 0 => 0 | 44 => 115 | 46 => 117 | 4 => 4 | 36 => 107 | 35 => 106 | 41 => 112 | 5 => 5 | 9 => 9 | 53 => 120 | 57 => 124 | 63 => 127 | 64 => 128 | n => n,fun | n => n⟩
theorem Try.sort35 : Go.Proofs.SlLaysM.n6 Try.prog Try.sort35_ren:={
 mixed:=by kernel_rfl
 f6:=⟨Try.f35.name,by decide,Try.func35.trans (congrArg some (by kernel_rfl))⟩
 f8:=Try.func63.trans (congrArg some (by kernel_rfl))
 f9:=⟨Try.f62.name,by decide,Try.func62.trans (congrArg some (by kernel_rfl))⟩
 f19:=Try.func82.trans (congrArg some (by kernel_rfl))
 f20:=Try.func83.trans (congrArg some (by kernel_rfl))
 f21:=⟨Try.f73.name,by decide,Try.func73.trans (congrArg some (by kernel_rfl))⟩
 f22:=⟨Try.f74.name,by decide,Try.func74.trans (congrArg some (by kernel_rfl))⟩
 f23:=⟨Try.f75.name,by decide,Try.func75.trans (congrArg some (by kernel_rfl))⟩
 f24:=⟨Try.f76.name,by decide,Try.func76.trans (congrArg some (by kernel_rfl))⟩
 f25:=⟨Try.f77.name,by decide,Try.func77.trans (congrArg some (by kernel_rfl))⟩
 f26:=⟨Try.f78.name,by decide,Try.func78.trans (congrArg some (by kernel_rfl))⟩
 f27:=⟨Try.f79.name,by decide,Try.func79.trans (congrArg some (by kernel_rfl))⟩
 f28:=⟨Try.f80.name,by decide,Try.func80.trans (congrArg some (by kernel_rfl))⟩
 f29:=⟨Try.f81.name,by decide,Try.func81.trans (congrArg some (by kernel_rfl))⟩
 f31:=Try.func88.trans (congrArg some (by kernel_rfl))
 f32:=Try.func89.trans (congrArg some (by kernel_rfl))
 f36:=⟨Try.f87.name,by decide,Try.func87.trans (congrArg some (by kernel_rfl))⟩
 f37:=⟨Try.f90.name,by decide,Try.func90.trans (congrArg some (by kernel_rfl))⟩
 f38:=⟨Try.f91.name,by decide,Try.func91.trans (congrArg some (by kernel_rfl))⟩
 f39:=⟨Try.f92.name,by decide,Try.func92.trans (congrArg some (by kernel_rfl))⟩
 f41:=⟨Try.f94.name,by decide,Try.func94.trans (congrArg some (by kernel_rfl))⟩
 t0:=Try.underlying0
 a0:=Try.isAgg0
 z0:=Try.sizeOf0
 v0:=Try.zeroValue0
 t3:=Try.underlying3
 a3:=Try.isAgg3
 z3:=Try.sizeOf3
 v3:=Try.zeroValue3
 t4:=Try.underlying4
 a4:=Try.isAgg4
 z4:=Try.sizeOf4
 v4:=Try.zeroValue4
 t5:=Try.underlying5
 a5:=Try.isAgg5
 z5:=Try.sizeOf5
 v5:=Try.zeroValue5
 t9:=Try.underlying9
 a9:=Try.isAgg9
 z9:=Try.sizeOf9
 v9:=Try.zeroValue9
 t26:=Try.underlying33
 a26:=Try.isAgg33
 z26:=Try.sizeOf33
 v26:=Try.zeroValue33
 t27:=Try.underlying33
 a27:=Try.isAgg33
 z27:=Try.sizeOf33
 v27:=Try.zeroValue33
 t29:=Try.underlying9
 a29:=Try.isAgg9
 z29:=Try.sizeOf9
 v29:=Try.zeroValue9
 t32:=Try.underlying90
 a32:=Try.isAgg90
 z32:=Try.sizeOf90
 v32:=Try.zeroValue90
 t35:=Try.underlying106
 a35:=Try.isAgg106
 z35:=Try.sizeOf106
 v35:=Try.zeroValue106
 t36:=Try.underlying107
 a36:=Try.isAgg107
 z36:=Try.sizeOf107
 v36:=Try.zeroValue107
 t41:=Try.underlying112
 a41:=Try.isAgg112
 z41:=Try.sizeOf112
 v41:=Try.zeroValue112
 t44:=Try.underlying115
 a44:=Try.isAgg115
 z44:=Try.sizeOf115
 v44:=Try.zeroValue115
 t46:=Try.underlying117
 a46:=Try.isAgg117
 z46:=Try.sizeOf117
 v46:=Try.zeroValue117
 t53:=Try.underlying120
 a53:=Try.isAgg120
 z53:=Try.sizeOf120
 v53:=Try.zeroValue120
 t57:=Try.underlying124
 a57:=Try.isAgg124
 z57:=Try.sizeOf124
 v57:=Try.zeroValue124
 t63:=Try.underlying127
 a63:=Try.isAgg127
 z63:=Try.sizeOf127
 v63:=Try.zeroValue127
 t64:=Try.underlying128
 a64:=Try.isAgg128
 z64:=Try.sizeOf128
 v64:=Try.zeroValue128 }
def Try.del55_ren : Go.Shelf.Ren:=⟨fun | 5 => 55 | n => n,fun | 23 => 49 | 26 => 9 | 24 => 4 | 27 => 82 | 0 => 0 | 4 => 4 | n => n,fun | n => n⟩
theorem Try.del55 : Go.Proofs.SlLaysDf.n5 Try.prog Try.del55_ren:={
 mixed:=by kernel_rfl
 f5:=⟨Try.f55.name,by decide,Try.func55.trans (congrArg some (by kernel_rfl))⟩
 t0:=Try.underlying0
 a0:=Try.isAgg0
 z0:=Try.sizeOf0
 v0:=Try.zeroValue0
 t4:=Try.underlying4
 a4:=Try.isAgg4
 z4:=Try.sizeOf4
 v4:=Try.zeroValue4
 t23:=Try.underlying49
 a23:=Try.isAgg49
 z23:=Try.sizeOf49
 v23:=Try.zeroValue49
 a24:=Try.isAgg4
 z24:=Try.sizeOf4
 a26:=Try.isAgg9
 z26:=Try.sizeOf9
 t27:=Try.underlying82
 a27:=Try.isAgg82
 z27:=Try.sizeOf82
 v27:=Try.zeroValue82 }
def Try.cf29_ren : Go.Shelf.Ren:=⟨fun | 8 => 29 | 6 => 58 | n => n,fun | 22 => 22 | 23 => 51 | 25 => 53 | 4 => 4 | 3 => 3 | 0 => 0 | n => n,fun | n => n⟩
theorem Try.cf29 : Go.Proofs.SlLaysH0.n8 Try.prog Try.cf29_ren:={
 mixed:=by kernel_rfl
 f6:=⟨Try.f58.name,by decide,Try.func58.trans (congrArg some (by kernel_rfl))⟩
 f8:=⟨Try.f29.name,by decide,Try.func29.trans (congrArg some (by kernel_rfl))⟩
 t0:=Try.underlying0
 a0:=Try.isAgg0
 z0:=Try.sizeOf0
 v0:=Try.zeroValue0
 t3:=Try.underlying3
 a3:=Try.isAgg3
 z3:=Try.sizeOf3
 v3:=Try.zeroValue3
 t4:=Try.underlying4
 a4:=Try.isAgg4
 z4:=Try.sizeOf4
 v4:=Try.zeroValue4
 t22:=Try.underlying22
 a22:=Try.isAgg22
 z22:=Try.sizeOf22
 v22:=Try.zeroValue22
 t25:=Try.underlying53
 a25:=Try.isAgg53
 z25:=Try.sizeOf53
 v25:=Try.zeroValue53 }
end Go.Proofs
set_option linter.unusedVariables false
namespace Go.Proofs
open Go.RowKit Go.Maps Go.Sort Go.Shelf
theorem Try.sorts66 (m : Nat) : AnyZ.SortsIn Try.prog Try.sorted66_ren Fence.wide m :=
  ⟨fun blk off cap ss W hH hblk hsz => callsIn_wide.2 (AnyM.slices_Sort_string Try.sort35 blk off cap ss W hH hblk hsz),
   fun p cap W => callsIn_wide.2 (AnyM.slices_Sort_string_none Try.sort35 p cap W)⟩
theorem Try.maps_Keys_67 (mb : Option Nat) (W : World) : CallsIn Fence.wide 5 Try.prog 67 #[.map mb] W fun e w' => e = .returned (.func (.func 86) #[] #[.pointer (some ⟨W.heap.size,0,none⟩)]) ∧ w' = W.alloc (.cells #[.map mb] 49) :=
  AnyZ.keys_in Try.keys67 Fence.wide 5 trivial rfl mb W
set_option maxHeartbeats 1000000 in
theorem Try.slices_Sorted_keys_66_67 {H : Type} (b nn : Nat) (D0 : DataW H) (R : Value → Option (DataW H × List MemPlace)) (w : World) (hown : w.ownsMap Try.prog 9 R b nn D0) (hmax : Maps.size D0 ≤ maxLen) (hbytes : Maps.size D0 * 16 ≤ 140737488355328) :
    CallsIn Fence.wide 5 Try.prog 66 #[.func (.func 86) #[] #[.pointer (some ⟨w.heap.size,0,none⟩)]] (w.alloc (.cells #[.map (some b)] 49)) fun e w' => ∃ (v : Value) (ss : List (List UInt8)),e = .returned v ∧ ss.Perm (strKeys D0) ∧
      w'.ownsRow (w.alloc (.cells #[.map (some b)] 49)).heap.size 9 1 v ss.length ((ss.mergeSort (fun x y => decide (x ≤ y))).map encStr) ∧ (v = .slice none 0 0 ↔ ss = []) ∧ Below (w.alloc (.cells #[.map (some b)] 49)).heap.size (w.alloc (.cells #[.map (some b)] 49)) w':=by
  have hbl:=hown.lt
  have hseq : SeqGives Fence.wide 2 Try.prog 86 #[.pointer (some ⟨w.heap.size,0,none⟩)] encStr (fun ss => ss.Perm (strKeys D0)) (Maps.size D0) (w.alloc (.cells #[.map (some b)] 49)) :=
    AnyZ.keys_gives (ρ:=Try.keys67_ren) { Try.keys67 with } Fence.wide _ trivial rfl (by omega) w.heap.size b nn D0 _ (by simp) (by simp) (by
      obtain ⟨es,clock,hb,Ft,hs,hD⟩:=hown
      exact ⟨es,clock,(Below.heap_alloc _ _ b hbl).trans hb,Ft,hs,hD⟩)
  exact AnyZ.sorted_in Try.sorted66 Fence.wide 5 trivial trivial trivial trivial rfl (by omega) (Try.sorts66 _) (enters_of Try.func35 (by kernel_rfl) rfl) 86 #[.pointer (some ⟨w.heap.size,0,none⟩)] trivial (enters_of Try.func86 (by kernel_rfl) rfl) _ _ hmax hbytes _ hseq
end Go.Proofs
namespace Go.Proofs.Ytnmmdeonkpfccaa.Pr
open Go.RowKit Go.Shelf Go.Sort Go.Proofs.YtnmmdeonkpfccaaW.PrintWords Go.Proofs.YtnmmdeonkpfccaaW.PrintLast Go.Proofs.YtnmmdeonkpfccaaW.PrintMore
open Go.Proofs.Ytnmmdeonkpfccaa.Rg
def ddup : List (List UInt8) → List (List UInt8)
  | [] => []
  | x :: r => if x ∈ ddup r then ddup r else x :: ddup r
theorem mem_ddup {x : List UInt8} : ∀ {S : List (List UInt8)},x ∈ ddup S ↔ x ∈ S
  | [] => Iff.rfl
  | y :: r => by
    unfold ddup
    split
    · rename_i h
      rw [mem_ddup,List.mem_cons]
      exact ⟨.inr,fun h1 => h1.elim (fun e => e ▸ mem_ddup.1 h) id⟩
    · rw [List.mem_cons,List.mem_cons,mem_ddup]
theorem nodup_ddup : ∀ S : List (List UInt8),(ddup S).Nodup
  | [] => List.Pairwise.nil
  | y :: r => by
    unfold ddup
    split
    · exact nodup_ddup r
    · rename_i h
      exact List.nodup_cons.2 ⟨h,nodup_ddup r⟩
def sortU (S : List (List UInt8)) : List (List UInt8):=(ddup S).mergeSort fun x y => decide (x ≤ y)
def strs (S : List (List UInt8)) : List ByteArray:=(sortU S).map fun q => ByteArray.mk q.toArray
theorem fSet_some (S : List (List UInt8)) (q : List UInt8) : (fSet S q).isSome = true ↔ q ∈ S:=by unfold fSet;split <;> simp [*]
theorem row_base {W : World} {b b' : Nat} {e : TypeId} {size : Nat} {v : Value} {n : Nat} {xs : List Value} (h : W.ownsRow b e size v n xs) (hb : b' ≤ b) : W.ownsRow b' e size v n xs :=
  ⟨h.1,h.2.elim .inl fun ⟨g,cap,cur,h1,h2,h3⟩ => .inr ⟨g,cap,cur,h1,Nat.le_trans hb h2,h3⟩⟩
theorem R_strs {w0 W : World} {v : Value} {ks : List (List UInt8)} (h : W.ownsRow w0.heap.size 9 1 v ks.length (ks.map encStr)) : Kd.R Kd.string 9 W w0.heap.size (fun _ => True) v (ks.map fun q => ByteArray.mk q.toArray):=by
  refine Kd.R_of_own (enc:=Value.string) (h1:=fun _ => rfl) ?_ (fun _ _ => trivial)
  rw [List.length_map]
  have : encs Value.string (ks.map fun q => ByteArray.mk q.toArray) = ks.map encStr:=by simp [encs,encStr]
  rw [this]
  exact h
theorem R_base {W : World} {b b' : Nat} {v : Value} {xs : List ByteArray} (h : Kd.R Kd.string 9 W b (fun _ => True) v xs) (hb : b' ≤ b) : Kd.R Kd.string 9 W b' (fun _ => True) v xs :=
  Kd.R_of_own (enc:=Value.string) (h1:=fun _ => rfl) (row_base (Kd.own_of_R (enc:=Value.string) (h1:=fun _ => rfl) h) hb) (fun _ _ => trivial)
set_option maxHeartbeats 1000000 in
set_option maxRecDepth 100000 in
theorem sorted_ok (b n : Nat) (S : List (List UInt8)) (w : World) (hm : MapF Try.prog 9 w b n (fSet S)) (hn : n ≤ 5000) :
    Calls Try.prog 40 #[.map (some b)] w fun e w' => ∃ v,e = .returned v ∧ Kd.R Kd.string 9 w' w.heap.size (fun _ => True) v (strs S) ∧ Below w.heap.size w w':=by
  obtain ⟨D,hown,ht,hnd,hks,hsz⟩:=hm.keys Try.underlying9
  have cS:=Try.slices_Sorted_keys_66_67 b n D RV w hown (by unfold maxLen;omega) (by omega)
  have cK:=Try.maps_Keys_67
  have hfK : Fence.wide.fn 67:=trivial
  have hfS : Fence.wide.fn 66:=trivial
  have HKS:=Aside0.mk hks
  have HND:=Aside0.mk hnd
  clear hks hnd hown ht
  refine (callsIn_wide (n:=6)).1 ?_
  refine callsIn_of_wp Try.func40 rfl trivial ?_ rfl
  simp only [Try.ntmps40,List.size_toArray,List.length_cons,List.length_nil,Nat.reduceAdd,Nat.reduceSub,Array.replicate_succ,Array.replicate_zero,List.push_toArray,List.append_toArray,List.nil_append,List.cons_append]
  gi_wp2_with (first
     | (gi_at_call 67;refine (cK _ _).mono ?_;rintro e w' ⟨rfl,rfl⟩)
     | (gi_at_call 66;refine cS.mono ?_;rintro e w' ⟨v,ss,rfl,hS,hrow,hnil,hb⟩;have HS:=Aside0.mk hS;have HRW:=Aside0.mk hrow;have HB:=Aside0.mk hb;clear hS hrow hnil hb))
  go_ret
  have hp : ss.Perm (ddup S):=by
    refine HS.out.trans ((List.perm_ext_iff_of_nodup HND.out (nodup_ddup S)).2 fun q => ?_)
    rw [HKS.out q,fSet_some,mem_ddup]
  have hb0 : Below w.heap.size w (w.alloc (.cells #[.map (some b)] 49)):=(Below.refl _ w).alloc (Nat.le_refl _) _
  refine ⟨_,rfl,?_,hb0.trans (HB.out.mono hb0.size)⟩
  have hr:=HRW.out
  unfold strs sortU
  rw [← mergeSort_of_perm hp]
  refine R_strs ?_
  rw [List.length_mergeSort]
  exact row_base hr (by simp)
end Go.Proofs.Ytnmmdeonkpfccaa.Pr
