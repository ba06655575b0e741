/- The statement is proved as it is given, without a condition of ours. -/
import Derived.Test.YtnmmdeonkpfccaaDRisks1
import Derived.Deep.Slices
import Derived.Deep.Fields
import Derived.ChangeSame
import Derived.SizedLaws
import Derived.Test.YtnmmdeonkpfccaaDRisks14
import Derived.Test.YtnmmdeonkpfccaaDRisks11
import Derived.Test.YtnmmdeonkpfccaaDRisks4
import Derived.Test.YtnmmdeonkpfccaaDRisks3
import Derived.Laws.Cover1
import Derived.Test.YtnmmdeonkpfccaaDRisks10
import Derived.Test.YtnmmdeonkpfccaaDRisks9
import Derived.Test.YtnmmdeonkpfccaaDRisks5
import Derived.Test.YtnmmdeonkpfccaaDRisks12
import Derived.Test.YtnmmdeonkpfccaaRows
import Derived.WalkKit
import Derived.ProofKit
import Derived.OpenShut
import Derived.ShutString
import Derived.ChangeOld
import Derived.Below
set_option linter.unusedVariables false
namespace Go.Proofs.Ytnmmdeonkpfccaa.Pr
open Go.RowKit Go.ChangeShapes Go.WideShapes Go.Deep Go.Proofs.YtnmmdeonkpfccaaW.PrintWords Go.Proofs.YtnmmdeonkpfccaaW.PrintLast Go.Proofs.YtnmmdeonkpfccaaW.PrintMore
def okEv (x : S51) : Prop:=(Lit.int .i64 x.f0).wf = true ∧ x.f1.size ≤ maxLen ∧ x.f2.size ≤ maxLen ∧ x.f3.size ≤ maxLen
variable {H : Type} {enc : TypeId × Value → H} {w : World} {base : Nat} {spare : Nat → Bool} {held : Bool}
set_option maxRecDepth 20000 in
theorem open_event {n : Nat} {cs : List Value} {x : DataW H × List MemPlace} (h : DataW.trod enc Try.prog w base spare held n 51 cs = some x) : ∃ e : S51,cs = [.int .i64 e.f0,.string e.f1,.string e.f2,.string e.f3] ∧ okEv e:=by
 obtain ⟨ys,n',hn',hy,hlen,hyl,hf⟩:=DataW.trod_struct Try.underlying51 h
 have hc4 : cs.length = 4:=hlen.trans (by kernel_rfl)
 match cs,hc4 with
 | [c0,c1,c2,c3],_ =>
  match ys,hyl with
  | [y0,y1,y2,y3],_ =>
   have h0:=hf 0 _ rfl
   have h1:=hf 1 _ rfl
   have h2:=hf 2 _ rfl
   have h3:=hf 3 _ rfl
   have e3 : Try.prog.cellsOf 3 = 1:=by kernel_rfl
   have e9 : Try.prog.cellsOf 9 = 1:=by kernel_rfl
   change DataW.trod enc Try.prog w base spare held n' 3 (([c0,c1,c2,c3].drop 0).take (Try.prog.cellsOf 3)) = some y0 at h0
   change DataW.trod enc Try.prog w base spare held n' 9 (([c0,c1,c2,c3].drop 1).take (Try.prog.cellsOf 9)) = some y1 at h1
   change DataW.trod enc Try.prog w base spare held n' 9 (([c0,c1,c2,c3].drop 2).take (Try.prog.cellsOf 9)) = some y2 at h2
   change DataW.trod enc Try.prog w base spare held n' 9 (([c0,c1,c2,c3].drop 3).take (Try.prog.cellsOf 9)) = some y3 at h3
   rw [e3] at h0
   rw [e9] at h1 h2 h3
   obtain ⟨k,hk,_,hw⟩:=DataW.trod_int Try.underlying3 h0
   obtain ⟨s1,hs1,_,z1⟩:=DataW.trod_string Try.underlying9 h1
   obtain ⟨s2,hs2,_,z2⟩:=DataW.trod_string Try.underlying9 h2
   obtain ⟨s3,hs3,_,z3⟩:=DataW.trod_string Try.underlying9 h3
   cases hk;cases hs1;cases hs2;cases hs3
   exact ⟨⟨k,s1,s2,s3⟩,rfl,hw,z1,z2,z3⟩
theorem open_events {fuel : Nat} {cs : List Value} {x : DataW H × List MemPlace} (h : DataW.trod enc Try.prog w base spare held fuel 22 cs = some x) :
  (cs = [.slice none 0 0] ∧ x = (.nil,[])) ∨
  ∃ (a : Addr) (len cap : Nat) (es sp : List (DataW H)) (l : List S51),cs = [.slice (some a) len cap] ∧ len ≤ cap ∧ x.1 = .slice es sp ∧ es.length = len ∧ l.length = len ∧ Kd.C k51 w (some a) len l ∧ ∀ y ∈ l,okEv y:=by
 rcases open_slice Try.underlying22 h with h0 | ⟨a,len,cap,m,n,D,Pl,hcs,hb,hl,hm,hmm,hx,hi⟩
 ·exact .inl h0
 ·refine .inr ⟨a,len,cap,(List.range len).map D,(List.range (m - len)).map (fun j => D (len + j)),?_⟩
  have hC : Try.prog.cellsOf 51 = 4:=by kernel_rfl
  have hlm : len ≤ m:=by rw [hmm];split;exact hl;exact Nat.le_refl _
  have hev : ∀ i,i < len → ∃ e : S51,okEv e ∧ ∀ j u,[Value.int .i64 e.f0,.string e.f1,.string e.f2,.string e.f3][j]? = some u → w.cell? (a.add (i * 4 + j)) = some u:=by
   intro i hil
   obtain ⟨cs',hc,ht⟩:=hi i (Nat.lt_of_lt_of_le hil hlm)
   obtain ⟨e,he,hok⟩:=open_event ht
   rw [hC] at hc
   obtain ⟨_,hcl,hat⟩:=World.cells?_some hc
   refine ⟨e,hok,fun j u hj => ?_⟩
   have hj4 : j < 4:=by
    have:=(List.getElem?_eq_some_iff.1 hj).1
    simpa using this
   have:=hat j hj4
   rw [he,hj,Go.Deep.add_add] at this
   exact this
  have hf : ∃ f : Nat → S51,∀ i,i < len → okEv (f i) ∧ ∀ j u,[Value.int .i64 (f i).f0,.string (f i).f1,.string (f i).f2,.string (f i).f3][j]? = some u → w.cell? (a.add (i * 4 + j)) = some u:=by
   refine ⟨fun i => if hil : i < len then Classical.choose (hev i hil) else z51,fun i hil => ?_⟩
   simp only [dif_pos hil]
   exact Classical.choose_spec (hev i hil)
  obtain ⟨f,hf⟩:=hf
  refine ⟨(List.range len).map f,hcs,hl,by rw [hx],by simp,by simp,?_,?_⟩
  ·refine ⟨by simp,by unfold maxLen at hm;omega,fun _ => ⟨a,rfl,fun j p hj => ?_⟩⟩
   have hjl : j < len:=by
    have:=(List.getElem?_eq_some_iff.1 hj).1
    simpa using this
   have hp : p = f j:=by
    rw [List.getElem?_map,List.getElem?_range hjl] at hj
    exact (Option.some.inj hj).symm
   subst hp
   exact ⟨_,rfl,k51_mk w (f j),(hf j hjl).2⟩
  ·intro y hy
   obtain ⟨i,hi',rfl⟩:=List.mem_map.1 hy
   exact (hf i (List.mem_range.1 hi')).1
end Go.Proofs.Ytnmmdeonkpfccaa.Pr
namespace Go.Proofs.Ytnmmdeonkpfccaa.Pr
open Go.RowKit
def metrolablaw53_RecallRisks.Pure : Prop:=∀ (l0 : List S51) (a1 : ByteArray),l0.length * 56 ≤ 140737488351232 → (∀ x ∈ l0,okEv x) → a1.size ≤ 140737488351232 → ∃ k,metrolablaw53_RecallRisks.f k l0 a1 = some true
end Go.Proofs.Ytnmmdeonkpfccaa.Pr
set_option linter.unusedVariables false
namespace Go.Proofs.Ytnmmdeonkpfccaa.Pr
open Go.RowKit Go.Proofs.YtnmmdeonkpfccaaW.PrintWords Go.Proofs.YtnmmdeonkpfccaaW.PrintLast Go.Proofs.YtnmmdeonkpfccaaW.PrintMore
abbrev knd (l : List S51) (i : Nat) : Int:=(gA l i).f0
abbrev prt (l : List S51) (i : Nat) : Nm:=(gA l i).f2.data.toList
theorem evK_gA (l : List S51) (k : Nat) : evK l k = gA l (l.length - 1 - k):=rfl
theorem st_meas {l : List S51} {i : Nat} (h : (stA l i).2 ≠ 0) : knd l i = 0:=by
 refine Classical.byContradiction fun h0 => h ?_
 unfold stA;rw [if_neg h0]
theorem kept_mem (p : S51 → Int → Bool) (l : List S51) (q : Nm) : ∀ n,n ≤ l.length →
  (q ∈ (keptS p l n).1 ↔ ∃ j,l.length - n ≤ j ∧ j < l.length ∧ knd l j = 0 ∧ (stA l j).2 ≠ 2 ∧ p (gA l j) (stA l j).2 = true ∧ prt l j = q) ∧
  (q ∈ (keptS p l n).2 ↔ ∃ j,l.length - n ≤ j ∧ j < l.length ∧ (knd l j = 3 ∨ (stA l j).2 = 2) ∧ prt l j = q):=by
 intro n
 induction n with
 | zero =>
  intro _
  unfold keptS
  refine ⟨⟨fun h => (List.not_mem_nil h).elim,?_⟩,⟨fun h => (List.not_mem_nil h).elim,?_⟩⟩ <;> rintro ⟨j,h1,h2,_⟩ <;> omega
 | succ n ih =>
  intro hn
  obtain ⟨ih1,ih2⟩:=ih (by omega)
  have ej : ∀ j,l.length - (n + 1) ≤ j ↔ j = l.length - 1 - n ∨ l.length - n ≤ j:=fun j => by omega
  unfold keptS
  rw [evK_gA,chkA_st l n (by omega)]
  have hlt : l.length - 1 - n < l.length:=by omega
  split
  ·rename_i hc
   refine ⟨ih1.trans ⟨?_,?_⟩,?_⟩
   ·rintro ⟨j,h1,h2⟩;exact ⟨j,by omega,h2⟩
   ·rintro ⟨j,h1,h2,h3,h4,h5⟩
    rcases (ej j).1 h1 with rfl | h1
    ·rcases hc with hc | hc
     ·have : (0 : Int) = 3:=h3.symm.trans hc;omega
     ·exact absurd hc h4
    ·exact ⟨j,h1,h2,h3,h4,h5⟩
   ·rw [List.mem_cons,ih2]
    constructor
    ·rintro (e | ⟨j,h1,h2⟩)
     ·exact ⟨_,by omega,hlt,hc,e.symm⟩
     ·exact ⟨j,by omega,h2⟩
    ·rintro ⟨j,h1,h2,h3,h4⟩
     rcases (ej j).1 h1 with rfl | h1
     ·exact .inl h4.symm
     ·exact .inr ⟨j,h1,h2,h3,h4⟩
  ·rename_i hc
   have hc3 : ∀ j,l.length - (n + 1) ≤ j → j < l.length → (knd l j = 3 ∨ (stA l j).2 = 2) → l.length - n ≤ j:=by
    intro j h1 h2 h3
    rcases (ej j).1 h1 with rfl | h1
    ·exact absurd h3 hc
    ·exact h1
   have ih2' : q ∈ (keptS p l n).2 ↔ ∃ j,l.length - (n + 1) ≤ j ∧ j < l.length ∧ (knd l j = 3 ∨ (stA l j).2 = 2) ∧ prt l j = q :=
    ih2.trans ⟨fun ⟨j,h1,h2⟩ => ⟨j,by omega,h2⟩,fun ⟨j,h1,h2,h3,h4⟩ => ⟨j,hc3 j h1 h2 h3,h2,h3,h4⟩⟩
   split
   ·rename_i hp
    refine ⟨?_,ih2'⟩
    rw [List.mem_cons,ih1]
    constructor
    ·rintro (e | ⟨j,h1,h2⟩)
     ·exact ⟨_,by omega,hlt,hp.1,fun h => hc (.inr h),hp.2,e.symm⟩
     ·exact ⟨j,by omega,h2⟩
    ·rintro ⟨j,h1,h2,h3,h4,h5,h6⟩
     rcases (ej j).1 h1 with rfl | h1
     ·exact .inl h6.symm
     ·exact .inr ⟨j,h1,h2,h3,h4,h5,h6⟩
   ·rename_i hp
    refine ⟨ih1.trans ⟨fun ⟨j,h1,h2⟩ => ⟨j,by omega,h2⟩,?_⟩,ih2'⟩
    rintro ⟨j,h1,h2,h3,h4,h5,h6⟩
    rcases (ej j).1 h1 with rfl | h1
    ·exact absurd ⟨h3,h5⟩ hp
    ·exact ⟨j,h1,h2,h3,h4,h5,h6⟩
theorem keptL_mem (p : S51 → Int → Bool) (l : List S51) (q : Nm) : q ∈ keptL p l ↔ (∃ j,j < l.length ∧ knd l j = 0 ∧ (stA l j).2 ≠ 2 ∧ p (gA l j) (stA l j).2 = true ∧ prt l j = q) ∧ ¬ ∃ j,j < l.length ∧ (knd l j = 3 ∨ (stA l j).2 = 2) ∧ prt l j = q:=by
 unfold keptL
 obtain ⟨h1,h2⟩:=kept_mem p l q l.length (Nat.le_refl _)
 rw [List.mem_filter,h1]
 simp only [Nat.sub_self,Nat.zero_le,true_and] at h2 ⊢
 rw [Bool.not_eq_true',decide_eq_false_iff_not,h2]
theorem recL_mem (l : List S51) (q : Nm) : q ∈ recL l ↔ (∃ j,j < l.length ∧ (stA l j).2 = 3 ∧ prt l j = q) ∧ ¬ ∃ j,j < l.length ∧ (knd l j = 3 ∨ (stA l j).2 = 2) ∧ prt l j = q:=by
 unfold recL
 rw [keptL_mem]
 refine and_congr_left fun _ => ⟨?_,?_⟩
 ·rintro ⟨j,h1,h2,h3,h4,h5⟩;exact ⟨j,h1,by simpa using h4,h5⟩
 ·rintro ⟨j,h1,h2,h3⟩;exact ⟨j,h1,st_meas (by omega),by omega,by rw [h2];rfl,h3⟩
def selP (l : List S51) (i : Nat) : Option Nm:=if knd l i = 0 ∧ prt l i ∈ recL l then some (prt l i) else none
def selU (l : List S51) (i : Nat) : Option Nm:=if (stA l i).2 = 1 then some (gA l i).f1.data.toList else none
theorem acc_strs (sel : Nat → Option Nm) (n : Nat) {S : List Nm} (h : ∀ q,(∃ j,j < n ∧ sel j = some q) ↔ q ∈ S) : bs (accS sel n) = strs S:=(strs_of (acc_asc sel n) fun q => (acc_mem sel n).trans (h q)).symm
theorem selP_mem (l : List S51) (q : Nm) : (∃ j,j < l.length ∧ selP l j = some q) ↔ q ∈ recL l:=by
 unfold selP
 constructor
 ·rintro ⟨j,h1,h2⟩
  split at h2
  ·rename_i h;obtain rfl:=Option.some.inj h2;exact h.2
  ·cases h2
 ·intro h
  obtain ⟨⟨j,h1,h2,h3⟩,_⟩:=(recL_mem l q).1 h
  exact ⟨j,h1,by rw [if_pos ⟨st_meas (by omega),by rw [h3];exact h⟩,h3]⟩
end Go.Proofs.Ytnmmdeonkpfccaa.Pr
set_option linter.unusedVariables false
namespace Go.Proofs.Ytnmmdeonkpfccaa.Pr
open Go.RowKit Go.Proofs.YtnmmdeonkpfccaaW.PrintWords Go.Proofs.YtnmmdeonkpfccaaW.PrintLast Go.Proofs.YtnmmdeonkpfccaaW.PrintMore
theorem eqS_go (l : List ByteArray) (hn : l.length ≤ 2513169434915) : ∀ (d i : Nat),i ≤ l.length → l.length - i = d → Ev (fun k => slices_Equal_string_string.l0 k l l (l.length : Int) (i : Int)) true:=by
 intro d
 induction d with
 | zero =>
  intro i hi hd
  exact Ev.const fun k => by simp only [slices_Equal_string_string.l0];rw [if_neg (by omega)]
 | succ d ih =>
  intro i hi hd
  refine Ev.step (f:=fun k => slices_Equal_string_string.l0 k l l (l.length : Int) ((i + 1 : Nat) : Int)) (fun k => ?_) (ih (i + 1) (by omega) (by omega))
  simp only [slices_Equal_string_string.l0]
  rw [if_pos (by omega),if_pos (by omega),if_pos (by omega),if_pos (by omega),if_pos True.intro,wrap_nat (by omega)]
theorem eqS_ev (l : List ByteArray) (hn : l.length ≤ 2513169434915) : Ev (fun k => slices_Equal_string_string.f k l l) true:=by
 unfold slices_Equal_string_string.f
 simp only [if_true]
 exact eqS_go l hn l.length 0 (by omega) (by omega)
theorem sel_len {l : List S51} {S : List Nm} {sel : Nat → Option Nm} (h : bs (accS sel l.length) = strs S) : (strs S).length ≤ l.length:=by rw [← h,bs_len];exact acc_len sel _
theorem now_ev {α : Type} {o : Option α} {r : α} (h : o = some r) : Ev (fun _ => o) r:=by rw [h];exact Ev.now _
end Go.Proofs.Ytnmmdeonkpfccaa.Pr
set_option linter.unusedVariables false
namespace Go.Proofs.Ytnmmdeonkpfccaa.Pr
open Go.RowKit Go.Proofs.YtnmmdeonkpfccaaW.PrintWords Go.Proofs.YtnmmdeonkpfccaaW.PrintLast Go.Proofs.YtnmmdeonkpfccaaW.PrintMore
theorem awake_ev : Ev (fun _ : Nat => metrolablaw53_awake.f) true:=now_ev rfl
theorem right_ev (l : List S51) (hn : l.length ≤ 2513169434915) : ∃ b,Ev (fun k => metrolablaw53_right.f k l) b ∧ (b = true → l.length ≤ 16 ∧ checkV l = 0):=by
 unfold metrolablaw53_right.f
 by_cases h : (l.length : Int) ≤ 16
 ·simp only [if_pos h]
  obtain ⟨b,hb⟩:=few_ev l ⟨#[]⟩ hn
  cases b
  ·exact ⟨false,Ev.bind hb (by simp only [if_neg (show ¬ (false = true) by decide)];exact Ev.now _),fun h => by cases h⟩
  ·refine ⟨checkV l == 0,Ev.bind hb ?_,fun h2 => ⟨by omega,by simpa using h2⟩⟩
   simp only [if_true]
   exact Ev.bind (own_ev l hn) (Ev.bind (check_ev l hn) (Ev.now _))
 ·simp only [if_neg h]
  exact ⟨false,Ev.now _,fun h => by cases h⟩
theorem nx_app (g : Nm) : ∀ (r s : List S51) (i : Nat),nx g i (r ++ s) = match nx g i r with | some p => some p | none => nx g (i + r.length) s
 | [],s,i => rfl
 | x :: r,s,i => by
  rw [List.cons_append]
  unfold nx
  by_cases h : (x.f0 = 1 ∨ x.f0 = 2) ∧ x.f1.data.toList = g
  ·rw [if_pos h,if_pos h]
  ·rw [if_neg h,if_neg h,nx_app g r s (i + 1),show i + 1 + r.length = i + (x :: r).length by rw [List.length_cons];omega]
   cases s <;> rfl
theorem nx_none (g : Nm) : ∀ (s : List S51) (i : Nat),(∀ x ∈ s,¬ ((x.f0 = 1 ∨ x.f0 = 2) ∧ x.f1.data.toList = g)) → nx g i s = none
 | [],_,_ => rfl
 | x :: s,i,h => by
  unfold nx
  rw [if_neg (h x (.head _))]
  exact nx_none g s (i + 1) fun y hy => h y (.tail _ hy)
theorem gA_app {l s : List S51} {j : Nat} (h : j < l.length) : gA (l ++ s) j = gA l j:=by
 unfold gA;rw [List.getD_eq_getElem?_getD,List.getD_eq_getElem?_getD,List.getElem?_append_left h]
theorem gA_app2 {l s : List S51} {j : Nat} (h : l.length ≤ j) : gA (l ++ s) j = gA s (j - l.length):=by
 unfold gA;rw [List.getD_eq_getElem?_getD,List.getD_eq_getElem?_getD,List.getElem?_append_right h]
def runL : List (Nm × ByteArray) → List S51 → List (Nm × ByteArray)
 | L,[] => L
 | L,x :: r => if x.f0 = 0 then runL ((x.f2.data.toList,x.f3) :: L) r else runL L r
def runG : List Nm → List S51 → List Nm
 | G,[] => G
 | G,x :: r => if x.f0 = 3 then runG (x.f2.data.toList :: G) r else runG G r
theorem check_app : ∀ (l s : List S51) (L : List (Nm × ByteArray)) (G : List Nm),checkF L G l = 0 → checkF L G (l ++ s) = checkF (runL L l) (runG G l) s
 | [],s,L,G,_ => rfl
 | x :: r,s,L,G,h => by
  rw [checkF_cons] at h
  rw [List.cons_append,checkF_cons]
  by_cases hn : namesX x = 0
  ·rw [if_neg (fun h => h hn)] at h ⊢
   unfold runL runG
   by_cases h0 : x.f0 = 0
   ·rw [if_pos h0] at h ⊢
    rw [if_pos h0,if_neg (show ¬ x.f0 = 3 by omega)]
    by_cases hG : x.f2.data.toList ∈ G
    ·rw [if_pos hG] at h;cases h
    ·rw [if_neg hG] at h ⊢
     cases hL : L.lookup x.f2.data.toList with
     | none => rw [hL] at h;exact check_app r s _ _ h
     | some z =>
      rw [hL] at h
      simp only at h ⊢
      by_cases he : z.data.toList = x.f3.data.toList
      ·rw [if_pos he] at h ⊢;exact check_app r s _ _ h
      ·rw [if_neg he] at h;cases h
   ·rw [if_neg h0] at h ⊢
    rw [if_neg h0]
    by_cases h3 : x.f0 = 3
    ·rw [if_pos h3] at h ⊢
     rw [if_pos h3]
     by_cases hL : L.lookup x.f2.data.toList = none
     ·rw [if_pos hL] at h;cases h
     ·rw [if_neg hL] at h ⊢
      by_cases hG : x.f2.data.toList ∈ G
      ·rw [if_pos hG] at h;cases h
      ·rw [if_neg hG] at h ⊢;exact check_app r s _ _ h
    ·rw [if_neg h3] at h ⊢
     rw [if_neg h3]
     exact check_app r s _ _ h
  ·rw [if_pos hn] at h;exact absurd h hn
theorem checkV_eq {l : List S51} (h : l.length ≤ 4096) : checkV l = checkF [] [] l:=by unfold checkV;rw [if_neg (by omega)]
end Go.Proofs.Ytnmmdeonkpfccaa.Pr
set_option linter.unusedVariables false
namespace Go.Proofs.Ytnmmdeonkpfccaa.Pr
open Go.RowKit Go.Proofs.YtnmmdeonkpfccaaW.PrintWords Go.Proofs.YtnmmdeonkpfccaaW.PrintLast Go.Proofs.YtnmmdeonkpfccaaW.PrintMore
def badE (a : ByteArray) : S51:=⟨2,a,⟨#[]⟩,⟨#[]⟩⟩
theorem nx_snoc (g : List UInt8) (a : ByteArray) : ∀ (r : List S51) (i : Nat),nx g i (r ++ [badE a]) = match nx g i r with | some p => some p | none => if a.data.toList = g then some (((i + r.length : Nat) : Int),3) else none
 | [],i => by
  show nx g i [badE a] = _
  unfold nx
  by_cases h : a.data.toList = g
  ·rw [if_pos (show ((badE a).f0 = 1 ∨ (badE a).f0 = 2) ∧ (badE a).f1.data.toList = g from ⟨.inr rfl,h⟩)]
   show _ = if a.data.toList = g then _ else _
   rw [if_pos h];rfl
  ·rw [if_neg (show ¬ (((badE a).f0 = 1 ∨ (badE a).f0 = 2) ∧ (badE a).f1.data.toList = g) from fun h2 => h h2.2)]
   show _ = if a.data.toList = g then _ else _
   rw [if_neg h];rfl
 | x :: r,i => by
  rw [List.cons_append]
  unfold nx
  split
  ·rfl
  ·rw [nx_snoc g a r (i + 1),List.length_cons,show i + 1 + r.length = i + (r.length + 1) by omega]
theorem gA_snoc {l : List S51} {a : ByteArray} {j : Nat} (h : j < l.length) : gA (l ++ [badE a]) j = gA l j:=by
 unfold gA;rw [List.getD_eq_getElem?_getD,List.getD_eq_getElem?_getD,List.getElem?_append_left h]
theorem gA_last (l : List S51) (a : ByteArray) : gA (l ++ [badE a]) l.length = badE a:=by
 unfold gA;rw [List.getD_eq_getElem?_getD,List.getElem?_append_right (Nat.le_refl _),Nat.sub_self];rfl
theorem st_one {l : List S51} {j : Nat} (hj : j < l.length) : (stA l j).2 = 1 ↔ knd l j = 0 ∧ nx (gA l j).f1.data.toList (j + 1) (l.drop (j + 1)) = none:=by
 constructor
 ·intro h
  have h0 : knd l j = 0:=st_meas (by omega)
  refine ⟨h0,?_⟩
  unfold stA at h
  rw [if_pos h0] at h
  cases hN : nx (gA l j).f1.data.toList (j + 1) (l.drop (j + 1)) with
  | none => rfl
  | some p =>
   rw [hN] at h
   obtain ⟨i,h1,h2,h3,h4,h5⟩:=nx_some (l.length - (j + 1)) (j + 1) (by omega) rfl hN
   simp only [Option.getD_some] at h
   omega
 ·rintro ⟨h0,h1⟩
  unfold stA
  rw [if_pos h0,h1];rfl
theorem st_snoc {l : List S51} {a : ByteArray} {j : Nat} (hj : j < l.length) : (stA (l ++ [badE a]) j).2 = if (stA l j).2 = 1 ∧ (gA l j).f1.data.toList = a.data.toList then 3 else (stA l j).2:=by
 have hd : (l ++ [badE a]).drop (j + 1) = l.drop (j + 1) ++ [badE a]:=List.drop_append_of_le_length (by omega)
 have h1:=st_one (l:=l) (j:=j) hj
 by_cases h0 : knd l j = 0
 ·have e : (stA (l ++ [badE a]) j).2 = ((nx (gA l j).f1.data.toList (j + 1) (l.drop (j + 1) ++ [badE a])).getD (-1,1)).2:=by
   unfold stA;rw [gA_snoc hj,if_pos h0,hd]
  rw [e,nx_snoc]
  cases hN : nx (gA l j).f1.data.toList (j + 1) (l.drop (j + 1)) with
  | none =>
   have hs1:=h1.2 ⟨h0,hN⟩
   show ((if a.data.toList = (gA l j).f1.data.toList then _ else none : Option (Int × Int)).getD (-1,1)).2 = _
   by_cases hg : (gA l j).f1.data.toList = a.data.toList
   ·rw [if_pos hg.symm,if_pos ⟨hs1,hg⟩];rfl
   ·rw [if_neg (show ¬ a.data.toList = (gA l j).f1.data.toList from fun h => hg h.symm),if_neg (show ¬ ((stA l j).2 = 1 ∧ (gA l j).f1.data.toList = a.data.toList) from fun h => hg h.2),hs1];rfl
  | some p =>
   have hs1 : ¬ (stA l j).2 = 1:=fun h => by rw [(h1.1 h).2] at hN;cases hN
   rw [if_neg (show ¬ ((stA l j).2 = 1 ∧ (gA l j).f1.data.toList = a.data.toList) from fun h => hs1 h.1)]
   show p.2 = _
   unfold stA
   rw [if_pos h0,hN];rfl
 ·have e1 : (stA (l ++ [badE a]) j).2 = 0:=by unfold stA;rw [gA_snoc hj,if_neg h0]
  have e2 : (stA l j).2 = 0:=by unfold stA;rw [if_neg h0]
  rw [e1,e2,if_neg (by omega)]
theorem st_last (l : List S51) (a : ByteArray) : (stA (l ++ [badE a]) l.length).2 = 0:=by
 unfold stA;rw [gA_last,if_neg (show ¬ (badE a).f0 = 0 by show ¬ (2 : Int) = 0;decide)]
theorem ex_snoc {n : Nat} {P : Nat → Prop} : (∃ j,j < n + 1 ∧ P j) ↔ (∃ j,j < n ∧ P j) ∨ P n:=by
 constructor
 ·rintro ⟨j,h1,h2⟩
  by_cases e : j = n
  ·subst e;exact .inr h2
  ·exact .inl ⟨j,by omega,h2⟩
 ·rintro (⟨j,h1,h2⟩ | h)
  ·exact ⟨j,by omega,h2⟩
  ·exact ⟨n,by omega,h⟩
theorem riskP_iff (a : ByteArray) (x : S51) (s : Int) : riskP a x s = true ↔ s = 3 ∨ s = 1 ∧ x.f1.data.toList = a.data.toList:=by
 unfold riskP;simp
theorem rec_snoc (l : List S51) (a : ByteArray) (q : Nm) : q ∈ recL (l ++ [badE a]) ↔ q ∈ keptL (riskP a) l:=by
 rw [recL_mem,keptL_mem,List.length_append,List.length_singleton,ex_snoc,ex_snoc]
 have n1 : ¬ ((stA (l ++ [badE a]) l.length).2 = 3 ∧ prt (l ++ [badE a]) l.length = q):=by rw [st_last];intro h;omega
 have n2 : ¬ ((knd (l ++ [badE a]) l.length = 3 ∨ (stA (l ++ [badE a]) l.length).2 = 2) ∧ prt (l ++ [badE a]) l.length = q):=by
  rw [st_last]
  unfold knd;rw [gA_last]
  rintro ⟨h | h,_⟩
  ·have : (2 : Int) = 3:=h
   omega
  ·omega
 simp only [or_iff_left n1,or_iff_left n2]
 have p1 : (∃ j,j < l.length ∧ (stA (l ++ [badE a]) j).2 = 3 ∧ prt (l ++ [badE a]) j = q) ↔ (∃ j,j < l.length ∧ knd l j = 0 ∧ (stA l j).2 ≠ 2 ∧ riskP a (gA l j) (stA l j).2 = true ∧ prt l j = q):=by
  refine exists_congr fun j => and_congr_right fun hj => ?_
  rw [st_snoc hj,show prt (l ++ [badE a]) j = prt l j by unfold prt;rw [gA_snoc hj],riskP_iff]
  constructor
  ·rintro ⟨h1,h2⟩
   split at h1
   ·rename_i hc;exact ⟨st_meas (by omega),by omega,.inr hc,h2⟩
   ·exact ⟨st_meas (by omega),by omega,.inl h1,h2⟩
  ·rintro ⟨h0,h1,h2,h3⟩
   refine ⟨?_,h3⟩
   split
   ·rfl
   ·rename_i hc;exact h2.resolve_right hc
 have p2 : (∃ j,j < l.length ∧ (knd (l ++ [badE a]) j = 3 ∨ (stA (l ++ [badE a]) j).2 = 2) ∧ prt (l ++ [badE a]) j = q) ↔ (∃ j,j < l.length ∧ (knd l j = 3 ∨ (stA l j).2 = 2) ∧ prt l j = q):=by
  refine exists_congr fun j => and_congr_right fun hj => ?_
  rw [st_snoc hj,show prt (l ++ [badE a]) j = prt l j by unfold prt;rw [gA_snoc hj],show knd (l ++ [badE a]) j = knd l j by unfold knd;rw [gA_snoc hj]]
  refine and_congr_left fun _ => or_congr_right ?_
  split
  ·rename_i hc
   rw [hc.1]
   constructor <;> intro h <;> omega
  ·exact Iff.rfl
 rw [p1,p2]
def noP (B : List Nm) (q : Nm) : Bool:=!decide (q ∈ B)
theorem len_sortU (S : List Nm) (n : Nat) (h : (strs S).length ≤ n) : (sortU S).length ≤ n:=by unfold strs at h;rw [List.length_map] at h;exact h
theorem strs_recL_len (l : List S51) : (sortU (recL l)).length ≤ l.length:=by
 have h:=acc_strs (selP l) l.length (selP_mem l)
 have:=acc_len (selP l) l.length
 refine len_sortU _ _ ?_
 rw [← h,bs_len];exact this
theorem atRiskV_len (l : List S51) (a : ByteArray) : (atRiskV l a).1.length ≤ l.length + 1:=by
 unfold atRiskV
 split
 ·exact Nat.zero_le _
 ·split
  ·exact Nat.zero_le _
  ·have hs : bs ((sortU (recL (l ++ [badE a]))).filter (noP (sortU (recL l)))) = strs (riskL l a):=by
    refine (strs_of (List.Pairwise.filter _ (asc_sortU _)) fun q => ?_).symm
    unfold riskL noP
    rw [List.mem_filter,List.mem_filter,mem_sortU,rec_snoc]
    refine and_congr_right fun _ => ?_
    simp only [mem_sortU]
   show (strs (riskL l a)).length ≤ _
   rw [← hs,bs_len]
   have h2:=strs_recL_len (l ++ [badE a])
   rw [List.length_append,List.length_singleton] at h2
   exact Nat.le_trans (List.length_filter_le _ _) h2
end Go.Proofs.Ytnmmdeonkpfccaa.Pr
set_option linter.unusedVariables false
namespace Go.Proofs.Ytnmmdeonkpfccaa.Pr
open Go.RowKit Go.Proofs.YtnmmdeonkpfccaaW.PrintWords Go.Proofs.YtnmmdeonkpfccaaW.PrintLast Go.Proofs.YtnmmdeonkpfccaaW.PrintMore
theorem unsK_mem (l : List S51) (q : Nm) : ∀ n,n ≤ l.length → (q ∈ unsK l n ↔ ∃ j,l.length - n ≤ j ∧ j < l.length ∧ selU l j = some q)
 | 0,_ => by
  unfold unsK
  refine ⟨fun h => (List.not_mem_nil h).elim,?_⟩
  rintro ⟨j,h1,h2,_⟩;omega
 | n + 1,hn => by
  have ih:=unsK_mem l q n (by omega)
  have ej : ∀ j,l.length - (n + 1) ≤ j ↔ j = l.length - 1 - n ∨ l.length - n ≤ j:=fun j => by omega
  unfold unsK
  rw [evK_gA,chkA_st l n (by omega)]
  split
  ·rename_i h
   have hs : selU l (l.length - 1 - n) = some (gA l (l.length - 1 - n)).f1.data.toList:=by unfold selU;rw [if_pos h]
   rw [List.mem_cons,ih]
   constructor
   ·rintro (e | ⟨j,h1,h2⟩)
    ·exact ⟨l.length - 1 - n,by omega,by omega,by rw [hs,e]⟩
    ·exact ⟨j,by omega,h2⟩
   ·rintro ⟨j,h1,h2,h3⟩
    rcases (ej j).1 h1 with rfl | h1
    ·rw [hs] at h3;exact .inl (Option.some.inj h3).symm
    ·exact .inr ⟨j,h1,h2,h3⟩
  ·rename_i h
   have hs : selU l (l.length - 1 - n) = none:=by unfold selU;rw [if_neg h]
   rw [ih]
   constructor
   ·rintro ⟨j,h1,h2⟩;exact ⟨j,by omega,h2⟩
   ·rintro ⟨j,h1,h2,h3⟩
    rcases (ej j).1 h1 with rfl | h1
    ·rw [hs] at h3;cases h3
    ·exact ⟨j,h1,h2,h3⟩
end Go.Proofs.Ytnmmdeonkpfccaa.Pr
set_option linter.unusedVariables false
namespace Go.Proofs.Ytnmmdeonkpfccaa.Pr
open Go.RowKit Go.Proofs.YtnmmdeonkpfccaaW.PrintWords Go.Proofs.YtnmmdeonkpfccaaW.PrintLast Go.Proofs.YtnmmdeonkpfccaaW.PrintMore
theorem index_go (L : List Nm) (hn : L.length ≤ 2513169434915) (a : ByteArray) : ∀ (d i : Nat),i ≤ L.length → L.length - i = d → ∃ r,Ev (fun k => slices_Index_string_string.l0 k (bs L) a ((bs L).length : Int) (i : Int)) r ∧ decide (r ≥ 0) = decide (a.data.toList ∈ L.drop i):=by
 intro d
 induction d with
 | zero =>
  intro i hi hd
  obtain rfl : i = L.length:=by omega
  refine ⟨-1,Ev.const fun k => ?_,?_⟩
  ·simp only [slices_Index_string_string.l0]
   rw [if_neg (by rw [bs_len];omega)]
  ·rw [List.drop_length];rfl
 | succ d ih =>
  intro i hi hd
  obtain ⟨x,hx,hdr⟩:=drop_at (show i < L.length by omega)
  rw [hdr]
  by_cases h : x = a.data.toList
  ·refine ⟨(i : Int),Ev.const fun k => ?_,?_⟩
   ·simp only [slices_Index_string_string.l0]
    rw [if_pos (by rw [bs_len];omega),if_pos (by omega),if_pos (by rw [bs_len];omega),rdB_at hx,mkB_list,if_pos (by rw [h,ByteArray.toList_eq])]
   ·rw [decide_eq_true (show (i : Int) ≥ 0 by omega),decide_eq_true (by rw [h];exact List.mem_cons_self ..)]
  ·obtain ⟨r,hr,hd⟩:=ih (i + 1) (by omega) (by omega)
   refine ⟨r,Ev.step (f:=fun k => slices_Index_string_string.l0 k (bs L) a ((bs L).length : Int) ((i + 1 : Nat) : Int)) (fun k => ?_) hr,?_⟩
   ·simp only [slices_Index_string_string.l0]
    rw [if_pos (by rw [bs_len];omega),if_pos (by omega),if_pos (by rw [bs_len];omega),rdB_at hx,mkB_list,if_neg (by rw [ByteArray.toList_eq];exact fun e => h e.symm),wrap_nat (by omega)]
   ·rw [hd,decide_eq_decide,List.mem_cons]
    exact ⟨.inr,fun h2 => h2.resolve_left (fun e => h e.symm)⟩
theorem contains_ev (L : List Nm) (hn : L.length ≤ 2513169434915) (a : ByteArray) : Ev (fun k => slices_Contains_string_string.f k (bs L) a) (decide (a.data.toList ∈ L)):=by
 obtain ⟨r,hr,hd⟩:=index_go L hn a L.length 0 (by omega) (by omega)
 rw [List.drop_zero] at hd
 unfold slices_Contains_string_string.f
 rw [← hd]
 exact Ev.bind hr (Ev.now _)
theorem concat_ev (x y : List ByteArray) (h : x.length + y.length ≤ 50000) : Ev (fun k => slices_Concat_string_string.f k [x,y]) (x ++ y):=by
 have r0 : rd_L7 [x,y] 0 = x:=rfl
 have r1 : rd_L7 [x,y] 1 = y:=rfl
 have w1 : wrap64 (0 + (x.length : Int)) = (x.length : Int):=by unfold wrap64;omega
 have w2 : wrap64 ((x.length : Int) + (y.length : Int)) = (x.length : Int) + (y.length : Int):=by unfold wrap64;omega
 have a0 : wrap64 (0 + 1) = 1:=by decide +kernel
 have a1 : wrap64 (1 + 1) = 2:=by decide +kernel
 unfold slices_Concat_string_string.f
 refine Ev.step (f:=fun k => slices_Concat_string_string.l0 k [x,y] (x.length : Int) [x,y] 2 1) (fun k => ?_) ?_
 ·simp only [slices_Concat_string_string.l0,r0,w1,a0]
  rw [if_pos (by show (0 : Int) < 2;decide),if_pos (by decide),if_pos (by show (0 : Int) < 2;decide),if_neg (by omega)];rfl
 refine Ev.step (f:=fun k => slices_Concat_string_string.l0 k [x,y] ((x.length : Int) + (y.length : Int)) [x,y] 2 2) (fun k => ?_) ?_
 ·simp only [slices_Concat_string_string.l0,r1,w2,a1]
  rw [if_pos (by decide),if_pos (by decide),if_pos (by show (1 : Int) < 2;decide),if_neg (by omega)]
 have hg : slices_Grow_string_string.f [] ((x.length : Int) + (y.length : Int)) = some []:=by unfold slices_Grow_string_string.f;rw [if_pos ⟨rfl,by omega,by omega⟩]
 refine Ev.step (f:=fun k => slices_Concat_string_string.l1 k [] [x,y] 2 0) (fun k => ?_) ?_
 ·simp only [slices_Concat_string_string.l0,hg]
  rw [if_neg (by decide)];rfl
 refine Ev.step (f:=fun k => slices_Concat_string_string.l1 k x [x,y] 2 1) (fun k => ?_) ?_
 ·simp only [slices_Concat_string_string.l1,r0,a0]
  rw [if_pos (by decide),if_pos (by decide),if_pos (by show (0 : Int) < 2;decide),if_pos (by simp only [List.length_nil];omega)];rfl
 refine Ev.step (f:=fun k => slices_Concat_string_string.l1 k (x ++ y) [x,y] 2 2) (fun k => ?_) ?_
 ·simp only [slices_Concat_string_string.l1,r1,a1]
  rw [if_pos (by decide),if_pos (by decide),if_pos (by show (1 : Int) < 2;decide),if_pos (by omega)]
 refine Ev.const fun k => ?_
 simp only [slices_Concat_string_string.l1]
 rw [if_neg (by decide)]
theorem sort_two {P Q : List Nm} {S : List Nm} (hP : Asc P) (hQ : Asc Q) (hd : ∀ q,q ∈ P → q ∈ Q → False) (hm : ∀ q,q ∈ P ∨ q ∈ Q ↔ q ∈ S) : sortB (bs P ++ bs Q) = bs (sortU S):=by
 have hu : unB (bs P ++ bs Q) = P ++ Q:=by
  unfold unB bs
  rw [List.map_append,List.map_map,List.map_map]
  have : ∀ l : List Nm,l.map ((fun s : ByteArray => s.data.toList) ∘ mkB) = l:=fun l => by
   have : ((fun s : ByteArray => s.data.toList) ∘ mkB) = id:=by funext q;rfl
   rw [this,List.map_id]
  rw [this,this]
 unfold sortB
 rw [hu]
 have hp:=List.mergeSort_perm (P ++ Q) fun x y => decide (x ≤ y)
 have h1 : ((P ++ Q).mergeSort fun x y => decide (x ≤ y)).Pairwise fun a b => decide (a ≤ b) = true:=by
  refine List.pairwise_mergeSort (le:=fun x y : Nm => decide (x ≤ y)) ?_ ?_ _
  ·intro a b c h1 h2
   exact decide_eq_true (List.le_trans (of_decide_eq_true h1) (of_decide_eq_true h2))
  ·intro a b
   by_cases h : b < a
   ·rw [decide_eq_true (show b ≤ a from List.le_of_lt h),Bool.or_true]
   ·rw [decide_eq_true (show a ≤ b from List.not_lt.1 h)];rfl
 have hne : (P ++ Q).Pairwise fun a b => a ≠ b:=by
  rw [List.pairwise_append]
  exact ⟨hP.imp nm_ne,hQ.imp nm_ne,fun a ha b hb e => hd a ha (e ▸ hb)⟩
 have h2 : ((P ++ Q).mergeSort fun x y => decide (x ≤ y)).Pairwise fun a b => a ≠ b:=(List.Perm.pairwise_iff (fun h e => h e.symm) hp).2 hne
 have hA : Asc ((P ++ Q).mergeSort fun x y => decide (x ≤ y)):=by
  refine (h1.and h2).imp ?_
  rintro a b ⟨ha,hb⟩
  exact nm_lt_of (List.not_lt.2 (of_decide_eq_true ha)) (fun e => hb e.symm)
 have:=asc_same hA (asc_sortU S) fun q => by rw [List.mem_mergeSort,List.mem_append,mem_sortU];exact hm q
 rw [this];rfl
def ckE (k : Int) (a : ByteArray) : S51:=⟨k,a,⟨#[]⟩,⟨#[]⟩⟩
theorem ck_names {k : Int} {a : ByteArray} (hk : k = 1 ∨ k = 2) (h : nameL a.data.toList = 0) : namesX (ckE k a) = 0:=by
 show namesV k a.data.toList [] [] = 0
 unfold namesV
 rw [if_neg (by omega)]
 rcases hk with rfl | rfl <;> simp [nfold,h]
theorem ck_check {l : List S51} (h16 : l.length ≤ 16) (hc : checkV l = 0) {k : Int} {a : ByteArray} (hk : k = 1 ∨ k = 2) (h : nameL a.data.toList = 0) : checkV (l ++ [ckE k a]) = 0:=by
 rw [checkV_eq (by rw [List.length_append,List.length_singleton];omega)]
 have h0 : checkF [] [] l = 0:=by rw [← checkV_eq (by omega)];exact hc
 rw [check_app l _ _ _ h0,checkF_cons,if_neg (fun hn => hn (ck_names hk h)),if_neg (show ¬ (ckE k a).f0 = 0 by show ¬ k = 0;omega),if_neg (show ¬ (ckE k a).f0 = 3 by show ¬ k = 3;omega)]
 rfl
theorem st_ck {l : List S51} {k : Int} {a : ByteArray} (hk : k = 1 ∨ k = 2) {j : Nat} (hj : j < l.length) : (stA (l ++ [ckE k a]) j).2 = if (stA l j).2 = 1 ∧ (gA l j).f1.data.toList = a.data.toList then 1 + k else (stA l j).2:=by
 have h1:=st_one (l:=l) (j:=j) hj
 unfold stA
 rw [gA_app hj,List.drop_append_of_le_length (by omega)]
 by_cases h0 : (gA l j).f0 = 0
 ·rw [if_pos h0,if_pos h0,nx_app]
  cases hN : nx (gA l j).f1.data.toList (j + 1) (l.drop (j + 1)) with
  | none =>
   by_cases hg : (gA l j).f1.data.toList = a.data.toList
   ·rw [if_pos ⟨rfl,hg⟩]
    unfold nx
    rw [if_pos ⟨by show k = 1 ∨ k = 2;exact hk,hg.symm⟩]
    rfl
   ·rw [if_neg (fun h => hg h.2)]
    rw [nx_none _ _ _ (fun x hx h => by rw [List.mem_singleton.1 hx] at h;exact hg h.2.symm)]
  | some p =>
   have hp : p.2 = 2 ∨ p.2 = 3:=by
    obtain ⟨m,_,_,_,h4,h5⟩:=nx_some (l.length - (j + 1)) (j + 1) (by omega) rfl hN
    omega
   rw [if_neg (fun h => by have : p.2 = 1:=h.1;omega)]
 ·rw [if_neg h0,if_neg h0,if_neg (fun h => by cases h.1)]
theorem st_ck_last (l : List S51) {k : Int} (hk : k = 1 ∨ k = 2) (a : ByteArray) : (stA (l ++ [ckE k a]) l.length).2 = 0:=by
 unfold stA
 rw [gA_app2 (Nat.le_refl _),Nat.sub_self]
 show (if (ckE k a).f0 = 0 then _ else _ : Int × Int).2 = 0
 rw [if_neg (by show ¬ k = 0;omega)]
theorem not_unsure {l : List S51} {k : Int} (hk : k = 1 ∨ k = 2) (a : ByteArray) : a.data.toList ∉ unsK (l ++ [ckE k a]) (l ++ [ckE k a]).length:=by
 rw [unsK_mem _ _ _ (Nat.le_refl _)]
 rintro ⟨j,_,h1,h2⟩
 unfold selU at h2
 split at h2
 ·rename_i hs
  have hg:=Option.some.inj h2
  rw [List.length_append,List.length_singleton] at h1
  by_cases hj : j < l.length
  ·rw [st_ck hk hj] at hs
   rw [gA_app hj] at hg
   split at hs
   ·omega
   ·rename_i hh;exact hh ⟨hs,hg⟩
  ·obtain rfl : j = l.length:=by omega
   rw [st_ck_last l hk] at hs;cases hs
 ·cases h2
theorem less_sub {l : List S51} (a : ByteArray) {q : Nm} (h : q ∈ recL (l ++ [ckE 1 a])) : q ∈ recL l:=by
 rw [recL_mem] at h ⊢
 obtain ⟨⟨j,h1,h2,h3⟩,h4⟩:=h
 rw [List.length_append,List.length_singleton] at h1
 have hlen : (l ++ [ckE 1 a]).length = l.length + 1:=by rw [List.length_append,List.length_singleton]
 have hp : ∀ i,i < l.length → prt (l ++ [ckE 1 a]) i = prt l i:=fun i hi => by unfold prt;rw [gA_app hi]
 have hk : ∀ i,i < l.length → knd (l ++ [ckE 1 a]) i = knd l i:=fun i hi => by unfold knd;rw [gA_app hi]
 by_cases hj : j < l.length
 ·rw [st_ck (.inl rfl) hj] at h2
  refine ⟨⟨j,hj,?_,by rw [← hp j hj];exact h3⟩,?_⟩
  ·split at h2
   ·omega
   ·exact h2
  ·rintro ⟨i,hi,h5,h6⟩
   refine h4 ⟨i,by omega,?_,by rw [hp i hi];exact h6⟩
   rw [hk i hi,st_ck (.inl rfl) hi]
   rcases h5 with h5 | h5
   ·exact .inl h5
   ·right;split
    ·rfl
    ·exact h5
 ·obtain rfl : j = l.length:=by omega
  rw [st_ck_last l (.inl rfl)] at h2;cases h2
theorem more_iff {l : List S51} (a : ByteArray) (q : Nm) : q ∈ recL l ∨ q ∈ riskL l a ↔ q ∈ recL (l ++ [badE a]):=by
 rw [rec_snoc]
 unfold riskL
 rw [List.mem_filter]
 have sub : q ∈ recL l → q ∈ keptL (riskP a) l:=by
  rw [recL_mem,keptL_mem]
  rintro ⟨⟨j,h1,h2,h3⟩,h4⟩
  exact ⟨⟨j,h1,st_meas (by omega),by omega,by rw [riskP_iff];exact .inl h2,h3⟩,h4⟩
 constructor
 ·rintro (h | ⟨h,_⟩)
  ·exact sub h
  ·exact h
 ·intro h
  by_cases hr : q ∈ recL l
  ·exact .inl hr
  ·exact .inr ⟨h,by simp [hr]⟩
theorem parts_some {l : List S51} (hc : checkV l = 0) : recall_Parts.f l = some (bs (sortU (recL l)),0):=by
 unfold recall_Parts.f partsV
 rw [if_neg (fun h => h hc)];rfl
theorem unsure_some {l : List S51} (hc : checkV l = 0) : recall_Unsure.f l = some (bs (sortU (unsK l l.length)),0):=by
 unfold recall_Unsure.f unsureV
 rw [if_neg (fun h => h hc)];rfl
theorem strs_unsK_len (l : List S51) : (sortU (unsK l l.length)).length ≤ l.length:=len_sortU _ _ (sel_len (acc_strs (selU l) l.length (fun q => by rw [unsK_mem l q l.length (Nat.le_refl _)];simp)))
theorem risks_go {l : List S51} {a : ByteArray} (hl : l.length ≤ 16) (A : List ByteArray) (hA : A.length ≤ 5000) : ∀ (d i : Nat),i ≤ (sortU (recL (l ++ [ckE 1 a]))).length → (sortU (recL (l ++ [ckE 1 a]))).length - i = d →
  Ev (fun k => metrolablaw53_RecallRisks.l0 k (bs (sortU (recL l))) A A (bs (sortU (recL (l ++ [ckE 1 a])))) ((bs (sortU (recL (l ++ [ckE 1 a])))).length : Int) (i : Int)) true:=by
 have h1:=strs_recL_len l
 have h2:=strs_recL_len (l ++ [ckE 1 a])
 rw [List.length_append,List.length_singleton] at h2
 intro d
 induction d with
 | zero =>
  intro i hi hd
  obtain rfl : i = (sortU (recL (l ++ [ckE 1 a]))).length:=by omega
  refine Ev.step (f:=fun k => _) (fun k => by simp only [metrolablaw53_RecallRisks.l0];rw [if_neg (by rw [bs_len];omega)]) ?_
  refine Ev.bind (eqS_ev A (by omega)) ?_
  simp only [if_true]
  exact Ev.bind awake_ev (Ev.now _)
 | succ d ih =>
  intro i hi hd
  obtain ⟨q,hq,hdr⟩:=drop_at (show i < (sortU (recL (l ++ [ckE 1 a]))).length by omega)
  have hmem : q ∈ recL l:=less_sub a (mem_sortU.1 (List.mem_iff_getElem?.2 ⟨i,hq⟩))
  refine Ev.step (f:=fun k => _) (fun k => by simp only [metrolablaw53_RecallRisks.l0];rw [if_pos (by rw [bs_len];omega),if_pos (by omega),if_pos (by rw [bs_len];omega),rdB_at hq,wrap_nat (by omega)]) ?_
  refine Ev.bind (contains_ev (sortU (recL l)) (by omega) (mkB q)) ?_
  rw [show decide ((mkB q).data.toList ∈ sortU (recL l)) = true from decide_eq_true (mem_sortU.2 hmem)]
  simp only [if_true]
  exact ih (i + 1) (by omega) (by omega)
end Go.Proofs.Ytnmmdeonkpfccaa.Pr
namespace Go.Proofs.Ytnmmdeonkpfccaa.Pure
open Go.RowKit Go.Proofs.Ytnmmdeonkpfccaa.Pr Go.Proofs.YtnmmdeonkpfccaaW.PrintWords Go.Proofs.YtnmmdeonkpfccaaW.PrintLast
theorem RecallRisks : metrolablaw53_RecallRisks.Pure:=by
 intro l0 a1 hl _ _
 have hn : l0.length ≤ 2513169434915:=by omega
 refine Ev.rounds (g:=fun k => metrolablaw53_RecallRisks.f k l0 a1) ?_
 obtain ⟨b,hb,hr⟩:=right_ev l0 hn
 refine Ev.bind hb ?_
 cases b
 ·simp only [if_neg (show ¬ (false = true) by decide)]
  exact Ev.bind awake_ev (Ev.now _)
 ·simp only [if_true]
  obtain ⟨h16,hc⟩:=hr rfl
  by_cases h60 : (a1.size : Int) > 60
  ·simp only [if_pos h60];exact Ev.bind awake_ev (Ev.now _)
  ·simp only [if_neg h60]
   refine Ev.bind (refName_ev a1) ?_
   by_cases hg : nameL a1.data.toList = 0
   ·simp only [if_pos hg]
    have e1:=parts_some hc
    have e2 : recall_AtRisk.f l0 a1 = some (bs (sortU (riskL l0 a1)),0):=by
     unfold recall_AtRisk.f atRiskV
     rw [if_neg (fun h => h hc),if_neg (fun h => h hg)];rfl
    have e3 : recall_Event_31.f l0 = some l0:=by unfold recall_Event_31.f;rw [if_pos (by omega)]
    have b1 : (⟨2,a1,(⟨#[]⟩ : ByteArray),(⟨#[]⟩ : ByteArray)⟩ : S51) = ckE 2 a1:=rfl
    have b2 : (⟨1,a1,(⟨#[]⟩ : ByteArray),(⟨#[]⟩ : ByteArray)⟩ : S51) = ckE 1 a1:=rfl
    have c1:=ck_check h16 hc (k:=2) (.inr rfl) hg
    have c2:=ck_check h16 hc (k:=1) (.inl rfl) hg
    have e4:=parts_some c1
    have e5:=parts_some c2
    have e6:=unsure_some c1
    have e7:=unsure_some c2
    have z0 : wrap64 ((wrap64 ((wrap64 ((wrap64 ((wrap64 (0 + 0)) + 0)) + 0)) + 0)) + 0) = 0:=by decide +kernel
    simp only [e1,e2,e3,Option.bind_some,if_pos (show l0.length < 2513169434916 by omega),b1,b2,e4,e5,e6,e7,z0,if_true]
    have n1:=not_unsure (l:=l0) (k:=2) (.inr rfl) a1
    have n2:=not_unsure (l:=l0) (k:=1) (.inl rfl) a1
    have l1 : (sortU (unsK (l0 ++ [ckE 2 a1]) (l0 ++ [ckE 2 a1]).length)).length ≤ 17:=by
     have:=strs_unsK_len (l0 ++ [ckE 2 a1]);rw [List.length_append,List.length_singleton] at this;rw [List.length_append,List.length_singleton];omega
    have l2 : (sortU (unsK (l0 ++ [ckE 1 a1]) (l0 ++ [ckE 1 a1]).length)).length ≤ 17:=by
     have:=strs_unsK_len (l0 ++ [ckE 1 a1]);rw [List.length_append,List.length_singleton] at this;rw [List.length_append,List.length_singleton];omega
    refine Ev.bind (contains_ev _ (by omega) a1) ?_
    rw [show decide (a1.data.toList ∈ sortU (unsK (l0 ++ [ckE 2 a1]) (l0 ++ [ckE 2 a1]).length)) = false from decide_eq_false (fun h => n1 (mem_sortU.1 h))]
    simp only [if_neg (show ¬ (false = true) by decide)]
    refine Ev.bind (contains_ev _ (by omega) a1) ?_
    rw [show decide (a1.data.toList ∈ sortU (unsK (l0 ++ [ckE 1 a1]) (l0 ++ [ckE 1 a1]).length)) = false from decide_eq_false (fun h => n2 (mem_sortU.1 h))]
    simp only [if_neg (show ¬ (false = true) by decide)]
    have k1:=strs_recL_len l0
    have k2 : (sortU (riskL l0 a1)).length ≤ l0.length + 1:=by
     have:=atRiskV_len l0 a1
     unfold atRiskV at this
     rw [if_neg (fun h => h hc),if_neg (fun h => h hg)] at this
     exact len_sortU _ _ this
    refine Ev.bind (concat_ev _ _ (by rw [bs_len,bs_len];omega)) ?_
    have hs : sortB (bs (sortU (recL l0)) ++ bs (sortU (riskL l0 a1))) = bs (sortU (recL (l0 ++ [ckE 2 a1]))) :=
     sort_two (asc_sortU _) (asc_sortU _) (fun q h1 h2 => by
      rw [mem_sortU] at h1 h2
      unfold riskL at h2
      rw [List.mem_filter] at h2
      simp [h1] at h2) (fun q => by rw [mem_sortU,mem_sortU];exact more_iff a1 q)
    have es : slices_Sort_string_string.f (bs (sortU (recL l0)) ++ bs (sortU (riskL l0 a1))) = some (bs (sortU (recL (l0 ++ [ckE 2 a1])))):=by
     unfold slices_Sort_string_string.f
     rw [if_pos (by rw [List.length_append,bs_len,bs_len];omega),hs]
    simp only [es,Option.bind_some]
    have k3:=strs_recL_len (l0 ++ [ckE 2 a1])
    rw [List.length_append,List.length_singleton] at k3
    exact risks_go (a:=a1) h16 (bs (sortU (recL (l0 ++ [ckE 2 a1])))) (by rw [bs_len];omega) (sortU (recL (l0 ++ [ckE 1 a1]))).length 0 (by omega) (by omega)
   ·simp only [if_neg hg];exact Ev.bind awake_ev (Ev.now _)
end Go.Proofs.Ytnmmdeonkpfccaa.Pure
namespace Go.Proofs.Ytnmmdeonkpfccaa.recallRisks
open Go.ChangeShapes Go.WideShapes Go.ChangeAt Go.RowKit
open Go.ChangeMaps (open_string shut_string)
set_option linter.unusedVariables false
theorem own : ownKnob Try.prog.godebug = none:=by kernel_rfl
theorem laidOut : laidOutB Try.prog = true:=by kernel_rfl
set_option maxRecDepth 100000 in
theorem lifted (os : Os) (started : os.Started) (H : Type) (enc : TypeId × Value → H) :
  ReturnsInHanded {} Try.checked os 8 .any (Rows.recallRisksSpec.pre6 enc Try.prog Try.f8 Rows.recallRisksRow.domain false) (Rows.recallRisksSpec.post enc Try.prog Try.f8 false true false false):=by
 refine returnsInHanded_of_change_sized (C:=Try.checked) own started (by kernel_rfl) Try.func8
  (ChangeSpec.witness6 (enc:=enc) (C:=Try.checked) false ⟨#[],#[.slice none 0 0,.string ByteArray.empty],[]⟩ 8 (by kernel_rfl) (by kernel_rfl) (by kernel_rfl) (by kernel_rfl)) ?_
 intro W base args ds gs before hval0 hW hcnd hsz0 _
 have hsz : (DataW.weightsEach Try.prog (Try.f8.params.toList ++ Rows.recallRisksSpec.plain.varTypes Try.prog) (ds ++ gs)).all (· ≤ reachBytes) = true:=hsz0
 have hval : ∀ (j : Nat) t v,Try.f8.params[j]? = some t → args[j]? = some v → Value.okWide Try.prog W .any base t v:=hval0
 have hW':=hW
 obtain ⟨p,q,hA0,hV,rfl,hfz,hnd⟩:=hW
 have hA : DataW.TrodAll enc Try.prog W 0 (fun _ => true) true Try.f8.params.toList args.toList ds p:=hA0
 rw [Try.params8] at hA hval hsz
 obtain ⟨v0,vs0,d0,ds0,p0,q0,hargs,rfl,rfl,h0,r0⟩:=trodAll_cons hA
 obtain ⟨v1,vs1,d1,ds1,p1,q1,rfl,rfl,rfl,h1,r1⟩:=trodAll_cons r0
 obtain ⟨rfl,rfl,rfl⟩:=trodAll_nil r1
 obtain rfl : args = #[v0,v1]:=by cases args;simp_all
 obtain ⟨rfl,rfl⟩:=trodVars_none hV
 obtain ⟨a0,len0,cap0,rfl⟩:=okWide_slice Try.underlying22 (hval 0 22 v0 rfl rfl)
 have k0:=h0
 have lt0 : ∀ x ∈ p0,x.block < W.heap.size:=by obtain ⟨m,hm⟩:=k0;exact DataW.trod_lt m _ _ _ hm
 obtain ⟨z0,rfl,hC0,hcap0,hev0,y0⟩ : ∃ zs : List Pr.S51,len0 = zs.length ∧ YtnmmdeonkpfccaaW.PrintWords.Kd.C Pr.k51 W a0 zs.length zs ∧ zs.length ≤ cap0 ∧ (∀ y ∈ zs,Pr.okEv y) ∧ zs.length * 56 ≤ 140737488351232:=by
  obtain ⟨fuel,hf⟩:=h0
  rcases Pr.open_events hf with ⟨hcs,_⟩ | ⟨a,len,cap,es,sp,l,hcs,hl,hx,hes,hll,hC,hok⟩
  ·simp [Value.cells] at hcs
   obtain ⟨rfl,rfl,rfl⟩:=hcs
   exact ⟨[],rfl,⟨rfl,(by simp only [List.length_nil];omega),fun h => absurd h (by simp only [List.length_nil];omega)⟩,Nat.le_refl _,(fun _ h => by cases h),by simp⟩
  ·simp [Value.cells] at hcs
   obtain ⟨rfl,rfl,rfl⟩:=hcs
   have z:=sized_slice hsz (j:=0) (t:=22) rfl (congrArg some hx) Try.underlying22
   rw [show Try.prog.bytesOf 51 = 56 by kernel_rfl,hes,← hll] at z
   exact ⟨l,hll.symm,hll ▸ hC,hll ▸ hl,hok,Nat.le_trans (Nat.mul_le_mul_right _ (Nat.le_add_right _ _)) z⟩
 obtain ⟨a1,rfl,rfl,rfl,y1⟩:=open_string Try.underlying9 (hval 1 9 v1 rfl rfl) h1
 have w1 : a1.size ≤ 140737488351232:=by
  have z:=sized_string hsz (j:=1) (t:=9) rfl rfl
  rw [Array.length_toList] at z
  exact z
 clear hA0 hval0 hsz0 hsz
 obtain ⟨k,hk⟩:=Pure.RecallRisks z0 a1 y0 hev0 w1
 refine (Pr.metrolablaw53_RecallRisks.calls k a0 cap0 z0 a1 true W hC0 hcap0 ⟨rfl⟩ hk).mono fun e W' ⟨he,bel⟩ => ?_
 subst he
 exact ⟨_,rfl,_,_,_,[],_,[],hW',trodAll_mk1 (shut_bool Try.underlying4 _),(trodAll_cons_mk (Below.trod laidOut (by kernel_rfl) (of_decide_eq_true (by kernel_rfl)) k0 bel lt0) (trodAll_cons_mk (shut_string Try.underlying9 y1) trodAll_mk0)),rfl,bel.frame _,fun h => by cases h⟩
theorem over : Rows.recallRisksRow.holds Try.pinned (OpenSpec.ofChange Rows.recallRisksSpec) :=
 OpenClaim.holds_of_wide 8 Try.f8 rfl rfl rfl rfl rfl rfl rfl ⟨rfl,rfl,rfl,rfl,rfl⟩ rfl rfl rfl rfl rfl (by kernel_rfl) Try.func8 (by kernel_rfl)
  (of_decide_eq_true (by kernel_rfl)) (by unfold Func.isWrapper;first | (rw [if_pos (by decide +kernel)];kernel_rfl) | (rw [if_neg (by decide +kernel)];exact ⟨rfl,rfl⟩))
  (fun os started H enc _ => lifted os started H enc)
theorem proved : Rows.RecallRisksSaid:=over
#print axioms proved
end Go.Proofs.Ytnmmdeonkpfccaa.recallRisks
namespace Go.Proofs.Ytnmmdeonkpfccaa
theorem recallRisks_holds : Rows.RecallRisksSaid:=recallRisks.proved
end Go.Proofs.Ytnmmdeonkpfccaa
