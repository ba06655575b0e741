/- A part of the statement's proof. -/
import Derived.RangeFuncNested
import Derived.RangeFuncBound
import Derived.RangeFuncCalls
import Derived.RangeFuncLeaves
set_option linter.unusedVariables false
namespace Go.Proofs.Ytnmmdeonkpfccaa.Rg
open Go Go.RowKit
variable {P : Program}
structure KeepC (C : Nat → Prop) (W W' : World) : Prop where
 size : W.heap.size ≤ W'.heap.size
 same : ∀ i,i < W.heap.size → ¬ C i → W'.heap[i]? = W.heap[i]?
theorem KeepC.refl (C : Nat → Prop) (W : World) : KeepC C W W:=⟨Nat.le_refl _,fun _ _ _ => rfl⟩
theorem KeepC.trans {C : Nat → Prop} {X Y Z : World} (h : KeepC C X Y) (k : KeepC C Y Z) : KeepC C X Z :=
 ⟨Nat.le_trans h.size k.size,fun i hi hc => (k.same i (Nat.lt_of_lt_of_le hi h.size) hc).trans (h.same i hi hc)⟩
theorem KeepC.mono {C D : Nat → Prop} {W W' : World} (h : KeepC C W W') (hs : ∀ i,C i → D i) : KeepC D W W':=⟨h.size,fun i hi hd => h.same i hi fun hc => hd (hs i hc)⟩
theorem KeepC.alloc {C : Nat → Prop} {X Y : World} (h : KeepC C X Y) (o : Obj) : KeepC C X (Y.alloc o) :=
 h.trans ⟨by simp,fun i hi _ => Below.heap_alloc _ _ _ hi⟩
theorem KeepC.drew {C : Nat → Prop} {X Y : World} (h : KeepC C X Y) : KeepC C X Y.drew:=⟨h.size,h.same⟩
theorem KeepC.setCell {C : Nat → Prop} {X Y : World} (h : KeepC C X Y) {p : Addr} (hp : X.heap.size ≤ p.block ∨ C p.block) (u : Value) : KeepC C X (Y.setCell p u) :=
 ⟨by simpa [World.setCell] using h.size,fun i hi hc => (Below.heap_setCell _ _ _ _ (by rintro rfl;rcases hp with h1 | h1;omega;exact hc h1)).trans (h.same i hi hc)⟩
theorem KeepC.grown {C : Nat → Prop} {X Y Z : World} {row : Option Nat} (h : KeepC C X Y) (hg : Y.grownBy Z row) (hr : ∀ k,row = some k → X.heap.size ≤ k ∨ C k) : KeepC C X Z :=
 ⟨Nat.le_trans h.size hg.size,fun i hi hc => (hg.block i (Nat.lt_of_lt_of_le hi h.size) (fun e => by rcases hr i e.symm with h1 | h1;omega;exact hc h1)).trans (h.same i hi hc)⟩
theorem KeepC.of_below {C : Nat → Prop} {X Y Z : World} (h : KeepC C X Y) (hb : Below Y.heap.size Y Z) : KeepC C X Z :=
 ⟨Nat.le_trans h.size hb.size,fun i hi hc => (hb.block i (Nat.lt_of_lt_of_le hi h.size)).trans (h.same i hi hc)⟩
def ReadsTo {β : Type} (B : Nat) (J : β → World → Prop) : Prop:=∀ s W W',J s W → B ≤ W.heap.size → W.heap.size ≤ W'.heap.size → W.os = W'.os → W.tape = W'.tape → W.output = W'.output → (∀ i,i < B → W'.heap[i]? = W.heap[i]?) → J s W'
def SeqB {α : Type} (P : Program) (g : Nat) (lb : Array Value) (encs : α → Array Value) (C : Nat → Prop) (S Pf : List α → Prop) (w0 : World) : Prop :=
 ∀ (n l : Nat) (J : List α → World → Prop) (W : World),Below w0.heap.size w0 W → (∀ i,C i → i < W.heap.size) → ReadsTo W.heap.size J →
  (∀ m pre x W1,J pre W1 → W.heap.size ≤ W1.heap.size → Pf (pre ++ [x]) → YieldAt Fence.wide m P l (encs x) W1 fun e W' => e = .returned (.bool true) ∧ J (pre ++ [x]) W' ∧ KeepC C W1 W') →
  J [] W →
  CallsIn Fence.wide n P g (#[.func (.yield l) #[] #[]] ++ lb) W fun e W' => (∃ v,e = .returned v) ∧ W.heap.size ≤ W'.heap.size ∧ ∃ xs,S xs ∧ J xs W'
theorem YieldAt.inRound {F : Fence} {m : Nat} {l : Nat} {args : Array Value} {W : World} {R : Ending → World → Prop} (l' : Nat) (h : YieldAt F m P l args W R) : YieldAt (F.inRound l') m P l args W R:=h
def postB {β : Type} (C : Nat → Prop) (I : β → World → Prop) (s : β) (W : World) : Exit → Act → World → Prop
 | .normal,_,W' => KeepC C W W' ∧ I s W'
 | _,_,_ => False
theorem rangeB {α : Type} {n : Nat} {g : Operand} {ps : Array Tmp} {assign body : Code} {Q : Exit → Act → World → Prop} {a : Act} {w : World}
  {gf : Nat} {lb : Array Value} (hg : a.eval g = .func (.func gf) #[] lb) (eg : ∀ args w,(callFunc gf args).run P w = .ok (.enter gf args) w)
  {encs : α → Array Value} (C : Nat → Prop) (hC : ∀ i,C i → i < w.heap.size) {S Pf : List α → Prop} {w0 : World} (hb0 : Below w0.heap.size w0 w)
  (hseq : SeqB P gf lb encs (fun i => C i ∨ i = w.heap.size + 1) S Pf w0) (hps : ∀ x,(encs x).size = ps.size)
  (I : List α → World → Prop) (hI : ReadsTo w.heap.size I) (h0 : I [] w)
  (Ax : α → Act → World → Prop) (hAx : ∀ x a' W W',Ax x a' W → W.heap.size = W'.heap.size → W.os = W'.os → W.tape = W'.tape → W.output = W'.output → (∀ i,i ≠ w.heap.size + 1 → W'.heap[i]? = W.heap[i]?) → Ax x a' W')
  (hassign : ∀ (m : Nat) (pre : List α) (x : α) (W : World),I pre W → w.heap.size + 2 ≤ W.heap.size → Pf (pre ++ [x]) →
   assign.wpIn (Fence.wide.inRound (w.heap.size + 1)) m P (Exit.then (fun a' W' => KeepC C W W' ∧ I pre W' ∧ Ax x a' W') (fun _ _ _ => False)) { tmps:=(ps.zip (encs x)).foldl (fun t (p,v) => t.setIfInBounds p v) a.tmps,defers:=[] } W)
  (hbody : ∀ (m : Nat) (pre : List α) (x : α) (a' : Act) (W : World),I pre W → w.heap.size + 2 ≤ W.heap.size → Ax x a' W → Pf (pre ++ [x]) → body.wpIn (Fence.wide.inRound (w.heap.size + 1)) m P (postB C I (pre ++ [x]) W) a' W)
  (hdone : ∀ (xs : List α) (W : World),S xs → I xs W → W.heap[w.heap.size]? = some (.deferred (some [])) → w.heap.size + 2 ≤ W.heap.size → Q .normal { a with defers:={ target:=.collected w.heap.size,args:=#[] } :: a.defers } W) :
  (Code.rangeFunc g ps assign body).wpIn Fence.wide n P Q a w:=by
 refine wpIn_rangeFunc ?_
 intro fn hfn
 obtain ⟨rec,hrec⟩ : ∃ rec : LoopState → Option Code → Loop,rec = fun st pe => { state:=st,pending:=pe,fn,tmps:=a.tmps,params:=ps,assign,body,defers:=w.heap.size }:=⟨_,rfl⟩
 obtain ⟨W1,hW1⟩ : ∃ W1,(w.alloc (.deferred (some []))).alloc (.loop (rec .ready none)) = W1:=⟨_,rfl⟩
 have hsz1 : W1.heap.size = w.heap.size + 2:=by rw [← hW1];simp
 have hL1 : W1.heap[w.heap.size + 1]? = some (.loop (rec .ready none)):=by
  rw [← hW1];have:=World.alloc_heap_new (w.alloc (.deferred (some []))) (.loop (rec .ready none));rwa [World.size_alloc] at this
 have hK1 : W1.heap[w.heap.size]? = some (.deferred (some [])):=by
  rw [← hW1];exact (Below.heap_alloc _ _ _ (by simp)).trans (World.alloc_heap_new w _)
 have hbW : Below w.heap.size w W1:=by rw [← hW1];exact ((Below.refl _ w).alloc (Nat.le_refl _) _).alloc (by simp) _
 have hI1 : I [] W1:=hI [] w W1 h0 (Nat.le_refl _) hbW.size hbW.os.symm hbW.tape.symm hbW.output.symm hbW.block
 have hb1 : Below w0.heap.size w0 W1:=hb0.trans (hbW.mono hb0.size)
 refine ⟨w.heap.size + 1,[{ target:=.collected w.heap.size,args:=#[] }],W1,{ target:=.fn (.func gf) lb,args:=#[.func (.yield (w.heap.size + 1)) #[] #[]] },W1,gf,
  #[.func (.yield (w.heap.size + 1)) #[] #[]] ++ lb,W1,?_,?_,?_,?_,fun h => (by cases h),?_⟩
 ·rw [← hW1,hrec];exact run_enterLoop_outer _ _ _ _ _
 ·simp only [resolve,hg]
  simp [go_sem]
 ·intro f' _;trivial
 ·simp [invoke,go_sem,eg]
 ·refine (hseq (n - 1) (w.heap.size + 1) (fun pre W => I pre W ∧ W.heap[w.heap.size + 1]? = some (.loop (rec .ready none)) ∧ W.heap[w.heap.size]? = some (.deferred (some []))) W1 hb1
   (fun i hi => by rcases hi with h | rfl;have:=hC i h;omega;omega) ?_ ?_ ⟨hI1,hL1,hK1⟩).mono ?_
  ·rintro s W W' ⟨hi,hl,hk⟩ hB hsz ho ht hou hsame
   exact ⟨hI s W W' hi (by omega) hsz ho ht hou (fun i hi' => hsame i (by omega)),(hsame _ (by omega)).trans hl,(hsame _ (by omega)).trans hk⟩
  ·rintro m pre x W ⟨hi,hl,hk⟩ hB hlen
   have hlt : w.heap.size + 1 < W.heap.size:=(Array.getElem?_eq_some_iff.1 hl).1
   have hy:=run_yield (P:=P) (args:=encs x) hl (by rw [hrec];exact hps x)
   rw [hrec] at hy
   refine ⟨fn,_,assign,body,hy,roundIn_of_wpIn hfn (wpIn_mono (hassign m pre x W hi (by omega) hlen) ?_)⟩
   intro e a' W2 hp
   cases e with
   | normal =>
    obtain ⟨hkc2,hi2,hax2⟩:=hp
    have hl2 : W2.heap[w.heap.size + 1]? = some (.loop (rec .ready none)):=(hkc2.same _ (by omega) (fun h => by have:=hC _ h;omega)).trans hl
    have hlt2 : w.heap.size + 1 < W2.heap.size:=(Array.getElem?_eq_some_iff.1 hl2).1
    have hk2 : W2.heap[w.heap.size]? = some (.deferred (some [])):=(hkc2.same _ (by omega) (fun h => by have:=hC _ h;omega)).trans hk
    obtain ⟨W3,hW3⟩ : ∃ W3,W2.putObj (w.heap.size + 1) (.loop { rec .ready none with state:=.busy }) = W3:=⟨_,rfl⟩
    have hsz3 : W2.heap.size = W3.heap.size:=by rw [← hW3];simp
    have hot3 : ∀ i,i ≠ w.heap.size + 1 → W3.heap[i]? = W2.heap[i]?:=fun i hi => by rw [← hW3];exact World.putObj_heap_other hi
    have hl3 : W3.heap[w.heap.size + 1]? = some (.loop { rec .ready none with state:=.busy }):=by rw [← hW3];exact World.putObj_heap_same hlt2
    have hos : W2.os = W3.os ∧ W2.tape = W3.tape ∧ W2.output = W3.output:=by rw [← hW3];exact ⟨rfl,rfl,rfl⟩
    refine ⟨W3,by rw [← hW3];exact run_beginRound hl2 (by rw [hrec]),?_⟩
    have hi3 : I pre W3:=hI _ _ _ hi2 (by omega) (by omega) hos.1 hos.2.1 hos.2.2 (fun i hi => hot3 i (by omega))
    refine wpIn_mono (hbody m pre x a' W3 hi3 (by omega) (hAx _ _ _ _ hax2 hsz3 hos.1 hos.2.1 hos.2.2 hot3) hlen) ?_
    intro e a4 W4 hp4
    cases e with
    | normal =>
     obtain ⟨hkc4,hi4⟩:=hp4
     have hl4 : W4.heap[w.heap.size + 1]? = some (.loop { rec .ready none with state:=.busy }):=(hkc4.same _ (by omega) (fun h => by have:=hC _ h;omega)).trans hl3
     have hlt4 : w.heap.size + 1 < W4.heap.size:=(Array.getElem?_eq_some_iff.1 hl4).1
     have hk4 : W4.heap[w.heap.size]? = some (.deferred (some [])):=(hkc4.same _ (by omega) (fun h => by have:=hC _ h;omega)).trans ((hot3 _ (by omega)).trans hk2)
     refine ⟨_,_,run_endRound none hl4,rfl,⟨hI _ _ _ hi4 (by omega) (by simp) rfl rfl rfl (fun i hi => World.putObj_heap_other (by omega)),?_,(World.putObj_heap_other (by omega)).trans hk4⟩,?_⟩
     ·rw [World.putObj_heap_same hlt4,hrec];rfl
     ·refine ⟨by have:=hkc2.size;have:=hkc4.size;simp;omega,fun i hi hc => ?_⟩
      have hne : i ≠ w.heap.size + 1:=fun e => hc (.inr e)
      have hnC : ¬ C i:=fun h => hc (.inl h)
      rw [World.putObj_heap_other hne,hkc4.same i (by have:=hkc2.size;omega) hnC,hot3 i hne,hkc2.same i hi hnC]
    | ret => exact hp4.elim
    | exit _ => exact hp4.elim
    | goto _ => exact hp4.elim
    | panic _ => exact hp4.elim
    | outgrown => exact hp4.elim
   | ret => exact hp.elim
   | exit _ => exact hp.elim
   | goto _ => exact hp.elim
   | panic _ => exact hp.elim
   | outgrown => exact hp.elim
  ·rintro e W2 ⟨⟨v,rfl⟩,hsz,xs,hS,hi,hl,hk⟩
   have hlt : w.heap.size + 1 < W2.heap.size:=(Array.getElem?_eq_some_iff.1 hl).1
   refine ⟨none,_,by have:=run_endLoop (P:=P) hl (by rw [hrec];simp);rw [hrec] at this;exact this,?_⟩
   exact hdone xs _ hS (hI _ _ _ hi (by omega) (by simp) rfl rfl rfl (fun i hi => World.putObj_heap_other (by omega))) ((World.putObj_heap_other (by omega)).trans hk) (by simp;omega)
def ButOne (b : Nat) (W W' : World) : Prop:=W.heap.size = W'.heap.size ∧ W.os = W'.os ∧ W.tape = W'.tape ∧ W.output = W'.output ∧ ∀ i,i ≠ b → W'.heap[i]? = W.heap[i]?
theorem ButOne.trans {b : Nat} {X Y Z : World} (h : ButOne b X Y) (k : ButOne b Y Z) : ButOne b X Z:=⟨h.1.trans k.1,h.2.1.trans k.2.1,h.2.2.1.trans k.2.2.1,h.2.2.2.1.trans k.2.2.2.1,fun i hi => (k.2.2.2.2 i hi).trans (h.2.2.2.2 i hi)⟩
theorem rangeB2 {α : Type} {n : Nat} {g : Operand} {ps : Array Tmp} {assign body : Code} {Q : Exit → Act → World → Prop} {a : Act} {w : World}
  {gf : Nat} {lb : Array Value} (hg : a.eval g = .func (.func gf) #[] lb) (eg : ∀ args w,(callFunc gf args).run P w = .ok (.enter gf args) w)
  {encs : α → Array Value} (C : Nat → Prop) (hC : ∀ i,C i → i < w.heap.size) {S Pf : List α → Prop}
  (hseq : SeqB P gf lb encs (fun i => C i ∨ i = w.heap.size + 1) S Pf w) (hps : ∀ x,(encs x).size = ps.size)
  (I : List α → World → Prop) (hI : ReadsTo w.heap.size I) (h0 : I [] w)
  (hround : ∀ (m : Nat) (pre : List α) (x : α) (W : World),I pre W → w.heap.size + 2 ≤ W.heap.size → Pf (pre ++ [x]) →
   assign.wpIn (Fence.wide.inRound (w.heap.size + 1)) m P (Exit.then (fun a' W' => KeepC C W W' ∧ I pre W' ∧ ∀ m' pre' W2,ButOne (w.heap.size + 1) W' W2 → I pre' W2 → w.heap.size + 2 ≤ W2.heap.size → Pf (pre' ++ [x]) →
    body.wpIn (Fence.wide.inRound (w.heap.size + 1)) m' P (postB C I (pre' ++ [x]) W2) a' W2) (fun _ _ _ => False)) { tmps:=(ps.zip (encs x)).foldl (fun t (p,v) => t.setIfInBounds p v) a.tmps,defers:=[] } W)
  (hdone : ∀ (xs : List α) (W : World),S xs → I xs W → W.heap[w.heap.size]? = some (.deferred (some [])) → w.heap.size + 2 ≤ W.heap.size → Q .normal { a with defers:={ target:=.collected w.heap.size,args:=#[] } :: a.defers } W) :
  (Code.rangeFunc g ps assign body).wpIn Fence.wide n P Q a w :=
 rangeB hg eg C hC (Below.refl _ w) hseq hps I hI h0 (fun x a' W' => ∀ m' pre' W2,ButOne (w.heap.size + 1) W' W2 → I pre' W2 → w.heap.size + 2 ≤ W2.heap.size → Pf (pre' ++ [x]) →
    body.wpIn (Fence.wide.inRound (w.heap.size + 1)) m' P (postB C I (pre' ++ [x]) W2) a' W2)
  (fun _ _ _ _ h h1 h2 h3 h4 h5 m' pre' W2 hb => h m' pre' W2 (ButOne.trans ⟨h1,h2,h3,h4,h5⟩ hb)) hround
  (fun m pre x a' W hi hs hx hp => hx m pre W ⟨rfl,rfl,rfl,rfl,fun _ _ => rfl⟩ hi hs hp) hdone
theorem below_reads {B B' : Nat} {w W W' : World} (h : Below B w W) (hB : B ≤ B') (hs : W.heap.size ≤ W'.heap.size) (h1 : W.os = W'.os) (h2 : W.tape = W'.tape) (h3 : W.output = W'.output) (h4 : ∀ i,i < B' → W'.heap[i]? = W.heap[i]?) : Below B w W' :=
 ⟨h1.symm.trans h.os,h2.symm.trans h.tape,h3.symm.trans h.output,Nat.le_trans h.size hs,fun i hi => (h4 i (Nat.lt_of_lt_of_le hi hB)).trans (h.block i hi)⟩
def Near (M : Nat) (X Y : World) : Prop:=X.os = Y.os ∧ X.tape = Y.tape ∧ X.output = Y.output ∧ KeepC (fun i => i = M) X Y
theorem Near.refl (M : Nat) (X : World) : Near M X X:=⟨rfl,rfl,rfl,KeepC.refl _ _⟩
theorem Near.alloc {M : Nat} {X Y : World} (h : Near M X Y) (o : Obj) : Near M X (Y.alloc o):=⟨h.1,h.2.1,h.2.2.1,h.2.2.2.alloc o⟩
theorem Near.setCell {M : Nat} {X Y : World} (h : Near M X Y) {p : Addr} (hp : X.heap.size ≤ p.block) (u : Value) : Near M X (Y.setCell p u):=⟨h.1,h.2.1,h.2.2.1,h.2.2.2.setCell (.inl hp) u⟩
theorem Near.grown {M : Nat} {X Y Z : World} (h : Near M X Y) (hg : Y.grownBy Z (some M)) : Near M X Z :=
 ⟨h.1.trans hg.os.symm,h.2.1.trans hg.tape.symm,h.2.2.1.trans hg.output.symm,h.2.2.2.grown hg (fun k e => by cases e;exact .inr rfl)⟩
theorem Near.below {M : Nat} {X Y Z : World} (h : Near M X Y) (hb : Below Y.heap.size Y Z) : Near M X Z:=⟨h.1.trans hb.os.symm,h.2.1.trans hb.tape.symm,h.2.2.1.trans hb.output.symm,h.2.2.2.of_below hb⟩
end Go.Proofs.Ytnmmdeonkpfccaa.Rg
