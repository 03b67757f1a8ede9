import Derived.RangeFuncNested
import Derived.RangeFuncBound
import Derived.RangeFuncCalls
import Derived.RangeFuncLeaves
import Derived.RangeFuncBox
import Derived.OwnWalkIn
import Derived.TacticsInMore
import Derived.LoopNIn
import Derived.LoopIn
import Derived.Lib.Hide
set_option linter.unusedVariables false
/- Trimmed by a program. By an AI agent. -/
namespace Go
open Go.RowKit
def Qku {α : Type} (n : Nat) (P : Program) (g : Nat) (lb : Array Value) (encs : α → Array Value) (Rd : α → World → Prop) (Kp : World → World → Prop) (S : List α → Prop) (N : Nat) (w0 : World) : Prop :=
 ∀ (l : Nat) (J : List α → World → Prop) (W : World), Kp w0 W → (∀ pre A B, J pre A → Below A.heap.size A B → J pre B) →
  (∀ pre x A, J pre A → Rd x A → pre.length < N → YieldAt Fence.wide (n - 1) P l (encs x) A fun e B => e = .returned (.bool true) ∧ J (pre ++ [x]) B ∧ Kp A B) →
  J [] W → CallsIn Fence.wide n P g (#[.func (.yield l) #[] #[]] ++ lb) W fun e B => (∃ v, e = .returned v) ∧ ∃ xs, S xs ∧ J xs B
def Qm8 {α : Type} (D : Nat) (Kp : World → World → Prop) (I : List α → World → Prop) (xs : List α) (W : World) : Exit → Act → World → Prop
 | .normal, _, B => Kp W B ∧ I xs B ∧ B.heap[D]? = W.heap[D]? ∧ B.heap[D + 1]? = W.heap[D + 1]?
 | _, _, _ => False
theorem Qeg {α : Type} {P : Program} {n : Nat} {g : Operand} {ps : Array Tmp} {assign body : Code} {Q : Exit → Act → World → Prop} {a : Act} {w : World} (h1 : 1 ≤ n)
  {gf : Nat} {lb : Array Value} (hg : a.eval g = .func (.func gf) #[] lb) (eg : ∀ args w, (callFunc gf args).run P w = .ok (.enter gf args) w)
  {encs : α → Array Value} {Rd : α → World → Prop} {Kp : World → World → Prop} {S : List α → Prop} {N : Nat} {w0 : World} (hseq : Qku (n - 1) P gf lb encs Rd Kp S N w0)
  (hps : ∀ x, (encs x).size = ps.size) (hw0 : Kp w0 w) (hKt : ∀ {A B C : World}, Kp A B → Kp B C → Kp A C) (hKa : ∀ (W : World) (o : Obj), w.heap.size ≤ W.heap.size → Kp W (W.alloc o))
  (hKl : ∀ (W : World) (r r' : Loop), W.heap[w.heap.size + 1]? = some (.loop r) → Kp W (W.putObj (w.heap.size + 1) (.loop r')))
  (I : List α → World → Prop) (hIb : ∀ pre A B, I pre A → Below A.heap.size A B → I pre B) (hIl : ∀ pre (W : World) (r r' : Loop), I pre W → W.heap[w.heap.size + 1]? = some (.loop r) → I pre (W.putObj (w.heap.size + 1) (.loop r')))
  (hRl : ∀ x (W : World) (r r' : Loop), Rd x W → W.heap[w.heap.size + 1]? = some (.loop r) → Rd x (W.putObj (w.heap.size + 1) (.loop r'))) (h0 : I [] w) (a₁ : α → Act)
  (hassign : ∀ (x : α) (W : World) (K : Act → World → Prop), K (a₁ x) W →
   assign.wpIn (Fence.wide.inRound (w.heap.size + 1)) (n - 1 - 1) P (Exit.then K (fun _ _ _ => False)) { tmps := (ps.zip (encs x)).foldl (fun t (p, v) => t.setIfInBounds p v) a.tmps, defers := [] } W)
  (hbody : ∀ (pre : List α) (x : α) (W : World), I pre W → Rd x W → pre.length < N → (∃ r, W.heap[w.heap.size + 1]? = some (.loop r)) → W.heap[w.heap.size]? = some (.deferred (some [])) → body.wpIn (Fence.wide.inRound (w.heap.size + 1)) (n - 1 - 1) P (Qm8 w.heap.size Kp I (pre ++ [x]) W) (a₁ x) W)
  (hdone : ∀ (xs : List α) (W : World), S xs → I xs W → W.heap[w.heap.size]? = some (.deferred (some [])) → Q .normal { a with defers := { target := .collected w.heap.size, args := #[] } :: a.defers } W) :
  (Code.rangeFunc g ps assign body).wpIn Fence.wide n P Q a w := by
 refine wpIn_rangeFunc fun fn hfn => ?_
 -- the record at a state, with a jump that waits
 let rec' (s : LoopState) (j : Option Code) : Loop := { state := s, pending := j, fn, tmps := a.tmps, params := ps, assign, body, defers := w.heap.size }
 obtain ⟨R, hR⟩ : ∃ R : LoopState → Option Code → Loop, R = rec' := ⟨_, rfl⟩
 have hRs : ∀ s j, (R s j).state = s := fun s j => by rw [hR]
 have hRp : ∀ s j, (R s j).params = ps := fun s j => by rw [hR]
 let wd := w.alloc (.deferred (some []))
 let wl := wd.alloc (.loop (R .ready none))
 have zd : wd.heap.size = w.heap.size + 1 := World.size_alloc ..; have lay0 : wl.heap[w.heap.size]? = some (.deferred (some [])) := (Below.heap_alloc wd _ _ (by omega)).trans (World.alloc_heap_new w _)
 have lay1 : wl.heap[w.heap.size + 1]? = some (.loop (R .ready none)) := by
  have := World.alloc_heap_new wd (.loop (R .ready none))
  rwa [zd] at this
 have kw : Kp w0 wl := hKt hw0 (hKt (hKa w _ (Nat.le_refl _)) (hKa wd _ (by omega))); have iw : I [] wl := hIb _ _ _ (hIb _ _ _ h0 ((Below.refl _ w).alloc (Nat.le_refl _) _)) ((Below.refl _ wd).alloc (Nat.le_refl _) _); refine ⟨w.heap.size + 1, [{ target := .collected w.heap.size, args := #[] }], wl, { target := .fn (.func gf) lb, args := #[.func (.yield (w.heap.size + 1)) #[] #[]] }, wl, gf, #[.func (.yield (w.heap.size + 1)) #[] #[]] ++ lb, wl, ?_, ?_, ?_, ?_, fun _ => h1, ?_⟩
 ·
  have := run_enterLoop_outer (P := P) (w := w) fn a.tmps ps assign body; show (Instr.enterLoop fn a.tmps ps assign body none).run P w = _; rw [this]; show Result.ok _ ((w.alloc (.deferred (some []))).alloc _) = Result.ok _ ((w.alloc (.deferred (some []))).alloc (.loop (R .ready none))); rw [hR]
 ·
  simp only [resolve, hg]; simp [go_sem]
 ·
  intro f' _; trivial
 ·
  simp [invoke, go_sem, eg]
 ·
  refine (hseq (w.heap.size + 1) (fun pre W => I pre W ∧ W.heap[w.heap.size + 1]? = some (.loop (R .ready none)) ∧ W.heap[w.heap.size]? = some (.deferred (some []))) wl kw ?_ ?_ ⟨iw, lay1, lay0⟩).mono ?_
  ·
   rintro pre A B ⟨i, l1, l0⟩ hb; exact ⟨hIb _ _ _ i hb, (hb.block _ (Array.getElem?_eq_some_iff.1 l1).1).trans l1, (hb.block _ (Array.getElem?_eq_some_iff.1 l0).1).trans l0⟩
  ·
   rintro pre x A ⟨i, l1, l0⟩ hr hN; have lt := (Array.getElem?_eq_some_iff.1 l1).1; have hy := run_yield (P := P) (args := encs x) l1 (by rw [hRp]; exact hps x); rw [show (R .ready none).fn = fn by rw [hR], show (R .ready none).params = ps by rw [hR], show (R .ready none).tmps = a.tmps by rw [hR], show (R .ready none).assign = assign by rw [hR], show (R .ready none).body = body by rw [hR]] at hy; refine ⟨fn, _, assign, body, hy, roundIn_of_wpIn hfn (hassign x A _ ⟨_, run_beginRound l1 (hRs _ _), ?_⟩)⟩; have b1 : (A.putObj (w.heap.size + 1) (.loop { R .ready none with state := .busy })).heap[w.heap.size + 1]? = some (.loop { R .ready none with state := .busy }) := World.putObj_heap_same lt; have b0 : (A.putObj (w.heap.size + 1) (.loop { R .ready none with state := .busy })).heap[w.heap.size]? = some (.deferred (some [])) := (World.putObj_heap_other (by omega)).trans l0; refine wpIn_mono (hbody pre x _ (hIl _ _ _ _ i l1) (hRl _ _ _ _ hr l1) hN ⟨_, b1⟩ b0) ?_; intro e a3 C hp
   cases e with
   | normal =>
    obtain ⟨kc, ic, c0, c1⟩ := hp; replace c0 := c0.trans b0; replace c1 := c1.trans b1; have ltC := (Array.getElem?_eq_some_iff.1 c1).1; have he := run_endRound (P := P) none c1; have er : (Loop.mk .ready none (R .ready none).fn (R .ready none).tmps (R .ready none).params (R .ready none).assign (R .ready none).body (R .ready none).defers) = R .ready none := by rw [hR]
    refine ⟨_, _, he, rfl, ⟨hIl _ _ _ _ ic c1, ?_, (World.putObj_heap_other (by omega)).trans c0⟩, hKt (hKl A _ _ l1) (hKt kc (hKl C _ _ c1))⟩; refine (World.putObj_heap_same ltC).trans ?_; rw [hR]; rfl
   | _ => exact hp.elim
  ·
   rintro e B ⟨⟨v, rfl⟩, xs, hS, i, l1, l0⟩; have he := run_endLoop (P := P) l1 (by rw [hRs]; simp); rw [show (R .ready none).pending = none by rw [hR]] at he; exact ⟨none, _, he, hdone xs _ hS (hIl _ _ _ _ i l1) ((World.putObj_heap_other (by omega)).trans l0)⟩
end Go
