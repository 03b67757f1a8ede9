import Derived.Test.YtiknkkkfkifahaaRows
import Derived.JoinedOf
import Derived.KernelRfl
/-
  The row's closed facts that read the program's head line, shown from its first three words: left to the kernel whole, they take 9 GB where the line names twenty laws. By an AI agent.
-/
namespace Go.Proofs.Ytiknkkkfkifahaa.Ini
open Go
theorem words_peel (r : List Char) : ∀ w : List Char, (w.all fun c => c.toNat != 32) = true → wordsSigns (w ++ Char.ofNat 32 :: r) = w :: wordsSigns r
  | [], _ => rfl
  | c :: w, h => by
    simp only [List.all_cons, Bool.and_eq_true] at h
    have ih := words_peel r w h.2
    have hc : c ≠ Char.ofNat 32 := by
      intro e
      subst e
      simp at h
    rw [List.cons_append, wordsSigns]
    · rw [ih]
    · exact hc
def io1 : List Nat := [104, 97, 114, 110, 101, 115, 115]
def io2 : List Nat := [52, 97, 57, 57, 48, 56, 99, 98, 101, 102, 53, 49, 99, 49, 49, 102, 57, 102, 50, 50, 49, 56, 98, 50, 52, 55, 98, 56, 99, 99, 49, 101, 49, 57, 99, 99, 48, 49, 50, 55, 99, 49, 53, 50, 56, 50, 100, 56, 56, 53, 49, 98, 99, 57, 98, 54, 97, 52, 57, 49, 50, 55, 52, 53]
def io3 : List Nat := [99, 117, 116]
def io4 : List Nat := [97, 116, 32, 115, 101, 108, 118, 101, 100, 103, 101, 47, 115, 101, 108, 118, 101, 100, 103, 101, 108, 97, 119, 49, 53, 46, 67, 117, 116, 70, 101, 101, 100, 115, 32, 115, 101, 108, 118, 101, 100, 103, 101, 47, 115, 101, 108, 118, 101, 100, 103, 101, 108, 97, 119, 49, 53, 46, 67, 117, 116, 65, 108, 108, 32, 115, 101, 108, 118, 101, 100, 103, 101, 47, 115, 101, 108, 118, 101, 100, 103, 101, 108, 97, 119, 49, 53, 46, 67, 117, 116, 70, 117, 108, 108, 32, 115, 101, 108, 118, 101, 100, 103, 101, 47, 115, 101, 108, 118, 101, 100, 103, 101, 108, 97, 119, 49, 53, 46, 67, 117, 116, 80, 114, 101, 102, 105, 120, 32, 115, 101, 108, 118, 101, 100, 103, 101, 47, 115, 101, 108, 118, 101, 100, 103, 101, 108, 97, 119, 49, 53, 46, 67, 117, 116, 84, 119, 111, 32, 115, 101, 108, 118, 101, 100, 103, 101, 47, 115, 101, 108, 118, 101, 100, 103, 101, 108, 97, 119, 49, 53, 46, 67, 117, 116, 67, 104, 97, 105, 110, 115, 32, 115, 101, 108, 118, 101, 100, 103, 101, 47, 115, 101, 108, 118, 101, 100, 103, 101, 108, 97, 119, 49, 53, 46, 67, 117, 116, 70, 111, 114, 103, 101, 100, 32, 115, 101, 108, 118, 101, 100, 103, 101, 47, 115, 101, 108, 118, 101, 100, 103, 101, 108, 97, 119, 49, 55, 46, 80, 97, 112, 101, 114, 82, 101, 97, 100, 115, 32, 115, 101, 108, 118, 101, 100, 103, 101, 47, 115, 101, 108, 118, 101, 100, 103, 101, 108, 97, 119, 49, 55, 46, 80, 97, 112, 101, 114, 84, 111, 114, 110, 32, 115, 101, 108, 118, 101, 100, 103, 101, 47, 115, 101, 108, 118, 101, 100, 103, 101, 108, 97, 119, 49, 55, 46, 80, 97, 112, 101, 114, 79, 102, 102, 32, 115, 101, 108, 118, 101, 100, 103, 101, 47, 115, 101, 108, 118, 101, 100, 103, 101, 108, 97, 119, 49, 55, 46, 80, 97, 112, 101, 114, 65, 103, 97, 105, 110, 32, 115, 101, 108, 118, 101, 100, 103, 101, 47, 115, 101, 108, 118, 101, 100, 103, 101, 108, 97, 119, 49, 55, 46, 80, 97, 112, 101, 114, 65, 99, 116, 115, 32, 115, 101, 108, 118, 101, 100, 103, 101, 47, 115, 101, 108, 118, 101, 100, 103, 101, 108, 97, 119, 49, 55, 46, 80, 97, 112, 101, 114, 76, 97, 115, 116, 115]
theorem io : Try.prog.initOrder = String.ofList (io1.map Char.ofNat ++ Char.ofNat 32 :: (io2.map Char.ofNat ++ Char.ofNat 32 :: (io3.map Char.ofNat ++ Char.ofNat 32 :: io4.map Char.ofNat))) := by kernel_rfl
theorem ioW : wordsSigns Try.prog.initOrder.toList = io1.map Char.ofNat :: io2.map Char.ofNat :: io3.map Char.ofNat :: wordsSigns (io4.map Char.ofNat) := by
  rw [io, String.toList_ofList, words_peel _ _ (by kernel_rfl), words_peel _ _ (by kernel_rfl), words_peel _ _ (by kernel_rfl)]
theorem strip_none (c : List Char) (r : List (List Char)) : ∀ os : List String, (os.all fun o => !(c == o.toList)) = true → stripLifts os (c :: r) = ([], c :: r)
  | [], _ => rfl
  | o :: os, h => by
    simp only [List.all_cons, Bool.and_eq_true, Bool.not_eq_true'] at h
    rw [stripLifts, h.1]
    simpa using strip_none c r os h.2
theorem gen_make (P : Program) (a b c : List Char) (r : List (List Char)) (h : wordsSigns P.initOrder.toList = a :: b :: c :: r) (ha : behindMainWord (a :: b :: c :: r) = c :: r) (h1 : (c == "gc".toList || c == "spec".toList) = false) (h2 : (c == "cut".toList) = true) : P.make = some .cut := by
  unfold Program.make
  rw [h, ha]
  simp only [h1, h2, Bool.true_or, Bool.false_eq_true, if_false, if_true]
theorem gen_lifts (P : Program) (a b c : List Char) (r : List (List Char)) (h : wordsSigns P.initOrder.toList = a :: b :: c :: r) (ha : behindMainWord (a :: b :: c :: r) = c :: r) (h1 : (c == "carried".toList) = false) (h3 : (liftWords.all fun o => !(c == o.toList)) = true) : P.liftsFinal = false := by
  unfold Program.liftsFinal Program.headLifts
  rw [h, ha, strip_none c r liftWords h3]
  have e : ((c :: r).head? == some "carried".toList) = false := h1
  simp only [e, Bool.false_and, Bool.false_or]
  split <;> rfl
theorem gen_may (P : Program) (a b c : List Char) (r : List (List Char)) (h : wordsSigns P.initOrder.toList = a :: b :: c :: r) (ha : behindMainWord (a :: b :: c :: r) = c :: r) (h2 : (c == "cut".toList) = true) (h3 : (liftWords.all fun o => !(c == o.toList)) = true) (hl : P.laysLater = false) (hr : P.bearsReflect = false) (hd : P.doorFits [] = true) : P.mayEnter = true := by
  unfold Program.mayEnter
  rw [h, ha]
  have e : ((c :: r).head? == some "cut".toList) = true := h2
  simp only [strip_none c r liftWords h3, hl, hr, hd, e, Bool.not_false, Bool.or_true, Bool.and_true, List.contains_nil]
theorem lay : Try.prog.laysLater = false := by kernel_rfl
theorem refl : Try.prog.bearsReflect = false := by kernel_rfl
theorem door : Try.prog.doorFits [] = true := by kernel_rfl
theorem ha : behindMainWord (io1.map Char.ofNat :: io2.map Char.ofNat :: io3.map Char.ofNat :: wordsSigns (io4.map Char.ofNat)) = io3.map Char.ofNat :: wordsSigns (io4.map Char.ofNat) := by kernel_rfl
theorem may : Try.prog.mayEnter = true := gen_may Try.prog _ _ _ _ ioW ha (by kernel_rfl) (by kernel_rfl) lay refl door
theorem lifts : Try.prog.liftsFinal = false := gen_lifts Try.prog _ _ _ _ ioW ha (by kernel_rfl) (by kernel_rfl)
theorem make : Try.prog.make = some .cut := gen_make Try.prog _ _ _ _ ioW ha (by kernel_rfl) (by kernel_rfl)
end Go.Proofs.Ytiknkkkfkifahaa.Ini
