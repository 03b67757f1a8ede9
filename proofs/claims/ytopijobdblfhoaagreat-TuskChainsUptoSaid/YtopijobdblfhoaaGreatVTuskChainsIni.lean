import Derived.Test.YtopijobdblfhoaaGreatRows
import Derived.JoinedOf
import Derived.KernelRfl
/- Trimmed by a program. By an AI agent. -/
namespace Go.Proofs.YtopijobdblfhoaaGreat.Ini
open Go
theorem Qcz (r : List Char) : ∀ w : List Char, (w.all fun c => c.toNat != 32) = true → wordsSigns (w ++ Char.ofNat 32 :: r) = w :: wordsSigns r
  | [], _ => rfl
  | c :: w, h => by
    simp only [List.all_cons, Bool.and_eq_true] at h; have ih := Qcz r w h.2
    have hc : c ≠ Char.ofNat 32 := by
      intro e; subst e; simp at h
    rw [List.cons_append, wordsSigns]
    · rw [ih]
    · exact hc
def io1 : List Nat := [104, 97, 114, 110, 101, 115, 115]
def io2 : List Nat := [55, 55, 49, 54, 97, 51, 52, 52, 51, 98, 52, 57, 54, 51, 56, 50, 49, 51, 56, 57, 102, 57, 102, 53, 51, 100, 102, 51, 51, 53, 55, 51, 98, 100, 56, 97, 97, 51, 101, 51, 53, 100, 54, 98, 54, 57, 50, 49, 49, 53, 50, 97, 98, 52, 56, 102, 48, 49, 55, 101, 102, 55, 102, 100]
def io3 : List Nat := [99, 117, 116]
def io4 : List Nat := [97, 116, 32, 115, 101, 108, 118, 101, 100, 103, 101, 47, 115, 101, 108, 118, 101, 100, 103, 101, 108, 97, 119, 49, 51, 46, 84, 117, 115, 107, 65, 115, 107, 115, 32, 115, 101, 108, 118, 101, 100, 103, 101, 47, 115, 101, 108, 118, 101, 100, 103, 101, 108, 97, 119, 49, 51, 46, 84, 117, 115, 107, 67, 104, 97, 105, 110, 115, 32, 115, 101, 108, 118, 101, 100, 103, 101, 47, 115, 101, 108, 118, 101, 100, 103, 101, 108, 97, 119, 49, 51, 46, 84, 117, 115, 107, 80, 114, 101, 102, 105, 120, 32, 115, 101, 108, 118, 101, 100, 103, 101, 47, 115, 101, 108, 118, 101, 100, 103, 101, 108, 97, 119, 49, 51, 46, 84, 117, 115, 107, 71, 114, 111, 119, 115]
theorem io : Tryz.prog.initOrder = String.ofList (io1.map Char.ofNat ++ Char.ofNat 32 :: (io2.map Char.ofNat ++ Char.ofNat 32 :: (io3.map Char.ofNat ++ Char.ofNat 32 :: io4.map Char.ofNat))) := by kernel_rfl
theorem ioW : wordsSigns Tryz.prog.initOrder.toList = io1.map Char.ofNat :: io2.map Char.ofNat :: io3.map Char.ofNat :: wordsSigns (io4.map Char.ofNat) := by
  rw [io, String.toList_ofList, Qcz _ _ (by kernel_rfl), Qcz _ _ (by kernel_rfl), Qcz _ _ (by kernel_rfl)]
theorem Qd2 (c : List Char) (r : List (List Char)) : ∀ os : List String, (os.all fun o => !(c == o.toList)) = true → stripLifts os (c :: r) = ([], c :: r)
  | [], _ => rfl
  | o :: os, h => by
    simp only [List.all_cons, Bool.and_eq_true, Bool.not_eq_true'] at h; rw [stripLifts, h.1]
    simpa using Qd2 c r os h.2
theorem Qog (P : Program) (a b c : List Char) (r : List (List Char)) (h : wordsSigns P.initOrder.toList = a :: b :: c :: r) (ha : behindMainWord (a :: b :: c :: r) = c :: r) (h1 : (c == "gc".toList || c == "spec".toList) = false) (h2 : (c == "cut".toList) = true) : P.make = some .cut := by
  unfold Program.make; rw [h, ha]; simp only [h1, h2, Bool.true_or, Bool.false_eq_true, if_false, if_true]
theorem Qmv (P : Program) (a b c : List Char) (r : List (List Char)) (h : wordsSigns P.initOrder.toList = a :: b :: c :: r) (ha : behindMainWord (a :: b :: c :: r) = c :: r) (h1 : (c == "carried".toList) = false) (h3 : (liftWords.all fun o => !(c == o.toList)) = true) : P.liftsFinal = false := by
  unfold Program.liftsFinal Program.headLifts; rw [h, ha, Qd2 c r liftWords h3]; have e : ((c :: r).head? == some "carried".toList) = false := h1; simp only [e, Bool.false_and, Bool.false_or]; split <;> rfl
theorem gen_may (P : Program) (a b c : List Char) (r : List (List Char)) (h : wordsSigns P.initOrder.toList = a :: b :: c :: r) (ha : behindMainWord (a :: b :: c :: r) = c :: r) (h2 : (c == "cut".toList) = true) (h3 : (liftWords.all fun o => !(c == o.toList)) = true) (hl : P.laysLater = false) (hr : P.bearsReflect = false) (hd : P.doorFits [] = true) : P.mayEnter = true := by
  unfold Program.mayEnter; rw [h, ha]; have e : ((c :: r).head? == some "cut".toList) = true := h2; simp only [Qd2 c r liftWords h3, hl, hr, hd, e, Bool.not_false, Bool.or_true, Bool.and_true, List.contains_nil]
theorem lay : Tryz.prog.laysLater = false := by kernel_rfl
theorem refl : Tryz.prog.bearsReflect = false := by kernel_rfl
theorem door : Tryz.prog.doorFits [] = true := by kernel_rfl
theorem ha : behindMainWord (io1.map Char.ofNat :: io2.map Char.ofNat :: io3.map Char.ofNat :: wordsSigns (io4.map Char.ofNat)) = io3.map Char.ofNat :: wordsSigns (io4.map Char.ofNat) := by kernel_rfl
theorem may : Tryz.prog.mayEnter = true := gen_may Tryz.prog _ _ _ _ ioW ha (by kernel_rfl) (by kernel_rfl) lay refl door
theorem lifts : Tryz.prog.liftsFinal = false := Qmv Tryz.prog _ _ _ _ ioW ha (by kernel_rfl) (by kernel_rfl)
theorem make : Tryz.prog.make = some .cut := Qog Tryz.prog _ _ _ _ ioW ha (by kernel_rfl) (by kernel_rfl)
end Go.Proofs.YtopijobdblfhoaaGreat.Ini
