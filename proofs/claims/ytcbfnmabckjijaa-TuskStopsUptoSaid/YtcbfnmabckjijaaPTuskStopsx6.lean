-- written by a program of this session (pp.py), out of the kit's print and this session's contracts
import Derived.Test.YtcbfnmabckjijaaPTuskStopsx0
import Derived.Test.YtcbfnmabckjijaaPTuskStopsx3
import Derived.Test.YtcbfnmabckjijaaPTuskStopsx4
import Derived.Test.YtcbfnmabckjijaaPTuskStopsx5
import Derived.Test.YtcbfnmabckjijaaVTuskStopsPh
namespace Go.Proofs.Ytcbfnmabckjijaa.PTuskStops
open Go.RowKit Go.Proofs.YtcbfnmabckjijaaW.PrintWords Go.Proofs.YtcbfnmabckjijaaW.PrintLast Go.Proofs.YtcbfnmabckjijaaW.PrintMore
set_option linter.unusedVariables false
set_option linter.unusedSimpArgs false

mutual
def F1.l0 : Nat → Int → Int → Int → Int → List (S37) → Option ((List (S37)) × Int)
 | 0, _, _, _, _, _ => none
 | k + 1, x1, x6, x206000, x206001, x206002 => if x6 ≤ x1 then (F1.j1 k x1 x6 true x206000 x206001 x206002) else (F1.j1 k x1 x6 (decide (x6 < 1)) x206000 x206001 x206002)
def F1.j1 : Nat → Int → Int → Bool → Int → Int → List (S37) → Option ((List (S37)) × Int)
 | 0, _, _, _, _, _, _ => none
 | k + 1, x1, x6, x21, x206000, x206001, x206002 => if x21 = true then (some (([] : List (S37)), x1)) else ((Fn.f k x206000 x206001 x206002 x6).bind fun bt207 => (if bt207.2.2.2.2.2.2.2 = 0 then (F1.l1 k x1 x6 (([(⟨bt207.1, (⟨bt207.2.1, bt207.2.2.1, bt207.2.2.2.1, bt207.2.2.2.2.1, (⟨bt207.2.2.2.2.2.1, bt207.2.2.2.2.2.2.1⟩ : S33)⟩ : S35)⟩ : S37)] : List (S37))) (wrap64 (x6 - 1)) x206000 x206001 x206002 bt207.1 bt207.2.1 bt207.2.2.1 bt207.2.2.2.1 bt207.2.2.2.2.1 bt207.2.2.2.2.2.1 bt207.2.2.2.2.2.2.1) else (F1.l0 k x1 (wrap64 (x6 - 1)) x206000 x206001 x206002)))
def F1.l1 : Nat → Int → Int → List (S37) → Int → Int → Int → List (S37) → ByteArray → Int → Int → List (S129) → List ByteArray → Int → Int → Option ((List (S37)) × Int)
 | 0, _, _, _, _, _, _, _, _, _, _, _, _, _, _ => none
 | k + 1, x1, x6, x9, x10, x206000, x206001, x206002, x220000, x220001, x220002, x220003, x220004, x220005, x220006 => if x10 > x1 then (F1.j3 k x1 x6 x9 x10 (decide (x10 ≥ 1)) x206000 x206001 x206002 x220000 x220001 x220002 x220003 x220004 x220005 x220006) else (F1.j3 k x1 x6 x9 x10 false x206000 x206001 x206002 x220000 x220001 x220002 x220003 x220004 x220005 x220006)
def F1.j3 : Nat → Int → Int → List (S37) → Int → Bool → Int → Int → List (S37) → ByteArray → Int → Int → List (S129) → List ByteArray → Int → Int → Option ((List (S37)) × Int)
 | 0, _, _, _, _, _, _, _, _, _, _, _, _, _, _, _ => none
 | k + 1, x1, x6, x9, x10, x43, x206000, x206001, x206002, x220000, x220001, x220002, x220003, x220004, x220005, x220006 => if x43 = true then ((G3.f k x206000 x206001 x206002 x10).bind fun bt223 => (if bt223.2.2.2.2.2.2.2 = 0 then ((G8.f x206000 x206001 x206002 x220000 bt223.1).bind fun t236 => (if t236 = true then ((some (([(⟨bt223.1, (⟨bt223.2.1, bt223.2.2.1, bt223.2.2.2.1, bt223.2.2.2.2.1, (⟨bt223.2.2.2.2.2.1, bt223.2.2.2.2.2.2.1⟩ : S33)⟩ : S35)⟩ : S37)] : List (S37)) : List (S37))).bind fun y237 => (if y237.length + x9.length < 1466015503701 then (F1.l1 k x1 x6 (y237 ++ x9) (wrap64 (x10 - 1)) x206000 x206001 x206002 bt223.1 bt223.2.1 bt223.2.2.1 bt223.2.2.2.1 bt223.2.2.2.2.1 bt223.2.2.2.2.2.1 bt223.2.2.2.2.2.2.1) else (none))) else (F1.l1 k x1 x6 x9 (wrap64 (x10 - 1)) x206000 x206001 x206002 x220000 x220001 x220002 x220003 x220004 x220005 x220006))) else (F1.l1 k x1 x6 x9 (wrap64 (x10 - 1)) x206000 x206001 x206002 x220000 x220001 x220002 x220003 x220004 x220005 x220006))) else (some (x9, x6))
end
def F1.f (k : Nat) (a0_0 : Int) (a0_1 : Int) (l0_2 : List (S37)) (a1 : Int) : Option ((List (S37)) × Int) := (Fa.f k a0_0 a0_1 l0_2).bind fun t206 => (F1.l0 k a1 t206 a0_0 a0_1 l0_2)
def F1.T14 : Bool × List (List Nat × List Nat) := (true, [([], []), ([0], [0]), ([], []), ([], []), ([3], [3]), ([], []), ([5], [5]), ([2, 4, 6], [2, 4, 6]), ([1, 7], [1, 7]), ([8, 8, 0, 1, 2, 3, 4, 5, 6, 7, 8], [2, 3, 5, 8])])
def F1.B14 : List Nat := [0, 1, 0, 0, 8, 0, 32, 124, 255, 511]
theorem F1.tab14 : rtab .any (opsOf Try.f13 14) = F1.T14 := by kernel_rfl
theorem F1.bits14 : waitsOk F1.T14.2 F1.B14 = true := by kernel_rfl
def F1.J (k : Nat) (a0_0 : Int) (a0_1 : Int) (P0_2_ : Nat → Prop) (A0_2 : Option Addr) (c0_2 : Nat) (l0_2 : List (S37)) (a1 : Int) (r1 : List (S37)) (r2 : Int) (w : World) (kq : Nat) (a' : Act) (w' : World) : Prop := ∃ (gb205 : Nat) (x6_1 : Int) (f : Nat → Value), a' = { tmps := List.toArray (.agg #[.int .i64 a0_0, .int .i64 a0_1, .slice A0_2 l0_2.length c0_2] :: .int .i64 a1 :: .pointer (some ⟨gb205, 0, none⟩) :: f 3 :: f 4 :: f 5 :: .int .i64 x6_1 :: f 7 :: f 8 :: f 9 :: f 10 :: f 11 :: f 12 :: f 13 :: f 14 :: f 15 :: f 16 :: f 17 :: f 18 :: f 19 :: f 20 :: f 21 :: f 22 :: f 23 :: f 24 :: f 25 :: f 26 :: f 27 :: f 28 :: f 29 :: f 30 :: f 31 :: f 32 :: f 33 :: f 34 :: f 35 :: f 36 :: f 37 :: f 38 :: f 39 :: f 40 :: f 41 :: f 42 :: f 43 :: f 44 :: f 45 :: f 46 :: f 47 :: f 48 :: f 49 :: f 50 :: f 51 :: f 52 :: f 53 :: f 54 :: f 55 :: f 56 :: f 57 :: f 58 :: f 59 :: f 60 :: f 61 :: f 62 :: f 63 :: f 64 :: f 65 :: f 66 :: f 67 :: f 68 :: f 69 :: f 70 :: f 71 :: f 72 :: f 73 :: f 74 :: []), defers := [] } ∧ Asc (w.heap.size ≤ gb205) ∧ Asc (F1.l0 kq a1 x6_1 a0_0 a0_1 l0_2 = some (r1, r2)) ∧ Asc (kq ≤ k) ∧ Asc (Kd.V k37 37 w' w.heap.size (fun k_ => (P0_2_ k_ ∨ w.heap.size ≤ k_) ∧ k_ ≠ gb205) (.slice A0_2 l0_2.length c0_2) l0_2) ∧ Asc (w'.heap[gb205]? = some (.cells #[.int .i64 a0_0, .int .i64 a0_1, (.slice A0_2 l0_2.length c0_2)] 24 (0, 0))) ∧ Asc (Below w.heap.size w w')
theorem F1.J_mk {k : Nat} {a0_0 : Int} {a0_1 : Int} {P0_2_ : Nat → Prop} {A0_2 : Option Addr} {c0_2 : Nat} {l0_2 : List (S37)} {a1 : Int} {r1 : List (S37)} {r2 : Int} {w : World} {kq : Nat} {a' : Act} {w' : World} (gb205 : Nat) (x6_1 : Int) (h : a' = { tmps := List.toArray (.agg #[.int .i64 a0_0, .int .i64 a0_1, .slice A0_2 l0_2.length c0_2] :: .int .i64 a1 :: .pointer (some ⟨gb205, 0, none⟩) :: a'.tmps.getD 3 undef :: a'.tmps.getD 4 undef :: a'.tmps.getD 5 undef :: .int .i64 x6_1 :: a'.tmps.getD 7 undef :: a'.tmps.getD 8 undef :: a'.tmps.getD 9 undef :: a'.tmps.getD 10 undef :: a'.tmps.getD 11 undef :: a'.tmps.getD 12 undef :: a'.tmps.getD 13 undef :: a'.tmps.getD 14 undef :: a'.tmps.getD 15 undef :: a'.tmps.getD 16 undef :: a'.tmps.getD 17 undef :: a'.tmps.getD 18 undef :: a'.tmps.getD 19 undef :: a'.tmps.getD 20 undef :: a'.tmps.getD 21 undef :: a'.tmps.getD 22 undef :: a'.tmps.getD 23 undef :: a'.tmps.getD 24 undef :: a'.tmps.getD 25 undef :: a'.tmps.getD 26 undef :: a'.tmps.getD 27 undef :: a'.tmps.getD 28 undef :: a'.tmps.getD 29 undef :: a'.tmps.getD 30 undef :: a'.tmps.getD 31 undef :: a'.tmps.getD 32 undef :: a'.tmps.getD 33 undef :: a'.tmps.getD 34 undef :: a'.tmps.getD 35 undef :: a'.tmps.getD 36 undef :: a'.tmps.getD 37 undef :: a'.tmps.getD 38 undef :: a'.tmps.getD 39 undef :: a'.tmps.getD 40 undef :: a'.tmps.getD 41 undef :: a'.tmps.getD 42 undef :: a'.tmps.getD 43 undef :: a'.tmps.getD 44 undef :: a'.tmps.getD 45 undef :: a'.tmps.getD 46 undef :: a'.tmps.getD 47 undef :: a'.tmps.getD 48 undef :: a'.tmps.getD 49 undef :: a'.tmps.getD 50 undef :: a'.tmps.getD 51 undef :: a'.tmps.getD 52 undef :: a'.tmps.getD 53 undef :: a'.tmps.getD 54 undef :: a'.tmps.getD 55 undef :: a'.tmps.getD 56 undef :: a'.tmps.getD 57 undef :: a'.tmps.getD 58 undef :: a'.tmps.getD 59 undef :: a'.tmps.getD 60 undef :: a'.tmps.getD 61 undef :: a'.tmps.getD 62 undef :: a'.tmps.getD 63 undef :: a'.tmps.getD 64 undef :: a'.tmps.getD 65 undef :: a'.tmps.getD 66 undef :: a'.tmps.getD 67 undef :: a'.tmps.getD 68 undef :: a'.tmps.getD 69 undef :: a'.tmps.getD 70 undef :: a'.tmps.getD 71 undef :: a'.tmps.getD 72 undef :: a'.tmps.getD 73 undef :: a'.tmps.getD 74 undef :: []), defers := [] }) (h1 : Asc (w.heap.size ≤ gb205)) (h2 : Asc (F1.l0 kq a1 x6_1 a0_0 a0_1 l0_2 = some (r1, r2)) ∧ Asc (kq ≤ k) ∧ Asc (Kd.V k37 37 w' w.heap.size (fun k_ => (P0_2_ k_ ∨ w.heap.size ≤ k_) ∧ k_ ≠ gb205) (.slice A0_2 l0_2.length c0_2) l0_2) ∧ Asc (w'.heap[gb205]? = some (.cells #[.int .i64 a0_0, .int .i64 a0_1, (.slice A0_2 l0_2.length c0_2)] 24 (0, 0))) ∧ Asc (Below w.heap.size w w')) : F1.J k a0_0 a0_1 P0_2_ A0_2 c0_2 l0_2 a1 r1 r2 w kq a' w' := ⟨gb205, x6_1, fun i => a'.tmps.getD i undef, h, h1, h2⟩
set_option maxHeartbeats 8000000 in
set_option maxRecDepth 100000 in
theorem F1.calls (k : Nat) (a0_0 : Int) (a0_1 : Int) (P0_2_ : Nat → Prop) (A0_2 : Option Addr) (c0_2 : Nat) (l0_2 : List (S37)) (a1 : Int) (r1 : List (S37)) (r2 : Int) (w : World) (hs0_2 : Kd.V k37 37 w w.heap.size (fun k_ => P0_2_ k_) (.slice A0_2 l0_2.length c0_2) l0_2) (h : F1.f k a0_0 a0_1 l0_2 a1 = some (r1, r2)) :
  Calls Try.prog 13 #[.agg #[.int .i64 a0_0, .int .i64 a0_1, .slice A0_2 l0_2.length c0_2], .int .i64 a1] w fun e w' => ∃ v0_ : Value, e = .returned (.tuple #[v0_, .int .i64 r2]) ∧ Kd.N k37 37 w' w.heap.size (fun k_ => (P0_2_ k_ ∨ w.heap.size ≤ k_)) v0_ r1 ∧ Below w.heap.size w w' := by
 have hu24 := Try.underlying24
 have hu37 := Try.underlying37
 have HO0_2 := am_ (show Kd.V k37 37 w w.heap.size (fun k_ => (P0_2_ k_ ∨ w.heap.size ≤ k_)) (.slice A0_2 l0_2.length c0_2) l0_2 from Kd.V_mono hs0_2 (fun k_ hk => .inl hk))
 have HB := am_ (Below.refl w.heap.size w)
 have H : ((Fa.f k a0_0 a0_1 l0_2).bind fun t206 => (F1.l0 k a1 t206 a0_0 a0_1 l0_2)) = some (r1, r2) := h
 clear h
 replace H := Option.bind_eq_some_iff.mp H
 obtain ⟨t206, A30, H⟩ := H
 replace H : (F1.l0 k a1 t206 a0_0 a0_1 l0_2) = some (r1, r2) := H
 have A3 := am_ A30
 clear A30
 have H' := am_ H
 clear H
 go_enter Try.func13, Try.ntmps13
 go_wp2_with (first | ((with_reducible refine gd_ 2 ?_); refine be_ 2 #[.int .i64 a0_0, .int .i64 a0_1, .slice A0_2 l0_2.length c0_2] 24 ?_; intro gb205 hg w4 hbox hb; replace HO0_2 := tVe HO0_2 hg hb; have BK205 := am_ hbox; have GW205 := tG HB hg; have GE205 := tG HB hg; replace HB := tHb HB hb; clear hb hbox hg; obtain ⟨z5_0, z5_1, z5_2, y5_0, y5_1, y5_2⟩ := bx3 BK205) | ((with_reducible refine gate_callee (f := 14) rfl ?_); refine gl_ (some 14) Try.func14 #[.agg #[.int .i64 a0_0, .int .i64 a0_1, .slice A0_2 l0_2.length c0_2]] ?_; (with_reducible refine (Fa.calls k a0_0 a0_1 _ _ l0_2 t206 _ ?side1 ?side2 A3.out).mono ?_); (case side1 => repeat (first | exact (Kd.V_reads' HO0_2.out).2.2 | (with_reducible refine Kd.C_alloc ?_ _) | (with_reducible refine Kd.C_drewN ?_ _) | (with_reducible refine Kd.C_drew ?_))); (case side2 => exact (Kd.V_reads' HO0_2.out).2.1); rintro e w6 ⟨rfl, hb⟩; refine ⟨_, rfl, ?_⟩; replace HO0_2 := tVb HO0_2 hb; replace BK205 := tBb BK205 hb; replace HB := tHb HB hb; (try clear hb)))
 refine wp_label_ghost 0 (F1.J k a0_0 a0_1 P0_2_ A0_2 c0_2 l0_2 a1 r1 r2 w) rfl ?pass ?first
 case first =>
  intro hrest_
  go_wp2_with (first | ((with_reducible refine gd_ 2 ?_); refine be_ 2 #[.int .i64 a0_0, .int .i64 a0_1, .slice A0_2 l0_2.length c0_2] 24 ?_; intro gb205 hg w4 hbox hb; replace HO0_2 := tVe HO0_2 hg hb; have BK205 := am_ hbox; have GW205 := tG HB hg; have GE205 := tG HB hg; replace HB := tHb HB hb; clear hb hbox hg; obtain ⟨z5_0, z5_1, z5_2, y5_0, y5_1, y5_2⟩ := bx3 BK205) | ((with_reducible refine gate_callee (f := 14) rfl ?_); refine gl_ (some 14) Try.func14 #[.agg #[.int .i64 a0_0, .int .i64 a0_1, .slice A0_2 l0_2.length c0_2]] ?_; (with_reducible refine (Fa.calls k a0_0 a0_1 _ _ l0_2 t206 _ ?side1 ?side2 A3.out).mono ?_); (case side1 => repeat (first | exact (Kd.V_reads' HO0_2.out).2.2 | (with_reducible refine Kd.C_alloc ?_ _) | (with_reducible refine Kd.C_drewN ?_ _) | (with_reducible refine Kd.C_drew ?_))); (case side2 => exact (Kd.V_reads' HO0_2.out).2.1); rintro e w6 ⟨rfl, hb⟩; refine ⟨_, rfl, ?_⟩; replace HO0_2 := tVb HO0_2 hb; replace BK205 := tBb BK205 hb; replace HB := tHb HB hb; (try clear hb)))
  try go_step3
  try simp only [Exit.then]
  refine (by assumption : ∀ (a : Act) (w : World), Code.wp Try.prog _ _ a w → _) _ _ (hrest_ _ _ k (F1.J_mk gb205 (t206) rfl GE205 ⟨H', ⟨Nat.le_refl _⟩, ⟨hV HO0_2⟩, ⟨gB BK205⟩, ⟨bh HB⟩⟩))
 case pass =>
  clear H' BK205 GW205 GE205 z5_0 z5_1 z5_2 y5_0 y5_1 y5_2 HO0_2 HB
  rintro gk a_ wr ⟨gb205, x6_1, f, rfl, GE205, HA, HK1, HO_206002, BK205, HB⟩
  cases gk with
  | zero => exact absurd HA.out (by simp [F1.l0])
  | succ k1 =>
   have H := HA.out
   clear HA
   simp only [F1.l0] at H
   have HC7 := am_ H
   clear H
   go_upto_region 2 with (fail)
   go_cut [21] (fun v21 wc => ∃ (kq : Nat) (x21_6 : Bool), v21 = .bool x21_6 ∧ Asc (F1.j1 kq a1 x6_1 x21_6 a0_0 a0_1 l0_2 = some (r1, r2)) ∧ Asc (kq ≤ k1) ∧ Asc (Kd.V k37 37 wc w.heap.size (fun k_ => (P0_2_ k_ ∨ w.heap.size ≤ k_) ∧ k_ ≠ gb205) (.slice A0_2 l0_2.length c0_2) l0_2) ∧ Asc (wc.heap[gb205]? = some (.cells #[.int .i64 a0_0, .int .i64 a0_1, (.slice A0_2 l0_2.length c0_2)] 24 (0, 0))) ∧ Asc (Below w.heap.size w wc))
   case first =>
    have H := HC7.out
    clear HC7
    by_cases c8 : x6_1 ≤ a1
    ·
     rw [if_pos c8] at H
     have c8b0 : decide (x6_1 ≤ a1) = true := decide_eq_true c8
     clear c8
     (first | rw [c8b0] | (simp only [i64_w, i32_w]; rw [c8b0]) | skip)
     have H' := am_ H
     clear H
     go_wp2
     go_meet
     case rel => exact ⟨_, (true), fr, H', ⟨by have := HK1.out; first | omega | exact Nat.le_refl _⟩, ⟨hV HO_206002⟩, ⟨gB BK205⟩, ⟨bh HB⟩⟩
    rw [if_neg c8] at H
    have c8b0 : decide (x6_1 ≤ a1) = false := decide_eq_false c8
    clear c8
    (first | rw [c8b0] | (simp only [i64_w, i32_w]; rw [c8b0]) | skip)
    have H' := am_ H
    clear H
    go_wp2
    go_meet
    case rel => exact ⟨_, (decide (x6_1 < 1)), fr, H', ⟨by have := HK1.out; first | omega | exact Nat.le_refl _⟩, ⟨hV HO_206002⟩, ⟨gB BK205⟩, ⟨bh HB⟩⟩
   case rest =>
    clear HC7
    obtain ⟨kq, x21_6, rfl, HA, HJ6, HO_206002, BK205, HB⟩ := hcut
    cases kq with
    | zero => exact absurd HA.out (by simp [F1.j1])
    | succ kj6 =>
     have H := HA.out
     clear HA
     simp only [F1.j1] at H
     by_cases c9 : x21_6 = true
     ·
      subst c9
      rw [if_pos rfl] at H
      simp only [Option.some.injEq, Prod.mk.injEq] at H
      obtain ⟨rfl, rfl⟩ := H
      go_wp2
      simp only [Exit.jump]
      go_ret2
      exact ⟨_, fe, kn, bh HB⟩
     replace c9 := Bool.eq_false_iff.mpr c9
     subst c9
     rw [if_neg (show ¬ (false = true) by decide)] at H
     replace H := Option.bind_eq_some_iff.mp H
     obtain ⟨⟨t207, t208, t209, t210, t213, t216, t217, t218⟩, A100, H⟩ := H
     replace H : (if t218 = 0 then (F1.l1 kj6 a1 x6_1 (([(⟨t207, (⟨t208, t209, t210, t213, (⟨t216, t217⟩ : S33)⟩ : S35)⟩ : S37)] : List (S37))) (wrap64 (x6_1 - 1)) a0_0 a0_1 l0_2 t207 t208 t209 t210 t213 t216 t217) else (F1.l0 kj6 a1 (wrap64 (x6_1 - 1)) a0_0 a0_1 l0_2)) = some (r1, r2) := H
     have A10 := am_ A100
     clear A100
     by_cases c11 : t218 = 0
     ·
      rw [if_pos c11] at H
      have c11b0 : (t218 == 0) = true := beq_iff_eq.mpr c11
      have c11b1 : (t218 != 0) = false := bne_eq_false_iff_eq.mpr c11
      clear c11
      obtain ⟨y220, hy220⟩ : ∃ y_ : List (S37), y_ = (([(⟨t207, (⟨t208, t209, t210, t213, (⟨t216, t217⟩ : S33)⟩ : S35)⟩ : S37)] : List (S37))) := ⟨_, rfl⟩
      replace H : (F1.l1 kj6 a1 x6_1 y220 (wrap64 (x6_1 - 1)) a0_0 a0_1 l0_2 t207 t208 t209 t210 t213 t216 t217) = some (r1, r2) := by first | (rw [hy220]; with_reducible exact H) | (have H := (Option.bind_some _ _).symm.trans H; first | (rw [hy220]; with_reducible exact H) | with_reducible exact H) | with_reducible exact H | (rw [hy220]; exact H) | exact H
      have Ny220 := am_ hy220
      clear hy220
      have H' := am_ H
      clear H
      obtain ⟨z12_0, z12_1, z12_2, y12_0, y12_1, y12_2⟩ := bx3 BK205
      go_wp2_with (first | ((with_reducible refine gate_callee (f := 15) rfl ?_); refine gl_ (some 26) Try.func15 #[.agg #[.int .i64 a0_0, .int .i64 a0_1, .slice A0_2 l0_2.length c0_2], .int .i64 x6_1] ?_; (with_reducible refine (Fn.calls kj6 a0_0 a0_1 (fun k_ => ((P0_2_ k_ ∨ w.heap.size ≤ k_) ∧ k_ ≠ gb205)) _ _ l0_2 x6_1 t207 t208 t209 t210 t213 t216 t217 t218 _ ?side1 A10.out).mono ?_); (case side1 => exact HO_206002.out); rintro e w13 ⟨v211, v214, rfl, ho0, ho1, hb⟩; refine ⟨_, rfl, ?_⟩; replace HO_206002 := tVb HO_206002 hb; have HO212 := am_ (Kd.V_lower (Kd.V_mono (ok' := fun k_ => (P0_2_ k_ ∨ w.heap.size ≤ k_) ∧ k_ ≠ gb205) ho0 (fun k_ hk_ => ⟨Or.elim hk_ (fun hs_ => hs_.1) (fun hn_ => (.inr (Nat.le_trans (below_size (bh HB)) hn_))), Or.elim hk_ (fun hs_ => hs_.2) (fun hn_ => (gFr BK205 k_ hn_))⟩)) (below_size (bh HB))); have HO215 := am_ (Kd.V_lower (Kd.V_mono (ok' := fun k_ => (P0_2_ k_ ∨ w.heap.size ≤ k_) ∧ k_ ≠ gb205) ho1 (fun k_ hk_ => ⟨Or.elim hk_ (fun hs_ => hs_.1) (fun hn_ => (.inr (Nat.le_trans (below_size (bh HB)) hn_))), Or.elim hk_ (fun hs_ => hs_.2) (fun hn_ => (gFr BK205 k_ hn_))⟩)) (below_size (bh HB))); replace BK205 := tBb BK205 hb; replace HB := tHb HB hb; (try clear hb); (try clear ho0); (try clear ho1)) | ((with_reducible refine gd_ 7 ?_); refine be_ 7 #[.string (⟨#[]⟩ : ByteArray), .int .i64 0, .int .i64 0, .slice none 0 0, .slice none 0 0, .int .i64 0, .int .i64 0] 37 ?_; intro gb219 hg w14 hbox hb; replace HO_206002 := tVe HO_206002 hg hb; replace HO212 := tVe HO212 hg hb; replace HO215 := tVe HO215 hg hb; have BK219 := am_ hbox; have GW219 := tG HB hg; have GE219 := tG HB hg; replace HB := tHb HB hb; have NB205_219 := tL BK205 hg; have NB219_205 := tR BK205 hg; replace BK205 := tBb BK205 hb; clear hb hbox hg; have hnb15 := NB219_205.out; have hnc15 := NB205_219.out; obtain ⟨z16_0, z16_1, z16_2, z16_3, z16_4, z16_5, z16_6, y16_0, y16_1, y16_2, y16_3, y16_4, y16_5, y16_6⟩ := bx7 BK219; obtain ⟨Ao17, co17, eo17⟩ := Kd.V_slice HO212.out; subst eo17; obtain ⟨Ao18, co18, eo18⟩ := Kd.V_slice HO215.out; subst eo18) | ((with_reducible refine gate_store (t := 37) (p := 7) rfl ?_); refine se_ 37 7 (((((((w14.setCell ⟨gb219, 0, none⟩ (.string t207)).setCell ⟨gb219, 1, none⟩ (.int .i64 t208)).setCell ⟨gb219, 2, none⟩ (.int .i64 t209)).setCell ⟨gb219, 3, none⟩ (.slice Ao17 t210.length co17)).setCell ⟨gb219, 4, none⟩ (.slice Ao18 t213.length co18)).setCell ⟨gb219, 5, none⟩ (.int .i64 t216)).setCell ⟨gb219, 6, none⟩ (.int .i64 t217)) ?_; intro w19 hw; replace HO_206002 : Asc (Kd.V k37 37 w19 w.heap.size (fun k_ => (P0_2_ k_ ∨ w.heap.size ≤ k_) ∧ k_ ≠ gb205 ∧ k_ ≠ gb219) (.slice A0_2 l0_2.length c0_2) l0_2) := ⟨(by rw [hw]; exact (gV HO_206002))⟩; replace HO212 : Asc (Kd.V k129 129 w19 w.heap.size (fun k_ => (P0_2_ k_ ∨ w.heap.size ≤ k_) ∧ k_ ≠ gb205 ∧ k_ ≠ gb219) (.slice Ao17 t210.length co17) t210) := ⟨(by rw [hw]; exact (gV HO212))⟩; replace HO215 : Asc (Kd.V Kd.string 9 w19 w.heap.size (fun k_ => (P0_2_ k_ ∨ w.heap.size ≤ k_) ∧ k_ ≠ gb205 ∧ k_ ≠ gb219) (.slice Ao18 t213.length co18) t213) := ⟨(by rw [hw]; exact (gV HO215))⟩; replace BK205 : Asc (w19.heap[gb205]? = some (.cells #[.int .i64 a0_0, .int .i64 a0_1, .slice A0_2 l0_2.length c0_2] 24 (0, 0))) := ⟨(by rw [hw]; exact (gB BK205))⟩; replace BK219 : Asc (w19.heap[gb219]? = some (.cells #[.string t207, .int .i64 t208, .int .i64 t209, .slice Ao17 t210.length co17, .slice Ao18 t213.length co18, .int .i64 t216, .int .i64 t217] 37 (0, 0))) := ⟨(by rw [hw]; exact (gP BK219 rfl))⟩; replace HB : Asc (Below w.heap.size w w19) := ⟨(by rw [hw]; exact (bh HB))⟩; clear hw; obtain ⟨z20_0, z20_1, z20_2, z20_3, z20_4, z20_5, z20_6, y20_0, y20_1, y20_2, y20_3, y20_4, y20_5, y20_6⟩ := bx7 BK219) | ((with_reducible refine gd_ 34 ?_); refine Kd.N_lit k37 _ 37 ?hg (N' := 34) ?hd (xs := ([(⟨t207, (⟨t208, t209, t210, t213, (⟨t216, t217⟩ : S33)⟩ : S35)⟩ : S37)] : List (S37))) (inner := [.string t207, .int .i64 t208, .int .i64 t209, .slice Ao17 t210.length co17, .slice Ao18 t213.length co18, .int .i64 t216, .int .i64 t217]) (ok := (fun k_ => (P0_2_ k_ ∨ w.heap.size ≤ k_) ∧ k_ ≠ gb205 ∧ k_ ≠ gb219)) (okp := (fun k_ => (P0_2_ k_ ∨ w.heap.size ≤ k_) ∧ k_ ≠ gb205 ∧ k_ ≠ gb219)) ?hr ?hp (fun _ hk => hk) ((show ∀ k_, w19.heap.size ≤ k_ → (fun k_ => (P0_2_ k_ ∨ w.heap.size ≤ k_) ∧ k_ ≠ gb205 ∧ k_ ≠ gb219) k_ from fun k_ hk => ⟨(.inr (Nat.le_trans (below_size (bh HB)) hk)), gFr BK205 k_ hk, gFr BK219 k_ hk⟩) _ (Nat.le_refl _)) (Below.refl _ _) (Nat.le_refl _) (by simp) ?_; (case hd => rfl); (case hg => rfl); (case hr => first | (go_simp; done) | (go_simp; rfl)); (case hp => exact (Reps.c7 (show Kd.FK k37 _ _ (⟨t207, (⟨t208, t209, t210, t213, (⟨t216, t217⟩ : S33)⟩ : S35)⟩ : S37) [.string t207, .int .i64 t208, .int .i64 t209, .slice Ao17 t210.length co17, .slice Ao18 t213.length co18, .int .i64 t216, .int .i64 t217] from (k37_mkF _ _ (⟨t207, (⟨t208, t209, t210, t213, (⟨t216, t217⟩ : S33)⟩ : S35)⟩ : S37) (Kd.V_reads' (Kd.V_mono (ok' := (fun k_ => (P0_2_ k_ ∨ w.heap.size ≤ k_) ∧ k_ ≠ gb205 ∧ k_ ≠ gb219)) (HO212.out) (fun k_ hk => ⟨hk.1, ⟨hk.2.1, hk.2.2⟩⟩))).2.1 (Kd.V_F (Kd.V_mono (ok' := (fun k_ => (P0_2_ k_ ∨ w.heap.size ≤ k_) ∧ k_ ≠ gb205 ∧ k_ ≠ gb219)) (HO212.out) (fun k_ hk => ⟨hk.1, ⟨hk.2.1, hk.2.2⟩⟩))) (Kd.V_reads' (Kd.V_mono (ok' := (fun k_ => (P0_2_ k_ ∨ w.heap.size ≤ k_) ∧ k_ ≠ gb205 ∧ k_ ≠ gb219)) (HO215.out) (fun k_ hk => ⟨hk.1, ⟨hk.2.1, hk.2.2⟩⟩))).2.1 (Kd.V_F (Kd.V_mono (ok' := (fun k_ => (P0_2_ k_ ∨ w.heap.size ≤ k_) ∧ k_ ≠ gb205 ∧ k_ ≠ gb219)) (HO215.out) (fun k_ hk => ⟨hk.1, ⟨hk.2.1, hk.2.2⟩⟩))))) (Reps.none _ _))); intro v221 w21 ho22 hb hg_ hnew_; clear hg_ hnew_; (first | rw [← Ny220.out] at ho22 | (simp only [Int.reduceToNat] at ho22; rw [← Ny220.out] at ho22)); replace HO_206002 := am_ (Kd.V_elder' (hV HO_206002) (Kd.N_base ho22) hb); replace HO212 := am_ (Kd.V_elder' (hV HO212) (Kd.N_base ho22) hb); replace HO215 := am_ (Kd.V_elder' (hV HO215) (Kd.N_base ho22) hb); have HO222 := am_ (Kd.N_lower ho22 (below_size (bh HB))); replace BK205 := tBb BK205 hb; replace BK219 := tBb BK219 hb; replace HB := tHb HB hb; clear hb ho22))
      go_loopg [9, 10] kj6 (fun kq v9 v10 w' => ∃ (x9_3 : List (S37)) (x10_3 : Int) (x220000_3 : ByteArray) (x220001_3 : Int) (x220002_3 : Int) (x220003_3 : List (S129)) (x220004_3 : List ByteArray) (x220005_3 : Int) (x220006_3 : Int) (u220003 : Value) (u220004 : Value), v10 = .int .i64 x10_3 ∧ Asc (F1.l1 kq a1 x6_1 x9_3 x10_3 a0_0 a0_1 l0_2 x220000_3 x220001_3 x220002_3 x220003_3 x220004_3 x220005_3 x220006_3 = some (r1, r2)) ∧ Asc (kq ≤ kj6) ∧ Asc (Kd.N k37 37 w' w.heap.size (fun k_ => (P0_2_ k_ ∨ w.heap.size ≤ k_) ∧ k_ ≠ gb205 ∧ k_ ≠ gb219) v9 x9_3) ∧ Asc (Kd.V k37 37 w' w.heap.size (fun k_ => (P0_2_ k_ ∨ w.heap.size ≤ k_) ∧ some k_ ≠ (v9 : Value).ownBlock ∧ k_ ≠ gb205 ∧ k_ ≠ gb219) (.slice A0_2 l0_2.length c0_2) l0_2) ∧ Asc (Kd.V k129 129 w' w.heap.size (fun k_ => (P0_2_ k_ ∨ w.heap.size ≤ k_) ∧ some k_ ≠ (v9 : Value).ownBlock ∧ k_ ≠ gb205 ∧ k_ ≠ gb219) u220003 x220003_3) ∧ Asc (Kd.V Kd.string 9 w' w.heap.size (fun k_ => (P0_2_ k_ ∨ w.heap.size ≤ k_) ∧ some k_ ≠ (v9 : Value).ownBlock ∧ k_ ≠ gb205 ∧ k_ ≠ gb219) u220004 x220004_3) ∧ Asc (w'.heap[gb205]? = some (.cells #[.int .i64 a0_0, .int .i64 a0_1, (.slice A0_2 l0_2.length c0_2)] 24 (0, 0))) ∧ Asc (w'.heap[gb219]? = some (.cells #[.string x220000_3, .int .i64 x220001_3, .int .i64 x220002_3, u220003, u220004, .int .i64 x220005_3, .int .i64 x220006_3] 37 (0, 0))) ∧ Asc (Below w.heap.size w w'))
      case atStart => exact ⟨(y220), (wrap64 (x6_1 - 1)), (t207), (t208), (t209), (t210), (t213), (t216), (t217), (.slice Ao17 t210.length co17), (.slice Ao18 t213.length co18), fr, H', ⟨Nat.le_refl _⟩, ⟨hN HO222⟩, ⟨gV HO_206002⟩, ⟨gV HO212⟩, ⟨gV HO215⟩, ⟨gB BK205⟩, ⟨gB BK219⟩, ⟨bh HB⟩⟩
      case round =>
       clear H'
       try clear c9 c11b0 c11b1 z12_0 z12_1 z12_2 z16_0 z16_1 z16_2 z16_3 z16_4 z16_5 z16_6 z20_0 z20_1 z20_2 z20_3 z20_4 z20_5 z20_6 y12_0 y12_1 y12_2 y16_0 y16_1 y16_2 y16_3 y16_4 y16_5 y16_6 y20_0 y20_1 y20_2 y20_3 y20_4 y20_5 y20_6
       obtain ⟨x9_3, x10_3, x220000_3, x220001_3, x220002_3, x220003_3, x220004_3, x220005_3, x220006_3, u220003, u220004, rfl, HA, HK3, HO_9, HO_206002, HO_220003, HO_220004, BK205, BK219, HB⟩ := hrel
       cases gk with
       | zero => exact absurd HA.out (by simp [F1.l1])
       | succ k3 =>
        have H := HA.out
        clear HA
        simp only [F1.l1] at H
        have HC23 := am_ H
        clear H
        go_upto_region 9 with (fail)
        go_cut [43] (fun v43 wc => ∃ (kq : Nat) (x43_22 : Bool), v43 = .bool x43_22 ∧ Asc (F1.j3 kq a1 x6_1 x9_3 x10_3 x43_22 a0_0 a0_1 l0_2 x220000_3 x220001_3 x220002_3 x220003_3 x220004_3 x220005_3 x220006_3 = some (r1, r2)) ∧ Asc (kq ≤ k3) ∧ Asc (Kd.N k37 37 wc w.heap.size (fun k_ => (P0_2_ k_ ∨ w.heap.size ≤ k_) ∧ k_ ≠ gb205 ∧ k_ ≠ gb219) u9 x9_3) ∧ Asc (Kd.V k37 37 wc w.heap.size (fun k_ => (P0_2_ k_ ∨ w.heap.size ≤ k_) ∧ some k_ ≠ (u9 : Value).ownBlock ∧ k_ ≠ gb205 ∧ k_ ≠ gb219) (.slice A0_2 l0_2.length c0_2) l0_2) ∧ Asc (Kd.V k129 129 wc w.heap.size (fun k_ => (P0_2_ k_ ∨ w.heap.size ≤ k_) ∧ some k_ ≠ (u9 : Value).ownBlock ∧ k_ ≠ gb205 ∧ k_ ≠ gb219) u220003 x220003_3) ∧ Asc (Kd.V Kd.string 9 wc w.heap.size (fun k_ => (P0_2_ k_ ∨ w.heap.size ≤ k_) ∧ some k_ ≠ (u9 : Value).ownBlock ∧ k_ ≠ gb205 ∧ k_ ≠ gb219) u220004 x220004_3) ∧ Asc (wc.heap[gb205]? = some (.cells #[.int .i64 a0_0, .int .i64 a0_1, (.slice A0_2 l0_2.length c0_2)] 24 (0, 0))) ∧ Asc (wc.heap[gb219]? = some (.cells #[.string x220000_3, .int .i64 x220001_3, .int .i64 x220002_3, u220003, u220004, .int .i64 x220005_3, .int .i64 x220006_3] 37 (0, 0))) ∧ Asc (Below w.heap.size w wc))
        case first =>
         have H := HC23.out
         clear HC23
         by_cases c24 : x10_3 > a1
         ·
          rw [if_pos c24] at H
          have c24b0 : decide (a1 < x10_3) = true := decide_eq_true c24
          clear c24
          (first | rw [c24b0] | (simp only [i64_w, i32_w]; rw [c24b0]) | skip)
          have H' := am_ H
          clear H
          go_wp2
          go_meet
          case rel => exact ⟨_, (decide (x10_3 ≥ 1)), fr, H', ⟨by have := HK1.out; have := HJ6.out; have := HK3.out; first | omega | exact Nat.le_refl _⟩, ⟨hN HO_9⟩, ⟨hV HO_206002⟩, ⟨hV HO_220003⟩, ⟨hV HO_220004⟩, ⟨gB BK205⟩, ⟨gB BK219⟩, ⟨bh HB⟩⟩
         rw [if_neg c24] at H
         have c24b0 : decide (a1 < x10_3) = false := decide_eq_false c24
         clear c24
         (first | rw [c24b0] | (simp only [i64_w, i32_w]; rw [c24b0]) | skip)
         have H' := am_ H
         clear H
         go_wp2
         go_meet
         case rel => exact ⟨_, (false), fr, H', ⟨by have := HK1.out; have := HJ6.out; have := HK3.out; first | omega | exact Nat.le_refl _⟩, ⟨hN HO_9⟩, ⟨hV HO_206002⟩, ⟨hV HO_220003⟩, ⟨hV HO_220004⟩, ⟨gB BK205⟩, ⟨gB BK219⟩, ⟨bh HB⟩⟩
        case rest =>
         clear HC23
         obtain ⟨kq, x43_22, rfl, HA, HJ22, HO_9, HO_206002, HO_220003, HO_220004, BK205, BK219, HB⟩ := hcut
         cases kq with
         | zero => exact absurd HA.out (by simp [F1.j3])
         | succ kj22 =>
          have H := HA.out
          clear HA
          simp only [F1.j3] at H
          by_cases c25 : x43_22 = true
          ·
           subst c25
           rw [if_pos rfl] at H
           replace H := Option.bind_eq_some_iff.mp H
           obtain ⟨⟨t223, t224, t225, t226, t229, t232, t233, t234⟩, A260, H⟩ := H
           replace H : (if t234 = 0 then ((G8.f a0_0 a0_1 l0_2 x220000_3 t223).bind fun t236 => (if t236 = true then ((some (([(⟨t223, (⟨t224, t225, t226, t229, (⟨t232, t233⟩ : S33)⟩ : S35)⟩ : S37)] : List (S37)) : List (S37))).bind fun y237 => (if y237.length + x9_3.length < 1466015503701 then (F1.l1 kj22 a1 x6_1 (y237 ++ x9_3) (wrap64 (x10_3 - 1)) a0_0 a0_1 l0_2 t223 t224 t225 t226 t229 t232 t233) else (none))) else (F1.l1 kj22 a1 x6_1 x9_3 (wrap64 (x10_3 - 1)) a0_0 a0_1 l0_2 x220000_3 x220001_3 x220002_3 x220003_3 x220004_3 x220005_3 x220006_3))) else (F1.l1 kj22 a1 x6_1 x9_3 (wrap64 (x10_3 - 1)) a0_0 a0_1 l0_2 x220000_3 x220001_3 x220002_3 x220003_3 x220004_3 x220005_3 x220006_3)) = some (r1, r2) := H
           have A26 := am_ A260
           clear A260
           by_cases c27 : t234 = 0
           ·
            rw [if_pos c27] at H
            have c27b0 : (t234 == 0) = true := beq_iff_eq.mpr c27
            have c27b1 : (t234 != 0) = false := bne_eq_false_iff_eq.mpr c27
            clear c27
            replace H := Option.bind_eq_some_iff.mp H
            obtain ⟨t236, A280, H⟩ := H
            replace H : (if t236 = true then ((some (([(⟨t223, (⟨t224, t225, t226, t229, (⟨t232, t233⟩ : S33)⟩ : S35)⟩ : S37)] : List (S37)) : List (S37))).bind fun y237 => (if y237.length + x9_3.length < 1466015503701 then (F1.l1 kj22 a1 x6_1 (y237 ++ x9_3) (wrap64 (x10_3 - 1)) a0_0 a0_1 l0_2 t223 t224 t225 t226 t229 t232 t233) else (none))) else (F1.l1 kj22 a1 x6_1 x9_3 (wrap64 (x10_3 - 1)) a0_0 a0_1 l0_2 x220000_3 x220001_3 x220002_3 x220003_3 x220004_3 x220005_3 x220006_3)) = some (r1, r2) := H
            have A28 := am_ A280
            clear A280
            by_cases c29 : t236 = true
            ·
             subst c29
             rw [if_pos rfl] at H
             obtain ⟨y237, hy237⟩ : ∃ y_ : List (S37), y_ = (([(⟨t223, (⟨t224, t225, t226, t229, (⟨t232, t233⟩ : S33)⟩ : S35)⟩ : S37)] : List (S37))) := ⟨_, rfl⟩
             replace H : (if y237.length + x9_3.length < 1466015503701 then (F1.l1 kj22 a1 x6_1 (y237 ++ x9_3) (wrap64 (x10_3 - 1)) a0_0 a0_1 l0_2 t223 t224 t225 t226 t229 t232 t233) else (none)) = some (r1, r2) := by first | (rw [hy237]; with_reducible exact H) | (have H := (Option.bind_some _ _).symm.trans H; first | (rw [hy237]; with_reducible exact H) | with_reducible exact H) | with_reducible exact H | (rw [hy237]; exact H) | exact H
             have Ny237 := am_ hy237
             clear hy237
             revert H
             refine gi' (fun c30 H => ?_)
             have LMc30 := am_ c30
             clear c30
             obtain ⟨y240, hy240⟩ : ∃ y_ : List (S37), y_ = (y237 ++ x9_3) := ⟨_, rfl⟩
             replace H : (F1.l1 kj22 a1 x6_1 y240 (wrap64 (x10_3 - 1)) a0_0 a0_1 l0_2 t223 t224 t225 t226 t229 t232 t233) = some (r1, r2) := by first | (rw [hy240]; with_reducible exact H) | (have H := (Option.bind_some _ _).symm.trans H; first | (rw [hy240]; with_reducible exact H) | with_reducible exact H) | with_reducible exact H | (rw [hy240]; exact H) | exact H
             have Ny240 := am_ hy240
             clear hy240
             have H' := am_ H
             clear H
             have hnb31 := NB205_219.out
             have hnc31 := NB219_205.out
             obtain ⟨z32_0, z32_1, z32_2, y32_0, y32_1, y32_2⟩ := bx3 BK205
             try go_wp2_with (first | ((with_reducible refine gate_callee (f := 34) rfl ?_); refine gl_ (some 49) Try.func34 #[.agg #[.int .i64 a0_0, .int .i64 a0_1, .slice A0_2 l0_2.length c0_2], .int .i64 x10_3] ?_; (with_reducible refine (G3.calls kj22 a0_0 a0_1 (fun k_ => ((P0_2_ k_ ∨ w.heap.size ≤ k_) ∧ (some k_ ≠ (u9 : Value).ownBlock ∧ (k_ ≠ gb205 ∧ k_ ≠ gb219)))) _ _ l0_2 x10_3 t223 t224 t225 t226 t229 t232 t233 t234 _ ?side1 A26.out).mono ?_); (case side1 => exact HO_206002.out); rintro e w33 ⟨v227, v230, rfl, ho0, ho1, hb⟩; refine ⟨_, rfl, ?_⟩; replace HO_206002 := tVb HO_206002 hb; replace HO_220003 := tVb HO_220003 hb; replace HO_220004 := tVb HO_220004 hb; have HO228 := am_ (Kd.V_lower (Kd.V_mono (ok' := fun k_ => (P0_2_ k_ ∨ w.heap.size ≤ k_) ∧ some k_ ≠ (u9 : Value).ownBlock ∧ k_ ≠ gb205 ∧ k_ ≠ gb219) ho0 (fun k_ hk_ => ⟨Or.elim hk_ (fun hs_ => hs_.1) (fun hn_ => (.inr (Nat.le_trans (below_size (bh HB)) hn_))), Or.elim hk_ (fun hs_ => hs_.2.1) (fun hn_ => (Kd.fresh' (Kd.N_lt (hN HO_9)) k_ hn_)), Or.elim hk_ (fun hs_ => hs_.2.2.1) (fun hn_ => (gFr BK205 k_ hn_)), Or.elim hk_ (fun hs_ => hs_.2.2.2) (fun hn_ => (gFr BK219 k_ hn_))⟩)) (below_size (bh HB))); have HO231 := am_ (Kd.V_lower (Kd.V_mono (ok' := fun k_ => (P0_2_ k_ ∨ w.heap.size ≤ k_) ∧ some k_ ≠ (u9 : Value).ownBlock ∧ k_ ≠ gb205 ∧ k_ ≠ gb219) ho1 (fun k_ hk_ => ⟨Or.elim hk_ (fun hs_ => hs_.1) (fun hn_ => (.inr (Nat.le_trans (below_size (bh HB)) hn_))), Or.elim hk_ (fun hs_ => hs_.2.1) (fun hn_ => (Kd.fresh' (Kd.N_lt (hN HO_9)) k_ hn_)), Or.elim hk_ (fun hs_ => hs_.2.2.1) (fun hn_ => (gFr BK205 k_ hn_)), Or.elim hk_ (fun hs_ => hs_.2.2.2) (fun hn_ => (gFr BK219 k_ hn_))⟩)) (below_size (bh HB))); replace HO_9 := tNb HO_9 hb; replace BK205 := tBb BK205 hb; replace BK219 := tBb BK219 hb; replace HB := tHb HB hb; (try clear hb); (try clear ho0); (try clear ho1)) | ((with_reducible refine gd_ 11 ?_); refine be_ 11 #[.string (⟨#[]⟩ : ByteArray), .int .i64 0, .int .i64 0, .slice none 0 0, .slice none 0 0, .int .i64 0, .int .i64 0] 37 ?_; intro gb235 hg w34 hbox hb; replace HO_9 := tNe HO_9 hg hb; replace HO_206002 := tVe HO_206002 hg hb; replace HO_220003 := tVe HO_220003 hg hb; replace HO_220004 := tVe HO_220004 hg hb; replace HO228 := tVe HO228 hg hb; replace HO231 := tVe HO231 hg hb; have BK235 := am_ hbox; have GW235 := tG HB hg; have GE235 := tG HB hg; replace HB := tHb HB hb; have NB205_235 := tL BK205 hg; have NB235_205 := tR BK205 hg; replace BK205 := tBb BK205 hb; have NB219_235 := tL BK219 hg; have NB235_219 := tR BK219 hg; replace BK219 := tBb BK219 hb; clear hb hbox hg; have hnb35 := NB235_205.out; have hnc35 := NB205_235.out; have hnb36 := NB235_219.out; have hnc36 := NB219_235.out; obtain ⟨z37_0, z37_1, z37_2, z37_3, z37_4, z37_5, z37_6, y37_0, y37_1, y37_2, y37_3, y37_4, y37_5, y37_6⟩ := bx7 BK235; obtain ⟨Ao38, co38, eo38⟩ := Kd.V_slice HO228.out; subst eo38; obtain ⟨Ao39, co39, eo39⟩ := Kd.V_slice HO231.out; subst eo39) | ((with_reducible refine gate_store (t := 37) (p := 11) rfl ?_); refine se_ 37 11 (((((((w34.setCell ⟨gb235, 0, none⟩ (.string t223)).setCell ⟨gb235, 1, none⟩ (.int .i64 t224)).setCell ⟨gb235, 2, none⟩ (.int .i64 t225)).setCell ⟨gb235, 3, none⟩ (.slice Ao38 t226.length co38)).setCell ⟨gb235, 4, none⟩ (.slice Ao39 t229.length co39)).setCell ⟨gb235, 5, none⟩ (.int .i64 t232)).setCell ⟨gb235, 6, none⟩ (.int .i64 t233)) ?_; intro w40 hw; replace HO_9 : Asc (Kd.N k37 37 w40 w.heap.size (fun k_ => (P0_2_ k_ ∨ w.heap.size ≤ k_) ∧ k_ ≠ gb205 ∧ k_ ≠ gb219 ∧ k_ ≠ gb235) u9 x9_3) := ⟨(by rw [hw]; exact (gN HO_9))⟩; replace HO_206002 : Asc (Kd.V k37 37 w40 w.heap.size (fun k_ => (P0_2_ k_ ∨ w.heap.size ≤ k_) ∧ some k_ ≠ (u9 : Value).ownBlock ∧ k_ ≠ gb205 ∧ k_ ≠ gb219 ∧ k_ ≠ gb235) (.slice A0_2 l0_2.length c0_2) l0_2) := ⟨(by rw [hw]; exact (gV HO_206002))⟩; replace HO_220003 : Asc (Kd.V k129 129 w40 w.heap.size (fun k_ => (P0_2_ k_ ∨ w.heap.size ≤ k_) ∧ some k_ ≠ (u9 : Value).ownBlock ∧ k_ ≠ gb205 ∧ k_ ≠ gb219 ∧ k_ ≠ gb235) u220003 x220003_3) := ⟨(by rw [hw]; exact (gV HO_220003))⟩; replace HO_220004 : Asc (Kd.V Kd.string 9 w40 w.heap.size (fun k_ => (P0_2_ k_ ∨ w.heap.size ≤ k_) ∧ some k_ ≠ (u9 : Value).ownBlock ∧ k_ ≠ gb205 ∧ k_ ≠ gb219 ∧ k_ ≠ gb235) u220004 x220004_3) := ⟨(by rw [hw]; exact (gV HO_220004))⟩; replace HO228 : Asc (Kd.V k129 129 w40 w.heap.size (fun k_ => (P0_2_ k_ ∨ w.heap.size ≤ k_) ∧ some k_ ≠ (u9 : Value).ownBlock ∧ k_ ≠ gb205 ∧ k_ ≠ gb219 ∧ k_ ≠ gb235) (.slice Ao38 t226.length co38) t226) := ⟨(by rw [hw]; exact (gV HO228))⟩; replace HO231 : Asc (Kd.V Kd.string 9 w40 w.heap.size (fun k_ => (P0_2_ k_ ∨ w.heap.size ≤ k_) ∧ some k_ ≠ (u9 : Value).ownBlock ∧ k_ ≠ gb205 ∧ k_ ≠ gb219 ∧ k_ ≠ gb235) (.slice Ao39 t229.length co39) t229) := ⟨(by rw [hw]; exact (gV HO231))⟩; replace BK205 : Asc (w40.heap[gb205]? = some (.cells #[.int .i64 a0_0, .int .i64 a0_1, .slice A0_2 l0_2.length c0_2] 24 (0, 0))) := ⟨(by rw [hw]; exact (gB BK205))⟩; replace BK219 : Asc (w40.heap[gb219]? = some (.cells #[.string x220000_3, .int .i64 x220001_3, .int .i64 x220002_3, u220003, u220004, .int .i64 x220005_3, .int .i64 x220006_3] 37 (0, 0))) := ⟨(by rw [hw]; exact (gB BK219))⟩; replace BK235 : Asc (w40.heap[gb235]? = some (.cells #[.string t223, .int .i64 t224, .int .i64 t225, .slice Ao38 t226.length co38, .slice Ao39 t229.length co39, .int .i64 t232, .int .i64 t233] 37 (0, 0))) := ⟨(by rw [hw]; exact (gP BK235 rfl))⟩; replace HB : Asc (Below w.heap.size w w40) := ⟨(by rw [hw]; exact (bh HB))⟩; clear hw; obtain ⟨z41_0, z41_1, z41_2, y41_0, y41_1, y41_2⟩ := bx3 BK205; obtain ⟨z42_0, z42_1, z42_2, z42_3, z42_4, z42_5, z42_6, y42_0, y42_1, y42_2, y42_3, y42_4, y42_5, y42_6⟩ := bx7 BK219; obtain ⟨z43_0, z43_1, z43_2, z43_3, z43_4, z43_5, z43_6, y43_0, y43_1, y43_2, y43_3, y43_4, y43_5, y43_6⟩ := bx7 BK235) | (go_at_call 35; (with_reducible refine (G8.calls a0_0 a0_1 (fun k_ => ((P0_2_ k_ ∨ w.heap.size ≤ k_) ∧ (some k_ ≠ (u9 : Value).ownBlock ∧ (k_ ≠ gb205 ∧ (k_ ≠ gb219 ∧ k_ ≠ gb235))))) _ _ l0_2 x220000_3 t223 true _ ?side1 A28.out).mono ?_); (case side1 => exact HO_206002.out); rintro e w44 ⟨rfl, hb⟩; replace HO_9 := tNb HO_9 hb; replace HO_206002 := tVb HO_206002 hb; replace HO_220003 := tVb HO_220003 hb; replace HO_220004 := tVb HO_220004 hb; replace HO228 := tVb HO228 hb; replace HO231 := tVb HO231 hb; replace BK205 := tBb BK205 hb; replace BK219 := tBb BK219 hb; replace BK235 := tBb BK235 hb; replace HB := tHb HB hb; (try clear hb); obtain ⟨z45_0, z45_1, z45_2, z45_3, z45_4, z45_5, z45_6, y45_0, y45_1, y45_2, y45_3, y45_4, y45_5, y45_6⟩ := bx7 BK235; obtain ⟨z46_0, z46_1, z46_2, z46_3, z46_4, z46_5, z46_6, y46_0, y46_1, y46_2, y46_3, y46_4, y46_5, y46_6⟩ := bx7 BK219) | ((with_reducible refine gate_store (t := 37) (p := 7) rfl ?_); refine se_ 37 7 (((((((w44.setCell ⟨gb219, 0, none⟩ (.string t223)).setCell ⟨gb219, 1, none⟩ (.int .i64 t224)).setCell ⟨gb219, 2, none⟩ (.int .i64 t225)).setCell ⟨gb219, 3, none⟩ (.slice Ao38 t226.length co38)).setCell ⟨gb219, 4, none⟩ (.slice Ao39 t229.length co39)).setCell ⟨gb219, 5, none⟩ (.int .i64 t232)).setCell ⟨gb219, 6, none⟩ (.int .i64 t233)) ?_; intro w47 hw; replace HO_9 : Asc (Kd.N k37 37 w47 w.heap.size (fun k_ => (P0_2_ k_ ∨ w.heap.size ≤ k_) ∧ k_ ≠ gb205 ∧ k_ ≠ gb219 ∧ k_ ≠ gb235) u9 x9_3) := ⟨(by rw [hw]; exact (gN HO_9))⟩; replace HO_206002 : Asc (Kd.V k37 37 w47 w.heap.size (fun k_ => (P0_2_ k_ ∨ w.heap.size ≤ k_) ∧ some k_ ≠ (u9 : Value).ownBlock ∧ k_ ≠ gb205 ∧ k_ ≠ gb219 ∧ k_ ≠ gb235) (.slice A0_2 l0_2.length c0_2) l0_2) := ⟨(by rw [hw]; exact (gV HO_206002))⟩; replace HO_220003 : Asc (Kd.V k129 129 w47 w.heap.size (fun k_ => (P0_2_ k_ ∨ w.heap.size ≤ k_) ∧ some k_ ≠ (u9 : Value).ownBlock ∧ k_ ≠ gb205 ∧ k_ ≠ gb219 ∧ k_ ≠ gb235) u220003 x220003_3) := ⟨(by rw [hw]; exact (gV HO_220003))⟩; replace HO_220004 : Asc (Kd.V Kd.string 9 w47 w.heap.size (fun k_ => (P0_2_ k_ ∨ w.heap.size ≤ k_) ∧ some k_ ≠ (u9 : Value).ownBlock ∧ k_ ≠ gb205 ∧ k_ ≠ gb219 ∧ k_ ≠ gb235) u220004 x220004_3) := ⟨(by rw [hw]; exact (gV HO_220004))⟩; replace HO228 : Asc (Kd.V k129 129 w47 w.heap.size (fun k_ => (P0_2_ k_ ∨ w.heap.size ≤ k_) ∧ some k_ ≠ (u9 : Value).ownBlock ∧ k_ ≠ gb205 ∧ k_ ≠ gb219 ∧ k_ ≠ gb235) (.slice Ao38 t226.length co38) t226) := ⟨(by rw [hw]; exact (gV HO228))⟩; replace HO231 : Asc (Kd.V Kd.string 9 w47 w.heap.size (fun k_ => (P0_2_ k_ ∨ w.heap.size ≤ k_) ∧ some k_ ≠ (u9 : Value).ownBlock ∧ k_ ≠ gb205 ∧ k_ ≠ gb219 ∧ k_ ≠ gb235) (.slice Ao39 t229.length co39) t229) := ⟨(by rw [hw]; exact (gV HO231))⟩; replace BK205 : Asc (w47.heap[gb205]? = some (.cells #[.int .i64 a0_0, .int .i64 a0_1, .slice A0_2 l0_2.length c0_2] 24 (0, 0))) := ⟨(by rw [hw]; exact (gB BK205))⟩; replace BK219 : Asc (w47.heap[gb219]? = some (.cells #[.string t223, .int .i64 t224, .int .i64 t225, .slice Ao38 t226.length co38, .slice Ao39 t229.length co39, .int .i64 t232, .int .i64 t233] 37 (0, 0))) := ⟨(by rw [hw]; exact (gP BK219 rfl))⟩; replace BK235 : Asc (w47.heap[gb235]? = some (.cells #[.string t223, .int .i64 t224, .int .i64 t225, .slice Ao38 t226.length co38, .slice Ao39 t229.length co39, .int .i64 t232, .int .i64 t233] 37 (0, 0))) := ⟨(by rw [hw]; exact (gB BK235))⟩; replace HB : Asc (Below w.heap.size w w47) := ⟨(by rw [hw]; exact (bh HB))⟩; clear hw))
             replace HO_9 := am_ (Kd.N_drew HO_9.out)
             replace HO_206002 := am_ (Kd.V_drew HO_206002.out)
             replace HO_220003 := am_ (Kd.V_drew HO_220003.out)
             replace HO_220004 := am_ (Kd.V_drew HO_220004.out)
             replace HO228 := am_ (Kd.V_drew HO228.out)
             replace HO231 := am_ (Kd.V_drew HO231.out)
             replace BK205 := am_ (blk_drew BK205.out)
             replace BK219 := am_ (blk_drew BK219.out)
             replace BK235 := am_ (blk_drew BK235.out)
             replace HB := am_ (below_drew1 HB.out)
             obtain ⟨Ao49, co49, eo49⟩ := Kd.N_slice HO_9.out
             (first | subst eo49 | (injection eo49 with f1_ f2_ f3_; have f4_ := f1_.symm; have f5_ := f3_.symm; clear f1_ f2_ f3_; subst f4_; subst f5_))
             have hcap_ := eq_true (Kd.N_reads' HO_9.out).2.1
             refine start_ (n := 10) (S := fun w' => w'.cell? ⟨gb235, 0, none⟩ = some (.string t223) ∧ w'.cell? ⟨gb235, 1, none⟩ = some (.int .i64 t224) ∧ w'.cell? ⟨gb235, 2, none⟩ = some (.int .i64 t225) ∧ w'.cell? ⟨gb235, 3, none⟩ = some (.slice Ao38 t226.length co38) ∧ w'.cell? ⟨gb235, 4, none⟩ = some (.slice Ao39 t229.length co39) ∧ w'.cell? ⟨gb235, 5, none⟩ = some (.int .i64 t232) ∧ w'.cell? ⟨gb235, 6, none⟩ = some (.int .i64 t233)) (ds := []) #[false, false, false, false, false, false, false, false, false, false] (by kernel_rfl) rfl rfl ⟨(blk_cell BK235.out 0).trans rfl, (blk_cell BK235.out 1).trans rfl, (blk_cell BK235.out 2).trans rfl, (blk_cell BK235.out 3).trans rfl, (blk_cell BK235.out 4).trans rfl, (blk_cell BK235.out 5).trans rfl, (blk_cell BK235.out 6).trans rfl⟩ (fun hHeld => ?_); refine with_tabW F1.tab14 F1.bits14 (fun HT_ HW_ => ?_)
             generalize w47.drew = w48 at HO_9 HO_206002 HO_220003 HO_220004 HO228 HO231 BK205 BK219 BK235 HB hHeld ⊢
             refine pu_ 2 (some 66) 4 HT_ (h := ?_)
             refine pu_ 3 (some 67) 12 HT_ (h := ?_)
             refine pu_ 4 (some 68) 28 HT_ (h := ?_)
             refine pu_ 5 (some 69) 60 HT_ (h := ?_)
             refine pu_ 6 (some 70) 124 HT_ (h := ?_)
             refine pu_ 7 (some 71) 252 HT_ (h := ?_)
             refine tk_ 0 (some 64) 253 HT_ HW_ hHeld (h := ?_)
             refine one_ (i := 1) (N := some 65) #[true, true, true, true, true, true, true, true, false, false] rfl rfl (one_of HT_.out (by kernel_rfl)) (by decide) (fun K hK => ?_)
             refine Kd.N_lit_step k37 _ 37 ?hg (N' := 65) ?hd (xs := ([(⟨t223, (⟨t224, t225, t226, t229, (⟨t232, t233⟩ : S33)⟩ : S35)⟩ : S37)] : List (S37))) (inner := [.string t223, .int .i64 t224, .int .i64 t225, .slice Ao38 t226.length co38, .slice Ao39 t229.length co39, .int .i64 t232, .int .i64 t233]) (ok := (fun k_ => (P0_2_ k_ ∨ w.heap.size ≤ k_) ∧ some k_ ≠ (.slice Ao49 x9_3.length co49 : Value).ownBlock ∧ k_ ≠ gb205 ∧ k_ ≠ gb219 ∧ k_ ≠ gb235)) (okp := (fun k_ => (P0_2_ k_ ∨ w.heap.size ≤ k_) ∧ some k_ ≠ (.slice Ao49 x9_3.length co49 : Value).ownBlock ∧ k_ ≠ gb205 ∧ k_ ≠ gb219 ∧ k_ ≠ gb235)) ?hr ?hp (fun _ hk => hk) ((show ∀ k_, w48.heap.size ≤ k_ → (fun k_ => (P0_2_ k_ ∨ w.heap.size ≤ k_) ∧ some k_ ≠ (.slice Ao49 x9_3.length co49 : Value).ownBlock ∧ k_ ≠ gb205 ∧ k_ ≠ gb219 ∧ k_ ≠ gb235) k_ from fun k_ hk => ⟨(.inr (Nat.le_trans (below_size (bh HB)) hk)), Kd.fresh' (Kd.N_lt (hN HO_9)) k_ hk, gFr BK205 k_ hk, gFr BK219 k_ hk, gFr BK235 k_ hk⟩) _ (Nat.le_refl _)) (Below.refl _ _) (Nat.le_refl _) (by simp) ?_; (case hd => rfl); (case hg => rfl); (case hr => first | (go_simp; done) | (go_simp; rfl)); (case hp => exact (Reps.c7 (show Kd.FK k37 _ _ (⟨t223, (⟨t224, t225, t226, t229, (⟨t232, t233⟩ : S33)⟩ : S35)⟩ : S37) [.string t223, .int .i64 t224, .int .i64 t225, .slice Ao38 t226.length co38, .slice Ao39 t229.length co39, .int .i64 t232, .int .i64 t233] from (k37_mkF _ _ (⟨t223, (⟨t224, t225, t226, t229, (⟨t232, t233⟩ : S33)⟩ : S35)⟩ : S37) (Kd.V_reads' (Kd.V_mono (ok' := (fun k_ => (P0_2_ k_ ∨ w.heap.size ≤ k_) ∧ some k_ ≠ (.slice Ao49 x9_3.length co49 : Value).ownBlock ∧ k_ ≠ gb205 ∧ k_ ≠ gb219 ∧ k_ ≠ gb235)) (HO228.out) (fun k_ hk => ⟨hk.1, ⟨hk.2.1, ⟨hk.2.2.1, ⟨hk.2.2.2.1, hk.2.2.2.2⟩⟩⟩⟩))).2.1 (Kd.V_F (Kd.V_mono (ok' := (fun k_ => (P0_2_ k_ ∨ w.heap.size ≤ k_) ∧ some k_ ≠ (.slice Ao49 x9_3.length co49 : Value).ownBlock ∧ k_ ≠ gb205 ∧ k_ ≠ gb219 ∧ k_ ≠ gb235)) (HO228.out) (fun k_ hk => ⟨hk.1, ⟨hk.2.1, ⟨hk.2.2.1, ⟨hk.2.2.2.1, hk.2.2.2.2⟩⟩⟩⟩))) (Kd.V_reads' (Kd.V_mono (ok' := (fun k_ => (P0_2_ k_ ∨ w.heap.size ≤ k_) ∧ some k_ ≠ (.slice Ao49 x9_3.length co49 : Value).ownBlock ∧ k_ ≠ gb205 ∧ k_ ≠ gb219 ∧ k_ ≠ gb235)) (HO231.out) (fun k_ hk => ⟨hk.1, ⟨hk.2.1, ⟨hk.2.2.1, ⟨hk.2.2.2.1, hk.2.2.2.2⟩⟩⟩⟩))).2.1 (Kd.V_F (Kd.V_mono (ok' := (fun k_ => (P0_2_ k_ ∨ w.heap.size ≤ k_) ∧ some k_ ≠ (.slice Ao49 x9_3.length co49 : Value).ownBlock ∧ k_ ≠ gb205 ∧ k_ ≠ gb219 ∧ k_ ≠ gb235)) (HO231.out) (fun k_ hk => ⟨hk.1, ⟨hk.2.1, ⟨hk.2.2.1, ⟨hk.2.2.2.1, hk.2.2.2.2⟩⟩⟩⟩))))) (Reps.none _ _)))
             intro v238 w50 ho51 hb hg_ hnew_
             clear hg_ hnew_
             (first | rw [← Ny237.out] at ho51 | (simp only [Int.reduceToNat] at ho51; rw [← Ny237.out] at ho51))
             replace HO_9 := am_ (Kd.N_elder' (hN HO_9) (Kd.N_base ho51) hb)
             replace HO_206002 := am_ (Kd.V_elder' (hV HO_206002) (Kd.N_base ho51) hb)
             replace HO_220003 := am_ (Kd.V_elder' (hV HO_220003) (Kd.N_base ho51) hb)
             replace HO_220004 := am_ (Kd.V_elder' (hV HO_220004) (Kd.N_base ho51) hb)
             replace HO228 := am_ (Kd.V_elder' (hV HO228) (Kd.N_base ho51) hb)
             replace HO231 := am_ (Kd.V_elder' (hV HO231) (Kd.N_base ho51) hb)
             have HO239 := am_ (Kd.N_lower ho51 (below_size (bh HB)))
             replace BK205 := tBb BK205 hb
             replace BK219 := tBb BK219 hb
             replace BK235 := tBb BK235 hb
             replace HB := tHb HB hb
             clear hb ho51
             refine hK.out _ _ ⟨(blk_cell BK235.out 0).trans rfl, (blk_cell BK235.out 1).trans rfl, (blk_cell BK235.out 2).trans rfl, (blk_cell BK235.out 3).trans rfl, (blk_cell BK235.out 4).trans rfl, (blk_cell BK235.out 5).trans rfl, (blk_cell BK235.out 6).trans rfl⟩ (fun hHeld => ?_)
             clear hK K
             refine norm_ (a' := ?_) ?_ ?_
             rotate_left
             ·
              show Act.put _ (some 65) _ = _
              simp only [Act.put, List.setIfInBounds_toArray, List.set_cons_zero, List.set_cons_succ, i64_w, i32_w]
              rfl
             refine one_ (i := 8) (N := some 72) #[true, true, true, true, true, true, true, true, true, false] rfl rfl (one_of HT_.out (by kernel_rfl)) (by decide) (fun K hK => ?_)
             refine Kd.N_append_rows_step k37 (w0 := w) w.heap.size (by rfl) (.tmp 65) (.tmp 71) 22 37 (.agg #[(.string ⟨#[]⟩), (.int .i64 0), (.int .i64 0), (.slice none 0 0), (.slice none 0 0), (.int .i64 0), (.int .i64 0)]) 96 rfl Try.underlying22 info37 rfl (by decide) (by omega) v238 y237 x9_3 _ _ _ (fun k_ => (P0_2_ k_ ∨ w.heap.size ≤ k_) ∧ k_ ≠ gb205 ∧ k_ ≠ gb219 ∧ k_ ≠ gb235) (fun k_ => ((fun k_ => (P0_2_ k_ ∨ w.heap.size ≤ k_) ∧ k_ ≠ gb205 ∧ k_ ≠ gb219 ∧ k_ ≠ gb235)) k_ ∧ some k_ ≠ (v238 : Value).ownBlock) rfl rfl ?aO ?aR (fun _ hk => hk) ?aF ?aB ?aS ?aL ?_
             (case aR => exact (by skip; exact Kd.N_F (Kd.N_mono (ok' := (fun k_ => ((fun k_ => (P0_2_ k_ ∨ w.heap.size ≤ k_) ∧ k_ ≠ gb205 ∧ k_ ≠ gb219 ∧ k_ ≠ gb235)) k_ ∧ some k_ ≠ (v238 : Value).ownBlock)) (HO_9.out) (fun k_ hk => ⟨⟨hk.1.1, ⟨hk.1.2.1, ⟨hk.1.2.2.1, hk.1.2.2.2⟩⟩⟩, hk.2⟩))))
             (case aB => exact (bh HB))
             (case aF => exact (fun k_ hk => ⟨(.inr (Nat.le_trans (below_size (bh HB)) hk)), gFr BK205 k_ hk, gFr BK219 k_ hk, gFr BK235 k_ hk⟩))
             (case aO => exact (gN HO239))
             (case aS => exact (below_size (bh HB)))
             (case aL => have := LMc30.out; omega)
             intro v241 w52 ho hb hg hat
             rw [← Ny240.out] at ho
             replace HO_9 := am_ (Kd.N_afterv (ok := (fun k_ => (P0_2_ k_ ∨ w.heap.size ≤ k_) ∧ k_ ≠ gb205 ∧ k_ ≠ gb219 ∧ k_ ≠ gb235)) (hN HO_9) hg hat)
             replace HO_206002 := am_ (Kd.V_afterv (ok := (fun k_ => (P0_2_ k_ ∨ w.heap.size ≤ k_) ∧ some k_ ≠ (.slice Ao49 x9_3.length co49 : Value).ownBlock ∧ k_ ≠ gb205 ∧ k_ ≠ gb219 ∧ k_ ≠ gb235)) (hV HO_206002) hg hat)
             replace HO_220003 := am_ (Kd.V_afterv (ok := (fun k_ => (P0_2_ k_ ∨ w.heap.size ≤ k_) ∧ some k_ ≠ (.slice Ao49 x9_3.length co49 : Value).ownBlock ∧ k_ ≠ gb205 ∧ k_ ≠ gb219 ∧ k_ ≠ gb235)) (hV HO_220003) hg hat)
             replace HO_220004 := am_ (Kd.V_afterv (ok := (fun k_ => (P0_2_ k_ ∨ w.heap.size ≤ k_) ∧ some k_ ≠ (.slice Ao49 x9_3.length co49 : Value).ownBlock ∧ k_ ≠ gb205 ∧ k_ ≠ gb219 ∧ k_ ≠ gb235)) (hV HO_220004) hg hat)
             replace BK205 := tBg BK205 hg (Kd.N_ne HO239.out BK205.out (by decide))
             replace BK219 := tBg BK219 hg (Kd.N_away HO239.out (fun _ hk => hk.2.2.2.1))
             replace HO228 := am_ (Kd.V_afterv (ok := (fun k_ => (P0_2_ k_ ∨ w.heap.size ≤ k_) ∧ some k_ ≠ (.slice Ao49 x9_3.length co49 : Value).ownBlock ∧ k_ ≠ gb205 ∧ k_ ≠ gb219 ∧ k_ ≠ gb235)) (hV HO228) hg hat)
             replace HO231 := am_ (Kd.V_afterv (ok := (fun k_ => (P0_2_ k_ ∨ w.heap.size ≤ k_) ∧ some k_ ≠ (.slice Ao49 x9_3.length co49 : Value).ownBlock ∧ k_ ≠ gb205 ∧ k_ ≠ gb219 ∧ k_ ≠ gb235)) (hV HO231) hg hat)
             replace BK235 := tBg BK235 hg (Kd.N_away HO239.out (fun _ hk => hk.2.2.2.2))
             replace HB := am_ hb
             have HO242 := am_ (ho)
             clear HO239 ho hb hg hat
             refine hK.out _ _ ⟨(blk_cell BK235.out 0).trans rfl, (blk_cell BK235.out 1).trans rfl, (blk_cell BK235.out 2).trans rfl, (blk_cell BK235.out 3).trans rfl, (blk_cell BK235.out 4).trans rfl, (blk_cell BK235.out 5).trans rfl, (blk_cell BK235.out 6).trans rfl⟩ (fun hHeld => ?_)
             clear hK K
             refine norm_ (a' := ?_) ?_ ?_
             rotate_left
             ·
              show Act.put _ (some 72) _ = _
              simp only [Act.put, List.setIfInBounds_toArray, List.set_cons_zero, List.set_cons_succ, i64_w, i32_w]
              rfl
             refine pu_ 9 (some 9) 1023 HT_ (h := ?_)
             refine done_ (done_of HT_.out (by kernel_rfl)) ?_
             try go_wp2
             go_roundg kj22
             case measure => have := HK1.out; have := HJ6.out; have := HK3.out; have := HJ22.out; omega
             case rel => exact ⟨(y240), (wrap64 (x10_3 - 1)), (t223), (t224), (t225), (t226), (t229), (t232), (t233), (.slice Ao38 t226.length co38), (.slice Ao39 t229.length co39), fr, H', ⟨by have := HK1.out; have := HJ6.out; have := HK3.out; have := HJ22.out; omega⟩, ⟨gN HO242⟩, ⟨gV HO_206002⟩, ⟨gV HO228⟩, ⟨gV HO231⟩, ⟨gB BK205⟩, ⟨gB BK219⟩, ⟨bh HB⟩⟩
            replace c29 := Bool.eq_false_iff.mpr c29
            subst c29
            rw [if_neg (show ¬ (false = true) by decide)] at H
            have H' := am_ H
            clear H
            have hnb53 := NB205_219.out
            have hnc53 := NB219_205.out
            obtain ⟨z54_0, z54_1, z54_2, y54_0, y54_1, y54_2⟩ := bx3 BK205
            go_wp2_with (first | ((with_reducible refine gate_callee (f := 34) rfl ?_); refine gl_ (some 49) Try.func34 #[.agg #[.int .i64 a0_0, .int .i64 a0_1, .slice A0_2 l0_2.length c0_2], .int .i64 x10_3] ?_; (with_reducible refine (G3.calls kj22 a0_0 a0_1 (fun k_ => ((P0_2_ k_ ∨ w.heap.size ≤ k_) ∧ (some k_ ≠ (u9 : Value).ownBlock ∧ (k_ ≠ gb205 ∧ k_ ≠ gb219)))) _ _ l0_2 x10_3 t223 t224 t225 t226 t229 t232 t233 t234 _ ?side1 A26.out).mono ?_); (case side1 => exact HO_206002.out); rintro e w55 ⟨v227, v230, rfl, ho0, ho1, hb⟩; refine ⟨_, rfl, ?_⟩; replace HO_206002 := tVb HO_206002 hb; replace HO_220003 := tVb HO_220003 hb; replace HO_220004 := tVb HO_220004 hb; have HO228 := am_ (Kd.V_lower (Kd.V_mono (ok' := fun k_ => (P0_2_ k_ ∨ w.heap.size ≤ k_) ∧ some k_ ≠ (u9 : Value).ownBlock ∧ k_ ≠ gb205 ∧ k_ ≠ gb219) ho0 (fun k_ hk_ => ⟨Or.elim hk_ (fun hs_ => hs_.1) (fun hn_ => (.inr (Nat.le_trans (below_size (bh HB)) hn_))), Or.elim hk_ (fun hs_ => hs_.2.1) (fun hn_ => (Kd.fresh' (Kd.N_lt (hN HO_9)) k_ hn_)), Or.elim hk_ (fun hs_ => hs_.2.2.1) (fun hn_ => (gFr BK205 k_ hn_)), Or.elim hk_ (fun hs_ => hs_.2.2.2) (fun hn_ => (gFr BK219 k_ hn_))⟩)) (below_size (bh HB))); have HO231 := am_ (Kd.V_lower (Kd.V_mono (ok' := fun k_ => (P0_2_ k_ ∨ w.heap.size ≤ k_) ∧ some k_ ≠ (u9 : Value).ownBlock ∧ k_ ≠ gb205 ∧ k_ ≠ gb219) ho1 (fun k_ hk_ => ⟨Or.elim hk_ (fun hs_ => hs_.1) (fun hn_ => (.inr (Nat.le_trans (below_size (bh HB)) hn_))), Or.elim hk_ (fun hs_ => hs_.2.1) (fun hn_ => (Kd.fresh' (Kd.N_lt (hN HO_9)) k_ hn_)), Or.elim hk_ (fun hs_ => hs_.2.2.1) (fun hn_ => (gFr BK205 k_ hn_)), Or.elim hk_ (fun hs_ => hs_.2.2.2) (fun hn_ => (gFr BK219 k_ hn_))⟩)) (below_size (bh HB))); replace HO_9 := tNb HO_9 hb; replace BK205 := tBb BK205 hb; replace BK219 := tBb BK219 hb; replace HB := tHb HB hb; (try clear hb); (try clear ho0); (try clear ho1)) | ((with_reducible refine gd_ 11 ?_); refine be_ 11 #[.string (⟨#[]⟩ : ByteArray), .int .i64 0, .int .i64 0, .slice none 0 0, .slice none 0 0, .int .i64 0, .int .i64 0] 37 ?_; intro gb235 hg w56 hbox hb; replace HO_9 := tNe HO_9 hg hb; replace HO_206002 := tVe HO_206002 hg hb; replace HO_220003 := tVe HO_220003 hg hb; replace HO_220004 := tVe HO_220004 hg hb; replace HO228 := tVe HO228 hg hb; replace HO231 := tVe HO231 hg hb; have BK235 := am_ hbox; have GW235 := tG HB hg; have GE235 := tG HB hg; replace HB := tHb HB hb; have NB205_235 := tL BK205 hg; have NB235_205 := tR BK205 hg; replace BK205 := tBb BK205 hb; have NB219_235 := tL BK219 hg; have NB235_219 := tR BK219 hg; replace BK219 := tBb BK219 hb; clear hb hbox hg; have hnb57 := NB235_205.out; have hnc57 := NB205_235.out; have hnb58 := NB235_219.out; have hnc58 := NB219_235.out; obtain ⟨z59_0, z59_1, z59_2, z59_3, z59_4, z59_5, z59_6, y59_0, y59_1, y59_2, y59_3, y59_4, y59_5, y59_6⟩ := bx7 BK235; obtain ⟨Ao60, co60, eo60⟩ := Kd.V_slice HO228.out; subst eo60; obtain ⟨Ao61, co61, eo61⟩ := Kd.V_slice HO231.out; subst eo61) | ((with_reducible refine gate_store (t := 37) (p := 11) rfl ?_); refine se_ 37 11 (((((((w56.setCell ⟨gb235, 0, none⟩ (.string t223)).setCell ⟨gb235, 1, none⟩ (.int .i64 t224)).setCell ⟨gb235, 2, none⟩ (.int .i64 t225)).setCell ⟨gb235, 3, none⟩ (.slice Ao60 t226.length co60)).setCell ⟨gb235, 4, none⟩ (.slice Ao61 t229.length co61)).setCell ⟨gb235, 5, none⟩ (.int .i64 t232)).setCell ⟨gb235, 6, none⟩ (.int .i64 t233)) ?_; intro w62 hw; replace HO_9 : Asc (Kd.N k37 37 w62 w.heap.size (fun k_ => (P0_2_ k_ ∨ w.heap.size ≤ k_) ∧ k_ ≠ gb205 ∧ k_ ≠ gb219 ∧ k_ ≠ gb235) u9 x9_3) := ⟨(by rw [hw]; exact (gN HO_9))⟩; replace HO_206002 : Asc (Kd.V k37 37 w62 w.heap.size (fun k_ => (P0_2_ k_ ∨ w.heap.size ≤ k_) ∧ some k_ ≠ (u9 : Value).ownBlock ∧ k_ ≠ gb205 ∧ k_ ≠ gb219 ∧ k_ ≠ gb235) (.slice A0_2 l0_2.length c0_2) l0_2) := ⟨(by rw [hw]; exact (gV HO_206002))⟩; replace HO_220003 : Asc (Kd.V k129 129 w62 w.heap.size (fun k_ => (P0_2_ k_ ∨ w.heap.size ≤ k_) ∧ some k_ ≠ (u9 : Value).ownBlock ∧ k_ ≠ gb205 ∧ k_ ≠ gb219 ∧ k_ ≠ gb235) u220003 x220003_3) := ⟨(by rw [hw]; exact (gV HO_220003))⟩; replace HO_220004 : Asc (Kd.V Kd.string 9 w62 w.heap.size (fun k_ => (P0_2_ k_ ∨ w.heap.size ≤ k_) ∧ some k_ ≠ (u9 : Value).ownBlock ∧ k_ ≠ gb205 ∧ k_ ≠ gb219 ∧ k_ ≠ gb235) u220004 x220004_3) := ⟨(by rw [hw]; exact (gV HO_220004))⟩; replace HO228 : Asc (Kd.V k129 129 w62 w.heap.size (fun k_ => (P0_2_ k_ ∨ w.heap.size ≤ k_) ∧ some k_ ≠ (u9 : Value).ownBlock ∧ k_ ≠ gb205 ∧ k_ ≠ gb219 ∧ k_ ≠ gb235) (.slice Ao60 t226.length co60) t226) := ⟨(by rw [hw]; exact (gV HO228))⟩; replace HO231 : Asc (Kd.V Kd.string 9 w62 w.heap.size (fun k_ => (P0_2_ k_ ∨ w.heap.size ≤ k_) ∧ some k_ ≠ (u9 : Value).ownBlock ∧ k_ ≠ gb205 ∧ k_ ≠ gb219 ∧ k_ ≠ gb235) (.slice Ao61 t229.length co61) t229) := ⟨(by rw [hw]; exact (gV HO231))⟩; replace BK205 : Asc (w62.heap[gb205]? = some (.cells #[.int .i64 a0_0, .int .i64 a0_1, .slice A0_2 l0_2.length c0_2] 24 (0, 0))) := ⟨(by rw [hw]; exact (gB BK205))⟩; replace BK219 : Asc (w62.heap[gb219]? = some (.cells #[.string x220000_3, .int .i64 x220001_3, .int .i64 x220002_3, u220003, u220004, .int .i64 x220005_3, .int .i64 x220006_3] 37 (0, 0))) := ⟨(by rw [hw]; exact (gB BK219))⟩; replace BK235 : Asc (w62.heap[gb235]? = some (.cells #[.string t223, .int .i64 t224, .int .i64 t225, .slice Ao60 t226.length co60, .slice Ao61 t229.length co61, .int .i64 t232, .int .i64 t233] 37 (0, 0))) := ⟨(by rw [hw]; exact (gP BK235 rfl))⟩; replace HB : Asc (Below w.heap.size w w62) := ⟨(by rw [hw]; exact (bh HB))⟩; clear hw; obtain ⟨z63_0, z63_1, z63_2, y63_0, y63_1, y63_2⟩ := bx3 BK205; obtain ⟨z64_0, z64_1, z64_2, z64_3, z64_4, z64_5, z64_6, y64_0, y64_1, y64_2, y64_3, y64_4, y64_5, y64_6⟩ := bx7 BK219; obtain ⟨z65_0, z65_1, z65_2, z65_3, z65_4, z65_5, z65_6, y65_0, y65_1, y65_2, y65_3, y65_4, y65_5, y65_6⟩ := bx7 BK235) | (go_at_call 35; (with_reducible refine (G8.calls a0_0 a0_1 (fun k_ => ((P0_2_ k_ ∨ w.heap.size ≤ k_) ∧ (some k_ ≠ (u9 : Value).ownBlock ∧ (k_ ≠ gb205 ∧ (k_ ≠ gb219 ∧ k_ ≠ gb235))))) _ _ l0_2 x220000_3 t223 false _ ?side1 A28.out).mono ?_); (case side1 => exact HO_206002.out); rintro e w66 ⟨rfl, hb⟩; replace HO_9 := tNb HO_9 hb; replace HO_206002 := tVb HO_206002 hb; replace HO_220003 := tVb HO_220003 hb; replace HO_220004 := tVb HO_220004 hb; replace HO228 := tVb HO228 hb; replace HO231 := tVb HO231 hb; replace BK205 := tBb BK205 hb; replace BK219 := tBb BK219 hb; replace BK235 := tBb BK235 hb; replace HB := tHb HB hb; (try clear hb)))
            go_roundg kj22
            case measure => have := HK1.out; have := HJ6.out; have := HK3.out; have := HJ22.out; omega
            case rel => exact ⟨(x9_3), (wrap64 (x10_3 - 1)), (x220000_3), (x220001_3), (x220002_3), (x220003_3), (x220004_3), (x220005_3), (x220006_3), (u220003), (u220004), fr, H', ⟨by have := HK1.out; have := HJ6.out; have := HK3.out; have := HJ22.out; omega⟩, ⟨gN HO_9⟩, ⟨gV HO_206002⟩, ⟨gV HO_220003⟩, ⟨gV HO_220004⟩, ⟨gB BK205⟩, ⟨gB BK219⟩, ⟨bh HB⟩⟩
           rw [if_neg c27] at H
           have c27b0 : (t234 == 0) = false := beq_eq_false_iff_ne.mpr c27
           have c27b1 : (t234 != 0) = true := bne_iff_ne.mpr c27
           have H' := am_ H
           clear H
           have hnb67 := NB205_219.out
           have hnc67 := NB219_205.out
           obtain ⟨z68_0, z68_1, z68_2, y68_0, y68_1, y68_2⟩ := bx3 BK205
           go_wp2_with (first | ((with_reducible refine gate_callee (f := 34) rfl ?_); refine gl_ (some 49) Try.func34 #[.agg #[.int .i64 a0_0, .int .i64 a0_1, .slice A0_2 l0_2.length c0_2], .int .i64 x10_3] ?_; (with_reducible refine (G3.calls kj22 a0_0 a0_1 (fun k_ => ((P0_2_ k_ ∨ w.heap.size ≤ k_) ∧ (some k_ ≠ (u9 : Value).ownBlock ∧ (k_ ≠ gb205 ∧ k_ ≠ gb219)))) _ _ l0_2 x10_3 t223 t224 t225 t226 t229 t232 t233 t234 _ ?side1 A26.out).mono ?_); (case side1 => exact HO_206002.out); rintro e w69 ⟨v227, v230, rfl, ho0, ho1, hb⟩; refine ⟨_, rfl, ?_⟩; replace HO_206002 := tVb HO_206002 hb; replace HO_220003 := tVb HO_220003 hb; replace HO_220004 := tVb HO_220004 hb; have HO228 := am_ (Kd.V_lower (Kd.V_mono (ok' := fun k_ => (P0_2_ k_ ∨ w.heap.size ≤ k_) ∧ some k_ ≠ (u9 : Value).ownBlock ∧ k_ ≠ gb205 ∧ k_ ≠ gb219) ho0 (fun k_ hk_ => ⟨Or.elim hk_ (fun hs_ => hs_.1) (fun hn_ => (.inr (Nat.le_trans (below_size (bh HB)) hn_))), Or.elim hk_ (fun hs_ => hs_.2.1) (fun hn_ => (Kd.fresh' (Kd.N_lt (hN HO_9)) k_ hn_)), Or.elim hk_ (fun hs_ => hs_.2.2.1) (fun hn_ => (gFr BK205 k_ hn_)), Or.elim hk_ (fun hs_ => hs_.2.2.2) (fun hn_ => (gFr BK219 k_ hn_))⟩)) (below_size (bh HB))); have HO231 := am_ (Kd.V_lower (Kd.V_mono (ok' := fun k_ => (P0_2_ k_ ∨ w.heap.size ≤ k_) ∧ some k_ ≠ (u9 : Value).ownBlock ∧ k_ ≠ gb205 ∧ k_ ≠ gb219) ho1 (fun k_ hk_ => ⟨Or.elim hk_ (fun hs_ => hs_.1) (fun hn_ => (.inr (Nat.le_trans (below_size (bh HB)) hn_))), Or.elim hk_ (fun hs_ => hs_.2.1) (fun hn_ => (Kd.fresh' (Kd.N_lt (hN HO_9)) k_ hn_)), Or.elim hk_ (fun hs_ => hs_.2.2.1) (fun hn_ => (gFr BK205 k_ hn_)), Or.elim hk_ (fun hs_ => hs_.2.2.2) (fun hn_ => (gFr BK219 k_ hn_))⟩)) (below_size (bh HB))); replace HO_9 := tNb HO_9 hb; replace BK205 := tBb BK205 hb; replace BK219 := tBb BK219 hb; replace HB := tHb HB hb; (try clear hb); (try clear ho0); (try clear ho1)) | ((with_reducible refine gd_ 11 ?_); refine be_ 11 #[.string (⟨#[]⟩ : ByteArray), .int .i64 0, .int .i64 0, .slice none 0 0, .slice none 0 0, .int .i64 0, .int .i64 0] 37 ?_; intro gb235 hg w70 hbox hb; replace HO_9 := tNe HO_9 hg hb; replace HO_206002 := tVe HO_206002 hg hb; replace HO_220003 := tVe HO_220003 hg hb; replace HO_220004 := tVe HO_220004 hg hb; replace HO228 := tVe HO228 hg hb; replace HO231 := tVe HO231 hg hb; have BK235 := am_ hbox; have GW235 := tG HB hg; have GE235 := tG HB hg; replace HB := tHb HB hb; have NB205_235 := tL BK205 hg; have NB235_205 := tR BK205 hg; replace BK205 := tBb BK205 hb; have NB219_235 := tL BK219 hg; have NB235_219 := tR BK219 hg; replace BK219 := tBb BK219 hb; clear hb hbox hg; have hnb71 := NB235_205.out; have hnc71 := NB205_235.out; have hnb72 := NB235_219.out; have hnc72 := NB219_235.out; obtain ⟨z73_0, z73_1, z73_2, z73_3, z73_4, z73_5, z73_6, y73_0, y73_1, y73_2, y73_3, y73_4, y73_5, y73_6⟩ := bx7 BK235; obtain ⟨Ao74, co74, eo74⟩ := Kd.V_slice HO228.out; subst eo74; obtain ⟨Ao75, co75, eo75⟩ := Kd.V_slice HO231.out; subst eo75))
           go_roundg kj22
           case measure => have := HK1.out; have := HJ6.out; have := HK3.out; have := HJ22.out; omega
           case rel => exact ⟨(x9_3), (wrap64 (x10_3 - 1)), (x220000_3), (x220001_3), (x220002_3), (x220003_3), (x220004_3), (x220005_3), (x220006_3), (u220003), (u220004), fr, H', ⟨by have := HK1.out; have := HJ6.out; have := HK3.out; have := HJ22.out; omega⟩, ⟨gN HO_9⟩, ⟨gV HO_206002⟩, ⟨gV HO_220003⟩, ⟨gV HO_220004⟩, ⟨gB BK205⟩, ⟨gB BK219⟩, ⟨bh HB⟩⟩
          replace c25 := Bool.eq_false_iff.mpr c25
          subst c25
          rw [if_neg (show ¬ (false = true) by decide)] at H
          simp only [Option.some.injEq, Prod.mk.injEq] at H
          obtain ⟨rfl, rfl⟩ := H
          go_wp2
          simp only [Exit.jump]
          go_ret2
          exact ⟨_, fe, gN HO_9, bh HB⟩
     rw [if_neg c11] at H
     have c11b0 : (t218 == 0) = false := beq_eq_false_iff_ne.mpr c11
     have c11b1 : (t218 != 0) = true := bne_iff_ne.mpr c11
     have H' := am_ H
     clear H
     obtain ⟨z76_0, z76_1, z76_2, y76_0, y76_1, y76_2⟩ := bx3 BK205
     go_wp2_with (first | ((with_reducible refine gate_callee (f := 15) rfl ?_); refine gl_ (some 26) Try.func15 #[.agg #[.int .i64 a0_0, .int .i64 a0_1, .slice A0_2 l0_2.length c0_2], .int .i64 x6_1] ?_; (with_reducible refine (Fn.calls kj6 a0_0 a0_1 (fun k_ => ((P0_2_ k_ ∨ w.heap.size ≤ k_) ∧ k_ ≠ gb205)) _ _ l0_2 x6_1 t207 t208 t209 t210 t213 t216 t217 t218 _ ?side1 A10.out).mono ?_); (case side1 => exact HO_206002.out); rintro e w77 ⟨v211, v214, rfl, ho0, ho1, hb⟩; refine ⟨_, rfl, ?_⟩; replace HO_206002 := tVb HO_206002 hb; have HO212 := am_ (Kd.V_lower (Kd.V_mono (ok' := fun k_ => (P0_2_ k_ ∨ w.heap.size ≤ k_) ∧ k_ ≠ gb205) ho0 (fun k_ hk_ => ⟨Or.elim hk_ (fun hs_ => hs_.1) (fun hn_ => (.inr (Nat.le_trans (below_size (bh HB)) hn_))), Or.elim hk_ (fun hs_ => hs_.2) (fun hn_ => (gFr BK205 k_ hn_))⟩)) (below_size (bh HB))); have HO215 := am_ (Kd.V_lower (Kd.V_mono (ok' := fun k_ => (P0_2_ k_ ∨ w.heap.size ≤ k_) ∧ k_ ≠ gb205) ho1 (fun k_ hk_ => ⟨Or.elim hk_ (fun hs_ => hs_.1) (fun hn_ => (.inr (Nat.le_trans (below_size (bh HB)) hn_))), Or.elim hk_ (fun hs_ => hs_.2) (fun hn_ => (gFr BK205 k_ hn_))⟩)) (below_size (bh HB))); replace BK205 := tBb BK205 hb; replace HB := tHb HB hb; (try clear hb); (try clear ho0); (try clear ho1)) | ((with_reducible refine gd_ 7 ?_); refine be_ 7 #[.string (⟨#[]⟩ : ByteArray), .int .i64 0, .int .i64 0, .slice none 0 0, .slice none 0 0, .int .i64 0, .int .i64 0] 37 ?_; intro gb219 hg w78 hbox hb; replace HO_206002 := tVe HO_206002 hg hb; replace HO212 := tVe HO212 hg hb; replace HO215 := tVe HO215 hg hb; have BK219 := am_ hbox; have GW219 := tG HB hg; have GE219 := tG HB hg; replace HB := tHb HB hb; have NB205_219 := tL BK205 hg; have NB219_205 := tR BK205 hg; replace BK205 := tBb BK205 hb; clear hb hbox hg; have hnb79 := NB219_205.out; have hnc79 := NB205_219.out; obtain ⟨z80_0, z80_1, z80_2, z80_3, z80_4, z80_5, z80_6, y80_0, y80_1, y80_2, y80_3, y80_4, y80_5, y80_6⟩ := bx7 BK219; obtain ⟨Ao81, co81, eo81⟩ := Kd.V_slice HO212.out; subst eo81; obtain ⟨Ao82, co82, eo82⟩ := Kd.V_slice HO215.out; subst eo82))
     go_step3
     refine ⟨rfl, kj6, by have := HK1.out; have := HJ6.out; omega, F1.J_mk gb205 (wrap64 (x6_1 - 1)) rfl GE205 ⟨H', ⟨by have := HK1.out; have := HJ6.out; omega⟩, ⟨gV HO_206002⟩, ⟨gB BK205⟩, ⟨bh HB⟩⟩⟩

end Go.Proofs.Ytcbfnmabckjijaa.PTuskStops
