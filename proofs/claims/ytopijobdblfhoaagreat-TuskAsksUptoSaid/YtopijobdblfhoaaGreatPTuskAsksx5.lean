-- written by a program of this session (pp.py), out of the kit's print and this session's contracts
import Derived.Test.YtopijobdblfhoaaGreatPTuskAsksx0
import Derived.Test.YtopijobdblfhoaaGreatPTuskAsksx2
import Derived.Test.YtopijobdblfhoaaGreatPTuskAsksx3
import Derived.Test.YtopijobdblfhoaaGreatPTuskAsksx4
import Derived.Test.YtopijobdblfhoaaGreatVTuskAsksPi
namespace Go.Proofs.YtopijobdblfhoaaGreat.PTuskAsks
open Go.RowKit Go.Proofs.YtopijobdblfhoaaGreatW.PrintWords Go.Proofs.YtopijobdblfhoaaGreatW.PrintLast Go.Proofs.YtopijobdblfhoaaGreatW.PrintMore
set_option linter.unusedVariables false
set_option linter.unusedSimpArgs false

mutual
def F5.l0 : Nat → Int → Int → Int → Int → List (S32) → Option ((List (S32)) × Int)
 | 0, _, _, _, _, _ => none
 | k + 1, x1, x6, a0, n0, m0 => if x6 ≤ x1 then (none) else (F5.j1 k x1 x6 (decide (x6 < 1)) a0 n0 m0)
def F5.j1 : Nat → Int → Int → Bool → Int → Int → List (S32) → Option ((List (S32)) × Int)
 | 0, _, _, _, _, _, _ => none
 | k + 1, x1, x6, u0, m0, n0, o0 => if u0 = true then (none) else ((Fy.f k m0 n0 o0 x6).bind fun a0 => (if a0.2.2.2.2.2.2.2 = 0 then (F5.l1 k x1 x6 (([(⟨a0.1, (⟨a0.2.1, a0.2.2.1, a0.2.2.2.1, a0.2.2.2.2.1, (⟨a0.2.2.2.2.2.1, a0.2.2.2.2.2.2.1⟩ : S28)⟩ : S30)⟩ : S32)] : List (S32))) (wrap64 (x6 - 1)) m0 n0 o0 a0.1 a0.2.1 a0.2.2.1 a0.2.2.2.1 a0.2.2.2.2.1 a0.2.2.2.2.2.1 a0.2.2.2.2.2.2.1) else (none)))
def F5.l1 : Nat → Int → Int → List (S32) → Int → Int → Int → List (S32) → ByteArray → Int → Int → List (S107) → List ByteArray → Int → Int → Option ((List (S32)) × Int)
 | 0, _, _, _, _, _, _, _, _, _, _, _, _, _, _ => none
 | k + 1, x1, x6, x9, L0, a0, m0, C0, u0, n0, I0, A0, E0, o0, z0 => if L0 > x1 then (none) else (F5.j3 k x1 x6 x9 L0 false a0 m0 C0 u0 n0 I0 A0 E0 o0 z0)
def F5.j3 : Nat → Int → Int → List (S32) → Int → Bool → Int → Int → List (S32) → ByteArray → Int → Int → List (S107) → List ByteArray → Int → Int → Option ((List (S32)) × Int)
 | 0, _, _, _, _, _, _, _, _, _, _, _, _, _, _, _ => none
 | k + 1, x1, x6, x9, M0, L0, a0, m0, A0, u0, n0, E0, z0, C0, o0, I0 => if L0 = true then (none) else (some (x9, x6))
end
def F5.f (k : Nat) (a0_0 : Int) (a0_1 : Int) (l0_2 : List (S32)) (a1 : Int) : Option ((List (S32)) × Int) := (Fs.f k a0_0 a0_1 l0_2).bind fun a0 => (F5.l0 k a1 a0 a0_0 a0_1 l0_2)
def F5.J (k : Nat) (a0_0 : Int) (a0_1 : Int) (n0 : Nat → Prop) (A0_2 : Option Addr) (c0_2 : Nat) (l0_2 : List (S32)) (a1 : Int) (r1 : List (S32)) (r2 : Int) (w : World) (kq : Nat) (a' : Act) (w' : World) : Prop := ∃ (a0 : Nat) (m0 : Int) (f : Nat → Value), a' = { tmps := List.toArray (.agg #[.int .i64 a0_0, .int .i64 a0_1, .slice A0_2 l0_2.length c0_2] :: .int .i64 a1 :: .pointer (some ⟨a0, 0, none⟩) :: f 3 :: f 4 :: f 5 :: .int .i64 m0 :: f 7 :: f 8 :: f 9 :: f 10 :: f 11 :: f 12 :: f 13 :: f 14 :: f 15 :: f 16 :: f 17 :: f 18 :: f 19 :: f 20 :: f 21 :: f 22 :: f 23 :: f 24 :: f 25 :: f 26 :: f 27 :: f 28 :: f 29 :: f 30 :: f 31 :: f 32 :: f 33 :: f 34 :: f 35 :: f 36 :: f 37 :: f 38 :: f 39 :: f 40 :: f 41 :: f 42 :: f 43 :: f 44 :: f 45 :: f 46 :: f 47 :: f 48 :: f 49 :: f 50 :: f 51 :: f 52 :: f 53 :: f 54 :: f 55 :: f 56 :: f 57 :: f 58 :: f 59 :: f 60 :: f 61 :: f 62 :: f 63 :: f 64 :: f 65 :: f 66 :: f 67 :: f 68 :: f 69 :: f 70 :: f 71 :: f 72 :: f 73 :: f 74 :: []), defers := [] } ∧ Asc (w.heap.size ≤ a0) ∧ Asc (F5.l0 kq a1 m0 a0_0 a0_1 l0_2 = some (r1, r2)) ∧ Asc (kq ≤ k) ∧ Asc (Kd.V k32 32 w' w.heap.size (fun k_ => (n0 k_ ∨ w.heap.size ≤ k_) ∧ k_ ≠ a0) (.slice A0_2 l0_2.length c0_2) l0_2) ∧ Asc (w'.heap[a0]? = some (.cells #[.int .i64 a0_0, .int .i64 a0_1, (.slice A0_2 l0_2.length c0_2)] 24 (0, 0))) ∧ Asc (Below w.heap.size w w')
theorem F5.J_mk {k : Nat} {a0_0 : Int} {a0_1 : Int} {m0 : Nat → Prop} {A0_2 : Option Addr} {c0_2 : Nat} {l0_2 : List (S32)} {a1 : Int} {r1 : List (S32)} {r2 : Int} {w : World} {kq : Nat} {a' : Act} {w' : World} (a0 : Nat) (n0 : Int) (h : a' = { tmps := List.toArray (.agg #[.int .i64 a0_0, .int .i64 a0_1, .slice A0_2 l0_2.length c0_2] :: .int .i64 a1 :: .pointer (some ⟨a0, 0, none⟩) :: a'.tmps.getD 3 undef :: a'.tmps.getD 4 undef :: a'.tmps.getD 5 undef :: .int .i64 n0 :: a'.tmps.getD 7 undef :: a'.tmps.getD 8 undef :: a'.tmps.getD 9 undef :: a'.tmps.getD 10 undef :: a'.tmps.getD 11 undef :: a'.tmps.getD 12 undef :: a'.tmps.getD 13 undef :: a'.tmps.getD 14 undef :: a'.tmps.getD 15 undef :: a'.tmps.getD 16 undef :: a'.tmps.getD 17 undef :: a'.tmps.getD 18 undef :: a'.tmps.getD 19 undef :: a'.tmps.getD 20 undef :: a'.tmps.getD 21 undef :: a'.tmps.getD 22 undef :: a'.tmps.getD 23 undef :: a'.tmps.getD 24 undef :: a'.tmps.getD 25 undef :: a'.tmps.getD 26 undef :: a'.tmps.getD 27 undef :: a'.tmps.getD 28 undef :: a'.tmps.getD 29 undef :: a'.tmps.getD 30 undef :: a'.tmps.getD 31 undef :: a'.tmps.getD 32 undef :: a'.tmps.getD 33 undef :: a'.tmps.getD 34 undef :: a'.tmps.getD 35 undef :: a'.tmps.getD 36 undef :: a'.tmps.getD 37 undef :: a'.tmps.getD 38 undef :: a'.tmps.getD 39 undef :: a'.tmps.getD 40 undef :: a'.tmps.getD 41 undef :: a'.tmps.getD 42 undef :: a'.tmps.getD 43 undef :: a'.tmps.getD 44 undef :: a'.tmps.getD 45 undef :: a'.tmps.getD 46 undef :: a'.tmps.getD 47 undef :: a'.tmps.getD 48 undef :: a'.tmps.getD 49 undef :: a'.tmps.getD 50 undef :: a'.tmps.getD 51 undef :: a'.tmps.getD 52 undef :: a'.tmps.getD 53 undef :: a'.tmps.getD 54 undef :: a'.tmps.getD 55 undef :: a'.tmps.getD 56 undef :: a'.tmps.getD 57 undef :: a'.tmps.getD 58 undef :: a'.tmps.getD 59 undef :: a'.tmps.getD 60 undef :: a'.tmps.getD 61 undef :: a'.tmps.getD 62 undef :: a'.tmps.getD 63 undef :: a'.tmps.getD 64 undef :: a'.tmps.getD 65 undef :: a'.tmps.getD 66 undef :: a'.tmps.getD 67 undef :: a'.tmps.getD 68 undef :: a'.tmps.getD 69 undef :: a'.tmps.getD 70 undef :: a'.tmps.getD 71 undef :: a'.tmps.getD 72 undef :: a'.tmps.getD 73 undef :: a'.tmps.getD 74 undef :: []), defers := [] }) (h1 : Asc (w.heap.size ≤ a0)) (h2 : Asc (F5.l0 kq a1 n0 a0_0 a0_1 l0_2 = some (r1, r2)) ∧ Asc (kq ≤ k) ∧ Asc (Kd.V k32 32 w' w.heap.size (fun k_ => (m0 k_ ∨ w.heap.size ≤ k_) ∧ k_ ≠ a0) (.slice A0_2 l0_2.length c0_2) l0_2) ∧ Asc (w'.heap[a0]? = some (.cells #[.int .i64 a0_0, .int .i64 a0_1, (.slice A0_2 l0_2.length c0_2)] 24 (0, 0))) ∧ Asc (Below w.heap.size w w')) : F5.J k a0_0 a0_1 m0 A0_2 c0_2 l0_2 a1 r1 r2 w kq a' w' := ⟨a0, n0, fun i => a'.tmps.getD i undef, h, h1, h2⟩
set_option maxHeartbeats 8000000 in
set_option maxRecDepth 100000 in
theorem F5.calls (k : Nat) (a0_0 : Int) (a0_1 : Int) (o0 : Nat → Prop) (A0_2 : Option Addr) (c0_2 : Nat) (l0_2 : List (S32)) (a1 : Int) (r1 : List (S32)) (r2 : Int) (w : World) (U3 : Kd.V k32 32 w w.heap.size (fun k_ => o0 k_) (.slice A0_2 l0_2.length c0_2) l0_2) (h : F5.f k a0_0 a0_1 l0_2 a1 = some (r1, r2)) :
  Calls Tryz.prog 19 #[.agg #[.int .i64 a0_0, .int .i64 a0_1, .slice A0_2 l0_2.length c0_2], .int .i64 a1] w fun e w' => ∃ m5 : Value, e = .returned (.tuple #[m5, .int .i64 r2]) ∧ Kd.N k32 32 w' w.heap.size (fun k_ => (o0 k_ ∨ w.heap.size ≤ k_)) m5 r1 ∧ Below w.heap.size w w' := by
 have N5 := Tryz.underlying24
 have O5 := Tryz.underlying32
 have u0 := am_ (show Kd.V k32 32 w w.heap.size (fun k_ => (o0 k_ ∨ w.heap.size ≤ k_)) (.slice A0_2 l0_2.length c0_2) l0_2 from Kd.V_mono U3 (fun k_ hk => .inl hk))
 have HB := am_ (Below.refl w.heap.size w)
 have H : ((Fs.f k a0_0 a0_1 l0_2).bind fun i2 => (F5.l0 k a1 i2 a0_0 a0_1 l0_2)) = some (r1, r2) := h
 clear h
 replace H := Option.bind_eq_some_iff.mp H
 obtain ⟨i2, C5, H⟩ := H
 try dsimp only at H
 have A3 := am_ C5
 clear C5
 have H' := am_ H
 clear H
 go_enter Tryz.func19, Tryz.ntmps19
 go_wp2_with (first | ((with_reducible refine gd_ 2 ?_); refine be_ 2 #[.int .i64 a0_0, .int .i64 a0_1, .slice A0_2 l0_2.length c0_2] 24 ?_; intro m0 hg w4 hbox hb; replace u0 := tVe u0 hg hb; have a0 := am_ hbox; have N2 := tG HB hg; have V1 := tG HB hg; replace HB := tHb HB hb; clear hb hbox hg; obtain ⟨s4, u3, R4, Y4, X3, E4⟩ := bx3 a0) | ((with_reducible refine gate_callee (f := 16) rfl ?_); refine gl_ (some 14) Tryz.func16 #[.agg #[.int .i64 a0_0, .int .i64 a0_1, .slice A0_2 l0_2.length c0_2]] ?_; (with_reducible refine (Fs.calls k a0_0 a0_1 _ _ l0_2 i2 _ ?O1 ?J2 A3.out).mono ?_); (case O1 => repeat (first | exact (Kd.V_reads' u0.out).2.2 | (with_reducible refine Kd.C_alloc ?_ _) | (with_reducible refine Kd.C_drewN ?_ _) | (with_reducible refine Kd.C_drew ?_))); (case J2 => exact (Kd.V_reads' u0.out).2.1); rintro e w6 ⟨rfl, hb⟩; refine ⟨_, rfl, ?_⟩; replace u0 := tVb u0 hb; replace a0 := tBb a0 hb; replace HB := tHb HB hb; (try clear hb)))
 refine wp_label_ghost 0 (F5.J k a0_0 a0_1 o0 A0_2 c0_2 l0_2 a1 r1 r2 w) rfl ?pass ?first
 case first =>
  intro hrest_
  go_wp2_with (first | ((with_reducible refine gd_ 2 ?_); refine be_ 2 #[.int .i64 a0_0, .int .i64 a0_1, .slice A0_2 l0_2.length c0_2] 24 ?_; intro m0 hg w4 hbox hb; replace u0 := tVe u0 hg hb; have a0 := am_ hbox; have N2 := tG HB hg; have V1 := tG HB hg; replace HB := tHb HB hb; clear hb hbox hg; obtain ⟨s4, u3, R4, Y4, X3, E4⟩ := bx3 a0) | ((with_reducible refine gate_callee (f := 16) rfl ?_); refine gl_ (some 14) Tryz.func16 #[.agg #[.int .i64 a0_0, .int .i64 a0_1, .slice A0_2 l0_2.length c0_2]] ?_; (with_reducible refine (Fs.calls k a0_0 a0_1 _ _ l0_2 i2 _ ?O1 ?J2 A3.out).mono ?_); (case O1 => repeat (first | exact (Kd.V_reads' u0.out).2.2 | (with_reducible refine Kd.C_alloc ?_ _) | (with_reducible refine Kd.C_drewN ?_ _) | (with_reducible refine Kd.C_drew ?_))); (case J2 => exact (Kd.V_reads' u0.out).2.1); rintro e w6 ⟨rfl, hb⟩; refine ⟨_, rfl, ?_⟩; replace u0 := tVb u0 hb; replace a0 := tBb a0 hb; replace HB := tHb HB hb; (try clear hb)))
  try go_step3
  try simp only [Exit.then]
  refine (by assumption : ∀ (a : Act) (w : World), Code.wp Tryz.prog _ _ a w → _) _ _ (hrest_ _ _ k (F5.J_mk m0 (i2) rfl V1 ⟨H', ⟨Nat.le_refl _⟩, ⟨hV u0⟩, ⟨gB a0⟩, ⟨bh HB⟩⟩))
 case pass =>
  clear H' a0 N2 V1 s4 u3 R4 Y4 X3 E4 u0 HB
  rintro gk a_ wr ⟨m0, X0, f, rfl, V1, HA, A5, HO_206002, a0, HB⟩
  cases gk with
  | zero => exact absurd HA.out (by simp [F5.l0])
  | succ k1 =>
   have H := HA.out
   clear HA
   simp only [F5.l0] at H
   have i5 := am_ H
   clear H
   go_upto_region 2 with (fail)
   go_cut [21] (fun K5 wc => ∃ (kq : Nat) (U1 : Bool), K5 = .bool U1 ∧ Asc (F5.j1 kq a1 X0 U1 a0_0 a0_1 l0_2 = some (r1, r2)) ∧ Asc (kq ≤ k1) ∧ Asc (Kd.V k32 32 wc w.heap.size (fun k_ => (o0 k_ ∨ w.heap.size ≤ k_) ∧ k_ ≠ m0) (.slice A0_2 l0_2.length c0_2) l0_2) ∧ Asc (wc.heap[m0]? = some (.cells #[.int .i64 a0_0, .int .i64 a0_1, (.slice A0_2 l0_2.length c0_2)] 24 (0, 0))) ∧ Asc (Below w.heap.size w wc))
   case first =>
    have H := i5.out
    clear i5
    by_cases c8 : X0 ≤ a1
    ·
     rw [if_pos c8] at H
     exact absurd H (by simp)
    rw [if_neg c8] at H
    have O4 : decide (X0 ≤ a1) = false := decide_eq_false c8
    clear c8
    (first | rw [O4] | (simp only [i64_w, i32_w]; rw [O4]) | skip)
    have H' := am_ H
    clear H
    go_wp2
    go_meet
    case rel => exact ⟨_, (decide (X0 < 1)), fr, H', ⟨by have := A5.out; first | omega | exact Nat.le_refl _⟩, ⟨hV HO_206002⟩, ⟨gB a0⟩, ⟨bh HB⟩⟩
   case rest =>
    clear i5
    obtain ⟨kq, U1, rfl, HA, U5, HO_206002, a0, HB⟩ := hcut
    cases kq with
    | zero => exact absurd HA.out (by simp [F5.j1])
    | succ a5 =>
     have H := HA.out
     clear HA
     simp only [F5.j1] at H
     by_cases c9 : U1 = true
     ·
      subst c9
      have H1 : (none) = some (r1, r2) := by rw [if_pos rfl] at H; exact H
      exact absurd H1 (by simp)
     replace c9 := Bool.eq_false_iff.mpr c9
     subst c9
     rw [if_neg (show ¬ (false = true) by decide)] at H
     replace H := Option.bind_eq_some_iff.mp H
     obtain ⟨⟨Z0, D1, i1, W0, V0, Y0, C1, Z2⟩, W3, H⟩ := H
     try dsimp only at H
     have L5 := am_ W3
     clear W3
     revert H
     refine gi' (fun j5 H => ?_)
     have U4 : (Z2 == 0) = true := beq_iff_eq.mpr j5
     have m3 : (Z2 != 0) = false := bne_eq_false_iff_eq.mpr j5
     clear j5
     obtain ⟨j4, Q1⟩ : ∃ y_ : List (S32), y_ = (([(⟨Z0, (⟨D1, i1, W0, V0, (⟨Y0, C1⟩ : S28)⟩ : S30)⟩ : S32)] : List (S32))) := ⟨_, rfl⟩
     replace H : (F5.l1 a5 a1 X0 j4 (wrap64 (X0 - 1)) a0_0 a0_1 l0_2 Z0 D1 i1 W0 V0 Y0 C1) = some (r1, r2) := by first | (rw [Q1]; with_reducible exact H) | (have H := (Option.bind_some _ _).symm.trans H; first | (rw [Q1]; with_reducible exact H) | with_reducible exact H) | with_reducible exact H | (rw [Q1]; exact H) | exact H
     have V2 := am_ Q1
     clear Q1
     have H' := am_ H
     clear H
     obtain ⟨Q3, k4, i3, a4, C3, L3⟩ := bx3 a0
     go_wp2_with (first | ((with_reducible refine gate_callee (f := 11) rfl ?_); refine gl_ (some 26) Tryz.func11 #[.agg #[.int .i64 a0_0, .int .i64 a0_1, .slice A0_2 l0_2.length c0_2], .int .i64 X0] ?_; (with_reducible refine (Fy.calls a5 a0_0 a0_1 (fun k_ => ((o0 k_ ∨ w.heap.size ≤ k_) ∧ k_ ≠ m0)) _ _ l0_2 X0 Z0 D1 i1 W0 V0 Y0 C1 Z2 _ ?O1 L5.out).mono ?_); (case O1 => exact HO_206002.out); rintro e W5 ⟨P5, R5, rfl, k5, l5, hb⟩; refine ⟨_, rfl, ?_⟩; replace HO_206002 := tVb HO_206002 hb; have P0 := lo (fun k_ => (o0 k_ ∨ w.heap.size ≤ k_) ∧ k_ ≠ m0) k5 (fun k_ hk_ => ⟨Or.elim hk_ (fun hs_ => hs_.1) (fun hn_ => (.inr (Nat.le_trans (below_size (bh HB)) hn_))), Or.elim hk_ (fun hs_ => hs_.2) (fun hn_ => (gFr a0 k_ hn_))⟩) HB; have O0 := lo (fun k_ => (o0 k_ ∨ w.heap.size ≤ k_) ∧ k_ ≠ m0) l5 (fun k_ hk_ => ⟨Or.elim hk_ (fun hs_ => hs_.1) (fun hn_ => (.inr (Nat.le_trans (below_size (bh HB)) hn_))), Or.elim hk_ (fun hs_ => hs_.2) (fun hn_ => (gFr a0 k_ hn_))⟩) HB; replace a0 := tBb a0 hb; replace HB := tHb HB hb; (try clear hb k5 l5)) | ((with_reducible refine gd_ 7 ?_); refine be_ 7 #[.string (⟨#[]⟩ : ByteArray), .int .i64 0, .int .i64 0, .slice none 0 0, .slice none 0 0, .int .i64 0, .int .i64 0] 32 ?_; intro n0 hg D5 hbox hb; replace HO_206002 := tVe HO_206002 hg hb; replace P0 := tVe P0 hg hb; replace O0 := tVe O0 hg hb; have N0 := am_ hbox; have s5 := tG HB hg; have p5 := tG HB hg; replace HB := tHb HB hb; obtain ⟨a3, X1⟩ := tN a0 hg; replace a0 := tBb a0 hb; clear hb hbox hg; obtain ⟨_, _⟩ := n2 X1; obtain ⟨m4, L4, V3, N3, Z4, J4, S3, u4, J3, b3, I3, Q4, X4, V4⟩ := bx7 N0; obtain ⟨Z1, L2, rfl⟩ := Kd.V_slice P0.out; obtain ⟨C2, D2, rfl⟩ := Kd.V_slice O0.out) | ((with_reducible refine gate_store (t := 32) (p := 7) rfl ?_); refine se_ 32 7 (((((((D5.setCell ⟨n0, 0, none⟩ (.string Z0)).setCell ⟨n0, 1, none⟩ (.int .i64 D1)).setCell ⟨n0, 2, none⟩ (.int .i64 i1)).setCell ⟨n0, 3, none⟩ (.slice Z1 W0.length L2)).setCell ⟨n0, 4, none⟩ (.slice C2 V0.length D2)).setCell ⟨n0, 5, none⟩ (.int .i64 Y0)).setCell ⟨n0, 6, none⟩ (.int .i64 C1)) ?_; intro E5 hw; replace HO_206002 := gVw (fun k_ => (o0 k_ ∨ w.heap.size ≤ k_) ∧ k_ ≠ m0 ∧ k_ ≠ n0) HO_206002 hw; replace P0 := gVw (fun k_ => (o0 k_ ∨ w.heap.size ≤ k_) ∧ k_ ≠ m0 ∧ k_ ≠ n0) P0 hw; replace O0 := gVw (fun k_ => (o0 k_ ∨ w.heap.size ≤ k_) ∧ k_ ≠ m0 ∧ k_ ≠ n0) O0 hw; replace a0 := sB a0 hw; replace N0 := sP #[.string Z0, .int .i64 D1, .int .i64 i1, .slice Z1 W0.length L2, .slice C2 V0.length D2, .int .i64 Y0, .int .i64 C1] N0 hw; replace HB := sH HB hw; clear hw; obtain ⟨P4, N4, l4, i4, I4, D3, S4, K4, C4, D4, W4, M4, Z3, Y3⟩ := bx7 N0) | ((with_reducible refine gd_ 34 ?_); refine Kd.N_lit k32 _ 32 ?hg (N' := 34) ?hd (xs := ([(⟨Z0, (⟨D1, i1, W0, V0, (⟨Y0, C1⟩ : S28)⟩ : S30)⟩ : S32)] : List (S32))) (inner := [.string Z0, .int .i64 D1, .int .i64 i1, .slice Z1 W0.length L2, .slice C2 V0.length D2, .int .i64 Y0, .int .i64 C1]) (ok := (fun k_ => (o0 k_ ∨ w.heap.size ≤ k_) ∧ k_ ≠ m0 ∧ k_ ≠ n0)) (okp := (fun k_ => (o0 k_ ∨ w.heap.size ≤ k_) ∧ k_ ≠ m0 ∧ k_ ≠ n0)) ?hr ?hp (fun _ hk => hk) ((show ∀ k_, E5.heap.size ≤ k_ → (fun k_ => (o0 k_ ∨ w.heap.size ≤ k_) ∧ k_ ≠ m0 ∧ k_ ≠ n0) k_ from fun k_ hk => ⟨(.inr (Nat.le_trans (below_size (bh HB)) hk)), gFr a0 k_ hk, gFr N0 k_ hk⟩) _ (Nat.le_refl _)) (Below.refl _ _) (Nat.le_refl _) (by simp) ?_; (case hd => rfl); (case hg => rfl); (case hr => first | (go_simp; done) | (go_simp; rfl)); (case hp => exact (Reps.c7 (show Kd.FK k32 _ _ (⟨Z0, (⟨D1, i1, W0, V0, (⟨Y0, C1⟩ : S28)⟩ : S30)⟩ : S32) [.string Z0, .int .i64 D1, .int .i64 i1, .slice Z1 W0.length L2, .slice C2 V0.length D2, .int .i64 Y0, .int .i64 C1] from (k32_mkF _ _ (⟨Z0, (⟨D1, i1, W0, V0, (⟨Y0, C1⟩ : S28)⟩ : S30)⟩ : S32) (Kd.V_reads' (Kd.V_mono (ok' := (fun k_ => (o0 k_ ∨ w.heap.size ≤ k_) ∧ k_ ≠ m0 ∧ k_ ≠ n0)) (P0.out) (fun k_ hk => ⟨hk.1, ⟨hk.2.1, hk.2.2⟩⟩))).2.1 (Kd.V_F (Kd.V_mono (ok' := (fun k_ => (o0 k_ ∨ w.heap.size ≤ k_) ∧ k_ ≠ m0 ∧ k_ ≠ n0)) (P0.out) (fun k_ hk => ⟨hk.1, ⟨hk.2.1, hk.2.2⟩⟩))) (Kd.V_reads' (Kd.V_mono (ok' := (fun k_ => (o0 k_ ∨ w.heap.size ≤ k_) ∧ k_ ≠ m0 ∧ k_ ≠ n0)) (O0.out) (fun k_ hk => ⟨hk.1, ⟨hk.2.1, hk.2.2⟩⟩))).2.1 (Kd.V_F (Kd.V_mono (ok' := (fun k_ => (o0 k_ ∨ w.heap.size ≤ k_) ∧ k_ ≠ m0 ∧ k_ ≠ n0)) (O0.out) (fun k_ hk => ⟨hk.1, ⟨hk.2.1, hk.2.2⟩⟩))))) (Reps.none _ _))); intro I5 V5 P1 hb hg_ hnew_; clear hg_ hnew_; (first | rw [← V2.out] at P1 | (simp only [Int.reduceToNat] at P1; rw [← V2.out] at P1)); replace HO_206002 := am_ (Kd.V_elder' (hV HO_206002) (Kd.N_base P1) hb); replace P0 := am_ (Kd.V_elder' (hV P0) (Kd.N_base P1) hb); replace O0 := am_ (Kd.V_elder' (hV O0) (Kd.N_base P1) hb); have l3 := am_ (Kd.N_lower P1 (below_size (bh HB))); replace a0 := tBb a0 hb; replace N0 := tBb N0 hb; replace HB := tHb HB hb; clear hb P1))
     go_loopg [9, 10] a5 (fun kq v9 Q5 w' => ∃ (Y1 : List (S32)) (L1 : Int) (L0 : ByteArray) (z0 : Int) (I0 : Int) (C0 : List (S107)) (A0 : List ByteArray) (M0 : Int) (E0 : Int) (Q0 : Value) (U0 : Value), Q5 = .int .i64 L1 ∧ Asc (F5.l1 kq a1 X0 Y1 L1 a0_0 a0_1 l0_2 L0 z0 I0 C0 A0 M0 E0 = some (r1, r2)) ∧ Asc (kq ≤ a5) ∧ Asc (Kd.N k32 32 w' w.heap.size (fun k_ => (o0 k_ ∨ w.heap.size ≤ k_) ∧ k_ ≠ m0 ∧ k_ ≠ n0) v9 Y1) ∧ Asc (Kd.V k32 32 w' w.heap.size (fun k_ => (o0 k_ ∨ w.heap.size ≤ k_) ∧ some k_ ≠ (v9 : Value).ownBlock ∧ k_ ≠ m0 ∧ k_ ≠ n0) (.slice A0_2 l0_2.length c0_2) l0_2) ∧ Asc (Kd.V k107 107 w' w.heap.size (fun k_ => (o0 k_ ∨ w.heap.size ≤ k_) ∧ some k_ ≠ (v9 : Value).ownBlock ∧ k_ ≠ m0 ∧ k_ ≠ n0) Q0 C0) ∧ Asc (Kd.V Kd.string 9 w' w.heap.size (fun k_ => (o0 k_ ∨ w.heap.size ≤ k_) ∧ some k_ ≠ (v9 : Value).ownBlock ∧ k_ ≠ m0 ∧ k_ ≠ n0) U0 A0) ∧ Asc (w'.heap[m0]? = some (.cells #[.int .i64 a0_0, .int .i64 a0_1, (.slice A0_2 l0_2.length c0_2)] 24 (0, 0))) ∧ Asc (w'.heap[n0]? = some (.cells #[.string L0, .int .i64 z0, .int .i64 I0, Q0, U0, .int .i64 M0, .int .i64 E0] 32 (0, 0))) ∧ Asc (Below w.heap.size w w'))
     case atStart => exact ⟨(j4), (wrap64 (X0 - 1)), (Z0), (D1), (i1), (W0), (V0), (Y0), (C1), (.slice Z1 W0.length L2), (.slice C2 V0.length D2), fr, H', ⟨Nat.le_refl _⟩, ⟨hN l3⟩, ⟨gV HO_206002⟩, ⟨gV P0⟩, ⟨gV O0⟩, ⟨gB a0⟩, ⟨gB N0⟩, ⟨bh HB⟩⟩
     case round =>
      clear H'
      try clear c9 U4 m3 Q3 k4 i3 m4 L4 V3 N3 Z4 J4 S3 P4 N4 l4 i4 I4 D3 S4 a4 C3 L3 u4 J3 b3 I3 Q4 X4 V4 K4 C4 D4 W4 M4 Z3 Y3
      obtain ⟨Y1, L1, L0, z0, I0, C0, A0, M0, E0, Q0, U0, rfl, HA, S5, HO_9, HO_206002, HO_220003, HO_220004, a0, N0, HB⟩ := hrel
      cases gk with
      | zero => exact absurd HA.out (by simp [F5.l1])
      | succ k3 =>
       have H := HA.out
       clear HA
       simp only [F5.l1] at H
       have Y2 := am_ H
       clear H
       go_upto_region 9 with (fail)
       go_cut [43] (fun v43 wc => ∃ (kq : Nat) (N1 : Bool), v43 = .bool N1 ∧ Asc (F5.j3 kq a1 X0 Y1 L1 N1 a0_0 a0_1 l0_2 L0 z0 I0 C0 A0 M0 E0 = some (r1, r2)) ∧ Asc (kq ≤ k3) ∧ Asc (Kd.N k32 32 wc w.heap.size (fun k_ => (o0 k_ ∨ w.heap.size ≤ k_) ∧ k_ ≠ m0 ∧ k_ ≠ n0) u9 Y1) ∧ Asc (Kd.V k32 32 wc w.heap.size (fun k_ => (o0 k_ ∨ w.heap.size ≤ k_) ∧ some k_ ≠ (u9 : Value).ownBlock ∧ k_ ≠ m0 ∧ k_ ≠ n0) (.slice A0_2 l0_2.length c0_2) l0_2) ∧ Asc (Kd.V k107 107 wc w.heap.size (fun k_ => (o0 k_ ∨ w.heap.size ≤ k_) ∧ some k_ ≠ (u9 : Value).ownBlock ∧ k_ ≠ m0 ∧ k_ ≠ n0) Q0 C0) ∧ Asc (Kd.V Kd.string 9 wc w.heap.size (fun k_ => (o0 k_ ∨ w.heap.size ≤ k_) ∧ some k_ ≠ (u9 : Value).ownBlock ∧ k_ ≠ m0 ∧ k_ ≠ n0) U0 A0) ∧ Asc (wc.heap[m0]? = some (.cells #[.int .i64 a0_0, .int .i64 a0_1, (.slice A0_2 l0_2.length c0_2)] 24 (0, 0))) ∧ Asc (wc.heap[n0]? = some (.cells #[.string L0, .int .i64 z0, .int .i64 I0, Q0, U0, .int .i64 M0, .int .i64 E0] 32 (0, 0))) ∧ Asc (Below w.heap.size w wc))
       case first =>
        have H := Y2.out
        clear Y2
        by_cases b5 : L1 > a1
        ·
         rw [if_pos b5] at H
         exact absurd H (by simp)
        rw [if_neg b5] at H
        have Q2 : decide (a1 < L1) = false := decide_eq_false b5
        clear b5
        (first | rw [Q2] | (simp only [i64_w, i32_w]; rw [Q2]) | skip)
        have H' := am_ H
        clear H
        go_wp2
        go_meet
        case rel => exact ⟨_, (false), fr, H', ⟨by have := A5.out; have := U5.out; have := S5.out; first | omega | exact Nat.le_refl _⟩, ⟨hN HO_9⟩, ⟨hV HO_206002⟩, ⟨hV HO_220003⟩, ⟨hV HO_220004⟩, ⟨gB a0⟩, ⟨gB N0⟩, ⟨bh HB⟩⟩
       case rest =>
        clear Y2
        obtain ⟨kq, N1, rfl, HA, M5, HO_9, HO_206002, HO_220003, HO_220004, a0, N0, HB⟩ := hcut
        cases kq with
        | zero => exact absurd HA.out (by simp [F5.j3])
        | succ J5 =>
         have H := HA.out
         clear HA
         simp only [F5.j3] at H
         by_cases c5 : N1 = true
         ·
          subst c5
          have H1 : (none) = some (r1, r2) := by rw [if_pos rfl] at H; exact H
          exact absurd H1 (by simp)
         replace c5 := Bool.eq_false_iff.mpr c5
         subst c5
         rw [if_neg (show ¬ (false = true) by decide)] at H
         simp only [Option.some.injEq, Prod.mk.injEq] at H
         obtain ⟨rfl, rfl⟩ := H
         go_wp2
         simp only [Exit.jump]
         go_ret2
         exact ⟨_, fe, gN HO_9, bh HB⟩
end Go.Proofs.YtopijobdblfhoaaGreat.PTuskAsks
