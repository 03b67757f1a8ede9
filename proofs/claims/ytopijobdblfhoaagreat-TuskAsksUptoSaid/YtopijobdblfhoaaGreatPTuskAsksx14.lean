-- written by a program of this session (pp.py), out of the kit's print and this session's contracts
import Derived.Test.YtopijobdblfhoaaGreatPTuskAsksx0
import Derived.Test.YtopijobdblfhoaaGreatPTuskAsksx6
import Derived.Test.YtopijobdblfhoaaGreatPTuskAsksx9
import Derived.Test.YtopijobdblfhoaaGreatPTuskAsksx10
import Derived.Test.YtopijobdblfhoaaGreatPTuskAsksx11
import Derived.Test.YtopijobdblfhoaaGreatPTuskAsksx12
import Derived.Test.YtopijobdblfhoaaGreatPTuskAsksx13
import Derived.Test.YtopijobdblfhoaaGreatVTuskAsksPi
namespace Go.Proofs.YtopijobdblfhoaaGreat.PTuskAsks
open Go.RowKit Go.Proofs.YtopijobdblfhoaaGreatW.PrintWords Go.Proofs.YtopijobdblfhoaaGreatW.PrintLast Go.Proofs.YtopijobdblfhoaaGreatW.PrintMore
set_option linter.unusedVariables false
set_option linter.unusedSimpArgs false

mutual
def Ff.j0 : Nat → ByteArray → Int → Int → Bool → Option ((List (S28)))
 | 0, _, _, _, _ => none
 | k + 1, x0, x1, x2, a0 => if a0 = true then (none) else (Ff.l0 k x0 x1 x2 ([] : List (S28)) 0)
def Ff.l0 : Nat → ByteArray → Int → Int → List (S28) → Int → Option ((List (S28)))
 | 0, _, _, _, _, _ => none
 | k + 1, x0, x1, x2, x8, x9 => (G9.f x2).bind fun u0 => (if x9 < u0 then ((H5.f x0).bind fun a0 => (if 1 + a0.size ≤ 9223372036854775807 then ((Ga.f (IntKind.u64.wrap (x1))).bind fun m0 => (if ((⟨#[99]⟩ : ByteArray) ++ a0).size + m0.size ≤ 9223372036854775807 then ((Ga.f (IntKind.u64.wrap (x9))).bind fun o0 => (if (((⟨#[99]⟩ : ByteArray) ++ a0) ++ m0).size + o0.size ≤ 9223372036854775807 then ((Gk.f ((((⟨#[99]⟩ : ByteArray) ++ a0) ++ m0) ++ o0)).bind fun n0 => ((Fo.f k n0 0).bind fun z0 => ((Fo.f k n0 4).bind fun A0 => (if x8.length < 8796093022208 then (Ff.l0 k x0 x1 x2 (x8 ++ [(⟨z0, A0⟩ : S28)]) (wrap64 (x9 + 1))) else (none))))) else (none))) else (none))) else (none))) else (some x8))
end
def Ff.f (k : Nat) (a0 : ByteArray) (a1 : Int) (a2 : Int) : Option ((List (S28))) := (Fm.f a2).bind fun m0 => (if a1 < 1 then (none) else (Ff.j0 k a0 a1 a2 (!m0)))
theorem Ff.mono_l : ∀ k, (∀ y0 y1 y2 y3, LeO (Ff.j0 k y0 y1 y2 y3) (Ff.j0 (k + 1) y0 y1 y2 y3)) ∧ (∀ y0 y1 y2 y3 y4, LeO (Ff.l0 k y0 y1 y2 y3 y4) (Ff.l0 (k + 1) y0 y1 y2 y3 y4))
 | 0 => ⟨fun _ _ _ _ r h => by simp [Ff.j0] at h, fun _ _ _ _ _ r h => by simp [Ff.l0] at h⟩
 | k + 1 => by
  obtain ⟨m0, a0⟩ := Ff.mono_l k
  refine ⟨?_, ?_⟩
  ·
   intro y0 y1 y2 y3
   unfold Ff.j0
   repeat' first | (with_reducible first | exact m0 _ _ _ _ | exact a0 _ _ _ _ _ | exact Fo.mono _ _ _ | exact LeO.refl _ | exact LeO.none _ | refine LeO.ite ?_ ?_ | refine LeO.bind ?_ (fun _ => ?_)) | exact m0 _ _ _ _ | exact a0 _ _ _ _ _ | refine LeO.ite ?_ ?_ | refine LeO.bind ?_ (fun _ => ?_)
  intro y0 y1 y2 y3 y4
  unfold Ff.l0
  repeat' first | (with_reducible first | exact m0 _ _ _ _ | exact a0 _ _ _ _ _ | exact Fo.mono _ _ _ | exact LeO.refl _ | exact LeO.none _ | refine LeO.ite ?_ ?_ | refine LeO.bind ?_ (fun _ => ?_)) | exact m0 _ _ _ _ | exact a0 _ _ _ _ _ | refine LeO.ite ?_ ?_ | refine LeO.bind ?_ (fun _ => ?_)
theorem Ff.mono : ∀ a0 a1 a2 k, LeO (Ff.f k a0 a1 a2) (Ff.f (k + 1) a0 a1 a2) := by
 intro a0 a1 a2 k
 obtain ⟨n0, m0⟩ := Ff.mono_l k
 unfold Ff.f
 repeat' first | (with_reducible first | exact n0 _ _ _ _ | exact m0 _ _ _ _ _ | exact Fo.mono _ _ _ | exact LeO.refl _ | exact LeO.none _ | refine LeO.ite ?_ ?_ | refine LeO.bind ?_ (fun _ => ?_)) | exact n0 _ _ _ _ | exact m0 _ _ _ _ _ | refine LeO.ite ?_ ?_ | refine LeO.bind ?_ (fun _ => ?_)
set_option maxHeartbeats 8000000 in
set_option maxRecDepth 100000 in
theorem Ff.calls (k : Nat) (a0 : ByteArray) (a1 : Int) (a2 : Int) (r : List (S28)) (w : World) (h : Ff.f k a0 a1 a2 = some r) :
  Calls Tryz.prog 65 #[.string a0, .int .i64 a1, .int .i64 a2] w fun e w' => ∃ i2 : Value, e = .returned (i2) ∧ Kd.R k28 28 w' w.heap.size (fun _ => True) i2 r ∧ Below w.heap.size w w' := by
 have i3 := Tryz.underlying28
 have HB := am_ (Below.refl w.heap.size w)
 have H : ((Fm.f a2).bind fun N0 => (if a1 < 1 then (none) else (Ff.j0 k a0 a1 a2 (!N0)))) = some r := h
 clear h
 replace H := Option.bind_eq_some_iff.mp H
 obtain ⟨N0, V1, H⟩ := H
 try dsimp only at H
 have A4 := am_ V1
 clear V1
 have P1 := am_ H
 clear H
 go_enter Tryz.func65, Tryz.ntmps65
 go_upto_region 2 with (first | ((with_reducible refine gate_callee (f := 54) rfl ?_); refine gl_ (some 12) Tryz.func54 #[.int .i64 a2] ?_; (with_reducible refine (Fm.calls a2 N0 _ A4.out).mono ?_); rintro e w' ⟨rfl, ⟨nd, rfl⟩⟩; refine ⟨_, rfl, ?_⟩))
 (try simp only [Act.put, List.setIfInBounds_toArray, List.set_cons_zero, List.set_cons_succ])
 go_cut [18] (fun D3 wc => ∃ (kq : Nat) (z0 : Bool), D3 = .bool z0 ∧ Asc (Ff.j0 kq a0 a1 a2 z0 = some r) ∧ Asc (kq ≤ k) ∧ Asc (Below w.heap.size w wc))
 case first =>
  have H := P1.out
  clear P1
  by_cases c6 : a1 < 1
  ·
   rw [if_pos c6] at H
   exact absurd H (by simp)
  rw [if_neg c6] at H
  have X0 : decide (a1 < 1) = false := decide_eq_false c6
  clear c6
  (first | rw [X0] | (simp only [i64_w, i32_w]; rw [X0]) | skip)
  have H' := am_ H
  clear H
  go_wp2
  go_meet
  case rel => exact ⟨_, (!N0), fr, H', ⟨by first | omega | exact Nat.le_refl _⟩, ⟨bh HB⟩⟩
 case rest =>
  clear P1
  obtain ⟨kq, z0, rfl, HA, V2, HB⟩ := hcut
  cases kq with
  | zero => exact absurd HA.out (by simp [Ff.j0])
  | succ Q2 =>
   have H := HA.out
   clear HA
   simp only [Ff.j0] at H
   by_cases c7 : z0 = true
   ·
    subst c7
    have H1 : (none) = some r := by rw [if_pos rfl] at H; exact H
    exact absurd H1 (by simp)
   replace c7 := Bool.eq_false_iff.mpr c7
   subst c7
   rw [if_neg (show ¬ (false = true) by decide)] at H
   have H' := am_ H
   clear H
   go_wp2
   go_loopg [8, 9] Q2 (fun kq v8 v9 w' => ∃ (L0 : List (S28)) (m0 : Int), v9 = .int .i64 m0 ∧ Asc (Ff.l0 kq a0 a1 a2 L0 m0 = some r) ∧ Asc (kq ≤ Q2) ∧ Asc (Kd.R k28 28 w' w.heap.size (fun _ => True) v8 L0) ∧ Asc (Below w.heap.size w w'))
   case atStart => exact ⟨(([] : List (S28))), (0), fr, H', ⟨Nat.le_refl _⟩, ⟨kn⟩, ⟨bh HB⟩⟩
   case round =>
    clear H'
    try clear c7
    obtain ⟨L0, m0, rfl, HA, J2, HO_8, HB⟩ := hrel
    cases gk with
    | zero => exact absurd HA.out (by simp [Ff.l0])
    | succ k2 =>
     have H := HA.out
     clear HA
     simp only [Ff.l0] at H
     replace H := Option.bind_eq_some_iff.mp H
     obtain ⟨A0, C2, H⟩ := H
     try dsimp only at H
     have A8 := am_ C2
     clear C2
     by_cases c9 : m0 < A0
     ·
      rw [if_pos c9] at H
      have O1 : decide (m0 < A0) = true := decide_eq_true c9
      clear c9
      replace H := Option.bind_eq_some_iff.mp H
      obtain ⟨n0, P0, H⟩ := H
      try dsimp only at H
      have C3 := am_ P0
      clear P0
      revert H
      refine gi' (fun N1 H => ?_)
      have D2 := eq_true N1
      have Y1 : decide (1 + n0.size ≤ 9223372036854775807) = true := decide_eq_true N1
      try have U1 : (9223372036854775807 < 1 + n0.size) = False := eq_false (Nat.not_lt.2 N1)
      replace H := Option.bind_eq_some_iff.mp H
      obtain ⟨u0, W0, H⟩ := H
      try dsimp only at H
      have k3 := am_ W0
      clear W0
      revert H
      refine gi' (fun L1 H => ?_)
      have Y2 := eq_true L1
      have N2 : decide (((⟨#[99]⟩ : ByteArray) ++ n0).size + u0.size ≤ 9223372036854775807) = true := decide_eq_true L1
      have c13u := L1
      (try simp only [ByteArray.size_append] at c13u)
      (try simp only [show ∀ x : UInt8, (⟨#[x]⟩ : ByteArray).size = 1 from fun _ => rfl] at c13u)
      have c13v := eq_false (Nat.not_lt.2 c13u)
      replace c13u := eq_true c13u
      try have L2 : (9223372036854775807 < ((⟨#[99]⟩ : ByteArray) ++ n0).size + u0.size) = False := eq_false (Nat.not_lt.2 L1)
      replace H := Option.bind_eq_some_iff.mp H
      obtain ⟨M0, Y0, H⟩ := H
      try dsimp only at H
      have b3 := am_ Y0
      clear Y0
      revert H
      refine gi' (fun D1 H => ?_)
      have Q1 := eq_true D1
      have X1 : decide ((((⟨#[99]⟩ : ByteArray) ++ n0) ++ u0).size + M0.size ≤ 9223372036854775807) = true := decide_eq_true D1
      have c15u := D1
      (try simp only [ByteArray.size_append] at c15u)
      (try simp only [show ∀ x : UInt8, (⟨#[x]⟩ : ByteArray).size = 1 from fun _ => rfl] at c15u)
      have c15v := eq_false (Nat.not_lt.2 c15u)
      replace c15u := eq_true c15u
      try have Z1 : (9223372036854775807 < (((⟨#[99]⟩ : ByteArray) ++ n0) ++ u0).size + M0.size) = False := eq_false (Nat.not_lt.2 D1)
      replace H := Option.bind_eq_some_iff.mp H
      obtain ⟨C0, O0, H⟩ := H
      try dsimp only at H
      have l3 := am_ O0
      clear O0
      replace H := Option.bind_eq_some_iff.mp H
      obtain ⟨E0, Q0, H⟩ := H
      try dsimp only at H
      have m3 := am_ Q0
      clear Q0
      replace H := Option.bind_eq_some_iff.mp H
      obtain ⟨I0, Z0, H⟩ := H
      try dsimp only at H
      have u3 := am_ Z0
      clear Z0
      revert H
      refine gi' (fun Z2 H => ?_)
      have U0 := am_ Z2
      clear Z2
      obtain ⟨C1, o0⟩ : ∃ y_ : List (S28), y_ = (L0 ++ [(⟨E0, I0⟩ : S28)]) := ⟨_, rfl⟩
      replace H : (Ff.l0 k2 a0 a1 a2 C1 (wrap64 (m0 + 1))) = some r := by first | (rw [o0]; with_reducible exact H) | (have H := (Option.bind_some _ _).symm.trans H; first | (rw [o0]; with_reducible exact H) | with_reducible exact H) | with_reducible exact H | (rw [o0]; exact H) | exact H
      have V0 := am_ o0
      clear o0
      have H' := am_ H
      clear H
      go_wp2_with (first | ((with_reducible refine gate_callee (f := 32) rfl ?_); refine gl_ (some 21) Tryz.func32 #[.int .i64 a2] ?_; (with_reducible refine (G9.calls a2 A0 _ A8.out).mono ?_); rintro e w' ⟨rfl, ⟨nd, rfl⟩⟩; refine ⟨_, rfl, ?_⟩) | ((with_reducible refine gate_callee (f := 85) rfl ?_); refine gl_ (some 26) Tryz.func85 #[.string a0] ?_; (with_reducible refine (H5.calls a0 n0 _ C3.out).mono ?_); rintro e J3 ⟨rfl, hb⟩; refine ⟨_, rfl, ?_⟩; replace HO_8 := tRb HO_8 hb; replace HB := tHb HB hb; (try clear hb)) | ((with_reducible refine gate_callee (f := 86) rfl ?_); refine gl_ (some 30) Tryz.func86 #[.int .u64 (IntKind.u64.wrap (a1))] ?_; (with_reducible refine (Ga.calls (IntKind.u64.wrap (a1)) u0 _ k3.out).mono ?_); rintro e Q3 ⟨rfl, hb⟩; refine ⟨_, rfl, ?_⟩; replace HO_8 := tRb HO_8 hb; replace HB := tHb HB hb; (try clear hb)) | ((with_reducible refine gate_callee (f := 86) rfl ?_); refine gl_ (some 34) Tryz.func86 #[.int .u64 (IntKind.u64.wrap (m0))] ?_; (with_reducible refine (Ga.calls (IntKind.u64.wrap (m0)) M0 _ b3.out).mono ?_); rintro e N3 ⟨rfl, hb⟩; refine ⟨_, rfl, ?_⟩; replace HO_8 := tRb HO_8 hb; replace HB := tHb HB hb; (try clear hb)) | ((with_reducible refine gate_callee (f := 67) rfl ?_); refine gl_ (some 36) Tryz.func67 #[.string ((((⟨#[99]⟩ : ByteArray) ++ n0) ++ u0) ++ M0)] ?_; (with_reducible refine (Gk.calls ((((⟨#[99]⟩ : ByteArray) ++ n0) ++ u0) ++ M0) C0 _ l3.out).mono ?_); rintro e L3 ⟨rfl, hb⟩; refine ⟨_, rfl, ?_⟩; replace HO_8 := tRb HO_8 hb; replace HB := tHb HB hb; (try clear hb)) | ((with_reducible refine gate_callee (f := 87) rfl ?_); refine gl_ (some 39) Tryz.func87 #[.string C0, .int .i64 0] ?_; (with_reducible refine (Fo.calls k2 C0 0 E0 _ m3.out).mono ?_); rintro e w' ⟨rfl, ⟨nd, rfl⟩⟩; refine ⟨_, rfl, ?_⟩) | ((with_reducible refine gate_callee (f := 87) rfl ?_); refine gl_ (some 41) Tryz.func87 #[.string C0, .int .i64 4] ?_; (with_reducible refine (Fo.calls k2 C0 4 I0 _ u3.out).mono ?_); rintro e w' ⟨rfl, ⟨nd, rfl⟩⟩; refine ⟨_, rfl, ?_⟩) | ((with_reducible refine gate_builtin (b := .append) (xs := #[.tmp 37, .tmp 43]) rfl ?_); at_builtin; refine Kd.R_append k28 (w0 := w) w.heap.size rfl (.tmp 37) (.tmp 43) 94 28 (.agg #[(.int .i64 0), (.int .i64 0)]) 16 rfl Tryz.underlying94 info28 rfl (by decide) (by omega) u8 L0 (⟨E0, I0⟩ : S28) [.int .i64 E0, .int .i64 I0] (fun _ => True) (fun _ => False) rfl rfl ?aP (fun _ hk => hk.elim) ?aF ?aO ?aB ?aS ?aL ?_; (case aP => exact k28_mkM _ _ _ (⟨E0, I0⟩ : S28)); (case aB => exact (bh HB)); (case aF => exact (fun _ _ => trivial)); (case aO => exact (hR HO_8)); (case aS => exact (below_size (bh HB))); (case aL => have := U0.out; omega); intro a3 I3 ho hb hg hat; rw [← V0.out] at ho; replace HB := am_ hb; have i1 := am_ (ho); clear HO_8 ho hb hg hat))
      go_roundg k2
      case measure => have := V2.out; have := J2.out; omega
      case rel => exact ⟨(C1), (wrap64 (m0 + 1)), fr, H', ⟨by have := V2.out; have := J2.out; omega⟩, ⟨hR i1⟩, ⟨bh HB⟩⟩
     rw [if_neg c9] at H
     have O1 : decide (m0 < A0) = false := decide_eq_false c9
     clear c9
     obtain rfl := Option.some.inj H
     go_wp2_with (first | ((with_reducible refine gate_callee (f := 32) rfl ?_); refine gl_ (some 21) Tryz.func32 #[.int .i64 a2] ?_; (with_reducible refine (G9.calls a2 A0 _ A8.out).mono ?_); rintro e w' ⟨rfl, ⟨nd, rfl⟩⟩; refine ⟨_, rfl, ?_⟩))
     go_ret
     exact ⟨_, fe, hR HO_8, bh HB⟩

def Gd.f (k : Nat) (a0 : ByteArray) (a1 : Int) (a2 : Int) (a3 : Int) : Option (Int × Int) := (Ff.f k a0 a1 a2).bind fun n0 => ((Fi.f k n0 a3).bind fun m0 => (some (m0.2.1, m0.2.2.1)))
theorem Gd.mono : ∀ a0 a1 a2 a3 k, LeO (Gd.f k a0 a1 a2 a3) (Gd.f (k + 1) a0 a1 a2 a3) := by
 intro a0 a1 a2 a3 k
 unfold Gd.f
 repeat' first | (with_reducible first | exact Fi.mono _ _ _ | exact Ff.mono _ _ _ _ | exact LeO.refl _ | exact LeO.none _ | refine LeO.ite ?_ ?_ | refine LeO.bind ?_ (fun _ => ?_)) | refine LeO.ite ?_ ?_ | refine LeO.bind ?_ (fun _ => ?_)
set_option maxHeartbeats 8000000 in
set_option maxRecDepth 100000 in
theorem Gd.calls (k : Nat) (a0 : ByteArray) (a1 : Int) (a2 : Int) (a3 : Int) (r1 : Int) (r2 : Int) (w : World) (h : Gd.f k a0 a1 a2 a3 = some (r1, r2)) :
  Calls Tryz.prog 44 #[.string a0, .int .i64 a1, .int .i64 a2, .int .i64 a3] w fun e w' => e = .returned (.agg #[.int .i64 r1, .int .i64 r2]) ∧ Below w.heap.size w w' := by
 have C1 := Tryz.underlying28
 have P1 := Tryz.underlying76
 have HB := am_ (Below.refl w.heap.size w)
 have H : ((Ff.f k a0 a1 a2).bind fun u0 => ((Fi.f k u0 a3).bind fun z0 => (some (z0.2.1, z0.2.2.1)))) = some (r1, r2) := h
 clear h
 replace H := Option.bind_eq_some_iff.mp H
 obtain ⟨u0, W0, H⟩ := H
 try dsimp only at H
 have A5 := am_ W0
 clear W0
 replace H := Option.bind_eq_some_iff.mp H
 obtain ⟨⟨O0, E0, I0, P0⟩, i1, H⟩ := H
 try dsimp only at H
 have A6 := am_ i1
 clear i1
 simp only [Option.some.injEq, Prod.mk.injEq] at H
 obtain ⟨rfl, rfl⟩ := H
 go_enter Tryz.func44, Tryz.ntmps44
 go_wp2_with (first | ((with_reducible refine gd_ 8 ?_); refine be_ 8 #[.int .i64 0, .int .i64 0] 28 ?_; intro A0 hg w7 hbox hb; have m0 := am_ hbox; have X0 := tG HB hg; have Z0 := tG HB hg; replace HB := tHb HB hb; clear hb hbox hg) | ((with_reducible refine gate_callee (f := 65) rfl ?_); refine gl_ (some 15) Tryz.func65 #[.string a0, .int .i64 a1, .int .i64 a2] ?_; (with_reducible refine (Ff.calls k a0 a1 a2 u0 _ A5.out).mono ?_); rintro e w8 ⟨N1, rfl, U0, hb⟩; refine ⟨_, rfl, ?_⟩; have n0 := am_ (Kd.R_lower (Kd.R_newB U0 (g := A0) (o := .cells #[.int .i64 0, .int .i64 0] 28 (0, 0)) (gB m0)) (below_size (bh HB))); replace m0 := tBb m0 hb; replace HB := tHb HB hb; (try clear hb U0); obtain ⟨D1, O1, L1⟩ := Kd.R_slice n0.out; subst L1) | ((with_reducible refine gate_callee (f := 64) rfl ?_); refine gl_ (some 17) Tryz.func64 #[.slice D1 u0.length O1, .int .i64 a3] ?_; (with_reducible refine (Fi.calls k _ _ u0 a3 O0 E0 I0 P0 _ ?L0 ?N0 A6.out).mono ?_); (case L0 => repeat (first | exact (Kd.R_reads' n0.out).2.2 | (with_reducible refine Kd.C_alloc ?_ _) | (with_reducible refine Kd.C_drewN ?_ _) | (with_reducible refine Kd.C_drew ?_))); (case N0 => exact (Kd.R_reads' n0.out).2.1); rintro e Q1 ⟨rfl, hb⟩; refine ⟨_, rfl, ?_⟩; replace n0 := tRb n0 hb; replace m0 := tBb m0 hb; replace HB := tHb HB hb; (try clear hb)) | ((with_reducible refine gd_ 9 ?_); refine be_ 9 #[.int .i64 0, .int .i64 0, .int .i64 0] 76 ?_; intro Y0 hg U1 hbox hb; replace n0 := tRb n0 hb; have M0 := am_ hbox; have Q0 := tG HB hg; have V0 := tG HB hg; replace HB := tHb HB hb; obtain ⟨C0, o0⟩ := tN m0 hg; replace m0 := tBb m0 hb; clear hb hbox hg; obtain ⟨_, _⟩ := n2 o0; obtain ⟨_, _, _, _, _, _⟩ := bx3 M0; obtain ⟨_, _, _, _⟩ := bx2 m0))
 refine bodyPost_ret (results_cell_row rfl _ _ A0 28 #[.int .i64 E0, .int .i64 I0] (0, 0) _ rfl (gP m0 rfl) Tryz.underlying28 rfl (by kernel_rfl)) rfl ?_
 exact ⟨fe, bh HB⟩

def Fq.l0 : Nat → List ByteArray → ByteArray → Int → Option (List ByteArray)
 | 0, _, _, _ => none
 | k + 1, x0, x1, x5 => if x5 < (x0.length : Int) then (if 0 ≤ x5 then (if (Op.bytesLess ((rdOf ByteArray.empty x0 x5).toList) x1.toList) = true then (Fq.l0 k x0 x1 (wrap64 (x5 + 1))) else ((some (([] : List ByteArray) : List ByteArray)).bind fun o0 => (if x5 ≤ (x0.length : Int) then (if o0.length + (x0.take (x5 : Int).toNat).length < 8796093022208 then ((some (o0 ++ (x0.take (x5 : Int).toNat) : List ByteArray)).bind fun a0 => (if a0.length < 8796093022208 then ((some (a0 ++ [x1] : List ByteArray)).bind fun u0 => (if u0.length + (x0.drop (x5 : Int).toNat).length < 8796093022208 then (some (u0 ++ (x0.drop (x5 : Int).toNat))) else (none))) else (none))) else (none)) else (none)))) else (none)) else ((some (([] : List ByteArray) : List ByteArray)).bind fun n0 => (if 0 ≤ x5 then (if x5 ≤ (x0.length : Int) then (if n0.length + (x0.take (x5 : Int).toNat).length < 8796093022208 then ((some (n0 ++ (x0.take (x5 : Int).toNat) : List ByteArray)).bind fun z0 => (if z0.length < 8796093022208 then ((some (z0 ++ [x1] : List ByteArray)).bind fun m0 => (if m0.length + (x0.drop (x5 : Int).toNat).length < 8796093022208 then (some (m0 ++ (x0.drop (x5 : Int).toNat))) else (none))) else (none))) else (none)) else (none)) else (none)))
def Fq.f (k : Nat) (l0 : List ByteArray) (a1 : ByteArray) : Option (List ByteArray) := Fq.l0 k l0 a1 0
theorem Fq.mono_l : ∀ k, (∀ y0 y1 y2, LeO (Fq.l0 k y0 y1 y2) (Fq.l0 (k + 1) y0 y1 y2))
 | 0 => fun _ _ _ r h => by simp [Fq.l0] at h
 | k + 1 => by
  have a0 := Fq.mono_l k
  ·
   intro y0 y1 y2
   unfold Fq.l0
   repeat' first | (with_reducible first | exact a0 _ _ _ | exact LeO.refl _ | exact LeO.none _ | refine LeO.ite ?_ ?_ | refine LeO.bind ?_ (fun _ => ?_)) | exact a0 _ _ _ | refine LeO.ite ?_ ?_ | refine LeO.bind ?_ (fun _ => ?_)
theorem Fq.mono : ∀ a0 a1 k, LeO (Fq.f k a0 a1) (Fq.f (k + 1) a0 a1) := by
 intro a0 a1 k
 have m0 := Fq.mono_l k
 unfold Fq.f
 repeat' first | (with_reducible first | exact m0 _ _ _ | exact LeO.refl _ | exact LeO.none _ | refine LeO.ite ?_ ?_ | refine LeO.bind ?_ (fun _ => ?_)) | exact m0 _ _ _ | refine LeO.ite ?_ ?_ | refine LeO.bind ?_ (fun _ => ?_)
set_option maxHeartbeats 8000000 in
set_option maxRecDepth 100000 in
theorem Fq.calls (k : Nat) (A0 : Option Addr) (c0 : Nat) (l0 : List ByteArray) (a1 : ByteArray) (r : List ByteArray) (w : World) (k5 : Kd.C Kd.string w A0 l0.length l0) (R4 : l0.length ≤ c0) (h : Fq.f k l0 a1 = some r) :
  Calls Tryz.prog 48 #[.slice A0 l0.length c0, .string a1] w fun e w' => ∃ W4 : Value, e = .returned (W4) ∧ Kd.R Kd.string 9 w' w.heap.size (fun _ => True) W4 r ∧ Below w.heap.size w w' := by
 have Y2 := am_ k5
 have a4 := am_ R4
 clear k5 R4
 have HB := am_ (Below.refl w.heap.size w)
 have H : (Fq.l0 k l0 a1 0) = some r := h
 clear h
 have H' := am_ H
 clear H
 go_enter Tryz.func48, Tryz.ntmps48
 go_wp2
 go_loopg [5] k (fun kq v5 w' => ∃ (a0 : Int), v5 = .int .i64 a0 ∧ Asc (Fq.l0 kq l0 a1 a0 = some r) ∧ Asc (kq ≤ k) ∧ Asc (Below w.heap.size w w'))
 case atStart => exact ⟨(0), fr, H', ⟨Nat.le_refl _⟩, ⟨bh HB⟩⟩
 case round =>
  clear H'
  obtain ⟨a0, rfl, HA, l5, HB⟩ := hrel
  cases gk with
  | zero => exact absurd HA.out (by simp [Fq.l0])
  | succ k1 =>
   have H := HA.out
   clear HA
   simp only [Fq.l0] at H
   by_cases c3 : a0 < (l0.length : Int)
   ·
    rw [if_pos c3] at H
    have O4 : decide (a0 < (l0.length : Int)) = true := decide_eq_true c3
    clear c3
    revert H
    refine gi (fun O5 H => ?_)
    by_cases c5 : (Op.bytesLess ((rdOf ByteArray.empty l0 a0).toList) a1.toList) = true
    ·
     rw [if_pos c5] at H
     have i4 : (Op.bytesLess ((rdOf ByteArray.empty l0 a0).toList) a1.toList) = true := c5
     clear c5
     have H' := am_ H
     clear H
     have O0 : 0 ≤ (a0 : Int) := dt
     have U0 : a0 < (l0.length : Int) := dt
     obtain ⟨X0, V2, m0⟩ := Kd.at_string Y2.out a0 O0 U0
     cases V2
     replace m0 := ce HB m0
     replace O0 := eq_true O0
     replace U0 := eq_true U0
     go_wp2
     go_roundg k1
     case measure => have := l5.out; omega
     case rel => exact ⟨(wrap64 (a0 + 1)), fr, H', kS l5, ⟨bh HB⟩⟩
    rw [if_neg c5] at H
    have i4 : (Op.bytesLess ((rdOf ByteArray.empty l0 a0).toList) a1.toList) = false := by simpa using c5
    clear c5
    obtain ⟨C1, u0⟩ : ∃ y_ : List ByteArray, y_ = (([] : List ByteArray)) := ⟨_, rfl⟩
    replace H : (if a0 ≤ (l0.length : Int) then (if C1.length + (l0.take (a0 : Int).toNat).length < 8796093022208 then ((some (C1 ++ (l0.take (a0 : Int).toNat) : List ByteArray)).bind fun Q0 => (if Q0.length < 8796093022208 then ((some (Q0 ++ [a1] : List ByteArray)).bind fun n0 => (if n0.length + (l0.drop (a0 : Int).toNat).length < 8796093022208 then (some (n0 ++ (l0.drop (a0 : Int).toNat))) else (none))) else (none))) else (none)) else (none)) = some r := by first | (rw [u0]; with_reducible exact H) | (have H := (Option.bind_some _ _).symm.trans H; first | (rw [u0]; with_reducible exact H) | with_reducible exact H) | with_reducible exact H | (rw [u0]; exact H) | exact H
    have X1 := am_ u0
    clear u0
    have D5 := eq_true (dt : 0 ≤ a0)
    revert H
    refine gi' (fun c7 H => ?_)
    have I5 := eq_true c7
    have N5 : decide (a0 ≤ (l0.length : Int)) = true := decide_eq_true c7
    clear c7
    revert H
    refine gi' (fun c8 H => ?_)
    have J4 := am_ c8
    clear c8
    obtain ⟨Q0, L0⟩ : ∃ y_ : List ByteArray, y_ = (C1 ++ (l0.take (a0 : Int).toNat)) := ⟨_, rfl⟩
    replace H : (if Q0.length < 8796093022208 then ((some (Q0 ++ [a1] : List ByteArray)).bind fun n0 => (if n0.length + (l0.drop (a0 : Int).toNat).length < 8796093022208 then (some (n0 ++ (l0.drop (a0 : Int).toNat))) else (none))) else (none)) = some r := by first | (rw [L0]; with_reducible exact H) | (have H := (Option.bind_some _ _).symm.trans H; first | (rw [L0]; with_reducible exact H) | with_reducible exact H) | with_reducible exact H | (rw [L0]; exact H) | exact H
    have V3 := am_ L0
    clear L0
    revert H
    refine gi' (fun c9 H => ?_)
    have k4 := am_ c9
    clear c9
    obtain ⟨n0, z0⟩ : ∃ y_ : List ByteArray, y_ = (Q0 ++ [a1]) := ⟨_, rfl⟩
    replace H : (if n0.length + (l0.drop (a0 : Int).toNat).length < 8796093022208 then (some (n0 ++ (l0.drop (a0 : Int).toNat))) else (none)) = some r := by first | (rw [z0]; with_reducible exact H) | (have H := (Option.bind_some _ _).symm.trans H; first | (rw [z0]; with_reducible exact H) | with_reducible exact H) | with_reducible exact H | (rw [z0]; exact H) | exact H
    have D3 := am_ z0
    clear z0
    have V4 := eq_true (dt : 0 ≤ a0)
    have p5 := eq_true (dt : a0 ≤ (l0.length : Int))
    revert H
    refine gi' (fun Z4 H => ?_)
    have X3 := am_ Z4
    clear Z4
    obtain ⟨m4, C0⟩ : ∃ y_ : List ByteArray, y_ = (n0 ++ (l0.drop (a0 : Int).toNat)) := ⟨_, rfl⟩
    replace H : (some m4) = some r := by first | (rw [C0]; with_reducible exact H) | (have H := (Option.bind_some _ _).symm.trans H; first | (rw [C0]; with_reducible exact H) | with_reducible exact H) | with_reducible exact H | (rw [C0]; exact H) | exact H
    have W3 := am_ C0
    clear C0
    obtain rfl := Option.some.inj H
    have O0 : 0 ≤ (a0 : Int) := dt
    have U0 : a0 < (l0.length : Int) := dt
    obtain ⟨X0, V2, m0⟩ := Kd.at_string Y2.out a0 O0 U0
    cases V2
    replace m0 := ce HB m0
    replace O0 := eq_true O0
    replace U0 := eq_true U0
    go_wp2_with (first | ((with_reducible refine gd_ 21 ?_); refine Kd.R_lit Kd.string _ 9 ?hg (N := 21) ?hd (xs := ([] : List ByteArray)) (inner := []) (ok := fun _ => True) (okp := fun _ => True) ?hr ?hp (fun _ hk => hk) trivial (Below.refl _ _) (Nat.le_refl _) (by simp) ?_; (case hd => rfl); (case hg => rfl); (case hr => first | (go_simp; done) | (go_simp; rfl)); (case hp => exact (Reps.none _ _)); intro N4 Y5 Y0 hb hg_ hnew_; clear hg_ hnew_; (first | rw [← X1.out] at Y0 | (simp only [Int.reduceToNat] at Y0; rw [← X1.out] at Y0)); have N1 := am_ (Kd.R_lower Y0 (below_size (bh HB))); replace HB := tHb HB hb; clear hb Y0; obtain ⟨K5, L2, _, Q2, _⟩ := info_parts info9; obtain ⟨D4, i3, l3⟩ := print_take_of (P := Tryz.prog) Value.string (⟨#[]⟩ : ByteArray) 26 9 .i64 Tryz.underlying26 L2 Q2 (some X0) c0 l0 a0 (dt) (dt) a4.out; have V0 := am_ (Kd.C_of_reads (h1 := fun _ => rfl) (i3 _ (Kd.reads_of_C Y2.out))); have m5 := am_ l3; clear i3 l3 L2 Q2) | ((with_reducible refine gate_builtin (b := .append) (xs := #[.tmp 21, .tmp 24]) rfl ?_); at_builtin; refine Kd.R_append_rows Kd.string (w0 := w) w.heap.size rfl (.tmp 21) (.tmp 24) 26 9 (.string ⟨#[]⟩) 16 rfl Tryz.underlying26 info9 rfl (by decide) (by omega) N4 C1 (l0.take (a0 : Int).toNat) _ _ _ (fun _ => True) (fun _ => False) rfl rfl ?aO ?aR (fun _ _ h => h) (fun _ h => h.elim) ?aF ?aB ?aS ?aL ?_; (case aR => first | (have S3 := (Kd.C_below V0.out HB.out); rw [show (l0.take (a0 : Int).toNat).length = a0.toNat from (by rw [List.length_take]; have h_ : (a0 : Int) ≤ (l0.length : Int) := dt; omega)] at S3; exact S3) | (rw [← show (l0.take (a0 : Int).toNat).length = a0.toNat from (by rw [List.length_take]; have h_ : (a0 : Int) ≤ (l0.length : Int) := dt; omega)]; exact gCB V0 HB) | (exact gCB V0 HB)); (case aB => exact (bh HB)); (case aF => exact (fun _ _ => trivial)); (case aO => exact (hR N1)); (case aS => exact (below_size (bh HB))); (case aL => have := J4.out; have hlx_ := (show (l0.take (a0 : Int).toNat).length = a0.toNat from (by rw [List.length_take]; have h_ : (a0 : Int) ≤ (l0.length : Int) := dt; omega)); omega); intro j4 w16 ho hb hg hat; rw [← V3.out] at ho; replace HB := am_ hb; have Z1 := am_ (ho); clear N1 ho hb hg hat) | ((with_reducible refine gate_builtin (b := .append) (xs := #[.tmp 26, .tmp 28]) rfl ?_); at_builtin; refine Kd.R_append Kd.string (w0 := w) w.heap.size rfl (.tmp 26) (.tmp 28) 26 9 (.string ⟨#[]⟩) 16 rfl Tryz.underlying26 info9 rfl (by decide) (by omega) j4 Q0 a1 [.string a1] (fun _ => True) (fun _ => False) rfl rfl ?aP (fun _ hk => hk.elim) ?aF ?aO ?aB ?aS ?aL ?_; (case aP => exact rfl); (case aB => exact (bh HB)); (case aF => exact (fun _ _ => trivial)); (case aO => exact (hR Z1)); (case aS => exact (below_size (bh HB))); (case aL => have := k4.out; omega); intro M4 R5 ho hb hg hat; rw [← D3.out] at ho; replace HB := am_ hb; have D2 := am_ (ho); clear Z1 ho hb hg hat; obtain ⟨E5, N2, _, V1, _⟩ := info_parts info9; obtain ⟨V5, u4, Y3, I3⟩ := print_drop_of (P := Tryz.prog) Value.string (⟨#[]⟩ : ByteArray) 26 9 .i64 Tryz.underlying26 N2 V1 (some X0) c0 l0 a0 (dt) (dt) a4.out; have Q1 := am_ (Kd.C_of_reads (h1 := fun _ => rfl) (Y3 _ (Kd.reads_of_C Y2.out))); have i5 := am_ I3; clear Y3 I3 N2 V1) | ((with_reducible refine gate_builtin (b := .append) (xs := #[.tmp 30, .tmp 33]) rfl ?_); at_builtin; refine Kd.R_append_rows Kd.string (w0 := w) w.heap.size rfl (.tmp 30) (.tmp 33) 26 9 (.string ⟨#[]⟩) 16 rfl Tryz.underlying26 info9 rfl (by decide) (by omega) M4 n0 (l0.drop (a0 : Int).toNat) _ _ _ (fun _ => True) (fun _ => False) rfl rfl ?aO ?aR (fun _ _ h => h) (fun _ h => h.elim) ?aF ?aB ?aS ?aL ?_; (case aR => first | (rw [← show (l0.drop (a0 : Int).toNat).length = (l0.length - a0.toNat) from List.length_drop]; exact gCB Q1 HB) | (exact gCB Q1 HB)); (case aB => exact (bh HB)); (case aF => exact (fun _ _ => trivial)); (case aO => exact (hR D2)); (case aS => exact (below_size (bh HB))); (case aL => have := X3.out; have hlx_ := (show (l0.drop (a0 : Int).toNat).length = (l0.length - a0.toNat) from List.length_drop); omega); intro C5 Q5 ho hb hg hat; rw [← W3.out] at ho; replace HB := am_ hb; have Q3 := am_ (ho); clear D2 ho hb hg hat))
    go_ret
    exact ⟨_, fe, hR Q3, bh HB⟩
   rw [if_neg c3] at H
   have O4 : decide (a0 < (l0.length : Int)) = false := decide_eq_false c3
   clear c3
   obtain ⟨i1, N0⟩ : ∃ y_ : List ByteArray, y_ = (([] : List ByteArray)) := ⟨_, rfl⟩
   replace H : (if 0 ≤ a0 then (if a0 ≤ (l0.length : Int) then (if i1.length + (l0.take (a0 : Int).toNat).length < 8796093022208 then ((some (i1 ++ (l0.take (a0 : Int).toNat) : List ByteArray)).bind fun P0 => (if P0.length < 8796093022208 then ((some (P0 ++ [a1] : List ByteArray)).bind fun o0 => (if o0.length + (l0.drop (a0 : Int).toNat).length < 8796093022208 then (some (o0 ++ (l0.drop (a0 : Int).toNat))) else (none))) else (none))) else (none)) else (none)) else (none)) = some r := by first | (rw [N0]; with_reducible exact H) | (have H := (Option.bind_some _ _).symm.trans H; first | (rw [N0]; with_reducible exact H) | with_reducible exact H) | with_reducible exact H | (rw [N0]; exact H) | exact H
   have C2 := am_ N0
   clear N0
   by_cases C3 : 0 ≤ a0
   ·
    rw [if_pos C3] at H
    have S4 := eq_true C3
    have X4 : decide (0 ≤ a0) = true := decide_eq_true C3
    clear C3
    revert H
    refine gi' (fun C4 H => ?_)
    have b5 := eq_true C4
    have s5 : decide (a0 ≤ (l0.length : Int)) = true := decide_eq_true C4
    clear C4
    revert H
    refine gi' (fun P4 H => ?_)
    have u3 := am_ P4
    clear P4
    obtain ⟨P0, I0⟩ : ∃ y_ : List ByteArray, y_ = (i1 ++ (l0.take (a0 : Int).toNat)) := ⟨_, rfl⟩
    replace H : (if P0.length < 8796093022208 then ((some (P0 ++ [a1] : List ByteArray)).bind fun o0 => (if o0.length + (l0.drop (a0 : Int).toNat).length < 8796093022208 then (some (o0 ++ (l0.drop (a0 : Int).toNat))) else (none))) else (none)) = some r := by first | (rw [I0]; with_reducible exact H) | (have H := (Option.bind_some _ _).symm.trans H; first | (rw [I0]; with_reducible exact H) | with_reducible exact H) | with_reducible exact H | (rw [I0]; exact H) | exact H
    have L3 := am_ I0
    clear I0
    revert H
    refine gi' (fun Y4 H => ?_)
    have k3 := am_ Y4
    clear Y4
    obtain ⟨o0, E0⟩ : ∃ y_ : List ByteArray, y_ = (P0 ++ [a1]) := ⟨_, rfl⟩
    replace H : (if o0.length + (l0.drop (a0 : Int).toNat).length < 8796093022208 then (some (o0 ++ (l0.drop (a0 : Int).toNat))) else (none)) = some r := by first | (rw [E0]; with_reducible exact H) | (have H := (Option.bind_some _ _).symm.trans H; first | (rw [E0]; with_reducible exact H) | with_reducible exact H) | with_reducible exact H | (rw [E0]; exact H) | exact H
    have m3 := am_ E0
    clear E0
    have U4 := eq_true (dt : 0 ≤ a0)
    have A5 := eq_true (dt : a0 ≤ (l0.length : Int))
    revert H
    refine gi' (fun Q4 H => ?_)
    have Z2 := am_ Q4
    clear Q4
    obtain ⟨L4, M0⟩ : ∃ y_ : List ByteArray, y_ = (o0 ++ (l0.drop (a0 : Int).toNat)) := ⟨_, rfl⟩
    replace H : (some L4) = some r := by first | (rw [M0]; with_reducible exact H) | (have H := (Option.bind_some _ _).symm.trans H; first | (rw [M0]; with_reducible exact H) | with_reducible exact H) | with_reducible exact H | (rw [M0]; exact H) | exact H
    have U3 := am_ M0
    clear M0
    obtain rfl := Option.some.inj H
    go_wp2_with (first | ((with_reducible refine gd_ 21 ?_); refine Kd.R_lit Kd.string _ 9 ?hg (N := 21) ?hd (xs := ([] : List ByteArray)) (inner := []) (ok := fun _ => True) (okp := fun _ => True) ?hr ?hp (fun _ hk => hk) trivial (Below.refl _ _) (Nat.le_refl _) (by simp) ?_; (case hd => rfl); (case hg => rfl); (case hr => first | (go_simp; done) | (go_simp; rfl)); (case hp => exact (Reps.none _ _)); intro I4 W5 W0 hb hg_ hnew_; clear hg_ hnew_; (first | rw [← C2.out] at W0 | (simp only [Int.reduceToNat] at W0; rw [← C2.out] at W0)); have U1 := am_ (Kd.R_lower W0 (below_size (bh HB))); replace HB := tHb HB hb; clear hb W0; obtain ⟨M5, O1, _, i2, _⟩ := info_parts info9; obtain ⟨s4, N3, Z3⟩ := print_take_of (P := Tryz.prog) Value.string (⟨#[]⟩ : ByteArray) 26 9 .i64 Tryz.underlying26 O1 i2 A0 c0 l0 a0 (dt) (dt) a4.out; have Z0 := am_ (Kd.C_of_reads (h1 := fun _ => rfl) (N3 _ (Kd.reads_of_C Y2.out))); have j5 := am_ Z3; clear N3 Z3 O1 i2) | ((with_reducible refine gate_builtin (b := .append) (xs := #[.tmp 21, .tmp 24]) rfl ?_); at_builtin; refine Kd.R_append_rows Kd.string (w0 := w) w.heap.size rfl (.tmp 21) (.tmp 24) 26 9 (.string ⟨#[]⟩) 16 rfl Tryz.underlying26 info9 rfl (by decide) (by omega) I4 i1 (l0.take (a0 : Int).toNat) _ _ _ (fun _ => True) (fun _ => False) rfl rfl ?aO ?aR (fun _ _ h => h) (fun _ h => h.elim) ?aF ?aB ?aS ?aL ?_; (case aR => first | (have S3 := (Kd.C_below Z0.out HB.out); rw [show (l0.take (a0 : Int).toNat).length = a0.toNat from (by rw [List.length_take]; have h_ : (a0 : Int) ≤ (l0.length : Int) := dt; omega)] at S3; exact S3) | (rw [← show (l0.take (a0 : Int).toNat).length = a0.toNat from (by rw [List.length_take]; have h_ : (a0 : Int) ≤ (l0.length : Int) := dt; omega)]; exact gCB Z0 HB) | (exact gCB Z0 HB)); (case aB => exact (bh HB)); (case aF => exact (fun _ _ => trivial)); (case aO => exact (hR U1)); (case aS => exact (below_size (bh HB))); (case aL => have := u3.out; have hlx_ := (show (l0.take (a0 : Int).toNat).length = a0.toNat from (by rw [List.length_take]; have h_ : (a0 : Int) ≤ (l0.length : Int) := dt; omega)); omega); intro l4 P5 ho hb hg hat; rw [← L3.out] at ho; replace HB := am_ hb; have D1 := am_ (ho); clear U1 ho hb hg hat) | ((with_reducible refine gate_builtin (b := .append) (xs := #[.tmp 26, .tmp 28]) rfl ?_); at_builtin; refine Kd.R_append Kd.string (w0 := w) w.heap.size rfl (.tmp 26) (.tmp 28) 26 9 (.string ⟨#[]⟩) 16 rfl Tryz.underlying26 info9 rfl (by decide) (by omega) l4 P0 a1 [.string a1] (fun _ => True) (fun _ => False) rfl rfl ?aP (fun _ hk => hk.elim) ?aF ?aO ?aB ?aS ?aL ?_; (case aP => exact rfl); (case aB => exact (bh HB)); (case aF => exact (fun _ _ => trivial)); (case aO => exact (hR D1)); (case aS => exact (below_size (bh HB))); (case aL => have := k3.out; omega); intro E4 X5 ho hb hg hat; rw [← m3.out] at ho; replace HB := am_ hb; have L1 := am_ (ho); clear D1 ho hb hg hat; obtain ⟨J5, J2, _, P1, _⟩ := info_parts info9; obtain ⟨U5, K4, J3, b3⟩ := print_drop_of (P := Tryz.prog) Value.string (⟨#[]⟩ : ByteArray) 26 9 .i64 Tryz.underlying26 J2 P1 A0 c0 l0 a0 (dt) (dt) a4.out; have Y1 := am_ (Kd.C_of_reads (h1 := fun _ => rfl) (J3 _ (Kd.reads_of_C Y2.out))); have a5 := am_ b3; clear J3 b3 J2 P1) | ((with_reducible refine gate_builtin (b := .append) (xs := #[.tmp 30, .tmp 33]) rfl ?_); at_builtin; refine Kd.R_append_rows Kd.string (w0 := w) w.heap.size rfl (.tmp 30) (.tmp 33) 26 9 (.string ⟨#[]⟩) 16 rfl Tryz.underlying26 info9 rfl (by decide) (by omega) E4 o0 (l0.drop (a0 : Int).toNat) _ _ _ (fun _ => True) (fun _ => False) rfl rfl ?aO ?aR (fun _ _ h => h) (fun _ h => h.elim) ?aF ?aB ?aS ?aL ?_; (case aR => first | (rw [← show (l0.drop (a0 : Int).toNat).length = (l0.length - a0.toNat) from List.length_drop]; exact gCB Y1 HB) | (exact gCB Y1 HB)); (case aB => exact (bh HB)); (case aF => exact (fun _ _ => trivial)); (case aO => exact (hR L1)); (case aS => exact (below_size (bh HB))); (case aL => have := Z2.out; have hlx_ := (show (l0.drop (a0 : Int).toNat).length = (l0.length - a0.toNat) from List.length_drop); omega); intro L5 S5 ho hb hg hat; rw [← U3.out] at ho; replace HB := am_ hb; have a3 := am_ (ho); clear L1 ho hb hg hat))
    go_ret
    exact ⟨_, fe, hR a3, bh HB⟩
   rw [if_neg C3] at H
   exact absurd H (by simp)

mutual
def F3.l0 : Nat → Int → Int → Int → Int → List (S32) → Option (Int × Int × (List (S32)))
 | 0, _, _, _, _, _ => none
 | k + 1, x0, x4, n0, a0, m0 => if x4 ≤ x0 then ((F2.f k n0 a0 m0 (wrap64 (x4 - 1))).bind fun o0 => (F3.l1 k x0 x4 o0 ([] : List ByteArray) 0 n0 a0 m0)) else (some (n0, a0, m0))
def F3.l1 : Nat → Int → Int → List (S32) → List ByteArray → Int → Int → Int → List (S32) → Option (Int × Int × (List (S32)))
 | 0, _, _, _, _, _, _, _, _ => none
 | k + 1, x0, x4, x5, x6, x7, n0, a0, m0 => if x7 < (x5.length : Int) then (if 0 ≤ x7 then ((Fq.f k x6 ((rd_T32 x5 x7).f0)).bind fun o0 => (F3.l1 k x0 x4 x5 o0 (wrap64 (x7 + 1)) n0 a0 m0)) else (none)) else (F3.l2 k x0 x4 x6 1 n0 a0 m0)
def F3.l2 : Nat → Int → Int → List ByteArray → Int → Int → Int → List (S32) → Option (Int × Int × (List (S32)))
 | 0, _, _, _, _, _, _, _ => none
 | k + 1, x0, x4, x6, x8, n0, a0, m0 => if x8 ≤ 4 then (if (Int.tmod x4 3) = 0 then ((Gd.f k (⟨#[]⟩ : ByteArray) (wrap64 (Int.tdiv x4 3)) 4 x8).bind fun z0 => ((Fn.f k n0 a0 m0 x8 x4 ([] : List (S107)) x6 z0.1 z0.2).bind fun o0 => (F3.l2 k x0 x4 x6 (wrap64 (x8 + 1)) o0.1 o0.2.1 o0.2.2.1))) else ((Fn.f k n0 a0 m0 x8 x4 ([] : List (S107)) x6 0 0).bind fun u0 => (F3.l2 k x0 x4 x6 (wrap64 (x8 + 1)) u0.1 u0.2.1 u0.2.2.1))) else (F3.l0 k x0 (wrap64 (x4 + 1)) n0 a0 m0)
end
def F3.f (k : Nat) (a0 : Int) : Option (Int × Int × (List (S32))) := F3.l0 k a0 1 4 0 ([] : List (S32))
set_option maxHeartbeats 8000000 in
set_option maxRecDepth 100000 in
theorem F3.calls (k : Nat) (a0 : Int) (r1 : Int) (r2 : Int) (r3 : List (S32)) (w : World) (h : F3.f k a0 = some (r1, r2, r3)) :
  Calls Tryz.prog 26 #[.int .i64 a0] w fun e w' => ∃ r6 : Value, e = .returned (.agg #[.int .i64 r1, .int .i64 r2, r6]) ∧ Kd.V k32 32 w' w.heap.size (fun k_ => (w.heap.size ≤ k_)) r6 r3 ∧ Below w.heap.size w w' := by
 have P6 := Tryz.underlying24
 have X6 := Tryz.underlying30
 have K6 := Tryz.underlying28
 have HB := am_ (Below.refl w.heap.size w)
 have H : (F3.l0 k a0 1 4 0 ([] : List (S32))) = some (r1, r2, r3) := h
 clear h
 have H' := am_ H
 clear H
 go_enter Tryz.func26, Tryz.ntmps26
 go_wp2_with (first | ((with_reducible refine gd_ 2 ?_); refine be_ 2 #[.int .i64 0, .int .i64 0, .slice none 0 0] 24 ?_; intro O0 hg w2 hbox hb; have n0 := am_ hbox; have J6 := tG HB hg; have D6 := tG HB hg; replace HB := tHb HB hb; clear hb hbox hg) | ((with_reducible refine gd_ 3 ?_); refine be_ 3 #[.int .i64 0, .int .i64 0, .slice none 0 0] 24 ?_; intro E0 hg w3 hbox hb; have m0 := am_ hbox; have C6 := tG HB hg; have E6 := tG HB hg; replace HB := tHb HB hb; obtain ⟨l4, V0⟩ := tN n0 hg; replace n0 := tBb n0 hb; clear hb hbox hg; obtain ⟨_, _⟩ := n2 V0; obtain ⟨S5, C5, l6, p6, M5, X5⟩ := bx3 m0))
 go_loopg [4] k (fun kq v4 w' => ∃ (N0 : Int) (C0 : Int) (A0 : Int) (z0 : List (S32)) (Q0 : Value), v4 = .int .i64 N0 ∧ Asc (F3.l0 kq a0 N0 C0 A0 z0 = some (r1, r2, r3)) ∧ Asc (kq ≤ k) ∧ Asc (Kd.V k32 32 w' w.heap.size (fun k_ => (w.heap.size ≤ k_) ∧ k_ ≠ O0 ∧ k_ ≠ E0) Q0 z0) ∧ Asc (w'.heap[O0]? = some (.cells #[.int .i64 0, .int .i64 0, (.slice none 0 0)] 24 (0, 0))) ∧ Asc (w'.heap[E0]? = some (.cells #[.int .i64 C0, .int .i64 A0, Q0] 24 (0, 0))) ∧ Asc (Below w.heap.size w w'))
 case atStart => exact ⟨(1), (4), (0), (([] : List (S32))), (.slice none 0 0), fr, H', ⟨Nat.le_refl _⟩, ⟨Kd.V_nil _ _ _ _ _⟩, ⟨gB n0⟩, ⟨gP m0 rfl⟩, ⟨bh HB⟩⟩
 case round =>
  clear H'
  try clear S5 C5 l6 p6 M5 X5
  obtain ⟨N0, C0, A0, z0, Q0, rfl, HA, U3, HO_466002, n0, m0, HB⟩ := hrel
  cases gk with
  | zero => exact absurd HA.out (by simp [F3.l0])
  | succ k1 =>
   have H := HA.out
   clear HA
   simp only [F3.l0] at H
   by_cases c6 : N0 ≤ a0
   ·
    rw [if_pos c6] at H
    have J4 : decide (N0 ≤ a0) = true := decide_eq_true c6
    clear c6
    replace H := Option.bind_eq_some_iff.mp H
    obtain ⟨C1, s6, H⟩ := H
    try dsimp only at H
    have A7 := am_ s6
    clear s6
    have H' := am_ H
    clear H
    obtain ⟨_, _⟩ := n2 V0
    obtain ⟨P5, R5, i6, J5, N5, j6⟩ := bx3 m0
    obtain ⟨L3, m3, rfl⟩ := Kd.V_slice HO_466002.out
    go_wp2_with (first | ((with_reducible refine gate_callee (f := 36) rfl ?_); refine gl_ (some 19) Tryz.func36 #[.agg #[.int .i64 C0, .int .i64 A0, .slice L3 z0.length m3], .int .i64 (wrap64 (N0 - 1))] ?_; (with_reducible refine (F2.calls k1 C0 A0 (fun k_ => ((w.heap.size ≤ k_) ∧ (k_ ≠ O0 ∧ k_ ≠ E0))) _ _ z0 (wrap64 (N0 - 1)) C1 _ ?D1 A7.out).mono ?_); (case D1 => exact HO_466002.out); rintro e g7 ⟨P4, rfl, Q1, hb⟩; refine ⟨_, rfl, ?_⟩; replace HO_466002 := am_ (Kd.V_elder' (hV HO_466002) (Kd.N_base Q1) hb); have X4 := loN (fun k_ => (w.heap.size ≤ k_) ∧ k_ ≠ O0 ∧ k_ ≠ E0) Q1 (fun k_ hk_ => ⟨Or.elim hk_ (fun hs_ => hs_.1) (fun hn_ => (Nat.le_trans (below_size (bh HB)) hn_)), Or.elim hk_ (fun hs_ => hs_.2.1) (fun hn_ => (gFr n0 k_ hn_)), Or.elim hk_ (fun hs_ => hs_.2.2) (fun hn_ => (gFr m0 k_ hn_))⟩) HB; replace n0 := tBb n0 hb; replace m0 := tBb m0 hb; replace HB := tHb HB hb; (try clear hb Q1)))
    go_loopg [6, 7] k1 (fun kq v6 v7 w' => ∃ (P0 : List ByteArray) (W0 : Int), v7 = .int .i64 W0 ∧ Asc (F3.l1 kq a0 N0 C1 P0 W0 C0 A0 z0 = some (r1, r2, r3)) ∧ Asc (kq ≤ k1) ∧ Asc (Kd.N k32 32 w' w.heap.size (fun k_ => (w.heap.size ≤ k_) ∧ some k_ ≠ (v6 : Value).ownBlock ∧ k_ ≠ O0 ∧ k_ ≠ E0) P4 C1) ∧ Asc (Kd.R Kd.string 9 w' w.heap.size (fun k_ => (w.heap.size ≤ k_)) v6 P0) ∧ Asc (Kd.V k32 32 w' w.heap.size (fun k_ => (w.heap.size ≤ k_) ∧ some k_ ≠ (P4 : Value).ownBlock ∧ k_ ≠ O0 ∧ k_ ≠ E0) (.slice L3 z0.length m3) z0) ∧ Asc (w'.heap[O0]? = some (.cells #[.int .i64 0, .int .i64 0, (.slice none 0 0)] 24 (0, 0))) ∧ Asc (w'.heap[E0]? = some (.cells #[.int .i64 C0, .int .i64 A0, (.slice L3 z0.length m3)] 24 (0, 0))) ∧ Asc (Below w.heap.size w w'))
    case atStart => exact ⟨(([] : List ByteArray)), (0), fr, H', ⟨Nat.le_refl _⟩, ⟨gN X4⟩, ⟨kn⟩, ⟨gV HO_466002⟩, ⟨gB n0⟩, ⟨gB m0⟩, ⟨bh HB⟩⟩
    case round =>
     clear H'
     try clear J4 P5 R5 i6 J5 N5 j6
     obtain ⟨P0, W0, rfl, HA, S3, HO_5, HO_6, HO_466002, n0, m0, HB⟩ := hrel
     cases gk with
     | zero => exact absurd HA.out (by simp [F3.l1])
     | succ k2 =>
      have H := HA.out
      clear HA
      simp only [F3.l1] at H
      by_cases s4 : W0 < (C1.length : Int)
      ·
       rw [if_pos s4] at H
       have W3 : decide (W0 < (C1.length : Int)) = true := decide_eq_true s4
       clear s4
       revert H
       refine gi (fun z6 H => ?_)
       replace H := Option.bind_eq_some_iff.mp H
       obtain ⟨E4, O4, H⟩ := H
       try dsimp only at H
       have Q6 := am_ O4
       clear O4
       have H' := am_ H
       clear H
       obtain ⟨O6, N6, o6⟩ := Kd.N_slice HO_5.out
       subst o6
       have N3 : 0 ≤ (W0 : Int) := dt
       have C3 : W0 < (C1.length : Int) := dt
       obtain ⟨I6, D5, L5, Q5, a6, W5, Y4, k5, m5, J3, D3, j5, i5, L2, C2, D2, X1⟩ := at_T32 (Kd.N_reads' HO_5.out).2.2 W0 N3 C3
       cases W5
       obtain ⟨A6, Y3, X3, V1⟩ := Kd.N_get HO_5.out z32 W0 N3 (by first | exact C3 | exact dt | (have e_ := (Kd.N_reads' HO_5.out).1; omega))
       obtain ⟨c5, p5, a5, l5, rfl, P1, O1, L1, N1⟩ := k32_openF X3
       have i1 := V1 3 _ rfl
       rw [add_field _ _ 3 (by omega)] at i1
       replace i1 := Option.some.inj (i1.symm.trans J3)
       injection i1 with hva_ hvn_ hvc_
       rw [hva_] at O1
       rw [hvc_] at P1
       have J2 := am_ (show Kd.V k107 107 _ w.heap.size _ _ ((rd_T32 C1 W0).f1.f2) from Kd.V_mk P1 O1)
       clear hva_ hvn_ hvc_ O1 P1
       have Z0 := V1 4 _ rfl
       rw [add_field _ _ 4 (by omega)] at Z0
       replace Z0 := Option.some.inj (Z0.symm.trans D3)
       injection Z0 with hva_ hvn_ hvc_
       rw [hva_] at N1
       rw [hvc_] at L1
       have i2 := am_ (show Kd.V Kd.string 9 _ w.heap.size _ _ ((rd_T32 C1 W0).f1.f3) from Kd.V_mk L1 N1)
       clear hva_ hvn_ hvc_ N1 L1 V1 Y3
       have Z1 := am_ C2
       have Z4 := am_ L2
       clear C2 L2
       have Y1 := am_ X1
       have b5 := am_ D2
       clear X1 D2
       replace N3 := eq_true N3
       replace C3 := eq_true C3
       obtain ⟨A5, U5, E5⟩ := Kd.R_slice HO_6.out
       subst E5
       go_wp2_with (first | ((with_reducible refine gate_callee (f := 48) rfl ?_); refine gl_ (some 32) Tryz.func48 #[.slice A5 P0.length U5, .string ((rd_T32 C1 W0).f0)] ?_; (with_reducible refine (Fq.calls k2 _ _ P0 ((rd_T32 C1 W0).f0) E4 _ ?D1 ?U1 Q6.out).mono ?_); (case D1 => repeat (first | exact (Kd.R_reads' HO_6.out).2.2 | (with_reducible refine Kd.C_alloc ?_ _) | (with_reducible refine Kd.C_drewN ?_ _) | (with_reducible refine Kd.C_drew ?_))); (case U1 => exact (Kd.R_reads' HO_6.out).2.1); rintro e i7 ⟨W6, rfl, Q1, hb⟩; refine ⟨_, rfl, ?_⟩; replace HO_5 := am_ (Kd.N_elder' (hN HO_5) (Kd.R_base Q1) hb); replace HO_466002 := am_ (Kd.V_elder' (hV HO_466002) (Kd.R_base Q1) hb); replace J2 := am_ (Kd.V_elder' (hV J2) (Kd.R_base Q1) hb); replace i2 := am_ (Kd.V_elder' (hV i2) (Kd.R_base Q1) hb); have W4 := am_ (Kd.R_lower (Kd.R_new' (Kd.R_newM (M := fun k_ => (w.heap.size ≤ k_)) Q1 (below_size (bh HB)) (fun k_ h_ => h_)) (Kd.R_lt (hR HO_6))) (below_size (bh HB))); replace HO_6 := am_ (Kd.R_elder' (hR HO_6) (Kd.R_base Q1) hb); replace n0 := tBb n0 hb; replace m0 := tBb m0 hb; replace Z1 := tCb Z1 hb; replace Y1 := tCb Y1 hb; replace HB := tHb HB hb; (try clear hb Q1)))
       go_roundg k2
       case measure => have := U3.out; have := S3.out; omega
       case rel => exact ⟨(E4), (wrap64 (W0 + 1)), fr, H', ⟨by have := U3.out; have := S3.out; omega⟩, ⟨gN HO_5⟩, ⟨gR W4⟩, ⟨gV HO_466002⟩, ⟨gB n0⟩, ⟨gB m0⟩, ⟨bh HB⟩⟩
      rw [if_neg s4] at H
      have W3 : decide (W0 < (C1.length : Int)) = false := decide_eq_false s4
      clear s4
      have H' := am_ H
      clear H
      obtain ⟨S6, U6, Y5⟩ := Kd.N_slice HO_5.out
      subst Y5
      go_wp2
      go_loopg [8] k2 (fun kq v8 w' => ∃ (U0 : Int) (M0 : Int) (L0 : Int) (I0 : List (S32)) (Q0 : Value), v8 = .int .i64 U0 ∧ Asc (F3.l2 kq a0 N0 P0 U0 M0 L0 I0 = some (r1, r2, r3)) ∧ Asc (kq ≤ k2) ∧ Asc (Kd.R Kd.string 9 w' w.heap.size (fun k_ => (w.heap.size ≤ k_)) u6 P0) ∧ Asc (Kd.V k32 32 w' w.heap.size (fun k_ => (w.heap.size ≤ k_) ∧ k_ ≠ O0 ∧ k_ ≠ E0) Q0 I0) ∧ Asc (w'.heap[O0]? = some (.cells #[.int .i64 0, .int .i64 0, (.slice none 0 0)] 24 (0, 0))) ∧ Asc (w'.heap[E0]? = some (.cells #[.int .i64 M0, .int .i64 L0, Q0] 24 (0, 0))) ∧ Asc (Below w.heap.size w w'))
      case atStart => exact ⟨(1), (C0), (A0), (z0), (.slice L3 z0.length m3), fr, H', ⟨Nat.le_refl _⟩, ⟨hR HO_6⟩, ⟨gV HO_466002⟩, ⟨gB n0⟩, ⟨gB m0⟩, ⟨bh HB⟩⟩
      case round =>
       clear H'
       try clear W3
       obtain ⟨U0, M0, L0, I0, Q0, rfl, HA, u4, HO_6, HO_466002, n0, m0, HB⟩ := hrel
       cases gk with
       | zero => exact absurd HA.out (by simp [F3.l2])
       | succ k3 =>
        have H := HA.out
        clear HA
        simp only [F3.l2] at H
        by_cases m4 : U0 ≤ 4
        ·
         rw [if_pos m4] at H
         have N4 : decide (U0 ≤ 4) = true := decide_eq_true m4
         clear m4
         by_cases a4 : (Int.tmod N0 3) = 0
         ·
          rw [if_pos a4] at H
          have I4 : ((Int.tmod N0 3) == 0) = true := beq_iff_eq.mpr a4
          have L4 : ((Int.tmod N0 3) != 0) = false := bne_eq_false_iff_eq.mpr a4
          clear a4
          replace H := Option.bind_eq_some_iff.mp H
          obtain ⟨⟨N2, Q2⟩, K4, H⟩ := H
          try dsimp only at H
          have Z6 := am_ K4
          clear K4
          replace H := Option.bind_eq_some_iff.mp H
          obtain ⟨⟨Z3, i4, I3, k6⟩, Q4, H⟩ := H
          try dsimp only at H
          have M6 := am_ Q4
          clear Q4
          have H' := am_ H
          clear H
          obtain ⟨Z2, i3, V5⟩ := Kd.R_slice HO_6.out
          subst V5
          go_wp2_with (first | ((with_reducible refine gd_ 9 ?_); refine be_ 9 #[.int .i64 0, .int .i64 0, .slice none 0 0, .slice none 0 0, .int .i64 0, .int .i64 0] 30 ?_; intro u0 hg l7 hbox hb; replace HO_6 := tRb HO_6 hb; replace HO_466002 := tVe HO_466002 hg hb; have o0 := am_ hbox; have R4 := tG HB hg; have S4 := tG HB hg; replace HB := tHb HB hb; obtain ⟨V2, X0⟩ := tN n0 hg; replace n0 := tBb n0 hb; obtain ⟨Y2, Y0⟩ := tN m0 hg; replace m0 := tBb m0 hb; clear hb hbox hg; obtain ⟨_, _⟩ := n2 X0; obtain ⟨_, _⟩ := n2 Y0; obtain ⟨_, _, _, _, _, _, _, _, _, _, _, _⟩ := bx6 o0) | ((with_reducible refine gate_callee (f := 44) rfl ?_); refine gl_ (some 47) Tryz.func44 #[.string (⟨#[]⟩ : ByteArray), .int .i64 (wrap64 (Int.tdiv N0 3)), .int .i64 4, .int .i64 U0] ?_; (with_reducible refine (Gd.calls k3 (⟨#[]⟩ : ByteArray) (wrap64 (Int.tdiv N0 3)) 4 U0 N2 Q2 _ Z6.out).mono ?_); rintro e Y6 ⟨rfl, hb⟩; refine ⟨_, rfl, ?_⟩; replace HO_6 := am_ (Kd.R_below (by (with_reducible repeat (first | apply Kd.R_alloc | apply Kd.R_drewN | apply Kd.R_drew)); exact (Kd.R_mono (Kd.R_far (p := ⟨u0, 5, none⟩) (Kd.R_far (p := ⟨u0, 4, none⟩) (Kd.R_far (p := ⟨u0, 3, none⟩) (Kd.R_far (p := ⟨u0, 2, none⟩) (Kd.R_far (p := ⟨u0, 1, none⟩) (Kd.R_far (p := ⟨u0, 0, none⟩) (Kd.R_types HO_6.out o0.out (by decide)) (fun _ hk => hk.2) (.int .i64 U0)) (fun _ hk => hk.2) (.int .i64 N0)) (fun _ hk => hk.2) (.slice none 0 0)) (fun _ hk => hk.2) (.slice Z2 P0.length i3)) (fun _ hk => hk.2) (.int .i64 0)) (fun _ hk => hk.2) (.int .i64 0)) (fun _ h_ => h_.1))) hb); replace HO_466002 := tVb HO_466002 hb; replace n0 := tBb n0 hb; replace m0 := tBb m0 hb; replace o0 := am_ (blk_below (g := u0) (o := .cells #[.int .i64 U0, .int .i64 N0, .slice none 0 0, .slice Z2 P0.length i3, .int .i64 0, .int .i64 0] 30 (0, 0)) (gP o0 rfl) hb); replace HB := tHb HB hb; (try clear hb); obtain ⟨_, _, _, _, _, _, _, _, _, _, _, _⟩ := bx6 o0) | ((with_reducible refine gate_store (t := 28) (p := 48) rfl ?_); refine se_ 28 48 ((Y6.setCell ⟨u0, 4, none⟩ (.int .i64 N2)).setCell ⟨u0, 5, none⟩ (.int .i64 Q2)) ?_; intro L6 hw; replace HO_6 : Asc (Kd.R Kd.string 9 L6 w.heap.size (fun k_ => (w.heap.size ≤ k_)) (.slice Z2 P0.length i3) P0) := ⟨(by rw [hw]; exact (by (with_reducible repeat (first | apply Kd.R_alloc | apply Kd.R_drewN | apply Kd.R_drew)); exact Kd.R_mono (Kd.R_far (p := ⟨u0, 5, none⟩) (Kd.R_far (p := ⟨u0, 4, none⟩) (Kd.R_types HO_6.out o0.out (by decide)) (fun _ hk => hk.2) (.int .i64 N2)) (fun _ hk => hk.2) (.int .i64 Q2)) (fun _ hk => hk.1)))⟩; replace HO_466002 := gVw (fun k_ => (w.heap.size ≤ k_) ∧ k_ ≠ O0 ∧ k_ ≠ E0 ∧ k_ ≠ u0) HO_466002 hw; replace n0 := sB n0 hw; replace m0 := sB m0 hw; replace o0 := sP #[.int .i64 U0, .int .i64 N0, .slice none 0 0, .slice Z2 P0.length i3, .int .i64 N2, .int .i64 Q2] o0 hw; replace HB := sH HB hw; clear hw; obtain ⟨_, _⟩ := n2 V0; obtain ⟨_, _, _, _, _, _⟩ := bx3 m0; obtain ⟨_, _, _, _, _, _, _, _, _, _, _, _⟩ := bx6 o0; obtain ⟨K5, q6, rfl⟩ := Kd.V_slice HO_466002.out) | ((with_reducible refine gate_callee (f := 25) rfl ?_); refine gl_ (some 52) Tryz.func25 #[.agg #[.int .i64 M0, .int .i64 L0, .slice K5 I0.length q6], .agg #[.int .i64 U0, .int .i64 N0, .slice none 0 0, .slice Z2 P0.length i3, .int .i64 N2, .int .i64 Q2]] ?_; (refine (Fn.calls k3 M0 L0 (fun k_ => ((w.heap.size ≤ k_) ∧ (k_ ≠ O0 ∧ (k_ ≠ E0 ∧ k_ ≠ u0)))) _ _ I0 U0 N0 (fun k_ => False) _ _ ([] : List (S107)) (fun k_ => some k_ = (.slice Z2 P0.length i3 : Value).ownBlock) _ _ P0 N2 Q2 Z3 i4 I3 k6 _ ?D1 ?U1 ?l3 M6.out).mono ?_); (case D1 => exact HO_466002.out); (case U1 => exact Kd.V_nil _ _ _ _ _); (case l3 => exact Kd.R_V (Kd.R_tight rfl (Kd.R_types (Kd.R_types (Kd.R_types (HO_6.out) n0.out (by decide)) m0.out (by decide)) o0.out (by decide)))); rintro e k7 ⟨d7, rfl, Q1, hb⟩; refine ⟨_, rfl, ?_⟩; replace HO_466002 := tVb HO_466002 hb; have V3 := lo (fun k_ => (w.heap.size ≤ k_) ∧ k_ ≠ O0 ∧ k_ ≠ E0 ∧ k_ ≠ u0) Q1 (fun k_ hk_ => ⟨Or.elim hk_ (fun hs_ => Or.elim hs_ (fun hs_ => hs_.1) (fun hs_ => Or.elim hs_ (fun hs_ => (hs_).elim) (fun hs_ => ((Kd.R_types (Kd.R_types (Kd.R_types (HO_6.out) n0.out (by decide)) m0.out (by decide)) o0.out (by decide)).1 k_ hs_.symm).1.1.1))) (fun hn_ => (Nat.le_trans (below_size (bh HB)) hn_)), Or.elim hk_ (fun hs_ => Or.elim hs_ (fun hs_ => hs_.2.1) (fun hs_ => Or.elim hs_ (fun hs_ => (hs_).elim) (fun hs_ => ((Kd.R_types (Kd.R_types (Kd.R_types (HO_6.out) n0.out (by decide)) m0.out (by decide)) o0.out (by decide)).1 k_ hs_.symm).1.1.2))) (fun hn_ => (gFr n0 k_ hn_)), Or.elim hk_ (fun hs_ => Or.elim hs_ (fun hs_ => hs_.2.2.1) (fun hs_ => Or.elim hs_ (fun hs_ => (hs_).elim) (fun hs_ => ((Kd.R_types (Kd.R_types (Kd.R_types (HO_6.out) n0.out (by decide)) m0.out (by decide)) o0.out (by decide)).1 k_ hs_.symm).1.2))) (fun hn_ => (gFr m0 k_ hn_)), Or.elim hk_ (fun hs_ => Or.elim hs_ (fun hs_ => hs_.2.2.2) (fun hs_ => Or.elim hs_ (fun hs_ => (hs_).elim) (fun hs_ => ((Kd.R_types (Kd.R_types (Kd.R_types (HO_6.out) n0.out (by decide)) m0.out (by decide)) o0.out (by decide)).1 k_ hs_.symm).2))) (fun hn_ => (gFr o0 k_ hn_))⟩) HB; replace HO_6 := tRb HO_6 hb; replace n0 := tBb n0 hb; replace m0 := tBb m0 hb; replace o0 := tBb o0 hb; replace HB := tHb HB hb; (try clear hb Q1); obtain ⟨_, _, _, _, _, _⟩ := bx3 m0; obtain ⟨V4, M4, rfl⟩ := Kd.V_slice V3.out))
          go_roundg k3
          case measure => have := U3.out; have := S3.out; have := u4.out; omega
          case rel => exact ⟨(wrap64 (U0 + 1)), (Z3), (i4), (I3), (.slice V4 I3.length M4), fr, H', ⟨by have := U3.out; have := S3.out; have := u4.out; omega⟩, ⟨by (with_reducible repeat (first | apply Kd.R_alloc | apply Kd.R_drewN | apply Kd.R_drew)); exact Kd.R_mono (Kd.R_far (p := ⟨E0, 2, none⟩) (Kd.R_far (p := ⟨E0, 1, none⟩) (Kd.R_far (p := ⟨E0, 0, none⟩) (Kd.R_types HO_6.out m0.out (by decide)) (fun _ hk => hk.2) (.int .i64 Z3)) (fun _ hk => hk.2) (.int .i64 i4)) (fun _ hk => hk.2) (.slice V4 I3.length M4)) (fun _ hk => hk.1)⟩, ⟨gV V3⟩, ⟨gB n0⟩, ⟨gP m0 rfl⟩, ⟨bh HB⟩⟩
         rw [if_neg a4] at H
         have I4 : ((Int.tmod N0 3) == 0) = false := beq_eq_false_iff_ne.mpr a4
         have L4 : ((Int.tmod N0 3) != 0) = true := bne_iff_ne.mpr a4
         replace H := Option.bind_eq_some_iff.mp H
         obtain ⟨⟨j4, k4, u3, b6⟩, U4, H⟩ := H
         try dsimp only at H
         have R6 := am_ U4
         clear U4
         have H' := am_ H
         clear H
         obtain ⟨a3, b3, Z5⟩ := Kd.R_slice HO_6.out
         subst Z5
         go_wp2_with (first | ((with_reducible refine gd_ 9 ?_); refine be_ 9 #[.int .i64 0, .int .i64 0, .slice none 0 0, .slice none 0 0, .int .i64 0, .int .i64 0] 30 ?_; intro u0 hg f7 hbox hb; replace HO_6 := tRb HO_6 hb; replace HO_466002 := tVe HO_466002 hg hb; have o0 := am_ hbox; have R4 := tG HB hg; have S4 := tG HB hg; replace HB := tHb HB hb; obtain ⟨V2, X0⟩ := tN n0 hg; replace n0 := tBb n0 hb; obtain ⟨Y2, Y0⟩ := tN m0 hg; replace m0 := tBb m0 hb; clear hb hbox hg; obtain ⟨_, _⟩ := n2 X0; obtain ⟨_, _⟩ := n2 Y0; obtain ⟨_, _, _, _, _, _, _, _, _, _, _, _⟩ := bx6 o0) | ((with_reducible refine gate_store (t := 30) (p := 9) rfl ?_); refine se_ 30 9 ((((((f7.setCell ⟨u0, 0, none⟩ (.int .i64 U0)).setCell ⟨u0, 1, none⟩ (.int .i64 N0)).setCell ⟨u0, 2, none⟩ (.slice none 0 0)).setCell ⟨u0, 3, none⟩ (.slice a3 P0.length b3)).setCell ⟨u0, 4, none⟩ (.int .i64 0)).setCell ⟨u0, 5, none⟩ (.int .i64 0)) ?_; intro a7 hw; replace HO_6 : Asc (Kd.R Kd.string 9 a7 w.heap.size (fun k_ => (w.heap.size ≤ k_)) (.slice a3 P0.length b3) P0) := ⟨(by rw [hw]; exact (by (with_reducible repeat (first | apply Kd.R_alloc | apply Kd.R_drewN | apply Kd.R_drew)); exact Kd.R_mono (Kd.R_far (p := ⟨u0, 5, none⟩) (Kd.R_far (p := ⟨u0, 4, none⟩) (Kd.R_far (p := ⟨u0, 3, none⟩) (Kd.R_far (p := ⟨u0, 2, none⟩) (Kd.R_far (p := ⟨u0, 1, none⟩) (Kd.R_far (p := ⟨u0, 0, none⟩) (Kd.R_types HO_6.out o0.out (by decide)) (fun _ hk => hk.2) (.int .i64 U0)) (fun _ hk => hk.2) (.int .i64 N0)) (fun _ hk => hk.2) (.slice none 0 0)) (fun _ hk => hk.2) (.slice a3 P0.length b3)) (fun _ hk => hk.2) (.int .i64 0)) (fun _ hk => hk.2) (.int .i64 0)) (fun _ hk => hk.1)))⟩; replace HO_466002 := gVw (fun k_ => (w.heap.size ≤ k_) ∧ k_ ≠ O0 ∧ k_ ≠ E0 ∧ k_ ≠ u0) HO_466002 hw; replace n0 := sB n0 hw; replace m0 := sB m0 hw; replace o0 := sP #[.int .i64 U0, .int .i64 N0, .slice none 0 0, .slice a3 P0.length b3, .int .i64 0, .int .i64 0] o0 hw; replace HB := sH HB hw; clear hw; obtain ⟨_, _⟩ := n2 V0; obtain ⟨_, _, _, _, _, _⟩ := bx3 m0; obtain ⟨_, _, _, _, _, _, _, _, _, _, _, _⟩ := bx6 o0; obtain ⟨I5, m6, rfl⟩ := Kd.V_slice HO_466002.out) | ((with_reducible refine gate_callee (f := 25) rfl ?_); refine gl_ (some 52) Tryz.func25 #[.agg #[.int .i64 M0, .int .i64 L0, .slice I5 I0.length m6], .agg #[.int .i64 U0, .int .i64 N0, .slice none 0 0, .slice a3 P0.length b3, .int .i64 0, .int .i64 0]] ?_; (refine (Fn.calls k3 M0 L0 (fun k_ => ((w.heap.size ≤ k_) ∧ (k_ ≠ O0 ∧ (k_ ≠ E0 ∧ k_ ≠ u0)))) _ _ I0 U0 N0 (fun k_ => False) _ _ ([] : List (S107)) (fun k_ => some k_ = (.slice a3 P0.length b3 : Value).ownBlock) _ _ P0 0 0 j4 k4 u3 b6 _ ?D1 ?U1 ?l3 R6.out).mono ?_); (case D1 => exact HO_466002.out); (case U1 => exact Kd.V_nil _ _ _ _ _); (case l3 => exact Kd.R_V (Kd.R_tight rfl (Kd.R_types (Kd.R_types (Kd.R_types (HO_6.out) n0.out (by decide)) m0.out (by decide)) o0.out (by decide)))); rintro e j7 ⟨V6, rfl, Q1, hb⟩; refine ⟨_, rfl, ?_⟩; replace HO_466002 := tVb HO_466002 hb; have Q3 := lo (fun k_ => (w.heap.size ≤ k_) ∧ k_ ≠ O0 ∧ k_ ≠ E0 ∧ k_ ≠ u0) Q1 (fun k_ hk_ => ⟨Or.elim hk_ (fun hs_ => Or.elim hs_ (fun hs_ => hs_.1) (fun hs_ => Or.elim hs_ (fun hs_ => (hs_).elim) (fun hs_ => ((Kd.R_types (Kd.R_types (Kd.R_types (HO_6.out) n0.out (by decide)) m0.out (by decide)) o0.out (by decide)).1 k_ hs_.symm).1.1.1))) (fun hn_ => (Nat.le_trans (below_size (bh HB)) hn_)), Or.elim hk_ (fun hs_ => Or.elim hs_ (fun hs_ => hs_.2.1) (fun hs_ => Or.elim hs_ (fun hs_ => (hs_).elim) (fun hs_ => ((Kd.R_types (Kd.R_types (Kd.R_types (HO_6.out) n0.out (by decide)) m0.out (by decide)) o0.out (by decide)).1 k_ hs_.symm).1.1.2))) (fun hn_ => (gFr n0 k_ hn_)), Or.elim hk_ (fun hs_ => Or.elim hs_ (fun hs_ => hs_.2.2.1) (fun hs_ => Or.elim hs_ (fun hs_ => (hs_).elim) (fun hs_ => ((Kd.R_types (Kd.R_types (Kd.R_types (HO_6.out) n0.out (by decide)) m0.out (by decide)) o0.out (by decide)).1 k_ hs_.symm).1.2))) (fun hn_ => (gFr m0 k_ hn_)), Or.elim hk_ (fun hs_ => Or.elim hs_ (fun hs_ => hs_.2.2.2) (fun hs_ => Or.elim hs_ (fun hs_ => (hs_).elim) (fun hs_ => ((Kd.R_types (Kd.R_types (Kd.R_types (HO_6.out) n0.out (by decide)) m0.out (by decide)) o0.out (by decide)).1 k_ hs_.symm).2))) (fun hn_ => (gFr o0 k_ hn_))⟩) HB; replace HO_6 := tRb HO_6 hb; replace n0 := tBb n0 hb; replace m0 := tBb m0 hb; replace o0 := tBb o0 hb; replace HB := tHb HB hb; (try clear hb Q1); obtain ⟨_, _, _, _, _, _⟩ := bx3 m0; obtain ⟨D4, C4, rfl⟩ := Kd.V_slice Q3.out))
         go_roundg k3
         case measure => have := U3.out; have := S3.out; have := u4.out; omega
         case rel => exact ⟨(wrap64 (U0 + 1)), (j4), (k4), (u3), (.slice D4 u3.length C4), fr, H', ⟨by have := U3.out; have := S3.out; have := u4.out; omega⟩, ⟨by (with_reducible repeat (first | apply Kd.R_alloc | apply Kd.R_drewN | apply Kd.R_drew)); exact Kd.R_mono (Kd.R_far (p := ⟨E0, 2, none⟩) (Kd.R_far (p := ⟨E0, 1, none⟩) (Kd.R_far (p := ⟨E0, 0, none⟩) (Kd.R_types HO_6.out m0.out (by decide)) (fun _ hk => hk.2) (.int .i64 j4)) (fun _ hk => hk.2) (.int .i64 k4)) (fun _ hk => hk.2) (.slice D4 u3.length C4)) (fun _ hk => hk.1)⟩, ⟨gV Q3⟩, ⟨gB n0⟩, ⟨gP m0 rfl⟩, ⟨bh HB⟩⟩
        rw [if_neg m4] at H
        have N4 : decide (U0 ≤ 4) = false := decide_eq_false m4
        clear m4
        have H' := am_ H
        clear H
        go_wp2
        go_roundg k3
        case measure => have := U3.out; have := S3.out; have := u4.out; omega
        case rel => exact ⟨(wrap64 (N0 + 1)), (M0), (L0), (I0), (Q0), fr, H', ⟨by have := U3.out; have := S3.out; have := u4.out; omega⟩, ⟨hV HO_466002⟩, ⟨gB n0⟩, ⟨gB m0⟩, ⟨bh HB⟩⟩
   rw [if_neg c6] at H
   have J4 : decide (N0 ≤ a0) = false := decide_eq_false c6
   clear c6
   simp only [Option.some.injEq, Prod.mk.injEq] at H
   obtain ⟨rfl, rfl, rfl⟩ := H
   obtain ⟨_, _⟩ := n2 V0
   obtain ⟨_, _, _, _, _, _⟩ := bx3 m0
   obtain ⟨_, _, _, _, _, _⟩ := bx3 n0
   obtain ⟨s5, O5, rfl⟩ := Kd.V_slice HO_466002.out
   go_wp2
   refine bodyPost_ret (results_cell_row rfl _ _ O0 24 #[.int .i64 C0, .int .i64 A0, .slice s5 z0.length O5] (0, 0) _ rfl (gP n0 rfl) Tryz.underlying24 rfl (by kernel_rfl)) rfl ?_
   exact ⟨_, fe, gV HO_466002, bh HB⟩

end Go.Proofs.YtopijobdblfhoaaGreat.PTuskAsks
