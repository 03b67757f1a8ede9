import Derived.Test.YtopijobdblfhoaaGreatPTuskChainsx0
import Derived.Test.YtopijobdblfhoaaGreatPTuskChainsx1
import Derived.Test.YtopijobdblfhoaaGreatVTuskChainsPj
set_option linter.unusedVariables false
set_option linter.unusedSimpArgs false
/- Printed by a program of this session. -/
namespace Go.Proofs.YtopijobdblfhoaaGreat.PTuskChains
set_option maxHeartbeats 8000000
set_option maxRecDepth 100000
open Go.RowKit Go.Proofs.YtopijobdblfhoaaGreatW.PrintWords Go.Proofs.YtopijobdblfhoaaGreatW.PrintLast Go.Proofs.YtopijobdblfhoaaGreatW.PrintMore
section
attribute [local go_sem high] eqA28
abbrev SE := S32
def RelE (W : World) (ok : Nat → Prop) (r : Si.ER) (x : SE) : Prop := r.d = x.f0 ∧ r.au = x.f1.f0 ∧ r.ro = x.f1.f1 ∧ r.n3 = x.f1.f2.length ∧ x.f1.f2.length ≤ r.c3 ∧ Kd.F Qbm W ok r.A3 x.f1.f2.length x.f1.f2 ∧ r.n4 = x.f1.f3.length ∧ x.f1.f3.length ≤ r.c4 ∧ Kd.F Kd.string W ok r.A4 x.f1.f3.length x.f1.f3 ∧ r.ea = x.f1.f4.f0 ∧ r.eb = x.f1.f4.f1
def Qe1 (W : World) (ok : Nat → Prop) : List Si.ER → List SE → Prop
 | [], [] => True
 | r :: rs, x :: xs => RelE W ok r x ∧ Qe1 W ok rs xs
 | _, _ => False
theorem Qe1.len {W : World} {ok : Nat → Prop} : ∀ {rs : List Si.ER} {xs : List SE}, Qe1 W ok rs xs → rs.length = xs.length
 | [], [], _ => rfl
 | r :: rs, x :: xs, h => by simp [Qe1.len h.2]
 | [], x :: xs, h => h.elim
 | r :: rs, [], h => h.elim
theorem Qe1.get {W : World} {ok : Nat → Prop} : ∀ {rs : List Si.ER} {xs : List SE} (_ : Qe1 W ok rs xs) (i : Nat) (r : Si.ER) (x : SE), rs[i]? = some r → xs[i]? = some x → RelE W ok r x
 | [], [], _, i, r, x, h1, _ => by simp at h1
 | r :: rs, x :: xs, h, 0, r', x', h1, h2 => by
  have e1 : r = r' := by simpa using h1
  have e2 : x = x' := by simpa using h2
  subst e1; subst e2; exact h.1
 | r :: rs, x :: xs, h, i + 1, r', x', h1, h2 => Qe1.get h.2 i r' x' (by simpa using h1) (by simpa using h2)
 | [], x :: xs, h, _, _, _, _, _ => h.elim
 | r :: rs, [], h, _, _, _, _, _ => h.elim
theorem Qkp {W : World} {ok : Nat → Prop} {ad : Addr} : ∀ (ms : List SE) (k : Nat), (∀ j x, ms[j]? = some x → ∃ r : Si.ER, RelE W ok r x ∧ ∀ (i : Nat) (u : Value), r.cs[i]? = some u → W.cell? (ad.add ((k + j) * 7 + i)) = some u) →
  ∃ rs, Qe1 W ok rs ms ∧ ∀ (j : Nat) (r : Si.ER), rs[j]? = some r → ∀ (i : Nat) (u : Value), r.cs[i]? = some u → W.cell? (ad.add ((k + j) * 7 + i)) = some u
 | [], k, _ => ⟨[], trivial, fun j r h => by simp at h⟩
 | m :: ms, k, h => by
  obtain ⟨r, hr, hc⟩ := h 0 m rfl
  obtain ⟨rs, hrs, hcs⟩ := Qkp (W := W) (ok := ok) (ad := ad) ms (k + 1) (fun j x hx => by
   have := h (j + 1) x (by simpa using hx)
   rw [show k + 1 + j = k + (j + 1) by omega]; exact this)
  refine ⟨r :: rs, ⟨hr, hrs⟩, fun j r' hr' => ?_⟩
  cases j with
  | zero =>
   have e : r = r' := by simpa using hr'
   subst e; exact hc
  | succ j =>
   have := hcs j r' (by simpa using hr'); rw [show k + 1 + j = k + (j + 1) by omega] at this; exact this
theorem Qjn {W : World} {ok : Nat → Prop} {A : Option Addr} {ms : List SE} (h : Kd.F k32 W ok A ms.length ms) : ∃ rs, Qe1 W ok rs ms ∧ Si.Rowentry W A rs := by
 obtain ⟨_, _, hn⟩ := Kd.F_rows h
 by_cases h0 : 0 < ms.length
 ·
  obtain ⟨ad, rfl, hc⟩ := hn h0
  obtain ⟨rs, hrs, hcs⟩ := Qkp (W := W) (ok := ok) (ad := ad) ms 0 (fun j x hx => by
   obtain ⟨cs, _, hK, hcell⟩ := hc j x hx; obtain ⟨A3, c3, A4, c4, rfl, l3, n0, l4, o0⟩ := Qap hK; have e3 : (k32).sz = 7 := rfl; rw [e3] at hcell; rw [Nat.zero_add]
   exact ⟨⟨x.f0, x.f1.f0, x.f1.f1, A3, x.f1.f2.length, c3, A4, x.f1.f3.length, c4, x.f1.f4.f0, x.f1.f4.f1⟩, ⟨rfl, rfl, rfl, rfl, l3, n0, rfl, l4, o0, rfl, rfl⟩, hcell⟩)
  refine ⟨rs, hrs, fun i x hx => ⟨ad, rfl, ?_⟩⟩; have q := hcs i x hx; rw [Nat.zero_add] at q; rw [Si.add_more _ _ _ (by omega), Si.add_more _ _ _ (by omega), Si.add_more _ _ _ (by omega), Si.add_more _ _ _ (by omega), Si.add_more _ _ _ (by omega), Si.add_more _ _ _ (by omega)]; exact ⟨q 0 _ rfl, q 1 _ rfl, q 2 _ rfl, q 3 _ rfl, q 4 _ rfl, q 5 _ rfl, q 6 _ rfl⟩
 have e : ms = [] := List.eq_nil_of_length_eq_zero (by omega); subst e; exact ⟨[], trivial, fun i x hx => by simp at hx⟩
theorem Qet {W : World} {ok : Nat → Prop} (p : Si.ER → Bool) (q : SE → Bool) (hpq : ∀ r x, RelE W ok r x → p r = q x) : ∀ (rs : List Si.ER) (l : List SE), Qe1 W ok rs l → (match l.find? q with
  | some x => (Si.firstE p rs).2 = true ∧ RelE W ok (Si.firstE p rs).1 x
  | none => Si.firstE p rs = (Si.zER, false))
 | [], [], _ => rfl
 | r :: rs, x :: xs, h => by
  rw [Si.firstE_cons, List.find?_cons]; have e := hpq r x h.1
  cases hq : q x with
  | true => rw [hq] at e; rw [if_pos e]; exact ⟨rfl, h.1⟩
  | false => rw [hq] at e; rw [if_neg (by rw [e]; decide)]; exact Qet p q hpq rs xs h.2
 | [], x :: xs, h => h.elim
 | r :: rs, [], h => h.elim
def Fr.l0 : Nat → Int → List (S32) → List (S32) → Int → Int → Option ((List (S32)))
 | 0, _, _, _, _, _ => none
 | k + 1, x1, x5, x9, o0, n0 => if n0 < o0 then (if 0 ≤ n0 then (if n0 < (x9.length : Int) then (if ((Qab x9 n0).f1.f1) = x1 then (if x5.length < 1466015503701 then (Fr.l0 k x1 (x5 ++ [(⟨(Qab x9 n0).f0, (⟨(Qab x9 n0).f1.f0, (Qab x9 n0).f1.f1, (Qab x9 n0).f1.f2, (Qab x9 n0).f1.f3, (⟨(Qab x9 n0).f1.f4.f0, (Qab x9 n0).f1.f4.f1⟩ : S28)⟩ : S30)⟩ : S32)]) x9 o0 (wrap64 (n0 + 1))) else (none)) else (Fr.l0 k x1 x5 x9 o0 (wrap64 (n0 + 1)))) else (none)) else (none)) else (some x5)
def Fr.f (k : Nat) (a0_0 a0_1 : Int) (l0_2 : List (S32)) (a1 : Int) : Option ((List (S32))) := Fr.l0 k a1 ([] : List (S32)) l0_2 (l0_2.length : Int) 0
theorem Fr.calls (k : Nat) (a0_0 a0_1 : Int) (u0 : Nat → Prop) (A0_2 : Option Addr) (c0_2 : Nat) (l0_2 : List (S32)) (a1 : Int) (r : List (S32)) (w : World) (S3 : Kd.V k32 32 w w.heap.size (fun k_ => u0 k_) (.slice A0_2 l0_2.length c0_2) l0_2) (h : Fr.f k a0_0 a0_1 l0_2 a1 = some r) :
  Calls Tryz.prog 34 #[.agg #[.int .i64 a0_0, .int .i64 a0_1, .slice A0_2 l0_2.length c0_2], .int .i64 a1] w fun e w' => ∃ M4 : Value, e = .returned (M4) ∧ Kd.N k32 32 w' w.heap.size (fun k_ => (u0 k_ ∨ w.heap.size ≤ k_)) M4 r ∧ Below w.heap.size w w' := by
 have W4 := Tryz.underlying24; have U4 := Tryz.underlying32; have L2 := am_ (show Kd.V k32 32 w w.heap.size (fun k_ => (u0 k_ ∨ w.heap.size ≤ k_)) (.slice A0_2 l0_2.length c0_2) l0_2 from Kd.V_mono S3 (fun k_ hk => .inl hk)); have HB := am_ (Below.refl w.heap.size w); have H := h; unfold Fr.f at H; clear h; have H' := am_ H; clear H; go_enter Tryz.func34, Tryz.ntmps34
 go_wp2_with (first | (refine bf_ 2 #[.int .i64 a0_0, .int .i64 a0_1, .slice A0_2 l0_2.length c0_2] 24 HB ?_; intro A0 hg w3 hb I0 L4 HB; replace L2 := tVe L2 hg hb; clear hb hg; obtain ⟨E4, C4, J4, u4, s4, k4⟩ := bx3 I0))
 go_loopg [5, 11] k (fun kq v5 R4 w' => ∃ (Q2 : List (S32)) (n0 : Int), R4 = .int .i64 n0 ∧ Asc (Fr.l0 kq a1 Q2 l0_2 (l0_2.length : Int) n0 = some r) ∧ Asc (kq ≤ k) ∧ Asc (Kd.N k32 32 w' w.heap.size (fun k_ => (u0 k_ ∨ w.heap.size ≤ k_) ∧ k_ ≠ A0) v5 Q2) ∧ Asc (Kd.V k32 32 w' w.heap.size (fun k_ => (u0 k_ ∨ w.heap.size ≤ k_) ∧ some k_ ≠ (v5 : Value).ownBlock ∧ k_ ≠ A0) (.slice A0_2 l0_2.length c0_2) l0_2) ∧ Asc (Kd.V k32 32 w' w.heap.size (fun k_ => (u0 k_ ∨ w.heap.size ≤ k_) ∧ some k_ ≠ (v5 : Value).ownBlock ∧ k_ ≠ A0) (.slice A0_2 l0_2.length c0_2) l0_2) ∧ Asc (w'.heap[A0]? = some (.cells #[.int .i64 a0_0, .int .i64 a0_1, (.slice A0_2 l0_2.length c0_2)] 24 (0, 0))) ∧ Asc (Below w.heap.size w w'))
 case atStart => exact ⟨(([] : List (S32))), (0), fr, H', ⟨Nat.le_refl _⟩, ⟨kn⟩, ⟨gV L2⟩, ⟨gV L2⟩, ⟨gB I0⟩, ⟨bh HB⟩⟩
 case round =>
  clear H'; try clear E4 C4 J4 u4 s4 k4
  obtain ⟨Q2, n0, rfl, HA, Z3, HO_5, HO_9, HO_102002, I0, HB⟩ := hrel
  cases gk with
  | zero => exact absurd HA.out (by simp [Fr.l0])
  | succ k1 =>
   have H := HA.out; clear HA; simp only [Fr.l0] at H
   by_cases c5 : n0 < (l0_2.length : Int)
   ·
    rw [if_pos c5] at H; have m4 := dT c5; clear c5; revert H; refine gi (fun Y4 H => ?_); revert H; refine gi (fun X4 H => ?_)
    by_cases c8 : ((Qab l0_2 n0).f1.f1) = a1
    ·
     rw [if_pos c8] at H; obtain ⟨K4, I4⟩ := et c8; clear c8; revert H; refine gi' (fun c9 H => ?_); have D4 := am_ c9; clear c9; obtain ⟨V3, C2⟩ : ∃ y_ : List (S32), y_ = (Q2 ++ [(⟨(Qab l0_2 n0).f0, (⟨(Qab l0_2 n0).f1.f0, (Qab l0_2 n0).f1.f1, (Qab l0_2 n0).f1.f2, (Qab l0_2 n0).f1.f3, (⟨(Qab l0_2 n0).f1.f4.f0, (Qab l0_2 n0).f1.f4.f1⟩ : S28)⟩ : S30)⟩ : S32)]) := ⟨_, rfl⟩; replace H : (Fr.l0 k1 a1 V3 l0_2 (l0_2.length : Int) (wrap64 (n0 + 1))) = some r := by first | (rw [C2]; with_reducible exact H) | (have H := (Option.bind_some _ _).symm.trans H; first | (rw [C2]; with_reducible exact H) | with_reducible exact H) | with_reducible exact H | (rw [C2]; exact H) | exact H
     have Q3 := am_ C2; clear C2; have H' := am_ H; clear H; have O1 : 0 ≤ (n0 : Int) := dt; have P1 : n0 < (l0_2.length : Int) := dt; obtain ⟨N3, Q1, V1, Y1, U1, L3, I3, Z2, u3, Z1, X1, m3, J3, D1, X0, Y0, C1⟩ := Qao (Kd.V_reads' HO_9.out).2.2 n0 O1 P1; cases L3; obtain ⟨U3, J2, D2, U0⟩ := Kd.V_get HO_9.out z32 n0 O1 (by first | exact P1 | exact dt | (have e_ := (Kd.V_reads' HO_9.out).1; omega)); obtain ⟨Y2, D3, C3, V2, rfl, N0, O0, Q0, P0⟩ := Qap D2; have M0 := U0 3 _ rfl; rw [Qaf _ _ 3 (by omega)] at M0; replace M0 := Option.some.inj (M0.symm.trans Z1)
     injection M0 with hva_ hvn_ hvc_
     rw [hva_] at O0; rw [hvc_] at N0; have C0 := am_ (show Kd.V Qbm 107 _ w.heap.size _ _ ((Qab l0_2 n0).f1.f2) from Kd.V_mk N0 O0); clear hva_ hvn_ hvc_ O0 N0; have L0 := U0 4 _ rfl; rw [Qaf _ _ 4 (by omega)] at L0; replace L0 := Option.some.inj (L0.symm.trans X1)
     injection L0 with hva_ hvn_ hvc_
     rw [hva_] at P0; rw [hvc_] at Q0; have E0 := am_ (show Kd.V Kd.string 9 _ w.heap.size _ _ ((Qab l0_2 n0).f1.f3) from Kd.V_mk Q0 P0); clear hva_ hvn_ hvc_ P0 Q0 U0 J2; have V0 := am_ X0; have s3 := am_ D1; clear X0 D1; have Z0 := am_ C1; have k3 := am_ Y0; clear C1 Y0; replace O1 := eq_true O1; replace P1 := eq_true P1
     go_wp2_with (first | (refine bf_ 7 #[.string (⟨#[]⟩ : ByteArray), .int .i64 0, .int .i64 0, .slice none 0 0, .slice none 0 0, .int .i64 0, .int .i64 0] 32 HB ?_; intro o0 hg S4 hb N1 Y3 HB; replace HO_5 := tNe HO_5 hg hb; replace HO_9 := tVe HO_9 hg hb; replace HO_102002 := tVe HO_102002 hg hb; replace C0 := tVe C0 hg hb; replace E0 := tVe E0 hg hb; replace V0 := tCb V0 hb; replace Z0 := tCb Z0 hb; obtain ⟨N2, L1⟩ := tN I0 hg; replace I0 := tBb I0 hb; clear hb hg; have _ := n2 L1; obtain ⟨O4, P4, _, _, _, _, _, Q4, N4, _, _, _, _, _⟩ := bx7 N1) | ((with_reducible refine Qar (t := 32) (p := 7) rfl ?_); refine se_ 32 7 (((((((S4.setCell ⟨o0, 0, none⟩ (.string ((Qab l0_2 n0).f0))).setCell ⟨o0, 1, none⟩ (.int .i64 ((Qab l0_2 n0).f1.f0))).setCell ⟨o0, 2, none⟩ (.int .i64 ((Qab l0_2 n0).f1.f1))).setCell ⟨o0, 3, none⟩ (.slice Q1 ((Qab l0_2 n0).f1.f2).length V1)).setCell ⟨o0, 4, none⟩ (.slice Y1 ((Qab l0_2 n0).f1.f3).length U1)).setCell ⟨o0, 5, none⟩ (.int .i64 ((Qab l0_2 n0).f1.f4.f0))).setCell ⟨o0, 6, none⟩ (.int .i64 ((Qab l0_2 n0).f1.f4.f1))) ?_; intro i5 hw; replace HO_5 := gNw (fun k_ => (u0 k_ ∨ w.heap.size ≤ k_) ∧ k_ ≠ A0 ∧ k_ ≠ o0) HO_5 hw; replace HO_9 := gVw (fun k_ => (u0 k_ ∨ w.heap.size ≤ k_) ∧ some k_ ≠ (u5 : Value).ownBlock ∧ k_ ≠ A0 ∧ k_ ≠ o0) HO_9 hw; replace HO_102002 := gVw (fun k_ => (u0 k_ ∨ w.heap.size ≤ k_) ∧ some k_ ≠ (u5 : Value).ownBlock ∧ k_ ≠ A0 ∧ k_ ≠ o0) HO_102002 hw; replace C0 := gVw (fun k_ => (u0 k_ ∨ w.heap.size ≤ k_) ∧ some k_ ≠ (u5 : Value).ownBlock ∧ k_ ≠ A0 ∧ k_ ≠ o0) C0 hw; replace E0 := gVw (fun k_ => (u0 k_ ∨ w.heap.size ≤ k_) ∧ some k_ ≠ (u5 : Value).ownBlock ∧ k_ ≠ A0 ∧ k_ ≠ o0) E0 hw; replace I0 := sB I0 hw; replace N1 := sP #[.string ((Qab l0_2 n0).f0), .int .i64 ((Qab l0_2 n0).f1.f0), .int .i64 ((Qab l0_2 n0).f1.f1), .slice Q1 ((Qab l0_2 n0).f1.f2).length V1, .slice Y1 ((Qab l0_2 n0).f1.f3).length U1, .int .i64 ((Qab l0_2 n0).f1.f4.f0), .int .i64 ((Qab l0_2 n0).f1.f4.f1)] N1 hw; replace HB := sH HB hw; clear hw; have _ := bx7 N1) | ((with_reducible refine Qat (b := .append) (xs := #[.tmp 20, .tmp 22]) rfl ?_); at_builtin; refine Kd.N_append k32 (w0 := w) w.heap.size rfl (.tmp 20) (.tmp 22) 22 32 (.agg #[(.string ⟨#[]⟩), (.int .i64 0), (.int .i64 0), (.slice none 0 0), (.slice none 0 0), (.int .i64 0), (.int .i64 0)]) 96 rfl Tryz.underlying22 Qc5 rfl (by decide) (by omega) u5 Q2 (⟨(Qab l0_2 n0).f0, (⟨(Qab l0_2 n0).f1.f0, (Qab l0_2 n0).f1.f1, (Qab l0_2 n0).f1.f2, (Qab l0_2 n0).f1.f3, (⟨(Qab l0_2 n0).f1.f4.f0, (Qab l0_2 n0).f1.f4.f1⟩ : S28)⟩ : S30)⟩ : S32) [.string ((Qab l0_2 n0).f0), .int .i64 ((Qab l0_2 n0).f1.f0), .int .i64 ((Qab l0_2 n0).f1.f1), .slice Q1 ((Qab l0_2 n0).f1.f2).length V1, .slice Y1 ((Qab l0_2 n0).f1.f3).length U1, .int .i64 ((Qab l0_2 n0).f1.f4.f0), .int .i64 ((Qab l0_2 n0).f1.f4.f1)] (fun k_ => (u0 k_ ∨ w.heap.size ≤ k_) ∧ k_ ≠ A0 ∧ k_ ≠ o0) (fun k_ => ((fun k_ => (u0 k_ ∨ w.heap.size ≤ k_) ∧ k_ ≠ A0 ∧ k_ ≠ o0)) k_ ∧ some k_ ≠ (u5 : Value).ownBlock) rfl rfl ?aP (fun _ hk => hk) ?aF ?aO ?aB ?aS ?aL ?_; (case aP => exact (Qc9 _ _ (⟨(Qab l0_2 n0).f0, (⟨(Qab l0_2 n0).f1.f0, (Qab l0_2 n0).f1.f1, (Qab l0_2 n0).f1.f2, (Qab l0_2 n0).f1.f3, (⟨(Qab l0_2 n0).f1.f4.f0, (Qab l0_2 n0).f1.f4.f1⟩ : S28)⟩ : S30)⟩ : S32) (Kd.V_reads' (Kd.V_mono (ok' := (fun k_ => ((fun k_ => (u0 k_ ∨ w.heap.size ≤ k_) ∧ k_ ≠ A0 ∧ k_ ≠ o0)) k_ ∧ some k_ ≠ (u5 : Value).ownBlock)) (C0.out) (fun k_ hk => ⟨⟨hk.1, ⟨hk.2.2.1, hk.2.2.2⟩⟩, hk.2.1⟩))).2.1 (Kd.V_F (Kd.V_mono (ok' := (fun k_ => ((fun k_ => (u0 k_ ∨ w.heap.size ≤ k_) ∧ k_ ≠ A0 ∧ k_ ≠ o0)) k_ ∧ some k_ ≠ (u5 : Value).ownBlock)) (C0.out) (fun k_ hk => ⟨⟨hk.1, ⟨hk.2.2.1, hk.2.2.2⟩⟩, hk.2.1⟩))) (Kd.V_reads' (Kd.V_mono (ok' := (fun k_ => ((fun k_ => (u0 k_ ∨ w.heap.size ≤ k_) ∧ k_ ≠ A0 ∧ k_ ≠ o0)) k_ ∧ some k_ ≠ (u5 : Value).ownBlock)) (E0.out) (fun k_ hk => ⟨⟨hk.1, ⟨hk.2.2.1, hk.2.2.2⟩⟩, hk.2.1⟩))).2.1 (Kd.V_F (Kd.V_mono (ok' := (fun k_ => ((fun k_ => (u0 k_ ∨ w.heap.size ≤ k_) ∧ k_ ≠ A0 ∧ k_ ≠ o0)) k_ ∧ some k_ ≠ (u5 : Value).ownBlock)) (E0.out) (fun k_ hk => ⟨⟨hk.1, ⟨hk.2.2.1, hk.2.2.2⟩⟩, hk.2.1⟩))))); (case aB => exact (bh HB)); (case aF => exact ge_); (case aO => exact (hN HO_5)); (case aS => exact (Qac (bh HB))); (case aL => have := D4.out; omega); intro V4 Z4 ho hb hg hat; rw [← Q3.out] at ho; replace HO_9 := am_ (Kd.V_afterv (ok := (fun k_ => (u0 k_ ∨ w.heap.size ≤ k_) ∧ k_ ≠ A0 ∧ k_ ≠ o0)) (gV HO_9) hg hat); replace HO_102002 := am_ (Kd.V_afterv (ok := (fun k_ => (u0 k_ ∨ w.heap.size ≤ k_) ∧ k_ ≠ A0 ∧ k_ ≠ o0)) (gV HO_102002) hg hat); replace I0 := tBg I0 hg (Kd.N_ne HO_5.out I0.out (by decide)); replace C0 := am_ (Kd.V_afterv (ok := (fun k_ => (u0 k_ ∨ w.heap.size ≤ k_) ∧ k_ ≠ A0 ∧ k_ ≠ o0)) (gV C0) hg hat); replace E0 := am_ (Kd.V_afterv (ok := (fun k_ => (u0 k_ ∨ w.heap.size ≤ k_) ∧ k_ ≠ A0 ∧ k_ ≠ o0)) (gV E0) hg hat); replace N1 := tBg N1 hg (Kd.N_away HO_5.out (fun _ hk => hk.2.2)); replace HB := am_ hb; have X3 := am_ (ho); clear HO_5 ho hb hg hat))
     go_roundg k1
     case measure => have := Z3.out; omega
     case rel => exact ⟨(V3), (wrap64 (n0 + 1)), fr, H', kS Z3, ⟨gN X3⟩, ⟨gV HO_9⟩, ⟨gV HO_102002⟩, ⟨gB I0⟩, ⟨bh HB⟩⟩
    rw [if_neg c8] at H; obtain ⟨K4, I4⟩ := ef c8; have H' := am_ H; clear H; have O1 : 0 ≤ (n0 : Int) := dt; have P1 : n0 < (l0_2.length : Int) := dt; obtain ⟨N3, Q1, V1, Y1, U1, L3, I3, Z2, u3, Z1, X1, m3, J3, D1, X0, Y0, C1⟩ := Qao (Kd.V_reads' HO_9.out).2.2 n0 O1 P1; cases L3; obtain ⟨U3, J2, D2, U0⟩ := Kd.V_get HO_9.out z32 n0 O1 (by first | exact P1 | exact dt | (have e_ := (Kd.V_reads' HO_9.out).1; omega)); obtain ⟨Y2, D3, C3, V2, rfl, N0, O0, Q0, P0⟩ := Qap D2; have M0 := U0 3 _ rfl; rw [Qaf _ _ 3 (by omega)] at M0; replace M0 := Option.some.inj (M0.symm.trans Z1)
    injection M0 with hva_ hvn_ hvc_
    rw [hva_] at O0; rw [hvc_] at N0; have C0 := am_ (show Kd.V Qbm 107 _ w.heap.size _ _ ((Qab l0_2 n0).f1.f2) from Kd.V_mk N0 O0); clear hva_ hvn_ hvc_ O0 N0; have L0 := U0 4 _ rfl; rw [Qaf _ _ 4 (by omega)] at L0; replace L0 := Option.some.inj (L0.symm.trans X1)
    injection L0 with hva_ hvn_ hvc_
    rw [hva_] at P0; rw [hvc_] at Q0; have E0 := am_ (show Kd.V Kd.string 9 _ w.heap.size _ _ ((Qab l0_2 n0).f1.f3) from Kd.V_mk Q0 P0); clear hva_ hvn_ hvc_ P0 Q0 U0 J2; have V0 := am_ X0; have s3 := am_ D1; clear X0 D1; have Z0 := am_ C1; have k3 := am_ Y0; clear C1 Y0; replace O1 := eq_true O1; replace P1 := eq_true P1
    go_wp2_with (first | (refine bf_ 7 #[.string (⟨#[]⟩ : ByteArray), .int .i64 0, .int .i64 0, .slice none 0 0, .slice none 0 0, .int .i64 0, .int .i64 0] 32 HB ?_; intro o0 hg w16 hb N1 Y3 HB; replace HO_5 := tNe HO_5 hg hb; replace HO_9 := tVe HO_9 hg hb; replace HO_102002 := tVe HO_102002 hg hb; replace C0 := tVe C0 hg hb; replace E0 := tVe E0 hg hb; replace V0 := tCb V0 hb; replace Z0 := tCb Z0 hb; obtain ⟨N2, L1⟩ := tN I0 hg; replace I0 := tBb I0 hb; clear hb hg; have _ := n2 L1; have _ := bx7 N1))
    go_roundg k1
    case measure => have := Z3.out; omega
    case rel => exact ⟨(Q2), (wrap64 (n0 + 1)), fr, H', kS Z3, ⟨gN HO_5⟩, ⟨gV HO_9⟩, ⟨gV HO_102002⟩, ⟨gB I0⟩, ⟨bh HB⟩⟩
   rw [if_neg c5] at H; have m4 := dF c5; clear c5; obtain rfl := Option.some.inj H; go_wp2; go_ret; exact ⟨_, fe, gN HO_5, bh HB⟩

def Ge.f (a0_0 a0_1 : Int) : Option (Bool) := if a0_0 ≥ 0 then (if a0_0 < 10007 then (if a0_1 ≥ 0 then (some (decide (a0_1 < 10007))) else (some false)) else (some false)) else (some false)
theorem Ge.calls (a0_0 a0_1 : Int) (r : Bool) (w : World) (h : Ge.f a0_0 a0_1 = some r) :
  Calls Tryz.prog 69 #[.agg #[.int .i64 a0_0, .int .i64 a0_1]] w fun e w' => e = .returned (.bool r) ∧ Below w.heap.size w w' := by
 have U0 := Tryz.underlying28; have HB := am_ (Below.refl w.heap.size w); have H := h; unfold Ge.f at H; clear h
 by_cases c2 : a0_0 ≥ 0
 ·
  rw [if_pos c2] at H; have C0 : decide (0 ≤ a0_0) = true := dT c2; clear c2
  by_cases c3 : a0_0 < 10007
  ·
   rw [if_pos c3] at H; have E0 := dT c3; clear c3
   by_cases c4 : a0_1 ≥ 0
   ·
    rw [if_pos c4] at H; have A0 : decide (0 ≤ a0_1) = true := dT c4; clear c4; obtain rfl := Option.some.inj H; go_enter Tryz.func69, Tryz.ntmps69
    go_wp2_with (first | (refine bf_ 1 #[.int .i64 a0_0, .int .i64 a0_1] 28 HB ?_; intro o0 hg w5 hb n0 u0 HB; clear hb hg; have _ := bx2 n0))
    go_ret; exact ⟨fe, bh HB⟩
   rw [if_neg c4] at H; have A0 : decide (0 ≤ a0_1) = false := dF c4; clear c4; obtain rfl := Option.some.inj H; go_enter Tryz.func69, Tryz.ntmps69
   go_wp2_with (first | (refine bf_ 1 #[.int .i64 a0_0, .int .i64 a0_1] 28 HB ?_; intro o0 hg w7 hb n0 u0 HB; clear hb hg; obtain ⟨Q0, O0, V0, P0⟩ := bx2 n0))
   go_ret; exact ⟨fe, bh HB⟩
  rw [if_neg c3] at H; have E0 := dF c3; clear c3; obtain rfl := Option.some.inj H; go_enter Tryz.func69, Tryz.ntmps69
  go_wp2_with (first | (refine bf_ 1 #[.int .i64 a0_0, .int .i64 a0_1] 28 HB ?_; intro o0 hg w9 hb n0 u0 HB; clear hb hg; have _ := bx2 n0))
  go_ret; exact ⟨fe, bh HB⟩
 rw [if_neg c2] at H; have C0 : decide (0 ≤ a0_0) = false := dF c2; clear c2; obtain rfl := Option.some.inj H; go_enter Tryz.func69, Tryz.ntmps69
 go_wp2_with (first | (refine bf_ 1 #[.int .i64 a0_0, .int .i64 a0_1] 28 HB ?_; intro o0 hg X0 hb n0 u0 HB; clear hb hg; obtain ⟨I0, N0, M0, L0⟩ := bx2 n0))
 go_ret; exact ⟨fe, bh HB⟩

def H9.f (a0_0 a0_1 : Int) (o0 n0 : Int) : Option (Int × Int) := some (Fl.opE Gm.mul (a0_0, a0_1) (o0, n0))
theorem H9.calls (a0_0 a0_1 : Int) (o0 n0 : Int) (r1 r2 : Int) (w : World) (h : H9.f a0_0 a0_1 o0 n0 = some (r1, r2)) :
  Calls Tryz.prog 73 #[.agg #[.int .i64 a0_0, .int .i64 a0_1], .agg #[.int .i64 o0, .int .i64 n0]] w fun e w' => e = .returned (.agg #[.int .i64 r1, .int .i64 r2]) ∧ Below w.heap.size w w' := by
 have e := Option.some.inj h; have c := Fl.mul_c a0_0 a0_1 o0 n0 w; rw [e] at c; exact c

def Hc.f (a0_0 a0_1 a1 : Int) : Option (Int × Int) := if 0 ≤ a1 ∧ a1 < 18446744073709551616 then some (Fl.powE (a0_0, a0_1) a1.toNat) else none
theorem Hc.calls (a0_0 a0_1 : Int) (a1 r1 r2 : Int) (w : World) (h : Hc.f a0_0 a0_1 a1 = some (r1, r2)) :
  Calls Tryz.prog 111 #[.agg #[.int .i64 a0_0, .int .i64 a0_1], .int .u64 a1] w fun e w' => e = .returned (.agg #[.int .i64 r1, .int .i64 r2]) ∧ Below w.heap.size w w' := by
 unfold Hc.f at h
 by_cases hb : 0 ≤ a1 ∧ a1 < 18446744073709551616
 ·
  rw [if_pos hb] at h; have e := Option.some.inj h; obtain ⟨n, rfl⟩ := Int.eq_ofNat_of_zero_le hb.1; rw [Int.toNat_natCast] at e; have c := Fl.powE_c a0_0 a0_1 n (by omega) w; rw [e] at c; exact c
 rw [if_neg hb] at h; cases h

def H8.f (a0_0 a0_1 : Int) : Option (Int × Int × Int) := (Ge.f a0_0 a0_1).bind fun o0 => (if o0 = true then (if (a0_0 == 0 && (a0_1 == 0)) = true then (some (0, 0, 1)) else ((Hc.f a0_0 a0_1 100140047).bind fun n0 => (some (n0.1, n0.2, 0)))) else (some (0, 0, 1)))
theorem H8.calls (a0_0 a0_1 : Int) (r1 r2 r3 : Int) (w : World) (h : H8.f a0_0 a0_1 = some (r1, r2, r3)) :
  Calls Tryz.prog 98 #[.agg #[.int .i64 a0_0, .int .i64 a0_1]] w fun e w' => e = .returned (.tuple #[.agg #[.int .i64 r1, .int .i64 r2], .int .i64 r3]) ∧ Below w.heap.size w w' := by
 have C1 := Tryz.underlying28; have HB := am_ (Below.refl w.heap.size w); have H := h; unfold H8.f at H; clear h; replace H := bi H; obtain ⟨Z0, A2, H⟩ := H; try dsimp only at H
 replace H := ib H; obtain ⟨rfl, H⟩ | ⟨rfl, H⟩ := H
 ·
  by_cases c4 : (a0_0 == 0 && (a0_1 == 0)) = true
  ·
   rw [if_pos c4] at H; have P0 : (a0_0 == 0 && (a0_1 == 0)) = true := c4
   (try (have Q0 : decide (a0_0 = 0 && (a0_1 == 0)) = true := by simpa using c4))
   (try (have O0 : (a0_0 == 0 && (a0_1 == 0)) = true := by simpa using c4))
   clear c4; replace H := oi3 H; obtain ⟨rfl, rfl, rfl⟩ := H; go_enter Tryz.func98, Tryz.ntmps98
   go_wp2_with (first | (refine bf_ 1 #[.int .i64 a0_0, .int .i64 a0_1] 28 HB ?_; intro L0 hg w5 hb n0 E0 HB; clear hb hg) | (refine bf_ 2 #[.int .i64 0, .int .i64 0] 28 HB ?_; intro C0 hg w6 hb o0 I0 HB; obtain ⟨u0, A0⟩ := tN n0 hg; replace n0 := tBb n0 hb; clear hb hg; have _ := n2 u0; obtain ⟨X0, V0, Y0, D1⟩ := bx2 n0) | (refine gl_ (some 5) Tryz.func69 #[.agg #[.int .i64 a0_0, .int .i64 a0_1]] ?_; (with_reducible refine (Ge.calls a0_0 a0_1 true _ A2.out).mono ?_); rintro e w9 ⟨rfl, hb⟩; refine ⟨_, rfl, ?_⟩; replace n0 := tBb n0 hb; replace o0 := tBb o0 hb; replace HB := tHb HB hb; (try clear hb); have _ := bx2 n0; have _ := bx2 o0))
   refine bodyPost_ret (Qak rfl _ _ C0 28 #[.int .i64 0, .int .i64 0] (0, 0) _ rfl (gP o0 rfl) Tryz.underlying28 rfl (by kernel_rfl)) rfl ?_; exact ⟨fe, bh HB⟩
  rw [if_neg c4] at H; have P0 : (a0_0 == 0 && (a0_1 == 0)) = false := by simpa using c4
  (try (have Q0 : decide (a0_0 = 0 && (a0_1 == 0)) = false := by simpa using c4))
  (try (have O0 : (a0_0 == 0 && (a0_1 == 0)) = false := by simpa using c4))
  (try (have L1 : ¬ (a0_0 = 0 && (a0_1 == 0)) := by simpa using c4))
  clear c4; replace H := bi H; obtain ⟨⟨N0, M0⟩, U0, H⟩ := H; try dsimp only at H
  replace H := oi3 H; obtain ⟨rfl, rfl, rfl⟩ := H; go_enter Tryz.func98, Tryz.ntmps98
  go_wp2_with (first | (refine bf_ 1 #[.int .i64 a0_0, .int .i64 a0_1] 28 HB ?_; intro L0 hg U1 hb n0 E0 HB; clear hb hg) | (refine bf_ 2 #[.int .i64 0, .int .i64 0] 28 HB ?_; intro C0 hg Q1 hb o0 I0 HB; obtain ⟨u0, A0⟩ := tN n0 hg; replace n0 := tBb n0 hb; clear hb hg; have _ := n2 u0; have _ := bx2 n0) | (refine gl_ (some 5) Tryz.func69 #[.agg #[.int .i64 a0_0, .int .i64 a0_1]] ?_; (with_reducible refine (Ge.calls a0_0 a0_1 true _ A2.out).mono ?_); rintro e V1 ⟨rfl, hb⟩; refine ⟨_, rfl, ?_⟩; replace n0 := tBb n0 hb; replace o0 := tBb o0 hb; replace HB := tHb HB hb; (try clear hb); have _ := bx2 n0) | (refine gl_ (some 14) Tryz.func111 #[.agg #[.int .i64 a0_0, .int .i64 a0_1], .int .u64 100140047] ?_; (with_reducible refine (Hc.calls a0_0 a0_1 100140047 N0 M0 _ U0.out).mono ?_); rintro e N1 ⟨rfl, hb⟩; refine ⟨_, rfl, ?_⟩; replace n0 := tBb n0 hb; replace o0 := tBb o0 hb; replace HB := tHb HB hb; (try clear hb); have _ := bx2 o0))
  refine bodyPost_ret (Qak rfl _ _ C0 28 #[.int .i64 N0, .int .i64 M0] (0, 0) _ rfl (gP o0 rfl) Tryz.underlying28 rfl (by kernel_rfl)) rfl ?_; exact ⟨fe, bh HB⟩
 replace H := oi3 H; obtain ⟨rfl, rfl, rfl⟩ := H; go_enter Tryz.func98, Tryz.ntmps98
 go_wp2_with (first | (refine bf_ 1 #[.int .i64 a0_0, .int .i64 a0_1] 28 HB ?_; intro L0 hg O1 hb n0 E0 HB; clear hb hg) | (refine bf_ 2 #[.int .i64 0, .int .i64 0] 28 HB ?_; intro C0 hg X1 hb o0 I0 HB; obtain ⟨u0, A0⟩ := tN n0 hg; replace n0 := tBb n0 hb; clear hb hg; have _ := n2 u0; have _ := bx2 n0) | (refine gl_ (some 5) Tryz.func69 #[.agg #[.int .i64 a0_0, .int .i64 a0_1]] ?_; (with_reducible refine (Ge.calls a0_0 a0_1 false _ A2.out).mono ?_); rintro e P1 ⟨rfl, hb⟩; refine ⟨_, rfl, ?_⟩; replace n0 := tBb n0 hb; replace o0 := tBb o0 hb; replace HB := tHb HB hb; (try clear hb); have _ := bx2 o0))
 refine bodyPost_ret (Qak rfl _ _ C0 28 #[.int .i64 0, .int .i64 0] (0, 0) _ rfl (gP o0 rfl) Tryz.underlying28 rfl (by kernel_rfl)) rfl ?_; exact ⟨fe, bh HB⟩

def Hf.f (a0_0 a0_1 : Int) (o0 n0 : Int) : Option (Int × Int) := some (Fl.opE Gm.sub (a0_0, a0_1) (o0, n0))
theorem Hf.calls (a0_0 a0_1 : Int) (o0 n0 : Int) (r1 r2 : Int) (w : World) (h : Hf.f a0_0 a0_1 o0 n0 = some (r1, r2)) :
  Calls Tryz.prog 99 #[.agg #[.int .i64 a0_0, .int .i64 a0_1], .agg #[.int .i64 o0, .int .i64 n0]] w fun e w' => e = .returned (.agg #[.int .i64 r1, .int .i64 r2]) ∧ Below w.heap.size w w' := by
 have e := Option.some.inj h; have c := Fl.sub_c a0_0 a0_1 o0 n0 w; rw [e] at c; exact c

def Ga.l0 : Nat → List (S76) → Int → Int → Int → Int → Int → Int → Int → Option (Int × Int)
 | 0, _, _, _, _, _, _, _, _ => none
 | k + 1, x0, x1, N0, L0, u0, n0, A0, o0 => if L0 < N0 then (if L0 = x1 then (Ga.l0 k x0 x1 N0 (wrap64 (L0 + 1)) u0 n0 A0 o0) else (if 0 ≤ L0 then (if L0 < (x0.length : Int) then ((Hf.f ((Qal x0 L0).f0) 0 A0 o0).bind fun M0 => ((H8.f M0.1 M0.2).bind fun E0 => ((H9.f ((Qal x0 L0).f0) 0 E0.1 E0.2.1).bind fun C0 => ((H9.f u0 n0 C0.1 C0.2).bind fun I0 => (Ga.l0 k x0 x1 N0 (wrap64 (L0 + 1)) I0.1 I0.2 A0 o0))))) else (none)) else (none))) else (some (u0, n0))
def Ga.f (k : Nat) (l0 : List (S76)) (a1 : Int) : Option (Int × Int) := if 0 ≤ a1 then (if a1 < (l0.length : Int) then (Ga.l0 k l0 a1 (l0.length : Int) 0 1 0 ((Qal l0 a1).f0) 0) else (none)) else (none)
theorem Ga.calls (k : Nat) (A0 : Option Addr) (c0 : Nat) (l0 : List (S76)) (a1 r1 r2 : Int) (w : World) (W5 : Kd.C k76 w A0 l0.length l0) (N5 : l0.length ≤ c0) (h : Ga.f k l0 a1 = some (r1, r2)) :
  Calls Tryz.prog 74 #[.slice A0 l0.length c0, .int .i64 a1] w fun e w' => e = .returned (.agg #[.int .i64 r1, .int .i64 r2]) ∧ Below w.heap.size w w' := by
 have q6 := Tryz.underlying28; have R5 := am_ W5; have C6 := am_ N5; clear W5 N5; have HB := am_ (Below.refl w.heap.size w); have H := h; unfold Ga.f at H; clear h
 by_cases c3 : 0 ≤ a1
 ·
  rw [if_pos c3] at H; have K5 := dT c3; clear c3; revert H; refine gi (fun E5 H => ?_); have H' := am_ H; clear H; go_enter Tryz.func74, Tryz.ntmps74
  go_wp2_with (first | (refine bf_ 4 #[.int .i64 0, .int .i64 0] 28 HB ?_; intro u3 hg w5 hb o0 U5 HB; clear hb hg) | (refine bf_ 5 #[.int .i64 0, .int .i64 0] 28 HB ?_; intro L0 hg w6 hb n0 C3 HB; obtain ⟨N1, Y0⟩ := tN o0 hg; replace o0 := tBb o0 hb; clear hb hg; have _ := n2 Y0; obtain ⟨p5, I5, C5, L5⟩ := bx2 n0; have k3 : 0 ≤ (a1 : Int) := dt; have m3 : a1 < (l0.length : Int) := dt; obtain ⟨Z2, D5, Q0, U0, V0⟩ := Qb1 R5.out a1 k3 m3; cases D5; have M0 : Z2.block ≠ L0 := Nat.ne_of_lt (Nat.lt_of_lt_of_le (by have := World.block_lt_of_cell? _ _ Q0; first | rwa [add_block] at this | exact this) C3.out); have N0 : Z2.block ≠ L0 := Nat.ne_of_lt (Nat.lt_of_lt_of_le (by have := World.block_lt_of_cell? _ _ Q0; first | rwa [add_block] at this | exact this) C3.out); replace Q0 := ce HB Q0; replace U0 := ce HB U0; replace V0 := ce HB V0; replace Q0 := (cell_far (p := ⟨L0, 0, none⟩) (by first | (rw [add_block]; exact M0) | (show (Addr.add _ _).block ≠ _; rw [add_block]; exact M0) | exact M0) (.int .i64 1)).trans Q0; replace U0 := (cell_far (p := ⟨L0, 0, none⟩) (by first | (rw [add_block]; exact M0) | (show (Addr.add _ _).block ≠ _; rw [add_block]; exact M0) | exact M0) (.int .i64 1)).trans U0; replace V0 := (cell_far (p := ⟨L0, 0, none⟩) (by first | (rw [add_block]; exact M0) | (show (Addr.add _ _).block ≠ _; rw [add_block]; exact M0) | exact M0) (.int .i64 1)).trans V0; replace Q0 := (cell_far (p := ⟨L0, 1, none⟩) (by first | (rw [add_block]; exact N0) | (show (Addr.add _ _).block ≠ _; rw [add_block]; exact N0) | exact N0) (.int .i64 0)).trans Q0; replace U0 := (cell_far (p := ⟨L0, 1, none⟩) (by first | (rw [add_block]; exact N0) | (show (Addr.add _ _).block ≠ _; rw [add_block]; exact N0) | exact N0) (.int .i64 0)).trans U0; replace V0 := (cell_far (p := ⟨L0, 1, none⟩) (by first | (rw [add_block]; exact N0) | (show (Addr.add _ _).block ≠ _; rw [add_block]; exact N0) | exact N0) (.int .i64 0)).trans V0; clear M0 N0; replace k3 := eq_true k3; replace m3 := eq_true m3) | (refine be_ 6 #[.int .i64 0, .int .i64 0] 28 ?_; intro V2 hg w9 hbox hb; have u0 := am_ hbox; have Y5 := tG HB hg; replace HB := tHb HB hb; obtain ⟨Z1, O1⟩ := tN o0 hg; replace o0 := tBb o0 hb; have D1 := am_ ((by rw [hg]; exact Nat.ne_of_lt (Qb7 (g := L0) (o := .cells #[.int .i64 1, .int .i64 0] 28 (0, 0)) (gP n0 rfl)) : L0 ≠ V2)); have X0 := am_ ((by rw [hg]; exact Nat.ne_of_gt (Qb7 (g := L0) (o := .cells #[.int .i64 1, .int .i64 0] 28 (0, 0)) (gP n0 rfl)) : V2 ≠ L0)); replace n0 := am_ (Qam (g := L0) (o := .cells #[.int .i64 1, .int .i64 0] 28 (0, 0)) (gP n0 rfl) hb); clear hb hbox hg; have _ := n2 O1; have _ := n2 X0; obtain ⟨E4, I4, K4, m4⟩ := bx2 u0))
  go_loopg [20] k (fun kq o6 w' => ∃ (O0 : Int) (E0 : Int) (I0 : Int), o6 = .int .i64 O0 ∧ Asc (Ga.l0 kq l0 a1 (l0.length : Int) O0 E0 I0 ((Qal l0 a1).f0) 0 = some (r1, r2)) ∧ Asc (kq ≤ k) ∧ Asc (w'.heap[u3]? = some (.cells #[.int .i64 0, .int .i64 0] 28 (0, 0))) ∧ Asc (w'.heap[L0]? = some (.cells #[.int .i64 E0, .int .i64 I0] 28 (0, 0))) ∧ Asc (w'.heap[V2]? = some (.cells #[.int .i64 ((Qal l0 a1).f0), .int .i64 0] 28 (0, 0))) ∧ Asc (Below w.heap.size w w'))
  case atStart => exact ⟨(0), (1), (0), fr, H', ⟨Nat.le_refl _⟩, ⟨gB o0⟩, ⟨gB n0⟩, ⟨gP u0 rfl⟩, ⟨bh HB⟩⟩
  case round =>
   clear H'; try clear K5 E5 E4 I4 p5 I5 K4 m4 C5 L5 Q0 U0 V0 k3 m3
   obtain ⟨O0, E0, I0, rfl, HA, W4, o0, n0, u0, HB⟩ := hrel
   cases gk with
   | zero => exact absurd HA.out (by simp [Ga.l0])
   | succ k1 =>
    have H := HA.out; clear HA; simp only [Ga.l0] at H
    by_cases X3 : O0 < (l0.length : Int)
    ·
     rw [if_pos X3] at H; have D4 := dT X3; clear X3
     by_cases u4 : O0 = a1
     ·
      rw [if_pos u4] at H; obtain ⟨J4, L4⟩ := et u4; clear u4; have H' := am_ H; clear H; go_wp2; go_roundg k1
      case measure => have := W4.out; omega
      case rel => exact ⟨(wrap64 (O0 + 1)), (E0), (I0), fr, H', kS W4, ⟨gB o0⟩, ⟨gB n0⟩, ⟨gB u0⟩, ⟨bh HB⟩⟩
     rw [if_neg u4] at H; obtain ⟨J4, L4⟩ := ef u4; revert H; refine gi (fun V5 H => ?_); revert H; refine gi (fun O5 H => ?_); replace H := bi H; obtain ⟨⟨L3, I3⟩, p6, H⟩ := H; try dsimp only at H
     replace H := bi H; obtain ⟨⟨N2, Y1, A5⟩, l6, H⟩ := H; try dsimp only at H
     replace H := bi H; obtain ⟨⟨Q3, D3⟩, k6, H⟩ := H; try dsimp only at H
     replace H := bi H; obtain ⟨⟨M4, C4⟩, j6, H⟩ := H; try dsimp only at H
     have H' := am_ H; clear H; have J3 : 0 ≤ (O0 : Int) := dt; have N3 : O0 < (l0.length : Int) := dt; obtain ⟨k4, J5, Q1, V1, U1⟩ := Qb1 R5.out O0 J3 N3; obtain rfl : Z2 = k4 := (by injection J5); replace Q1 := ce HB Q1; replace V1 := ce HB V1; replace U1 := ce HB U1; replace J3 := eq_true J3; replace N3 := eq_true N3; try go_wp2_with (first | (refine bf_ 8 #[.int .i64 0, .int .i64 0] 28 HB ?_; intro Y2 hg D6 hb C0 M5 HB; obtain ⟨Z3, D2⟩ := tN o0 hg; replace o0 := tBb o0 hb; obtain ⟨L1, C1⟩ := tN n0 hg; replace n0 := tBb n0 hb; obtain ⟨Y3, Q2⟩ := tN u0 hg; replace u0 := tBb u0 hb; clear hb hg; have _ := n2 D2; have _ := n2 C1; have _ := n2 Q2; have _ := bx2 C0; have _ := n2 O1; have _ := n2 X0; have _ := bx2 u0) | (refine gl_ (some 35) Tryz.func99 #[.agg #[.int .i64 ((Qal l0 O0).f0), .int .i64 0], .agg #[.int .i64 ((Qal l0 a1).f0), .int .i64 0]] ?_; (with_reducible refine (Hf.calls ((Qal l0 O0).f0) 0 ((Qal l0 a1).f0) 0 L3 I3 _ p6.out).mono ?_); rintro e z6 ⟨rfl, hb⟩; refine ⟨_, rfl, ?_⟩; replace o0 := tBb o0 hb; replace n0 := tBb n0 hb; replace u0 := tBb u0 hb; replace C0 := am_ (Qam (g := Y2) (o := .cells #[.int .i64 ((Qal l0 O0).f0), .int .i64 0] 28 (0, 0)) (gP C0 rfl) hb); replace HB := tHb HB hb; (try clear hb)) | (refine gl_ (some 36) Tryz.func98 #[.agg #[.int .i64 L3, .int .i64 I3]] ?_; (with_reducible refine (H8.calls L3 I3 N2 Y1 A5 _ l6.out).mono ?_); rintro e E6 ⟨rfl, hb⟩; refine ⟨_, rfl, ?_⟩; replace o0 := tBb o0 hb; replace n0 := tBb n0 hb; replace u0 := tBb u0 hb; replace C0 := tBb C0 hb; replace HB := tHb HB hb; (try clear hb)) | (refine bf_ 9 #[.int .i64 0, .int .i64 0] 28 HB ?_; intro X1 hg Z5 hb P0 X5 HB; obtain ⟨U3, C2⟩ := tN o0 hg; replace o0 := tBb o0 hb; obtain ⟨P1, Z0⟩ := tN n0 hg; replace n0 := tBb n0 hb; obtain ⟨S3, J2⟩ := tN u0 hg; replace u0 := tBb u0 hb; obtain ⟨V3, L2⟩ := tN C0 hg; replace C0 := tBb C0 hb; clear hb hg; have _ := n2 C2; have _ := n2 Z0; have _ := n2 J2; have _ := n2 L2; have _ := bx2 P0) | ((with_reducible refine Qar (t := 28) (p := 9) rfl ?_); refine se_ 28 9 ((Z5.setCell ⟨X1, 0, none⟩ (.int .i64 N2)).setCell ⟨X1, 1, none⟩ (.int .i64 Y1)) ?_; intro c6 hw; replace o0 := sB o0 hw; replace n0 := sB n0 hw; replace u0 := sB u0 hw; replace C0 := sB C0 hw; replace P0 := sP #[.int .i64 N2, .int .i64 Y1] P0 hw; replace HB := sH HB hw; clear hw))
     replace o0 := am_ (Qag o0.out); replace n0 := am_ (Qag n0.out); replace u0 := am_ (Qag u0.out); replace C0 := am_ (Qag C0.out); replace P0 := am_ (Qag P0.out); replace HB := am_ (Qaj HB.out); refine Qcw (n := 6) (S := fun w' => w'.cell? ⟨L0, 0, none⟩ = some (.int .i64 E0) ∧ w'.cell? ⟨L0, 1, none⟩ = some (.int .i64 I0) ∧ w'.cell? ⟨Y2, 0, none⟩ = some (.int .i64 ((Qal l0 O0).f0)) ∧ w'.cell? ⟨Y2, 1, none⟩ = some (.int .i64 0) ∧ w'.cell? ⟨X1, 0, none⟩ = some (.int .i64 N2) ∧ w'.cell? ⟨X1, 1, none⟩ = some (.int .i64 Y1)) (ds := [5]) #[false, false, false, false, false, false] (by kernel_rfl) rfl rfl ⟨(Qaa n0.out 0).trans rfl, (Qaa n0.out 1).trans rfl, (Qaa C0.out 0).trans rfl, (Qaa C0.out 1).trans rfl, (Qaa P0.out 0).trans rfl, (Qaa P0.out 1).trans rfl⟩ (fun hHeld => ?_); generalize c6.drew = A6 at o0 n0 u0 C0 P0 HB hHeld ⊢; refine take_ (i := 0) (N := some 39) (v := ?_) (a' := ?_) #[true, false, false, false, false, false] rfl rfl (by kernel_rfl) (fun _ _ _ h => h) (Or.inl ⟨by rfl, ?_⟩) hHeld ?_ ?_; rotate_left
     ·
      rintro w' ⟨s0, s1, s2, s3, s4, s5⟩; go_simp
      with_reducible rfl
     rotate_left
     ·
      exact pt_
     refine take_ (i := 1) (N := some 40) (v := ?_) (a' := ?_) #[true, true, false, false, false, false] rfl rfl (by kernel_rfl) (fun _ _ _ h => h) (Or.inl ⟨by rfl, ?_⟩) hHeld ?_ ?_; rotate_left
     ·
      rintro w' ⟨s0, s1, s2, s3, s4, s5⟩; go_simp
      with_reducible rfl
     rotate_left
     ·
      exact pt_
     refine take_ (i := 2) (N := some 41) (v := ?_) (a' := ?_) #[true, true, true, false, false, false] rfl rfl (by kernel_rfl) (fun _ _ _ h => h) (Or.inl ⟨by rfl, ?_⟩) hHeld ?_ ?_; rotate_left
     ·
      rintro w' ⟨s0, s1, s2, s3, s4, s5⟩; go_simp
      with_reducible rfl
     rotate_left
     ·
      exact pt_
     refine Qjg (i := 3) (N := some 42) #[true, true, true, true, false, false] rfl rfl (by kernel_rfl) (by decide) (fun K hK => ?_); refine Qdo Tryz.func73 #[.agg #[.int .i64 ((Qal l0 O0).f0), .int .i64 0], .agg #[.int .i64 N2, .int .i64 Y1]] ?_
     with_reducible refine (H9.calls ((Qal l0 O0).f0) 0 N2 Y1 Q3 D3 _ k6.out).mono ?_
     rintro e s6 ⟨rfl, hb⟩; refine ⟨_, rfl, ?_⟩; replace o0 := tBb o0 hb; replace n0 := tBb n0 hb; replace u0 := tBb u0 hb; replace C0 := tBb C0 hb; replace P0 := tBb P0 hb; replace HB := tHb HB hb
     (try clear hb)
     (try clear r6)
     (try clear hk)
     (try clear hi)
     refine hK.out _ _ ⟨(Qaa n0.out 0).trans rfl, (Qaa n0.out 1).trans rfl, (Qaa C0.out 0).trans rfl, (Qaa C0.out 1).trans rfl, (Qaa P0.out 0).trans rfl, (Qaa P0.out 1).trans rfl⟩ (fun hHeld => ?_); clear hK K; refine Qbb (a' := ?_) ?_ ?_; rotate_left
     ·
      show Act.put _ (some 42) _ = _; exact pt_
     refine Qjg (i := 4) (N := some 43) #[true, true, true, true, true, false] rfl rfl (by kernel_rfl) (by decide) (fun K hK => ?_); refine Qdo Tryz.func73 #[.agg #[.int .i64 E0, .int .i64 I0], .agg #[.int .i64 Q3, .int .i64 D3]] ?_
     with_reducible refine (H9.calls E0 I0 Q3 D3 M4 C4 _ j6.out).mono ?_
     rintro e P5 ⟨rfl, hb⟩; refine ⟨_, rfl, ?_⟩; replace o0 := tBb o0 hb; replace n0 := tBb n0 hb; replace u0 := tBb u0 hb; replace C0 := tBb C0 hb; replace P0 := tBb P0 hb; replace HB := tHb HB hb
     (try clear hb)
     (try clear r6)
     (try clear hk)
     (try clear hi)
     refine hK.out _ _ ⟨(Qaa n0.out 0).trans rfl, (Qaa n0.out 1).trans rfl, (Qaa C0.out 0).trans rfl, (Qaa C0.out 1).trans rfl, (Qaa P0.out 0).trans rfl, (Qaa P0.out 1).trans rfl⟩ (fun hHeld => ?_); clear hK K; refine Qbb (a' := ?_) ?_ ?_; rotate_left
     ·
      show Act.put _ (some 43) _ = _; exact pt_
     refine Qe2 (i := 5) (N := none) #[true, true, true, true, true, true] rfl rfl (by kernel_rfl) (by decide) (fun K hK => ?_); have i6 : P5.cell? ⟨L0, 0, none⟩ = some (.int .i64 E0) := (Qaa n0.out 0).trans rfl; have Q5 := Qad n0.out 0; have m5 := N1.out; have X4 := X0.out; have Q4 := C1.out; have Y4 := Z0.out; have R4 := Y0.out; have Z4 := D1.out; have c5 := L1.out; have V4 := P1.out; have m6 : P5.cell? ⟨L0, 1, none⟩ = some (.int .i64 I0) := (Qaa n0.out 1).trans rfl; have S5 := Qad n0.out 1; have U4 := N1.out; have k5 := X0.out; have i5 := C1.out; have l5 := Z0.out; have O4 := Y0.out; have S4 := D1.out; have N4 := L1.out; have P4 := P1.out; refine Qiv (w1 := ?_) (by rfl) rfl ?_ ?_; rotate_left
     ·
      go_simp; rfl
     refine hK.out _ _ ?_; clear hK K; refine Qbt (by kernel_rfl) ?_; try go_wp2
     go_roundg k1
     case measure => have := W4.out; omega
     case rel => exact ⟨(wrap64 (O0 + 1)), (M4), (C4), fr, H', kS W4, ⟨gB o0⟩, ⟨gP n0 rfl⟩, ⟨gB u0⟩, ⟨bh HB⟩⟩
    rw [if_neg X3] at H; have D4 := dF X3; clear X3; replace H := oi2 H; obtain ⟨rfl, rfl⟩ := H; have _ := n2 Y0; have _ := n2 D1; have _ := bx2 n0; have _ := n2 Z1; have _ := bx2 o0; go_wp2; refine bodyPost_ret (results_cell_row rfl _ _ u3 28 #[.int .i64 E0, .int .i64 I0] (0, 0) _ rfl (gP o0 rfl) Tryz.underlying28 rfl (by kernel_rfl)) rfl ?_; exact ⟨fe, bh HB⟩
 rw [if_neg c3] at H; exact absurd H (by simp)

def eS (l : List S76) : List (Int × Gm.E) := l.map fun s => (s.f0, (s.f1.f0, s.f1.f1))
theorem rowS_of {w : World} {A : Option Addr} {l : List S76} (h : Kd.C k76 w A l.length l) : Fl.RowS w A (eS l) := by
 intro i hi; have hi' : i < l.length := by simpa [eS] using hi
 obtain ⟨ad, e, h0, h1, h2⟩ := Qb1 h (i : Int) (by omega) (by omega)
 have e2 : (eS l).getD i (0, (0, 0)) = ((Qal l (i : Int)).f0, ((Qal l (i : Int)).f1.f0, (Qal l (i : Int)).f1.f1)) := by
  unfold eS Qal; simp [List.getElem?_eq_getElem hi']
 rw [Int.toNat_natCast] at h0 h1 h2; rw [e2]; exact ⟨ad, e, h0, h1, h2⟩
theorem Qbd (l : List S76) : (eS l).length = l.length := by simp [eS]
def G6.f (a0 : Int) : Option (Bool) := if a0 ≥ 4 then (if a0 ≤ 64 then (some ((Int.tmod a0 3) == 1)) else (some false)) else (some false)
theorem G6.calls (a0 : Int) (r : Bool) (w : World) (h : G6.f a0 = some r) :
  Calls Tryz.prog 49 #[.int .i64 a0] w fun e w' => e = .returned (.bool r) ∧ Qae w w' := by
 have H := h; unfold G6.f at H; clear h
 by_cases c2 : a0 ≥ 4
 ·
  rw [if_pos c2] at H; have n0 : decide (4 ≤ a0) = true := dT c2; clear c2
  by_cases c3 : a0 ≤ 64
  ·
   rw [if_pos c3] at H; have o0 := dT c3; clear c3; obtain rfl := Option.some.inj H; go_enter Tryz.func49, Tryz.ntmps49; go_wp2; go_ret; exact ⟨fr, by repeat (first | exact Qae.refl _ | apply Qae.step)⟩
  rw [if_neg c3] at H; have o0 := dF c3; clear c3; obtain rfl := Option.some.inj H; go_enter Tryz.func49, Tryz.ntmps49; go_wp2; go_ret; exact ⟨fr, by repeat (first | exact Qae.refl _ | apply Qae.step)⟩
 rw [if_neg c2] at H; have n0 : decide (4 ≤ a0) = false := dF c2; clear c2; obtain rfl := Option.some.inj H; go_enter Tryz.func49, Tryz.ntmps49; go_wp2; go_ret; exact ⟨fr, by repeat (first | exact Qae.refl _ | apply Qae.step)⟩

def Ha.f (a0 : Int) : Option (Int) := (G6.f a0).bind fun n0 => (if n0 = true then (some (wrap64 (Int.tdiv (wrap64 (a0 - 1)) 3))) else (some 0))
theorem Ha.calls (a0 r : Int) (w : World) (h : Ha.f a0 = some r) :
  Calls Tryz.prog 57 #[.int .i64 a0] w fun e w' => e = .returned (.int .i64 r) ∧ Qae w w' := by
 have H := h; unfold Ha.f at H; clear h; replace H := bi H; obtain ⟨n0, A2, H⟩ := H; try dsimp only at H
 replace H := ib H; obtain ⟨rfl, H⟩ | ⟨rfl, H⟩ := H
 ·
  obtain rfl := Option.some.inj H; go_enter Tryz.func57, Tryz.ntmps57
  go_wp2_with (first | (refine gl_ (some 4) Tryz.func49 #[.int .i64 a0] ?_; (with_reducible refine (G6.calls a0 true _ A2.out).mono ?_); rintro e w' ⟨rfl, ⟨nd, rfl⟩⟩; refine ⟨_, rfl, ?_⟩))
  go_ret; exact ⟨fr, by repeat (first | exact Qae.refl _ | apply Qae.step)⟩
 obtain rfl := Option.some.inj H; go_enter Tryz.func57, Tryz.ntmps57
 go_wp2_with (first | (refine gl_ (some 4) Tryz.func49 #[.int .i64 a0] ?_; (with_reducible refine (G6.calls a0 false _ A2.out).mono ?_); rintro e w' ⟨rfl, ⟨nd, rfl⟩⟩; refine ⟨_, rfl, ?_⟩))
 go_ret; exact ⟨fr, by repeat (first | exact Qae.refl _ | apply Qae.step)⟩
end
def Gb.f (a0 : Int) : Option (Int) := (G6.f a0).bind fun n0 => (if n0 = true then ((Ha.f a0).bind fun o0 => (some (wrap64 (o0 + 1)))) else (some 0))
theorem Gb.calls (a0 r : Int) (w : World) (h : Gb.f a0 = some r) :
  Calls Tryz.prog 31 #[.int .i64 a0] w fun e w' => e = .returned (.int .i64 r) ∧ Qae w w' := by
 have H := h; unfold Gb.f at H; clear h; replace H := bi H; obtain ⟨o0, A2, H⟩ := H; try dsimp only at H
 replace H := ib H; obtain ⟨rfl, H⟩ | ⟨rfl, H⟩ := H
 ·
  replace H := bi H; obtain ⟨n0, A4, H⟩ := H; try dsimp only at H
  obtain rfl := Option.some.inj H; go_enter Tryz.func31, Tryz.ntmps31
  go_wp2_with (first | (refine gl_ (some 4) Tryz.func49 #[.int .i64 a0] ?_; (with_reducible refine (G6.calls a0 true _ A2.out).mono ?_); rintro e w' ⟨rfl, ⟨nd, rfl⟩⟩; refine ⟨_, rfl, ?_⟩) | (refine gl_ (some 7) Tryz.func57 #[.int .i64 a0] ?_; (with_reducible refine (Ha.calls a0 n0 _ A4.out).mono ?_); rintro e w' ⟨rfl, ⟨nd, rfl⟩⟩; refine ⟨_, rfl, ?_⟩))
  go_ret; exact ⟨fr, by repeat (first | exact Qae.refl _ | apply Qae.step)⟩
 obtain rfl := Option.some.inj H; go_enter Tryz.func31, Tryz.ntmps31
 go_wp2_with (first | (refine gl_ (some 4) Tryz.func49 #[.int .i64 a0] ?_; (with_reducible refine (G6.calls a0 false _ A2.out).mono ?_); rintro e w' ⟨rfl, ⟨nd, rfl⟩⟩; refine ⟨_, rfl, ?_⟩))
 go_ret; exact ⟨fr, by repeat (first | exact Qae.refl _ | apply Qae.step)⟩

theorem may_is (a b : Int) : Ge.f a b = some (decide (Gm.Ok (a, b))) := by
 have e : Gm.Ok (a, b) ↔ 0 ≤ a ∧ a < 10007 ∧ 0 ≤ b ∧ b < 10007 := Iff.rfl; unfold Ge.f
 by_cases h1 : a ≥ 0
 ·
  by_cases h2 : a < 10007
  ·
   by_cases h3 : b ≥ 0
   ·
    rw [if_pos h1, if_pos h2, if_pos h3, Option.some.injEq, decide_eq_decide, e]; omega
   rw [if_pos h1, if_pos h2, if_neg h3, decide_eq_false (fun h => by rw [e] at h; omega)]
  rw [if_pos h1, if_neg h2, decide_eq_false (fun h => by rw [e] at h; omega)]
 rw [if_neg h1, decide_eq_false (fun h => by rw [e] at h; omega)]
theorem inv_is (x : Gm.E) : ∃ e, H8.f x.1 x.2 = some ((Fl.invE x).1, (Fl.invE x).2, e) := by
 unfold H8.f Fl.invE; rw [may_is, Option.bind_some]
 by_cases h : Gm.Ok x
 ·
  rw [if_pos (by simpa using h), if_pos h]
  by_cases h0 : x = (0, 0)
  ·
   rw [if_pos h0, if_pos (by rw [h0]; rfl)]; exact ⟨1, rfl⟩
  have : ¬ (x.1 == 0 && (x.2 == 0)) = true := by
   intro h1; simp only [Bool.and_eq_true, beq_iff_eq] at h1; exact h0 (Prod.ext h1.1 h1.2)
  rw [if_neg this, if_neg h0]; unfold Hc.f Fl.powE; rw [if_pos (by decide), if_pos h]; exact ⟨0, rfl⟩
 rw [if_neg (by simpa using h), if_neg h]; exact ⟨1, rfl⟩
theorem Qe3 (l : List S76) (own : Int) (k : Nat) (hl : l.length ≤ 9223372036854775807) : ∀ (r i : Nat) (o : Gm.E), i + r = l.length →
  Ga.l0 (r + 1) l (k : Int) (l.length : Int) (i : Int) o.1 o.2 own 0 = some (Fl.wtFrom (eS l) own k r i o)
 | 0, i, o, h => by
  rw [Ga.l0, if_neg (by omega)]; rfl
 | r + 1, i, o, h => by
  have hw : wrap64 ((i : Int) + 1) = ((i + 1 : Nat) : Int) := by rw [Go.IntWalk.wrap64_in _ (by omega)]; omega
  have e2 : (Qal l (i : Int)).f0 = ((eS l).getD i (0, (0, 0))).1 := by
   unfold eS Qal; simp [List.getElem?_eq_getElem (show i < l.length by omega)]
  rw [Ga.l0, if_pos (by omega), hw, Fl.wtFrom]
  by_cases hk : i = k
  ·
   rw [if_pos (by omega), if_pos hk]; exact Qe3 l own k hl r (i + 1) o (by omega)
  rw [if_neg (by omega), if_neg hk, if_pos (by omega), if_pos (by omega), e2]; generalize ((eS l).getD i (0, (0, 0))).1 = id; obtain ⟨e, he⟩ := inv_is (Fl.opE Gm.sub (id, 0) (own, 0)); unfold Hf.f H9.f; simp only [Option.bind_some]; rw [he]; simp only [Option.bind_some]; exact Qe3 l own k hl r (i + 1) _ (by omega)
theorem Ql4 (l : List S76) (k : Nat) (hl : l.length ≤ 9223372036854775807) (hk : k < l.length) : Ga.f (l.length + 1) l (k : Int) = some (Fl.wtE (eS l) k) := by
 unfold Ga.f
 have e2 : (Qal l (k : Int)).f0 = ((eS l).getD k (0, (0, 0))).1 := by
  unfold eS Qal; simp [List.getElem?_eq_getElem hk]
 rw [if_pos (by omega), if_pos (by omega), e2]; have := Qe3 l ((eS l).getD k (0, (0, 0))).1 k hl l.length 0 (1, 0) (by omega); unfold Fl.wtE; rw [Qbd]; exact this
def Hb.f (l0 : List (S76)) : Option (Int × Int × Int) := some ((Fl.openE (eS l0) (Fl.wtE (eS l0))).1.1, (Fl.openE (eS l0) (Fl.wtE (eS l0))).1.2, (Fl.openE (eS l0) (Fl.wtE (eS l0))).2)
theorem Hb.calls (A0 : Option Addr) (c0 : Nat) (l0 : List (S76)) (r1 r2 r3 : Int) (w : World) (n0 : Kd.C k76 w A0 l0.length l0) (o0 : l0.length ≤ c0) (h : Hb.f l0 = some (r1, r2, r3)) :
  Calls Tryz.prog 50 #[.slice A0 l0.length c0] w fun e w' => e = .returned (.tuple #[.agg #[.int .i64 r1, .int .i64 r2], .int .i64 r3]) ∧ Below w.heap.size w w' := by
 have e := Option.some.inj h; simp only [Prod.mk.injEq] at e; obtain ⟨e1, e2, e3⟩ := e; have hl := Kd.C_max n0
 have c := Fl.open_c A0 c0 (eS l0) (Fl.wtE (eS l0)) w (rowS_of n0) (by rw [Qbd]; exact hl) (fun n hn W hB => by
  rw [Qbd] at hn ⊢
  exact Ga.calls (l0.length + 1) A0 c0 l0 n _ _ W (Kd.C_below n0 hB) o0 (Ql4 l0 n hl hn))
 rw [e1, e2, e3, Qbd] at c; exact c

def Gw.f (a0_0 a0_1 a1 : Int) : Option (Int) := (G6.f a1).bind fun o0 => (if o0 = true then ((Ge.f a0_0 a0_1).bind fun n0 => (if n0 = true then (if a1 = 0 then (none) else (some (wrap64 (1 + (Int.tmod (wrap64 ((wrap64 (a0_0 * 10007)) + a0_1)) a1))))) else (some 0))) else (some 0))
theorem Gw.calls (a0_0 a0_1 : Int) (a1 r : Int) (w : World) (h : Gw.f a0_0 a0_1 a1 = some r) :
  Calls Tryz.prog 51 #[.agg #[.int .i64 a0_0, .int .i64 a0_1], .int .i64 a1] w fun e w' => e = .returned (.int .i64 r) ∧ Below w.heap.size w w' := by
 have L0 := Tryz.underlying28; have HB := am_ (Below.refl w.heap.size w); have H := h; unfold Gw.f at H; clear h; replace H := bi H; obtain ⟨E0, A3, H⟩ := H; try dsimp only at H
 replace H := ib H; obtain ⟨rfl, H⟩ | ⟨rfl, H⟩ := H
 ·
  replace H := bi H; obtain ⟨A0, A5, H⟩ := H; try dsimp only at H
  replace H := ib H; obtain ⟨rfl, H⟩ | ⟨rfl, H⟩ := H
  ·
   by_cases c7 : a1 = 0
   ·
    rw [if_pos c7] at H; exact absurd H (by simp)
   rw [if_neg c7] at H; obtain ⟨C0, I0⟩ := ef c7; obtain rfl := Option.some.inj H; go_enter Tryz.func51, Tryz.ntmps51
   go_wp2_with (first | (refine bf_ 2 #[.int .i64 a0_0, .int .i64 a0_1] 28 HB ?_; intro u0 hg w8 hb n0 o0 HB; clear hb hg) | (refine gl_ (some 6) Tryz.func49 #[.int .i64 a1] ?_; (with_reducible refine (G6.calls a1 true _ A3.out).mono ?_); rintro e w' ⟨rfl, ⟨nd, rfl⟩⟩; refine ⟨_, rfl, ?_⟩; have _ := bx2 n0) | (go_at_call 69; (with_reducible refine (Ge.calls a0_0 a0_1 true _ A5.out).mono ?_); rintro e O0 ⟨rfl, hb⟩; replace n0 := tBb n0 hb; replace HB := tHb HB hb; (try clear hb); have _ := bx2 n0))
   go_ret; exact ⟨fe, bh HB⟩
  obtain rfl := Option.some.inj H; go_enter Tryz.func51, Tryz.ntmps51
  go_wp2_with (first | (refine bf_ 2 #[.int .i64 a0_0, .int .i64 a0_1] 28 HB ?_; intro u0 hg P0 hb n0 o0 HB; clear hb hg) | (refine gl_ (some 6) Tryz.func49 #[.int .i64 a1] ?_; (with_reducible refine (G6.calls a1 true _ A3.out).mono ?_); rintro e w' ⟨rfl, ⟨nd, rfl⟩⟩; refine ⟨_, rfl, ?_⟩; have _ := bx2 n0) | (go_at_call 69; (with_reducible refine (Ge.calls a0_0 a0_1 false _ A5.out).mono ?_); rintro e N0 ⟨rfl, hb⟩; replace n0 := tBb n0 hb; replace HB := tHb HB hb; (try clear hb)))
  go_ret; exact ⟨fe, bh HB⟩
 obtain rfl := Option.some.inj H; go_enter Tryz.func51, Tryz.ntmps51
 go_wp2_with (first | (refine bf_ 2 #[.int .i64 a0_0, .int .i64 a0_1] 28 HB ?_; intro u0 hg M0 hb n0 o0 HB; clear hb hg) | (refine gl_ (some 6) Tryz.func49 #[.int .i64 a1] ?_; (with_reducible refine (G6.calls a1 false _ A3.out).mono ?_); rintro e w' ⟨rfl, ⟨nd, rfl⟩⟩; refine ⟨_, rfl, ?_⟩))
 go_ret; exact ⟨fe, bh HB⟩

mutual
def Fc.j0 : Nat → Int → Bool → Int → Int → List (S32) → Option (Int × Int)
 | 0, _, _, _, _, _ => none
 | k + 1, x1, L0, n0, o0, u0 => if L0 = true then (some (0, 1)) else ((Fr.f k n0 o0 u0 (wrap64 (3 * x1))).bind fun A0 => ((Gb.f n0).bind fun I0 => (if (A0.length : Int) < I0 then (some (0, 12)) else ((Gb.f n0).bind fun C0 => (if 0 ≤ C0 then (if C0 ≤ (A0.length : Int) then ((some (A0.take (C0 : Int).toNat : List (S32))).bind fun E0 => (Fc.l0 k ([] : List (S76)) E0 (E0.length : Int) 0 n0 o0 u0)) else (none)) else (none))))))
def Fc.l0 : Nat → List (S76) → List (S32) → Int → Int → Int → Int → List (S32) → Option (Int × Int)
 | 0, _, _, _, _, _, _, _ => none
 | k + 1, x7, E0, L0, C0, o0, u0, A0 => if C0 < L0 then (if 0 ≤ C0 then (if C0 < (E0.length : Int) then (if x7.length < 5864062014805 then (Fc.l0 k (x7 ++ [(⟨(Qab E0 C0).f1.f0, (⟨(Qab E0 C0).f1.f4.f0, (Qab E0 C0).f1.f4.f1⟩ : S28)⟩ : S76)]) E0 L0 (wrap64 (C0 + 1)) o0 u0 A0) else (none)) else (none)) else (none)) else ((Hb.f x7).bind fun n0 => (if n0.2.2 = 0 then ((Gw.f n0.1 n0.2.1 o0).bind fun I0 => (some (I0, 0))) else (some (0, n0.2.2))))
end
def Fc.f (k : Nat) (a0_0 a0_1 : Int) (l0_2 : List (S32)) (a1 : Int) : Option (Int × Int) := if a1 < 1 then (Fc.j0 k a1 true a0_0 a0_1 l0_2) else (if a1 > 1048576 then (Fc.j0 k a1 true a0_0 a0_1 l0_2) else ((G6.f a0_0).bind fun n0 => (Fc.j0 k a1 (!n0) a0_0 a0_1 l0_2)))
theorem Fc.calls (k : Nat) (a0_0 a0_1 : Int) (A0_2 : Option Addr) (c0_2 : Nat) (l0_2 : List (S32)) (a1 r1 r2 : Int) (w : World) (hr0_2 : Kd.C k32 w A0_2 l0_2.length l0_2) (hc0_2 : l0_2.length ≤ c0_2) (h : Fc.f k a0_0 a0_1 l0_2 a1 = some (r1, r2)) :
  Calls Tryz.prog 27 #[.agg #[.int .i64 a0_0, .int .i64 a0_1, .slice A0_2 l0_2.length c0_2], .int .i64 a1] w fun e w' => e = .returned (.tuple #[.int .i64 r1, .int .i64 r2]) ∧ Below w.heap.size w w' := by
 have g7 := Tryz.underlying24; have d7 := Tryz.underlying32; have o7 := Tryz.underlying28; have i7 := Tryz.underlying76; have Y3 := am_ hr0_2; have Q3 := am_ hc0_2; clear hr0_2 hc0_2; have HB := am_ (Below.refl w.heap.size w); have H := h; unfold Fc.f at H; clear h; have o6 := am_ H; clear H; go_enter Tryz.func27, Tryz.ntmps27
 go_upto_region 1 with (first | (refine bf_ 2 #[.int .i64 a0_0, .int .i64 a0_1, .slice A0_2 l0_2.length c0_2] 24 HB ?_; intro E0 hg w4 hb o0 X3 HB; clear hb hg))
 (try simp only [Act.put, List.setIfInBounds_toArray, List.set_cons_zero, List.set_cons_succ])
 go_cut [23] (fun j7 wc => ∃ (kq : Nat) (k3 : Bool), j7 = .bool k3 ∧ Asc (Fc.j0 kq a1 k3 a0_0 a0_1 l0_2 = some (r1, r2)) ∧ Asc (kq ≤ k) ∧ Asc (wc.heap[E0]? = some (.cells #[.int .i64 a0_0, .int .i64 a0_1, (.slice A0_2 l0_2.length c0_2)] 24 (0, 0))) ∧ Asc (Below w.heap.size w wc))
 case first =>
  have H := o6.out; clear o6
  by_cases c5 : a1 < 1
  ·
   rw [if_pos c5] at H; have Y2 := dT c5; clear c5
   (first | rw [Y2] | (simp only [Qay, Qa3]; rw [Y2]) | skip)
   have H' := am_ H; clear H; go_wp2
   go_meet
   case rel => exact ⟨_, (true), fr, H', ⟨by first | omega | exact Nat.le_refl _⟩, ⟨gB o0⟩, ⟨bh HB⟩⟩
  rw [if_neg c5] at H; have Y2 := dF c5; clear c5
  (first | rw [Y2] | (simp only [Qay, Qa3]; rw [Y2]) | skip)
  by_cases c6 : a1 > 1048576
  ·
   rw [if_pos c6] at H; have D6 : decide (1048576 < a1) = true := dT c6; clear c6; have H' := am_ H; clear H; go_wp2
   go_meet
   case rel => exact ⟨_, (true), fr, H', ⟨by first | omega | exact Nat.le_refl _⟩, ⟨gB o0⟩, ⟨bh HB⟩⟩
  rw [if_neg c6] at H; have D6 : decide (1048576 < a1) = false := dF c6; clear c6; replace H := bi H; obtain ⟨L5, A7, H⟩ := H; try dsimp only at H
  have H' := am_ H; clear H; have _ := bx3 o0
  go_wp2_with (first | (go_at_call 49; (with_reducible refine (G6.calls a0_0 L5 _ A7.out).mono ?_); rintro e w' ⟨rfl, ⟨nd, rfl⟩⟩))
  go_meet
  case rel => exact ⟨_, (!L5), fr, H', ⟨by first | omega | exact Nat.le_refl _⟩, ⟨gB o0⟩, ⟨bh HB⟩⟩
 case rest =>
  clear o6; obtain ⟨kq, k3, rfl, HA, U6, o0, HB⟩ := hcut
  cases kq with
  | zero => exact absurd HA.out (by simp [Fc.j0])
  | succ O5 =>
   have H := HA.out; clear HA; simp only [Fc.j0] at H; replace H := ib H; obtain ⟨rfl, H⟩ | ⟨rfl, H⟩ := H
   ·
    replace H := oi2 H; obtain ⟨rfl, rfl⟩ := H; go_wp2; go_ret2; exact ⟨fe, bh HB⟩
   replace H := bi H; obtain ⟨P0, P6, H⟩ := H; try dsimp only at H
   replace H := bi H; obtain ⟨m4, J6, H⟩ := H; try dsimp only at H
   by_cases J4 : (P0.length : Int) < m4
   ·
    rw [if_pos J4] at H; have V3 := dT J4; clear J4; replace H := oi2 H; obtain ⟨rfl, rfl⟩ := H; have _ := bx3 o0
    go_wp2_with (first | (refine gl_ (some 27) Tryz.func34 #[.agg #[.int .i64 a0_0, .int .i64 a0_1, .slice A0_2 l0_2.length c0_2], .int .i64 (wrap64 (3 * a1))] ?_; (with_reducible refine (Fr.calls O5 a0_0 a0_1 (fun k_ => k_ < w.heap.size) _ _ l0_2 (wrap64 (3 * a1)) P0 _ ?O0 P6.out).mono ?_); (case O0 => exact Kd.V_mk Q3.out (Kd.F_below (Kd.C_F Qbn Y3.out) (bh HB))); rintro e C7 ⟨r6, rfl, X4, hb⟩; refine ⟨_, rfl, ?_⟩; have C1 := am_ (Kd.N_lower (Kd.N_mono (ok' := fun k_ => k_ ≠ E0) X4 (fun k_ hk_ => oe X3 o0 hk_)) (Qac (bh HB))); replace o0 := tBb o0 hb; replace HB := tHb HB hb; (try clear hb X4); obtain ⟨k7, Y6, z6⟩ := Kd.N_slice C1.out; subst z6; have _ := bx3 o0) | (refine gl_ (some 32) Tryz.func31 #[.int .i64 a0_0] ?_; (with_reducible refine (Gb.calls a0_0 m4 _ J6.out).mono ?_); rintro e w' ⟨rfl, ⟨nd, rfl⟩⟩; refine ⟨_, rfl, ?_⟩))
    go_ret2; exact ⟨fe, bh HB⟩
   rw [if_neg J4] at H; have V3 := dF J4; clear J4; replace H := bi H; obtain ⟨O1, m7, H⟩ := H; try dsimp only at H
   by_cases Y4 : 0 ≤ O1
   ·
    rw [if_pos Y4] at H; have K4 := eq_true Y4; have V4 := dT Y4; clear Y4; revert H; refine gi' (fun s6 H => ?_); have K5 := eq_true s6; have p5 : decide (O1 ≤ (P0.length : Int)) = true := dT s6; clear s6; obtain ⟨u0, D1⟩ : ∃ y_ : List (S32), y_ = (P0.take (O1 : Int).toNat) := ⟨_, rfl⟩; replace H : (Fc.l0 O5 ([] : List (S76)) u0 (u0.length : Int) 0 a0_0 a0_1 l0_2) = some (r1, r2) := by first | (rw [D1]; with_reducible exact H) | (have H := (Option.bind_some _ _).symm.trans H; first | (rw [D1]; with_reducible exact H) | with_reducible exact H) | with_reducible exact H | (rw [D1]; exact H) | exact H
    have S3 := am_ D1; clear D1; have H' := am_ H; clear H; obtain ⟨D5, W4, i5, E5, L4, C5⟩ := bx3 o0
    go_wp2_with (first | (refine gl_ (some 27) Tryz.func34 #[.agg #[.int .i64 a0_0, .int .i64 a0_1, .slice A0_2 l0_2.length c0_2], .int .i64 (wrap64 (3 * a1))] ?_; (with_reducible refine (Fr.calls O5 a0_0 a0_1 (fun k_ => k_ < w.heap.size) _ _ l0_2 (wrap64 (3 * a1)) P0 _ ?O0 P6.out).mono ?_); (case O0 => exact Kd.V_mk Q3.out (Kd.F_below (Kd.C_F Qbn Y3.out) (bh HB))); rintro e D7 ⟨r6, rfl, X4, hb⟩; refine ⟨_, rfl, ?_⟩; have C1 := am_ (Kd.N_lower (Kd.N_mono (ok' := fun k_ => k_ ≠ E0) X4 (fun k_ hk_ => oe X3 o0 hk_)) (Qac (bh HB))); replace o0 := tBb o0 hb; replace HB := tHb HB hb; (try clear hb X4); obtain ⟨N3, m3, q6⟩ := Kd.N_slice C1.out; subst q6; obtain ⟨l5, I5, R4, M5, A5, Q4⟩ := bx3 o0) | (refine gl_ (some 32) Tryz.func31 #[.int .i64 a0_0] ?_; (with_reducible refine (Gb.calls a0_0 m4 _ J6.out).mono ?_); rintro e w' ⟨rfl, ⟨nd, rfl⟩⟩; refine ⟨_, rfl, ?_⟩) | (refine gl_ (some 37) Tryz.func31 #[.int .i64 a0_0] ?_; (with_reducible refine (Gb.calls a0_0 O1 _ m7.out).mono ?_); rintro e w' ⟨rfl, ⟨nd, rfl⟩⟩; refine ⟨_, rfl, ?_⟩; have Y5 : (O1 : Int) ≤ ((P0.length : Int) : Int) := dt; obtain ⟨Z6, U3, _, O4, _⟩ := info_parts Qc5; have V1 : P0.length ≤ m3 := (Kd.N_reads' C1.out).2.1; have N4 : Kd.F k32 _ _ N3 P0.length P0 := (Kd.V_at (base := w.heap.size) (Kd.N_V C1.out)).2.2; have u4 := Qqj (P := Tryz.prog) 22 32 .i64 Tryz.underlying22 U3 N3 P0.length m3 O1 (dt) Y5 V1; have s4 := Kd.F_take (m := (O1 : Int).toNat) N4 (by omega); have Z3 : u0.length = (O1 : Int).toNat := (by rw [S3.out, List.length_take]; omega); rw [← S3.out] at s4; rw [← Z3] at u4; have N5 := am_ (show Kd.V k32 32 _ w.heap.size _ (.slice N3 u0.length m3) u0 from Kd.V_mk (by omega) s4); have L6 := am_ (show u0.length ≤ m3 from by omega); clear s4 N4 V1 U3 O4; have W6 := am_ Z3; clear Z3; replace Y5 := eq_true Y5))
    go_loopg [7, 40] O5 (fun kq v7 X6 w' => ∃ (Y0 : List (S76)) (n0 : Int), X6 = .int .i64 n0 ∧ Asc (Fc.l0 kq Y0 u0 (u0.length : Int) n0 a0_0 a0_1 l0_2 = some (r1, r2)) ∧ Asc (kq ≤ O5) ∧ Asc (Kd.R k76 76 w' w.heap.size (fun _ => True) v7 Y0) ∧ Asc (Kd.V k32 32 w' w.heap.size (fun k_ => some k_ ≠ (v7 : Value).ownBlock ∧ k_ ≠ E0) (.slice N3 u0.length m3) u0) ∧ Asc (w'.heap[E0]? = some (.cells #[.int .i64 a0_0, .int .i64 a0_1, (.slice A0_2 l0_2.length c0_2)] 24 (0, 0))) ∧ Asc (Below w.heap.size w w'))
    case atStart => exact ⟨(([] : List (S76))), (0), fr, H', ⟨Nat.le_refl _⟩, ⟨kn⟩, ⟨gV N5⟩, ⟨gB o0⟩, ⟨bh HB⟩⟩
    case round =>
     clear H'; try clear c9 V3 K4 V4 K5 p5 Y5 D5 W4 i5 l5 I5 R4 E5 L4 C5 M5 A5 Q4
     obtain ⟨Y0, n0, rfl, HA, N6, HO_7, HO_38, o0, HB⟩ := hrel
     cases gk with
     | zero => exact absurd HA.out (by simp [Fc.l0])
     | succ k2 =>
      have H := HA.out; clear HA; simp only [Fc.l0] at H
      by_cases I4 : n0 < (u0.length : Int)
      ·
       rw [if_pos I4] at H; have k5 := dT I4; clear I4; revert H; refine gi (fun K6 H => ?_); revert H; refine gi (fun M6 H => ?_); revert H; refine gi' (fun Q6 H => ?_); have S4 := am_ Q6; clear Q6; obtain ⟨M4, N1⟩ : ∃ y_ : List (S76), y_ = (Y0 ++ [(⟨(Qab u0 n0).f1.f0, (⟨(Qab u0 n0).f1.f4.f0, (Qab u0 n0).f1.f4.f1⟩ : S28)⟩ : S76)]) := ⟨_, rfl⟩; replace H : (Fc.l0 k2 M4 u0 (u0.length : Int) (wrap64 (n0 + 1)) a0_0 a0_1 l0_2) = some (r1, r2) := by first | (rw [N1]; with_reducible exact H) | (have H := (Option.bind_some _ _).symm.trans H; first | (rw [N1]; with_reducible exact H) | with_reducible exact H) | with_reducible exact H | (rw [N1]; exact H) | exact H
       have s5 := am_ N1; clear N1; have H' := am_ H; clear H; have L3 : 0 ≤ (n0 : Int) := dt; have J3 : n0 < (u0.length : Int) := dt; obtain ⟨O6, Z2, s3, C3, V2, C6, Z5, i6, X5, D3, I3, S5, V5, Z1, C2, X1, Q1⟩ := Qao (Kd.V_reads' HO_38.out).2.2 n0 L3 J3; cases C6; obtain ⟨S6, k4, D4, P1⟩ := Kd.V_get HO_38.out z32 n0 L3 (by first | exact J3 | exact dt | (have e_ := (Kd.V_reads' HO_38.out).1; omega)); obtain ⟨Q5, R5, W5, j6, rfl, Z0, X0, U0, V0⟩ := Qap D4; have I0 := P1 3 _ rfl; rw [Qaf _ _ 3 (by omega)] at I0; replace I0 := Option.some.inj (I0.symm.trans D3)
       injection I0 with hva_ hvn_ hvc_
       rw [hva_] at X0; rw [hvc_] at Z0; have L0 := am_ (show Kd.V Qbm 107 _ w.heap.size _ _ ((Qab u0 n0).f1.f2) from Kd.V_mk Z0 X0); clear hva_ hvn_ hvc_ X0 Z0; have M0 := P1 4 _ rfl; rw [Qaf _ _ 4 (by omega)] at M0; replace M0 := Option.some.inj (M0.symm.trans I3)
       injection M0 with hva_ hvn_ hvc_
       rw [hva_] at V0; rw [hvc_] at U0; have N0 := am_ (show Kd.V Kd.string 9 _ w.heap.size _ _ ((Qab u0 n0).f1.f3) from Kd.V_mk U0 V0); clear hva_ hvn_ hvc_ V0 U0 P1 k4; have D2 := am_ C2; have P5 := am_ Z1; clear C2 Z1; have Y1 := am_ Q1; have U5 := am_ X1; clear Q1 X1; replace L3 := eq_true L3; replace J3 := eq_true J3
       go_wp2_with (first | (refine bf_ 9 #[.string (⟨#[]⟩ : ByteArray), .int .i64 0, .int .i64 0, .slice none 0 0, .slice none 0 0, .int .i64 0, .int .i64 0] 32 HB ?_; intro A0 hg p7 hb L1 V6 HB; replace HO_7 := tRb HO_7 hb; replace HO_38 := tVe HO_38 hg hb; replace L0 := tVe L0 hg hb; replace N0 := tVe N0 hg hb; replace D2 := tCb D2 hb; replace Y1 := tCb Y1 hb; obtain ⟨E4, J2⟩ := tN o0 hg; replace o0 := tBb o0 hb; clear hb hg; have _ := n2 J2; have _ := bx7 L1) | ((with_reducible refine Qat (b := .append) (xs := #[.tmp 44, .tmp 52]) rfl ?_); at_builtin; refine Kd.R_append k76 (w0 := w) w.heap.size rfl (.tmp 44) (.tmp 52) 74 76 (.agg #[(.int .i64 0), (.int .i64 0), (.int .i64 0)]) 24 rfl Tryz.underlying74 Qpz rfl (by decide) (by omega) u7 Y0 (⟨(Qab u0 n0).f1.f0, (⟨(Qab u0 n0).f1.f4.f0, (Qab u0 n0).f1.f4.f1⟩ : S28)⟩ : S76) [.int .i64 ((Qab u0 n0).f1.f0), .int .i64 ((Qab u0 n0).f1.f4.f0), .int .i64 ((Qab u0 n0).f1.f4.f1)] (fun _ => True) (fun _ => False) rfl (by first | (go_simp; done) | (go_simp; rfl)) ?aP (fun _ hk => hk.elim) ?aF ?aO ?aB ?aS ?aL ?_; (case aP => exact Qno _ _ _ (⟨(Qab u0 n0).f1.f0, (⟨(Qab u0 n0).f1.f4.f0, (Qab u0 n0).f1.f4.f1⟩ : S28)⟩ : S76)); (case aB => exact (bh HB)); (case aF => exact (fun _ _ => trivial)); (case aO => exact (by (with_reducible repeat (first | apply Kd.R_alloc | apply Kd.R_drewN | apply Kd.R_drew)); exact Kd.R_mono (Kd.R_far (p := ⟨A0, 6, none⟩) (Kd.R_far (p := ⟨A0, 5, none⟩) (Kd.R_far (p := ⟨A0, 4, none⟩) (Kd.R_far (p := ⟨A0, 3, none⟩) (Kd.R_far (p := ⟨A0, 2, none⟩) (Kd.R_far (p := ⟨A0, 1, none⟩) (Kd.R_far (p := ⟨A0, 0, none⟩) (Kd.R_types HO_7.out L1.out (by decide)) (fun _ hk => hk.2) (.string ((Qab u0 n0).f0))) (fun _ hk => hk.2) (.int .i64 ((Qab u0 n0).f1.f0))) (fun _ hk => hk.2) (.int .i64 ((Qab u0 n0).f1.f1))) (fun _ hk => hk.2) (.slice Z2 ((Qab u0 n0).f1.f2).length s3)) (fun _ hk => hk.2) (.slice C3 ((Qab u0 n0).f1.f3).length V2)) (fun _ hk => hk.2) (.int .i64 ((Qab u0 n0).f1.f4.f0))) (fun _ hk => hk.2) (.int .i64 ((Qab u0 n0).f1.f4.f1))) (fun _ hk => trivial))); (case aS => exact (Qac (bh HB))); (case aL => have := S4.out; omega); intro l7 I7 ho hb hg hat; rw [← s5.out] at ho; replace HO_38 := am_ (Kd.V_afterv (ok := (fun k_ => k_ ≠ E0 ∧ k_ ≠ A0)) (gV HO_38) hg hat); replace o0 := tBg o0 hg (Kd.R_ne HO_7.out o0.out (by decide)); replace L0 := am_ (Kd.V_afterv (ok := (fun k_ => k_ ≠ E0 ∧ k_ ≠ A0)) (gV L0) hg hat); replace N0 := am_ (Kd.V_afterv (ok := (fun k_ => k_ ≠ E0 ∧ k_ ≠ A0)) (gV N0) hg hat); replace L1 := am_ (Qcy (g := A0) (o := .cells #[.string ((Qab u0 n0).f0), .int .i64 ((Qab u0 n0).f1.f0), .int .i64 ((Qab u0 n0).f1.f1), .slice Z2 ((Qab u0 n0).f1.f2).length s3, .slice C3 ((Qab u0 n0).f1.f3).length V2, .int .i64 ((Qab u0 n0).f1.f4.f0), .int .i64 ((Qab u0 n0).f1.f4.f1)] 32 (0, 0)) (gP L1 rfl) hg (Kd.R_ne HO_7.out L1.out (by decide))); replace HB := am_ hb; have m5 := am_ (ho); clear HO_7 ho hb hg hat))
       go_roundg k2
       case measure => have := U6.out; have := N6.out; omega
       case rel => exact ⟨(M4), (wrap64 (n0 + 1)), fr, H', ⟨by have := U6.out; have := N6.out; omega⟩, ⟨hR m5⟩, ⟨gV HO_38⟩, ⟨gB o0⟩, ⟨bh HB⟩⟩
      rw [if_neg I4] at H; have k5 := dF I4; clear I4; replace H := bi H; obtain ⟨⟨N2, L2, C4⟩, R6, H⟩ := H; try dsimp only at H
      by_cases J5 : C4 = 0
      ·
       rw [if_pos J5] at H; obtain ⟨P4, Z4⟩ := et J5; clear J5; replace H := bi H; obtain ⟨A6, f7, H⟩ := H; try dsimp only at H
       replace H := oi2 H; obtain ⟨rfl, rfl⟩ := H; obtain ⟨m6, p6, I6⟩ := Kd.R_slice HO_7.out; subst I6
       go_wp2_with (first | (refine gl_ (some 57) Tryz.func50 #[.slice m6 Y0.length p6] ?_; (with_reducible refine (Hb.calls _ _ Y0 N2 L2 C4 _ ?O0 ?u3 R6.out).mono ?_); (case O0 => repeat (first | exact (Kd.R_reads' HO_7.out).2.2 | (with_reducible refine Kd.C_alloc ?_ _) | (with_reducible refine Kd.C_drewN ?_ _) | (with_reducible refine Kd.C_drew ?_))); (case u3 => exact (Kd.R_reads' HO_7.out).2.1); rintro e s7 ⟨rfl, hb⟩; refine ⟨_, rfl, ?_⟩; replace HO_7 := tRb HO_7 hb; replace HO_38 := tVb HO_38 hb; replace o0 := tBb o0 hb; replace HB := tHb HB hb; (try clear hb)) | (refine bf_ 10 #[.int .i64 0, .int .i64 0] 28 HB ?_; intro U1 hg t7 hb Q0 U4 HB; replace HO_7 := tRb HO_7 hb; replace HO_38 := tVe HO_38 hg hb; obtain ⟨Q2, C0⟩ := tN o0 hg; replace o0 := tBb o0 hb; clear hb hg; have _ := n2 C0; have _ := bx2 Q0; have _ := bx3 o0) | (refine gl_ (some 66) Tryz.func51 #[.agg #[.int .i64 N2, .int .i64 L2], .int .i64 a0_0] ?_; (with_reducible refine (Gw.calls N2 L2 a0_0 A6 _ f7.out).mono ?_); rintro e w7 ⟨rfl, hb⟩; refine ⟨_, rfl, ?_⟩; replace HO_7 := am_ (Kd.R_below (by (with_reducible repeat (first | apply Kd.R_alloc | apply Kd.R_drewN | apply Kd.R_drew)); exact (Kd.R_mono (Kd.R_far (p := ⟨U1, 1, none⟩) (Kd.R_far (p := ⟨U1, 0, none⟩) (Kd.R_types HO_7.out Q0.out (by decide)) (fun _ hk => hk.2) (.int .i64 N2)) (fun _ hk => hk.2) (.int .i64 L2)) (fun _ h_ => h_.1))) hb); replace HO_38 := tVb HO_38 hb; replace o0 := tBb o0 hb; replace Q0 := am_ (Qam (g := U1) (o := .cells #[.int .i64 N2, .int .i64 L2] 28 (0, 0)) (gP Q0 rfl) hb); replace HB := tHb HB hb; (try clear hb)))
       go_ret2; exact ⟨fe, bh HB⟩
      rw [if_neg J5] at H; obtain ⟨P4, Z4⟩ := ef J5; replace H := oi2 H; obtain ⟨rfl, rfl⟩ := H; obtain ⟨E6, l6, k6⟩ := Kd.R_slice HO_7.out; subst k6
      go_wp2_with (first | (refine gl_ (some 57) Tryz.func50 #[.slice E6 Y0.length l6] ?_; (with_reducible refine (Hb.calls _ _ Y0 N2 L2 C4 _ ?O0 ?u3 R6.out).mono ?_); (case O0 => repeat (first | exact (Kd.R_reads' HO_7.out).2.2 | (with_reducible refine Kd.C_alloc ?_ _) | (with_reducible refine Kd.C_drewN ?_ _) | (with_reducible refine Kd.C_drew ?_))); (case u3 => exact (Kd.R_reads' HO_7.out).2.1); rintro e z7 ⟨rfl, hb⟩; refine ⟨_, rfl, ?_⟩; replace HO_7 := tRb HO_7 hb; replace HO_38 := tVb HO_38 hb; replace o0 := tBb o0 hb; replace HB := tHb HB hb; (try clear hb)) | (refine bf_ 10 #[.int .i64 0, .int .i64 0] 28 HB ?_; intro U1 hg J7 hb Q0 U4 HB; replace HO_7 := tRb HO_7 hb; replace HO_38 := tVe HO_38 hg hb; obtain ⟨Q2, C0⟩ := tN o0 hg; replace o0 := tBb o0 hb; clear hb hg; have _ := n2 C0; have _ := bx2 Q0))
      go_ret2; exact ⟨fe, bh HB⟩
   rw [if_neg Y4] at H; exact absurd H (by simp)

def Gr.f (a0_0 a0_1 : Int) (l0_2 : List SE) (a1 a2 : Int) : Option (ByteArray × Int × Int × List (Qaz) × List ByteArray × Int × Int × Bool) := match l0_2.find? (fun x => x.f1.f0 == a1 && x.f1.f1 == a2) with
 | some x => some (x.f0, x.f1.f0, x.f1.f1, x.f1.f2, x.f1.f3, x.f1.f4.f0, x.f1.f4.f1, true)
 | none => some ((⟨#[]⟩ : ByteArray), 0, 0, [], [], 0, 0, false)
theorem Gr.calls (a0_0 a0_1 : Int) (n0 : Nat → Prop) (A0_2 : Option Addr) (c0_2 : Nat) (l0_2 : List (S32)) (a1 a2 : Int) (r1 : ByteArray) (r2 r3 : Int) (r4 : List (Qaz)) (r5 : List ByteArray) (r6 r7 : Int) (r8 : Bool) (w : World) (o0 : Kd.V k32 32 w w.heap.size (fun k_ => n0 k_) (.slice A0_2 l0_2.length c0_2) l0_2) (h : Gr.f a0_0 a0_1 l0_2 a1 a2 = some (r1, r2, r3, r4, r5, r6, r7, r8)) :
  Calls Tryz.prog 28 #[.agg #[.int .i64 a0_0, .int .i64 a0_1, .slice A0_2 l0_2.length c0_2], .int .i64 a1, .int .i64 a2] w fun e w' => ∃ (I0 : Value) (E0 : Value), e = .returned (.tuple #[.agg #[.string r1, .int .i64 r2, .int .i64 r3, I0, E0, .int .i64 r6, .int .i64 r7], .bool r8]) ∧ Kd.V Qbm 107 w' w.heap.size (fun k_ => (n0 k_ ∨ w.heap.size ≤ k_)) I0 r4 ∧ Kd.V Kd.string 9 w' w.heap.size (fun k_ => (n0 k_ ∨ w.heap.size ≤ k_)) E0 r5 ∧ Below w.heap.size w w' := by
 obtain ⟨_, _, hF⟩ := Kd.V_at o0; have hmx := Kd.F_max hF; obtain ⟨rs, hrs, hrow⟩ := Qjn hF; have hc := Si.by_c A0_2 c0_2 rs a0_0 a0_1 a1 a2 w hrow (by rw [hrs.len]; exact hmx); have hf := Qet (fun r : Si.ER => r.au == a1 && r.ro == a2) (fun x : SE => x.f1.f0 == a1 && x.f1.f1 == a2) (fun r x hr => by rw [hr.2.1, hr.2.2.1]) rs l0_2 hrs; rw [hrs.len] at hc; unfold Gr.f at h; refine hc.mono ?_; rintro e w' ⟨rfl, hb⟩
 cases hq : l0_2.find? (fun x => x.f1.f0 == a1 && x.f1.f1 == a2) with
 | some x =>
  rw [hq] at h hf; dsimp only at h hf; simp only [Option.some.injEq, Prod.mk.injEq] at h; obtain ⟨rfl, rfl, rfl, rfl, rfl, rfl, rfl, rfl⟩ := h; obtain ⟨h1, h2, h3, h4, h5, h6, h7, h8, h9, C0, A0, u0⟩ := hf; rw [h1]; generalize (Si.firstE (fun x => x.au == a1 && x.ro == a2) rs).1 = r at h2 h3 h4 h5 h6 h7 h8 h9 C0 A0 u0; obtain ⟨yd, yau, yro, P0, M0, O0, L0, N0, Q0, yea, yeb⟩ := r; dsimp only at h2 h3 h4 h5 h6 h7 h8 h9 C0 A0 u0; subst h2 h3 h4 h5 h8 A0 u0; exact ⟨_, _, rfl, Kd.V_mono (Kd.V_mk h6 (Kd.F_below h7 hb)) (fun k hk => .inl hk), Kd.V_mono (Kd.V_mk h9 (Kd.F_below C0 hb)) (fun k hk => .inl hk), hb⟩
 | none =>
  rw [hq] at h hf; dsimp only at h hf; simp only [Option.some.injEq, Prod.mk.injEq] at h; obtain ⟨rfl, rfl, rfl, rfl, rfl, rfl, rfl, rfl⟩ := h; rw [hf]; exact ⟨_, _, rfl, Kd.V_nil _ _ _ _ _, Kd.V_nil _ _ _ _ _, hb⟩

def Gf.f (k : Nat) (a0_0 a0_1 : Int) (l0_2 : List (S32)) (a1 : Int) : Option (ByteArray × Int × Int × (List (Qaz)) × List ByteArray × Int × Int × Int) := (Fc.f k a0_0 a0_1 l0_2 a1).bind fun o0 => (if o0.2 = 0 then ((Gr.f a0_0 a0_1 l0_2 o0.1 (wrap64 ((wrap64 (3 * a1)) - 2))).bind fun n0 => (if n0.2.2.2.2.2.2.2 = true then (some (n0.1, n0.2.1, n0.2.2.1, n0.2.2.2.1, n0.2.2.2.2.1, n0.2.2.2.2.2.1, n0.2.2.2.2.2.2.1, 0)) else (some ((⟨#[]⟩ : ByteArray), 0, 0, ([] : List (Qaz)), ([] : List ByteArray), 0, 0, 7)))) else (some ((⟨#[]⟩ : ByteArray), 0, 0, ([] : List (Qaz)), ([] : List ByteArray), 0, 0, o0.2)))
theorem Gf.calls (k : Nat) (a0_0 a0_1 : Int) (E0 : Nat → Prop) (A0_2 : Option Addr) (c0_2 : Nat) (l0_2 : List (S32)) (a1 : Int) (r1 : ByteArray) (r2 r3 : Int) (r4 : List (Qaz)) (r5 : List ByteArray) (r6 r7 r8 : Int) (w : World) (C2 : Kd.V k32 32 w w.heap.size (fun k_ => E0 k_) (.slice A0_2 l0_2.length c0_2) l0_2) (h : Gf.f k a0_0 a0_1 l0_2 a1 = some (r1, r2, r3, r4, r5, r6, r7, r8)) :
  Calls Tryz.prog 9 #[.agg #[.int .i64 a0_0, .int .i64 a0_1, .slice A0_2 l0_2.length c0_2], .int .i64 a1] w fun e w' => ∃ u3 N3 : Value, e = .returned (.tuple #[.agg #[.string r1, .int .i64 r2, .int .i64 r3, u3, N3, .int .i64 r6, .int .i64 r7], .int .i64 r8]) ∧ Kd.V Qbm 107 w' w.heap.size (fun k_ => (E0 k_ ∨ w.heap.size ≤ k_)) u3 r4 ∧ Kd.V Kd.string 9 w' w.heap.size (fun k_ => (E0 k_ ∨ w.heap.size ≤ k_)) N3 r5 ∧ Below w.heap.size w w' := by
 have Y3 := Tryz.underlying24; have S3 := Tryz.underlying32; have n0 := am_ (show Kd.V k32 32 w w.heap.size (fun k_ => (E0 k_ ∨ w.heap.size ≤ k_)) (.slice A0_2 l0_2.length c0_2) l0_2 from Kd.V_mono C2 (fun k_ hk => .inl hk)); have HB := am_ (Below.refl w.heap.size w); have H := h; unfold Gf.f at H; clear h; replace H := bi H; obtain ⟨⟨V0, C1⟩, A3, H⟩ := H; try dsimp only at H
 by_cases c4 : C1 = 0
 ·
  rw [if_pos c4] at H; obtain ⟨N2, Q2⟩ := et c4; clear c4; replace H := bi H; obtain ⟨⟨Q1, V1, O1, X1, N1, P1, U1, Q3⟩, A5, H⟩ := H; try dsimp only at H
  replace H := ib H; obtain ⟨rfl, H⟩ | ⟨rfl, H⟩ := H
  ·
   replace H := oi8 H; obtain ⟨rfl, rfl, rfl, rfl, rfl, rfl, rfl, rfl⟩ := H; go_enter Tryz.func9, Tryz.ntmps9
   go_wp2_with (first | (refine bf_ 2 #[.int .i64 a0_0, .int .i64 a0_1, .slice A0_2 l0_2.length c0_2] 24 HB ?_; intro N0 hg w7 hb o0 L1 HB; replace n0 := tVe n0 hg hb; clear hb hg) | (refine bf_ 4 #[.string (⟨#[]⟩ : ByteArray), .int .i64 0, .int .i64 0, .slice none 0 0, .slice none 0 0, .int .i64 0, .int .i64 0] 32 HB ?_; intro C0 hg w8 hb u0 D1 HB; replace n0 := tVe n0 hg hb; obtain ⟨A0, Q0⟩ := tN o0 hg; replace o0 := tBb o0 hb; clear hb hg; have _ := n2 A0; have _ := bx3 o0) | (refine gl_ (some 13) Tryz.func27 #[.agg #[.int .i64 a0_0, .int .i64 a0_1, .slice A0_2 l0_2.length c0_2], .int .i64 a1] ?_; (with_reducible refine (Fc.calls k a0_0 a0_1 _ _ l0_2 a1 V0 C1 _ ?I0 ?U0 A3.out).mono ?_); (case I0 => exact vC n0); (case U0 => exact vL n0); rintro e K4 ⟨rfl, hb⟩; refine ⟨_, rfl, ?_⟩; replace n0 := tVb n0 hb; replace o0 := tBb o0 hb; replace u0 := tBb u0 hb; replace HB := tHb HB hb; (try clear hb); have _ := bx3 o0) | (refine gl_ (some 26) Tryz.func28 #[.agg #[.int .i64 a0_0, .int .i64 a0_1, .slice A0_2 l0_2.length c0_2], .int .i64 V0, .int .i64 (wrap64 ((wrap64 (3 * a1)) - 2))] ?_; (with_reducible refine (Gr.calls a0_0 a0_1 (fun k_ => (((E0 k_ ∨ w.heap.size ≤ k_) ∧ k_ ≠ N0) ∧ k_ ≠ C0)) _ _ l0_2 V0 (wrap64 ((wrap64 (3 * a1)) - 2)) Q1 V1 O1 X1 N1 P1 U1 true _ ?I0 A5.out).mono ?_); (case I0 => exact n0.out); rintro e J4 ⟨Z2, L2, rfl, D2, Y1, hb⟩; refine ⟨_, rfl, ?_⟩; replace n0 := tVb n0 hb; have O0 := lq (fun k_ => (E0 k_ ∨ w.heap.size ≤ k_) ∧ k_ ≠ N0 ∧ k_ ≠ C0) D2 HB; have P0 := lq (fun k_ => (E0 k_ ∨ w.heap.size ≤ k_) ∧ k_ ≠ N0 ∧ k_ ≠ C0) Y1 HB; replace o0 := tBb o0 hb; replace u0 := tBb u0 hb; replace HB := tHb HB hb; (try clear hb D2 Y1)) | (refine bf_ 8 #[.string (⟨#[]⟩ : ByteArray), .int .i64 0, .int .i64 0, .slice none 0 0, .slice none 0 0, .int .i64 0, .int .i64 0] 32 HB ?_; intro Z1 hg I4 hb Z0 J2 HB; replace n0 := tVe n0 hg hb; replace O0 := tVe O0 hg hb; replace P0 := tVe P0 hg hb; obtain ⟨Y0, M0⟩ := tN o0 hg; replace o0 := tBb o0 hb; obtain ⟨X0, L0⟩ := tN u0 hg; replace u0 := tBb u0 hb; clear hb hg; have _ := n2 M0; have _ := n2 L0; have _ := bx7 Z0; obtain ⟨m3, V2, rfl⟩ := Kd.V_slice O0.out; obtain ⟨Y2, k3, rfl⟩ := Kd.V_slice P0.out; obtain ⟨D3, L3, J3, _, _, _, _, I3, s3, C3, _, _, _, _⟩ := bx7 u0))
   refine bodyPost_ret (Qak rfl _ _ C0 32 #[.string Q1, .int .i64 V1, .int .i64 O1, .slice m3 X1.length V2, .slice Y2 N1.length k3, .int .i64 P1, .int .i64 U1] (0, 0) _ rfl (gP u0 rfl) Tryz.underlying32 rfl (by kernel_rfl)) rfl ?_; exact ⟨_, _, fe, gV O0, gV P0, bh HB⟩
  replace H := oi8 H; obtain ⟨rfl, rfl, rfl, rfl, rfl, rfl, rfl, rfl⟩ := H; go_enter Tryz.func9, Tryz.ntmps9
  go_wp2_with (first | (refine bf_ 2 #[.int .i64 a0_0, .int .i64 a0_1, .slice A0_2 l0_2.length c0_2] 24 HB ?_; intro N0 hg s4 hb o0 L1 HB; replace n0 := tVe n0 hg hb; clear hb hg) | (refine bf_ 4 #[.string (⟨#[]⟩ : ByteArray), .int .i64 0, .int .i64 0, .slice none 0 0, .slice none 0 0, .int .i64 0, .int .i64 0] 32 HB ?_; intro C0 hg L4 hb u0 D1 HB; replace n0 := tVe n0 hg hb; obtain ⟨A0, Q0⟩ := tN o0 hg; replace o0 := tBb o0 hb; clear hb hg; have _ := n2 A0; have _ := bx3 o0) | (refine gl_ (some 13) Tryz.func27 #[.agg #[.int .i64 a0_0, .int .i64 a0_1, .slice A0_2 l0_2.length c0_2], .int .i64 a1] ?_; (with_reducible refine (Fc.calls k a0_0 a0_1 _ _ l0_2 a1 V0 C1 _ ?I0 ?U0 A3.out).mono ?_); (case I0 => exact vC n0); (case U0 => exact vL n0); rintro e u4 ⟨rfl, hb⟩; refine ⟨_, rfl, ?_⟩; replace n0 := tVb n0 hb; replace o0 := tBb o0 hb; replace u0 := tBb u0 hb; replace HB := tHb HB hb; (try clear hb); have _ := bx3 o0) | (refine gl_ (some 26) Tryz.func28 #[.agg #[.int .i64 a0_0, .int .i64 a0_1, .slice A0_2 l0_2.length c0_2], .int .i64 V0, .int .i64 (wrap64 ((wrap64 (3 * a1)) - 2))] ?_; (with_reducible refine (Gr.calls a0_0 a0_1 (fun k_ => (((E0 k_ ∨ w.heap.size ≤ k_) ∧ k_ ≠ N0) ∧ k_ ≠ C0)) _ _ l0_2 V0 (wrap64 ((wrap64 (3 * a1)) - 2)) Q1 V1 O1 X1 N1 P1 U1 false _ ?I0 A5.out).mono ?_); (case I0 => exact n0.out); rintro e C4 ⟨Z2, L2, rfl, D2, Y1, hb⟩; refine ⟨_, rfl, ?_⟩; replace n0 := tVb n0 hb; have O0 := lq (fun k_ => (E0 k_ ∨ w.heap.size ≤ k_) ∧ k_ ≠ N0 ∧ k_ ≠ C0) D2 HB; have P0 := lq (fun k_ => (E0 k_ ∨ w.heap.size ≤ k_) ∧ k_ ≠ N0 ∧ k_ ≠ C0) Y1 HB; replace o0 := tBb o0 hb; replace u0 := tBb u0 hb; replace HB := tHb HB hb; (try clear hb D2 Y1)) | (refine bf_ 8 #[.string (⟨#[]⟩ : ByteArray), .int .i64 0, .int .i64 0, .slice none 0 0, .slice none 0 0, .int .i64 0, .int .i64 0] 32 HB ?_; intro Z1 hg E4 hb Z0 J2 HB; replace n0 := tVe n0 hg hb; replace O0 := tVe O0 hg hb; replace P0 := tVe P0 hg hb; obtain ⟨Y0, M0⟩ := tN o0 hg; replace o0 := tBb o0 hb; obtain ⟨X0, L0⟩ := tN u0 hg; replace u0 := tBb u0 hb; clear hb hg; have _ := n2 M0; have _ := n2 L0; have _ := bx7 Z0; obtain ⟨Z3, V3, rfl⟩ := Kd.V_slice O0.out; obtain ⟨U3, X3, rfl⟩ := Kd.V_slice P0.out; have _ := bx7 u0))
  refine bodyPost_ret (Qak rfl _ _ C0 32 #[.string (⟨#[]⟩ : ByteArray), .int .i64 0, .int .i64 0, .slice none 0 0, .slice none 0 0, .int .i64 0, .int .i64 0] (0, 0) _ rfl (gP u0 rfl) Tryz.underlying32 rfl (by kernel_rfl)) rfl ?_; exact ⟨_, _, fe, Kd.V_nil _ _ _ _ _, Kd.V_nil _ _ _ _ _, bh HB⟩
 rw [if_neg c4] at H; obtain ⟨N2, Q2⟩ := ef c4; replace H := oi8 H; obtain ⟨rfl, rfl, rfl, rfl, rfl, rfl, rfl, rfl⟩ := H; go_enter Tryz.func9, Tryz.ntmps9
 go_wp2_with (first | (refine bf_ 2 #[.int .i64 a0_0, .int .i64 a0_1, .slice A0_2 l0_2.length c0_2] 24 HB ?_; intro N0 hg D4 hb o0 L1 HB; replace n0 := tVe n0 hg hb; clear hb hg) | (refine bf_ 4 #[.string (⟨#[]⟩ : ByteArray), .int .i64 0, .int .i64 0, .slice none 0 0, .slice none 0 0, .int .i64 0, .int .i64 0] 32 HB ?_; intro C0 hg m4 hb u0 D1 HB; replace n0 := tVe n0 hg hb; obtain ⟨A0, Q0⟩ := tN o0 hg; replace o0 := tBb o0 hb; clear hb hg; have _ := n2 A0; have _ := bx3 o0) | (refine gl_ (some 13) Tryz.func27 #[.agg #[.int .i64 a0_0, .int .i64 a0_1, .slice A0_2 l0_2.length c0_2], .int .i64 a1] ?_; (with_reducible refine (Fc.calls k a0_0 a0_1 _ _ l0_2 a1 V0 C1 _ ?I0 ?U0 A3.out).mono ?_); (case I0 => exact vC n0); (case U0 => exact vL n0); rintro e k4 ⟨rfl, hb⟩; refine ⟨_, rfl, ?_⟩; replace n0 := tVb n0 hb; replace o0 := tBb o0 hb; replace u0 := tBb u0 hb; replace HB := tHb HB hb; (try clear hb); have _ := bx7 u0))
 refine bodyPost_ret (Qak rfl _ _ C0 32 #[.string (⟨#[]⟩ : ByteArray), .int .i64 0, .int .i64 0, .slice none 0 0, .slice none 0 0, .int .i64 0, .int .i64 0] (0, 0) _ rfl (gP u0 rfl) Tryz.underlying32 rfl (by kernel_rfl)) rfl ?_; exact ⟨_, _, fe, Kd.V_nil _ _ _ _ _, Kd.V_nil _ _ _ _ _, bh HB⟩

def G8.l0 : Nat → List ByteArray → ByteArray → Int → Int → Option (Int)
 | 0, _, _, _, _ => none
 | k + 1, x0, x1, x7, x8 => if x8 < x7 then (if 0 ≤ x8 then (if x8 < (x0.length : Int) then (if x1.toList = (Qby ByteArray.empty x0 x8).toList then (some x8) else (G8.l0 k x0 x1 x7 (wrap64 (x8 + 1)))) else (none)) else (none)) else (some (-1))
def G8.f (k : Nat) (l0 : List ByteArray) (a1 : ByteArray) : Option (Int) := G8.l0 k l0 a1 (l0.length : Int) 0
theorem G8.calls (k : Nat) (A0 : Option Addr) (c0 : Nat) (l0 : List ByteArray) (a1 : ByteArray) (r : Int) (w : World) (Q0 : Kd.C Kd.string w A0 l0.length l0) (O0 : l0.length ≤ c0) (h : G8.f k l0 a1 = some r) :
  Calls Tryz.prog 60 #[.slice A0 l0.length c0, .string a1] w fun e w' => e = .returned (.int .i64 r) ∧ Qae w w' := by
 have U0 := am_ Q0; have Y0 := am_ O0; clear Q0 O0; have H := h; unfold G8.f at H; clear h; have H' := am_ H; clear H; go_enter Tryz.func60, Tryz.ntmps60; go_wp2
 go_loopg [8] k (fun kq v8 w' => ∃ (n0 : Int), v8 = .int .i64 n0 ∧ Asc (G8.l0 kq l0 a1 (l0.length : Int) n0 = some r) ∧ Asc (kq ≤ k) ∧ Qae w w')
 case atStart => exact ⟨(0), fr, H', ⟨Nat.le_refl _⟩, by repeat (first | exact Qae.refl _ | apply Qae.step)⟩
 case round =>
  clear H'; obtain ⟨n0, rfl, HA, P0, ⟨m1, rfl⟩⟩ := hrel
  cases gk with
  | zero => exact absurd HA.out (by simp [G8.l0])
  | succ k1 =>
   have H := HA.out; clear HA; simp only [G8.l0] at H
   by_cases c3 : n0 < (l0.length : Int)
   ·
    rw [if_pos c3] at H; have N0 := dT c3; clear c3; revert H; refine gi (fun V0 H => ?_); revert H; refine gi (fun X0 H => ?_)
    by_cases c6 : a1.toList = (Qby ByteArray.empty l0 n0).toList
    ·
     rw [if_pos c6] at H; obtain ⟨L0, M0⟩ := et c6; clear c6; obtain rfl := Option.some.inj H; have u0 : 0 ≤ (n0 : Int) := dt; have o0 : n0 < (l0.length : Int) := dt; obtain ⟨I0, E0, C0⟩ := Kd.at_string U0.out n0 u0 o0; cases E0; replace u0 := eq_true u0; replace o0 := eq_true o0; go_wp2; go_ret; exact ⟨fr, by repeat (first | exact Qae.refl _ | apply Qae.step)⟩
    rw [if_neg c6] at H; obtain ⟨L0, M0⟩ := ef c6; have H' := am_ H; clear H; have u0 : 0 ≤ (n0 : Int) := dt; have o0 : n0 < (l0.length : Int) := dt; obtain ⟨I0, E0, C0⟩ := Kd.at_string U0.out n0 u0 o0; cases E0; replace u0 := eq_true u0; replace o0 := eq_true o0; go_wp2; go_roundg k1
    case measure => have := P0.out; omega
    case rel => exact ⟨(wrap64 (n0 + 1)), fr, H', kS P0, by repeat (first | exact Qae.refl _ | apply Qae.step)⟩
   rw [if_neg c3] at H; have N0 := dF c3; clear c3; obtain rfl := Option.some.inj H; go_wp2; go_ret; exact ⟨fr, by repeat (first | exact Qae.refl _ | apply Qae.step)⟩

def Gv.f (k : Nat) (l0 : List ByteArray) (a1 : ByteArray) : Option (Bool) := (G8.f k l0 a1).bind fun n0 => (some (decide (n0 ≥ 0)))
theorem Gv.calls (k : Nat) (A0 : Option Addr) (c0 : Nat) (l0 : List ByteArray) (a1 : ByteArray) (r : Bool) (w : World) (E0 : Kd.C Kd.string w A0 l0.length l0) (C0 : l0.length ≤ c0) (h : Gv.f k l0 a1 = some r) :
  Calls Tryz.prog 35 #[.slice A0 l0.length c0, .string a1] w fun e w' => e = .returned (.bool r) ∧ Qae w w' := by
 have L0 := am_ E0; have I0 := am_ C0; clear E0 C0; have H := h; unfold Gv.f at H; clear h; replace H := bi H; obtain ⟨u0, A3, H⟩ := H; try dsimp only at H
 obtain rfl := Option.some.inj H; go_enter Tryz.func35, Tryz.ntmps35
 go_wp2_with (first | (refine gl_ (some 7) Tryz.func60 #[.slice A0 l0.length c0, .string a1] ?_; (with_reducible refine (G8.calls k _ _ l0 a1 u0 _ ?o0 ?n0 A3.out).mono ?_); (case o0 => exact gC L0); (case n0 => exact I0.out); rintro e w' ⟨rfl, ⟨nd, rfl⟩⟩; refine ⟨_, rfl, ?_⟩))
 go_ret; exact ⟨fr, by repeat (first | exact Qae.refl _ | apply Qae.step)⟩
section
attribute [local go_sem] Qol max_two

def G5.l0 : Nat → Int → List (S32) → Int → Int → ByteArray → Int → Int → List (Qaz) → List ByteArray → Int → Int → Option (Int)
 | 0, _, _, _, _, _, _, _, _, _, _, _ => none
 | k + 1, x5, M0, N0, L0, n0, u0, A0, E0, C0, o0, I0 => if L0 < N0 then (if 0 ≤ L0 then (if L0 < (M0.length : Int) then ((Gv.f k ((Qab M0 L0).f1.f3) n0).bind fun O0 => (if O0 = true then (G5.l0 k (wrap64 (x5 + 1)) M0 N0 (wrap64 (L0 + 1)) n0 u0 A0 E0 C0 o0 I0) else (G5.l0 k x5 M0 N0 (wrap64 (L0 + 1)) n0 u0 A0 E0 C0 o0 I0))) else (none)) else (none)) else (some x5)
def G5.f (k : Nat) (a0_0 a0_1 : Int) (l0_2 : List (S32)) (u0 : ByteArray) (L0 o0 : Int) (I0 : List (Qaz)) (E0 : List ByteArray) (C0 A0 : Int) : Option (Int) := (Fr.f k a0_0 a0_1 l0_2 (wrap64 (o0 + 1))).bind fun n0 => (G5.l0 k 0 n0 (n0.length : Int) 0 u0 L0 o0 I0 E0 C0 A0)
theorem G5.calls (k : Nat) (a0_0 a0_1 : Int) (A0_2 : Option Addr) (c0_2 : Nat) (l0_2 : List (S32)) (P1 : ByteArray) (u3 L2 : Int) (X3 : Option Addr) (L3 : Nat) (C2 : List (Qaz)) (N3 : Option Addr) (m4 : Nat) (Y1 : List ByteArray) (m3 s3 r : Int) (w : World) (hr0_2 : Kd.C k32 w A0_2 l0_2.length l0_2) (hc0_2 : l0_2.length ≤ c0_2) (K4 : Kd.C Qbm w X3 C2.length C2) (E4 : C2.length ≤ L3) (J4 : Kd.C Kd.string w N3 Y1.length Y1) (I4 : Y1.length ≤ m4) (h : G5.f k a0_0 a0_1 l0_2 P1 u3 L2 C2 Y1 m3 s3 = some r) :
  Calls Tryz.prog 14 #[.agg #[.int .i64 a0_0, .int .i64 a0_1, .slice A0_2 l0_2.length c0_2], .agg #[.string P1, .int .i64 u3, .int .i64 L2, .slice X3 C2.length L3, .slice N3 Y1.length m4, .int .i64 m3, .int .i64 s3]] w fun e w' => e = .returned (.int .i64 r) ∧ Below w.heap.size w w' := by
 have o6 := Tryz.underlying24; have l6 := Tryz.underlying32; have S4 := am_ hr0_2; have P4 := am_ hc0_2; clear hr0_2 hc0_2; have j6 := am_ K4; have V5 := am_ E4; clear K4 E4; have i6 := am_ J4; have c6 := am_ I4; clear J4 I4; have HB := am_ (Below.refl w.heap.size w); have H := h; unfold G5.f at H; clear h; replace H := bi H; obtain ⟨O0, A3, H⟩ := H; try dsimp only at H
 have H' := am_ H; clear H; go_enter Tryz.func14, Tryz.ntmps14
 go_wp2_with (first | (refine bf_ 2 #[.int .i64 a0_0, .int .i64 a0_1, .slice A0_2 l0_2.length c0_2] 24 HB ?_; intro k3 hg w4 hb o0 Y5 HB; clear hb hg) | (refine bf_ 3 #[.string P1, .int .i64 u3, .int .i64 L2, .slice X3 C2.length L3, .slice N3 Y1.length m4, .int .i64 m3, .int .i64 s3] 32 HB ?_; intro I3 hg w5 hb C0 Z5 HB; obtain ⟨Z2, N1⟩ := tN o0 hg; replace o0 := tBb o0 hb; clear hb hg; have _ := n2 Z2; obtain ⟨M5, s5, k5, Y4, l5, R5⟩ := bx3 o0; obtain ⟨i5, N5, I5, A5, c5, Z4, D5, C5, P5, L5, J5, Q5, m5, E5⟩ := bx7 C0) | (refine gl_ (some 13) Tryz.func34 #[.agg #[.int .i64 a0_0, .int .i64 a0_1, .slice A0_2 l0_2.length c0_2], .int .i64 (wrap64 (L2 + 1))] ?_; (with_reducible refine (Fr.calls k a0_0 a0_1 (fun k_ => k_ < w.heap.size) _ _ l0_2 (wrap64 (L2 + 1)) O0 _ ?Z1 A3.out).mono ?_); (case Z1 => exact Kd.V_mk P4.out (Kd.F_below (Kd.C_F Qbn S4.out) (bh HB))); rintro e w9 ⟨p6, rfl, U5, hb⟩; refine ⟨_, rfl, ?_⟩; have D4 := lqN (fun k_ => k_ ≠ k3 ∧ k_ ≠ I3) U5 HB; replace o0 := tBb o0 hb; replace C0 := tBb C0 hb; replace HB := tHb HB hb; (try clear hb U5); obtain ⟨p5, K5, O5⟩ := Kd.N_slice D4.out; subst O5))
 go_loopg [5, 15] k (fun kq v5 k6 w' => ∃ (J3 : Int) (n0 : Int), v5 = .int .i64 J3 ∧ k6 = .int .i64 n0 ∧ Asc (G5.l0 kq J3 O0 (O0.length : Int) n0 P1 u3 L2 C2 Y1 m3 s3 = some r) ∧ Asc (kq ≤ k) ∧ Asc (Kd.N k32 32 w' w.heap.size (fun k_ => k_ ≠ k3 ∧ k_ ≠ I3) (.slice p5 O0.length K5) O0) ∧ Asc (w'.heap[k3]? = some (.cells #[.int .i64 a0_0, .int .i64 a0_1, (.slice A0_2 l0_2.length c0_2)] 24 (0, 0))) ∧ Asc (w'.heap[I3]? = some (.cells #[.string P1, .int .i64 u3, .int .i64 L2, (.slice X3 C2.length L3), (.slice N3 Y1.length m4), .int .i64 m3, .int .i64 s3] 32 (0, 0))) ∧ Asc (Below w.heap.size w w'))
 case atStart => exact ⟨(0), (0), fr, fr, H', ⟨Nat.le_refl _⟩, ⟨hN D4⟩, ⟨gB o0⟩, ⟨gB C0⟩, ⟨bh HB⟩⟩
 case round =>
  clear H'; try clear M5 s5 k5 i5 N5 I5 A5 c5 Z4 D5 Y4 l5 R5 C5 P5 L5 J5 Q5 m5 E5
  obtain ⟨J3, n0, rfl, rfl, HA, X4, HO_13, o0, C0, HB⟩ := hrel
  cases gk with
  | zero => exact absurd HA.out (by simp [G5.l0])
  | succ k1 =>
   have H := HA.out; clear HA; simp only [G5.l0] at H
   by_cases O4 : n0 < (O0.length : Int)
   ·
    rw [if_pos O4] at H; have V4 := dT O4; clear O4; revert H; refine gi (fun W5 H => ?_); revert H; refine gi (fun X5 H => ?_); replace H := bi H; obtain ⟨m6, S5, H⟩ := H; try dsimp only at H
    replace H := ib H; obtain ⟨rfl, H⟩ | ⟨rfl, H⟩ := H
    ·
     have H' := am_ H; clear H; have U1 : 0 ≤ (n0 : Int) := dt; have Q1 : n0 < (O0.length : Int) := dt; obtain ⟨R4, N4, L4, J2, N2, M4, C4, S3, Q3, X1, O1, s4, k4, Z0, C1, X0, Q0⟩ := Qao (Kd.N_reads' HO_13.out).2.2 n0 U1 Q1; cases M4; obtain ⟨U4, D2, Q2, P0⟩ := Kd.N_get HO_13.out z32 n0 U1 (by first | exact Q1 | exact dt | (have e_ := (Kd.N_reads' HO_13.out).1; omega)); obtain ⟨V3, u4, U3, Y3, rfl, I0, L0, M0, N0⟩ := Qap Q2; have u0 := P0 3 _ rfl; rw [Qaf _ _ 3 (by omega)] at u0; replace u0 := Option.some.inj (u0.symm.trans X1)
     injection u0 with hva_ hvn_ hvc_
     rw [hva_] at L0; rw [hvc_] at I0; have Y0 := am_ (show Kd.V Qbm 107 _ w.heap.size _ _ ((Qab O0 n0).f1.f2) from Kd.V_mk I0 L0); clear hva_ hvn_ hvc_ L0 I0; have A0 := P0 4 _ rfl; rw [Qaf _ _ 4 (by omega)] at A0; replace A0 := Option.some.inj (A0.symm.trans O1)
     injection A0 with hva_ hvn_ hvc_
     rw [hva_] at N0; rw [hvc_] at M0; have E0 := am_ (show Kd.V Kd.string 9 _ w.heap.size _ _ ((Qab O0 n0).f1.f3) from Kd.V_mk M0 N0); clear hva_ hvn_ hvc_ N0 M0 P0 D2; have V0 := am_ C1; have Z3 := am_ Z0; clear C1 Z0; have U0 := am_ Q0; have V1 := am_ X0; clear Q0 X0; replace U1 := eq_true U1; replace Q1 := eq_true Q1
     go_wp2_with (first | (refine bf_ 7 #[.string (⟨#[]⟩ : ByteArray), .int .i64 0, .int .i64 0, .slice none 0 0, .slice none 0 0, .int .i64 0, .int .i64 0] 32 HB ?_; intro Q4 hg w16 hb C3 W4 HB; replace HO_13 := tNe HO_13 hg hb; replace Y0 := tVe Y0 hg hb; replace E0 := tVe E0 hg hb; replace V0 := tCb V0 hb; replace U0 := tCb U0 hb; obtain ⟨V2, D1⟩ := tN o0 hg; replace o0 := tBb o0 hb; obtain ⟨Y2, L1⟩ := tN C0 hg; replace C0 := tBb C0 hb; clear hb hg; have _ := n2 D1; have _ := n2 L1; have _ := bx7 C3; have _ := n2 N1; have _ := bx7 C0) | (refine gl_ (some 24) Tryz.func35 #[.slice J2 ((Qab O0 n0).f1.f3).length N2, .string P1] ?_; (with_reducible refine (Gv.calls k1 _ _ ((Qab O0 n0).f1.f3) P1 true _ ?Z1 ?D3 S5.out).mono ?_); (case Z1 => repeat (first | exact ((Kd.V_reads' (hV E0)).2.2) | (with_reducible refine Kd.C_alloc ?_ _) | (with_reducible refine Kd.C_drewN ?_ _) | (with_reducible refine Kd.C_drew ?_))); (case D3 => exact V1.out); rintro e w' ⟨rfl, ⟨nd, rfl⟩⟩; refine ⟨_, rfl, ?_⟩))
     go_roundg k1
     case measure => have := X4.out; omega
     case rel => exact ⟨(wrap64 (J3 + 1)), (wrap64 (n0 + 1)), fr, fr, H', kS X4, ⟨gN HO_13⟩, ⟨gB o0⟩, ⟨gB C0⟩, ⟨bh HB⟩⟩
    have H' := am_ H; clear H; have U1 : 0 ≤ (n0 : Int) := dt; have Q1 : n0 < (O0.length : Int) := dt; obtain ⟨R4, N4, L4, J2, N2, M4, C4, S3, Q3, X1, O1, s4, k4, Z0, C1, X0, Q0⟩ := Qao (Kd.N_reads' HO_13.out).2.2 n0 U1 Q1; cases M4; obtain ⟨U4, D2, Q2, P0⟩ := Kd.N_get HO_13.out z32 n0 U1 (by first | exact Q1 | exact dt | (have e_ := (Kd.N_reads' HO_13.out).1; omega)); obtain ⟨V3, u4, U3, Y3, rfl, I0, L0, M0, N0⟩ := Qap Q2; have u0 := P0 3 _ rfl; rw [Qaf _ _ 3 (by omega)] at u0; replace u0 := Option.some.inj (u0.symm.trans X1)
    injection u0 with hva_ hvn_ hvc_
    rw [hva_] at L0; rw [hvc_] at I0; have Y0 := am_ (show Kd.V Qbm 107 _ w.heap.size _ _ ((Qab O0 n0).f1.f2) from Kd.V_mk I0 L0); clear hva_ hvn_ hvc_ L0 I0; have A0 := P0 4 _ rfl; rw [Qaf _ _ 4 (by omega)] at A0; replace A0 := Option.some.inj (A0.symm.trans O1)
    injection A0 with hva_ hvn_ hvc_
    rw [hva_] at N0; rw [hvc_] at M0; have E0 := am_ (show Kd.V Kd.string 9 _ w.heap.size _ _ ((Qab O0 n0).f1.f3) from Kd.V_mk M0 N0); clear hva_ hvn_ hvc_ N0 M0 P0 D2; have V0 := am_ C1; have Z3 := am_ Z0; clear C1 Z0; have U0 := am_ Q0; have V1 := am_ X0; clear Q0 X0; replace U1 := eq_true U1; replace Q1 := eq_true Q1
    go_wp2_with (first | (refine bf_ 7 #[.string (⟨#[]⟩ : ByteArray), .int .i64 0, .int .i64 0, .slice none 0 0, .slice none 0 0, .int .i64 0, .int .i64 0] 32 HB ?_; intro Q4 hg q6 hb C3 W4 HB; replace HO_13 := tNe HO_13 hg hb; replace Y0 := tVe Y0 hg hb; replace E0 := tVe E0 hg hb; replace V0 := tCb V0 hb; replace U0 := tCb U0 hb; obtain ⟨V2, D1⟩ := tN o0 hg; replace o0 := tBb o0 hb; obtain ⟨Y2, L1⟩ := tN C0 hg; replace C0 := tBb C0 hb; clear hb hg; have _ := n2 D1; have _ := n2 L1; have _ := bx7 C3; have _ := n2 N1; have _ := bx7 C0) | (refine gl_ (some 24) Tryz.func35 #[.slice J2 ((Qab O0 n0).f1.f3).length N2, .string P1] ?_; (with_reducible refine (Gv.calls k1 _ _ ((Qab O0 n0).f1.f3) P1 false _ ?Z1 ?D3 S5.out).mono ?_); (case Z1 => repeat (first | exact ((Kd.V_reads' (hV E0)).2.2) | (with_reducible refine Kd.C_alloc ?_ _) | (with_reducible refine Kd.C_drewN ?_ _) | (with_reducible refine Kd.C_drew ?_))); (case D3 => exact V1.out); rintro e w' ⟨rfl, ⟨nd, rfl⟩⟩; refine ⟨_, rfl, ?_⟩))
    go_roundg k1
    case measure => have := X4.out; omega
    case rel => exact ⟨(J3), (wrap64 (n0 + 1)), fr, fr, H', kS X4, ⟨gN HO_13⟩, ⟨gB o0⟩, ⟨gB C0⟩, ⟨bh HB⟩⟩
   rw [if_neg O4] at H; have V4 := dF O4; clear O4; obtain rfl := Option.some.inj H; go_wp2; go_ret; exact ⟨fe, bh HB⟩

def Fz.f (k : Nat) (a0_0 a0_1 : Int) (l0_2 : List (S32)) (a1 : Int) : Option (ByteArray × Int × Int × (List (Qaz)) × List ByteArray × Int × Int × Int) := (Gf.f k a0_0 a0_1 l0_2 a1).bind fun n0 => (if n0.2.2.2.2.2.2.2 = 0 then ((G5.f k a0_0 a0_1 l0_2 n0.1 n0.2.1 n0.2.2.1 n0.2.2.2.1 n0.2.2.2.2.1 n0.2.2.2.2.2.1 n0.2.2.2.2.2.2.1).bind fun u0 => ((Gb.f a0_0).bind fun o0 => (if u0 < o0 then (some ((⟨#[]⟩ : ByteArray), 0, 0, ([] : List (Qaz)), ([] : List ByteArray), 0, 0, 12)) else (some (n0.1, n0.2.1, n0.2.2.1, n0.2.2.2.1, n0.2.2.2.2.1, n0.2.2.2.2.2.1, n0.2.2.2.2.2.2.1, 0))))) else (some ((⟨#[]⟩ : ByteArray), 0, 0, ([] : List (Qaz)), ([] : List ByteArray), 0, 0, n0.2.2.2.2.2.2.2)))
def Fz.T4 : Bool × List (List Nat × List Nat) := (true, [([], []), ([], []), ([0, 1], [0, 1]), ([], []), ([3], [3]), ([4, 2], [4]), ([2, 5], [2, 5]), ([6, 5], [6])])
def Fz.B4 : List Nat := [0, 0, 3, 0, 8, 31, 63, 127]
theorem Fz.tab4 : Qcp .any (opsOf Tryz.f11 4) = Fz.T4 := by kernel_rfl
theorem Fz.bits4 : Qbi Fz.T4.2 Fz.B4 = true := by kernel_rfl
theorem Fz.calls (k : Nat) (a0_0 a0_1 : Int) (M0 : Nat → Prop) (A0_2 : Option Addr) (c0_2 : Nat) (l0_2 : List (S32)) (a1 : Int) (r1 : ByteArray) (r2 r3 : Int) (r4 : List (Qaz)) (r5 : List ByteArray) (r6 r7 r8 : Int) (w : World) (I3 : Kd.V k32 32 w w.heap.size (fun k_ => M0 k_) (.slice A0_2 l0_2.length c0_2) l0_2) (h : Fz.f k a0_0 a0_1 l0_2 a1 = some (r1, r2, r3, r4, r5, r6, r7, r8)) :
  Calls Tryz.prog 11 #[.agg #[.int .i64 a0_0, .int .i64 a0_1, .slice A0_2 l0_2.length c0_2], .int .i64 a1] w fun e w' => ∃ U3 V3 : Value, e = .returned (.tuple #[.agg #[.string r1, .int .i64 r2, .int .i64 r3, U3, V3, .int .i64 r6, .int .i64 r7], .int .i64 r8]) ∧ Kd.V Qbm 107 w' w.heap.size (fun k_ => (M0 k_ ∨ w.heap.size ≤ k_)) U3 r4 ∧ Kd.V Kd.string 9 w' w.heap.size (fun k_ => (M0 k_ ∨ w.heap.size ≤ k_)) V3 r5 ∧ Below w.heap.size w w' := by
 have D4 := Tryz.underlying24; have Z3 := Tryz.underlying32; have o0 := am_ (show Kd.V k32 32 w w.heap.size (fun k_ => (M0 k_ ∨ w.heap.size ≤ k_)) (.slice A0_2 l0_2.length c0_2) l0_2 from Kd.V_mono I3 (fun k_ hk => .inl hk)); have HB := am_ (Below.refl w.heap.size w); have H := h; unfold Fz.f at H; clear h; replace H := bi H; obtain ⟨⟨D1, Z0, X0, V0, Y0, L1, C1, Z1⟩, A3, H⟩ := H; try dsimp only at H
 by_cases c4 : Z1 = 0
 ·
  rw [if_pos c4] at H; obtain ⟨N3, Q3⟩ := et c4; clear c4; replace H := bi H; obtain ⟨k3, A5, H⟩ := H; try dsimp only at H
  replace H := bi H; obtain ⟨D3, A6, H⟩ := H; try dsimp only at H
  by_cases c7 : k3 < D3
  ·
   rw [if_pos c7] at H; have S3 := dT c7; clear c7; replace H := oi8 H; obtain ⟨rfl, rfl, rfl, rfl, rfl, rfl, rfl, rfl⟩ := H; go_enter Tryz.func11, Tryz.ntmps11; try go_wp2_with (first | (refine bf_ 2 #[.int .i64 a0_0, .int .i64 a0_1, .slice A0_2 l0_2.length c0_2] 24 HB ?_; intro N0 hg w8 hb n0 Q2 HB; replace o0 := tVe o0 hg hb; clear hb hg) | (refine bf_ 4 #[.string (⟨#[]⟩ : ByteArray), .int .i64 0, .int .i64 0, .slice none 0 0, .slice none 0 0, .int .i64 0, .int .i64 0] 32 HB ?_; intro L0 hg w9 hb u0 Z2 HB; replace o0 := tVe o0 hg hb; obtain ⟨O0, O1⟩ := tN n0 hg; replace n0 := tBb n0 hb; clear hb hg; have _ := n2 O0; have _ := bx3 n0) | (refine gl_ (some 11) Tryz.func9 #[.agg #[.int .i64 a0_0, .int .i64 a0_1, .slice A0_2 l0_2.length c0_2], .int .i64 a1] ?_; (with_reducible refine (Gf.calls k a0_0 a0_1 (fun k_ => (((M0 k_ ∨ w.heap.size ≤ k_) ∧ k_ ≠ N0) ∧ k_ ≠ L0)) _ _ l0_2 a1 D1 Z0 X0 V0 Y0 L1 C1 Z1 _ ?U0 A3.out).mono ?_); (case U0 => exact o0.out); rintro e R4 ⟨L3, J3, rfl, Y2, N2, hb⟩; refine ⟨_, rfl, ?_⟩; replace o0 := tVb o0 hb; have C0 := lq (fun k_ => (M0 k_ ∨ w.heap.size ≤ k_) ∧ k_ ≠ N0 ∧ k_ ≠ L0) Y2 HB; have A0 := lq (fun k_ => (M0 k_ ∨ w.heap.size ≤ k_) ∧ k_ ≠ N0 ∧ k_ ≠ L0) N2 HB; replace n0 := tBb n0 hb; replace u0 := tBb u0 hb; replace HB := tHb HB hb; (try clear hb Y2 N2)) | (refine bf_ 6 #[.string (⟨#[]⟩ : ByteArray), .int .i64 0, .int .i64 0, .slice none 0 0, .slice none 0 0, .int .i64 0, .int .i64 0] 32 HB ?_; intro I0 hg s4 hb E0 V2 HB; replace o0 := tVe o0 hg hb; replace C0 := tVe C0 hg hb; replace A0 := tVe A0 hg hb; obtain ⟨P1, P0⟩ := tN n0 hg; replace n0 := tBb n0 hb; obtain ⟨N1, Q0⟩ := tN u0 hg; replace u0 := tBb u0 hb; clear hb hg; have _ := n2 P0; have _ := n2 Q0; have _ := bx7 E0; obtain ⟨s3, m3, rfl⟩ := Kd.V_slice C0.out; obtain ⟨C3, u3, rfl⟩ := Kd.V_slice A0.out) | ((with_reducible refine Qar (t := 32) (p := 6) rfl ?_); refine se_ 32 6 (((((((s4.setCell ⟨I0, 0, none⟩ (.string D1)).setCell ⟨I0, 1, none⟩ (.int .i64 Z0)).setCell ⟨I0, 2, none⟩ (.int .i64 X0)).setCell ⟨I0, 3, none⟩ (.slice s3 V0.length m3)).setCell ⟨I0, 4, none⟩ (.slice C3 Y0.length u3)).setCell ⟨I0, 5, none⟩ (.int .i64 L1)).setCell ⟨I0, 6, none⟩ (.int .i64 C1)) ?_; intro Y3 hw; replace o0 := gVw (fun k_ => (M0 k_ ∨ w.heap.size ≤ k_) ∧ k_ ≠ N0 ∧ k_ ≠ L0 ∧ k_ ≠ I0) o0 hw; replace C0 := gVw (fun k_ => (M0 k_ ∨ w.heap.size ≤ k_) ∧ k_ ≠ N0 ∧ k_ ≠ L0 ∧ k_ ≠ I0) C0 hw; replace A0 := gVw (fun k_ => (M0 k_ ∨ w.heap.size ≤ k_) ∧ k_ ≠ N0 ∧ k_ ≠ L0 ∧ k_ ≠ I0) A0 hw; replace n0 := sB n0 hw; replace u0 := sB u0 hw; replace E0 := sP #[.string D1, .int .i64 Z0, .int .i64 X0, .slice s3 V0.length m3, .slice C3 Y0.length u3, .int .i64 L1, .int .i64 C1] E0 hw; replace HB := sH HB hw; clear hw))
   replace o0 := am_ (Kd.V_drew o0.out); replace C0 := am_ (Kd.V_drew C0.out); replace A0 := am_ (Kd.V_drew A0.out); replace n0 := am_ (Qag n0.out); replace u0 := am_ (Qag u0.out); replace E0 := am_ (Qag E0.out); replace HB := am_ (Qaj HB.out); refine st_ 8 [] (k3_ n0 (k7_ E0 ct)) (fun hHeld => ?_); refine Qav Fz.tab4 Fz.bits4 (fun HT_ HW_ => ?_); generalize Y3.drew = U4 at o0 C0 A0 n0 u0 E0 HB hHeld ⊢; refine pu_ 3 (some 23) 8 HT_ (h := ?_); refine tk_ 0 (some 20) 9 HT_ HW_ hHeld (h := ?_); refine tk_ 1 (some 21) 11 HT_ HW_ hHeld (h := ?_); refine tk_ 4 (some 24) 27 HT_ HW_ hHeld (h := ?_); refine on_ 2 (some 22) 31 HT_ (fun K hK => ?_); refine Qdo Tryz.func14 #[.agg #[.int .i64 a0_0, .int .i64 a0_1, .slice A0_2 l0_2.length c0_2], .agg #[.string D1, .int .i64 Z0, .int .i64 X0, .slice s3 V0.length m3, .slice C3 Y0.length u3, .int .i64 L1, .int .i64 C1]] ?_
   with_reducible refine (G5.calls k a0_0 a0_1 _ _ l0_2 D1 Z0 X0 _ _ V0 _ _ Y0 L1 C1 k3 _ ?U0 ?Q1 ?V1 ?U1 ?Y1 ?X1 A5.out).mono ?_
   (case U0 => exact vC o0)
   (case Q1 => exact vL o0)
   (case V1 => exact vC C0)
   (case U1 => exact vL C0)
   (case Y1 => exact vC A0)
   (case X1 => exact vL A0)
   rintro e M4 ⟨rfl, hb⟩; refine ⟨_, rfl, ?_⟩; replace o0 := tVb o0 hb; replace C0 := tVb C0 hb; replace A0 := tVb A0 hb; replace n0 := tBb n0 hb; replace u0 := tBb u0 hb; replace E0 := tBb E0 hb; replace HB := tHb HB hb
   (try clear hb)
   (try clear I4)
   (try clear hk)
   (try clear hi)
   refine hK.out _ _ (m3_ n0 (m7_ E0 ct)) (fun hHeld => ?_); clear hK K; refine Qbb (a' := ?_) ?_ ?_; rotate_left
   ·
    show Act.put _ (some 22) _ = _; exact pt_
   refine on_ 5 (some 25) 63 HT_ (fun K hK => ?_); refine Qdo Tryz.func31 #[.int .i64 a0_0] ?_
   with_reducible refine (Gb.calls a0_0 D3 _ A6.out).mono ?_
   rintro e w' ⟨rfl, ⟨nd, rfl⟩⟩; refine ⟨_, rfl, ?_⟩; refine hK.out _ _ (m3_ n0 (m7_ E0 ct)) (fun hHeld => ?_); clear hK K; refine Qbb (a' := ?_) ?_ ?_; rotate_left
   ·
    show Act.put _ (some 25) _ = _; exact pt_
   refine pu_ 6 (some 26) 127 HT_ (h := ?_); refine pu_ 7 (some 19) 255 HT_ (h := ?_); refine Qbt (Qbc HT_.out (by kernel_rfl)) ?_; have _ := bx7 u0; try go_wp2
   refine bodyPost_ret (Qak rfl _ _ L0 32 #[.string (⟨#[]⟩ : ByteArray), .int .i64 0, .int .i64 0, .slice none 0 0, .slice none 0 0, .int .i64 0, .int .i64 0] (0, 0) _ rfl (gP u0 rfl) Tryz.underlying32 rfl (by kernel_rfl)) rfl ?_; exact ⟨_, _, fe, Kd.V_nil _ _ _ _ _, Kd.V_nil _ _ _ _ _, bh HB⟩
  rw [if_neg c7] at H; have S3 := dF c7; clear c7; replace H := oi8 H; obtain ⟨rfl, rfl, rfl, rfl, rfl, rfl, rfl, rfl⟩ := H; go_enter Tryz.func11, Tryz.ntmps11; try go_wp2_with (first | (refine bf_ 2 #[.int .i64 a0_0, .int .i64 a0_1, .slice A0_2 l0_2.length c0_2] 24 HB ?_; intro N0 hg V4 hb n0 Q2 HB; replace o0 := tVe o0 hg hb; clear hb hg) | (refine bf_ 4 #[.string (⟨#[]⟩ : ByteArray), .int .i64 0, .int .i64 0, .slice none 0 0, .slice none 0 0, .int .i64 0, .int .i64 0] 32 HB ?_; intro L0 hg N4 hb u0 Z2 HB; replace o0 := tVe o0 hg hb; obtain ⟨O0, O1⟩ := tN n0 hg; replace n0 := tBb n0 hb; clear hb hg; have _ := n2 O0; have _ := bx3 n0) | (refine gl_ (some 11) Tryz.func9 #[.agg #[.int .i64 a0_0, .int .i64 a0_1, .slice A0_2 l0_2.length c0_2], .int .i64 a1] ?_; (with_reducible refine (Gf.calls k a0_0 a0_1 (fun k_ => (((M0 k_ ∨ w.heap.size ≤ k_) ∧ k_ ≠ N0) ∧ k_ ≠ L0)) _ _ l0_2 a1 D1 Z0 X0 V0 Y0 L1 C1 Z1 _ ?U0 A3.out).mono ?_); (case U0 => exact o0.out); rintro e O4 ⟨L3, J3, rfl, Y2, N2, hb⟩; refine ⟨_, rfl, ?_⟩; replace o0 := tVb o0 hb; have C0 := lq (fun k_ => (M0 k_ ∨ w.heap.size ≤ k_) ∧ k_ ≠ N0 ∧ k_ ≠ L0) Y2 HB; have A0 := lq (fun k_ => (M0 k_ ∨ w.heap.size ≤ k_) ∧ k_ ≠ N0 ∧ k_ ≠ L0) N2 HB; replace n0 := tBb n0 hb; replace u0 := tBb u0 hb; replace HB := tHb HB hb; (try clear hb Y2 N2)) | (refine bf_ 6 #[.string (⟨#[]⟩ : ByteArray), .int .i64 0, .int .i64 0, .slice none 0 0, .slice none 0 0, .int .i64 0, .int .i64 0] 32 HB ?_; intro I0 hg k4 hb E0 V2 HB; replace o0 := tVe o0 hg hb; replace C0 := tVe C0 hg hb; replace A0 := tVe A0 hg hb; obtain ⟨P1, P0⟩ := tN n0 hg; replace n0 := tBb n0 hb; obtain ⟨N1, Q0⟩ := tN u0 hg; replace u0 := tBb u0 hb; clear hb hg; have _ := n2 P0; have _ := n2 Q0; have _ := bx7 E0; obtain ⟨L2, D2, rfl⟩ := Kd.V_slice C0.out; obtain ⟨C2, J2, rfl⟩ := Kd.V_slice A0.out) | ((with_reducible refine Qar (t := 32) (p := 6) rfl ?_); refine se_ 32 6 (((((((k4.setCell ⟨I0, 0, none⟩ (.string D1)).setCell ⟨I0, 1, none⟩ (.int .i64 Z0)).setCell ⟨I0, 2, none⟩ (.int .i64 X0)).setCell ⟨I0, 3, none⟩ (.slice L2 V0.length D2)).setCell ⟨I0, 4, none⟩ (.slice C2 Y0.length J2)).setCell ⟨I0, 5, none⟩ (.int .i64 L1)).setCell ⟨I0, 6, none⟩ (.int .i64 C1)) ?_; intro E4 hw; replace o0 := gVw (fun k_ => (M0 k_ ∨ w.heap.size ≤ k_) ∧ k_ ≠ N0 ∧ k_ ≠ L0 ∧ k_ ≠ I0) o0 hw; replace C0 := gVw (fun k_ => (M0 k_ ∨ w.heap.size ≤ k_) ∧ k_ ≠ N0 ∧ k_ ≠ L0 ∧ k_ ≠ I0) C0 hw; replace A0 := gVw (fun k_ => (M0 k_ ∨ w.heap.size ≤ k_) ∧ k_ ≠ N0 ∧ k_ ≠ L0 ∧ k_ ≠ I0) A0 hw; replace n0 := sB n0 hw; replace u0 := sB u0 hw; replace E0 := sP #[.string D1, .int .i64 Z0, .int .i64 X0, .slice L2 V0.length D2, .slice C2 Y0.length J2, .int .i64 L1, .int .i64 C1] E0 hw; replace HB := sH HB hw; clear hw))
  replace o0 := am_ (Kd.V_drew o0.out); replace C0 := am_ (Kd.V_drew C0.out); replace A0 := am_ (Kd.V_drew A0.out); replace n0 := am_ (Qag n0.out); replace u0 := am_ (Qag u0.out); replace E0 := am_ (Qag E0.out); replace HB := am_ (Qaj HB.out); refine st_ 8 [] (k3_ n0 (k7_ E0 ct)) (fun hHeld => ?_); refine Qav Fz.tab4 Fz.bits4 (fun HT_ HW_ => ?_); generalize E4.drew = P4 at o0 C0 A0 n0 u0 E0 HB hHeld ⊢; refine pu_ 3 (some 23) 8 HT_ (h := ?_); refine tk_ 0 (some 20) 9 HT_ HW_ hHeld (h := ?_); refine tk_ 1 (some 21) 11 HT_ HW_ hHeld (h := ?_); refine tk_ 4 (some 24) 27 HT_ HW_ hHeld (h := ?_); refine on_ 2 (some 22) 31 HT_ (fun K hK => ?_); refine Qdo Tryz.func14 #[.agg #[.int .i64 a0_0, .int .i64 a0_1, .slice A0_2 l0_2.length c0_2], .agg #[.string D1, .int .i64 Z0, .int .i64 X0, .slice L2 V0.length D2, .slice C2 Y0.length J2, .int .i64 L1, .int .i64 C1]] ?_
  with_reducible refine (G5.calls k a0_0 a0_1 _ _ l0_2 D1 Z0 X0 _ _ V0 _ _ Y0 L1 C1 k3 _ ?U0 ?Q1 ?V1 ?U1 ?Y1 ?X1 A5.out).mono ?_
  (case U0 => exact vC o0)
  (case Q1 => exact vL o0)
  (case V1 => exact vC C0)
  (case U1 => exact vL C0)
  (case Y1 => exact vC A0)
  (case X1 => exact vL A0)
  rintro e L4 ⟨rfl, hb⟩; refine ⟨_, rfl, ?_⟩; replace o0 := tVb o0 hb; replace C0 := tVb C0 hb; replace A0 := tVb A0 hb; replace n0 := tBb n0 hb; replace u0 := tBb u0 hb; replace E0 := tBb E0 hb; replace HB := tHb HB hb
  (try clear hb)
  (try clear I4)
  (try clear hk)
  (try clear hi)
  refine hK.out _ _ (m3_ n0 (m7_ E0 ct)) (fun hHeld => ?_); clear hK K; refine Qbb (a' := ?_) ?_ ?_; rotate_left
  ·
   show Act.put _ (some 22) _ = _; exact pt_
  refine on_ 5 (some 25) 63 HT_ (fun K hK => ?_); refine Qdo Tryz.func31 #[.int .i64 a0_0] ?_
  with_reducible refine (Gb.calls a0_0 D3 _ A6.out).mono ?_
  rintro e w' ⟨rfl, ⟨nd, rfl⟩⟩; refine ⟨_, rfl, ?_⟩; refine hK.out _ _ (m3_ n0 (m7_ E0 ct)) (fun hHeld => ?_); clear hK K; refine Qbb (a' := ?_) ?_ ?_; rotate_left
  ·
   show Act.put _ (some 25) _ = _; exact pt_
  refine pu_ 6 (some 26) 127 HT_ (h := ?_); refine pu_ 7 (some 19) 255 HT_ (h := ?_); refine Qbt (Qbc HT_.out (by kernel_rfl)) ?_; have _ := bx7 E0; have _ := bx7 u0; try go_wp2
  refine bodyPost_ret (Qak rfl _ _ L0 32 #[.string D1, .int .i64 Z0, .int .i64 X0, .slice L2 V0.length D2, .slice C2 Y0.length J2, .int .i64 L1, .int .i64 C1] (0, 0) _ rfl (gP u0 rfl) Tryz.underlying32 rfl (by kernel_rfl)) rfl ?_; exact ⟨_, _, fe, gV C0, gV A0, bh HB⟩
 rw [if_neg c4] at H; obtain ⟨N3, Q3⟩ := ef c4; replace H := oi8 H; obtain ⟨rfl, rfl, rfl, rfl, rfl, rfl, rfl, rfl⟩ := H; go_enter Tryz.func11, Tryz.ntmps11
 go_wp2_with (first | (refine bf_ 2 #[.int .i64 a0_0, .int .i64 a0_1, .slice A0_2 l0_2.length c0_2] 24 HB ?_; intro N0 hg J4 hb n0 Q2 HB; replace o0 := tVe o0 hg hb; clear hb hg) | (refine bf_ 4 #[.string (⟨#[]⟩ : ByteArray), .int .i64 0, .int .i64 0, .slice none 0 0, .slice none 0 0, .int .i64 0, .int .i64 0] 32 HB ?_; intro L0 hg Q4 hb u0 Z2 HB; replace o0 := tVe o0 hg hb; obtain ⟨O0, O1⟩ := tN n0 hg; replace n0 := tBb n0 hb; clear hb hg; have _ := n2 O0; have _ := bx3 n0) | (refine gl_ (some 11) Tryz.func9 #[.agg #[.int .i64 a0_0, .int .i64 a0_1, .slice A0_2 l0_2.length c0_2], .int .i64 a1] ?_; (with_reducible refine (Gf.calls k a0_0 a0_1 (fun k_ => (((M0 k_ ∨ w.heap.size ≤ k_) ∧ k_ ≠ N0) ∧ k_ ≠ L0)) _ _ l0_2 a1 D1 Z0 X0 V0 Y0 L1 C1 Z1 _ ?U0 A3.out).mono ?_); (case U0 => exact o0.out); rintro e S4 ⟨L3, J3, rfl, Y2, N2, hb⟩; refine ⟨_, rfl, ?_⟩; replace o0 := tVb o0 hb; have C0 := lq (fun k_ => (M0 k_ ∨ w.heap.size ≤ k_) ∧ k_ ≠ N0 ∧ k_ ≠ L0) Y2 HB; have A0 := lq (fun k_ => (M0 k_ ∨ w.heap.size ≤ k_) ∧ k_ ≠ N0 ∧ k_ ≠ L0) N2 HB; replace n0 := tBb n0 hb; replace u0 := tBb u0 hb; replace HB := tHb HB hb; (try clear hb Y2 N2)) | (refine bf_ 6 #[.string (⟨#[]⟩ : ByteArray), .int .i64 0, .int .i64 0, .slice none 0 0, .slice none 0 0, .int .i64 0, .int .i64 0] 32 HB ?_; intro I0 hg K4 hb E0 V2 HB; replace o0 := tVe o0 hg hb; replace C0 := tVe C0 hg hb; replace A0 := tVe A0 hg hb; obtain ⟨P1, P0⟩ := tN n0 hg; replace n0 := tBb n0 hb; obtain ⟨N1, Q0⟩ := tN u0 hg; replace u0 := tBb u0 hb; clear hb hg; have _ := n2 P0; have _ := n2 Q0; have _ := bx7 E0; obtain ⟨X3, m4, rfl⟩ := Kd.V_slice C0.out; obtain ⟨u4, C4, rfl⟩ := Kd.V_slice A0.out; have _ := bx7 u0))
 refine bodyPost_ret (Qak rfl _ _ L0 32 #[.string (⟨#[]⟩ : ByteArray), .int .i64 0, .int .i64 0, .slice none 0 0, .slice none 0 0, .int .i64 0, .int .i64 0] (0, 0) _ rfl (gP u0 rfl) Tryz.underlying32 rfl (by kernel_rfl)) rfl ?_; exact ⟨_, _, fe, Kd.V_nil _ _ _ _ _, Kd.V_nil _ _ _ _ _, bh HB⟩

def Gy.f (a0 : Int) : Option (Int) := if a0 < 1 then (some 0) else (some (wrap64 ((wrap64 (Int.tdiv (wrap64 (a0 - 1)) 3)) + 1)))
theorem Gy.calls (a0 r : Int) (w : World) (h : Gy.f a0 = some r) :
  Calls Tryz.prog 37 #[.int .i64 a0] w fun e w' => e = .returned (.int .i64 r) ∧ Qae w w' := by
 have H := h; unfold Gy.f at H; clear h
 by_cases c2 : a0 < 1
 ·
  rw [if_pos c2] at H; have n0 := dT c2; clear c2; obtain rfl := Option.some.inj H; go_enter Tryz.func37, Tryz.ntmps37; go_wp2; go_ret; exact ⟨fr, by repeat (first | exact Qae.refl _ | apply Qae.step)⟩
 rw [if_neg c2] at H; have n0 := dF c2; clear c2; obtain rfl := Option.some.inj H; go_enter Tryz.func37, Tryz.ntmps37; go_wp2; go_ret; exact ⟨fr, by repeat (first | exact Qae.refl _ | apply Qae.step)⟩

def G4.l0 : Nat → Int → List (S32) → Int → Int → Option (Int)
 | 0, _, _, _, _ => none
 | k + 1, x3, x7, x8, x9 => if x9 < x8 then (if 0 ≤ x9 then (if x9 < (x7.length : Int) then ((Gy.f ((Qab x7 x9).f1.f1)).bind fun n0 => (G4.l0 k (mx x3 n0) x7 x8 (wrap64 (x9 + 1)))) else (none)) else (none)) else (some x3)
def G4.f (k : Nat) (a0_0 a0_1 : Int) (l0_2 : List (S32)) : Option (Int) := G4.l0 k 0 l0_2 (l0_2.length : Int) 0
theorem G4.calls (k : Nat) (a0_0 a0_1 : Int) (A0_2 : Option Addr) (c0_2 : Nat) (l0_2 : List (S32)) (r : Int) (w : World) (hr0_2 : Kd.C k32 w A0_2 l0_2.length l0_2) (hc0_2 : l0_2.length ≤ c0_2) (h : G4.f k a0_0 a0_1 l0_2 = some r) :
  Calls Tryz.prog 16 #[.agg #[.int .i64 a0_0, .int .i64 a0_1, .slice A0_2 l0_2.length c0_2]] w fun e w' => e = .returned (.int .i64 r) ∧ Below w.heap.size w w' := by
 have S3 := Tryz.underlying24; have N3 := Tryz.underlying32; have O1 := am_ hr0_2; have m3 := am_ hc0_2; clear hr0_2 hc0_2; have HB := am_ (Below.refl w.heap.size w); have H := h; unfold G4.f at H; clear h; have H' := am_ H; clear H; go_enter Tryz.func16, Tryz.ntmps16
 go_wp2_with (first | (refine bf_ 1 #[.int .i64 a0_0, .int .i64 a0_1, .slice A0_2 l0_2.length c0_2] 24 HB ?_; intro N1 hg w2 hb o0 I3 HB; clear hb hg; obtain ⟨J2, L2, Y1, Z1, Z2, Q2⟩ := bx3 o0))
 go_loopg [3, 9] k (fun kq v3 v9 w' => ∃ (U0 : Int) (n0 : Int), v3 = .int .i64 U0 ∧ v9 = .int .i64 n0 ∧ Asc (G4.l0 kq U0 l0_2 (l0_2.length : Int) n0 = some r) ∧ Asc (kq ≤ k) ∧ Asc (w'.heap[N1]? = some (.cells #[.int .i64 a0_0, .int .i64 a0_1, (.slice A0_2 l0_2.length c0_2)] 24 (0, 0))) ∧ Asc (Below w.heap.size w w'))
 case atStart => exact ⟨(0), (0), fr, fr, H', ⟨Nat.le_refl _⟩, ⟨gB o0⟩, ⟨bh HB⟩⟩
 case round =>
  clear H'; try clear J2 L2 Y1 Z1 Z2 Q2
  obtain ⟨U0, n0, rfl, rfl, HA, u3, o0, HB⟩ := hrel
  cases gk with
  | zero => exact absurd HA.out (by simp [G4.l0])
  | succ k1 =>
   have H := HA.out; clear HA; simp only [G4.l0] at H
   by_cases c4 : n0 < (l0_2.length : Int)
   ·
    rw [if_pos c4] at H; have C2 := dT c4; clear c4; revert H; refine gi (fun Q3 H => ?_); revert H; refine gi (fun L3 H => ?_); replace H := bi H; obtain ⟨Y0, A7, H⟩ := H; try dsimp only at H
    obtain ⟨D2, X0⟩ : ∃ j_ : Int, (mx U0 Y0) = j_ := ⟨_, rfl⟩; replace H : (G4.l0 k1 D2 l0_2 (l0_2.length : Int) (wrap64 (n0 + 1))) = some r := by first | (rw [X0] at H; exact H) | (simp only [X0] at H ⊢; exact H)
    (try rw [X0] at A7)
    have s3 : (if U0 < Y0 then Y0 else U0) = D2 := X0; have H' := am_ H; clear H; have Z0 : 0 ≤ (n0 : Int) := dt; have C1 : n0 < (l0_2.length : Int) := dt; obtain ⟨D3, X1, V2, N2, Y2, k3, E0, u0, M0, N0, Q0, A0, C0, O0, I0, L0, P0⟩ := Qao O1.out n0 Z0 C1; cases k3; replace E0 := ce HB E0; replace u0 := ce HB u0; replace M0 := ce HB M0; replace N0 := ce HB N0; replace Q0 := ce HB Q0; replace A0 := ce HB A0; replace C0 := ce HB C0; have Q1 := am_ I0; have P1 := am_ O0; clear I0 O0; have U1 := am_ P0; have V1 := am_ L0; clear P0 L0; replace Z0 := eq_true Z0; replace C1 := eq_true C1
    go_wp2_with (first | (refine bf_ 5 #[.string (⟨#[]⟩ : ByteArray), .int .i64 0, .int .i64 0, .slice none 0 0, .slice none 0 0, .int .i64 0, .int .i64 0] 32 HB ?_; intro J3 hg w9 hb L1 C3 HB; obtain ⟨D1, V0⟩ := tN o0 hg; replace o0 := tBb o0 hb; clear hb hg; have _ := n2 V0; have _ := bx7 L1) | (refine gl_ (some 17) Tryz.func37 #[.int .i64 ((Qab l0_2 n0).f1.f1)] ?_; (with_reducible refine (Gy.calls ((Qab l0_2 n0).f1.f1) Y0 _ A7.out).mono ?_); rintro e w' ⟨rfl, ⟨nd, rfl⟩⟩; refine ⟨_, rfl, ?_⟩))
    go_roundg k1
    case measure => have := u3.out; omega
    case rel => exact ⟨(D2), (wrap64 (n0 + 1)), (by first | rfl | (simp; done) | (simp only [← X0] <;> (first | rfl | simp)) | (simp [*]; done)), fr, H', kS u3, ⟨gB o0⟩, ⟨bh HB⟩⟩
   rw [if_neg c4] at H; have C2 := dF c4; clear c4; obtain rfl := Option.some.inj H; go_wp2; go_ret; exact ⟨fe, bh HB⟩

def Qb3 (x : SE) : Si.DX := ⟨x.f0, x.f1.f1, x.f1.f3⟩
theorem pe_of {W : World} {ok : Nat → Prop} {r : Si.ER} {x : SE} (h : RelE W ok r x) : Si.PE W r (Qb3 x) := ⟨h.1, h.2.2.1, h.2.2.2.2.2.2.1, Si.row_str h.2.2.2.2.2.2.2.2.1⟩
theorem Qp7 {W : World} {ok : Nat → Prop} : ∀ {rs : List Si.ER} {xs : List SE}, Qe1 W ok rs xs → Si.PEs W rs (xs.map Qb3)
 | [], [], _ => trivial
 | r :: rs, x :: xs, h => ⟨pe_of h.1, Qp7 h.2⟩
 | [], x :: xs, h => h.elim
 | r :: rs, [], h => h.elim
theorem Qbf (m : List SE) (i : Nat) (h : i < m.length) : Qab m (i : Int) = m[i] := by
 unfold Qab; rw [Int.toNat_natCast, List.getD_eq_getElem?_getD, List.getElem?_eq_getElem h]; rfl
theorem Qd6 (l : List SE) (hl : l.length ≤ 1073741824) (r : Int) : ∀ (n i : Nat) (acc : List SE), i + n = l.length → acc.length ≤ i → Fr.l0 (n + 1) r acc l (l.length : Int) (i : Int) = some (acc ++ (l.drop i).filter (fun x => x.f1.f1 == r))
 | 0, i, acc, h, ha => by
  rw [Fr.l0, if_neg (by omega), List.drop_eq_nil_of_le (by omega), List.filter_nil, List.append_nil]
 | n + 1, i, acc, h, ha => by
  have hi : i < l.length := by omega
  have ew : wrap64 ((i : Int) + 1) = ((i + 1 : Nat) : Int) := Si.wrap_succ (by omega); rw [Fr.l0, if_pos (by omega), if_pos (by omega), if_pos (by omega), Qbf l i hi, ew, List.drop_eq_getElem_cons hi, List.filter_cons]
  by_cases hq : (l[i]).f1.f1 = r
  ·
   rw [if_pos hq, if_pos (by omega), if_pos (by rw [hq]; exact beq_self_eq_true r)]; have ih := Qd6 l hl r n (i + 1) (acc ++ [l[i]]) (by omega) (by simp; omega); rw [List.append_assoc] at ih; exact ih
  rw [if_neg hq, if_neg (by simpa using hq)]; exact Qd6 l hl r n (i + 1) acc (by omega) (by omega)
theorem Qlf (l : List SE) (hl : l.length ≤ 1073741824) (a b r : Int) : Fr.f (l.length + 1) a b l r = some (l.filter (fun x => x.f1.f1 == r)) := by
 have h := Qd6 l hl r l.length 0 [] (by omega) (by simp); rw [List.drop_zero, List.nil_append] at h; exact h
theorem Qbg (l : List SE) (r : Int) : Si.roundX (l.map Qb3) r = (l.filter (fun x => x.f1.f1 == r)).map Qb3 := by
 unfold Si.roundX; rw [List.filter_map]; rfl
theorem Qey (l : List SE) (dg : ByteArray) : Si.firstX (l.map Qb3) dg = (l.find? (fun x => x.f0.toList == dg.toList)).map Qb3 := by
 unfold Si.firstX; rw [List.find?_map]; rfl
def Gt.f (a0_0 a0_1 : Int) (l0_2 : List SE) (a1 a2 : ByteArray) : Option Bool := if Si.okX (l0_2.map Qb3) = true ∧ a2.size ≤ 140737488351232 then (Si.innX (l0_2.map Qb3) a1).map (fun o => match o with
 | none => false
 | some inn => (Si.look inn a2).isSome) else none
theorem Gt.calls (a0_0 a0_1 : Int) (n0 : Nat → Prop) (A0_2 : Option Addr) (c0_2 : Nat) (l0_2 : List (S32)) (a1 a2 : ByteArray) (r : Bool) (w : World) (o0 : Kd.V k32 32 w w.heap.size (fun k_ => n0 k_) (.slice A0_2 l0_2.length c0_2) l0_2) (h : Gt.f a0_0 a0_1 l0_2 a1 a2 = some r) :
  Calls Tryz.prog 39 #[.agg #[.int .i64 a0_0, .int .i64 a0_1, .slice A0_2 l0_2.length c0_2], .string a1, .string a2] w fun e w' => e = .returned (.bool r) ∧ Below w.heap.size w w' := by
 obtain ⟨_, hcl, hF⟩ := Kd.V_at o0; obtain ⟨rs, hrs, hrow⟩ := Qjn hF; unfold Gt.f at h; split at h
 ·
  rename_i C0
  obtain ⟨hok, hto⟩ := C0; obtain ⟨o, ho, hr⟩ := Option.map_eq_some_iff.1 h; obtain ⟨k1, k2, k3⟩ := (Si.okX_iff _).1 hok; rw [List.length_map] at k1
  have hmem : ∀ x ∈ l0_2, x.f0.size ≤ 140737488351232 := fun x hx => (k2 _ (List.mem_map.2 ⟨x, hx, rfl⟩)).1
  have hf := Qet (fun r : Si.ER => r.d.toList == a1.toList) (fun x : SE => x.f0.toList == a1.toList) (fun r x hr => by rw [hr.1]) rs l0_2 hrs
  have hrd : ∀ (q : Int) (w1 : World), Below w.heap.size w w1 → Calls Tryz.prog 34 #[.agg #[.int .i64 a0_0, .int .i64 a0_1, .slice A0_2 l0_2.length c0_2], .int .i64 q] w1 fun e w' => ∃ A' c' rs', e = .returned (.slice A' (rs' : List Si.ER).length c') ∧ Si.Rowentry w' A' rs' ∧ Si.PEs w' rs' (Si.roundX (l0_2.map Qb3) q) ∧ Below w1.heap.size w1 w' := by
   intro q w1 hb; refine (Fr.calls (l0_2.length + 1) a0_0 a0_1 n0 A0_2 c0_2 l0_2 q _ w1 (Kd.V_mk hcl (Kd.F_below hF hb)) (Qlf l0_2 k1 a0_0 a0_1 q)).mono ?_; rintro e w' ⟨v, rfl, hN, A0⟩; obtain ⟨A', c', rfl, hl', _⟩ := Kd.N_reads hN; obtain ⟨rs', hrs', hrow'⟩ := Qjn (Kd.N_F hN); refine ⟨A', c', rs', by rw [hrs'.len], hrow', ?_, A0⟩; rw [Qbg]; exact Qp7 hrs'
  have hsz : ∀ x ∈ rs, x.d.size ≤ maxLen := fun x hx => by
   obtain ⟨j, hj⟩ := List.mem_iff_getElem?.1 hx; have hjl : j < l0_2.length := by rw [← hrs.len]; exact (List.getElem?_eq_some_iff.1 hj).1
   have E0 := hrs.get j x _ hj (List.getElem?_eq_getElem hjl); have := hmem _ (List.getElem_mem hjl); rw [E0.1]; unfold maxLen; omega
  unfold Si.innX at ho; rw [Qey] at ho
  cases hq : l0_2.find? (fun x => x.f0.toList == a1.toList) with
  | none =>
   rw [hq] at ho hf; dsimp only [Option.map] at ho hf; obtain rfl := Option.some.inj ho; have hc := Si.Path_c A0_2 c0_2 rs a0_0 a0_1 a1 a2 [] w hrow (by rw [hrs.len]; omega) (by unfold maxLen; omega) (fun w1 hb h2 => by rw [hf] at h2; cases h2); rw [hrs.len] at hc; refine hc.mono ?_; rintro e w' ⟨rfl, hb⟩; have e0 : Si.pathR a1 [] a2 rs = false := by unfold Si.pathR; rw [hf]; rfl
   rw [e0]; subst hr; exact ⟨rfl, hb⟩
  | some x =>
   rw [hq] at ho hf; dsimp only [Option.map] at ho hf; obtain ⟨I0, u0⟩ := hf
   cases hd : Si.downO (Si.roundX (l0_2.map Qb3)) 70 x.f1.f1 with
   | none => rw [show (Qb3 x).ro = x.f1.f1 from rfl, hd] at ho; cases ho
   | some rl =>
    rw [show (Qb3 x).ro = x.f1.f1 from rfl, hd] at ho; obtain rfl := Option.some.inj ho; have hxm := List.mem_of_find?_eq_some hq
    have hc := Si.Path_c A0_2 c0_2 rs a0_0 a0_1 a1 a2 (Si.pastS x.f0 x.f1.f1 (Si.roundX (l0_2.map Qb3)) rl).1 w hrow (by rw [hrs.len]; omega) (by unfold maxLen; omega) (fun w1 hb _ => by
     have hp := Si.past_c A0_2 c0_2 rs.length a0_0 a0_1 (Si.firstE (fun x => x.d.toList == a1.toList) rs).1 (l0_2.map Qb3) w1 hok (by rw [u0.1]; exact hmem x hxm) (fun q w2 A0 => by rw [hrs.len]; exact hrd q w2 (hb.trans (A0.mono hb.size))) rl (by rw [u0.2.2.1]; exact hd); rw [u0.1, u0.2.2.1] at hp
     exact hp)
    rw [hrs.len] at hc; refine hc.mono ?_; rintro e w' ⟨rfl, hb⟩; have e0 : Si.pathR a1 (Si.pastS x.f0 x.f1.f1 (Si.roundX (l0_2.map Qb3)) rl).1 a2 rs = (Si.look (Si.pastS x.f0 x.f1.f1 (Si.roundX (l0_2.map Qb3)) rl).1 a2).isSome := by unfold Si.pathR; rw [I0, if_pos rfl]
    rw [e0]; dsimp only at hr; subst hr; exact ⟨rfl, hb⟩
 cases h
end
mutual
def F2.l0 : Nat → Int → Int → Int → Int → List (S32) → Option ((List (S32)) × Int)
 | 0, _, _, _, _, _ => none
 | k + 1, x1, x6, u0, n0, o0 => if x6 ≤ x1 then (F2.j1 k x1 x6 true u0 n0 o0) else (F2.j1 k x1 x6 (decide (x6 < 1)) u0 n0 o0)
def F2.j1 : Nat → Int → Int → Bool → Int → Int → List (S32) → Option ((List (S32)) × Int)
 | 0, _, _, _, _, _, _ => none
 | k + 1, x1, x6, C0, o0, A0, u0 => if C0 = true then (some (([] : List (S32)), x1)) else ((Fz.f k o0 A0 u0 x6).bind fun n0 => (if n0.2.2.2.2.2.2.2 = 0 then (F2.l1 k x1 x6 (([(⟨n0.1, (⟨n0.2.1, n0.2.2.1, n0.2.2.2.1, n0.2.2.2.2.1, (⟨n0.2.2.2.2.2.1, n0.2.2.2.2.2.2.1⟩ : S28)⟩ : S30)⟩ : S32)] : List (S32))) (wrap64 (x6 - 1)) o0 A0 u0 n0.1 n0.2.1 n0.2.2.1 n0.2.2.2.1 n0.2.2.2.2.1 n0.2.2.2.2.2.1 n0.2.2.2.2.2.2.1) else (F2.l0 k x1 (wrap64 (x6 - 1)) o0 A0 u0)))
def F2.l1 : Nat → Int → Int → List (S32) → Int → Int → Int → List (S32) → ByteArray → Int → Int → List (Qaz) → List ByteArray → Int → Int → Option ((List (S32)) × Int)
 | 0, _, _, _, _, _, _, _, _, _, _, _, _, _, _ => none
 | k + 1, x1, x6, x9, O0, n0, L0, E0, A0, I0, u0, M0, C0, N0, o0 => if O0 > x1 then (F2.j3 k x1 x6 x9 O0 (decide (O0 ≥ 1)) n0 L0 E0 A0 I0 u0 M0 C0 N0 o0) else (F2.j3 k x1 x6 x9 O0 false n0 L0 E0 A0 I0 u0 M0 C0 N0 o0)
def F2.j3 : Nat → Int → Int → List (S32) → Int → Bool → Int → Int → List (S32) → ByteArray → Int → Int → List (Qaz) → List ByteArray → Int → Int → Option ((List (S32)) × Int)
 | 0, _, _, _, _, _, _, _, _, _, _, _, _, _, _, _ => none
 | k + 1, x1, x6, x9, Q0, V0, o0, A0, u0, C0, M0, I0, N0, L0, O0, E0 => if V0 = true then ((Gf.f k o0 A0 u0 Q0).bind fun n0 => (if n0.2.2.2.2.2.2.2 = 0 then ((Gt.f o0 A0 u0 C0 n0.1).bind fun U0 => (if U0 = true then ((some (([(⟨n0.1, (⟨n0.2.1, n0.2.2.1, n0.2.2.2.1, n0.2.2.2.2.1, (⟨n0.2.2.2.2.2.1, n0.2.2.2.2.2.2.1⟩ : S28)⟩ : S30)⟩ : S32)] : List (S32)) : List (S32))).bind fun P0 => (if P0.length + x9.length < 1466015503701 then (F2.l1 k x1 x6 (P0 ++ x9) (wrap64 (Q0 - 1)) o0 A0 u0 n0.1 n0.2.1 n0.2.2.1 n0.2.2.2.1 n0.2.2.2.2.1 n0.2.2.2.2.2.1 n0.2.2.2.2.2.2.1) else (none))) else (F2.l1 k x1 x6 x9 (wrap64 (Q0 - 1)) o0 A0 u0 C0 M0 I0 N0 L0 O0 E0))) else (F2.l1 k x1 x6 x9 (wrap64 (Q0 - 1)) o0 A0 u0 C0 M0 I0 N0 L0 O0 E0))) else (some (x9, x6))
end
def F2.f (k : Nat) (a0_0 a0_1 : Int) (l0_2 : List (S32)) (a1 : Int) : Option ((List (S32)) × Int) := (G4.f k a0_0 a0_1 l0_2).bind fun n0 => (F2.l0 k a1 n0 a0_0 a0_1 l0_2)
def F2.T14 : Bool × List (List Nat × List Nat) := (true, [([], []), ([0], [0]), ([], []), ([], []), ([3], [3]), ([], []), ([5], [5]), ([2, 4, 6], [2, 4, 6]), ([1, 7], [1, 7]), ([8, 8, 0, 1, 2, 3, 4, 5, 6, 7, 8], [2, 3, 5, 8])])
def F2.B14 : List Nat := [0, 1, 0, 0, 8, 0, 32, 124, 255, 511]
theorem F2.tab14 : Qcp .any (opsOf Tryz.f19 14) = F2.T14 := by kernel_rfl
theorem F2.bits14 : Qbi F2.T14.2 F2.B14 = true := by kernel_rfl
def F2.J (k : Nat) (a0_0 a0_1 : Int) (u0 : Nat → Prop) (A0_2 : Option Addr) (c0_2 : Nat) (l0_2 : List (S32)) (a1 : Int) (r1 : List (S32)) (r2 : Int) (w : World) (kq : Nat) (a' : Act) (w' : World) : Prop := ∃ (n0 : Nat) (o0 : Int) (f : Nat → Value), a' = { tmps := List.toArray (.agg #[.int .i64 a0_0, .int .i64 a0_1, .slice A0_2 l0_2.length c0_2] :: .int .i64 a1 :: .pointer (some ⟨n0, 0, none⟩) :: f 3 :: f 4 :: f 5 :: .int .i64 o0 :: f 7 :: f 8 :: f 9 :: f 10 :: f 11 :: f 12 :: f 13 :: f 14 :: f 15 :: f 16 :: f 17 :: f 18 :: f 19 :: f 20 :: f 21 :: f 22 :: f 23 :: f 24 :: f 25 :: f 26 :: f 27 :: f 28 :: f 29 :: f 30 :: f 31 :: f 32 :: f 33 :: f 34 :: f 35 :: f 36 :: f 37 :: f 38 :: f 39 :: f 40 :: f 41 :: f 42 :: f 43 :: f 44 :: f 45 :: f 46 :: f 47 :: f 48 :: f 49 :: f 50 :: f 51 :: f 52 :: f 53 :: f 54 :: f 55 :: f 56 :: f 57 :: f 58 :: f 59 :: f 60 :: f 61 :: f 62 :: f 63 :: f 64 :: f 65 :: f 66 :: f 67 :: f 68 :: f 69 :: f 70 :: f 71 :: f 72 :: f 73 :: f 74 :: []), defers := [] } ∧ Asc (w.heap.size ≤ n0) ∧ Asc (F2.l0 kq a1 o0 a0_0 a0_1 l0_2 = some (r1, r2)) ∧ Asc (kq ≤ k) ∧ Asc (Kd.V k32 32 w' w.heap.size (fun k_ => (u0 k_ ∨ w.heap.size ≤ k_) ∧ k_ ≠ n0) (.slice A0_2 l0_2.length c0_2) l0_2) ∧ Asc (w'.heap[n0]? = some (.cells #[.int .i64 a0_0, .int .i64 a0_1, (.slice A0_2 l0_2.length c0_2)] 24 (0, 0))) ∧ Asc (Below w.heap.size w w')
theorem F2.J_mk {k : Nat} {a0_0 : Int} {a0_1 : Int} {o0 : Nat → Prop} {A0_2 : Option Addr} {c0_2 : Nat} {l0_2 : List (S32)} {a1 : Int} {r1 : List (S32)} {r2 : Int} {w : World} {kq : Nat} {a' : Act} {w' : World} (n0 : Nat) (u0 : Int) (h : a' = { tmps := List.toArray (.agg #[.int .i64 a0_0, .int .i64 a0_1, .slice A0_2 l0_2.length c0_2] :: .int .i64 a1 :: .pointer (some ⟨n0, 0, none⟩) :: a'.tmps.getD 3 undef :: a'.tmps.getD 4 undef :: a'.tmps.getD 5 undef :: .int .i64 u0 :: a'.tmps.getD 7 undef :: a'.tmps.getD 8 undef :: a'.tmps.getD 9 undef :: a'.tmps.getD 10 undef :: a'.tmps.getD 11 undef :: a'.tmps.getD 12 undef :: a'.tmps.getD 13 undef :: a'.tmps.getD 14 undef :: a'.tmps.getD 15 undef :: a'.tmps.getD 16 undef :: a'.tmps.getD 17 undef :: a'.tmps.getD 18 undef :: a'.tmps.getD 19 undef :: a'.tmps.getD 20 undef :: a'.tmps.getD 21 undef :: a'.tmps.getD 22 undef :: a'.tmps.getD 23 undef :: a'.tmps.getD 24 undef :: a'.tmps.getD 25 undef :: a'.tmps.getD 26 undef :: a'.tmps.getD 27 undef :: a'.tmps.getD 28 undef :: a'.tmps.getD 29 undef :: a'.tmps.getD 30 undef :: a'.tmps.getD 31 undef :: a'.tmps.getD 32 undef :: a'.tmps.getD 33 undef :: a'.tmps.getD 34 undef :: a'.tmps.getD 35 undef :: a'.tmps.getD 36 undef :: a'.tmps.getD 37 undef :: a'.tmps.getD 38 undef :: a'.tmps.getD 39 undef :: a'.tmps.getD 40 undef :: a'.tmps.getD 41 undef :: a'.tmps.getD 42 undef :: a'.tmps.getD 43 undef :: a'.tmps.getD 44 undef :: a'.tmps.getD 45 undef :: a'.tmps.getD 46 undef :: a'.tmps.getD 47 undef :: a'.tmps.getD 48 undef :: a'.tmps.getD 49 undef :: a'.tmps.getD 50 undef :: a'.tmps.getD 51 undef :: a'.tmps.getD 52 undef :: a'.tmps.getD 53 undef :: a'.tmps.getD 54 undef :: a'.tmps.getD 55 undef :: a'.tmps.getD 56 undef :: a'.tmps.getD 57 undef :: a'.tmps.getD 58 undef :: a'.tmps.getD 59 undef :: a'.tmps.getD 60 undef :: a'.tmps.getD 61 undef :: a'.tmps.getD 62 undef :: a'.tmps.getD 63 undef :: a'.tmps.getD 64 undef :: a'.tmps.getD 65 undef :: a'.tmps.getD 66 undef :: a'.tmps.getD 67 undef :: a'.tmps.getD 68 undef :: a'.tmps.getD 69 undef :: a'.tmps.getD 70 undef :: a'.tmps.getD 71 undef :: a'.tmps.getD 72 undef :: a'.tmps.getD 73 undef :: a'.tmps.getD 74 undef :: []), defers := [] }) (h1 : Asc (w.heap.size ≤ n0)) (h2 : Asc (F2.l0 kq a1 u0 a0_0 a0_1 l0_2 = some (r1, r2)) ∧ Asc (kq ≤ k) ∧ Asc (Kd.V k32 32 w' w.heap.size (fun k_ => (o0 k_ ∨ w.heap.size ≤ k_) ∧ k_ ≠ n0) (.slice A0_2 l0_2.length c0_2) l0_2) ∧ Asc (w'.heap[n0]? = some (.cells #[.int .i64 a0_0, .int .i64 a0_1, (.slice A0_2 l0_2.length c0_2)] 24 (0, 0))) ∧ Asc (Below w.heap.size w w')) : F2.J k a0_0 a0_1 o0 A0_2 c0_2 l0_2 a1 r1 r2 w kq a' w' := ⟨n0, u0, fun i => a'.tmps.getD i undef, h, h1, h2⟩
theorem F2.calls (k : Nat) (a0_0 a0_1 : Int) (A0 : Nat → Prop) (A0_2 : Option Addr) (c0_2 : Nat) (l0_2 : List (S32)) (a1 : Int) (r1 : List (S32)) (r2 : Int) (w : World) (k6 : Kd.V k32 32 w w.heap.size (fun k_ => A0 k_) (.slice A0_2 l0_2.length c0_2) l0_2) (h : F2.f k a0_0 a0_1 l0_2 a1 = some (r1, r2)) :
  Calls Tryz.prog 19 #[.agg #[.int .i64 a0_0, .int .i64 a0_1, .slice A0_2 l0_2.length c0_2], .int .i64 a1] w fun e w' => ∃ t7 : Value, e = .returned (.tuple #[t7, .int .i64 r2]) ∧ Kd.N k32 32 w' w.heap.size (fun k_ => (A0 k_ ∨ w.heap.size ≤ k_)) t7 r1 ∧ Below w.heap.size w w' := by
 have V7 := Tryz.underlying24; have P7 := Tryz.underlying32; have L1 := am_ (show Kd.V k32 32 w w.heap.size (fun k_ => (A0 k_ ∨ w.heap.size ≤ k_)) (.slice A0_2 l0_2.length c0_2) l0_2 from Kd.V_mono k6 (fun k_ hk => .inl hk)); have HB := am_ (Below.refl w.heap.size w); have H := h; unfold F2.f at H; clear h; replace H := bi H; obtain ⟨l5, A3, H⟩ := H; try dsimp only at H
 have H' := am_ H; clear H; go_enter Tryz.func19, Tryz.ntmps19
 go_wp2_with (first | (refine bf_ 2 #[.int .i64 a0_0, .int .i64 a0_1, .slice A0_2 l0_2.length c0_2] 24 HB ?_; intro u0 hg w4 hb n0 k4 HB; replace L1 := tVe L1 hg hb; clear hb hg; obtain ⟨W5, N5, j6, J5, L6, W6⟩ := bx3 n0) | (refine gl_ (some 14) Tryz.func16 #[.agg #[.int .i64 a0_0, .int .i64 a0_1, .slice A0_2 l0_2.length c0_2]] ?_; (with_reducible refine (G4.calls k a0_0 a0_1 _ _ l0_2 l5 _ ?Z0 ?P4 A3.out).mono ?_); (case Z0 => exact vC L1); (case P4 => exact vL L1); rintro e w6 ⟨rfl, hb⟩; refine ⟨_, rfl, ?_⟩; replace L1 := tVb L1 hb; replace n0 := tBb n0 hb; replace HB := tHb HB hb; (try clear hb)))
 refine Qfl 0 (F2.J k a0_0 a0_1 A0 A0_2 c0_2 l0_2 a1 r1 r2 w) rfl ?pass ?first
 case first =>
  intro hrest_
  go_wp2_with (first | (refine bf_ 2 #[.int .i64 a0_0, .int .i64 a0_1, .slice A0_2 l0_2.length c0_2] 24 HB ?_; intro u0 hg w4 hb n0 k4 HB; replace L1 := tVe L1 hg hb; clear hb hg; obtain ⟨W5, N5, j6, J5, L6, W6⟩ := bx3 n0) | (refine gl_ (some 14) Tryz.func16 #[.agg #[.int .i64 a0_0, .int .i64 a0_1, .slice A0_2 l0_2.length c0_2]] ?_; (with_reducible refine (G4.calls k a0_0 a0_1 _ _ l0_2 l5 _ ?Z0 ?P4 A3.out).mono ?_); (case Z0 => exact vC L1); (case P4 => exact vL L1); rintro e w6 ⟨rfl, hb⟩; refine ⟨_, rfl, ?_⟩; replace L1 := tVb L1 hb; replace n0 := tBb n0 hb; replace HB := tHb HB hb; (try clear hb)))
  try go_step3
  try simp only [Exit.then]
  refine (by assumption : ∀ (a : Act) (w : World), Code.wp Tryz.prog _ _ a w → _) _ _ (hrest_ _ _ k (F2.J_mk u0 (l5) rfl k4 ⟨H', ⟨Nat.le_refl _⟩, ⟨hV L1⟩, ⟨gB n0⟩, ⟨bh HB⟩⟩))
 case pass =>
  clear H' n0 k4 W5 N5 j6 J5 L6 W6 L1 HB; rintro gk a_ wr ⟨u0, N2, f, rfl, k4, HA, K4, HO_206002, n0, HB⟩
  cases gk with
  | zero => exact absurd HA.out (by simp [F2.l0])
  | succ k1 =>
   have H := HA.out; clear HA; simp only [F2.l0] at H; have m7 := am_ H; clear H
   go_upto_region 2 with (fail)
   go_cut [21] (fun d8 wc => ∃ (kq : Nat) (N4 : Bool), d8 = .bool N4 ∧ Asc (F2.j1 kq a1 N2 N4 a0_0 a0_1 l0_2 = some (r1, r2)) ∧ Asc (kq ≤ k1) ∧ Asc (Kd.V k32 32 wc w.heap.size (fun k_ => (A0 k_ ∨ w.heap.size ≤ k_) ∧ k_ ≠ u0) (.slice A0_2 l0_2.length c0_2) l0_2) ∧ Asc (wc.heap[u0]? = some (.cells #[.int .i64 a0_0, .int .i64 a0_1, (.slice A0_2 l0_2.length c0_2)] 24 (0, 0))) ∧ Asc (Below w.heap.size w wc))
   case first =>
    have H := m7.out; clear m7
    by_cases c8 : N2 ≤ a1
    ·
     rw [if_pos c8] at H; have R4 := dT c8; clear c8
     (first | rw [R4] | (simp only [Qay, Qa3]; rw [R4]) | skip)
     have H' := am_ H; clear H; go_wp2
     go_meet
     case rel => exact ⟨_, (true), fr, H', ⟨by have := K4.out; first | omega | exact Nat.le_refl _⟩, ⟨hV HO_206002⟩, ⟨gB n0⟩, ⟨bh HB⟩⟩
    rw [if_neg c8] at H; have R4 := dF c8; clear c8
    (first | rw [R4] | (simp only [Qay, Qa3]; rw [R4]) | skip)
    have H' := am_ H; clear H; go_wp2
    go_meet
    case rel => exact ⟨_, (decide (N2 < 1)), fr, H', ⟨by have := K4.out; first | omega | exact Nat.le_refl _⟩, ⟨hV HO_206002⟩, ⟨gB n0⟩, ⟨bh HB⟩⟩
   case rest =>
    clear m7; obtain ⟨kq, N4, rfl, HA, S4, HO_206002, n0, HB⟩ := hcut
    cases kq with
    | zero => exact absurd HA.out (by simp [F2.j1])
    | succ A5 =>
     have H := HA.out; clear HA; simp only [F2.j1] at H; replace H := ib H; obtain ⟨rfl, H⟩ | ⟨rfl, H⟩ := H
     ·
      replace H := oi2 H; obtain ⟨rfl, rfl⟩ := H; go_wp2; simp only [Exit.jump]; go_ret2; exact ⟨_, fe, kn, bh HB⟩
     replace H := bi H; obtain ⟨⟨m3, s3, C3, V2, Y2, Z2, I3, p5⟩, C7, H⟩ := H; try dsimp only at H
     by_cases R6 : p5 = 0
     ·
      rw [if_pos R6] at H; obtain ⟨Z4, X4⟩ := et R6; clear R6; obtain ⟨V5, S3⟩ : ∃ y_ : List (S32), y_ = (([(⟨m3, (⟨s3, C3, V2, Y2, (⟨Z2, I3⟩ : S28)⟩ : S30)⟩ : S32)] : List (S32))) := ⟨_, rfl⟩; replace H : (F2.l1 A5 a1 N2 V5 (wrap64 (N2 - 1)) a0_0 a0_1 l0_2 m3 s3 C3 V2 Y2 Z2 I3) = some (r1, r2) := by first | (rw [S3]; with_reducible exact H) | (have H := (Option.bind_some _ _).symm.trans H; first | (rw [S3]; with_reducible exact H) | with_reducible exact H) | with_reducible exact H | (rw [S3]; exact H) | exact H
      have W4 := am_ S3; clear S3; have H' := am_ H; clear H; obtain ⟨i6, o6, I5, K6, R5, X6⟩ := bx3 n0
      go_wp2_with (first | (refine gl_ (some 26) Tryz.func11 #[.agg #[.int .i64 a0_0, .int .i64 a0_1, .slice A0_2 l0_2.length c0_2], .int .i64 N2] ?_; (with_reducible refine (Fz.calls A5 a0_0 a0_1 (fun k_ => ((A0 k_ ∨ w.heap.size ≤ k_) ∧ k_ ≠ u0)) _ _ l0_2 N2 m3 s3 C3 V2 Y2 Z2 I3 p5 _ ?Z0 C7.out).mono ?_); (case Z0 => exact HO_206002.out); rintro e A8 ⟨o7, l7, rfl, I4, E4, hb⟩; refine ⟨_, rfl, ?_⟩; replace HO_206002 := tVb HO_206002 hb; have N1 := lq (fun k_ => (A0 k_ ∨ w.heap.size ≤ k_) ∧ k_ ≠ u0) I4 HB; have D1 := lq (fun k_ => (A0 k_ ∨ w.heap.size ≤ k_) ∧ k_ ≠ u0) E4 HB; replace n0 := tBb n0 hb; replace HB := tHb HB hb; (try clear hb I4 E4)) | (refine bf_ 7 #[.string (⟨#[]⟩ : ByteArray), .int .i64 0, .int .i64 0, .slice none 0 0, .slice none 0 0, .int .i64 0, .int .i64 0] 32 HB ?_; intro o0 hg R7 hb C0 p6 HB; replace HO_206002 := tVe HO_206002 hg hb; replace N1 := tVe N1 hg hb; replace D1 := tVe D1 hg hb; obtain ⟨L2, Q2⟩ := tN n0 hg; replace n0 := tBb n0 hb; clear hb hg; have _ := n2 Q2; obtain ⟨A6, P6, M6, k7, X5, I6, j7, q6, O5, Z6, E5, l6, Z5, Q5⟩ := bx7 C0; obtain ⟨O4, L4, rfl⟩ := Kd.V_slice N1.out; obtain ⟨Q4, M4, rfl⟩ := Kd.V_slice D1.out) | ((with_reducible refine Qar (t := 32) (p := 7) rfl ?_); refine se_ 32 7 (((((((R7.setCell ⟨o0, 0, none⟩ (.string m3)).setCell ⟨o0, 1, none⟩ (.int .i64 s3)).setCell ⟨o0, 2, none⟩ (.int .i64 C3)).setCell ⟨o0, 3, none⟩ (.slice O4 V2.length L4)).setCell ⟨o0, 4, none⟩ (.slice Q4 Y2.length M4)).setCell ⟨o0, 5, none⟩ (.int .i64 Z2)).setCell ⟨o0, 6, none⟩ (.int .i64 I3)) ?_; intro D7 hw; replace HO_206002 := gVw (fun k_ => (A0 k_ ∨ w.heap.size ≤ k_) ∧ k_ ≠ u0 ∧ k_ ≠ o0) HO_206002 hw; replace N1 := gVw (fun k_ => (A0 k_ ∨ w.heap.size ≤ k_) ∧ k_ ≠ u0 ∧ k_ ≠ o0) N1 hw; replace D1 := gVw (fun k_ => (A0 k_ ∨ w.heap.size ≤ k_) ∧ k_ ≠ u0 ∧ k_ ≠ o0) D1 hw; replace n0 := sB n0 hw; replace C0 := sP #[.string m3, .int .i64 s3, .int .i64 C3, .slice O4 V2.length L4, .slice Q4 Y2.length M4, .int .i64 Z2, .int .i64 I3] C0 hw; replace HB := sH HB hw; clear hw; obtain ⟨D6, P5, m6, i7, K5, L5, O6, J6, C5, C6, Y6, Q6, U6, c6⟩ := bx7 C0) | ((with_reducible refine gd_ 34 ?_); refine Kd.N_lit k32 _ 32 ?hg (N' := 34) ?hd (xs := ([(⟨m3, (⟨s3, C3, V2, Y2, (⟨Z2, I3⟩ : S28)⟩ : S30)⟩ : S32)] : List (S32))) (inner := [.string m3, .int .i64 s3, .int .i64 C3, .slice O4 V2.length L4, .slice Q4 Y2.length M4, .int .i64 Z2, .int .i64 I3]) (ok := (fun k_ => (A0 k_ ∨ w.heap.size ≤ k_) ∧ k_ ≠ u0 ∧ k_ ≠ o0)) (okp := (fun k_ => (A0 k_ ∨ w.heap.size ≤ k_) ∧ k_ ≠ u0 ∧ k_ ≠ o0)) ?hr ?hp (fun _ hk => hk) ((show ∀ k_, D7.heap.size ≤ k_ → (fun k_ => (A0 k_ ∨ w.heap.size ≤ k_) ∧ k_ ≠ u0 ∧ k_ ≠ o0) k_ from fun k_ hk => ⟨(.inr (Nat.le_trans (Qac (bh HB)) hk)), gFr n0 k_ hk, gFr C0 k_ hk⟩) _ (Nat.le_refl _)) (Below.refl _ _) (Nat.le_refl _) (by simp) ?_; (case hd => rfl); (case hg => rfl); (case hr => first | (go_simp; done) | (go_simp; rfl)); (case hp => exact (Qbv.c7 (show Kd.FK k32 _ _ (⟨m3, (⟨s3, C3, V2, Y2, (⟨Z2, I3⟩ : S28)⟩ : S30)⟩ : S32) [.string m3, .int .i64 s3, .int .i64 C3, .slice O4 V2.length L4, .slice Q4 Y2.length M4, .int .i64 Z2, .int .i64 I3] from (Qc9 _ _ (⟨m3, (⟨s3, C3, V2, Y2, (⟨Z2, I3⟩ : S28)⟩ : S30)⟩ : S32) (Kd.V_reads' (Kd.V_mono (ok' := (fun k_ => (A0 k_ ∨ w.heap.size ≤ k_) ∧ k_ ≠ u0 ∧ k_ ≠ o0)) (N1.out) (fun k_ hk => ⟨hk.1, ⟨hk.2.1, hk.2.2⟩⟩))).2.1 (Kd.V_F (Kd.V_mono (ok' := (fun k_ => (A0 k_ ∨ w.heap.size ≤ k_) ∧ k_ ≠ u0 ∧ k_ ≠ o0)) (N1.out) (fun k_ hk => ⟨hk.1, ⟨hk.2.1, hk.2.2⟩⟩))) (Kd.V_reads' (Kd.V_mono (ok' := (fun k_ => (A0 k_ ∨ w.heap.size ≤ k_) ∧ k_ ≠ u0 ∧ k_ ≠ o0)) (D1.out) (fun k_ hk => ⟨hk.1, ⟨hk.2.1, hk.2.2⟩⟩))).2.1 (Kd.V_F (Kd.V_mono (ok' := (fun k_ => (A0 k_ ∨ w.heap.size ≤ k_) ∧ k_ ≠ u0 ∧ k_ ≠ o0)) (D1.out) (fun k_ hk => ⟨hk.1, ⟨hk.2.1, hk.2.2⟩⟩))))) (Qbv.none _ _))); intro g8 q8 X3 hb hg_ hnew_; clear hg_ hnew_; (first | rw [← W4.out] at X3 | (simp only [Int.reduceToNat] at X3; rw [← W4.out] at X3)); replace HO_206002 := am_ (Kd.V_elder' (hV HO_206002) (Kd.N_base X3) hb); replace N1 := am_ (Kd.V_elder' (hV N1) (Kd.N_base X3) hb); replace D1 := am_ (Kd.V_elder' (hV D1) (Kd.N_base X3) hb); have M5 := am_ (Kd.N_lower X3 (Qac (bh HB))); replace n0 := tBb n0 hb; replace C0 := tBb C0 hb; replace HB := tHb HB hb; clear hb X3))
      go_loopg [9, 10] A5 (fun kq v9 j8 w' => ∃ (C1 : List (S32)) (O0 : Int) (N0 : ByteArray) (P0 : Int) (Q0 : Int) (X0 : List (Qaz)) (V0 : List ByteArray) (Y0 : Int) (U0 : Int) (Y1 : Value) (U1 : Value), j8 = .int .i64 O0 ∧ Asc (F2.l1 kq a1 N2 C1 O0 a0_0 a0_1 l0_2 N0 P0 Q0 X0 V0 Y0 U0 = some (r1, r2)) ∧ Asc (kq ≤ A5) ∧ Asc (Kd.N k32 32 w' w.heap.size (fun k_ => (A0 k_ ∨ w.heap.size ≤ k_) ∧ k_ ≠ u0 ∧ k_ ≠ o0) v9 C1) ∧ Asc (Kd.V k32 32 w' w.heap.size (fun k_ => (A0 k_ ∨ w.heap.size ≤ k_) ∧ some k_ ≠ (v9 : Value).ownBlock ∧ k_ ≠ u0 ∧ k_ ≠ o0) (.slice A0_2 l0_2.length c0_2) l0_2) ∧ Asc (Kd.V Qbm 107 w' w.heap.size (fun k_ => (A0 k_ ∨ w.heap.size ≤ k_) ∧ some k_ ≠ (v9 : Value).ownBlock ∧ k_ ≠ u0 ∧ k_ ≠ o0) Y1 X0) ∧ Asc (Kd.V Kd.string 9 w' w.heap.size (fun k_ => (A0 k_ ∨ w.heap.size ≤ k_) ∧ some k_ ≠ (v9 : Value).ownBlock ∧ k_ ≠ u0 ∧ k_ ≠ o0) U1 V0) ∧ Asc (w'.heap[u0]? = some (.cells #[.int .i64 a0_0, .int .i64 a0_1, (.slice A0_2 l0_2.length c0_2)] 24 (0, 0))) ∧ Asc (w'.heap[o0]? = some (.cells #[.string N0, .int .i64 P0, .int .i64 Q0, Y1, U1, .int .i64 Y0, .int .i64 U0] 32 (0, 0))) ∧ Asc (Below w.heap.size w w'))
      case atStart => exact ⟨(V5), (wrap64 (N2 - 1)), (m3), (s3), (C3), (V2), (Y2), (Z2), (I3), (.slice O4 V2.length L4), (.slice Q4 Y2.length M4), fr, H', ⟨Nat.le_refl _⟩, ⟨hN M5⟩, ⟨gV HO_206002⟩, ⟨gV N1⟩, ⟨gV D1⟩, ⟨gB n0⟩, ⟨gB C0⟩, ⟨bh HB⟩⟩
      case round =>
       clear H'; try clear c9 Z4 X4 i6 o6 I5 A6 P6 M6 k7 X5 I6 j7 D6 P5 m6 i7 K5 L5 O6 K6 R5 X6 q6 O5 Z6 E5 l6 Z5 Q5 J6 C5 C6 Y6 Q6 U6 c6
       obtain ⟨C1, O0, N0, P0, Q0, X0, V0, Y0, U0, Y1, U1, rfl, HA, c5, HO_9, HO_206002, HO_220003, HO_220004, n0, C0, HB⟩ := hrel
       cases gk with
       | zero => exact absurd HA.out (by simp [F2.l1])
       | succ k3 =>
        have H := HA.out; clear HA; simp only [F2.l1] at H; have k5 := am_ H; clear H
        go_upto_region 9 with (fail)
        go_cut [43] (fun v43 wc => ∃ (kq : Nat) (D4 : Bool), v43 = .bool D4 ∧ Asc (F2.j3 kq a1 N2 C1 O0 D4 a0_0 a0_1 l0_2 N0 P0 Q0 X0 V0 Y0 U0 = some (r1, r2)) ∧ Asc (kq ≤ k3) ∧ Asc (Kd.N k32 32 wc w.heap.size (fun k_ => (A0 k_ ∨ w.heap.size ≤ k_) ∧ k_ ≠ u0 ∧ k_ ≠ o0) u9 C1) ∧ Asc (Kd.V k32 32 wc w.heap.size (fun k_ => (A0 k_ ∨ w.heap.size ≤ k_) ∧ some k_ ≠ (u9 : Value).ownBlock ∧ k_ ≠ u0 ∧ k_ ≠ o0) (.slice A0_2 l0_2.length c0_2) l0_2) ∧ Asc (Kd.V Qbm 107 wc w.heap.size (fun k_ => (A0 k_ ∨ w.heap.size ≤ k_) ∧ some k_ ≠ (u9 : Value).ownBlock ∧ k_ ≠ u0 ∧ k_ ≠ o0) Y1 X0) ∧ Asc (Kd.V Kd.string 9 wc w.heap.size (fun k_ => (A0 k_ ∨ w.heap.size ≤ k_) ∧ some k_ ≠ (u9 : Value).ownBlock ∧ k_ ≠ u0 ∧ k_ ≠ o0) U1 V0) ∧ Asc (wc.heap[u0]? = some (.cells #[.int .i64 a0_0, .int .i64 a0_1, (.slice A0_2 l0_2.length c0_2)] 24 (0, 0))) ∧ Asc (wc.heap[o0]? = some (.cells #[.string N0, .int .i64 P0, .int .i64 Q0, Y1, U1, .int .i64 Y0, .int .i64 U0] 32 (0, 0))) ∧ Asc (Below w.heap.size w wc))
        case first =>
         have H := k5.out; clear k5
         by_cases s5 : O0 > a1
         ·
          rw [if_pos s5] at H; have V3 : decide (a1 < O0) = true := dT s5; clear s5
          (first | rw [V3] | (simp only [Qay, Qa3]; rw [V3]) | skip)
          have H' := am_ H; clear H; go_wp2
          go_meet
          case rel => exact ⟨_, (decide (O0 ≥ 1)), fr, H', ⟨by have := K4.out; have := S4.out; have := c5.out; first | omega | exact Nat.le_refl _⟩, ⟨hN HO_9⟩, ⟨hV HO_206002⟩, ⟨hV HO_220003⟩, ⟨hV HO_220004⟩, ⟨gB n0⟩, ⟨gB C0⟩, ⟨bh HB⟩⟩
         rw [if_neg s5] at H; have V3 : decide (a1 < O0) = false := dF s5; clear s5
         (first | rw [V3] | (simp only [Qay, Qa3]; rw [V3]) | skip)
         have H' := am_ H; clear H; go_wp2
         go_meet
         case rel => exact ⟨_, (false), fr, H', ⟨by have := K4.out; have := S4.out; have := c5.out; first | omega | exact Nat.le_refl _⟩, ⟨hN HO_9⟩, ⟨hV HO_206002⟩, ⟨hV HO_220003⟩, ⟨hV HO_220004⟩, ⟨gB n0⟩, ⟨gB C0⟩, ⟨bh HB⟩⟩
        case rest =>
         clear k5; obtain ⟨kq, D4, rfl, HA, J4, HO_9, HO_206002, HO_220003, HO_220004, n0, C0, HB⟩ := hcut
         cases kq with
         | zero => exact absurd HA.out (by simp [F2.j3])
         | succ U3 =>
          have H := HA.out; clear HA; simp only [F2.j3] at H; replace H := ib H; obtain ⟨rfl, H⟩ | ⟨rfl, H⟩ := H
          ·
           replace H := bi H; obtain ⟨⟨O1, Z1, D2, V1, X1, J2, C2, V4⟩, p7, H⟩ := H; try dsimp only at H
           by_cases z6 : V4 = 0
           ·
            rw [if_pos z6] at H; obtain ⟨Y5, U5⟩ := et z6; clear z6; replace H := bi H; obtain ⟨k8, A7, H⟩ := H; try dsimp only at H
            replace H := ib H; obtain ⟨rfl, H⟩ | ⟨rfl, H⟩ := H
            ·
             obtain ⟨U4, Z3⟩ : ∃ y_ : List (S32), y_ = (([(⟨O1, (⟨Z1, D2, V1, X1, (⟨J2, C2⟩ : S28)⟩ : S30)⟩ : S32)] : List (S32))) := ⟨_, rfl⟩; replace H : (if U4.length + C1.length < 1466015503701 then (F2.l1 U3 a1 N2 (U4 ++ C1) (wrap64 (O0 - 1)) a0_0 a0_1 l0_2 O1 Z1 D2 V1 X1 J2 C2) else (none)) = some (r1, r2) := by first | (rw [Z3]; with_reducible exact H) | (have H := (Option.bind_some _ _).symm.trans H; first | (rw [Z3]; with_reducible exact H) | with_reducible exact H) | with_reducible exact H | (rw [Z3]; exact H) | exact H
             have i5 := am_ Z3; clear Z3; revert H; refine gi' (fun w7 H => ?_); have g7 := am_ w7; clear w7; obtain ⟨d7, Q3⟩ : ∃ y_ : List (S32), y_ = (U4 ++ C1) := ⟨_, rfl⟩; replace H : (F2.l1 U3 a1 N2 d7 (wrap64 (O0 - 1)) a0_0 a0_1 l0_2 O1 Z1 D2 V1 X1 J2 C2) = some (r1, r2) := by first | (rw [Q3]; with_reducible exact H) | (have H := (Option.bind_some _ _).symm.trans H; first | (rw [Q3]; with_reducible exact H) | with_reducible exact H) | with_reducible exact H | (rw [Q3]; exact H) | exact H
             have E6 := am_ Q3; clear Q3; have H' := am_ H; clear H; have _ := n2 L2; have _ := bx3 n0; try go_wp2_with (first | (refine gl_ (some 49) Tryz.func9 #[.agg #[.int .i64 a0_0, .int .i64 a0_1, .slice A0_2 l0_2.length c0_2], .int .i64 O0] ?_; (with_reducible refine (Gf.calls U3 a0_0 a0_1 (fun k_ => ((A0 k_ ∨ w.heap.size ≤ k_) ∧ (some k_ ≠ (u9 : Value).ownBlock ∧ (k_ ≠ u0 ∧ k_ ≠ o0)))) _ _ l0_2 O0 O1 Z1 D2 V1 X1 J2 C2 V4 _ ?Z0 p7.out).mono ?_); (case Z0 => exact HO_206002.out); rintro e w8 ⟨f7, r6, rfl, I4, E4, hb⟩; refine ⟨_, rfl, ?_⟩; replace HO_206002 := tVb HO_206002 hb; replace HO_220003 := tVb HO_220003 hb; replace HO_220004 := tVb HO_220004 hb; have I0 := am_ (Kd.V_lower (Kd.V_mono (ok' := fun k_ => (A0 k_ ∨ w.heap.size ≤ k_) ∧ some k_ ≠ (u9 : Value).ownBlock ∧ k_ ≠ u0 ∧ k_ ≠ o0) I4 (fun k_ hk_ => ⟨Or.elim hk_ (fun hs_ => hs_.1) (fun hn_ => (.inr (Nat.le_trans (Qac (bh HB)) hn_))), Or.elim hk_ (fun hs_ => hs_.2.1) (fun hn_ => (Kd.fresh' (Kd.N_lt (hN HO_9)) k_ hn_)), Or.elim hk_ (fun hs_ => hs_.2.2.1) (fun hn_ => (gFr n0 k_ hn_)), Or.elim hk_ (fun hs_ => hs_.2.2.2) (fun hn_ => (gFr C0 k_ hn_))⟩)) (Qac (bh HB))); have L0 := am_ (Kd.V_lower (Kd.V_mono (ok' := fun k_ => (A0 k_ ∨ w.heap.size ≤ k_) ∧ some k_ ≠ (u9 : Value).ownBlock ∧ k_ ≠ u0 ∧ k_ ≠ o0) E4 (fun k_ hk_ => ⟨Or.elim hk_ (fun hs_ => hs_.1) (fun hn_ => (.inr (Nat.le_trans (Qac (bh HB)) hn_))), Or.elim hk_ (fun hs_ => hs_.2.1) (fun hn_ => (Kd.fresh' (Kd.N_lt (hN HO_9)) k_ hn_)), Or.elim hk_ (fun hs_ => hs_.2.2.1) (fun hn_ => (gFr n0 k_ hn_)), Or.elim hk_ (fun hs_ => hs_.2.2.2) (fun hn_ => (gFr C0 k_ hn_))⟩)) (Qac (bh HB))); replace HO_9 := tNb HO_9 hb; replace n0 := tBb n0 hb; replace C0 := tBb C0 hb; replace HB := tHb HB hb; (try clear hb I4 E4)) | (refine bf_ 11 #[.string (⟨#[]⟩ : ByteArray), .int .i64 0, .int .i64 0, .slice none 0 0, .slice none 0 0, .int .i64 0, .int .i64 0] 32 HB ?_; intro E0 hg I7 hb M0 Y4 HB; replace HO_9 := tNe HO_9 hg hb; replace HO_206002 := tVe HO_206002 hg hb; replace HO_220003 := tVe HO_220003 hg hb; replace HO_220004 := tVe HO_220004 hg hb; replace I0 := tVe I0 hg hb; replace L0 := tVe L0 hg hb; obtain ⟨N3, P1⟩ := tN n0 hg; replace n0 := tBb n0 hb; obtain ⟨L3, Q1⟩ := tN C0 hg; replace C0 := tBb C0 hb; clear hb hg; have _ := n2 P1; have _ := n2 Q1; have _ := bx7 M0; obtain ⟨m4, s4, rfl⟩ := Kd.V_slice I0.out; obtain ⟨C4, u4, rfl⟩ := Kd.V_slice L0.out) | ((with_reducible refine Qar (t := 32) (p := 11) rfl ?_); refine se_ 32 11 (((((((I7.setCell ⟨E0, 0, none⟩ (.string O1)).setCell ⟨E0, 1, none⟩ (.int .i64 Z1)).setCell ⟨E0, 2, none⟩ (.int .i64 D2)).setCell ⟨E0, 3, none⟩ (.slice m4 V1.length s4)).setCell ⟨E0, 4, none⟩ (.slice C4 X1.length u4)).setCell ⟨E0, 5, none⟩ (.int .i64 J2)).setCell ⟨E0, 6, none⟩ (.int .i64 C2)) ?_; intro r8 hw; replace HO_9 := gNw (fun k_ => (A0 k_ ∨ w.heap.size ≤ k_) ∧ k_ ≠ u0 ∧ k_ ≠ o0 ∧ k_ ≠ E0) HO_9 hw; replace HO_206002 := gVw (fun k_ => (A0 k_ ∨ w.heap.size ≤ k_) ∧ some k_ ≠ (u9 : Value).ownBlock ∧ k_ ≠ u0 ∧ k_ ≠ o0 ∧ k_ ≠ E0) HO_206002 hw; replace HO_220003 := gVw (fun k_ => (A0 k_ ∨ w.heap.size ≤ k_) ∧ some k_ ≠ (u9 : Value).ownBlock ∧ k_ ≠ u0 ∧ k_ ≠ o0 ∧ k_ ≠ E0) HO_220003 hw; replace HO_220004 := gVw (fun k_ => (A0 k_ ∨ w.heap.size ≤ k_) ∧ some k_ ≠ (u9 : Value).ownBlock ∧ k_ ≠ u0 ∧ k_ ≠ o0 ∧ k_ ≠ E0) HO_220004 hw; replace I0 := gVw (fun k_ => (A0 k_ ∨ w.heap.size ≤ k_) ∧ some k_ ≠ (u9 : Value).ownBlock ∧ k_ ≠ u0 ∧ k_ ≠ o0 ∧ k_ ≠ E0) I0 hw; replace L0 := gVw (fun k_ => (A0 k_ ∨ w.heap.size ≤ k_) ∧ some k_ ≠ (u9 : Value).ownBlock ∧ k_ ≠ u0 ∧ k_ ≠ o0 ∧ k_ ≠ E0) L0 hw; replace n0 := sB n0 hw; replace C0 := sB C0 hw; replace M0 := sP #[.string O1, .int .i64 Z1, .int .i64 D2, .slice m4 V1.length s4, .slice C4 X1.length u4, .int .i64 J2, .int .i64 C2] M0 hw; replace HB := sH HB hw; clear hw; have _ := bx3 n0; have _ := bx7 C0; have _ := bx7 M0) | (go_at_call 39; (with_reducible refine (Gt.calls a0_0 a0_1 (fun k_ => ((A0 k_ ∨ w.heap.size ≤ k_) ∧ (some k_ ≠ (u9 : Value).ownBlock ∧ (k_ ≠ u0 ∧ (k_ ≠ o0 ∧ k_ ≠ E0))))) _ _ l0_2 N0 O1 true _ ?Z0 A7.out).mono ?_); (case Z0 => exact HO_206002.out); rintro e M7 ⟨rfl, hb⟩; replace HO_9 := tNb HO_9 hb; replace HO_206002 := tVb HO_206002 hb; replace HO_220003 := tVb HO_220003 hb; replace HO_220004 := tVb HO_220004 hb; replace I0 := tVb I0 hb; replace L0 := tVb L0 hb; replace n0 := tBb n0 hb; replace C0 := tBb C0 hb; replace M0 := tBb M0 hb; replace HB := tHb HB hb; (try clear hb); have _ := bx7 M0; have _ := bx7 C0) | ((with_reducible refine Qar (t := 32) (p := 7) rfl ?_); refine se_ 32 7 (((((((M7.setCell ⟨o0, 0, none⟩ (.string O1)).setCell ⟨o0, 1, none⟩ (.int .i64 Z1)).setCell ⟨o0, 2, none⟩ (.int .i64 D2)).setCell ⟨o0, 3, none⟩ (.slice m4 V1.length s4)).setCell ⟨o0, 4, none⟩ (.slice C4 X1.length u4)).setCell ⟨o0, 5, none⟩ (.int .i64 J2)).setCell ⟨o0, 6, none⟩ (.int .i64 C2)) ?_; intro i8 hw; replace HO_9 := gNw (fun k_ => (A0 k_ ∨ w.heap.size ≤ k_) ∧ k_ ≠ u0 ∧ k_ ≠ o0 ∧ k_ ≠ E0) HO_9 hw; replace HO_206002 := gVw (fun k_ => (A0 k_ ∨ w.heap.size ≤ k_) ∧ some k_ ≠ (u9 : Value).ownBlock ∧ k_ ≠ u0 ∧ k_ ≠ o0 ∧ k_ ≠ E0) HO_206002 hw; replace HO_220003 := gVw (fun k_ => (A0 k_ ∨ w.heap.size ≤ k_) ∧ some k_ ≠ (u9 : Value).ownBlock ∧ k_ ≠ u0 ∧ k_ ≠ o0 ∧ k_ ≠ E0) HO_220003 hw; replace HO_220004 := gVw (fun k_ => (A0 k_ ∨ w.heap.size ≤ k_) ∧ some k_ ≠ (u9 : Value).ownBlock ∧ k_ ≠ u0 ∧ k_ ≠ o0 ∧ k_ ≠ E0) HO_220004 hw; replace I0 := gVw (fun k_ => (A0 k_ ∨ w.heap.size ≤ k_) ∧ some k_ ≠ (u9 : Value).ownBlock ∧ k_ ≠ u0 ∧ k_ ≠ o0 ∧ k_ ≠ E0) I0 hw; replace L0 := gVw (fun k_ => (A0 k_ ∨ w.heap.size ≤ k_) ∧ some k_ ≠ (u9 : Value).ownBlock ∧ k_ ≠ u0 ∧ k_ ≠ o0 ∧ k_ ≠ E0) L0 hw; replace n0 := sB n0 hw; replace C0 := sP #[.string O1, .int .i64 Z1, .int .i64 D2, .slice m4 V1.length s4, .slice C4 X1.length u4, .int .i64 J2, .int .i64 C2] C0 hw; replace M0 := sB M0 hw; replace HB := sH HB hw; clear hw))
             replace HO_9 := am_ (Kd.N_drew HO_9.out); replace HO_206002 := am_ (Kd.V_drew HO_206002.out); replace HO_220003 := am_ (Kd.V_drew HO_220003.out); replace HO_220004 := am_ (Kd.V_drew HO_220004.out); replace I0 := am_ (Kd.V_drew I0.out); replace L0 := am_ (Kd.V_drew L0.out); replace n0 := am_ (Qag n0.out); replace C0 := am_ (Qag C0.out); replace M0 := am_ (Qag M0.out); replace HB := am_ (Qaj HB.out); obtain ⟨u3, D3, s6⟩ := Kd.N_slice HO_9.out
             (first | subst s6 | (injection s6 with z7 b8 s7; have U7 := z7.symm; have K7 := s7.symm; clear z7 b8 s7; subst U7; subst K7))
             have hcap_ := eq_true (Kd.N_reads' HO_9.out).2.1; refine st_ 10 [] (k7_ M0 ct) (fun hHeld => ?_); refine Qav F2.tab14 F2.bits14 (fun HT_ HW_ => ?_); generalize i8.drew = S7 at HO_9 HO_206002 HO_220003 HO_220004 I0 L0 n0 C0 M0 HB hHeld ⊢; refine pu_ 2 (some 66) 4 HT_ (h := ?_); refine pu_ 3 (some 67) 12 HT_ (h := ?_); refine pu_ 4 (some 68) 28 HT_ (h := ?_); refine pu_ 5 (some 69) 60 HT_ (h := ?_); refine pu_ 6 (some 70) 124 HT_ (h := ?_); refine pu_ 7 (some 71) 252 HT_ (h := ?_); refine tk_ 0 (some 64) 253 HT_ HW_ hHeld (h := ?_); refine on_ 1 (some 65) 255 HT_ (fun K hK => ?_); refine Kd.N_lit_step k32 _ 32 ?hg (N' := 65) ?hd (xs := ([(⟨O1, (⟨Z1, D2, V1, X1, (⟨J2, C2⟩ : S28)⟩ : S30)⟩ : S32)] : List (S32))) (inner := [.string O1, .int .i64 Z1, .int .i64 D2, .slice m4 V1.length s4, .slice C4 X1.length u4, .int .i64 J2, .int .i64 C2]) (ok := (fun k_ => (A0 k_ ∨ w.heap.size ≤ k_) ∧ some k_ ≠ (.slice u3 C1.length D3 : Value).ownBlock ∧ k_ ≠ u0 ∧ k_ ≠ o0 ∧ k_ ≠ E0)) (okp := (fun k_ => (A0 k_ ∨ w.heap.size ≤ k_) ∧ some k_ ≠ (.slice u3 C1.length D3 : Value).ownBlock ∧ k_ ≠ u0 ∧ k_ ≠ o0 ∧ k_ ≠ E0)) ?hr ?hp (fun _ hk => hk) ((show ∀ k_, S7.heap.size ≤ k_ → (fun k_ => (A0 k_ ∨ w.heap.size ≤ k_) ∧ some k_ ≠ (.slice u3 C1.length D3 : Value).ownBlock ∧ k_ ≠ u0 ∧ k_ ≠ o0 ∧ k_ ≠ E0) k_ from fun k_ hk => ⟨(.inr (Nat.le_trans (Qac (bh HB)) hk)), Kd.fresh' (Kd.N_lt (hN HO_9)) k_ hk, gFr n0 k_ hk, gFr C0 k_ hk, gFr M0 k_ hk⟩) _ (Nat.le_refl _)) (Below.refl _ _) (Nat.le_refl _) (by simp) ?_; (case hd => rfl); (case hg => rfl); (case hr => first | (go_simp; done) | (go_simp; rfl)); (case hp => exact (Qbv.c7 (show Kd.FK k32 _ _ (⟨O1, (⟨Z1, D2, V1, X1, (⟨J2, C2⟩ : S28)⟩ : S30)⟩ : S32) [.string O1, .int .i64 Z1, .int .i64 D2, .slice m4 V1.length s4, .slice C4 X1.length u4, .int .i64 J2, .int .i64 C2] from (Qc9 _ _ (⟨O1, (⟨Z1, D2, V1, X1, (⟨J2, C2⟩ : S28)⟩ : S30)⟩ : S32) (Kd.V_reads' (Kd.V_mono (ok' := (fun k_ => (A0 k_ ∨ w.heap.size ≤ k_) ∧ some k_ ≠ (.slice u3 C1.length D3 : Value).ownBlock ∧ k_ ≠ u0 ∧ k_ ≠ o0 ∧ k_ ≠ E0)) (I0.out) (fun k_ hk => ⟨hk.1, ⟨hk.2.1, ⟨hk.2.2.1, ⟨hk.2.2.2.1, hk.2.2.2.2⟩⟩⟩⟩))).2.1 (Kd.V_F (Kd.V_mono (ok' := (fun k_ => (A0 k_ ∨ w.heap.size ≤ k_) ∧ some k_ ≠ (.slice u3 C1.length D3 : Value).ownBlock ∧ k_ ≠ u0 ∧ k_ ≠ o0 ∧ k_ ≠ E0)) (I0.out) (fun k_ hk => ⟨hk.1, ⟨hk.2.1, ⟨hk.2.2.1, ⟨hk.2.2.2.1, hk.2.2.2.2⟩⟩⟩⟩))) (Kd.V_reads' (Kd.V_mono (ok' := (fun k_ => (A0 k_ ∨ w.heap.size ≤ k_) ∧ some k_ ≠ (.slice u3 C1.length D3 : Value).ownBlock ∧ k_ ≠ u0 ∧ k_ ≠ o0 ∧ k_ ≠ E0)) (L0.out) (fun k_ hk => ⟨hk.1, ⟨hk.2.1, ⟨hk.2.2.1, ⟨hk.2.2.2.1, hk.2.2.2.2⟩⟩⟩⟩))).2.1 (Kd.V_F (Kd.V_mono (ok' := (fun k_ => (A0 k_ ∨ w.heap.size ≤ k_) ∧ some k_ ≠ (.slice u3 C1.length D3 : Value).ownBlock ∧ k_ ≠ u0 ∧ k_ ≠ o0 ∧ k_ ≠ E0)) (L0.out) (fun k_ hk => ⟨hk.1, ⟨hk.2.1, ⟨hk.2.2.1, ⟨hk.2.2.2.1, hk.2.2.2.2⟩⟩⟩⟩))))) (Qbv.none _ _))); intro m5 x8 J3 hb hg_ hnew_; clear hg_ hnew_
             (first | rw [← i5.out] at J3 | (simp only [Int.reduceToNat] at J3; rw [← i5.out] at J3))
             replace HO_9 := am_ (Kd.N_elder' (hN HO_9) (Kd.N_base J3) hb); replace HO_206002 := am_ (Kd.V_elder' (hV HO_206002) (Kd.N_base J3) hb); replace HO_220003 := am_ (Kd.V_elder' (hV HO_220003) (Kd.N_base J3) hb); replace HO_220004 := am_ (Kd.V_elder' (hV HO_220004) (Kd.N_base J3) hb); replace I0 := am_ (Kd.V_elder' (hV I0) (Kd.N_base J3) hb); replace L0 := am_ (Kd.V_elder' (hV L0) (Kd.N_base J3) hb); have Y3 := am_ (Kd.N_lower J3 (Qac (bh HB))); replace n0 := tBb n0 hb; replace C0 := tBb C0 hb; replace M0 := tBb M0 hb; replace HB := tHb HB hb; clear hb J3; refine hK.out _ _ (m7_ M0 ct) (fun hHeld => ?_); clear hK K; refine Qbb (a' := ?_) ?_ ?_; rotate_left
             ·
              show Act.put _ (some 65) _ = _; exact pt_
             refine on_ 8 (some 72) 511 HT_ (fun K hK => ?_); refine Kd.N_append_rows_step k32 (w0 := w) w.heap.size (by rfl) (.tmp 65) (.tmp 71) 22 32 (.agg #[(.string ⟨#[]⟩), (.int .i64 0), (.int .i64 0), (.slice none 0 0), (.slice none 0 0), (.int .i64 0), (.int .i64 0)]) 96 rfl Tryz.underlying22 Qc5 rfl (by decide) (by omega) m5 U4 C1 _ _ _ (fun k_ => (A0 k_ ∨ w.heap.size ≤ k_) ∧ k_ ≠ u0 ∧ k_ ≠ o0 ∧ k_ ≠ E0) (fun k_ => ((fun k_ => (A0 k_ ∨ w.heap.size ≤ k_) ∧ k_ ≠ u0 ∧ k_ ≠ o0 ∧ k_ ≠ E0)) k_ ∧ some k_ ≠ (m5 : Value).ownBlock) rfl rfl ?aO ?aR (fun _ hk => hk) ?aF ?aB ?aS ?aL ?_
             (case aR => exact (by skip; exact Kd.N_F (Kd.N_mono (ok' := (fun k_ => ((fun k_ => (A0 k_ ∨ w.heap.size ≤ k_) ∧ k_ ≠ u0 ∧ k_ ≠ o0 ∧ k_ ≠ E0)) k_ ∧ some k_ ≠ (m5 : Value).ownBlock)) (HO_9.out) (fun k_ hk => ⟨⟨hk.1.1, ⟨hk.1.2.1, ⟨hk.1.2.2.1, hk.1.2.2.2⟩⟩⟩, hk.2⟩))))
             (case aB => exact (bh HB))
             (case aF => exact (fun k_ hk => ⟨(.inr (Nat.le_trans (Qac (bh HB)) hk)), gFr n0 k_ hk, gFr C0 k_ hk, gFr M0 k_ hk⟩))
             (case aO => exact (gN Y3))
             (case aS => exact (Qac (bh HB)))
             (case aL => have := g7.out; omega)
             intro f8 m8 ho hb hg hat
             rw [← E6.out] at ho; replace HO_9 := am_ (Kd.N_afterv (ok := (fun k_ => (A0 k_ ∨ w.heap.size ≤ k_) ∧ k_ ≠ u0 ∧ k_ ≠ o0 ∧ k_ ≠ E0)) (hN HO_9) hg hat); replace HO_206002 := am_ (Kd.V_afterv (ok := (fun k_ => (A0 k_ ∨ w.heap.size ≤ k_) ∧ some k_ ≠ (.slice u3 C1.length D3 : Value).ownBlock ∧ k_ ≠ u0 ∧ k_ ≠ o0 ∧ k_ ≠ E0)) (hV HO_206002) hg hat); replace HO_220003 := am_ (Kd.V_afterv (ok := (fun k_ => (A0 k_ ∨ w.heap.size ≤ k_) ∧ some k_ ≠ (.slice u3 C1.length D3 : Value).ownBlock ∧ k_ ≠ u0 ∧ k_ ≠ o0 ∧ k_ ≠ E0)) (hV HO_220003) hg hat); replace HO_220004 := am_ (Kd.V_afterv (ok := (fun k_ => (A0 k_ ∨ w.heap.size ≤ k_) ∧ some k_ ≠ (.slice u3 C1.length D3 : Value).ownBlock ∧ k_ ≠ u0 ∧ k_ ≠ o0 ∧ k_ ≠ E0)) (hV HO_220004) hg hat); replace n0 := tBg n0 hg (Kd.N_ne Y3.out n0.out (by decide)); replace C0 := tBg C0 hg (Kd.N_away Y3.out (fun _ hk => hk.2.2.2.1)); replace I0 := am_ (Kd.V_afterv (ok := (fun k_ => (A0 k_ ∨ w.heap.size ≤ k_) ∧ some k_ ≠ (.slice u3 C1.length D3 : Value).ownBlock ∧ k_ ≠ u0 ∧ k_ ≠ o0 ∧ k_ ≠ E0)) (hV I0) hg hat); replace L0 := am_ (Kd.V_afterv (ok := (fun k_ => (A0 k_ ∨ w.heap.size ≤ k_) ∧ some k_ ≠ (.slice u3 C1.length D3 : Value).ownBlock ∧ k_ ≠ u0 ∧ k_ ≠ o0 ∧ k_ ≠ E0)) (hV L0) hg hat); replace M0 := tBg M0 hg (Kd.N_away Y3.out (fun _ hk => hk.2.2.2.2)); replace HB := am_ hb; have N6 := am_ (ho); clear Y3 ho hb hg hat
             refine hK.out _ _ (m7_ M0 ct) (fun hHeld => ?_); clear hK K; refine Qbb (a' := ?_) ?_ ?_; rotate_left
             ·
              show Act.put _ (some 72) _ = _; exact pt_
             refine pu_ 9 (some 9) 1023 HT_ (h := ?_); refine Qbt (Qbc HT_.out (by kernel_rfl)) ?_; try go_wp2
             go_roundg U3
             case measure => have := K4.out; have := S4.out; have := c5.out; have := J4.out; omega
             case rel => exact ⟨(d7), (wrap64 (O0 - 1)), (O1), (Z1), (D2), (V1), (X1), (J2), (C2), (.slice m4 V1.length s4), (.slice C4 X1.length u4), fr, H', ⟨by have := K4.out; have := S4.out; have := c5.out; have := J4.out; omega⟩, ⟨gN N6⟩, ⟨gV HO_206002⟩, ⟨gV I0⟩, ⟨gV L0⟩, ⟨gB n0⟩, ⟨gB C0⟩, ⟨bh HB⟩⟩
            have H' := am_ H; clear H; have _ := n2 L2; have _ := bx3 n0
            go_wp2_with (first | (refine gl_ (some 49) Tryz.func9 #[.agg #[.int .i64 a0_0, .int .i64 a0_1, .slice A0_2 l0_2.length c0_2], .int .i64 O0] ?_; (with_reducible refine (Gf.calls U3 a0_0 a0_1 (fun k_ => ((A0 k_ ∨ w.heap.size ≤ k_) ∧ (some k_ ≠ (u9 : Value).ownBlock ∧ (k_ ≠ u0 ∧ k_ ≠ o0)))) _ _ l0_2 O0 O1 Z1 D2 V1 X1 J2 C2 V4 _ ?Z0 p7.out).mono ?_); (case Z0 => exact HO_206002.out); rintro e C8 ⟨f7, r6, rfl, I4, E4, hb⟩; refine ⟨_, rfl, ?_⟩; replace HO_206002 := tVb HO_206002 hb; replace HO_220003 := tVb HO_220003 hb; replace HO_220004 := tVb HO_220004 hb; have I0 := am_ (Kd.V_lower (Kd.V_mono (ok' := fun k_ => (A0 k_ ∨ w.heap.size ≤ k_) ∧ some k_ ≠ (u9 : Value).ownBlock ∧ k_ ≠ u0 ∧ k_ ≠ o0) I4 (fun k_ hk_ => ⟨Or.elim hk_ (fun hs_ => hs_.1) (fun hn_ => (.inr (Nat.le_trans (Qac (bh HB)) hn_))), Or.elim hk_ (fun hs_ => hs_.2.1) (fun hn_ => (Kd.fresh' (Kd.N_lt (hN HO_9)) k_ hn_)), Or.elim hk_ (fun hs_ => hs_.2.2.1) (fun hn_ => (gFr n0 k_ hn_)), Or.elim hk_ (fun hs_ => hs_.2.2.2) (fun hn_ => (gFr C0 k_ hn_))⟩)) (Qac (bh HB))); have L0 := am_ (Kd.V_lower (Kd.V_mono (ok' := fun k_ => (A0 k_ ∨ w.heap.size ≤ k_) ∧ some k_ ≠ (u9 : Value).ownBlock ∧ k_ ≠ u0 ∧ k_ ≠ o0) E4 (fun k_ hk_ => ⟨Or.elim hk_ (fun hs_ => hs_.1) (fun hn_ => (.inr (Nat.le_trans (Qac (bh HB)) hn_))), Or.elim hk_ (fun hs_ => hs_.2.1) (fun hn_ => (Kd.fresh' (Kd.N_lt (hN HO_9)) k_ hn_)), Or.elim hk_ (fun hs_ => hs_.2.2.1) (fun hn_ => (gFr n0 k_ hn_)), Or.elim hk_ (fun hs_ => hs_.2.2.2) (fun hn_ => (gFr C0 k_ hn_))⟩)) (Qac (bh HB))); replace HO_9 := tNb HO_9 hb; replace n0 := tBb n0 hb; replace C0 := tBb C0 hb; replace HB := tHb HB hb; (try clear hb I4 E4)) | (refine bf_ 11 #[.string (⟨#[]⟩ : ByteArray), .int .i64 0, .int .i64 0, .slice none 0 0, .slice none 0 0, .int .i64 0, .int .i64 0] 32 HB ?_; intro E0 hg Q7 hb M0 Y4 HB; replace HO_9 := tNe HO_9 hg hb; replace HO_206002 := tVe HO_206002 hg hb; replace HO_220003 := tVe HO_220003 hg hb; replace HO_220004 := tVe HO_220004 hg hb; replace I0 := tVe I0 hg hb; replace L0 := tVe L0 hg hb; obtain ⟨N3, P1⟩ := tN n0 hg; replace n0 := tBb n0 hb; obtain ⟨L3, Q1⟩ := tN C0 hg; replace C0 := tBb C0 hb; clear hb hg; have _ := n2 P1; have _ := n2 Q1; have _ := bx7 M0; obtain ⟨S5, D5, rfl⟩ := Kd.V_slice I0.out; obtain ⟨V6, S6, rfl⟩ := Kd.V_slice L0.out) | ((with_reducible refine Qar (t := 32) (p := 11) rfl ?_); refine se_ 32 11 (((((((Q7.setCell ⟨E0, 0, none⟩ (.string O1)).setCell ⟨E0, 1, none⟩ (.int .i64 Z1)).setCell ⟨E0, 2, none⟩ (.int .i64 D2)).setCell ⟨E0, 3, none⟩ (.slice S5 V1.length D5)).setCell ⟨E0, 4, none⟩ (.slice V6 X1.length S6)).setCell ⟨E0, 5, none⟩ (.int .i64 J2)).setCell ⟨E0, 6, none⟩ (.int .i64 C2)) ?_; intro B8 hw; replace HO_9 := gNw (fun k_ => (A0 k_ ∨ w.heap.size ≤ k_) ∧ k_ ≠ u0 ∧ k_ ≠ o0 ∧ k_ ≠ E0) HO_9 hw; replace HO_206002 := gVw (fun k_ => (A0 k_ ∨ w.heap.size ≤ k_) ∧ some k_ ≠ (u9 : Value).ownBlock ∧ k_ ≠ u0 ∧ k_ ≠ o0 ∧ k_ ≠ E0) HO_206002 hw; replace HO_220003 := gVw (fun k_ => (A0 k_ ∨ w.heap.size ≤ k_) ∧ some k_ ≠ (u9 : Value).ownBlock ∧ k_ ≠ u0 ∧ k_ ≠ o0 ∧ k_ ≠ E0) HO_220003 hw; replace HO_220004 := gVw (fun k_ => (A0 k_ ∨ w.heap.size ≤ k_) ∧ some k_ ≠ (u9 : Value).ownBlock ∧ k_ ≠ u0 ∧ k_ ≠ o0 ∧ k_ ≠ E0) HO_220004 hw; replace I0 := gVw (fun k_ => (A0 k_ ∨ w.heap.size ≤ k_) ∧ some k_ ≠ (u9 : Value).ownBlock ∧ k_ ≠ u0 ∧ k_ ≠ o0 ∧ k_ ≠ E0) I0 hw; replace L0 := gVw (fun k_ => (A0 k_ ∨ w.heap.size ≤ k_) ∧ some k_ ≠ (u9 : Value).ownBlock ∧ k_ ≠ u0 ∧ k_ ≠ o0 ∧ k_ ≠ E0) L0 hw; replace n0 := sB n0 hw; replace C0 := sB C0 hw; replace M0 := sP #[.string O1, .int .i64 Z1, .int .i64 D2, .slice S5 V1.length D5, .slice V6 X1.length S6, .int .i64 J2, .int .i64 C2] M0 hw; replace HB := sH HB hw; clear hw; have _ := bx3 n0; have _ := bx7 C0; have _ := bx7 M0) | (go_at_call 39; (with_reducible refine (Gt.calls a0_0 a0_1 (fun k_ => ((A0 k_ ∨ w.heap.size ≤ k_) ∧ (some k_ ≠ (u9 : Value).ownBlock ∧ (k_ ≠ u0 ∧ (k_ ≠ o0 ∧ k_ ≠ E0))))) _ _ l0_2 N0 O1 false _ ?Z0 A7.out).mono ?_); (case Z0 => exact HO_206002.out); rintro e o8 ⟨rfl, hb⟩; replace HO_9 := tNb HO_9 hb; replace HO_206002 := tVb HO_206002 hb; replace HO_220003 := tVb HO_220003 hb; replace HO_220004 := tVb HO_220004 hb; replace I0 := tVb I0 hb; replace L0 := tVb L0 hb; replace n0 := tBb n0 hb; replace C0 := tBb C0 hb; replace M0 := tBb M0 hb; replace HB := tHb HB hb; (try clear hb)))
            go_roundg U3
            case measure => have := K4.out; have := S4.out; have := c5.out; have := J4.out; omega
            case rel => exact ⟨(C1), (wrap64 (O0 - 1)), (N0), (P0), (Q0), (X0), (V0), (Y0), (U0), (Y1), (U1), fr, H', ⟨by have := K4.out; have := S4.out; have := c5.out; have := J4.out; omega⟩, ⟨gN HO_9⟩, ⟨gV HO_206002⟩, ⟨gV HO_220003⟩, ⟨gV HO_220004⟩, ⟨gB n0⟩, ⟨gB C0⟩, ⟨bh HB⟩⟩
           rw [if_neg z6] at H; obtain ⟨Y5, U5⟩ := ef z6; have H' := am_ H; clear H; have _ := n2 L2; have _ := bx3 n0
           go_wp2_with (first | (refine gl_ (some 49) Tryz.func9 #[.agg #[.int .i64 a0_0, .int .i64 a0_1, .slice A0_2 l0_2.length c0_2], .int .i64 O0] ?_; (with_reducible refine (Gf.calls U3 a0_0 a0_1 (fun k_ => ((A0 k_ ∨ w.heap.size ≤ k_) ∧ (some k_ ≠ (u9 : Value).ownBlock ∧ (k_ ≠ u0 ∧ k_ ≠ o0)))) _ _ l0_2 O0 O1 Z1 D2 V1 X1 J2 C2 V4 _ ?Z0 p7.out).mono ?_); (case Z0 => exact HO_206002.out); rintro e t8 ⟨f7, r6, rfl, I4, E4, hb⟩; refine ⟨_, rfl, ?_⟩; replace HO_206002 := tVb HO_206002 hb; replace HO_220003 := tVb HO_220003 hb; replace HO_220004 := tVb HO_220004 hb; have I0 := am_ (Kd.V_lower (Kd.V_mono (ok' := fun k_ => (A0 k_ ∨ w.heap.size ≤ k_) ∧ some k_ ≠ (u9 : Value).ownBlock ∧ k_ ≠ u0 ∧ k_ ≠ o0) I4 (fun k_ hk_ => ⟨Or.elim hk_ (fun hs_ => hs_.1) (fun hn_ => (.inr (Nat.le_trans (Qac (bh HB)) hn_))), Or.elim hk_ (fun hs_ => hs_.2.1) (fun hn_ => (Kd.fresh' (Kd.N_lt (hN HO_9)) k_ hn_)), Or.elim hk_ (fun hs_ => hs_.2.2.1) (fun hn_ => (gFr n0 k_ hn_)), Or.elim hk_ (fun hs_ => hs_.2.2.2) (fun hn_ => (gFr C0 k_ hn_))⟩)) (Qac (bh HB))); have L0 := am_ (Kd.V_lower (Kd.V_mono (ok' := fun k_ => (A0 k_ ∨ w.heap.size ≤ k_) ∧ some k_ ≠ (u9 : Value).ownBlock ∧ k_ ≠ u0 ∧ k_ ≠ o0) E4 (fun k_ hk_ => ⟨Or.elim hk_ (fun hs_ => hs_.1) (fun hn_ => (.inr (Nat.le_trans (Qac (bh HB)) hn_))), Or.elim hk_ (fun hs_ => hs_.2.1) (fun hn_ => (Kd.fresh' (Kd.N_lt (hN HO_9)) k_ hn_)), Or.elim hk_ (fun hs_ => hs_.2.2.1) (fun hn_ => (gFr n0 k_ hn_)), Or.elim hk_ (fun hs_ => hs_.2.2.2) (fun hn_ => (gFr C0 k_ hn_))⟩)) (Qac (bh HB))); replace HO_9 := tNb HO_9 hb; replace n0 := tBb n0 hb; replace C0 := tBb C0 hb; replace HB := tHb HB hb; (try clear hb I4 E4)) | (refine bf_ 11 #[.string (⟨#[]⟩ : ByteArray), .int .i64 0, .int .i64 0, .slice none 0 0, .slice none 0 0, .int .i64 0, .int .i64 0] 32 HB ?_; intro E0 hg p8 hb M0 Y4 HB; replace HO_9 := tNe HO_9 hg hb; replace HO_206002 := tVe HO_206002 hg hb; replace HO_220003 := tVe HO_220003 hg hb; replace HO_220004 := tVe HO_220004 hg hb; replace I0 := tVe I0 hg hb; replace L0 := tVe L0 hg hb; obtain ⟨N3, P1⟩ := tN n0 hg; replace n0 := tBb n0 hb; obtain ⟨L3, Q1⟩ := tN C0 hg; replace C0 := tBb C0 hb; clear hb hg; have _ := n2 P1; have _ := n2 Q1; have _ := bx7 M0; obtain ⟨W7, l8, rfl⟩ := Kd.V_slice I0.out; obtain ⟨J7, Z7, rfl⟩ := Kd.V_slice L0.out))
           go_roundg U3
           case measure => have := K4.out; have := S4.out; have := c5.out; have := J4.out; omega
           case rel => exact ⟨(C1), (wrap64 (O0 - 1)), (N0), (P0), (Q0), (X0), (V0), (Y0), (U0), (Y1), (U1), fr, H', ⟨by have := K4.out; have := S4.out; have := c5.out; have := J4.out; omega⟩, ⟨gN HO_9⟩, ⟨gV HO_206002⟩, ⟨gV HO_220003⟩, ⟨gV HO_220004⟩, ⟨gB n0⟩, ⟨gB C0⟩, ⟨bh HB⟩⟩
          replace H := oi2 H; obtain ⟨rfl, rfl⟩ := H; go_wp2; simp only [Exit.jump]; go_ret2; exact ⟨_, fe, gN HO_9, bh HB⟩
     rw [if_neg R6] at H; obtain ⟨Z4, X4⟩ := ef R6; have H' := am_ H; clear H; have _ := bx3 n0
     go_wp2_with (first | (refine gl_ (some 26) Tryz.func11 #[.agg #[.int .i64 a0_0, .int .i64 a0_1, .slice A0_2 l0_2.length c0_2], .int .i64 N2] ?_; (with_reducible refine (Fz.calls A5 a0_0 a0_1 (fun k_ => ((A0 k_ ∨ w.heap.size ≤ k_) ∧ k_ ≠ u0)) _ _ l0_2 N2 m3 s3 C3 V2 Y2 Z2 I3 p5 _ ?Z0 C7.out).mono ?_); (case Z0 => exact HO_206002.out); rintro e z8 ⟨o7, l7, rfl, I4, E4, hb⟩; refine ⟨_, rfl, ?_⟩; replace HO_206002 := tVb HO_206002 hb; have N1 := lq (fun k_ => (A0 k_ ∨ w.heap.size ≤ k_) ∧ k_ ≠ u0) I4 HB; have D1 := lq (fun k_ => (A0 k_ ∨ w.heap.size ≤ k_) ∧ k_ ≠ u0) E4 HB; replace n0 := tBb n0 hb; replace HB := tHb HB hb; (try clear hb I4 E4)) | (refine bf_ 7 #[.string (⟨#[]⟩ : ByteArray), .int .i64 0, .int .i64 0, .slice none 0 0, .slice none 0 0, .int .i64 0, .int .i64 0] 32 HB ?_; intro o0 hg v8 hb C0 p6 HB; replace HO_206002 := tVe HO_206002 hg hb; replace N1 := tVe N1 hg hb; replace D1 := tVe D1 hg hb; obtain ⟨L2, Q2⟩ := tN n0 hg; replace n0 := tBb n0 hb; clear hb hg; have _ := n2 Q2; have _ := bx7 C0; obtain ⟨a8, N7, rfl⟩ := Kd.V_slice N1.out; obtain ⟨O7, Y7, rfl⟩ := Kd.V_slice D1.out))
     go_step3; refine ⟨rfl, A5, by have := K4.out; have := S4.out; omega, F2.J_mk u0 (wrap64 (N2 - 1)) rfl k4 ⟨H', ⟨by have := K4.out; have := S4.out; omega⟩, ⟨gV HO_206002⟩, ⟨gB n0⟩, ⟨bh HB⟩⟩⟩
end Go.Proofs.YtopijobdblfhoaaGreat.PTuskChains
