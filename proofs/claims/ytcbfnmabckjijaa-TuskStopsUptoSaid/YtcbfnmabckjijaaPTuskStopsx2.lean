-- written by a program of this session (pp.py), out of the kit's print and this session's contracts
import Derived.Test.YtcbfnmabckjijaaPTuskStopsx0
import Derived.Test.YtcbfnmabckjijaaPTuskStopsx1
import Derived.Test.YtcbfnmabckjijaaVTuskStopsPh
namespace Go.Proofs.Ytcbfnmabckjijaa.PTuskStops
open Go.RowKit Go.Proofs.YtcbfnmabckjijaaW.PrintWords Go.Proofs.YtcbfnmabckjijaaW.PrintLast Go.Proofs.YtcbfnmabckjijaaW.PrintMore
set_option linter.unusedVariables false
set_option linter.unusedSimpArgs false

attribute [local go_sem high] eqA33
abbrev SE := S37
def RelE (W : World) (ok : Nat → Prop) (r : Si.ER) (x : SE) : Prop := r.d = x.f0 ∧ r.au = x.f1.f0 ∧ r.ro = x.f1.f1 ∧ r.n3 = x.f1.f2.length ∧ x.f1.f2.length ≤ r.c3 ∧ Kd.F k129 W ok r.A3 x.f1.f2.length x.f1.f2 ∧ r.n4 = x.f1.f3.length ∧ x.f1.f3.length ≤ r.c4 ∧ Kd.F Kd.string W ok r.A4 x.f1.f3.length x.f1.f3 ∧ r.ea = x.f1.f4.f0 ∧ r.eb = x.f1.f4.f1
def RelsE (W : World) (ok : Nat → Prop) : List Si.ER → List SE → Prop
 | [], [] => True
 | r :: rs, x :: xs => RelE W ok r x ∧ RelsE W ok rs xs
 | _, _ => False
theorem RelsE.len {W : World} {ok : Nat → Prop} : ∀ {rs : List Si.ER} {xs : List SE}, RelsE W ok rs xs → rs.length = xs.length
 | [], [], _ => rfl
 | r :: rs, x :: xs, h => by simp [RelsE.len h.2]
 | [], x :: xs, h => h.elim
 | r :: rs, [], h => h.elim
theorem RelsE.get {W : World} {ok : Nat → Prop} : ∀ {rs : List Si.ER} {xs : List SE} (_ : RelsE W ok rs xs) (i : Nat) (r : Si.ER) (x : SE), rs[i]? = some r → xs[i]? = some x → RelE W ok r x
 | [], [], _, i, r, x, h1, _ => by simp at h1
 | r :: rs, x :: xs, h, 0, r', x', h1, h2 => by
  have e1 : r = r' := by simpa using h1
  have e2 : x = x' := by simpa using h2
  subst e1; subst e2
  exact h.1
 | r :: rs, x :: xs, h, i + 1, r', x', h1, h2 => RelsE.get h.2 i r' x' (by simpa using h1) (by simpa using h2)
 | [], x :: xs, h, _, _, _, _, _ => h.elim
 | r :: rs, [], h, _, _, _, _, _ => h.elim
theorem relsE_of {W : World} {ok : Nat → Prop} {ad : Addr} : ∀ (ms : List SE) (k : Nat), (∀ j x, ms[j]? = some x → ∃ r : Si.ER, RelE W ok r x ∧ ∀ (i : Nat) (u : Value), r.cs[i]? = some u → W.cell? (ad.add ((k + j) * 7 + i)) = some u) →
  ∃ rs, RelsE W ok rs ms ∧ ∀ (j : Nat) (r : Si.ER), rs[j]? = some r → ∀ (i : Nat) (u : Value), r.cs[i]? = some u → W.cell? (ad.add ((k + j) * 7 + i)) = some u
 | [], k, _ => ⟨[], trivial, fun j r h => by simp at h⟩
 | m :: ms, k, h => by
  obtain ⟨r, hr, hc⟩ := h 0 m rfl
  obtain ⟨rs, hrs, hcs⟩ := relsE_of (W := W) (ok := ok) (ad := ad) ms (k + 1) (fun j x hx => by
   have := h (j + 1) x (by simpa using hx)
   rw [show k + 1 + j = k + (j + 1) by omega]; exact this)
  refine ⟨r :: rs, ⟨hr, hrs⟩, fun j r' hr' => ?_⟩
  cases j with
  | zero =>
   have e : r = r' := by simpa using hr'
   subst e; exact hc
  | succ j =>
   have := hcs j r' (by simpa using hr')
   rw [show k + 1 + j = k + (j + 1) by omega] at this; exact this
theorem F_relsE {W : World} {ok : Nat → Prop} {A : Option Addr} {ms : List SE} (h : Kd.F k37 W ok A ms.length ms) : ∃ rs, RelsE W ok rs ms ∧ Si.Rowentry W A rs := by
 obtain ⟨_, _, hn⟩ := Kd.F_rows h
 by_cases h0 : 0 < ms.length
 ·
  obtain ⟨ad, rfl, hc⟩ := hn h0
  obtain ⟨rs, hrs, hcs⟩ := relsE_of (W := W) (ok := ok) (ad := ad) ms 0 (fun j x hx => by
   obtain ⟨cs, _, hK, hcell⟩ := hc j x hx
   obtain ⟨A3, c3, A4, c4, rfl, l3, hF3, l4, hF4⟩ := k37_openF hK
   have e3 : (k37).sz = 7 := rfl
   rw [e3] at hcell
   rw [Nat.zero_add]
   exact ⟨⟨x.f0, x.f1.f0, x.f1.f1, A3, x.f1.f2.length, c3, A4, x.f1.f3.length, c4, x.f1.f4.f0, x.f1.f4.f1⟩, ⟨rfl, rfl, rfl, rfl, l3, hF3, rfl, l4, hF4, rfl, rfl⟩, hcell⟩)
  refine ⟨rs, hrs, fun i x hx => ⟨ad, rfl, ?_⟩⟩
  have q := hcs i x hx
  rw [Nat.zero_add] at q
  rw [Si.add_more _ _ _ (by omega), Si.add_more _ _ _ (by omega), Si.add_more _ _ _ (by omega), Si.add_more _ _ _ (by omega), Si.add_more _ _ _ (by omega), Si.add_more _ _ _ (by omega)]
  exact ⟨q 0 _ rfl, q 1 _ rfl, q 2 _ rfl, q 3 _ rfl, q 4 _ rfl, q 5 _ rfl, q 6 _ rfl⟩
 have e : ms = [] := List.eq_nil_of_length_eq_zero (by omega)
 subst e
 exact ⟨[], trivial, fun i x hx => by simp at hx⟩
theorem first_rel {W : World} {ok : Nat → Prop} (p : Si.ER → Bool) (q : SE → Bool) (hpq : ∀ r x, RelE W ok r x → p r = q x) : ∀ (rs : List Si.ER) (l : List SE), RelsE W ok rs l → (match l.find? q with
  | some x => (Si.firstE p rs).2 = true ∧ RelE W ok (Si.firstE p rs).1 x
  | none => Si.firstE p rs = (Si.zER, false))
 | [], [], _ => rfl
 | r :: rs, x :: xs, h => by
  rw [Si.firstE_cons, List.find?_cons]
  have e := hpq r x h.1
  cases hq : q x with
  | true => rw [hq] at e; rw [if_pos e]; exact ⟨rfl, h.1⟩
  | false => rw [hq] at e; rw [if_neg (by rw [e]; decide)]; exact first_rel p q hpq rs xs h.2
 | [], x :: xs, h => h.elim
 | r :: rs, [], h => h.elim
def Fm.l0 : Nat → Int → List (S37) → List (S37) → Int → Int → Option ((List (S37)))
 | 0, _, _, _, _, _ => none
 | k + 1, x1, x5, x9, x10, x11 => if x11 < x10 then (if 0 ≤ x11 then (if x11 < (x9.length : Int) then (if ((rd_T37 x9 x11).f1.f1) = x1 then (if x5.length < 1466015503701 then (Fm.l0 k x1 (x5 ++ [(⟨(rd_T37 x9 x11).f0, (⟨(rd_T37 x9 x11).f1.f0, (rd_T37 x9 x11).f1.f1, (rd_T37 x9 x11).f1.f2, (rd_T37 x9 x11).f1.f3, (⟨(rd_T37 x9 x11).f1.f4.f0, (rd_T37 x9 x11).f1.f4.f1⟩ : S33)⟩ : S35)⟩ : S37)]) x9 x10 (wrap64 (x11 + 1))) else (none)) else (Fm.l0 k x1 x5 x9 x10 (wrap64 (x11 + 1)))) else (none)) else (none)) else (some x5)
def Fm.f (k : Nat) (a0_0 : Int) (a0_1 : Int) (l0_2 : List (S37)) (a1 : Int) : Option ((List (S37))) := Fm.l0 k a1 ([] : List (S37)) l0_2 (l0_2.length : Int) 0
set_option maxHeartbeats 8000000 in
set_option maxRecDepth 100000 in
theorem Fm.calls (k : Nat) (a0_0 : Int) (a0_1 : Int) (P0_2_ : Nat → Prop) (A0_2 : Option Addr) (c0_2 : Nat) (l0_2 : List (S37)) (a1 : Int) (r : List (S37)) (w : World) (hs0_2 : Kd.V k37 37 w w.heap.size (fun k_ => P0_2_ k_) (.slice A0_2 l0_2.length c0_2) l0_2) (h : Fm.f k a0_0 a0_1 l0_2 a1 = some r) :
  Calls Try.prog 70 #[.agg #[.int .i64 a0_0, .int .i64 a0_1, .slice A0_2 l0_2.length c0_2], .int .i64 a1] w fun e w' => ∃ v0_ : Value, e = .returned (v0_) ∧ Kd.N k37 37 w' w.heap.size (fun k_ => (P0_2_ k_ ∨ w.heap.size ≤ k_)) v0_ r ∧ Below w.heap.size w w' := by
 have hu24 := Try.underlying24
 have hu37 := Try.underlying37
 have HO0_2 := am_ (show Kd.V k37 37 w w.heap.size (fun k_ => (P0_2_ k_ ∨ w.heap.size ≤ k_)) (.slice A0_2 l0_2.length c0_2) l0_2 from Kd.V_mono hs0_2 (fun k_ hk => .inl hk))
 have HB := am_ (Below.refl w.heap.size w)
 have H : (Fm.l0 k a1 ([] : List (S37)) l0_2 (l0_2.length : Int) 0) = some r := h
 clear h
 have H' := am_ H
 clear H
 go_enter Try.func70, Try.ntmps70
 go_wp2_with (first | ((with_reducible refine gd_ 2 ?_); refine be_ 2 #[.int .i64 a0_0, .int .i64 a0_1, .slice A0_2 l0_2.length c0_2] 24 ?_; intro gb101 hg w3 hbox hb; replace HO0_2 := tVe HO0_2 hg hb; have BK101 := am_ hbox; have GW101 := tG HB hg; have GE101 := tG HB hg; replace HB := tHb HB hb; clear hb hbox hg; obtain ⟨z4_0, z4_1, z4_2, y4_0, y4_1, y4_2⟩ := bx3 BK101))
 go_loopg [5, 11] k (fun kq v5 v11 w' => ∃ (x5_1 : List (S37)) (x11_1 : Int), v11 = .int .i64 x11_1 ∧ Asc (Fm.l0 kq a1 x5_1 l0_2 (l0_2.length : Int) x11_1 = some r) ∧ Asc (kq ≤ k) ∧ Asc (Kd.N k37 37 w' w.heap.size (fun k_ => (P0_2_ k_ ∨ w.heap.size ≤ k_) ∧ k_ ≠ gb101) v5 x5_1) ∧ Asc (Kd.V k37 37 w' w.heap.size (fun k_ => (P0_2_ k_ ∨ w.heap.size ≤ k_) ∧ some k_ ≠ (v5 : Value).ownBlock ∧ k_ ≠ gb101) (.slice A0_2 l0_2.length c0_2) l0_2) ∧ Asc (Kd.V k37 37 w' w.heap.size (fun k_ => (P0_2_ k_ ∨ w.heap.size ≤ k_) ∧ some k_ ≠ (v5 : Value).ownBlock ∧ k_ ≠ gb101) (.slice A0_2 l0_2.length c0_2) l0_2) ∧ Asc (w'.heap[gb101]? = some (.cells #[.int .i64 a0_0, .int .i64 a0_1, (.slice A0_2 l0_2.length c0_2)] 24 (0, 0))) ∧ Asc (Below w.heap.size w w'))
 case atStart => exact ⟨(([] : List (S37))), (0), fr, H', ⟨Nat.le_refl _⟩, ⟨kn⟩, ⟨gV HO0_2⟩, ⟨gV HO0_2⟩, ⟨gB BK101⟩, ⟨bh HB⟩⟩
 case round =>
  clear H'
  try clear z4_0 z4_1 z4_2 y4_0 y4_1 y4_2
  obtain ⟨x5_1, x11_1, rfl, HA, HK1, HO_5, HO_9, HO_102002, BK101, HB⟩ := hrel
  cases gk with
  | zero => exact absurd HA.out (by simp [Fm.l0])
  | succ k1 =>
   have H := HA.out
   clear HA
   simp only [Fm.l0] at H
   by_cases c5 : x11_1 < (l0_2.length : Int)
   ·
    rw [if_pos c5] at H
    have c5b0 : decide (x11_1 < (l0_2.length : Int)) = true := decide_eq_true c5
    clear c5
    revert H
    refine gi (fun c6b0 H => ?_)
    revert H
    refine gi (fun c7b0 H => ?_)
    by_cases c8 : ((rd_T37 l0_2 x11_1).f1.f1) = a1
    ·
     rw [if_pos c8] at H
     have c8b0 : (((rd_T37 l0_2 x11_1).f1.f1) == a1) = true := beq_iff_eq.mpr c8
     have c8b1 : (((rd_T37 l0_2 x11_1).f1.f1) != a1) = false := bne_eq_false_iff_eq.mpr c8
     clear c8
     revert H
     refine gi' (fun c9 H => ?_)
     have LMc9 := am_ c9
     clear c9
     obtain ⟨y104, hy104⟩ : ∃ y_ : List (S37), y_ = (x5_1 ++ [(⟨(rd_T37 l0_2 x11_1).f0, (⟨(rd_T37 l0_2 x11_1).f1.f0, (rd_T37 l0_2 x11_1).f1.f1, (rd_T37 l0_2 x11_1).f1.f2, (rd_T37 l0_2 x11_1).f1.f3, (⟨(rd_T37 l0_2 x11_1).f1.f4.f0, (rd_T37 l0_2 x11_1).f1.f4.f1⟩ : S33)⟩ : S35)⟩ : S37)]) := ⟨_, rfl⟩
     replace H : (Fm.l0 k1 a1 y104 l0_2 (l0_2.length : Int) (wrap64 (x11_1 + 1))) = some r := by first | (rw [hy104]; with_reducible exact H) | (have H := (Option.bind_some _ _).symm.trans H; first | (rw [hy104]; with_reducible exact H) | with_reducible exact H) | with_reducible exact H | (rw [hy104]; exact H) | exact H
     have Ny104 := am_ hy104
     clear hy104
     have H' := am_ H
     clear H
     have p102 : 0 ≤ (x11_1 : Int) := dt
     have q102 : x11_1 < (l0_2.length : Int) := dt
     obtain ⟨ad102, A102_3, c102_3, A102_4, c102_4, e102, hx102_0, hx102_1, hx102_2, hx102_3, hx102_4, hx102_5, hx102_6, hl102_3, hi102_3, hl102_4, hi102_4⟩ := at_T37 (Kd.V_reads' HO_9.out).2.2 x11_1 p102 q102
     cases e102
     obtain ⟨ce102, hce102, hMe102, hcc102⟩ := Kd.V_get HO_9.out z37 x11_1 p102 (by first | exact q102 | exact dt | (have e_ := (Kd.V_reads' HO_9.out).1; omega))
     obtain ⟨ua102_3, uc102_3, ua102_4, uc102_4, rfl, ul102_3, ge102_3, ul102_4, ge102_4⟩ := k37_openF hMe102
     have hv102_3 := hcc102 3 _ rfl
     rw [add_field _ _ 3 (by omega)] at hv102_3
     replace hv102_3 := Option.some.inj (hv102_3.symm.trans hx102_3)
     injection hv102_3 with hva_ hvn_ hvc_
     rw [hva_] at ge102_3
     rw [hvc_] at ul102_3
     have HL102_3 := am_ (show Kd.V k129 129 _ w.heap.size _ _ ((rd_T37 l0_2 x11_1).f1.f2) from Kd.V_mk ul102_3 ge102_3)
     clear hva_ hvn_ hvc_ ge102_3 ul102_3
     have hv102_4 := hcc102 4 _ rfl
     rw [add_field _ _ 4 (by omega)] at hv102_4
     replace hv102_4 := Option.some.inj (hv102_4.symm.trans hx102_4)
     injection hv102_4 with hva_ hvn_ hvc_
     rw [hva_] at ge102_4
     rw [hvc_] at ul102_4
     have HL102_4 := am_ (show Kd.V Kd.string 9 _ w.heap.size _ _ ((rd_T37 l0_2 x11_1).f1.f3) from Kd.V_mk ul102_4 ge102_4)
     clear hva_ hvn_ hvc_ ge102_4 ul102_4 hcc102 hce102
     have HR102_3 := am_ hi102_3
     have HC102_3 := am_ hl102_3
     clear hi102_3 hl102_3
     have HR102_4 := am_ hi102_4
     have HC102_4 := am_ hl102_4
     clear hi102_4 hl102_4
     replace p102 := eq_true p102
     replace q102 := eq_true q102
     go_wp2_with (first | ((with_reducible refine gd_ 7 ?_); refine be_ 7 #[.string (⟨#[]⟩ : ByteArray), .int .i64 0, .int .i64 0, .slice none 0 0, .slice none 0 0, .int .i64 0, .int .i64 0] 37 ?_; intro gb103 hg w10 hbox hb; replace HO_5 := tNe HO_5 hg hb; replace HO_9 := tVe HO_9 hg hb; replace HO_102002 := tVe HO_102002 hg hb; replace HL102_3 := tVe HL102_3 hg hb; replace HL102_4 := tVe HL102_4 hg hb; replace HR102_3 := tCb HR102_3 hb; replace HR102_4 := tCb HR102_4 hb; have BK103 := am_ hbox; have GW103 := tG HB hg; have GE103 := tG HB hg; replace HB := tHb HB hb; have NB101_103 := tL BK101 hg; have NB103_101 := tR BK101 hg; replace BK101 := tBb BK101 hb; clear hb hbox hg; have hnb11 := NB103_101.out; have hnc11 := NB101_103.out; obtain ⟨z12_0, z12_1, z12_2, z12_3, z12_4, z12_5, z12_6, y12_0, y12_1, y12_2, y12_3, y12_4, y12_5, y12_6⟩ := bx7 BK103) | ((with_reducible refine gate_store (t := 37) (p := 7) rfl ?_); refine se_ 37 7 (((((((w10.setCell ⟨gb103, 0, none⟩ (.string ((rd_T37 l0_2 x11_1).f0))).setCell ⟨gb103, 1, none⟩ (.int .i64 ((rd_T37 l0_2 x11_1).f1.f0))).setCell ⟨gb103, 2, none⟩ (.int .i64 ((rd_T37 l0_2 x11_1).f1.f1))).setCell ⟨gb103, 3, none⟩ (.slice A102_3 ((rd_T37 l0_2 x11_1).f1.f2).length c102_3)).setCell ⟨gb103, 4, none⟩ (.slice A102_4 ((rd_T37 l0_2 x11_1).f1.f3).length c102_4)).setCell ⟨gb103, 5, none⟩ (.int .i64 ((rd_T37 l0_2 x11_1).f1.f4.f0))).setCell ⟨gb103, 6, none⟩ (.int .i64 ((rd_T37 l0_2 x11_1).f1.f4.f1))) ?_; intro w13 hw; replace HO_5 : Asc (Kd.N k37 37 w13 w.heap.size (fun k_ => (P0_2_ k_ ∨ w.heap.size ≤ k_) ∧ k_ ≠ gb101 ∧ k_ ≠ gb103) u5 x5_1) := ⟨(by rw [hw]; exact (gN HO_5))⟩; replace HO_9 : Asc (Kd.V k37 37 w13 w.heap.size (fun k_ => (P0_2_ k_ ∨ w.heap.size ≤ k_) ∧ some k_ ≠ (u5 : Value).ownBlock ∧ k_ ≠ gb101 ∧ k_ ≠ gb103) (.slice (some ad102) l0_2.length c0_2) l0_2) := ⟨(by rw [hw]; exact (gV HO_9))⟩; replace HO_102002 : Asc (Kd.V k37 37 w13 w.heap.size (fun k_ => (P0_2_ k_ ∨ w.heap.size ≤ k_) ∧ some k_ ≠ (u5 : Value).ownBlock ∧ k_ ≠ gb101 ∧ k_ ≠ gb103) (.slice (some ad102) l0_2.length c0_2) l0_2) := ⟨(by rw [hw]; exact (gV HO_102002))⟩; replace HL102_3 : Asc (Kd.V k129 129 w13 w.heap.size (fun k_ => (P0_2_ k_ ∨ w.heap.size ≤ k_) ∧ some k_ ≠ (u5 : Value).ownBlock ∧ k_ ≠ gb101 ∧ k_ ≠ gb103) (.slice A102_3 ((rd_T37 l0_2 x11_1).f1.f2).length c102_3) ((rd_T37 l0_2 x11_1).f1.f2)) := ⟨(by rw [hw]; exact (gV HL102_3))⟩; replace HL102_4 : Asc (Kd.V Kd.string 9 w13 w.heap.size (fun k_ => (P0_2_ k_ ∨ w.heap.size ≤ k_) ∧ some k_ ≠ (u5 : Value).ownBlock ∧ k_ ≠ gb101 ∧ k_ ≠ gb103) (.slice A102_4 ((rd_T37 l0_2 x11_1).f1.f3).length c102_4) ((rd_T37 l0_2 x11_1).f1.f3)) := ⟨(by rw [hw]; exact (gV HL102_4))⟩; replace BK101 : Asc (w13.heap[gb101]? = some (.cells #[.int .i64 a0_0, .int .i64 a0_1, .slice (some ad102) l0_2.length c0_2] 24 (0, 0))) := ⟨(by rw [hw]; exact (gB BK101))⟩; replace BK103 : Asc (w13.heap[gb103]? = some (.cells #[.string ((rd_T37 l0_2 x11_1).f0), .int .i64 ((rd_T37 l0_2 x11_1).f1.f0), .int .i64 ((rd_T37 l0_2 x11_1).f1.f1), .slice A102_3 ((rd_T37 l0_2 x11_1).f1.f2).length c102_3, .slice A102_4 ((rd_T37 l0_2 x11_1).f1.f3).length c102_4, .int .i64 ((rd_T37 l0_2 x11_1).f1.f4.f0), .int .i64 ((rd_T37 l0_2 x11_1).f1.f4.f1)] 37 (0, 0))) := ⟨(by rw [hw]; exact (gP BK103 rfl))⟩; replace HB : Asc (Below w.heap.size w w13) := ⟨(by rw [hw]; exact (bh HB))⟩; clear hw; obtain ⟨z14_0, z14_1, z14_2, z14_3, z14_4, z14_5, z14_6, y14_0, y14_1, y14_2, y14_3, y14_4, y14_5, y14_6⟩ := bx7 BK103) | ((with_reducible refine gate_builtin (b := .append) (xs := #[.tmp 20, .tmp 22]) rfl ?_); at_builtin; refine Kd.N_append k37 (w0 := w) w.heap.size rfl (.tmp 20) (.tmp 22) 22 37 (.agg #[(.string ⟨#[]⟩), (.int .i64 0), (.int .i64 0), (.slice none 0 0), (.slice none 0 0), (.int .i64 0), (.int .i64 0)]) 96 rfl Try.underlying22 info37 rfl (by decide) (by omega) u5 x5_1 (⟨(rd_T37 l0_2 x11_1).f0, (⟨(rd_T37 l0_2 x11_1).f1.f0, (rd_T37 l0_2 x11_1).f1.f1, (rd_T37 l0_2 x11_1).f1.f2, (rd_T37 l0_2 x11_1).f1.f3, (⟨(rd_T37 l0_2 x11_1).f1.f4.f0, (rd_T37 l0_2 x11_1).f1.f4.f1⟩ : S33)⟩ : S35)⟩ : S37) [.string ((rd_T37 l0_2 x11_1).f0), .int .i64 ((rd_T37 l0_2 x11_1).f1.f0), .int .i64 ((rd_T37 l0_2 x11_1).f1.f1), .slice A102_3 ((rd_T37 l0_2 x11_1).f1.f2).length c102_3, .slice A102_4 ((rd_T37 l0_2 x11_1).f1.f3).length c102_4, .int .i64 ((rd_T37 l0_2 x11_1).f1.f4.f0), .int .i64 ((rd_T37 l0_2 x11_1).f1.f4.f1)] (fun k_ => (P0_2_ k_ ∨ w.heap.size ≤ k_) ∧ k_ ≠ gb101 ∧ k_ ≠ gb103) (fun k_ => ((fun k_ => (P0_2_ k_ ∨ w.heap.size ≤ k_) ∧ k_ ≠ gb101 ∧ k_ ≠ gb103)) k_ ∧ some k_ ≠ (u5 : Value).ownBlock) rfl rfl ?aP (fun _ hk => hk) ?aF ?aO ?aB ?aS ?aL ?_; (case aP => exact (k37_mkF _ _ (⟨(rd_T37 l0_2 x11_1).f0, (⟨(rd_T37 l0_2 x11_1).f1.f0, (rd_T37 l0_2 x11_1).f1.f1, (rd_T37 l0_2 x11_1).f1.f2, (rd_T37 l0_2 x11_1).f1.f3, (⟨(rd_T37 l0_2 x11_1).f1.f4.f0, (rd_T37 l0_2 x11_1).f1.f4.f1⟩ : S33)⟩ : S35)⟩ : S37) (Kd.V_reads' (Kd.V_mono (ok' := (fun k_ => ((fun k_ => (P0_2_ k_ ∨ w.heap.size ≤ k_) ∧ k_ ≠ gb101 ∧ k_ ≠ gb103)) k_ ∧ some k_ ≠ (u5 : Value).ownBlock)) (HL102_3.out) (fun k_ hk => ⟨⟨hk.1, ⟨hk.2.2.1, hk.2.2.2⟩⟩, hk.2.1⟩))).2.1 (Kd.V_F (Kd.V_mono (ok' := (fun k_ => ((fun k_ => (P0_2_ k_ ∨ w.heap.size ≤ k_) ∧ k_ ≠ gb101 ∧ k_ ≠ gb103)) k_ ∧ some k_ ≠ (u5 : Value).ownBlock)) (HL102_3.out) (fun k_ hk => ⟨⟨hk.1, ⟨hk.2.2.1, hk.2.2.2⟩⟩, hk.2.1⟩))) (Kd.V_reads' (Kd.V_mono (ok' := (fun k_ => ((fun k_ => (P0_2_ k_ ∨ w.heap.size ≤ k_) ∧ k_ ≠ gb101 ∧ k_ ≠ gb103)) k_ ∧ some k_ ≠ (u5 : Value).ownBlock)) (HL102_4.out) (fun k_ hk => ⟨⟨hk.1, ⟨hk.2.2.1, hk.2.2.2⟩⟩, hk.2.1⟩))).2.1 (Kd.V_F (Kd.V_mono (ok' := (fun k_ => ((fun k_ => (P0_2_ k_ ∨ w.heap.size ≤ k_) ∧ k_ ≠ gb101 ∧ k_ ≠ gb103)) k_ ∧ some k_ ≠ (u5 : Value).ownBlock)) (HL102_4.out) (fun k_ hk => ⟨⟨hk.1, ⟨hk.2.2.1, hk.2.2.2⟩⟩, hk.2.1⟩))))); (case aB => exact (bh HB)); (case aF => exact (fun k_ hk => ⟨(.inr (Nat.le_trans (below_size (bh HB)) hk)), gFr BK101 k_ hk, gFr BK103 k_ hk⟩)); (case aO => exact (hN HO_5)); (case aS => exact (below_size (bh HB))); (case aL => have := LMc9.out; omega); intro v105 w15 ho hb hg hat; rw [← Ny104.out] at ho; replace HO_9 := am_ (Kd.V_afterv (ok := (fun k_ => (P0_2_ k_ ∨ w.heap.size ≤ k_) ∧ k_ ≠ gb101 ∧ k_ ≠ gb103)) (gV HO_9) hg hat); replace HO_102002 := am_ (Kd.V_afterv (ok := (fun k_ => (P0_2_ k_ ∨ w.heap.size ≤ k_) ∧ k_ ≠ gb101 ∧ k_ ≠ gb103)) (gV HO_102002) hg hat); replace BK101 := tBg BK101 hg (Kd.N_ne HO_5.out BK101.out (by decide)); replace HL102_3 := am_ (Kd.V_afterv (ok := (fun k_ => (P0_2_ k_ ∨ w.heap.size ≤ k_) ∧ k_ ≠ gb101 ∧ k_ ≠ gb103)) (gV HL102_3) hg hat); replace HL102_4 := am_ (Kd.V_afterv (ok := (fun k_ => (P0_2_ k_ ∨ w.heap.size ≤ k_) ∧ k_ ≠ gb101 ∧ k_ ≠ gb103)) (gV HL102_4) hg hat); replace BK103 := tBg BK103 hg (Kd.N_away HO_5.out (fun _ hk => hk.2.2)); replace HB := am_ hb; have HO106 := am_ (ho); clear HO_5 ho hb hg hat))
     go_roundg k1
     case measure => have := HK1.out; omega
     case rel => exact ⟨(y104), (wrap64 (x11_1 + 1)), fr, H', kS HK1, ⟨gN HO106⟩, ⟨gV HO_9⟩, ⟨gV HO_102002⟩, ⟨gB BK101⟩, ⟨bh HB⟩⟩
    rw [if_neg c8] at H
    have c8b0 : (((rd_T37 l0_2 x11_1).f1.f1) == a1) = false := beq_eq_false_iff_ne.mpr c8
    have c8b1 : (((rd_T37 l0_2 x11_1).f1.f1) != a1) = true := bne_iff_ne.mpr c8
    have H' := am_ H
    clear H
    have p102 : 0 ≤ (x11_1 : Int) := dt
    have q102 : x11_1 < (l0_2.length : Int) := dt
    obtain ⟨ad102, A102_3, c102_3, A102_4, c102_4, e102, hx102_0, hx102_1, hx102_2, hx102_3, hx102_4, hx102_5, hx102_6, hl102_3, hi102_3, hl102_4, hi102_4⟩ := at_T37 (Kd.V_reads' HO_9.out).2.2 x11_1 p102 q102
    cases e102
    obtain ⟨ce102, hce102, hMe102, hcc102⟩ := Kd.V_get HO_9.out z37 x11_1 p102 (by first | exact q102 | exact dt | (have e_ := (Kd.V_reads' HO_9.out).1; omega))
    obtain ⟨ua102_3, uc102_3, ua102_4, uc102_4, rfl, ul102_3, ge102_3, ul102_4, ge102_4⟩ := k37_openF hMe102
    have hv102_3 := hcc102 3 _ rfl
    rw [add_field _ _ 3 (by omega)] at hv102_3
    replace hv102_3 := Option.some.inj (hv102_3.symm.trans hx102_3)
    injection hv102_3 with hva_ hvn_ hvc_
    rw [hva_] at ge102_3
    rw [hvc_] at ul102_3
    have HL102_3 := am_ (show Kd.V k129 129 _ w.heap.size _ _ ((rd_T37 l0_2 x11_1).f1.f2) from Kd.V_mk ul102_3 ge102_3)
    clear hva_ hvn_ hvc_ ge102_3 ul102_3
    have hv102_4 := hcc102 4 _ rfl
    rw [add_field _ _ 4 (by omega)] at hv102_4
    replace hv102_4 := Option.some.inj (hv102_4.symm.trans hx102_4)
    injection hv102_4 with hva_ hvn_ hvc_
    rw [hva_] at ge102_4
    rw [hvc_] at ul102_4
    have HL102_4 := am_ (show Kd.V Kd.string 9 _ w.heap.size _ _ ((rd_T37 l0_2 x11_1).f1.f3) from Kd.V_mk ul102_4 ge102_4)
    clear hva_ hvn_ hvc_ ge102_4 ul102_4 hcc102 hce102
    have HR102_3 := am_ hi102_3
    have HC102_3 := am_ hl102_3
    clear hi102_3 hl102_3
    have HR102_4 := am_ hi102_4
    have HC102_4 := am_ hl102_4
    clear hi102_4 hl102_4
    replace p102 := eq_true p102
    replace q102 := eq_true q102
    go_wp2_with (first | ((with_reducible refine gd_ 7 ?_); refine be_ 7 #[.string (⟨#[]⟩ : ByteArray), .int .i64 0, .int .i64 0, .slice none 0 0, .slice none 0 0, .int .i64 0, .int .i64 0] 37 ?_; intro gb103 hg w16 hbox hb; replace HO_5 := tNe HO_5 hg hb; replace HO_9 := tVe HO_9 hg hb; replace HO_102002 := tVe HO_102002 hg hb; replace HL102_3 := tVe HL102_3 hg hb; replace HL102_4 := tVe HL102_4 hg hb; replace HR102_3 := tCb HR102_3 hb; replace HR102_4 := tCb HR102_4 hb; have BK103 := am_ hbox; have GW103 := tG HB hg; have GE103 := tG HB hg; replace HB := tHb HB hb; have NB101_103 := tL BK101 hg; have NB103_101 := tR BK101 hg; replace BK101 := tBb BK101 hb; clear hb hbox hg; have hnb17 := NB103_101.out; have hnc17 := NB101_103.out; obtain ⟨z18_0, z18_1, z18_2, z18_3, z18_4, z18_5, z18_6, y18_0, y18_1, y18_2, y18_3, y18_4, y18_5, y18_6⟩ := bx7 BK103))
    go_roundg k1
    case measure => have := HK1.out; omega
    case rel => exact ⟨(x5_1), (wrap64 (x11_1 + 1)), fr, H', kS HK1, ⟨gN HO_5⟩, ⟨gV HO_9⟩, ⟨gV HO_102002⟩, ⟨gB BK101⟩, ⟨bh HB⟩⟩
   rw [if_neg c5] at H
   have c5b0 : decide (x11_1 < (l0_2.length : Int)) = false := decide_eq_false c5
   clear c5
   obtain rfl := Option.some.inj H
   go_wp2
   go_ret
   exact ⟨_, fe, gN HO_5, bh HB⟩

def toDX (x : SE) : Si.DX := ⟨x.f0, x.f1.f1, x.f1.f3⟩
theorem pe_of {W : World} {ok : Nat → Prop} {r : Si.ER} {x : SE} (h : RelE W ok r x) : Si.PE W r (toDX x) := ⟨h.1, h.2.2.1, h.2.2.2.2.2.2.1, Si.row_str h.2.2.2.2.2.2.2.2.1⟩
theorem pes_of {W : World} {ok : Nat → Prop} : ∀ {rs : List Si.ER} {xs : List SE}, RelsE W ok rs xs → Si.PEs W rs (xs.map toDX)
 | [], [], _ => trivial
 | r :: rs, x :: xs, h => ⟨pe_of h.1, pes_of h.2⟩
 | [], x :: xs, h => h.elim
 | r :: rs, [], h => h.elim
theorem rdE_eq (m : List SE) (i : Nat) (h : i < m.length) : rd_T37 m (i : Int) = m[i] := by
 unfold rd_T37
 rw [Int.toNat_natCast, List.getD_eq_getElem?_getD, List.getElem?_eq_getElem h]; rfl
theorem dagRound_l (l : List SE) (hl : l.length ≤ 1073741824) (r : Int) : ∀ (n i : Nat) (acc : List SE), i + n = l.length → acc.length ≤ i → Fm.l0 (n + 1) r acc l (l.length : Int) (i : Int) = some (acc ++ (l.drop i).filter (fun x => x.f1.f1 == r))
 | 0, i, acc, h, ha => by
  rw [Fm.l0, if_neg (by omega), List.drop_eq_nil_of_le (by omega), List.filter_nil, List.append_nil]
 | n + 1, i, acc, h, ha => by
  have hi : i < l.length := by omega
  have ew : wrap64 ((i : Int) + 1) = ((i + 1 : Nat) : Int) := Si.wrap_succ (by omega)
  rw [Fm.l0, if_pos (by omega), if_pos (by omega), if_pos (by omega), rdE_eq l i hi, ew, List.drop_eq_getElem_cons hi, List.filter_cons]
  by_cases hq : (l[i]).f1.f1 = r
  ·
   rw [if_pos hq, if_pos (by omega), if_pos (by rw [hq]; exact beq_self_eq_true r)]
   have ih := dagRound_l l hl r n (i + 1) (acc ++ [l[i]]) (by omega) (by simp; omega)
   rw [List.append_assoc] at ih
   exact ih
  rw [if_neg hq, if_neg (by simpa using hq)]
  exact dagRound_l l hl r n (i + 1) acc (by omega) (by omega)
theorem dagRound_f (l : List SE) (hl : l.length ≤ 1073741824) (a b r : Int) : Fm.f (l.length + 1) a b l r = some (l.filter (fun x => x.f1.f1 == r)) := by
 have h := dagRound_l l hl r l.length 0 [] (by omega) (by simp)
 rw [List.drop_zero, List.nil_append] at h
 exact h
theorem filter_map_dx (l : List SE) (r : Int) : Si.roundX (l.map toDX) r = (l.filter (fun x => x.f1.f1 == r)).map toDX := by
 unfold Si.roundX
 rw [List.filter_map]
 rfl
theorem find_map_dx (l : List SE) (dg : ByteArray) : Si.firstX (l.map toDX) dg = (l.find? (fun x => x.f0.toList == dg.toList)).map toDX := by
 unfold Si.firstX
 rw [List.find?_map]
 rfl
def Fx.l0 : Nat → List ByteArray → ByteArray → Int → Int → Option (Int)
 | 0, _, _, _, _ => none
 | k + 1, x0, x1, x7, x8 => if x8 < x7 then (if 0 ≤ x8 then (if x8 < (x0.length : Int) then (if x1.toList = (rdOf ByteArray.empty x0 x8).toList then (some x8) else (Fx.l0 k x0 x1 x7 (wrap64 (x8 + 1)))) else (none)) else (none)) else (some (-1))
def Fx.f (k : Nat) (l0 : List ByteArray) (a1 : ByteArray) : Option (Int) := Fx.l0 k l0 a1 (l0.length : Int) 0
set_option maxHeartbeats 8000000 in
set_option maxRecDepth 100000 in
theorem Fx.calls (k : Nat) (A0 : Option Addr) (c0 : Nat) (l0 : List ByteArray) (a1 : ByteArray) (r : Int) (w : World) (hr0 : Kd.C Kd.string w A0 l0.length l0) (hc0 : l0.length ≤ c0) (h : Fx.f k l0 a1 = some r) :
  Calls Try.prog 79 #[.slice A0 l0.length c0, .string a1] w fun e w' => e = .returned (.int .i64 r) ∧ Drawn0 w w' := by
 have HR0 := am_ hr0
 have HC0 := am_ hc0
 clear hr0 hc0
 have H : (Fx.l0 k l0 a1 (l0.length : Int) 0) = some r := h
 clear h
 have H' := am_ H
 clear H
 go_enter Try.func79, Try.ntmps79
 go_wp2
 go_loopg [8] k (fun kq v8 w' => ∃ (x8_1 : Int), v8 = .int .i64 x8_1 ∧ Asc (Fx.l0 kq l0 a1 (l0.length : Int) x8_1 = some r) ∧ Asc (kq ≤ k) ∧ Drawn0 w w')
 case atStart => exact ⟨(0), fr, H', ⟨Nat.le_refl _⟩, by repeat (first | exact Drawn0.refl _ | apply Drawn0.step)⟩
 case round =>
  clear H'
  obtain ⟨x8_1, rfl, HA, HK1, ⟨m1, rfl⟩⟩ := hrel
  cases gk with
  | zero => exact absurd HA.out (by simp [Fx.l0])
  | succ k1 =>
   have H := HA.out
   clear HA
   simp only [Fx.l0] at H
   by_cases c3 : x8_1 < (l0.length : Int)
   ·
    rw [if_pos c3] at H
    have c3b0 : decide (x8_1 < (l0.length : Int)) = true := decide_eq_true c3
    clear c3
    revert H
    refine gi (fun c4b0 H => ?_)
    revert H
    refine gi (fun c5b0 H => ?_)
    by_cases c6 : a1.toList = (rdOf ByteArray.empty l0 x8_1).toList
    ·
     rw [if_pos c6] at H
     have c6b0 : (a1.toList == (rdOf ByteArray.empty l0 x8_1).toList) = true := beq_iff_eq.mpr c6
     have c6b1 : (a1.toList != (rdOf ByteArray.empty l0 x8_1).toList) = false := bne_eq_false_iff_eq.mpr c6
     clear c6
     obtain rfl := Option.some.inj H
     have p107 : 0 ≤ (x8_1 : Int) := dt
     have q107 : x8_1 < (l0.length : Int) := dt
     obtain ⟨ad107, e107, hx107_0⟩ := Kd.at_string HR0.out x8_1 p107 q107
     cases e107
     replace p107 := eq_true p107
     replace q107 := eq_true q107
     go_wp2
     go_ret
     exact ⟨fr, by repeat (first | exact Drawn0.refl _ | apply Drawn0.step)⟩
    rw [if_neg c6] at H
    have c6b0 : (a1.toList == (rdOf ByteArray.empty l0 x8_1).toList) = false := beq_eq_false_iff_ne.mpr c6
    have c6b1 : (a1.toList != (rdOf ByteArray.empty l0 x8_1).toList) = true := bne_iff_ne.mpr c6
    have H' := am_ H
    clear H
    have p107 : 0 ≤ (x8_1 : Int) := dt
    have q107 : x8_1 < (l0.length : Int) := dt
    obtain ⟨ad107, e107, hx107_0⟩ := Kd.at_string HR0.out x8_1 p107 q107
    cases e107
    replace p107 := eq_true p107
    replace q107 := eq_true q107
    go_wp2
    go_roundg k1
    case measure => have := HK1.out; omega
    case rel => exact ⟨(wrap64 (x8_1 + 1)), fr, H', kS HK1, by repeat (first | exact Drawn0.refl _ | apply Drawn0.step)⟩
   rw [if_neg c3] at H
   have c3b0 : decide (x8_1 < (l0.length : Int)) = false := decide_eq_false c3
   clear c3
   obtain rfl := Option.some.inj H
   go_wp2
   go_ret
   exact ⟨fr, by repeat (first | exact Drawn0.refl _ | apply Drawn0.step)⟩

def Gf.f (k : Nat) (l0 : List ByteArray) (a1 : ByteArray) : Option (Bool) := (Fx.f k l0 a1).bind fun t108 => (some (decide (t108 ≥ 0)))
set_option maxHeartbeats 8000000 in
set_option maxRecDepth 100000 in
theorem Gf.calls (k : Nat) (A0 : Option Addr) (c0 : Nat) (l0 : List ByteArray) (a1 : ByteArray) (r : Bool) (w : World) (hr0 : Kd.C Kd.string w A0 l0.length l0) (hc0 : l0.length ≤ c0) (h : Gf.f k l0 a1 = some r) :
  Calls Try.prog 53 #[.slice A0 l0.length c0, .string a1] w fun e w' => e = .returned (.bool r) ∧ Drawn0 w w' := by
 have HR0 := am_ hr0
 have HC0 := am_ hc0
 clear hr0 hc0
 have H : ((Fx.f k l0 a1).bind fun t108 => (some (decide (t108 ≥ 0)))) = some r := h
 clear h
 replace H := Option.bind_eq_some_iff.mp H
 obtain ⟨t108, A30, H⟩ := H
 replace H : (some (decide (t108 ≥ 0))) = some r := H
 have A3 := am_ A30
 clear A30
 obtain rfl := Option.some.inj H
 go_enter Try.func53, Try.ntmps53
 go_wp2_with (first | ((with_reducible refine gate_callee (f := 79) rfl ?_); refine gl_ (some 7) Try.func79 #[.slice A0 l0.length c0, .string a1] ?_; (with_reducible refine (Fx.calls k _ _ l0 a1 t108 _ ?side1 ?side2 A3.out).mono ?_); (case side1 => exact gC HR0); (case side2 => exact HC0.out); rintro e w' ⟨rfl, ⟨nd, rfl⟩⟩; refine ⟨_, rfl, ?_⟩))
 go_ret
 exact ⟨fr, by repeat (first | exact Drawn0.refl _ | apply Drawn0.step)⟩

def Fy.f (a0_0 : Int) (a0_1 : Int) : Option (Bool) := if a0_0 ≥ 0 then (if a0_0 < 10007 then (if a0_1 ≥ 0 then (some (decide (a0_1 < 10007))) else (some false)) else (some false)) else (some false)
set_option maxHeartbeats 8000000 in
set_option maxRecDepth 100000 in
theorem Fy.calls (a0_0 : Int) (a0_1 : Int) (r : Bool) (w : World) (h : Fy.f a0_0 a0_1 = some r) :
  Calls Try.prog 116 #[.agg #[.int .i64 a0_0, .int .i64 a0_1]] w fun e w' => e = .returned (.bool r) ∧ Below w.heap.size w w' := by
 have hu33 := Try.underlying33
 have HB := am_ (Below.refl w.heap.size w)
 have H : (if a0_0 ≥ 0 then (if a0_0 < 10007 then (if a0_1 ≥ 0 then (some (decide (a0_1 < 10007))) else (some false)) else (some false)) else (some false)) = some r := h
 clear h
 by_cases c2 : a0_0 ≥ 0
 ·
  rw [if_pos c2] at H
  have c2b0 : decide (0 ≤ a0_0) = true := decide_eq_true c2
  clear c2
  by_cases c3 : a0_0 < 10007
  ·
   rw [if_pos c3] at H
   have c3b0 : decide (a0_0 < 10007) = true := decide_eq_true c3
   clear c3
   by_cases c4 : a0_1 ≥ 0
   ·
    rw [if_pos c4] at H
    have c4b0 : decide (0 ≤ a0_1) = true := decide_eq_true c4
    clear c4
    obtain rfl := Option.some.inj H
    go_enter Try.func116, Try.ntmps116
    go_wp2_with (first | ((with_reducible refine gd_ 1 ?_); refine be_ 1 #[.int .i64 a0_0, .int .i64 a0_1] 33 ?_; intro gb109 hg w5 hbox hb; have BK109 := am_ hbox; have GW109 := tG HB hg; have GE109 := tG HB hg; replace HB := tHb HB hb; clear hb hbox hg; obtain ⟨z6_0, z6_1, y6_0, y6_1⟩ := bx2 BK109))
    go_ret
    exact ⟨fe, bh HB⟩
   rw [if_neg c4] at H
   have c4b0 : decide (0 ≤ a0_1) = false := decide_eq_false c4
   clear c4
   obtain rfl := Option.some.inj H
   go_enter Try.func116, Try.ntmps116
   go_wp2_with (first | ((with_reducible refine gd_ 1 ?_); refine be_ 1 #[.int .i64 a0_0, .int .i64 a0_1] 33 ?_; intro gb109 hg w7 hbox hb; have BK109 := am_ hbox; have GW109 := tG HB hg; have GE109 := tG HB hg; replace HB := tHb HB hb; clear hb hbox hg; obtain ⟨z8_0, z8_1, y8_0, y8_1⟩ := bx2 BK109))
   go_ret
   exact ⟨fe, bh HB⟩
  rw [if_neg c3] at H
  have c3b0 : decide (a0_0 < 10007) = false := decide_eq_false c3
  clear c3
  obtain rfl := Option.some.inj H
  go_enter Try.func116, Try.ntmps116
  go_wp2_with (first | ((with_reducible refine gd_ 1 ?_); refine be_ 1 #[.int .i64 a0_0, .int .i64 a0_1] 33 ?_; intro gb109 hg w9 hbox hb; have BK109 := am_ hbox; have GW109 := tG HB hg; have GE109 := tG HB hg; replace HB := tHb HB hb; clear hb hbox hg; obtain ⟨z10_0, z10_1, y10_0, y10_1⟩ := bx2 BK109))
  go_ret
  exact ⟨fe, bh HB⟩
 rw [if_neg c2] at H
 have c2b0 : decide (0 ≤ a0_0) = false := decide_eq_false c2
 clear c2
 obtain rfl := Option.some.inj H
 go_enter Try.func116, Try.ntmps116
 go_wp2_with (first | ((with_reducible refine gd_ 1 ?_); refine be_ 1 #[.int .i64 a0_0, .int .i64 a0_1] 33 ?_; intro gb109 hg w11 hbox hb; have BK109 := am_ hbox; have GW109 := tG HB hg; have GE109 := tG HB hg; replace HB := tHb HB hb; clear hb hbox hg; obtain ⟨z12_0, z12_1, y12_0, y12_1⟩ := bx2 BK109))
 go_ret
 exact ⟨fe, bh HB⟩

def G6.f (a0_0 : Int) (a0_1 : Int) (a1_0 : Int) (a1_1 : Int) : Option (Int × Int) := some (Fl.opE Gm.mul (a0_0, a0_1) (a1_0, a1_1))
theorem G6.calls (a0_0 : Int) (a0_1 : Int) (a1_0 : Int) (a1_1 : Int) (r1 : Int) (r2 : Int) (w : World) (h : G6.f a0_0 a0_1 a1_0 a1_1 = some (r1, r2)) :
  Calls Try.prog 120 #[.agg #[.int .i64 a0_0, .int .i64 a0_1], .agg #[.int .i64 a1_0, .int .i64 a1_1]] w fun e w' => e = .returned (.agg #[.int .i64 r1, .int .i64 r2]) ∧ Below w.heap.size w w' := by
 have e := Option.some.inj h
 have c := Fl.mul_c a0_0 a0_1 a1_0 a1_1 w
 rw [e] at c
 exact c

def Ga.f (a0_0 : Int) (a0_1 : Int) (a1 : Int) : Option (Int × Int) := if 0 ≤ a1 ∧ a1 < 18446744073709551616 then some (Fl.powE (a0_0, a0_1) a1.toNat) else none
theorem Ga.calls (a0_0 : Int) (a0_1 : Int) (a1 : Int) (r1 : Int) (r2 : Int) (w : World) (h : Ga.f a0_0 a0_1 a1 = some (r1, r2)) :
  Calls Try.prog 144 #[.agg #[.int .i64 a0_0, .int .i64 a0_1], .int .u64 a1] w fun e w' => e = .returned (.agg #[.int .i64 r1, .int .i64 r2]) ∧ Below w.heap.size w w' := by
 unfold Ga.f at h
 by_cases hb : 0 ≤ a1 ∧ a1 < 18446744073709551616
 ·
  rw [if_pos hb] at h
  have e := Option.some.inj h
  obtain ⟨n, rfl⟩ := Int.eq_ofNat_of_zero_le hb.1
  rw [Int.toNat_natCast] at e
  have c := Fl.powE_c a0_0 a0_1 n (by omega) w
  rw [e] at c
  exact c
 rw [if_neg hb] at h; cases h

def Ge.f (a0_0 : Int) (a0_1 : Int) : Option (Int × Int × Int) := (Fy.f a0_0 a0_1).bind fun t112 => (if t112 = true then (if (a0_0 == 0 && (a0_1 == 0)) = true then (some (0, 0, 1)) else ((Ga.f a0_0 a0_1 100140047).bind fun bt113 => (some (bt113.1, bt113.2, 0)))) else (some (0, 0, 1)))
set_option maxHeartbeats 8000000 in
set_option maxRecDepth 100000 in
theorem Ge.calls (a0_0 : Int) (a0_1 : Int) (r1 : Int) (r2 : Int) (r3 : Int) (w : World) (h : Ge.f a0_0 a0_1 = some (r1, r2, r3)) :
  Calls Try.prog 139 #[.agg #[.int .i64 a0_0, .int .i64 a0_1]] w fun e w' => e = .returned (.tuple #[.agg #[.int .i64 r1, .int .i64 r2], .int .i64 r3]) ∧ Below w.heap.size w w' := by
 have hu33 := Try.underlying33
 have HB := am_ (Below.refl w.heap.size w)
 have H : ((Fy.f a0_0 a0_1).bind fun t112 => (if t112 = true then (if (a0_0 == 0 && (a0_1 == 0)) = true then (some (0, 0, 1)) else ((Ga.f a0_0 a0_1 100140047).bind fun bt113 => (some (bt113.1, bt113.2, 0)))) else (some (0, 0, 1)))) = some (r1, r2, r3) := h
 clear h
 replace H := Option.bind_eq_some_iff.mp H
 obtain ⟨t112, A20, H⟩ := H
 replace H : (if t112 = true then (if (a0_0 == 0 && (a0_1 == 0)) = true then (some (0, 0, 1)) else ((Ga.f a0_0 a0_1 100140047).bind fun bt113 => (some (bt113.1, bt113.2, 0)))) else (some (0, 0, 1))) = some (r1, r2, r3) := H
 have A2 := am_ A20
 clear A20
 by_cases c3 : t112 = true
 ·
  subst c3
  rw [if_pos rfl] at H
  by_cases c4 : (a0_0 == 0 && (a0_1 == 0)) = true
  ·
   rw [if_pos c4] at H
   have c4b0 : (a0_0 == 0 && (a0_1 == 0)) = true := c4
   (try (have c4b1 : decide (a0_0 = 0 && (a0_1 == 0)) = true := by simpa using c4))
   (try (have c4b2 : (a0_0 == 0 && (a0_1 == 0)) = true := by simpa using c4))
   clear c4
   simp only [Option.some.injEq, Prod.mk.injEq] at H
   obtain ⟨rfl, rfl, rfl⟩ := H
   go_enter Try.func139, Try.ntmps139
   go_wp2_with (first | ((with_reducible refine gd_ 1 ?_); refine be_ 1 #[.int .i64 a0_0, .int .i64 a0_1] 33 ?_; intro gb110 hg w5 hbox hb; have BK110 := am_ hbox; have GW110 := tG HB hg; have GE110 := tG HB hg; replace HB := tHb HB hb; clear hb hbox hg) | ((with_reducible refine gd_ 2 ?_); refine be_ 2 #[.int .i64 0, .int .i64 0] 33 ?_; intro gb111 hg w6 hbox hb; have BK111 := am_ hbox; have GW111 := tG HB hg; have GE111 := tG HB hg; replace HB := tHb HB hb; have NB110_111 := tL BK110 hg; have NB111_110 := tR BK110 hg; replace BK110 := tBb BK110 hb; clear hb hbox hg; have hnb7 := NB110_111.out; have hnc7 := NB111_110.out; obtain ⟨z8_0, z8_1, y8_0, y8_1⟩ := bx2 BK110) | ((with_reducible refine gate_callee (f := 116) rfl ?_); refine gl_ (some 5) Try.func116 #[.agg #[.int .i64 a0_0, .int .i64 a0_1]] ?_; (with_reducible refine (Fy.calls a0_0 a0_1 true _ A2.out).mono ?_); rintro e w9 ⟨rfl, hb⟩; refine ⟨_, rfl, ?_⟩; replace BK110 := tBb BK110 hb; replace BK111 := tBb BK111 hb; replace HB := tHb HB hb; (try clear hb); obtain ⟨z10_0, z10_1, y10_0, y10_1⟩ := bx2 BK110; obtain ⟨z11_0, z11_1, y11_0, y11_1⟩ := bx2 BK111))
   refine bodyPost_ret (results_ct rfl _ _ gb111 33 #[.int .i64 0, .int .i64 0] (0, 0) _ rfl (gP BK111 rfl) Try.underlying33 rfl (by kernel_rfl)) rfl ?_
   exact ⟨fe, bh HB⟩
  rw [if_neg c4] at H
  have c4b0 : (a0_0 == 0 && (a0_1 == 0)) = false := by simpa using c4
  (try (have c4b1 : decide (a0_0 = 0 && (a0_1 == 0)) = false := by simpa using c4))
  (try (have c4b2 : (a0_0 == 0 && (a0_1 == 0)) = false := by simpa using c4))
  (try (have c4b3 : ¬ (a0_0 = 0 && (a0_1 == 0)) := by simpa using c4))
  clear c4
  replace H := Option.bind_eq_some_iff.mp H
  obtain ⟨⟨t113, t114⟩, A120, H⟩ := H
  replace H : (some (t113, t114, 0)) = some (r1, r2, r3) := H
  have A12 := am_ A120
  clear A120
  simp only [Option.some.injEq, Prod.mk.injEq] at H
  obtain ⟨rfl, rfl, rfl⟩ := H
  go_enter Try.func139, Try.ntmps139
  go_wp2_with (first | ((with_reducible refine gd_ 1 ?_); refine be_ 1 #[.int .i64 a0_0, .int .i64 a0_1] 33 ?_; intro gb110 hg w13 hbox hb; have BK110 := am_ hbox; have GW110 := tG HB hg; have GE110 := tG HB hg; replace HB := tHb HB hb; clear hb hbox hg) | ((with_reducible refine gd_ 2 ?_); refine be_ 2 #[.int .i64 0, .int .i64 0] 33 ?_; intro gb111 hg w14 hbox hb; have BK111 := am_ hbox; have GW111 := tG HB hg; have GE111 := tG HB hg; replace HB := tHb HB hb; have NB110_111 := tL BK110 hg; have NB111_110 := tR BK110 hg; replace BK110 := tBb BK110 hb; clear hb hbox hg; have hnb15 := NB110_111.out; have hnc15 := NB111_110.out; obtain ⟨z16_0, z16_1, y16_0, y16_1⟩ := bx2 BK110) | ((with_reducible refine gate_callee (f := 116) rfl ?_); refine gl_ (some 5) Try.func116 #[.agg #[.int .i64 a0_0, .int .i64 a0_1]] ?_; (with_reducible refine (Fy.calls a0_0 a0_1 true _ A2.out).mono ?_); rintro e w17 ⟨rfl, hb⟩; refine ⟨_, rfl, ?_⟩; replace BK110 := tBb BK110 hb; replace BK111 := tBb BK111 hb; replace HB := tHb HB hb; (try clear hb); obtain ⟨z18_0, z18_1, y18_0, y18_1⟩ := bx2 BK110) | ((with_reducible refine gate_callee (f := 144) rfl ?_); refine gl_ (some 14) Try.func144 #[.agg #[.int .i64 a0_0, .int .i64 a0_1], .int .u64 100140047] ?_; (with_reducible refine (Ga.calls a0_0 a0_1 100140047 t113 t114 _ A12.out).mono ?_); rintro e w19 ⟨rfl, hb⟩; refine ⟨_, rfl, ?_⟩; replace BK110 := tBb BK110 hb; replace BK111 := tBb BK111 hb; replace HB := tHb HB hb; (try clear hb); obtain ⟨z20_0, z20_1, y20_0, y20_1⟩ := bx2 BK111))
  refine bodyPost_ret (results_ct rfl _ _ gb111 33 #[.int .i64 t113, .int .i64 t114] (0, 0) _ rfl (gP BK111 rfl) Try.underlying33 rfl (by kernel_rfl)) rfl ?_
  exact ⟨fe, bh HB⟩
 replace c3 := Bool.eq_false_iff.mpr c3
 subst c3
 rw [if_neg (show ¬ (false = true) by decide)] at H
 simp only [Option.some.injEq, Prod.mk.injEq] at H
 obtain ⟨rfl, rfl, rfl⟩ := H
 go_enter Try.func139, Try.ntmps139
 go_wp2_with (first | ((with_reducible refine gd_ 1 ?_); refine be_ 1 #[.int .i64 a0_0, .int .i64 a0_1] 33 ?_; intro gb110 hg w21 hbox hb; have BK110 := am_ hbox; have GW110 := tG HB hg; have GE110 := tG HB hg; replace HB := tHb HB hb; clear hb hbox hg) | ((with_reducible refine gd_ 2 ?_); refine be_ 2 #[.int .i64 0, .int .i64 0] 33 ?_; intro gb111 hg w22 hbox hb; have BK111 := am_ hbox; have GW111 := tG HB hg; have GE111 := tG HB hg; replace HB := tHb HB hb; have NB110_111 := tL BK110 hg; have NB111_110 := tR BK110 hg; replace BK110 := tBb BK110 hb; clear hb hbox hg; have hnb23 := NB110_111.out; have hnc23 := NB111_110.out; obtain ⟨z24_0, z24_1, y24_0, y24_1⟩ := bx2 BK110) | ((with_reducible refine gate_callee (f := 116) rfl ?_); refine gl_ (some 5) Try.func116 #[.agg #[.int .i64 a0_0, .int .i64 a0_1]] ?_; (with_reducible refine (Fy.calls a0_0 a0_1 false _ A2.out).mono ?_); rintro e w25 ⟨rfl, hb⟩; refine ⟨_, rfl, ?_⟩; replace BK110 := tBb BK110 hb; replace BK111 := tBb BK111 hb; replace HB := tHb HB hb; (try clear hb); obtain ⟨z26_0, z26_1, y26_0, y26_1⟩ := bx2 BK111))
 refine bodyPost_ret (results_ct rfl _ _ gb111 33 #[.int .i64 0, .int .i64 0] (0, 0) _ rfl (gP BK111 rfl) Try.underlying33 rfl (by kernel_rfl)) rfl ?_
 exact ⟨fe, bh HB⟩

def Gn.f (a0_0 : Int) (a0_1 : Int) (a1_0 : Int) (a1_1 : Int) : Option (Int × Int) := some (Fl.opE Gm.sub (a0_0, a0_1) (a1_0, a1_1))
theorem Gn.calls (a0_0 : Int) (a0_1 : Int) (a1_0 : Int) (a1_1 : Int) (r1 : Int) (r2 : Int) (w : World) (h : Gn.f a0_0 a0_1 a1_0 a1_1 = some (r1, r2)) :
  Calls Try.prog 140 #[.agg #[.int .i64 a0_0, .int .i64 a0_1], .agg #[.int .i64 a1_0, .int .i64 a1_1]] w fun e w' => e = .returned (.agg #[.int .i64 r1, .int .i64 r2]) ∧ Below w.heap.size w w' := by
 have e := Option.some.inj h
 have c := Fl.sub_c a0_0 a0_1 a1_0 a1_1 w
 rw [e] at c
 exact c

end Go.Proofs.Ytcbfnmabckjijaa.PTuskStops
