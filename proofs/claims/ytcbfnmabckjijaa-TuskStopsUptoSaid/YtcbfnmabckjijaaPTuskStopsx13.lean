-- written by a program of this session (pp.py), out of the kit's print and this session's contracts
import Derived.Test.YtcbfnmabckjijaaPTuskStopsx0
import Derived.Test.YtcbfnmabckjijaaPTuskStopsx8
import Derived.Test.YtcbfnmabckjijaaPTuskStopsx11
import Derived.Test.YtcbfnmabckjijaaPTuskStopsx12
import Derived.Test.YtcbfnmabckjijaaVTuskStopsPh
namespace Go.Proofs.Ytcbfnmabckjijaa.PTuskStops
open Go.RowKit Go.Proofs.YtcbfnmabckjijaaW.PrintWords Go.Proofs.YtcbfnmabckjijaaW.PrintLast Go.Proofs.YtcbfnmabckjijaaW.PrintMore
set_option linter.unusedVariables false
set_option linter.unusedSimpArgs false

def Fk.l0 : Nat → List ByteArray → Int → Int → Int → List (S129) → List ByteArray → Int → Int → Option (ByteArray × Int)
 | 0, _, _, _, _, _, _, _, _ => none
 | k + 1, x7, x8, x349000, x349001, x349002, x349003, x349004, x349005 => if x8 < (x349002.length : Int) then (if 0 ≤ x8 then ((Ft.f k ((rd_T129 x349002 x8).f0) ((rd_T129 x349002 x8).f1) ((rd_T129 x349002 x8).f2)).bind fun bt351 => (if x7.length < 8796093022208 then (Fk.l0 k (x7 ++ [bt351.1]) (wrap64 (x8 + 1)) x349000 x349001 x349002 x349003 x349004 x349005) else (none))) else (none)) else ((Fb.f (IntKind.u64.wrap (x349000))).bind fun t356 => ((Fb.f (IntKind.u64.wrap (x349001))).bind fun t357 => (if t356.size + t357.size ≤ 9223372036854775807 then ((Fv.f x7).bind fun t358 => (if (t356 ++ t357).size + t358.size ≤ 9223372036854775807 then ((Fv.f x349003).bind fun t359 => (if ((t356 ++ t357) ++ t358).size + t359.size ≤ 9223372036854775807 then ((Fb.f (IntKind.u64.wrap (x349004))).bind fun t360 => (if (((t356 ++ t357) ++ t358) ++ t359).size + t360.size ≤ 9223372036854775807 then ((Fb.f (IntKind.u64.wrap (x349005))).bind fun t361 => (if ((((t356 ++ t357) ++ t358) ++ t359) ++ t360).size + t361.size ≤ 9223372036854775807 then (some (((((t356 ++ t357) ++ t358) ++ t359) ++ t360) ++ t361, 0)) else (none))) else (none))) else (none))) else (none))) else (none))))
def Fk.f (k : Nat) (a0_0 : Int) (a0_1 : Int) (l0_2 : List (S129)) (l0_3 : List ByteArray) (a0_4 : Int) (a0_5 : Int) (a1 : Int) : Option (ByteArray × Int) := (F0.f k a0_0 a0_1 l0_2 l0_3 a0_4 a0_5 a1).bind fun t349 => (if t349 = true then (Fk.l0 k ([] : List ByteArray) 0 a0_0 a0_1 l0_2 l0_3 a0_4 a0_5) else (some ((⟨#[]⟩ : ByteArray), 1)))
theorem Fk.mono_l : ∀ k, (∀ y0 y1 y2 y3 y4 y5 y6 y7, LeO (Fk.l0 k y0 y1 y2 y3 y4 y5 y6 y7) (Fk.l0 (k + 1) y0 y1 y2 y3 y4 y5 y6 y7))
 | 0 => fun _ _ _ _ _ _ _ _ r h => by simp [Fk.l0] at h
 | k + 1 => by
  have ih0 := Fk.mono_l k
  ·
   intro y0 y1 y2 y3 y4 y5 y6 y7
   unfold Fk.l0
   repeat' first | (with_reducible first | exact ih0 _ _ _ _ _ _ _ _ | exact Ft.mono _ _ _ _ | exact F0.mono _ _ _ _ _ _ _ _ | exact LeO.refl _ | exact LeO.none _ | refine LeO.ite ?_ ?_ | refine LeO.bind ?_ (fun _ => ?_)) | exact ih0 _ _ _ _ _ _ _ _ | refine LeO.ite ?_ ?_ | refine LeO.bind ?_ (fun _ => ?_)
theorem Fk.mono : ∀ a0 a1 a2 a3 a4 a5 a6 k, LeO (Fk.f k a0 a1 a2 a3 a4 a5 a6) (Fk.f (k + 1) a0 a1 a2 a3 a4 a5 a6) := by
 intro a0 a1 a2 a3 a4 a5 a6 k
 have ih0 := Fk.mono_l k
 unfold Fk.f
 repeat' first | (with_reducible first | exact ih0 _ _ _ _ _ _ _ _ | exact Ft.mono _ _ _ _ | exact F0.mono _ _ _ _ _ _ _ _ | exact LeO.refl _ | exact LeO.none _ | refine LeO.ite ?_ ?_ | refine LeO.bind ?_ (fun _ => ?_)) | exact ih0 _ _ _ _ _ _ _ _ | refine LeO.ite ?_ ?_ | refine LeO.bind ?_ (fun _ => ?_)
def Fk.T10 : Bool × List (List Nat × List Nat) := (true, [([], []), ([0], [0]), ([1], [1]), ([2], [2]), ([], []), ([4], [4]), ([5], [5]), ([6, 3], [6]), ([3, 7], [3, 7]), ([], []), ([9, 7], [9]), ([8, 10], [8, 10]), ([], []), ([12], [12]), ([13, 10], [13]), ([11, 14], [11, 14]), ([15, 14, 0, 1, 2, 3, 4, 5, 6, 7, 8, 9, 10, 11, 12, 13, 14, 15], [15])])
def Fk.B10 : List Nat := [0, 1, 3, 7, 0, 16, 48, 127, 255, 0, 767, 2047, 0, 4096, 14079, 32767, 65535]
theorem Fk.tab10 : rtab .any (opsOf Try.f87 10) = Fk.T10 := by kernel_rfl
theorem Fk.bits10 : waitsOk Fk.T10.2 Fk.B10 = true := by kernel_rfl
def Fk.T11 : Bool × List (List Nat × List Nat) := (true, [([], []), ([], []), ([1], [1]), ([2], [2]), ([3], [3]), ([4], [4]), ([0, 5], [0, 5]), ([], []), ([7], [7]), ([8], [8]), ([9], [9]), ([10, 5], [10]), ([6, 11], [6, 11]), ([12, 11, 0, 1, 2, 3, 4, 5, 6, 7, 8, 9, 10, 11, 12], [12]), ([13, 0, 1, 2, 3, 4, 5, 6, 7, 8, 9, 10, 11, 12, 13], [])])
def Fk.B11 : List Nat := [0, 0, 2, 6, 14, 30, 63, 0, 128, 384, 896, 1982, 4095, 8191, 16383]
theorem Fk.tab11 : rtab .any (opsOf Try.f87 11) = Fk.T11 := by kernel_rfl
theorem Fk.bits11 : waitsOk Fk.T11.2 Fk.B11 = true := by kernel_rfl
set_option maxHeartbeats 8000000 in
set_option maxRecDepth 100000 in
theorem Fk.calls (k : Nat) (a0_0 : Int) (a0_1 : Int) (A0_2 : Option Addr) (c0_2 : Nat) (l0_2 : List (S129)) (A0_3 : Option Addr) (c0_3 : Nat) (l0_3 : List ByteArray) (a0_4 : Int) (a0_5 : Int) (a1 : Int) (r1 : ByteArray) (r2 : Int) (w : World) (hr0_2 : Kd.C k129 w A0_2 l0_2.length l0_2) (hc0_2 : l0_2.length ≤ c0_2) (hr0_3 : Kd.C Kd.string w A0_3 l0_3.length l0_3) (hc0_3 : l0_3.length ≤ c0_3) (h : Fk.f k a0_0 a0_1 l0_2 l0_3 a0_4 a0_5 a1 = some (r1, r2)) :
  Calls Try.prog 87 #[.agg #[.int .i64 a0_0, .int .i64 a0_1, .slice A0_2 l0_2.length c0_2, .slice A0_3 l0_3.length c0_3, .int .i64 a0_4, .int .i64 a0_5], .int .i64 a1] w fun e w' => e = .returned (.tuple #[.string r1, .int .i64 r2]) ∧ Below w.heap.size w w' := by
 have hu35 := Try.underlying35
 have hu129 := Try.underlying129
 have HR0_2 := am_ hr0_2
 have HC0_2 := am_ hc0_2
 clear hr0_2 hc0_2
 have HR0_3 := am_ hr0_3
 have HC0_3 := am_ hc0_3
 clear hr0_3 hc0_3
 have HB := am_ (Below.refl w.heap.size w)
 have H : ((F0.f k a0_0 a0_1 l0_2 l0_3 a0_4 a0_5 a1).bind fun t349 => (if t349 = true then (Fk.l0 k ([] : List ByteArray) 0 a0_0 a0_1 l0_2 l0_3 a0_4 a0_5) else (some ((⟨#[]⟩ : ByteArray), 1)))) = some (r1, r2) := h
 clear h
 replace H := Option.bind_eq_some_iff.mp H
 obtain ⟨t349, A30, H⟩ := H
 replace H : (if t349 = true then (Fk.l0 k ([] : List ByteArray) 0 a0_0 a0_1 l0_2 l0_3 a0_4 a0_5) else (some ((⟨#[]⟩ : ByteArray), 1))) = some (r1, r2) := H
 have A3 := am_ A30
 clear A30
 by_cases c4 : t349 = true
 ·
  subst c4
  rw [if_pos rfl] at H
  have H' := am_ H
  clear H
  go_enter Try.func87, Try.ntmps87
  go_wp2_with (first | ((with_reducible refine gd_ 2 ?_); refine be_ 2 #[.int .i64 a0_0, .int .i64 a0_1, .slice A0_2 l0_2.length c0_2, .slice A0_3 l0_3.length c0_3, .int .i64 a0_4, .int .i64 a0_5] 35 ?_; intro gb348 hg w5 hbox hb; have BK348 := am_ hbox; have GW348 := tG HB hg; have GE348 := tG HB hg; replace HB := tHb HB hb; clear hb hbox hg; obtain ⟨z6_0, z6_1, z6_2, z6_3, z6_4, z6_5, y6_0, y6_1, y6_2, y6_3, y6_4, y6_5⟩ := bx6 BK348) | ((with_reducible refine gate_callee (f := 103) rfl ?_); refine gl_ (some 14) Try.func103 #[.agg #[.int .i64 a0_0, .int .i64 a0_1, .slice A0_2 l0_2.length c0_2, .slice A0_3 l0_3.length c0_3, .int .i64 a0_4, .int .i64 a0_5], .int .i64 a1] ?_; (with_reducible refine (F0.calls k a0_0 a0_1 _ _ l0_2 _ _ l0_3 a0_4 a0_5 a1 true _ ?side1 ?side2 ?side3 ?side4 A3.out).mono ?_); (case side1 => exact gCB HR0_2 HB); (case side2 => exact HC0_2.out); (case side3 => exact gCB HR0_3 HB); (case side4 => exact HC0_3.out); rintro e w7 ⟨rfl, hb⟩; refine ⟨_, rfl, ?_⟩; replace BK348 := tBb BK348 hb; replace HB := tHb HB hb; (try clear hb)))
  go_loopg [7, 8] k (fun kq v7 v8 w' => ∃ (x7_1 : List ByteArray) (x8_1 : Int), v8 = .int .i64 x8_1 ∧ Asc (Fk.l0 kq x7_1 x8_1 a0_0 a0_1 l0_2 l0_3 a0_4 a0_5 = some (r1, r2)) ∧ Asc (kq ≤ k) ∧ Asc (Kd.R Kd.string 9 w' w.heap.size (fun _ => True) v7 x7_1) ∧ Asc (w'.heap[gb348]? = some (.cells #[.int .i64 a0_0, .int .i64 a0_1, (.slice A0_2 l0_2.length c0_2), (.slice A0_3 l0_3.length c0_3), .int .i64 a0_4, .int .i64 a0_5] 35 (0, 0))) ∧ Asc (Below w.heap.size w w'))
  case atStart => exact ⟨(([] : List ByteArray)), (0), fr, H', ⟨Nat.le_refl _⟩, ⟨kn⟩, ⟨gB BK348⟩, ⟨bh HB⟩⟩
  case round =>
   clear H'
   try clear c4 z6_0 z6_1 z6_2 z6_3 z6_4 z6_5 y6_0 y6_1 y6_2 y6_3 y6_4 y6_5
   obtain ⟨x7_1, x8_1, rfl, HA, HK1, HO_7, BK348, HB⟩ := hrel
   cases gk with
   | zero => exact absurd HA.out (by simp [Fk.l0])
   | succ k1 =>
    have H := HA.out
    clear HA
    simp only [Fk.l0] at H
    by_cases c8 : x8_1 < (l0_2.length : Int)
    ·
     rw [if_pos c8] at H
     have c8b0 : decide (x8_1 < (l0_2.length : Int)) = true := decide_eq_true c8
     clear c8
     revert H
     refine gi (fun c9b0 H => ?_)
     replace H := Option.bind_eq_some_iff.mp H
     obtain ⟨⟨t351, t352⟩, A100, H⟩ := H
     replace H : (if x7_1.length < 8796093022208 then (Fk.l0 k1 (x7_1 ++ [t351]) (wrap64 (x8_1 + 1)) a0_0 a0_1 l0_2 l0_3 a0_4 a0_5) else (none)) = some (r1, r2) := H
     have A10 := am_ A100
     clear A100
     revert H
     refine gi' (fun c11 H => ?_)
     have LMc11 := am_ c11
     clear c11
     obtain ⟨y353, hy353⟩ : ∃ y_ : List ByteArray, y_ = (x7_1 ++ [t351]) := ⟨_, rfl⟩
     replace H : (Fk.l0 k1 y353 (wrap64 (x8_1 + 1)) a0_0 a0_1 l0_2 l0_3 a0_4 a0_5) = some (r1, r2) := by first | (rw [hy353]; with_reducible exact H) | (have H := (Option.bind_some _ _).symm.trans H; first | (rw [hy353]; with_reducible exact H) | with_reducible exact H) | with_reducible exact H | (rw [hy353]; exact H) | exact H
     have Ny353 := am_ hy353
     clear hy353
     have H' := am_ H
     clear H
     obtain ⟨z12_0, z12_1, z12_2, z12_3, z12_4, z12_5, y12_0, y12_1, y12_2, y12_3, y12_4, y12_5⟩ := bx6 BK348
     have p350 : 0 ≤ (x8_1 : Int) := dt
     have q350 : x8_1 < (l0_2.length : Int) := dt
     obtain ⟨ad350, A350_2, c350_2, e350, hx350_0, hx350_1, hx350_2, hl350_2, hi350_2⟩ := at_T129 HR0_2.out x8_1 p350 q350
     cases e350
     replace hx350_0 := ce HB hx350_0
     replace hx350_1 := ce HB hx350_1
     replace hx350_2 := ce HB hx350_2
     have HR350_2 := am_ hi350_2
     have HC350_2 := am_ hl350_2
     clear hi350_2 hl350_2
     replace p350 := eq_true p350
     replace q350 := eq_true q350
     go_wp2_with (first | ((with_reducible refine gate_callee (f := 104) rfl ?_); refine gl_ (some 30) Try.func104 #[.agg #[.int .i64 ((rd_T129 l0_2 x8_1).f0), .int .i64 ((rd_T129 l0_2 x8_1).f1), .slice A350_2 ((rd_T129 l0_2 x8_1).f2).length c350_2]] ?_; (with_reducible refine (Ft.calls k1 ((rd_T129 l0_2 x8_1).f0) ((rd_T129 l0_2 x8_1).f1) _ _ ((rd_T129 l0_2 x8_1).f2) t351 t352 _ ?side1 ?side2 A10.out).mono ?_); (case side1 => exact gCB HR350_2 HB); (case side2 => exact HC350_2.out); rintro e w13 ⟨rfl, hb⟩; refine ⟨_, rfl, ?_⟩; replace HO_7 := tRb HO_7 hb; replace BK348 := tBb BK348 hb; replace HB := tHb HB hb; (try clear hb)) | ((with_reducible refine gate_builtin (b := .append) (xs := #[.tmp 33, .tmp 35]) rfl ?_); at_builtin; refine Kd.R_append Kd.string (w0 := w) w.heap.size rfl (.tmp 33) (.tmp 35) 31 9 (.string ⟨#[]⟩) 16 rfl Try.underlying31 info9 rfl (by decide) (by omega) u7 x7_1 t351 [.string t351] (fun _ => True) (fun _ => False) rfl rfl ?aP (fun _ hk => hk.elim) ?aF ?aO ?aB ?aS ?aL ?_; (case aP => exact rfl); (case aB => exact (bh HB)); (case aF => exact (fun _ _ => trivial)); (case aO => exact (hR HO_7)); (case aS => exact (below_size (bh HB))); (case aL => have := LMc11.out; omega); intro v354 w14 ho hb hg hat; rw [← Ny353.out] at ho; replace BK348 := tBg BK348 hg (Kd.R_ne HO_7.out BK348.out (by decide)); replace HB := am_ hb; have HO355 := am_ (ho); clear HO_7 ho hb hg hat))
     go_roundg k1
     case measure => have := HK1.out; omega
     case rel => exact ⟨(y353), (wrap64 (x8_1 + 1)), fr, H', kS HK1, ⟨hR HO355⟩, ⟨gB BK348⟩, ⟨bh HB⟩⟩
    rw [if_neg c8] at H
    have c8b0 : decide (x8_1 < (l0_2.length : Int)) = false := decide_eq_false c8
    clear c8
    replace H := Option.bind_eq_some_iff.mp H
    obtain ⟨t356, A150, H⟩ := H
    replace H : ((Fb.f (IntKind.u64.wrap (a0_1))).bind fun t357 => (if t356.size + t357.size ≤ 9223372036854775807 then ((Fv.f x7_1).bind fun t358 => (if (t356 ++ t357).size + t358.size ≤ 9223372036854775807 then ((Fv.f l0_3).bind fun t359 => (if ((t356 ++ t357) ++ t358).size + t359.size ≤ 9223372036854775807 then ((Fb.f (IntKind.u64.wrap (a0_4))).bind fun t360 => (if (((t356 ++ t357) ++ t358) ++ t359).size + t360.size ≤ 9223372036854775807 then ((Fb.f (IntKind.u64.wrap (a0_5))).bind fun t361 => (if ((((t356 ++ t357) ++ t358) ++ t359) ++ t360).size + t361.size ≤ 9223372036854775807 then (some (((((t356 ++ t357) ++ t358) ++ t359) ++ t360) ++ t361, 0)) else (none))) else (none))) else (none))) else (none))) else (none))) = some (r1, r2) := H
    have A15 := am_ A150
    clear A150
    replace H := Option.bind_eq_some_iff.mp H
    obtain ⟨t357, A160, H⟩ := H
    replace H : (if t356.size + t357.size ≤ 9223372036854775807 then ((Fv.f x7_1).bind fun t358 => (if (t356 ++ t357).size + t358.size ≤ 9223372036854775807 then ((Fv.f l0_3).bind fun t359 => (if ((t356 ++ t357) ++ t358).size + t359.size ≤ 9223372036854775807 then ((Fb.f (IntKind.u64.wrap (a0_4))).bind fun t360 => (if (((t356 ++ t357) ++ t358) ++ t359).size + t360.size ≤ 9223372036854775807 then ((Fb.f (IntKind.u64.wrap (a0_5))).bind fun t361 => (if ((((t356 ++ t357) ++ t358) ++ t359) ++ t360).size + t361.size ≤ 9223372036854775807 then (some (((((t356 ++ t357) ++ t358) ++ t359) ++ t360) ++ t361, 0)) else (none))) else (none))) else (none))) else (none))) else (none)) = some (r1, r2) := H
    have A16 := am_ A160
    clear A160
    revert H
    refine gi' (fun c17 H => ?_)
    have c17b0 := eq_true c17
    have c17b1 : decide (t356.size + t357.size ≤ 9223372036854775807) = true := decide_eq_true c17
    try have c17b2 : (9223372036854775807 < t356.size + t357.size) = False := eq_false (Nat.not_lt.2 c17)
    replace H := Option.bind_eq_some_iff.mp H
    obtain ⟨t358, A180, H⟩ := H
    replace H : (if (t356 ++ t357).size + t358.size ≤ 9223372036854775807 then ((Fv.f l0_3).bind fun t359 => (if ((t356 ++ t357) ++ t358).size + t359.size ≤ 9223372036854775807 then ((Fb.f (IntKind.u64.wrap (a0_4))).bind fun t360 => (if (((t356 ++ t357) ++ t358) ++ t359).size + t360.size ≤ 9223372036854775807 then ((Fb.f (IntKind.u64.wrap (a0_5))).bind fun t361 => (if ((((t356 ++ t357) ++ t358) ++ t359) ++ t360).size + t361.size ≤ 9223372036854775807 then (some (((((t356 ++ t357) ++ t358) ++ t359) ++ t360) ++ t361, 0)) else (none))) else (none))) else (none))) else (none)) = some (r1, r2) := H
    have A18 := am_ A180
    clear A180
    revert H
    refine gi' (fun c19 H => ?_)
    have c19b0 := eq_true c19
    have c19b1 : decide ((t356 ++ t357).size + t358.size ≤ 9223372036854775807) = true := decide_eq_true c19
    have c19u := c19
    (try simp only [ByteArray.size_append] at c19u)
    (try simp only [show ∀ x : UInt8, (⟨#[x]⟩ : ByteArray).size = 1 from fun _ => rfl] at c19u)
    have c19v := eq_false (Nat.not_lt.2 c19u)
    replace c19u := eq_true c19u
    try have c19b2 : (9223372036854775807 < (t356 ++ t357).size + t358.size) = False := eq_false (Nat.not_lt.2 c19)
    replace H := Option.bind_eq_some_iff.mp H
    obtain ⟨t359, A200, H⟩ := H
    replace H : (if ((t356 ++ t357) ++ t358).size + t359.size ≤ 9223372036854775807 then ((Fb.f (IntKind.u64.wrap (a0_4))).bind fun t360 => (if (((t356 ++ t357) ++ t358) ++ t359).size + t360.size ≤ 9223372036854775807 then ((Fb.f (IntKind.u64.wrap (a0_5))).bind fun t361 => (if ((((t356 ++ t357) ++ t358) ++ t359) ++ t360).size + t361.size ≤ 9223372036854775807 then (some (((((t356 ++ t357) ++ t358) ++ t359) ++ t360) ++ t361, 0)) else (none))) else (none))) else (none)) = some (r1, r2) := H
    have A20 := am_ A200
    clear A200
    revert H
    refine gi' (fun c21 H => ?_)
    have c21b0 := eq_true c21
    have c21b1 : decide (((t356 ++ t357) ++ t358).size + t359.size ≤ 9223372036854775807) = true := decide_eq_true c21
    have c21u := c21
    (try simp only [ByteArray.size_append] at c21u)
    (try simp only [show ∀ x : UInt8, (⟨#[x]⟩ : ByteArray).size = 1 from fun _ => rfl] at c21u)
    have c21v := eq_false (Nat.not_lt.2 c21u)
    replace c21u := eq_true c21u
    try have c21b2 : (9223372036854775807 < ((t356 ++ t357) ++ t358).size + t359.size) = False := eq_false (Nat.not_lt.2 c21)
    replace H := Option.bind_eq_some_iff.mp H
    obtain ⟨t360, A220, H⟩ := H
    replace H : (if (((t356 ++ t357) ++ t358) ++ t359).size + t360.size ≤ 9223372036854775807 then ((Fb.f (IntKind.u64.wrap (a0_5))).bind fun t361 => (if ((((t356 ++ t357) ++ t358) ++ t359) ++ t360).size + t361.size ≤ 9223372036854775807 then (some (((((t356 ++ t357) ++ t358) ++ t359) ++ t360) ++ t361, 0)) else (none))) else (none)) = some (r1, r2) := H
    have A22 := am_ A220
    clear A220
    revert H
    refine gi' (fun c23 H => ?_)
    have c23b0 := eq_true c23
    have c23b1 : decide ((((t356 ++ t357) ++ t358) ++ t359).size + t360.size ≤ 9223372036854775807) = true := decide_eq_true c23
    have c23u := c23
    (try simp only [ByteArray.size_append] at c23u)
    (try simp only [show ∀ x : UInt8, (⟨#[x]⟩ : ByteArray).size = 1 from fun _ => rfl] at c23u)
    have c23v := eq_false (Nat.not_lt.2 c23u)
    replace c23u := eq_true c23u
    try have c23b2 : (9223372036854775807 < (((t356 ++ t357) ++ t358) ++ t359).size + t360.size) = False := eq_false (Nat.not_lt.2 c23)
    replace H := Option.bind_eq_some_iff.mp H
    obtain ⟨t361, A240, H⟩ := H
    replace H : (if ((((t356 ++ t357) ++ t358) ++ t359) ++ t360).size + t361.size ≤ 9223372036854775807 then (some (((((t356 ++ t357) ++ t358) ++ t359) ++ t360) ++ t361, 0)) else (none)) = some (r1, r2) := H
    have A24 := am_ A240
    clear A240
    revert H
    refine gi' (fun c25 H => ?_)
    have c25b0 := eq_true c25
    have c25b1 : decide (((((t356 ++ t357) ++ t358) ++ t359) ++ t360).size + t361.size ≤ 9223372036854775807) = true := decide_eq_true c25
    have c25u := c25
    (try simp only [ByteArray.size_append] at c25u)
    (try simp only [show ∀ x : UInt8, (⟨#[x]⟩ : ByteArray).size = 1 from fun _ => rfl] at c25u)
    have c25v := eq_false (Nat.not_lt.2 c25u)
    replace c25u := eq_true c25u
    try have c25b2 : (9223372036854775807 < ((((t356 ++ t357) ++ t358) ++ t359) ++ t360).size + t361.size) = False := eq_false (Nat.not_lt.2 c25)
    simp only [Option.some.injEq, Prod.mk.injEq] at H
    obtain ⟨rfl, rfl⟩ := H
    obtain ⟨z26_0, z26_1, z26_2, z26_3, z26_4, z26_5, y26_0, y26_1, y26_2, y26_3, y26_4, y26_5⟩ := bx6 BK348
    try go_wp2
    replace HO_7 := am_ (Kd.R_drew HO_7.out)
    replace BK348 := am_ (blk_drew BK348.out)
    replace HB := am_ (below_drew1 HB.out)
    refine start_ (n := 17) (S := fun w' => w'.cell? ⟨gb348, 0, none⟩ = some (.int .i64 a0_0) ∧ w'.cell? ⟨gb348, 1, none⟩ = some (.int .i64 a0_1) ∧ w'.cell? ⟨gb348, 2, none⟩ = some (.slice A0_2 l0_2.length c0_2) ∧ w'.cell? ⟨gb348, 3, none⟩ = some (.slice A0_3 l0_3.length c0_3) ∧ w'.cell? ⟨gb348, 4, none⟩ = some (.int .i64 a0_4) ∧ w'.cell? ⟨gb348, 5, none⟩ = some (.int .i64 a0_5)) (ds := []) #[false, false, false, false, false, false, false, false, false, false, false, false, false, false, false, false, false] (by kernel_rfl) rfl rfl ⟨(blk_cell BK348.out 0).trans rfl, (blk_cell BK348.out 1).trans rfl, (blk_cell BK348.out 2).trans rfl, (blk_cell BK348.out 3).trans rfl, (blk_cell BK348.out 4).trans rfl, (blk_cell BK348.out 5).trans rfl⟩ (fun hHeld => ?_); refine with_tabW Fk.tab10 Fk.bits10 (fun HT_ HW_ => ?_)
    generalize wr.drew = w27 at HO_7 BK348 HB hHeld ⊢
    refine pu_ 0 (some 37) 1 HT_ (h := ?_)
    refine pu_ 4 (some 41) 17 HT_ (h := ?_)
    refine pu_ 9 (some 46) 529 HT_ (h := ?_)
    refine pu_ 12 (some 49) 4625 HT_ (h := ?_)
    refine tk_ 1 (some 38) 4627 HT_ HW_ hHeld (h := ?_)
    refine pu_ 2 (some 39) 4631 HT_ (h := ?_)
    refine tk_ 5 (some 42) 4663 HT_ HW_ hHeld (h := ?_)
    refine pu_ 6 (some 43) 4727 HT_ (h := ?_)
    refine tk_ 13 (some 50) 12919 HT_ HW_ hHeld (h := ?_)
    refine one_ (i := 3) (N := some 40) #[true, true, true, true, true, true, true, false, false, true, false, false, true, true, false, false, false] rfl rfl (one_of HT_.out (by kernel_rfl)) (by decide) (fun K hK => ?_)
    refine goes_ Try.func105 (by kernel_rfl) rfl #[.int .u64 (IntKind.u64.wrap (a0_0))] (by rfl) rfl rfl (by (try simp only [List.map_toArray, List.map_cons, List.map_nil]); first | done | rfl | (simp only [List.length_drop, List.length_take]; rfl)) ?_
    with_reducible refine (Fb.calls (IntKind.u64.wrap (a0_0)) t356 _ A15.out).mono ?_
    rintro e w28 ⟨rfl, hb⟩
    refine ⟨_, rfl, ?_⟩
    replace HO_7 := tRb HO_7 hb
    replace BK348 := tBb BK348 hb
    replace HB := tHb HB hb
    (try clear hb)
    (try clear hb2)
    (try clear hk)
    (try clear hi)
    refine hK.out _ _ ⟨(blk_cell BK348.out 0).trans rfl, (blk_cell BK348.out 1).trans rfl, (blk_cell BK348.out 2).trans rfl, (blk_cell BK348.out 3).trans rfl, (blk_cell BK348.out 4).trans rfl, (blk_cell BK348.out 5).trans rfl⟩ (fun hHeld => ?_)
    clear hK K
    refine norm_ (a' := ?_) ?_ ?_
    rotate_left
    ·
     show Act.put _ (some 40) _ = _
     simp only [Act.put, List.setIfInBounds_toArray, List.set_cons_zero, List.set_cons_succ, i64_w, i32_w]
     rfl
    refine one_ (i := 7) (N := some 44) #[true, true, true, true, true, true, true, true, false, true, false, false, true, true, false, false, false] rfl rfl (one_of HT_.out (by kernel_rfl)) (by decide) (fun K hK => ?_)
    refine goes_ Try.func105 (by kernel_rfl) rfl #[.int .u64 (IntKind.u64.wrap (a0_1))] (by rfl) rfl rfl (by (try simp only [List.map_toArray, List.map_cons, List.map_nil]); first | done | rfl | (simp only [List.length_drop, List.length_take]; rfl)) ?_
    with_reducible refine (Fb.calls (IntKind.u64.wrap (a0_1)) t357 _ A16.out).mono ?_
    rintro e w29 ⟨rfl, hb⟩
    refine ⟨_, rfl, ?_⟩
    replace HO_7 := tRb HO_7 hb
    replace BK348 := tBb BK348 hb
    replace HB := tHb HB hb
    (try clear hb)
    (try clear hb2)
    (try clear hk)
    (try clear hi)
    obtain ⟨Ao30, co30, eo30⟩ := Kd.R_slice HO_7.out
    (first | subst eo30 | (injection eo30 with f1_ f2_ f3_; have f4_ := f1_.symm; have f5_ := f3_.symm; clear f1_ f2_ f3_; subst f4_; subst f5_))
    refine hK.out _ _ ⟨(blk_cell BK348.out 0).trans rfl, (blk_cell BK348.out 1).trans rfl, (blk_cell BK348.out 2).trans rfl, (blk_cell BK348.out 3).trans rfl, (blk_cell BK348.out 4).trans rfl, (blk_cell BK348.out 5).trans rfl⟩ (fun hHeld => ?_)
    clear hK K
    refine norm_ (a' := ?_) ?_ ?_
    rotate_left
    ·
     show Act.put _ (some 44) _ = _
     simp only [Act.put, List.setIfInBounds_toArray, List.set_cons_zero, List.set_cons_succ, i64_w, i32_w]
     rfl
    refine pu_ 8 (some 45) 13311 HT_ (h := ?_)
    refine one_ (i := 10) (N := some 47) #[true, true, true, true, true, true, true, true, true, true, true, false, true, true, false, false, false] rfl rfl (one_of HT_.out (by kernel_rfl)) (by decide) (fun K hK => ?_)
    refine goes_ Try.func106 (by kernel_rfl) rfl #[.slice Ao30 x7_1.length co30] (by rfl) rfl rfl (by (try simp only [List.map_toArray, List.map_cons, List.map_nil]); first | done | rfl | (simp only [List.length_drop, List.length_take]; rfl)) ?_
    with_reducible refine (Fv.calls _ _ x7_1 t358 _ ?side1 ?side2 A18.out).mono ?_
    (case side1 => repeat (first | exact (Kd.R_reads' HO_7.out).2.2 | (with_reducible refine Kd.C_alloc ?_ _) | (with_reducible refine Kd.C_drewN ?_ _) | (with_reducible refine Kd.C_drew ?_)))
    (case side2 => exact (Kd.R_reads' HO_7.out).2.1)
    rintro e w31 ⟨rfl, hb⟩
    refine ⟨_, rfl, ?_⟩
    replace HO_7 := tRb HO_7 hb
    replace BK348 := tBb BK348 hb
    replace HB := tHb HB hb
    (try clear hb)
    (try clear hb2)
    (try clear hk)
    (try clear hi)
    refine hK.out _ _ ⟨(blk_cell BK348.out 0).trans rfl, (blk_cell BK348.out 1).trans rfl, (blk_cell BK348.out 2).trans rfl, (blk_cell BK348.out 3).trans rfl, (blk_cell BK348.out 4).trans rfl, (blk_cell BK348.out 5).trans rfl⟩ (fun hHeld => ?_)
    clear hK K
    refine norm_ (a' := ?_) ?_ ?_
    rotate_left
    ·
     show Act.put _ (some 47) _ = _
     simp only [Act.put, List.setIfInBounds_toArray, List.set_cons_zero, List.set_cons_succ, i64_w, i32_w]
     rfl
    refine pu_ 11 (some 48) 16383 HT_ (h := ?_)
    refine one_ (i := 14) (N := some 51) #[true, true, true, true, true, true, true, true, true, true, true, true, true, true, true, false, false] rfl rfl (one_of HT_.out (by kernel_rfl)) (by decide) (fun K hK => ?_)
    refine goes_ Try.func106 (by kernel_rfl) rfl #[.slice A0_3 l0_3.length c0_3] (by rfl) rfl rfl (by (try simp only [List.map_toArray, List.map_cons, List.map_nil]); first | done | rfl | (simp only [List.length_drop, List.length_take]; rfl)) ?_
    with_reducible refine (Fv.calls _ _ l0_3 t359 _ ?side1 ?side2 A20.out).mono ?_
    (case side1 => exact gCB HR0_3 HB)
    (case side2 => exact HC0_3.out)
    rintro e w32 ⟨rfl, hb⟩
    refine ⟨_, rfl, ?_⟩
    replace HO_7 := tRb HO_7 hb
    replace BK348 := tBb BK348 hb
    replace HB := tHb HB hb
    (try clear hb)
    (try clear hb2)
    (try clear hk)
    (try clear hi)
    refine hK.out _ _ ⟨(blk_cell BK348.out 0).trans rfl, (blk_cell BK348.out 1).trans rfl, (blk_cell BK348.out 2).trans rfl, (blk_cell BK348.out 3).trans rfl, (blk_cell BK348.out 4).trans rfl, (blk_cell BK348.out 5).trans rfl⟩ (fun hHeld => ?_)
    clear hK K
    refine norm_ (a' := ?_) ?_ ?_
    rotate_left
    ·
     show Act.put _ (some 51) _ = _
     simp only [Act.put, List.setIfInBounds_toArray, List.set_cons_zero, List.set_cons_succ, i64_w, i32_w]
     rfl
    refine pu_ 15 (some 52) 65535 HT_ (h := ?_)
    refine pu_ 16 (some 11) 131071 HT_ (h := ?_)
    refine done_ (done_of HT_.out (by kernel_rfl)) ?_
    try go_wp2
    replace HO_7 := am_ (Kd.R_drew HO_7.out)
    replace BK348 := am_ (blk_drew BK348.out)
    replace HB := am_ (below_drew1 HB.out)
    refine start_ (n := 15) (S := fun w' => w'.cell? ⟨gb348, 0, none⟩ = some (.int .i64 a0_0) ∧ w'.cell? ⟨gb348, 1, none⟩ = some (.int .i64 a0_1) ∧ w'.cell? ⟨gb348, 2, none⟩ = some (.slice A0_2 l0_2.length c0_2) ∧ w'.cell? ⟨gb348, 3, none⟩ = some (.slice A0_3 l0_3.length c0_3) ∧ w'.cell? ⟨gb348, 4, none⟩ = some (.int .i64 a0_4) ∧ w'.cell? ⟨gb348, 5, none⟩ = some (.int .i64 a0_5)) (ds := []) #[false, false, false, false, false, false, false, false, false, false, false, false, false, false, false] (by kernel_rfl) rfl rfl ⟨(blk_cell BK348.out 0).trans rfl, (blk_cell BK348.out 1).trans rfl, (blk_cell BK348.out 2).trans rfl, (blk_cell BK348.out 3).trans rfl, (blk_cell BK348.out 4).trans rfl, (blk_cell BK348.out 5).trans rfl⟩ (fun hHeld => ?_); refine with_tabW Fk.tab11 Fk.bits11 (fun HT_ HW_ => ?_)
    generalize w32.drew = w33 at HO_7 BK348 HB hHeld ⊢
    refine pu_ 0 (some 53) 1 HT_ (h := ?_)
    refine pu_ 1 (some 54) 3 HT_ (h := ?_)
    refine pu_ 2 (some 55) 7 HT_ (h := ?_)
    refine pu_ 7 (some 60) 135 HT_ (h := ?_)
    refine pu_ 8 (some 61) 391 HT_ (h := ?_)
    refine tk_ 3 (some 56) 399 HT_ HW_ hHeld (h := ?_)
    refine pu_ 4 (some 57) 415 HT_ (h := ?_)
    refine tk_ 9 (some 62) 927 HT_ HW_ hHeld (h := ?_)
    refine pu_ 10 (some 63) 1951 HT_ (h := ?_)
    refine one_ (i := 5) (N := some 58) #[true, true, true, true, true, true, false, true, true, true, true, false, false, false, false] rfl rfl (one_of HT_.out (by kernel_rfl)) (by decide) (fun K hK => ?_)
    refine goes_ Try.func105 (by kernel_rfl) rfl #[.int .u64 (IntKind.u64.wrap (a0_4))] (by rfl) rfl rfl (by (try simp only [List.map_toArray, List.map_cons, List.map_nil]); first | done | rfl | (simp only [List.length_drop, List.length_take]; rfl)) ?_
    with_reducible refine (Fb.calls (IntKind.u64.wrap (a0_4)) t360 _ A22.out).mono ?_
    rintro e w34 ⟨rfl, hb⟩
    refine ⟨_, rfl, ?_⟩
    replace HO_7 := tRb HO_7 hb
    replace BK348 := tBb BK348 hb
    replace HB := tHb HB hb
    (try clear hb)
    (try clear hb2)
    (try clear hk)
    (try clear hi)
    refine hK.out _ _ ⟨(blk_cell BK348.out 0).trans rfl, (blk_cell BK348.out 1).trans rfl, (blk_cell BK348.out 2).trans rfl, (blk_cell BK348.out 3).trans rfl, (blk_cell BK348.out 4).trans rfl, (blk_cell BK348.out 5).trans rfl⟩ (fun hHeld => ?_)
    clear hK K
    refine norm_ (a' := ?_) ?_ ?_
    rotate_left
    ·
     show Act.put _ (some 58) _ = _
     simp only [Act.put, List.setIfInBounds_toArray, List.set_cons_zero, List.set_cons_succ, i64_w, i32_w]
     rfl
    refine pu_ 6 (some 59) 2047 HT_ (h := ?_)
    refine one_ (i := 11) (N := some 64) #[true, true, true, true, true, true, true, true, true, true, true, true, false, false, false] rfl rfl (one_of HT_.out (by kernel_rfl)) (by decide) (fun K hK => ?_)
    refine goes_ Try.func105 (by kernel_rfl) rfl #[.int .u64 (IntKind.u64.wrap (a0_5))] (by rfl) rfl rfl (by (try simp only [List.map_toArray, List.map_cons, List.map_nil]); first | done | rfl | (simp only [List.length_drop, List.length_take]; rfl)) ?_
    with_reducible refine (Fb.calls (IntKind.u64.wrap (a0_5)) t361 _ A24.out).mono ?_
    rintro e w35 ⟨rfl, hb⟩
    refine ⟨_, rfl, ?_⟩
    replace HO_7 := tRb HO_7 hb
    replace BK348 := tBb BK348 hb
    replace HB := tHb HB hb
    (try clear hb)
    (try clear hb2)
    (try clear hk)
    (try clear hi)
    refine hK.out _ _ ⟨(blk_cell BK348.out 0).trans rfl, (blk_cell BK348.out 1).trans rfl, (blk_cell BK348.out 2).trans rfl, (blk_cell BK348.out 3).trans rfl, (blk_cell BK348.out 4).trans rfl, (blk_cell BK348.out 5).trans rfl⟩ (fun hHeld => ?_)
    clear hK K
    refine norm_ (a' := ?_) ?_ ?_
    rotate_left
    ·
     show Act.put _ (some 64) _ = _
     simp only [Act.put, List.setIfInBounds_toArray, List.set_cons_zero, List.set_cons_succ, i64_w, i32_w]
     rfl
    refine pu_ 12 (some 65) 8191 HT_ (h := ?_)
    refine pu_ 13 (some 4) 16383 HT_ (h := ?_)
    refine pu_ 14 (some 5) 32767 HT_ (h := ?_)
    refine done_ (done_of HT_.out (by kernel_rfl)) ?_
    try go_wp2
    go_ret2
    exact ⟨fe, bh HB⟩
 replace c4 := Bool.eq_false_iff.mpr c4
 subst c4
 rw [if_neg (show ¬ (false = true) by decide)] at H
 simp only [Option.some.injEq, Prod.mk.injEq] at H
 obtain ⟨rfl, rfl⟩ := H
 go_enter Try.func87, Try.ntmps87
 go_wp2_with (first | ((with_reducible refine gd_ 2 ?_); refine be_ 2 #[.int .i64 a0_0, .int .i64 a0_1, .slice A0_2 l0_2.length c0_2, .slice A0_3 l0_3.length c0_3, .int .i64 a0_4, .int .i64 a0_5] 35 ?_; intro gb348 hg w36 hbox hb; have BK348 := am_ hbox; have GW348 := tG HB hg; have GE348 := tG HB hg; replace HB := tHb HB hb; clear hb hbox hg; obtain ⟨z37_0, z37_1, z37_2, z37_3, z37_4, z37_5, y37_0, y37_1, y37_2, y37_3, y37_4, y37_5⟩ := bx6 BK348) | ((with_reducible refine gate_callee (f := 103) rfl ?_); refine gl_ (some 14) Try.func103 #[.agg #[.int .i64 a0_0, .int .i64 a0_1, .slice A0_2 l0_2.length c0_2, .slice A0_3 l0_3.length c0_3, .int .i64 a0_4, .int .i64 a0_5], .int .i64 a1] ?_; (with_reducible refine (F0.calls k a0_0 a0_1 _ _ l0_2 _ _ l0_3 a0_4 a0_5 a1 false _ ?side1 ?side2 ?side3 ?side4 A3.out).mono ?_); (case side1 => exact gCB HR0_2 HB); (case side2 => exact HC0_2.out); (case side3 => exact gCB HR0_3 HB); (case side4 => exact HC0_3.out); rintro e w38 ⟨rfl, hb⟩; refine ⟨_, rfl, ?_⟩; replace BK348 := tBb BK348 hb; replace HB := tHb HB hb; (try clear hb)))
 go_ret2
 exact ⟨fe, bh HB⟩

def Fz.f (k : Nat) (a0_0 : Int) (a0_1 : Int) (l0_2 : List (S129)) (l0_3 : List ByteArray) (a0_4 : Int) (a0_5 : Int) (a1 : Int) : Option (ByteArray × Int) := (Fk.f k a0_0 a0_1 l0_2 l0_3 a0_4 a0_5 a1).bind fun bt363 => (if bt363.2 = 0 then (if 1 + bt363.1.size ≤ 9223372036854775807 then ((G4.f ((⟨#[118]⟩ : ByteArray) ++ bt363.1)).bind fun t365 => (some (t365, 0))) else (none)) else (some ((⟨#[]⟩ : ByteArray), bt363.2)))
theorem Fz.mono : ∀ a0 a1 a2 a3 a4 a5 a6 k, LeO (Fz.f k a0 a1 a2 a3 a4 a5 a6) (Fz.f (k + 1) a0 a1 a2 a3 a4 a5 a6) := by
 intro a0 a1 a2 a3 a4 a5 a6 k
 unfold Fz.f
 repeat' first | (with_reducible first | exact Fk.mono _ _ _ _ _ _ _ _ | exact LeO.refl _ | exact LeO.none _ | refine LeO.ite ?_ ?_ | refine LeO.bind ?_ (fun _ => ?_)) | refine LeO.ite ?_ ?_ | refine LeO.bind ?_ (fun _ => ?_)
set_option maxHeartbeats 8000000 in
set_option maxRecDepth 100000 in
theorem Fz.calls (k : Nat) (a0_0 : Int) (a0_1 : Int) (A0_2 : Option Addr) (c0_2 : Nat) (l0_2 : List (S129)) (A0_3 : Option Addr) (c0_3 : Nat) (l0_3 : List ByteArray) (a0_4 : Int) (a0_5 : Int) (a1 : Int) (r1 : ByteArray) (r2 : Int) (w : World) (hr0_2 : Kd.C k129 w A0_2 l0_2.length l0_2) (hc0_2 : l0_2.length ≤ c0_2) (hr0_3 : Kd.C Kd.string w A0_3 l0_3.length l0_3) (hc0_3 : l0_3.length ≤ c0_3) (h : Fz.f k a0_0 a0_1 l0_2 l0_3 a0_4 a0_5 a1 = some (r1, r2)) :
  Calls Try.prog 59 #[.agg #[.int .i64 a0_0, .int .i64 a0_1, .slice A0_2 l0_2.length c0_2, .slice A0_3 l0_3.length c0_3, .int .i64 a0_4, .int .i64 a0_5], .int .i64 a1] w fun e w' => e = .returned (.tuple #[.string r1, .int .i64 r2]) ∧ Below w.heap.size w w' := by
 have hu35 := Try.underlying35
 have HR0_2 := am_ hr0_2
 have HC0_2 := am_ hc0_2
 clear hr0_2 hc0_2
 have HR0_3 := am_ hr0_3
 have HC0_3 := am_ hc0_3
 clear hr0_3 hc0_3
 have HB := am_ (Below.refl w.heap.size w)
 have H : ((Fk.f k a0_0 a0_1 l0_2 l0_3 a0_4 a0_5 a1).bind fun bt363 => (if bt363.2 = 0 then (if 1 + bt363.1.size ≤ 9223372036854775807 then ((G4.f ((⟨#[118]⟩ : ByteArray) ++ bt363.1)).bind fun t365 => (some (t365, 0))) else (none)) else (some ((⟨#[]⟩ : ByteArray), bt363.2)))) = some (r1, r2) := h
 clear h
 replace H := Option.bind_eq_some_iff.mp H
 obtain ⟨⟨t363, t364⟩, A30, H⟩ := H
 replace H : (if t364 = 0 then (if 1 + t363.size ≤ 9223372036854775807 then ((G4.f ((⟨#[118]⟩ : ByteArray) ++ t363)).bind fun t365 => (some (t365, 0))) else (none)) else (some ((⟨#[]⟩ : ByteArray), t364))) = some (r1, r2) := H
 have A3 := am_ A30
 clear A30
 by_cases c4 : t364 = 0
 ·
  rw [if_pos c4] at H
  have c4b0 : (t364 == 0) = true := beq_iff_eq.mpr c4
  have c4b1 : (t364 != 0) = false := bne_eq_false_iff_eq.mpr c4
  clear c4
  revert H
  refine gi' (fun c5 H => ?_)
  have c5b0 := eq_true c5
  have c5b1 : decide (1 + t363.size ≤ 9223372036854775807) = true := decide_eq_true c5
  try have c5b2 : (9223372036854775807 < 1 + t363.size) = False := eq_false (Nat.not_lt.2 c5)
  replace H := Option.bind_eq_some_iff.mp H
  obtain ⟨t365, A60, H⟩ := H
  replace H : (some (t365, 0)) = some (r1, r2) := H
  have A6 := am_ A60
  clear A60
  simp only [Option.some.injEq, Prod.mk.injEq] at H
  obtain ⟨rfl, rfl⟩ := H
  go_enter Try.func59, Try.ntmps59
  go_wp2_with (first | ((with_reducible refine gd_ 2 ?_); refine be_ 2 #[.int .i64 a0_0, .int .i64 a0_1, .slice A0_2 l0_2.length c0_2, .slice A0_3 l0_3.length c0_3, .int .i64 a0_4, .int .i64 a0_5] 35 ?_; intro gb362 hg w7 hbox hb; have BK362 := am_ hbox; have GW362 := tG HB hg; have GE362 := tG HB hg; replace HB := tHb HB hb; clear hb hbox hg; obtain ⟨z8_0, z8_1, z8_2, z8_3, z8_4, z8_5, y8_0, y8_1, y8_2, y8_3, y8_4, y8_5⟩ := bx6 BK362) | ((with_reducible refine gate_callee (f := 87) rfl ?_); refine gl_ (some 11) Try.func87 #[.agg #[.int .i64 a0_0, .int .i64 a0_1, .slice A0_2 l0_2.length c0_2, .slice A0_3 l0_3.length c0_3, .int .i64 a0_4, .int .i64 a0_5], .int .i64 a1] ?_; (with_reducible refine (Fk.calls k a0_0 a0_1 _ _ l0_2 _ _ l0_3 a0_4 a0_5 a1 t363 t364 _ ?side1 ?side2 ?side3 ?side4 A3.out).mono ?_); (case side1 => exact gCB HR0_2 HB); (case side2 => exact HC0_2.out); (case side3 => exact gCB HR0_3 HB); (case side4 => exact HC0_3.out); rintro e w9 ⟨rfl, hb⟩; refine ⟨_, rfl, ?_⟩; replace BK362 := tBb BK362 hb; replace HB := tHb HB hb; (try clear hb)) | ((with_reducible refine gate_callee (f := 88) rfl ?_); refine gl_ (some 19) Try.func88 #[.string ((⟨#[118]⟩ : ByteArray) ++ t363)] ?_; (with_reducible refine (G4.calls ((⟨#[118]⟩ : ByteArray) ++ t363) t365 _ A6.out).mono ?_); rintro e w10 ⟨rfl, hb⟩; refine ⟨_, rfl, ?_⟩; replace BK362 := tBb BK362 hb; replace HB := tHb HB hb; (try clear hb)))
  go_ret2
  exact ⟨fe, bh HB⟩
 rw [if_neg c4] at H
 have c4b0 : (t364 == 0) = false := beq_eq_false_iff_ne.mpr c4
 have c4b1 : (t364 != 0) = true := bne_iff_ne.mpr c4
 simp only [Option.some.injEq, Prod.mk.injEq] at H
 obtain ⟨rfl, rfl⟩ := H
 go_enter Try.func59, Try.ntmps59
 go_wp2_with (first | ((with_reducible refine gd_ 2 ?_); refine be_ 2 #[.int .i64 a0_0, .int .i64 a0_1, .slice A0_2 l0_2.length c0_2, .slice A0_3 l0_3.length c0_3, .int .i64 a0_4, .int .i64 a0_5] 35 ?_; intro gb362 hg w11 hbox hb; have BK362 := am_ hbox; have GW362 := tG HB hg; have GE362 := tG HB hg; replace HB := tHb HB hb; clear hb hbox hg; obtain ⟨z12_0, z12_1, z12_2, z12_3, z12_4, z12_5, y12_0, y12_1, y12_2, y12_3, y12_4, y12_5⟩ := bx6 BK362) | ((with_reducible refine gate_callee (f := 87) rfl ?_); refine gl_ (some 11) Try.func87 #[.agg #[.int .i64 a0_0, .int .i64 a0_1, .slice A0_2 l0_2.length c0_2, .slice A0_3 l0_3.length c0_3, .int .i64 a0_4, .int .i64 a0_5], .int .i64 a1] ?_; (with_reducible refine (Fk.calls k a0_0 a0_1 _ _ l0_2 _ _ l0_3 a0_4 a0_5 a1 t363 t364 _ ?side1 ?side2 ?side3 ?side4 A3.out).mono ?_); (case side1 => exact gCB HR0_2 HB); (case side2 => exact HC0_2.out); (case side3 => exact gCB HR0_3 HB); (case side4 => exact HC0_3.out); rintro e w13 ⟨rfl, hb⟩; refine ⟨_, rfl, ?_⟩; replace BK362 := tBb BK362 hb; replace HB := tHb HB hb; (try clear hb)))
 go_ret2
 exact ⟨fe, bh HB⟩

end Go.Proofs.Ytcbfnmabckjijaa.PTuskStops
