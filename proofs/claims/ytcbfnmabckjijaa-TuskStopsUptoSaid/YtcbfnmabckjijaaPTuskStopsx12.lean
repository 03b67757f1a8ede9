-- written by a program of this session (pp.py), out of the kit's print and this session's contracts
import Derived.Test.YtcbfnmabckjijaaPTuskStopsx0
import Derived.Test.YtcbfnmabckjijaaPTuskStopsx8
import Derived.Test.YtcbfnmabckjijaaPTuskStopsx9
import Derived.Test.YtcbfnmabckjijaaVTuskStopsPh
namespace Go.Proofs.Ytcbfnmabckjijaa.PTuskStops
open Go.RowKit Go.Proofs.YtcbfnmabckjijaaW.PrintWords Go.Proofs.YtcbfnmabckjijaaW.PrintLast Go.Proofs.YtcbfnmabckjijaaW.PrintMore
set_option linter.unusedVariables false
set_option linter.unusedSimpArgs false

def Fv.f (l0 : List ByteArray) : Option ByteArray := if Sa.sizes l0 + 9 ≤ 140737488351232 then some (Sa.rowB l0) else none
theorem Fv.calls (A0 : Option Addr) (c0 : Nat) (l0 : List ByteArray) (r : ByteArray) (w : World) (hr0 : Kd.C Kd.string w A0 l0.length l0) (hc0 : l0.length ≤ c0) (h : Fv.f l0 = some r) :
  Calls Try.prog 106 #[.slice A0 l0.length c0] w fun e w' => e = .returned (.string r) ∧ Below w.heap.size w w' := by
 unfold Fv.f at h
 by_cases hs : Sa.sizes l0 + 9 ≤ 140737488351232
 ·
  rw [if_pos hs] at h
  obtain rfl := Option.some.inj h
  exact Sa.rrow_c A0 c0 l0 w hr0 hs
 rw [if_neg hs] at h; cases h

def Ft.f (k : Nat) (a0_0 : Int) (a0_1 : Int) (l0_2 : List ByteArray) : Option (ByteArray × Int) := (F2.f k a0_0 a0_1 l0_2).bind fun t344 => (if t344 = true then ((Fb.f (IntKind.u64.wrap (a0_0))).bind fun t345 => ((Fb.f (IntKind.u64.wrap (a0_1))).bind fun t346 => (if t345.size + t346.size ≤ 9223372036854775807 then ((Fv.f l0_2).bind fun t347 => (if (t345 ++ t346).size + t347.size ≤ 9223372036854775807 then (some ((t345 ++ t346) ++ t347, 0)) else (none))) else (none)))) else (some ((⟨#[]⟩ : ByteArray), 1)))
theorem Ft.mono : ∀ a0 a1 a2 k, LeO (Ft.f k a0 a1 a2) (Ft.f (k + 1) a0 a1 a2) := by
 intro a0 a1 a2 k
 unfold Ft.f
 repeat' first | (with_reducible first | exact F2.mono _ _ _ _ | exact LeO.refl _ | exact LeO.none _ | refine LeO.ite ?_ ?_ | refine LeO.bind ?_ (fun _ => ?_)) | refine LeO.ite ?_ ?_ | refine LeO.bind ?_ (fun _ => ?_)
def Ft.T4 : Bool × List (List Nat × List Nat) := (true, [([], []), ([0], [0]), ([1], [1]), ([2], [2]), ([], []), ([4], [4]), ([5], [5]), ([6, 3], [6]), ([3, 7], [3, 7]), ([], []), ([9], [9]), ([10, 7], [10]), ([8, 11], [8, 11]), ([12, 11, 0, 1, 2, 3, 4, 5, 6, 7, 8, 9, 10, 11, 12], [12]), ([13, 0, 1, 2, 3, 4, 5, 6, 7, 8, 9, 10, 11, 12, 13], [])])
def Ft.B4 : List Nat := [0, 1, 3, 7, 0, 16, 48, 127, 255, 0, 512, 1791, 4095, 8191, 16383]
theorem Ft.tab4 : rtab .any (opsOf Try.f104 4) = Ft.T4 := by kernel_rfl
theorem Ft.bits4 : waitsOk Ft.T4.2 Ft.B4 = true := by kernel_rfl
set_option maxHeartbeats 8000000 in
set_option maxRecDepth 100000 in
theorem Ft.calls (k : Nat) (a0_0 : Int) (a0_1 : Int) (A0_2 : Option Addr) (c0_2 : Nat) (l0_2 : List ByteArray) (r1 : ByteArray) (r2 : Int) (w : World) (hr0_2 : Kd.C Kd.string w A0_2 l0_2.length l0_2) (hc0_2 : l0_2.length ≤ c0_2) (h : Ft.f k a0_0 a0_1 l0_2 = some (r1, r2)) :
  Calls Try.prog 104 #[.agg #[.int .i64 a0_0, .int .i64 a0_1, .slice A0_2 l0_2.length c0_2]] w fun e w' => e = .returned (.tuple #[.string r1, .int .i64 r2]) ∧ Below w.heap.size w w' := by
 have hu129 := Try.underlying129
 have HR0_2 := am_ hr0_2
 have HC0_2 := am_ hc0_2
 clear hr0_2 hc0_2
 have HB := am_ (Below.refl w.heap.size w)
 have H : ((F2.f k a0_0 a0_1 l0_2).bind fun t344 => (if t344 = true then ((Fb.f (IntKind.u64.wrap (a0_0))).bind fun t345 => ((Fb.f (IntKind.u64.wrap (a0_1))).bind fun t346 => (if t345.size + t346.size ≤ 9223372036854775807 then ((Fv.f l0_2).bind fun t347 => (if (t345 ++ t346).size + t347.size ≤ 9223372036854775807 then (some ((t345 ++ t346) ++ t347, 0)) else (none))) else (none)))) else (some ((⟨#[]⟩ : ByteArray), 1)))) = some (r1, r2) := h
 clear h
 replace H := Option.bind_eq_some_iff.mp H
 obtain ⟨t344, A20, H⟩ := H
 replace H : (if t344 = true then ((Fb.f (IntKind.u64.wrap (a0_0))).bind fun t345 => ((Fb.f (IntKind.u64.wrap (a0_1))).bind fun t346 => (if t345.size + t346.size ≤ 9223372036854775807 then ((Fv.f l0_2).bind fun t347 => (if (t345 ++ t346).size + t347.size ≤ 9223372036854775807 then (some ((t345 ++ t346) ++ t347, 0)) else (none))) else (none)))) else (some ((⟨#[]⟩ : ByteArray), 1))) = some (r1, r2) := H
 have A2 := am_ A20
 clear A20
 by_cases c3 : t344 = true
 ·
  subst c3
  rw [if_pos rfl] at H
  replace H := Option.bind_eq_some_iff.mp H
  obtain ⟨t345, A40, H⟩ := H
  replace H : ((Fb.f (IntKind.u64.wrap (a0_1))).bind fun t346 => (if t345.size + t346.size ≤ 9223372036854775807 then ((Fv.f l0_2).bind fun t347 => (if (t345 ++ t346).size + t347.size ≤ 9223372036854775807 then (some ((t345 ++ t346) ++ t347, 0)) else (none))) else (none))) = some (r1, r2) := H
  have A4 := am_ A40
  clear A40
  replace H := Option.bind_eq_some_iff.mp H
  obtain ⟨t346, A50, H⟩ := H
  replace H : (if t345.size + t346.size ≤ 9223372036854775807 then ((Fv.f l0_2).bind fun t347 => (if (t345 ++ t346).size + t347.size ≤ 9223372036854775807 then (some ((t345 ++ t346) ++ t347, 0)) else (none))) else (none)) = some (r1, r2) := H
  have A5 := am_ A50
  clear A50
  revert H
  refine gi' (fun c6 H => ?_)
  have c6b0 := eq_true c6
  have c6b1 : decide (t345.size + t346.size ≤ 9223372036854775807) = true := decide_eq_true c6
  try have c6b2 : (9223372036854775807 < t345.size + t346.size) = False := eq_false (Nat.not_lt.2 c6)
  replace H := Option.bind_eq_some_iff.mp H
  obtain ⟨t347, A70, H⟩ := H
  replace H : (if (t345 ++ t346).size + t347.size ≤ 9223372036854775807 then (some ((t345 ++ t346) ++ t347, 0)) else (none)) = some (r1, r2) := H
  have A7 := am_ A70
  clear A70
  revert H
  refine gi' (fun c8 H => ?_)
  have c8b0 := eq_true c8
  have c8b1 : decide ((t345 ++ t346).size + t347.size ≤ 9223372036854775807) = true := decide_eq_true c8
  have c8u := c8
  (try simp only [ByteArray.size_append] at c8u)
  (try simp only [show ∀ x : UInt8, (⟨#[x]⟩ : ByteArray).size = 1 from fun _ => rfl] at c8u)
  have c8v := eq_false (Nat.not_lt.2 c8u)
  replace c8u := eq_true c8u
  try have c8b2 : (9223372036854775807 < (t345 ++ t346).size + t347.size) = False := eq_false (Nat.not_lt.2 c8)
  simp only [Option.some.injEq, Prod.mk.injEq] at H
  obtain ⟨rfl, rfl⟩ := H
  go_enter Try.func104, Try.ntmps104
  try go_wp2_with (first | ((with_reducible refine gd_ 1 ?_); refine be_ 1 #[.int .i64 a0_0, .int .i64 a0_1, .slice A0_2 l0_2.length c0_2] 129 ?_; intro gb343 hg w9 hbox hb; have BK343 := am_ hbox; have GW343 := tG HB hg; have GE343 := tG HB hg; replace HB := tHb HB hb; clear hb hbox hg; obtain ⟨z10_0, z10_1, z10_2, y10_0, y10_1, y10_2⟩ := bx3 BK343) | ((with_reducible refine gate_callee (f := 127) rfl ?_); refine gl_ (some 6) Try.func127 #[.agg #[.int .i64 a0_0, .int .i64 a0_1, .slice A0_2 l0_2.length c0_2]] ?_; (with_reducible refine (F2.calls k a0_0 a0_1 _ _ l0_2 true _ ?side1 ?side2 A2.out).mono ?_); (case side1 => exact gCB HR0_2 HB); (case side2 => exact HC0_2.out); rintro e w11 ⟨rfl, hb⟩; refine ⟨_, rfl, ?_⟩; replace BK343 := tBb BK343 hb; replace HB := tHb HB hb; (try clear hb)))
  replace BK343 := am_ (blk_drew BK343.out)
  replace HB := am_ (below_drew1 HB.out)
  refine start_ (n := 15) (S := fun w' => w'.cell? ⟨gb343, 0, none⟩ = some (.int .i64 a0_0) ∧ w'.cell? ⟨gb343, 1, none⟩ = some (.int .i64 a0_1) ∧ w'.cell? ⟨gb343, 2, none⟩ = some (.slice A0_2 l0_2.length c0_2)) (ds := []) #[false, false, false, false, false, false, false, false, false, false, false, false, false, false, false] (by kernel_rfl) rfl rfl ⟨(blk_cell BK343.out 0).trans rfl, (blk_cell BK343.out 1).trans rfl, (blk_cell BK343.out 2).trans rfl⟩ (fun hHeld => ?_); refine with_tabW Ft.tab4 Ft.bits4 (fun HT_ HW_ => ?_)
  generalize w11.drew = w12 at BK343 HB hHeld ⊢
  refine pu_ 0 (some 9) 1 HT_ (h := ?_)
  refine pu_ 4 (some 13) 17 HT_ (h := ?_)
  refine pu_ 9 (some 18) 529 HT_ (h := ?_)
  refine tk_ 1 (some 10) 531 HT_ HW_ hHeld (h := ?_)
  refine pu_ 2 (some 11) 535 HT_ (h := ?_)
  refine tk_ 5 (some 14) 567 HT_ HW_ hHeld (h := ?_)
  refine pu_ 6 (some 15) 631 HT_ (h := ?_)
  refine tk_ 10 (some 19) 1655 HT_ HW_ hHeld (h := ?_)
  refine one_ (i := 3) (N := some 12) #[true, true, true, true, true, true, true, false, false, true, true, false, false, false, false] rfl rfl (one_of HT_.out (by kernel_rfl)) (by decide) (fun K hK => ?_)
  refine goes_ Try.func105 (by kernel_rfl) rfl #[.int .u64 (IntKind.u64.wrap (a0_0))] (by rfl) rfl rfl (by (try simp only [List.map_toArray, List.map_cons, List.map_nil]); first | done | rfl | (simp only [List.length_drop, List.length_take]; rfl)) ?_
  with_reducible refine (Fb.calls (IntKind.u64.wrap (a0_0)) t345 _ A4.out).mono ?_
  rintro e w13 ⟨rfl, hb⟩
  refine ⟨_, rfl, ?_⟩
  replace BK343 := tBb BK343 hb
  replace HB := tHb HB hb
  (try clear hb)
  (try clear hb2)
  (try clear hk)
  (try clear hi)
  refine hK.out _ _ ⟨(blk_cell BK343.out 0).trans rfl, (blk_cell BK343.out 1).trans rfl, (blk_cell BK343.out 2).trans rfl⟩ (fun hHeld => ?_)
  clear hK K
  refine norm_ (a' := ?_) ?_ ?_
  rotate_left
  ·
   show Act.put _ (some 12) _ = _
   simp only [Act.put, List.setIfInBounds_toArray, List.set_cons_zero, List.set_cons_succ, i64_w, i32_w]
   rfl
  refine one_ (i := 7) (N := some 16) #[true, true, true, true, true, true, true, true, false, true, true, false, false, false, false] rfl rfl (one_of HT_.out (by kernel_rfl)) (by decide) (fun K hK => ?_)
  refine goes_ Try.func105 (by kernel_rfl) rfl #[.int .u64 (IntKind.u64.wrap (a0_1))] (by rfl) rfl rfl (by (try simp only [List.map_toArray, List.map_cons, List.map_nil]); first | done | rfl | (simp only [List.length_drop, List.length_take]; rfl)) ?_
  with_reducible refine (Fb.calls (IntKind.u64.wrap (a0_1)) t346 _ A5.out).mono ?_
  rintro e w14 ⟨rfl, hb⟩
  refine ⟨_, rfl, ?_⟩
  replace BK343 := tBb BK343 hb
  replace HB := tHb HB hb
  (try clear hb)
  (try clear hb2)
  (try clear hk)
  (try clear hi)
  refine hK.out _ _ ⟨(blk_cell BK343.out 0).trans rfl, (blk_cell BK343.out 1).trans rfl, (blk_cell BK343.out 2).trans rfl⟩ (fun hHeld => ?_)
  clear hK K
  refine norm_ (a' := ?_) ?_ ?_
  rotate_left
  ·
   show Act.put _ (some 16) _ = _
   simp only [Act.put, List.setIfInBounds_toArray, List.set_cons_zero, List.set_cons_succ, i64_w, i32_w]
   rfl
  refine pu_ 8 (some 17) 2047 HT_ (h := ?_)
  refine one_ (i := 11) (N := some 20) #[true, true, true, true, true, true, true, true, true, true, true, true, false, false, false] rfl rfl (one_of HT_.out (by kernel_rfl)) (by decide) (fun K hK => ?_)
  refine goes_ Try.func106 (by kernel_rfl) rfl #[.slice A0_2 l0_2.length c0_2] (by rfl) rfl rfl (by (try simp only [List.map_toArray, List.map_cons, List.map_nil]); first | done | rfl | (simp only [List.length_drop, List.length_take]; rfl)) ?_
  with_reducible refine (Fv.calls _ _ l0_2 t347 _ ?side1 ?side2 A7.out).mono ?_
  (case side1 => exact gCB HR0_2 HB)
  (case side2 => exact HC0_2.out)
  rintro e w15 ⟨rfl, hb⟩
  refine ⟨_, rfl, ?_⟩
  replace BK343 := tBb BK343 hb
  replace HB := tHb HB hb
  (try clear hb)
  (try clear hb2)
  (try clear hk)
  (try clear hi)
  refine hK.out _ _ ⟨(blk_cell BK343.out 0).trans rfl, (blk_cell BK343.out 1).trans rfl, (blk_cell BK343.out 2).trans rfl⟩ (fun hHeld => ?_)
  clear hK K
  refine norm_ (a' := ?_) ?_ ?_
  rotate_left
  ·
   show Act.put _ (some 20) _ = _
   simp only [Act.put, List.setIfInBounds_toArray, List.set_cons_zero, List.set_cons_succ, i64_w, i32_w]
   rfl
  refine pu_ 12 (some 21) 8191 HT_ (h := ?_)
  refine pu_ 13 (some 2) 16383 HT_ (h := ?_)
  refine pu_ 14 (some 3) 32767 HT_ (h := ?_)
  refine done_ (done_of HT_.out (by kernel_rfl)) ?_
  try go_wp2
  go_ret2
  exact ⟨fe, bh HB⟩
 replace c3 := Bool.eq_false_iff.mpr c3
 subst c3
 rw [if_neg (show ¬ (false = true) by decide)] at H
 simp only [Option.some.injEq, Prod.mk.injEq] at H
 obtain ⟨rfl, rfl⟩ := H
 go_enter Try.func104, Try.ntmps104
 go_wp2_with (first | ((with_reducible refine gd_ 1 ?_); refine be_ 1 #[.int .i64 a0_0, .int .i64 a0_1, .slice A0_2 l0_2.length c0_2] 129 ?_; intro gb343 hg w16 hbox hb; have BK343 := am_ hbox; have GW343 := tG HB hg; have GE343 := tG HB hg; replace HB := tHb HB hb; clear hb hbox hg; obtain ⟨z17_0, z17_1, z17_2, y17_0, y17_1, y17_2⟩ := bx3 BK343) | ((with_reducible refine gate_callee (f := 127) rfl ?_); refine gl_ (some 6) Try.func127 #[.agg #[.int .i64 a0_0, .int .i64 a0_1, .slice A0_2 l0_2.length c0_2]] ?_; (with_reducible refine (F2.calls k a0_0 a0_1 _ _ l0_2 false _ ?side1 ?side2 A2.out).mono ?_); (case side1 => exact gCB HR0_2 HB); (case side2 => exact HC0_2.out); rintro e w18 ⟨rfl, hb⟩; refine ⟨_, rfl, ?_⟩; replace BK343 := tBb BK343 hb; replace HB := tHb HB hb; (try clear hb)))
 go_ret2
 exact ⟨fe, bh HB⟩

end Go.Proofs.Ytcbfnmabckjijaa.PTuskStops
