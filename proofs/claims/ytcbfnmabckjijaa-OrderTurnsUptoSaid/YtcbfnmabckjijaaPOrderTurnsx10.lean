-- written by a program of this session (pp.py), out of the kit's print and this session's contracts
import Derived.Test.YtcbfnmabckjijaaPOrderTurnsx0
import Derived.Test.YtcbfnmabckjijaaPOrderTurnsx4
import Derived.Test.YtcbfnmabckjijaaPOrderTurnsx8
import Derived.Test.YtcbfnmabckjijaaPOrderTurnsx9
import Derived.Test.YtcbfnmabckjijaaVOrderTurnsPg
namespace Go.Proofs.Ytcbfnmabckjijaa.POrderTurns
open Go.RowKit Go.Proofs.YtcbfnmabckjijaaW.PrintWords Go.Proofs.YtcbfnmabckjijaaW.PrintLast Go.Proofs.YtcbfnmabckjijaaW.PrintMore
set_option linter.unusedVariables false
set_option linter.unusedSimpArgs false

mutual
def selvedgeref11_Right.j0 : Nat → Bool → Int → Int → List (S37) → Option (Bool)
 | 0, _, _, _, _ => none
 | k + 1, x18, x210000, x210001, x210002 => if x18 = true then (some false) else (selvedgeref11_Right.l0 k 0 x210000 x210001 x210002)
def selvedgeref11_Right.l0 : Nat → Int → Int → Int → List (S37) → Option (Bool)
 | 0, _, _, _, _ => none
 | k + 1, x4, x210000, x210001, x210002 => if x4 < (x210002.length : Int) then (if 0 ≤ x4 then ((selvedgeref08_Digest.f k ((rd_T37 x210002 x4).f1.f0) ((rd_T37 x210002 x4).f1.f1) ((rd_T37 x210002 x4).f1.f2) ((rd_T37 x210002 x4).f1.f3) ((rd_T37 x210002 x4).f1.f4.f0) ((rd_T37 x210002 x4).f1.f4.f1) x210000).bind fun bt213 => ((selvedgeref11_Missing.f k x210000 x210001 x210002 ((rd_T37 x210002 x4).f1.f0) ((rd_T37 x210002 x4).f1.f1) ((rd_T37 x210002 x4).f1.f2) ((rd_T37 x210002 x4).f1.f3) ((rd_T37 x210002 x4).f1.f4.f0) ((rd_T37 x210002 x4).f1.f4.f1)).bind fun t215 => (if bt213.2 = 0 then (if bt213.1.toList = ((rd_T37 x210002 x4).f0).toList then (if ((rd_T37 x210002 x4).f1.f1) ≤ x210001 then (selvedgeref11_Right.j2 k x4 true x210000 x210001 x210002 ((rd_T37 x210002 x4).f0) ((rd_T37 x210002 x4).f1.f0) ((rd_T37 x210002 x4).f1.f1) ((rd_T37 x210002 x4).f1.f2) ((rd_T37 x210002 x4).f1.f3) ((rd_T37 x210002 x4).f1.f4.f0) ((rd_T37 x210002 x4).f1.f4.f1)) else (selvedgeref11_Right.j2 k x4 (decide ((t215.length : Int) > 0)) x210000 x210001 x210002 ((rd_T37 x210002 x4).f0) ((rd_T37 x210002 x4).f1.f0) ((rd_T37 x210002 x4).f1.f1) ((rd_T37 x210002 x4).f1.f2) ((rd_T37 x210002 x4).f1.f3) ((rd_T37 x210002 x4).f1.f4.f0) ((rd_T37 x210002 x4).f1.f4.f1))) else (selvedgeref11_Right.j2 k x4 true x210000 x210001 x210002 ((rd_T37 x210002 x4).f0) ((rd_T37 x210002 x4).f1.f0) ((rd_T37 x210002 x4).f1.f1) ((rd_T37 x210002 x4).f1.f2) ((rd_T37 x210002 x4).f1.f3) ((rd_T37 x210002 x4).f1.f4.f0) ((rd_T37 x210002 x4).f1.f4.f1))) else (selvedgeref11_Right.j2 k x4 true x210000 x210001 x210002 ((rd_T37 x210002 x4).f0) ((rd_T37 x210002 x4).f1.f0) ((rd_T37 x210002 x4).f1.f1) ((rd_T37 x210002 x4).f1.f2) ((rd_T37 x210002 x4).f1.f3) ((rd_T37 x210002 x4).f1.f4.f0) ((rd_T37 x210002 x4).f1.f4.f1))))) else (none)) else (some true)
def selvedgeref11_Right.j2 : Nat → Int → Bool → Int → Int → List (S37) → ByteArray → Int → Int → List (S129) → List ByteArray → Int → Int → Option (Bool)
 | 0, _, _, _, _, _, _, _, _, _, _, _, _ => none
 | k + 1, x4, x63, x210000, x210001, x210002, x213000, x213001, x213002, x213003, x213004, x213005, x213006 => if x63 = true then (some false) else (if x4 > 0 then (if 0 ≤ (wrap64 (x4 - 1)) then (if (wrap64 (x4 - 1)) < (x210002.length : Int) then ((selvedgeref11_ahead.f ((rd_T37 x210002 (wrap64 (x4 - 1))).f1.f0) ((rd_T37 x210002 (wrap64 (x4 - 1))).f1.f1) ((rd_T37 x210002 (wrap64 (x4 - 1))).f1.f2) ((rd_T37 x210002 (wrap64 (x4 - 1))).f1.f3) ((rd_T37 x210002 (wrap64 (x4 - 1))).f1.f4.f0) ((rd_T37 x210002 (wrap64 (x4 - 1))).f1.f4.f1) x213001 x213002 x213003 x213004 x213005 x213006).bind fun t219 => (if t219 = true then (selvedgeref11_Right.l0 k (wrap64 (x4 + 1)) x210000 x210001 x210002) else (some false))) else (none)) else (none)) else (selvedgeref11_Right.l0 k (wrap64 (x4 + 1)) x210000 x210001 x210002))
end
def selvedgeref11_Right.f (k : Nat) (a0_0 : Int) (a0_1 : Int) (l0_2 : List (S37)) : Option (Bool) := (selvedgeref05_May.f a0_0).bind fun t210 => (if t210 = true then (selvedgeref11_Right.j0 k (decide (a0_1 < 0)) a0_0 a0_1 l0_2) else (selvedgeref11_Right.j0 k true a0_0 a0_1 l0_2))
def selvedgeref11_Right.T12 : Bool × List (List Nat × List Nat) := (true, [([], []), ([0], [0]), ([1], [1]), ([2], [2]), ([3, 2], [2, 3]), ([2], [2]), ([5, 2], [2, 5]), ([4, 6, 2], [2, 4, 6]), ([7, 2], [2, 7]), ([8, 2], [2, 8]), ([2], [2]), ([10, 2], [2, 10]), ([9, 11, 2, 2], [2, 9, 11]), ([12, 2], [2, 12]), ([2, 13], [2, 13])])
def selvedgeref11_Right.B12 : List Nat := [0, 1, 3, 7, 15, 7, 39, 127, 255, 511, 7, 1031, 4095, 8191, 16383]
theorem selvedgeref11_Right.tab12 : rtab .any (opsOf Try.f30 12) = selvedgeref11_Right.T12 := by kernel_rfl
theorem selvedgeref11_Right.bits12 : waitsOk selvedgeref11_Right.T12.2 selvedgeref11_Right.B12 = true := by kernel_rfl
set_option maxHeartbeats 8000000 in
set_option maxRecDepth 100000 in
theorem selvedgeref11_Right.calls (k : Nat) (a0_0 : Int) (a0_1 : Int) (A0_2 : Option Addr) (c0_2 : Nat) (l0_2 : List (S37)) (r : Bool) (w : World) (hr0_2 : Kd.C k37 w A0_2 l0_2.length l0_2) (hc0_2 : l0_2.length ≤ c0_2) (h : selvedgeref11_Right.f k a0_0 a0_1 l0_2 = some r) :
  Calls Try.prog 30 #[.agg #[.int .i64 a0_0, .int .i64 a0_1, .slice A0_2 l0_2.length c0_2]] w fun e w' => e = .returned (.bool r) ∧ Below w.heap.size w w' := by
 have hu24 := Try.underlying24
 have hu37 := Try.underlying37
 have hu35 := Try.underlying35
 have HR0_2 := am_ hr0_2
 have HC0_2 := am_ hc0_2
 clear hr0_2 hc0_2
 have HB := am_ (Below.refl w.heap.size w)
 have H : ((selvedgeref05_May.f a0_0).bind fun t210 => (if t210 = true then (selvedgeref11_Right.j0 k (decide (a0_1 < 0)) a0_0 a0_1 l0_2) else (selvedgeref11_Right.j0 k true a0_0 a0_1 l0_2))) = some r := h
 clear h
 replace H := Option.bind_eq_some_iff.mp H
 obtain ⟨t210, A20, H⟩ := H
 replace H : (if t210 = true then (selvedgeref11_Right.j0 k (decide (a0_1 < 0)) a0_0 a0_1 l0_2) else (selvedgeref11_Right.j0 k true a0_0 a0_1 l0_2)) = some r := H
 have A2 := am_ A20
 clear A20
 have HC3 := am_ H
 clear H
 go_enter Try.func30, Try.ntmps30
 go_upto_region 2 with (first | ((with_reducible refine gate_dst (N := 1) rfl ?_); (try (refine gate_guard (by rfl) ?_; dsimp only)); refine box_event ?hg (N := 1) ?hd (cs := #[.int .i64 a0_0, .int .i64 a0_1, .slice A0_2 l0_2.length c0_2]) (t := 24) ?hr ?_; (case hd => rfl); (case hg => rfl); (case hr => first | (go_simp; done) | (go_simp; rfl)); intro gb209 hg w4 hbox hb; have BK209 := am_ hbox; have GW209 := tG HB hg; have GE209 := tG HB hg; replace HB := tHb HB hb; clear hb hbox hg; obtain ⟨hcz5_0, hcz5_1, hcz5_2, hfz5_0, hfz5_1, hfz5_2⟩ := bx3 BK209) | ((with_reducible refine gate_callee (f := 58) rfl ?_); refine goesL_ (some 11) rfl rfl Try.func58 (by kernel_rfl) rfl #[.int .i64 a0_0] rfl (by (try simp only [List.map_toArray, List.map_cons, List.map_nil]); first | done | rfl | (simp only [List.length_drop, List.length_take]; rfl)) ?_; (with_reducible refine (selvedgeref05_May.calls a0_0 t210 _ A2.out).mono ?_); rintro e w' ⟨rfl, ⟨nd, rfl⟩⟩; refine ⟨_, rfl, ?_⟩))
 (try simp only [Act.put, List.setIfInBounds_toArray, List.set_cons_zero, List.set_cons_succ])
 go_cut [18] (fun v18 wc => ∃ (kq : Nat) (x18_2 : Bool), v18 = .bool x18_2 ∧ Asc (selvedgeref11_Right.j0 kq x18_2 a0_0 a0_1 l0_2 = some r) ∧ Asc (kq ≤ k) ∧ Asc (wc.heap[gb209]? = some (.cells #[.int .i64 a0_0, .int .i64 a0_1, (.slice A0_2 l0_2.length c0_2)] 24 (0, 0))) ∧ Asc (Below w.heap.size w wc))
 case first =>
  have H := HC3.out
  clear HC3
  by_cases c6 : t210 = true
  ·
   subst c6
   have H1 : (selvedgeref11_Right.j0 k (decide (a0_1 < 0)) a0_0 a0_1 l0_2) = some r := by rw [if_pos rfl] at H; exact H
   clear H
   have H := H1
   clear H1
   have H' := am_ H
   clear H
   obtain ⟨hcz7_0, hcz7_1, hcz7_2, hfz7_0, hfz7_1, hfz7_2⟩ := bx3 BK209
   go_wp2
   go_meet
   case rel => exact ⟨_, (decide (a0_1 < 0)), (by first | rfl | (simp; done) | (simp [*]; done)), H', ⟨by first | omega | exact Nat.le_refl _⟩, ⟨gB BK209⟩, ⟨bh HB⟩⟩
  replace c6 := Bool.eq_false_iff.mpr c6
  subst c6
  have H1 : (selvedgeref11_Right.j0 k true a0_0 a0_1 l0_2) = some r := by rw [if_neg (show ¬ (false = true) by decide)] at H; exact H
  clear H
  have H := H1
  clear H1
  have H' := am_ H
  clear H
  go_wp2
  go_meet
  case rel => exact ⟨_, (true), (by first | rfl | (simp; done) | (simp [*]; done)), H', ⟨by first | omega | exact Nat.le_refl _⟩, ⟨gB BK209⟩, ⟨bh HB⟩⟩
 case rest =>
  clear HC3
  try clear hcz5_0 hcz5_1 hcz5_2 hfz5_0 hfz5_1 hfz5_2
  obtain ⟨kq, x18_2, rfl, HA, HJ2, BK209, HB⟩ := hcut
  cases kq with
  | zero => exact absurd HA.out (by simp [selvedgeref11_Right.j0])
  | succ kj2 =>
   have H := HA.out
   clear HA
   simp only [selvedgeref11_Right.j0] at H
   by_cases c8 : x18_2 = true
   ·
    subst c8
    have H1 : (some false) = some r := by rw [if_pos rfl] at H; exact H
    clear H
    have H := H1
    clear H1
    obtain rfl := Option.some.inj H
    go_wp2
    go_ret
    exact ⟨by first | rfl | (simp [errW_none, errW_some] <;> rfl) | (simp [*, errW_none, errW_some] <;> rfl), bh HB⟩
   replace c8 := Bool.eq_false_iff.mpr c8
   subst c8
   have H1 : (selvedgeref11_Right.l0 kj2 0 a0_0 a0_1 l0_2) = some r := by rw [if_neg (show ¬ (false = true) by decide)] at H; exact H
   clear H
   have H := H1
   clear H1
   have H' := am_ H
   clear H
   go_wp2
   go_loopg [4] kj2 (fun kq v4 w' => ∃ (x4_2 : Int), v4 = .int .i64 x4_2 ∧ Asc (selvedgeref11_Right.l0 kq x4_2 a0_0 a0_1 l0_2 = some r) ∧ Asc (kq ≤ kj2) ∧ Asc (w'.heap[gb209]? = some (.cells #[.int .i64 a0_0, .int .i64 a0_1, (.slice A0_2 l0_2.length c0_2)] 24 (0, 0))) ∧ Asc (Below w.heap.size w w'))
   case atStart => exact ⟨(0), (by first | rfl | (simp; done) | (simp [*]; done)), H', ⟨Nat.le_refl _⟩, ⟨gB BK209⟩, ⟨bh HB⟩⟩
   case round =>
    clear H'
    try clear c8
    obtain ⟨x4_2, rfl, HA, HK2, BK209, HB⟩ := hrel
    cases gk with
    | zero => exact absurd HA.out (by simp [selvedgeref11_Right.l0])
    | succ k2 =>
     have H := HA.out
     clear HA
     simp only [selvedgeref11_Right.l0] at H
     by_cases c9 : x4_2 < (l0_2.length : Int)
     ·
      rw [if_pos c9] at H
      have c9b0 : decide (x4_2 < (l0_2.length : Int)) = true := decide_eq_true c9
      clear c9
      revert H
      refine gi (fun c10b0 H => ?_)
      replace H := Option.bind_eq_some_iff.mp H
      obtain ⟨⟨t213, t214⟩, A110, H⟩ := H
      replace H : ((selvedgeref11_Missing.f k2 a0_0 a0_1 l0_2 ((rd_T37 l0_2 x4_2).f1.f0) ((rd_T37 l0_2 x4_2).f1.f1) ((rd_T37 l0_2 x4_2).f1.f2) ((rd_T37 l0_2 x4_2).f1.f3) ((rd_T37 l0_2 x4_2).f1.f4.f0) ((rd_T37 l0_2 x4_2).f1.f4.f1)).bind fun t215 => (if t214 = 0 then (if t213.toList = ((rd_T37 l0_2 x4_2).f0).toList then (if ((rd_T37 l0_2 x4_2).f1.f1) ≤ a0_1 then (selvedgeref11_Right.j2 k2 x4_2 true a0_0 a0_1 l0_2 ((rd_T37 l0_2 x4_2).f0) ((rd_T37 l0_2 x4_2).f1.f0) ((rd_T37 l0_2 x4_2).f1.f1) ((rd_T37 l0_2 x4_2).f1.f2) ((rd_T37 l0_2 x4_2).f1.f3) ((rd_T37 l0_2 x4_2).f1.f4.f0) ((rd_T37 l0_2 x4_2).f1.f4.f1)) else (selvedgeref11_Right.j2 k2 x4_2 (decide ((t215.length : Int) > 0)) a0_0 a0_1 l0_2 ((rd_T37 l0_2 x4_2).f0) ((rd_T37 l0_2 x4_2).f1.f0) ((rd_T37 l0_2 x4_2).f1.f1) ((rd_T37 l0_2 x4_2).f1.f2) ((rd_T37 l0_2 x4_2).f1.f3) ((rd_T37 l0_2 x4_2).f1.f4.f0) ((rd_T37 l0_2 x4_2).f1.f4.f1))) else (selvedgeref11_Right.j2 k2 x4_2 true a0_0 a0_1 l0_2 ((rd_T37 l0_2 x4_2).f0) ((rd_T37 l0_2 x4_2).f1.f0) ((rd_T37 l0_2 x4_2).f1.f1) ((rd_T37 l0_2 x4_2).f1.f2) ((rd_T37 l0_2 x4_2).f1.f3) ((rd_T37 l0_2 x4_2).f1.f4.f0) ((rd_T37 l0_2 x4_2).f1.f4.f1))) else (selvedgeref11_Right.j2 k2 x4_2 true a0_0 a0_1 l0_2 ((rd_T37 l0_2 x4_2).f0) ((rd_T37 l0_2 x4_2).f1.f0) ((rd_T37 l0_2 x4_2).f1.f1) ((rd_T37 l0_2 x4_2).f1.f2) ((rd_T37 l0_2 x4_2).f1.f3) ((rd_T37 l0_2 x4_2).f1.f4.f0) ((rd_T37 l0_2 x4_2).f1.f4.f1)))) = some r := H
      have A11 := am_ A110
      clear A110
      replace H := Option.bind_eq_some_iff.mp H
      obtain ⟨t215, A120, H⟩ := H
      replace H : (if t214 = 0 then (if t213.toList = ((rd_T37 l0_2 x4_2).f0).toList then (if ((rd_T37 l0_2 x4_2).f1.f1) ≤ a0_1 then (selvedgeref11_Right.j2 k2 x4_2 true a0_0 a0_1 l0_2 ((rd_T37 l0_2 x4_2).f0) ((rd_T37 l0_2 x4_2).f1.f0) ((rd_T37 l0_2 x4_2).f1.f1) ((rd_T37 l0_2 x4_2).f1.f2) ((rd_T37 l0_2 x4_2).f1.f3) ((rd_T37 l0_2 x4_2).f1.f4.f0) ((rd_T37 l0_2 x4_2).f1.f4.f1)) else (selvedgeref11_Right.j2 k2 x4_2 (decide ((t215.length : Int) > 0)) a0_0 a0_1 l0_2 ((rd_T37 l0_2 x4_2).f0) ((rd_T37 l0_2 x4_2).f1.f0) ((rd_T37 l0_2 x4_2).f1.f1) ((rd_T37 l0_2 x4_2).f1.f2) ((rd_T37 l0_2 x4_2).f1.f3) ((rd_T37 l0_2 x4_2).f1.f4.f0) ((rd_T37 l0_2 x4_2).f1.f4.f1))) else (selvedgeref11_Right.j2 k2 x4_2 true a0_0 a0_1 l0_2 ((rd_T37 l0_2 x4_2).f0) ((rd_T37 l0_2 x4_2).f1.f0) ((rd_T37 l0_2 x4_2).f1.f1) ((rd_T37 l0_2 x4_2).f1.f2) ((rd_T37 l0_2 x4_2).f1.f3) ((rd_T37 l0_2 x4_2).f1.f4.f0) ((rd_T37 l0_2 x4_2).f1.f4.f1))) else (selvedgeref11_Right.j2 k2 x4_2 true a0_0 a0_1 l0_2 ((rd_T37 l0_2 x4_2).f0) ((rd_T37 l0_2 x4_2).f1.f0) ((rd_T37 l0_2 x4_2).f1.f1) ((rd_T37 l0_2 x4_2).f1.f2) ((rd_T37 l0_2 x4_2).f1.f3) ((rd_T37 l0_2 x4_2).f1.f4.f0) ((rd_T37 l0_2 x4_2).f1.f4.f1))) = some r := H
      have A12 := am_ A120
      clear A120
      have HC13 := am_ H
      clear H
      obtain ⟨hcz14_0, hcz14_1, hcz14_2, hfz14_0, hfz14_1, hfz14_2⟩ := bx3 BK209
      have p211 : 0 ≤ (x4_2 : Int) := of_decide_eq_true ‹_›
      have q211 : x4_2 < (l0_2.length : Int) := of_decide_eq_true ‹_›
      obtain ⟨ad211, A211_3, c211_3, A211_4, c211_4, e211, hx211_0, hx211_1, hx211_2, hx211_3, hx211_4, hx211_5, hx211_6, hl211_3, hi211_3, hl211_4, hi211_4⟩ := at_T37 HR0_2.out x4_2 p211 q211
      cases e211
      replace hx211_0 := ce HB hx211_0
      replace hx211_1 := ce HB hx211_1
      replace hx211_2 := ce HB hx211_2
      replace hx211_3 := ce HB hx211_3
      replace hx211_4 := ce HB hx211_4
      replace hx211_5 := ce HB hx211_5
      replace hx211_6 := ce HB hx211_6
      have HR211_3 := am_ hi211_3
      have HC211_3 := am_ hl211_3
      clear hi211_3 hl211_3
      have HR211_4 := am_ hi211_4
      have HC211_4 := am_ hl211_4
      clear hi211_4 hl211_4
      replace p211 := eq_true p211
      replace q211 := eq_true q211
      go_upto_region 10 with (first | ((with_reducible refine gate_dst (N := 5) rfl ?_); (try (refine gate_guard (by rfl) ?_; dsimp only)); refine box_event ?hg (N := 5) ?hd (cs := #[.string (⟨#[]⟩ : ByteArray), .int .i64 0, .int .i64 0, .slice none 0 0, .slice none 0 0, .int .i64 0, .int .i64 0]) (t := 37) ?hr ?_; (case hd => rfl); (case hg => rfl); (case hr => first | (go_simp; done) | (go_simp; rfl)); intro gb212 hg w15 hbox hb; have BK212 := am_ hbox; have GW212 := tG HB hg; have GE212 := tG HB hg; replace HB := tHb HB hb; have NB209_212 := tL BK209 hg; have NB212_209 := tR BK209 hg; replace BK209 := tBb BK209 hb; clear hb hbox hg; have hnb16 := NB212_209.out; have hnc16 := NB209_212.out; obtain ⟨hcz17_0, hcz17_1, hcz17_2, hcz17_3, hcz17_4, hcz17_5, hcz17_6, hfz17_0, hfz17_1, hfz17_2, hfz17_3, hfz17_4, hfz17_5, hfz17_6⟩ := bx7 BK212; obtain ⟨hcz18_0, hcz18_1, hcz18_2, hfz18_0, hfz18_1, hfz18_2⟩ := bx3 BK209) | ((with_reducible refine gate_callee (f := 59) rfl ?_); refine goesL_ (some 36) rfl rfl Try.func59 (by kernel_rfl) rfl #[.agg #[.int .i64 ((rd_T37 l0_2 x4_2).f1.f0), .int .i64 ((rd_T37 l0_2 x4_2).f1.f1), .slice A211_3 ((rd_T37 l0_2 x4_2).f1.f2).length c211_3, .slice A211_4 ((rd_T37 l0_2 x4_2).f1.f3).length c211_4, .int .i64 ((rd_T37 l0_2 x4_2).f1.f4.f0), .int .i64 ((rd_T37 l0_2 x4_2).f1.f4.f1)], .int .i64 a0_0] rfl (by (try simp only [List.map_toArray, List.map_cons, List.map_nil]); first | done | rfl | (simp only [List.length_drop, List.length_take]; rfl)) ?_; (with_reducible refine (selvedgeref08_Digest.calls k2 ((rd_T37 l0_2 x4_2).f1.f0) ((rd_T37 l0_2 x4_2).f1.f1) _ _ ((rd_T37 l0_2 x4_2).f1.f2) _ _ ((rd_T37 l0_2 x4_2).f1.f3) ((rd_T37 l0_2 x4_2).f1.f4.f0) ((rd_T37 l0_2 x4_2).f1.f4.f1) a0_0 t213 t214 _ ?side1 ?side2 ?side3 ?side4 A11.out).mono ?_); (case side1 => exact Kd.C_below HR211_3.out (bh HB)); (case side2 => exact HC211_3.out); (case side3 => exact Kd.C_below HR211_4.out (bh HB)); (case side4 => exact HC211_4.out); rintro e w19 ⟨rfl, hb⟩; refine ⟨_, rfl, ?_⟩; replace BK209 := tBb BK209 hb; replace BK212 := am_ (blk_below (g := gb212) (o := .cells #[.string ((rd_T37 l0_2 x4_2).f0), .int .i64 ((rd_T37 l0_2 x4_2).f1.f0), .int .i64 ((rd_T37 l0_2 x4_2).f1.f1), .slice A211_3 ((rd_T37 l0_2 x4_2).f1.f2).length c211_3, .slice A211_4 ((rd_T37 l0_2 x4_2).f1.f3).length c211_4, .int .i64 ((rd_T37 l0_2 x4_2).f1.f4.f0), .int .i64 ((rd_T37 l0_2 x4_2).f1.f4.f1)] 37 (0, 0)) (gP BK212 rfl) hb); replace HB := tHb HB hb; (try clear hb); (try clear hb2); (try clear hk); (try clear hi); obtain ⟨hcz20_0, hcz20_1, hcz20_2, hfz20_0, hfz20_1, hfz20_2⟩ := bx3 BK209; obtain ⟨hcz21_0, hcz21_1, hcz21_2, hcz21_3, hcz21_4, hcz21_5, hcz21_6, hfz21_0, hfz21_1, hfz21_2, hfz21_3, hfz21_4, hfz21_5, hfz21_6⟩ := bx7 BK212) | ((with_reducible refine gate_callee (f := 60) rfl ?_); refine goesL_ (some 42) rfl rfl Try.func60 (by kernel_rfl) rfl #[.agg #[.int .i64 a0_0, .int .i64 a0_1, .slice (some ad211) l0_2.length c0_2], .agg #[.int .i64 ((rd_T37 l0_2 x4_2).f1.f0), .int .i64 ((rd_T37 l0_2 x4_2).f1.f1), .slice A211_3 ((rd_T37 l0_2 x4_2).f1.f2).length c211_3, .slice A211_4 ((rd_T37 l0_2 x4_2).f1.f3).length c211_4, .int .i64 ((rd_T37 l0_2 x4_2).f1.f4.f0), .int .i64 ((rd_T37 l0_2 x4_2).f1.f4.f1)]] rfl (by (try simp only [List.map_toArray, List.map_cons, List.map_nil]); first | done | rfl | (simp only [List.length_drop, List.length_take]; rfl)) ?_; (with_reducible refine (selvedgeref11_Missing.calls k2 a0_0 a0_1 _ _ l0_2 ((rd_T37 l0_2 x4_2).f1.f0) ((rd_T37 l0_2 x4_2).f1.f1) _ _ ((rd_T37 l0_2 x4_2).f1.f2) _ _ ((rd_T37 l0_2 x4_2).f1.f3) ((rd_T37 l0_2 x4_2).f1.f4.f0) ((rd_T37 l0_2 x4_2).f1.f4.f1) t215 _ ?side1 ?side2 ?side3 ?side4 ?side5 ?side6 A12.out).mono ?_); (case side1 => exact gCB HR0_2 HB); (case side2 => exact HC0_2.out); (case side3 => exact gCB HR211_3 HB); (case side4 => exact HC211_3.out); (case side5 => exact gCB HR211_4 HB); (case side6 => exact HC211_4.out); rintro e w22 ⟨v216, rfl, ho0, hb⟩; refine ⟨_, rfl, ?_⟩; have HO217 := am_ (Kd.R_lower ho0 (below_size (bh HB))); replace BK209 := tBb BK209 hb; replace BK212 := tBb BK212 hb; replace HB := tHb HB hb; (try clear hb); (try clear hb2); (try clear hk); (try clear hi); (try clear ho0)))
      (try simp only [Act.put, List.setIfInBounds_toArray, List.set_cons_zero, List.set_cons_succ])
      go_cut [63] (fun v63 wc => ∃ (kq : Nat) (x63_12 : Bool), v63 = .bool x63_12 ∧ Asc (selvedgeref11_Right.j2 kq x4_2 x63_12 a0_0 a0_1 l0_2 ((rd_T37 l0_2 x4_2).f0) ((rd_T37 l0_2 x4_2).f1.f0) ((rd_T37 l0_2 x4_2).f1.f1) ((rd_T37 l0_2 x4_2).f1.f2) ((rd_T37 l0_2 x4_2).f1.f3) ((rd_T37 l0_2 x4_2).f1.f4.f0) ((rd_T37 l0_2 x4_2).f1.f4.f1) = some r) ∧ Asc (kq ≤ k2) ∧ Asc (wc.heap[gb209]? = some (.cells #[.int .i64 a0_0, .int .i64 a0_1, (.slice (some ad211) l0_2.length c0_2)] 24 (0, 0))) ∧ Asc (wc.heap[gb212]? = some (.cells #[.string ((rd_T37 l0_2 x4_2).f0), .int .i64 ((rd_T37 l0_2 x4_2).f1.f0), .int .i64 ((rd_T37 l0_2 x4_2).f1.f1), (.slice A211_3 ((rd_T37 l0_2 x4_2).f1.f2).length c211_3), (.slice A211_4 ((rd_T37 l0_2 x4_2).f1.f3).length c211_4), .int .i64 ((rd_T37 l0_2 x4_2).f1.f4.f0), .int .i64 ((rd_T37 l0_2 x4_2).f1.f4.f1)] 37 (0, 0))) ∧ Asc (Below w.heap.size w wc))
      case first =>
       have H := HC13.out
       clear HC13
       by_cases c23 : t214 = 0
       ·
        rw [if_pos c23] at H
        have c23b0 : (t214 == 0) = true := beq_iff_eq.mpr c23
        have c23b1 : (t214 != 0) = false := bne_eq_false_iff_eq.mpr c23
        clear c23
        (first | rw [c23b0] | (simp only [i64_w, i32_w]; rw [c23b0]) | skip)
        by_cases c24 : t213.toList = ((rd_T37 l0_2 x4_2).f0).toList
        ·
         rw [if_pos c24] at H
         have c24b0 : (t213.toList == ((rd_T37 l0_2 x4_2).f0).toList) = true := beq_iff_eq.mpr c24
         have c24b1 : (t213.toList != ((rd_T37 l0_2 x4_2).f0).toList) = false := bne_eq_false_iff_eq.mpr c24
         clear c24
         by_cases c25 : ((rd_T37 l0_2 x4_2).f1.f1) ≤ a0_1
         ·
          rw [if_pos c25] at H
          have c25b0 : decide (((rd_T37 l0_2 x4_2).f1.f1) ≤ a0_1) = true := decide_eq_true c25
          clear c25
          have H' := am_ H
          clear H
          have hnb26 := NB212_209.out
          have hnc26 := NB209_212.out
          obtain ⟨hcz27_0, hcz27_1, hcz27_2, hcz27_3, hcz27_4, hcz27_5, hcz27_6, hfz27_0, hfz27_1, hfz27_2, hfz27_3, hfz27_4, hfz27_5, hfz27_6⟩ := bx7 BK212
          obtain ⟨hcz28_0, hcz28_1, hcz28_2, hfz28_0, hfz28_1, hfz28_2⟩ := bx3 BK209
          go_wp2
          go_meet
          case rel => exact ⟨_, (true), (by first | rfl | (simp; done) | (simp [*]; done)), H', ⟨by have := HJ2.out; have := HK2.out; first | omega | exact Nat.le_refl _⟩, ⟨gB BK209⟩, ⟨gB BK212⟩, ⟨bh HB⟩⟩
         rw [if_neg c25] at H
         have c25b0 : decide (((rd_T37 l0_2 x4_2).f1.f1) ≤ a0_1) = false := decide_eq_false c25
         clear c25
         have H' := am_ H
         clear H
         have hnb29 := NB212_209.out
         have hnc29 := NB209_212.out
         obtain ⟨hcz30_0, hcz30_1, hcz30_2, hcz30_3, hcz30_4, hcz30_5, hcz30_6, hfz30_0, hfz30_1, hfz30_2, hfz30_3, hfz30_4, hfz30_5, hfz30_6⟩ := bx7 BK212
         obtain ⟨hcz31_0, hcz31_1, hcz31_2, hfz31_0, hfz31_1, hfz31_2⟩ := bx3 BK209
         obtain ⟨Ao32, co32, eo32⟩ := Kd.R_slice HO217.out
         subst eo32
         go_wp2
         go_meet
         case rel => exact ⟨_, (decide ((t215.length : Int) > 0)), (by first | rfl | (simp; done) | (simp [*]; done)), H', ⟨by have := HJ2.out; have := HK2.out; first | omega | exact Nat.le_refl _⟩, ⟨gB BK209⟩, ⟨gB BK212⟩, ⟨bh HB⟩⟩
        rw [if_neg c24] at H
        have c24b0 : (t213.toList == ((rd_T37 l0_2 x4_2).f0).toList) = false := beq_eq_false_iff_ne.mpr c24
        have c24b1 : (t213.toList != ((rd_T37 l0_2 x4_2).f0).toList) = true := bne_iff_ne.mpr c24
        have H' := am_ H
        clear H
        have hnb33 := NB212_209.out
        have hnc33 := NB209_212.out
        obtain ⟨hcz34_0, hcz34_1, hcz34_2, hcz34_3, hcz34_4, hcz34_5, hcz34_6, hfz34_0, hfz34_1, hfz34_2, hfz34_3, hfz34_4, hfz34_5, hfz34_6⟩ := bx7 BK212
        go_wp2
        go_meet
        case rel => exact ⟨_, (true), (by first | rfl | (simp; done) | (simp [*]; done)), H', ⟨by have := HJ2.out; have := HK2.out; first | omega | exact Nat.le_refl _⟩, ⟨gB BK209⟩, ⟨gB BK212⟩, ⟨bh HB⟩⟩
       rw [if_neg c23] at H
       have c23b0 : (t214 == 0) = false := beq_eq_false_iff_ne.mpr c23
       have c23b1 : (t214 != 0) = true := bne_iff_ne.mpr c23
       (first | rw [c23b0] | (simp only [i64_w, i32_w]; rw [c23b0]) | skip)
       have H' := am_ H
       clear H
       go_wp2
       go_meet
       case rel => exact ⟨_, (true), (by first | rfl | (simp; done) | (simp [*]; done)), H', ⟨by have := HJ2.out; have := HK2.out; first | omega | exact Nat.le_refl _⟩, ⟨gB BK209⟩, ⟨gB BK212⟩, ⟨bh HB⟩⟩
      case rest =>
       clear HC13
       try clear c9b0 c10b0 hcz14_0 hcz14_1 hcz14_2 hcz17_0 hcz17_1 hcz17_2 hcz17_3 hcz17_4 hcz17_5 hcz17_6 hcz18_0 hcz18_1 hcz18_2 hcz20_0 hcz20_1 hcz20_2 hcz21_0 hcz21_1 hcz21_2 hcz21_3 hcz21_4 hcz21_5 hcz21_6 hfz14_0 hfz14_1 hfz14_2 hfz17_0 hfz17_1 hfz17_2 hfz17_3 hfz17_4 hfz17_5 hfz17_6 hfz18_0 hfz18_1 hfz18_2 hfz20_0 hfz20_1 hfz20_2 hfz21_0 hfz21_1 hfz21_2 hfz21_3 hfz21_4 hfz21_5 hfz21_6 hx211_0 hx211_1 hx211_2 hx211_3 hx211_4 hx211_5 hx211_6 p211 q211
       obtain ⟨kq, x63_12, rfl, HA, HJ12, BK209, BK212, HB⟩ := hcut
       cases kq with
       | zero => exact absurd HA.out (by simp [selvedgeref11_Right.j2])
       | succ kj12 =>
        have H := HA.out
        clear HA
        simp only [selvedgeref11_Right.j2] at H
        by_cases c35 : x63_12 = true
        ·
         subst c35
         have H1 : (some false) = some r := by rw [if_pos rfl] at H; exact H
         clear H
         have H := H1
         clear H1
         obtain rfl := Option.some.inj H
         go_wp2
         go_ret
         exact ⟨by first | rfl | (simp [errW_none, errW_some] <;> rfl) | (simp [*, errW_none, errW_some] <;> rfl), bh HB⟩
        replace c35 := Bool.eq_false_iff.mpr c35
        subst c35
        have H1 : (if x4_2 > 0 then (if 0 ≤ (wrap64 (x4_2 - 1)) then (if (wrap64 (x4_2 - 1)) < (l0_2.length : Int) then ((selvedgeref11_ahead.f ((rd_T37 l0_2 (wrap64 (x4_2 - 1))).f1.f0) ((rd_T37 l0_2 (wrap64 (x4_2 - 1))).f1.f1) ((rd_T37 l0_2 (wrap64 (x4_2 - 1))).f1.f2) ((rd_T37 l0_2 (wrap64 (x4_2 - 1))).f1.f3) ((rd_T37 l0_2 (wrap64 (x4_2 - 1))).f1.f4.f0) ((rd_T37 l0_2 (wrap64 (x4_2 - 1))).f1.f4.f1) ((rd_T37 l0_2 x4_2).f1.f0) ((rd_T37 l0_2 x4_2).f1.f1) ((rd_T37 l0_2 x4_2).f1.f2) ((rd_T37 l0_2 x4_2).f1.f3) ((rd_T37 l0_2 x4_2).f1.f4.f0) ((rd_T37 l0_2 x4_2).f1.f4.f1)).bind fun t219 => (if t219 = true then (selvedgeref11_Right.l0 kj12 (wrap64 (x4_2 + 1)) a0_0 a0_1 l0_2) else (some false))) else (none)) else (none)) else (selvedgeref11_Right.l0 kj12 (wrap64 (x4_2 + 1)) a0_0 a0_1 l0_2)) = some r := by rw [if_neg (show ¬ (false = true) by decide)] at H; exact H
        clear H
        have H := H1
        clear H1
        by_cases c36 : x4_2 > 0
        ·
         rw [if_pos c36] at H
         have c36b0 : decide (0 < x4_2) = true := decide_eq_true c36
         clear c36
         obtain ⟨ji37, hji37⟩ : ∃ j_ : Int, (wrap64 (x4_2 - 1)) = j_ := ⟨_, rfl⟩
         replace H : (if 0 ≤ (ji37) then (if (ji37) < (l0_2.length : Int) then ((selvedgeref11_ahead.f ((rd_T37 l0_2 (ji37)).f1.f0) ((rd_T37 l0_2 (ji37)).f1.f1) ((rd_T37 l0_2 (ji37)).f1.f2) ((rd_T37 l0_2 (ji37)).f1.f3) ((rd_T37 l0_2 (ji37)).f1.f4.f0) ((rd_T37 l0_2 (ji37)).f1.f4.f1) ((rd_T37 l0_2 x4_2).f1.f0) ((rd_T37 l0_2 x4_2).f1.f1) ((rd_T37 l0_2 x4_2).f1.f2) ((rd_T37 l0_2 x4_2).f1.f3) ((rd_T37 l0_2 x4_2).f1.f4.f0) ((rd_T37 l0_2 x4_2).f1.f4.f1)).bind fun t219 => (if t219 = true then (selvedgeref11_Right.l0 kj12 (wrap64 (x4_2 + 1)) a0_0 a0_1 l0_2) else (some false))) else (none)) else (none)) = some r := by first | (rw [hji37] at H; exact H) | (simp only [hji37] at H ⊢; exact H)
         have hji37w : (IntKind.i64.wrap (x4_2 - 1)) = ji37 := (i64_w _).trans hji37
         revert H
         refine gi (fun c38b0 H => ?_)
         revert H
         refine gi (fun c39b0 H => ?_)
         replace H := Option.bind_eq_some_iff.mp H
         obtain ⟨t219, A400, H⟩ := H
         replace H : (if t219 = true then (selvedgeref11_Right.l0 kj12 (wrap64 (x4_2 + 1)) a0_0 a0_1 l0_2) else (some false)) = some r := H
         have A40 := am_ A400
         clear A400
         by_cases c41 : t219 = true
         ·
          subst c41
          have H1 : (selvedgeref11_Right.l0 kj12 (wrap64 (x4_2 + 1)) a0_0 a0_1 l0_2) = some r := by rw [if_pos rfl] at H; exact H
          clear H
          have H := H1
          clear H1
          have H' := am_ H
          clear H
          try go_wp2
          replace BK209 := am_ (blk_drew BK209.out)
          replace BK212 := am_ (blk_drew BK212.out)
          replace HB := am_ (below_drew1 HB.out)
          have p218 : 0 ≤ ((ji37) : Int) := of_decide_eq_true ‹_›
          have q218 : (ji37) < (l0_2.length : Int) := of_decide_eq_true ‹_›
          obtain ⟨ad218, A218_3, c218_3, A218_4, c218_4, e218, hx218_0, hx218_1, hx218_2, hx218_3, hx218_4, hx218_5, hx218_6, hl218_3, hi218_3, hl218_4, hi218_4⟩ := at_T37 HR0_2.out (ji37) p218 q218
          have hw218_6 := hx218_6
          have hw218_5 := hx218_5
          have hw218_4 := hx218_4
          have hw218_3 := hx218_3
          have hw218_2 := hx218_2
          have hw218_1 := hx218_1
          have hw218_0 := hx218_0
          obtain rfl : ad211 = ad218 := (by injection e218)
          replace hx218_0 := ce HB hx218_0
          replace hx218_1 := ce HB hx218_1
          replace hx218_2 := ce HB hx218_2
          replace hx218_3 := ce HB hx218_3
          replace hx218_4 := ce HB hx218_4
          replace hx218_5 := ce HB hx218_5
          replace hx218_6 := ce HB hx218_6
          have HR218_3 := am_ hi218_3
          have HC218_3 := am_ hl218_3
          clear hi218_3 hl218_3
          have HR218_4 := am_ hi218_4
          have HC218_4 := am_ hl218_4
          clear hi218_4 hl218_4
          replace p218 := eq_true p218
          replace q218 := eq_true q218
          refine start_ (n := 15) (S := fun w' => w'.cell? ⟨gb209, 0, none⟩ = some (.int .i64 a0_0) ∧ w'.cell? ⟨gb209, 1, none⟩ = some (.int .i64 a0_1) ∧ w'.cell? ⟨gb209, 2, none⟩ = some (.slice (some ad211) l0_2.length c0_2) ∧ w'.cell? ⟨gb212, 0, none⟩ = some (.string ((rd_T37 l0_2 x4_2).f0)) ∧ w'.cell? ⟨gb212, 1, none⟩ = some (.int .i64 ((rd_T37 l0_2 x4_2).f1.f0)) ∧ w'.cell? ⟨gb212, 2, none⟩ = some (.int .i64 ((rd_T37 l0_2 x4_2).f1.f1)) ∧ w'.cell? ⟨gb212, 3, none⟩ = some (.slice A211_3 ((rd_T37 l0_2 x4_2).f1.f2).length c211_3) ∧ w'.cell? ⟨gb212, 4, none⟩ = some (.slice A211_4 ((rd_T37 l0_2 x4_2).f1.f3).length c211_4) ∧ w'.cell? ⟨gb212, 5, none⟩ = some (.int .i64 ((rd_T37 l0_2 x4_2).f1.f4.f0)) ∧ w'.cell? ⟨gb212, 6, none⟩ = some (.int .i64 ((rd_T37 l0_2 x4_2).f1.f4.f1)) ∧ w'.cell? (ad211.add (((ji37)).toNat * 7)) = some (.string ((rd_T37 l0_2 (ji37)).f0)) ∧ w'.cell? ⟨(ad211.add (((ji37)).toNat * 7)).block, (ad211.add (((ji37)).toNat * 7)).off + 1, none⟩ = some (.int .i64 ((rd_T37 l0_2 (ji37)).f1.f0)) ∧ w'.cell? ⟨(ad211.add (((ji37)).toNat * 7)).block, (ad211.add (((ji37)).toNat * 7)).off + 2, none⟩ = some (.int .i64 ((rd_T37 l0_2 (ji37)).f1.f1)) ∧ w'.cell? ⟨(ad211.add (((ji37)).toNat * 7)).block, (ad211.add (((ji37)).toNat * 7)).off + 3, none⟩ = some (.slice A218_3 ((rd_T37 l0_2 (ji37)).f1.f2).length c218_3) ∧ w'.cell? ⟨(ad211.add (((ji37)).toNat * 7)).block, (ad211.add (((ji37)).toNat * 7)).off + 4, none⟩ = some (.slice A218_4 ((rd_T37 l0_2 (ji37)).f1.f3).length c218_4) ∧ w'.cell? ⟨(ad211.add (((ji37)).toNat * 7)).block, (ad211.add (((ji37)).toNat * 7)).off + 5, none⟩ = some (.int .i64 ((rd_T37 l0_2 (ji37)).f1.f4.f0)) ∧ w'.cell? ⟨(ad211.add (((ji37)).toNat * 7)).block, (ad211.add (((ji37)).toNat * 7)).off + 6, none⟩ = some (.int .i64 ((rd_T37 l0_2 (ji37)).f1.f4.f1))) (ds := []) #[false, false, false, false, false, false, false, false, false, false, false, false, false, false, false] (by kernel_rfl) rfl rfl ⟨(blk_cell BK209.out 0).trans rfl, (blk_cell BK209.out 1).trans rfl, (blk_cell BK209.out 2).trans rfl, (blk_cell BK212.out 0).trans rfl, (blk_cell BK212.out 1).trans rfl, (blk_cell BK212.out 2).trans rfl, (blk_cell BK212.out 3).trans rfl, (blk_cell BK212.out 4).trans rfl, (blk_cell BK212.out 5).trans rfl, (blk_cell BK212.out 6).trans rfl, (ce HB (by first | exact hw218_0)), (ce HB (by first | exact hw218_1)), (ce HB (by first | exact hw218_2)), (ce HB (by first | exact hw218_3)), (ce HB (by first | exact hw218_4)), (ce HB (by first | exact hw218_5)), (ce HB (by first | exact hw218_6))⟩ (fun hHeld => ?_); refine with_tabW selvedgeref11_Right.tab12 selvedgeref11_Right.bits12 (fun HT_ HW_ => ?_)
          generalize wc.drew = w42 at BK209 BK212 HB HR218_3 HR218_4 hx218_0 hx218_1 hx218_2 hx218_3 hx218_4 hx218_5 hx218_6 hHeld ⊢
          refine pure_ (i := 0) (N := some 64) (v := ?_) (a' := ?_) #[true, false, false, false, false, false, false, false, false, false, false, false, false, false, false] rfl rfl (any_of HT_.out (by kernel_rfl)) (fun _ _ _ h => h) (Or.inl ⟨by rfl, ?_⟩) ?_ ?_
          rotate_left
          ·
           intro w'
           go_simp
           with_reducible rfl
          rotate_left
          ·
           simp only [Act.put, List.setIfInBounds_toArray, List.set_cons_zero, List.set_cons_succ, i64_w, i32_w]
           rfl
          refine pure_ (i := 1) (N := some 65) (v := ?_) (a' := ?_) #[true, true, false, false, false, false, false, false, false, false, false, false, false, false, false] rfl rfl (any_of HT_.out (by kernel_rfl)) (fun _ _ _ h => h) (Or.inl ⟨by rfl, ?_⟩) ?_ ?_
          rotate_left
          ·
           intro w'
           go_simp
           with_reducible rfl
          rotate_left
          ·
           simp only [Act.put, List.setIfInBounds_toArray, List.set_cons_zero, List.set_cons_succ, i64_w, i32_w]
           rfl
          refine pure_ (i := 2) (N := some 66) (v := ?_) (a' := ?_) #[true, true, true, false, false, false, false, false, false, false, false, false, false, false, false] rfl rfl (any_of HT_.out (by kernel_rfl)) (fun _ _ _ h => h) (Or.inl ⟨by rfl, ?_⟩) ?_ ?_
          rotate_left
          ·
           intro w'
           go_simp
           with_reducible rfl
          rotate_left
          ·
           simp only [Act.put, List.setIfInBounds_toArray, List.set_cons_zero, List.set_cons_succ, i64_w, i32_w]
           rfl
          refine pure_ (i := 3) (N := some 67) (v := ?_) (a' := ?_) #[true, true, true, true, false, false, false, false, false, false, false, false, false, false, false] rfl rfl (any_of HT_.out (by kernel_rfl)) (fun _ _ _ h => h) (Or.inl ⟨by rfl, ?_⟩) ?_ ?_
          rotate_left
          ·
           intro w'
           go_simp
           with_reducible rfl
          rotate_left
          ·
           simp only [Act.put, List.setIfInBounds_toArray, List.set_cons_zero, List.set_cons_succ, i64_w, i32_w]
           rfl
          refine pure_ (i := 5) (N := some 69) (v := ?_) (a' := ?_) #[true, true, true, true, false, true, false, false, false, false, false, false, false, false, false] rfl rfl (any_of HT_.out (by kernel_rfl)) (fun _ _ _ h => h) (Or.inl ⟨by rfl, ?_⟩) ?_ ?_
          rotate_left
          ·
           intro w'
           go_simp
           with_reducible rfl
          rotate_left
          ·
           simp only [Act.put, List.setIfInBounds_toArray, List.set_cons_zero, List.set_cons_succ, i64_w, i32_w]
           rfl
          refine pure_ (i := 6) (N := some 70) (v := ?_) (a' := ?_) #[true, true, true, true, false, true, true, false, false, false, false, false, false, false, false] rfl rfl (any_of HT_.out (by kernel_rfl)) (fun _ _ _ h => h) (Or.inl ⟨by rfl, ?_⟩) ?_ ?_
          rotate_left
          ·
           intro w'
           go_simp
           with_reducible rfl
          rotate_left
          ·
           simp only [Act.put, List.setIfInBounds_toArray, List.set_cons_zero, List.set_cons_succ, i64_w, i32_w]
           rfl
          refine pure_ (i := 10) (N := some 74) (v := ?_) (a' := ?_) #[true, true, true, true, false, true, true, false, false, false, true, false, false, false, false] rfl rfl (any_of HT_.out (by kernel_rfl)) (fun _ _ _ h => h) (Or.inl ⟨by rfl, ?_⟩) ?_ ?_
          rotate_left
          ·
           intro w'
           go_simp
           with_reducible rfl
          rotate_left
          ·
           simp only [Act.put, List.setIfInBounds_toArray, List.set_cons_zero, List.set_cons_succ, i64_w, i32_w]
           rfl
          refine take_ (i := 4) (N := some 68) (v := ?_) (a' := ?_) #[true, true, true, true, true, true, true, false, false, false, true, false, false, false, false] rfl rfl (take_ofW HT_.out HW_.out (by kernel_rfl)) (fun _ _ _ h => h) (Or.inl ⟨by rfl, ?_⟩) hHeld ?_ ?_
          rotate_left
          ·
           rintro w' ⟨s0, s1, s2, s3, s4, s5, s6, s7, s8, s9, s10, s11, s12, s13, s14, s15, s16⟩
           go_simp
           with_reducible rfl
          rotate_left
          ·
           simp only [Act.put, List.setIfInBounds_toArray, List.set_cons_zero, List.set_cons_succ, i64_w, i32_w]
           rfl
          refine pure_ (i := 7) (N := some 71) (v := ?_) (a' := ?_) #[true, true, true, true, true, true, true, true, false, false, true, false, false, false, false] rfl rfl (any_of HT_.out (by kernel_rfl)) (fun _ _ _ h => h) (Or.inl ⟨by rfl, ?_⟩) ?_ ?_
          rotate_left
          ·
           intro w'
           go_simp
           with_reducible rfl
          rotate_left
          ·
           simp only [Act.put, List.setIfInBounds_toArray, List.set_cons_zero, List.set_cons_succ, i64_w, i32_w]
           rfl
          refine pure_ (i := 8) (N := some 72) (v := ?_) (a' := ?_) #[true, true, true, true, true, true, true, true, true, false, true, false, false, false, false] rfl rfl (any_of HT_.out (by kernel_rfl)) (fun _ _ _ h => h) (Or.inl ⟨by rfl, ?_⟩) ?_ ?_
          rotate_left
          ·
           intro w'
           go_simp
           with_reducible rfl
          rotate_left
          ·
           simp only [Act.put, List.setIfInBounds_toArray, List.set_cons_zero, List.set_cons_succ, i64_w, i32_w]
           rfl
          refine take_ (i := 9) (N := some 73) (v := ?_) (a' := ?_) #[true, true, true, true, true, true, true, true, true, true, true, false, false, false, false] rfl rfl (take_ofW HT_.out HW_.out (by kernel_rfl)) (fun _ _ _ h => h) (Or.inl ⟨by rfl, ?_⟩) hHeld ?_ ?_
          rotate_left
          ·
           rintro w' ⟨s0, s1, s2, s3, s4, s5, s6, s7, s8, s9, s10, s11, s12, s13, s14, s15, s16⟩
           go_simp
           with_reducible rfl
          rotate_left
          ·
           simp only [Act.put, List.setIfInBounds_toArray, List.set_cons_zero, List.set_cons_succ, i64_w, i32_w]
           rfl
          refine take_ (i := 11) (N := some 75) (v := ?_) (a' := ?_) #[true, true, true, true, true, true, true, true, true, true, true, true, false, false, false] rfl rfl (take_ofW HT_.out HW_.out (by kernel_rfl)) (fun _ _ _ h => h) (Or.inl ⟨by rfl, ?_⟩) hHeld ?_ ?_
          rotate_left
          ·
           rintro w' ⟨s0, s1, s2, s3, s4, s5, s6, s7, s8, s9, s10, s11, s12, s13, s14, s15, s16⟩
           go_simp
           with_reducible rfl
          rotate_left
          ·
           simp only [Act.put, List.setIfInBounds_toArray, List.set_cons_zero, List.set_cons_succ, i64_w, i32_w]
           rfl
          refine one_ (i := 12) (N := some 76) #[true, true, true, true, true, true, true, true, true, true, true, true, true, false, false] rfl rfl (one_of HT_.out (by kernel_rfl)) (by decide) (fun K hK => ?_)
          refine goes_ Try.func61 (by kernel_rfl) rfl #[.agg #[.int .i64 ((rd_T37 l0_2 (ji37)).f1.f0), .int .i64 ((rd_T37 l0_2 (ji37)).f1.f1), .slice A218_3 ((rd_T37 l0_2 (ji37)).f1.f2).length c218_3, .slice A218_4 ((rd_T37 l0_2 (ji37)).f1.f3).length c218_4, .int .i64 ((rd_T37 l0_2 (ji37)).f1.f4.f0), .int .i64 ((rd_T37 l0_2 (ji37)).f1.f4.f1)], .agg #[.int .i64 ((rd_T37 l0_2 x4_2).f1.f0), .int .i64 ((rd_T37 l0_2 x4_2).f1.f1), .slice A211_3 ((rd_T37 l0_2 x4_2).f1.f2).length c211_3, .slice A211_4 ((rd_T37 l0_2 x4_2).f1.f3).length c211_4, .int .i64 ((rd_T37 l0_2 x4_2).f1.f4.f0), .int .i64 ((rd_T37 l0_2 x4_2).f1.f4.f1)]] (by rfl) rfl rfl (by (try simp only [List.map_toArray, List.map_cons, List.map_nil]); first | done | (simp only [hji37]; rfl) | rfl | (simp only [List.length_drop, List.length_take]; rfl)) ?_
          with_reducible refine (selvedgeref11_ahead.calls ((rd_T37 l0_2 (ji37)).f1.f0) ((rd_T37 l0_2 (ji37)).f1.f1) _ _ ((rd_T37 l0_2 (ji37)).f1.f2) _ _ ((rd_T37 l0_2 (ji37)).f1.f3) ((rd_T37 l0_2 (ji37)).f1.f4.f0) ((rd_T37 l0_2 (ji37)).f1.f4.f1) ((rd_T37 l0_2 x4_2).f1.f0) ((rd_T37 l0_2 x4_2).f1.f1) _ _ ((rd_T37 l0_2 x4_2).f1.f2) _ _ ((rd_T37 l0_2 x4_2).f1.f3) ((rd_T37 l0_2 x4_2).f1.f4.f0) ((rd_T37 l0_2 x4_2).f1.f4.f1) true _ ?side1 ?side2 ?side3 ?side4 ?side5 ?side6 ?side7 ?side8 A40.out).mono ?_
          (case side1 => exact gCB HR218_3 HB)
          (case side2 => exact HC218_3.out)
          (case side3 => exact gCB HR218_4 HB)
          (case side4 => exact HC218_4.out)
          (case side5 => exact gCB HR211_3 HB)
          (case side6 => exact HC211_3.out)
          (case side7 => exact gCB HR211_4 HB)
          (case side8 => exact HC211_4.out)
          rintro e w43 ⟨rfl, hb⟩
          refine ⟨_, rfl, ?_⟩
          replace BK209 := tBb BK209 hb
          replace BK212 := tBb BK212 hb
          replace HB := tHb HB hb
          (try clear hb)
          (try clear hb2)
          (try clear hk)
          (try clear hi)
          refine hK.out _ _ ⟨(blk_cell BK209.out 0).trans rfl, (blk_cell BK209.out 1).trans rfl, (blk_cell BK209.out 2).trans rfl, (blk_cell BK212.out 0).trans rfl, (blk_cell BK212.out 1).trans rfl, (blk_cell BK212.out 2).trans rfl, (blk_cell BK212.out 3).trans rfl, (blk_cell BK212.out 4).trans rfl, (blk_cell BK212.out 5).trans rfl, (blk_cell BK212.out 6).trans rfl, (ce HB (by first | exact hw218_0)), (ce HB (by first | exact hw218_1)), (ce HB (by first | exact hw218_2)), (ce HB (by first | exact hw218_3)), (ce HB (by first | exact hw218_4)), (ce HB (by first | exact hw218_5)), (ce HB (by first | exact hw218_6))⟩ (fun hHeld => ?_)
          clear hK K
          refine norm_ (a' := ?_) ?_ ?_
          rotate_left
          ·
           show Act.put _ (some 76) _ = _
           simp only [Act.put, List.setIfInBounds_toArray, List.set_cons_zero, List.set_cons_succ, i64_w, i32_w]
           rfl
          refine pure_ (i := 13) (N := some 77) (v := ?_) (a' := ?_) #[true, true, true, true, true, true, true, true, true, true, true, true, true, true, false] rfl rfl (any_of HT_.out (by kernel_rfl)) (fun _ _ _ h => h) (Or.inl ⟨by rfl, ?_⟩) ?_ ?_
          rotate_left
          ·
           intro w'
           go_simp
           with_reducible rfl
          rotate_left
          ·
           simp only [Act.put, List.setIfInBounds_toArray, List.set_cons_zero, List.set_cons_succ, i64_w, i32_w]
           rfl
          refine pure_ (i := 14) (N := some 78) (v := ?_) (a' := ?_) #[true, true, true, true, true, true, true, true, true, true, true, true, true, true, true] rfl rfl (any_of HT_.out (by kernel_rfl)) (fun _ _ _ h => h) (Or.inl ⟨by rfl, ?_⟩) ?_ ?_
          rotate_left
          ·
           intro w'
           go_simp
           with_reducible rfl
          rotate_left
          ·
           simp only [Act.put, List.setIfInBounds_toArray, List.set_cons_zero, List.set_cons_succ, i64_w, i32_w]
           rfl
          refine done_ (done_of HT_.out (by kernel_rfl)) ?_
          try go_wp2
          go_roundg kj12
          case measure => have := HJ2.out; have := HK2.out; have := HJ12.out; omega
          case rel => exact ⟨(wrap64 (x4_2 + 1)), (by first | rfl | (simp; done) | (simp [*]; done)), H', ⟨by have := HJ2.out; have := HK2.out; have := HJ12.out; omega⟩, ⟨gB BK209⟩, ⟨bh HB⟩⟩
         replace c41 := Bool.eq_false_iff.mpr c41
         subst c41
         have H1 : (some false) = some r := by rw [if_neg (show ¬ (false = true) by decide)] at H; exact H
         clear H
         have H := H1
         clear H1
         obtain rfl := Option.some.inj H
         try go_wp2
         replace BK209 := am_ (blk_drew BK209.out)
         replace BK212 := am_ (blk_drew BK212.out)
         replace HB := am_ (below_drew1 HB.out)
         have p218 : 0 ≤ ((ji37) : Int) := of_decide_eq_true ‹_›
         have q218 : (ji37) < (l0_2.length : Int) := of_decide_eq_true ‹_›
         obtain ⟨ad218, A218_3, c218_3, A218_4, c218_4, e218, hx218_0, hx218_1, hx218_2, hx218_3, hx218_4, hx218_5, hx218_6, hl218_3, hi218_3, hl218_4, hi218_4⟩ := at_T37 HR0_2.out (ji37) p218 q218
         have hw218_6 := hx218_6
         have hw218_5 := hx218_5
         have hw218_4 := hx218_4
         have hw218_3 := hx218_3
         have hw218_2 := hx218_2
         have hw218_1 := hx218_1
         have hw218_0 := hx218_0
         obtain rfl : ad211 = ad218 := (by injection e218)
         replace hx218_0 := ce HB hx218_0
         replace hx218_1 := ce HB hx218_1
         replace hx218_2 := ce HB hx218_2
         replace hx218_3 := ce HB hx218_3
         replace hx218_4 := ce HB hx218_4
         replace hx218_5 := ce HB hx218_5
         replace hx218_6 := ce HB hx218_6
         have HR218_3 := am_ hi218_3
         have HC218_3 := am_ hl218_3
         clear hi218_3 hl218_3
         have HR218_4 := am_ hi218_4
         have HC218_4 := am_ hl218_4
         clear hi218_4 hl218_4
         replace p218 := eq_true p218
         replace q218 := eq_true q218
         refine start_ (n := 15) (S := fun w' => w'.cell? ⟨gb209, 0, none⟩ = some (.int .i64 a0_0) ∧ w'.cell? ⟨gb209, 1, none⟩ = some (.int .i64 a0_1) ∧ w'.cell? ⟨gb209, 2, none⟩ = some (.slice (some ad211) l0_2.length c0_2) ∧ w'.cell? ⟨gb212, 0, none⟩ = some (.string ((rd_T37 l0_2 x4_2).f0)) ∧ w'.cell? ⟨gb212, 1, none⟩ = some (.int .i64 ((rd_T37 l0_2 x4_2).f1.f0)) ∧ w'.cell? ⟨gb212, 2, none⟩ = some (.int .i64 ((rd_T37 l0_2 x4_2).f1.f1)) ∧ w'.cell? ⟨gb212, 3, none⟩ = some (.slice A211_3 ((rd_T37 l0_2 x4_2).f1.f2).length c211_3) ∧ w'.cell? ⟨gb212, 4, none⟩ = some (.slice A211_4 ((rd_T37 l0_2 x4_2).f1.f3).length c211_4) ∧ w'.cell? ⟨gb212, 5, none⟩ = some (.int .i64 ((rd_T37 l0_2 x4_2).f1.f4.f0)) ∧ w'.cell? ⟨gb212, 6, none⟩ = some (.int .i64 ((rd_T37 l0_2 x4_2).f1.f4.f1)) ∧ w'.cell? (ad211.add (((ji37)).toNat * 7)) = some (.string ((rd_T37 l0_2 (ji37)).f0)) ∧ w'.cell? ⟨(ad211.add (((ji37)).toNat * 7)).block, (ad211.add (((ji37)).toNat * 7)).off + 1, none⟩ = some (.int .i64 ((rd_T37 l0_2 (ji37)).f1.f0)) ∧ w'.cell? ⟨(ad211.add (((ji37)).toNat * 7)).block, (ad211.add (((ji37)).toNat * 7)).off + 2, none⟩ = some (.int .i64 ((rd_T37 l0_2 (ji37)).f1.f1)) ∧ w'.cell? ⟨(ad211.add (((ji37)).toNat * 7)).block, (ad211.add (((ji37)).toNat * 7)).off + 3, none⟩ = some (.slice A218_3 ((rd_T37 l0_2 (ji37)).f1.f2).length c218_3) ∧ w'.cell? ⟨(ad211.add (((ji37)).toNat * 7)).block, (ad211.add (((ji37)).toNat * 7)).off + 4, none⟩ = some (.slice A218_4 ((rd_T37 l0_2 (ji37)).f1.f3).length c218_4) ∧ w'.cell? ⟨(ad211.add (((ji37)).toNat * 7)).block, (ad211.add (((ji37)).toNat * 7)).off + 5, none⟩ = some (.int .i64 ((rd_T37 l0_2 (ji37)).f1.f4.f0)) ∧ w'.cell? ⟨(ad211.add (((ji37)).toNat * 7)).block, (ad211.add (((ji37)).toNat * 7)).off + 6, none⟩ = some (.int .i64 ((rd_T37 l0_2 (ji37)).f1.f4.f1))) (ds := []) #[false, false, false, false, false, false, false, false, false, false, false, false, false, false, false] (by kernel_rfl) rfl rfl ⟨(blk_cell BK209.out 0).trans rfl, (blk_cell BK209.out 1).trans rfl, (blk_cell BK209.out 2).trans rfl, (blk_cell BK212.out 0).trans rfl, (blk_cell BK212.out 1).trans rfl, (blk_cell BK212.out 2).trans rfl, (blk_cell BK212.out 3).trans rfl, (blk_cell BK212.out 4).trans rfl, (blk_cell BK212.out 5).trans rfl, (blk_cell BK212.out 6).trans rfl, (ce HB (by first | exact hw218_0)), (ce HB (by first | exact hw218_1)), (ce HB (by first | exact hw218_2)), (ce HB (by first | exact hw218_3)), (ce HB (by first | exact hw218_4)), (ce HB (by first | exact hw218_5)), (ce HB (by first | exact hw218_6))⟩ (fun hHeld => ?_); refine with_tabW selvedgeref11_Right.tab12 selvedgeref11_Right.bits12 (fun HT_ HW_ => ?_)
         generalize wc.drew = w44 at BK209 BK212 HB HR218_3 HR218_4 hx218_0 hx218_1 hx218_2 hx218_3 hx218_4 hx218_5 hx218_6 hHeld ⊢
         refine pure_ (i := 0) (N := some 64) (v := ?_) (a' := ?_) #[true, false, false, false, false, false, false, false, false, false, false, false, false, false, false] rfl rfl (any_of HT_.out (by kernel_rfl)) (fun _ _ _ h => h) (Or.inl ⟨by rfl, ?_⟩) ?_ ?_
         rotate_left
         ·
          intro w'
          go_simp
          with_reducible rfl
         rotate_left
         ·
          simp only [Act.put, List.setIfInBounds_toArray, List.set_cons_zero, List.set_cons_succ, i64_w, i32_w]
          rfl
         refine pure_ (i := 1) (N := some 65) (v := ?_) (a' := ?_) #[true, true, false, false, false, false, false, false, false, false, false, false, false, false, false] rfl rfl (any_of HT_.out (by kernel_rfl)) (fun _ _ _ h => h) (Or.inl ⟨by rfl, ?_⟩) ?_ ?_
         rotate_left
         ·
          intro w'
          go_simp
          with_reducible rfl
         rotate_left
         ·
          simp only [Act.put, List.setIfInBounds_toArray, List.set_cons_zero, List.set_cons_succ, i64_w, i32_w]
          rfl
         refine pure_ (i := 2) (N := some 66) (v := ?_) (a' := ?_) #[true, true, true, false, false, false, false, false, false, false, false, false, false, false, false] rfl rfl (any_of HT_.out (by kernel_rfl)) (fun _ _ _ h => h) (Or.inl ⟨by rfl, ?_⟩) ?_ ?_
         rotate_left
         ·
          intro w'
          go_simp
          with_reducible rfl
         rotate_left
         ·
          simp only [Act.put, List.setIfInBounds_toArray, List.set_cons_zero, List.set_cons_succ, i64_w, i32_w]
          rfl
         refine pure_ (i := 3) (N := some 67) (v := ?_) (a' := ?_) #[true, true, true, true, false, false, false, false, false, false, false, false, false, false, false] rfl rfl (any_of HT_.out (by kernel_rfl)) (fun _ _ _ h => h) (Or.inl ⟨by rfl, ?_⟩) ?_ ?_
         rotate_left
         ·
          intro w'
          go_simp
          with_reducible rfl
         rotate_left
         ·
          simp only [Act.put, List.setIfInBounds_toArray, List.set_cons_zero, List.set_cons_succ, i64_w, i32_w]
          rfl
         refine pure_ (i := 5) (N := some 69) (v := ?_) (a' := ?_) #[true, true, true, true, false, true, false, false, false, false, false, false, false, false, false] rfl rfl (any_of HT_.out (by kernel_rfl)) (fun _ _ _ h => h) (Or.inl ⟨by rfl, ?_⟩) ?_ ?_
         rotate_left
         ·
          intro w'
          go_simp
          with_reducible rfl
         rotate_left
         ·
          simp only [Act.put, List.setIfInBounds_toArray, List.set_cons_zero, List.set_cons_succ, i64_w, i32_w]
          rfl
         refine pure_ (i := 6) (N := some 70) (v := ?_) (a' := ?_) #[true, true, true, true, false, true, true, false, false, false, false, false, false, false, false] rfl rfl (any_of HT_.out (by kernel_rfl)) (fun _ _ _ h => h) (Or.inl ⟨by rfl, ?_⟩) ?_ ?_
         rotate_left
         ·
          intro w'
          go_simp
          with_reducible rfl
         rotate_left
         ·
          simp only [Act.put, List.setIfInBounds_toArray, List.set_cons_zero, List.set_cons_succ, i64_w, i32_w]
          rfl
         refine pure_ (i := 10) (N := some 74) (v := ?_) (a' := ?_) #[true, true, true, true, false, true, true, false, false, false, true, false, false, false, false] rfl rfl (any_of HT_.out (by kernel_rfl)) (fun _ _ _ h => h) (Or.inl ⟨by rfl, ?_⟩) ?_ ?_
         rotate_left
         ·
          intro w'
          go_simp
          with_reducible rfl
         rotate_left
         ·
          simp only [Act.put, List.setIfInBounds_toArray, List.set_cons_zero, List.set_cons_succ, i64_w, i32_w]
          rfl
         refine take_ (i := 4) (N := some 68) (v := ?_) (a' := ?_) #[true, true, true, true, true, true, true, false, false, false, true, false, false, false, false] rfl rfl (take_ofW HT_.out HW_.out (by kernel_rfl)) (fun _ _ _ h => h) (Or.inl ⟨by rfl, ?_⟩) hHeld ?_ ?_
         rotate_left
         ·
          rintro w' ⟨s0, s1, s2, s3, s4, s5, s6, s7, s8, s9, s10, s11, s12, s13, s14, s15, s16⟩
          go_simp
          with_reducible rfl
         rotate_left
         ·
          simp only [Act.put, List.setIfInBounds_toArray, List.set_cons_zero, List.set_cons_succ, i64_w, i32_w]
          rfl
         refine pure_ (i := 7) (N := some 71) (v := ?_) (a' := ?_) #[true, true, true, true, true, true, true, true, false, false, true, false, false, false, false] rfl rfl (any_of HT_.out (by kernel_rfl)) (fun _ _ _ h => h) (Or.inl ⟨by rfl, ?_⟩) ?_ ?_
         rotate_left
         ·
          intro w'
          go_simp
          with_reducible rfl
         rotate_left
         ·
          simp only [Act.put, List.setIfInBounds_toArray, List.set_cons_zero, List.set_cons_succ, i64_w, i32_w]
          rfl
         refine pure_ (i := 8) (N := some 72) (v := ?_) (a' := ?_) #[true, true, true, true, true, true, true, true, true, false, true, false, false, false, false] rfl rfl (any_of HT_.out (by kernel_rfl)) (fun _ _ _ h => h) (Or.inl ⟨by rfl, ?_⟩) ?_ ?_
         rotate_left
         ·
          intro w'
          go_simp
          with_reducible rfl
         rotate_left
         ·
          simp only [Act.put, List.setIfInBounds_toArray, List.set_cons_zero, List.set_cons_succ, i64_w, i32_w]
          rfl
         refine take_ (i := 9) (N := some 73) (v := ?_) (a' := ?_) #[true, true, true, true, true, true, true, true, true, true, true, false, false, false, false] rfl rfl (take_ofW HT_.out HW_.out (by kernel_rfl)) (fun _ _ _ h => h) (Or.inl ⟨by rfl, ?_⟩) hHeld ?_ ?_
         rotate_left
         ·
          rintro w' ⟨s0, s1, s2, s3, s4, s5, s6, s7, s8, s9, s10, s11, s12, s13, s14, s15, s16⟩
          go_simp
          with_reducible rfl
         rotate_left
         ·
          simp only [Act.put, List.setIfInBounds_toArray, List.set_cons_zero, List.set_cons_succ, i64_w, i32_w]
          rfl
         refine take_ (i := 11) (N := some 75) (v := ?_) (a' := ?_) #[true, true, true, true, true, true, true, true, true, true, true, true, false, false, false] rfl rfl (take_ofW HT_.out HW_.out (by kernel_rfl)) (fun _ _ _ h => h) (Or.inl ⟨by rfl, ?_⟩) hHeld ?_ ?_
         rotate_left
         ·
          rintro w' ⟨s0, s1, s2, s3, s4, s5, s6, s7, s8, s9, s10, s11, s12, s13, s14, s15, s16⟩
          go_simp
          with_reducible rfl
         rotate_left
         ·
          simp only [Act.put, List.setIfInBounds_toArray, List.set_cons_zero, List.set_cons_succ, i64_w, i32_w]
          rfl
         refine one_ (i := 12) (N := some 76) #[true, true, true, true, true, true, true, true, true, true, true, true, true, false, false] rfl rfl (one_of HT_.out (by kernel_rfl)) (by decide) (fun K hK => ?_)
         refine goes_ Try.func61 (by kernel_rfl) rfl #[.agg #[.int .i64 ((rd_T37 l0_2 (ji37)).f1.f0), .int .i64 ((rd_T37 l0_2 (ji37)).f1.f1), .slice A218_3 ((rd_T37 l0_2 (ji37)).f1.f2).length c218_3, .slice A218_4 ((rd_T37 l0_2 (ji37)).f1.f3).length c218_4, .int .i64 ((rd_T37 l0_2 (ji37)).f1.f4.f0), .int .i64 ((rd_T37 l0_2 (ji37)).f1.f4.f1)], .agg #[.int .i64 ((rd_T37 l0_2 x4_2).f1.f0), .int .i64 ((rd_T37 l0_2 x4_2).f1.f1), .slice A211_3 ((rd_T37 l0_2 x4_2).f1.f2).length c211_3, .slice A211_4 ((rd_T37 l0_2 x4_2).f1.f3).length c211_4, .int .i64 ((rd_T37 l0_2 x4_2).f1.f4.f0), .int .i64 ((rd_T37 l0_2 x4_2).f1.f4.f1)]] (by rfl) rfl rfl (by (try simp only [List.map_toArray, List.map_cons, List.map_nil]); first | done | (simp only [hji37]; rfl) | rfl | (simp only [List.length_drop, List.length_take]; rfl)) ?_
         with_reducible refine (selvedgeref11_ahead.calls ((rd_T37 l0_2 (ji37)).f1.f0) ((rd_T37 l0_2 (ji37)).f1.f1) _ _ ((rd_T37 l0_2 (ji37)).f1.f2) _ _ ((rd_T37 l0_2 (ji37)).f1.f3) ((rd_T37 l0_2 (ji37)).f1.f4.f0) ((rd_T37 l0_2 (ji37)).f1.f4.f1) ((rd_T37 l0_2 x4_2).f1.f0) ((rd_T37 l0_2 x4_2).f1.f1) _ _ ((rd_T37 l0_2 x4_2).f1.f2) _ _ ((rd_T37 l0_2 x4_2).f1.f3) ((rd_T37 l0_2 x4_2).f1.f4.f0) ((rd_T37 l0_2 x4_2).f1.f4.f1) false _ ?side1 ?side2 ?side3 ?side4 ?side5 ?side6 ?side7 ?side8 A40.out).mono ?_
         (case side1 => exact gCB HR218_3 HB)
         (case side2 => exact HC218_3.out)
         (case side3 => exact gCB HR218_4 HB)
         (case side4 => exact HC218_4.out)
         (case side5 => exact gCB HR211_3 HB)
         (case side6 => exact HC211_3.out)
         (case side7 => exact gCB HR211_4 HB)
         (case side8 => exact HC211_4.out)
         rintro e w45 ⟨rfl, hb⟩
         refine ⟨_, rfl, ?_⟩
         replace BK209 := tBb BK209 hb
         replace BK212 := tBb BK212 hb
         replace HB := tHb HB hb
         (try clear hb)
         (try clear hb2)
         (try clear hk)
         (try clear hi)
         refine hK.out _ _ ⟨(blk_cell BK209.out 0).trans rfl, (blk_cell BK209.out 1).trans rfl, (blk_cell BK209.out 2).trans rfl, (blk_cell BK212.out 0).trans rfl, (blk_cell BK212.out 1).trans rfl, (blk_cell BK212.out 2).trans rfl, (blk_cell BK212.out 3).trans rfl, (blk_cell BK212.out 4).trans rfl, (blk_cell BK212.out 5).trans rfl, (blk_cell BK212.out 6).trans rfl, (ce HB (by first | exact hw218_0)), (ce HB (by first | exact hw218_1)), (ce HB (by first | exact hw218_2)), (ce HB (by first | exact hw218_3)), (ce HB (by first | exact hw218_4)), (ce HB (by first | exact hw218_5)), (ce HB (by first | exact hw218_6))⟩ (fun hHeld => ?_)
         clear hK K
         refine norm_ (a' := ?_) ?_ ?_
         rotate_left
         ·
          show Act.put _ (some 76) _ = _
          simp only [Act.put, List.setIfInBounds_toArray, List.set_cons_zero, List.set_cons_succ, i64_w, i32_w]
          rfl
         refine pure_ (i := 13) (N := some 77) (v := ?_) (a' := ?_) #[true, true, true, true, true, true, true, true, true, true, true, true, true, true, false] rfl rfl (any_of HT_.out (by kernel_rfl)) (fun _ _ _ h => h) (Or.inl ⟨by rfl, ?_⟩) ?_ ?_
         rotate_left
         ·
          intro w'
          go_simp
          with_reducible rfl
         rotate_left
         ·
          simp only [Act.put, List.setIfInBounds_toArray, List.set_cons_zero, List.set_cons_succ, i64_w, i32_w]
          rfl
         refine pure_ (i := 14) (N := some 78) (v := ?_) (a' := ?_) #[true, true, true, true, true, true, true, true, true, true, true, true, true, true, true] rfl rfl (any_of HT_.out (by kernel_rfl)) (fun _ _ _ h => h) (Or.inl ⟨by rfl, ?_⟩) ?_ ?_
         rotate_left
         ·
          intro w'
          go_simp
          with_reducible rfl
         rotate_left
         ·
          simp only [Act.put, List.setIfInBounds_toArray, List.set_cons_zero, List.set_cons_succ, i64_w, i32_w]
          rfl
         refine done_ (done_of HT_.out (by kernel_rfl)) ?_
         try go_wp2
         go_ret
         exact ⟨by first | rfl | (simp [errW_none, errW_some] <;> rfl) | (simp only [← hji37]; first | rfl | (simp [errW_none, errW_some] <;> rfl)) | (simp [*, errW_none, errW_some] <;> rfl), bh HB⟩
        rw [if_neg c36] at H
        have c36b0 : decide (0 < x4_2) = false := decide_eq_false c36
        clear c36
        have H' := am_ H
        clear H
        try go_wp2
        replace BK209 := am_ (blk_drew BK209.out)
        replace BK212 := am_ (blk_drew BK212.out)
        replace HB := am_ (below_drew1 HB.out)
        refine start_ (n := 15) (S := fun w' => True) (ds := []) #[false, false, false, false, false, false, false, false, false, false, false, false, false, false, false] (by kernel_rfl) rfl rfl trivial (fun hHeld => ?_); refine with_tabW selvedgeref11_Right.tab12 selvedgeref11_Right.bits12 (fun HT_ HW_ => ?_)
        generalize wc.drew = w46 at BK209 BK212 HB hHeld ⊢
        refine pure_ (i := 0) (N := some 64) (v := ?_) (a' := ?_) #[true, false, false, false, false, false, false, false, false, false, false, false, false, false, false] rfl rfl (any_of HT_.out (by kernel_rfl)) (fun _ _ _ h => h) (Or.inl ⟨by rfl, ?_⟩) ?_ ?_
        rotate_left
        ·
         intro w'
         go_simp
         with_reducible rfl
        rotate_left
        ·
         simp only [Act.put, List.setIfInBounds_toArray, List.set_cons_zero, List.set_cons_succ, i64_w, i32_w]
         rfl
        refine pure_ (i := 1) (N := some 65) (v := ?_) (a' := ?_) #[true, true, false, false, false, false, false, false, false, false, false, false, false, false, false] rfl rfl (any_of HT_.out (by kernel_rfl)) (fun _ _ _ h => h) (Or.inl ⟨by rfl, ?_⟩) ?_ ?_
        rotate_left
        ·
         intro w'
         go_simp
         with_reducible rfl
        rotate_left
        ·
         simp only [Act.put, List.setIfInBounds_toArray, List.set_cons_zero, List.set_cons_succ, i64_w, i32_w]
         rfl
        refine pure_ (i := 2) (N := some 66) (v := ?_) (a' := ?_) #[true, true, true, false, false, false, false, false, false, false, false, false, false, false, false] rfl rfl (any_of HT_.out (by kernel_rfl)) (fun _ _ _ h => h) (Or.inl ⟨by rfl, ?_⟩) ?_ ?_
        rotate_left
        ·
         intro w'
         go_simp
         with_reducible rfl
        rotate_left
        ·
         simp only [Act.put, List.setIfInBounds_toArray, List.set_cons_zero, List.set_cons_succ, i64_w, i32_w]
         rfl
        refine pure_ (i := 3) (N := some 67) (v := undef) (a' := ?_) #[true, true, true, true, false, false, false, false, false, false, false, false, false, false, false] rfl rfl (any_of HT_.out (by kernel_rfl)) (fun _ _ _ h => h) (Or.inr ⟨by rfl, rfl⟩) ?_ ?_
        rotate_left
        ·
         simp only [Act.put, List.setIfInBounds_toArray, List.set_cons_zero, List.set_cons_succ, i64_w, i32_w]
         rfl
        refine pure_ (i := 4) (N := some 68) (v := undef) (a' := ?_) #[true, true, true, true, true, false, false, false, false, false, false, false, false, false, false] rfl rfl (any_of HT_.out (by kernel_rfl)) (fun _ _ _ h => h) (Or.inr ⟨by rfl, rfl⟩) ?_ ?_
        rotate_left
        ·
         simp only [Act.put, List.setIfInBounds_toArray, List.set_cons_zero, List.set_cons_succ, i64_w, i32_w]
         rfl
        refine pure_ (i := 5) (N := some 69) (v := undef) (a' := ?_) #[true, true, true, true, true, true, false, false, false, false, false, false, false, false, false] rfl rfl (any_of HT_.out (by kernel_rfl)) (fun _ _ _ h => h) (Or.inr ⟨by rfl, rfl⟩) ?_ ?_
        rotate_left
        ·
         simp only [Act.put, List.setIfInBounds_toArray, List.set_cons_zero, List.set_cons_succ, i64_w, i32_w]
         rfl
        refine pure_ (i := 6) (N := some 70) (v := undef) (a' := ?_) #[true, true, true, true, true, true, true, false, false, false, false, false, false, false, false] rfl rfl (any_of HT_.out (by kernel_rfl)) (fun _ _ _ h => h) (Or.inr ⟨by rfl, rfl⟩) ?_ ?_
        rotate_left
        ·
         simp only [Act.put, List.setIfInBounds_toArray, List.set_cons_zero, List.set_cons_succ, i64_w, i32_w]
         rfl
        refine pure_ (i := 7) (N := some 71) (v := undef) (a' := ?_) #[true, true, true, true, true, true, true, true, false, false, false, false, false, false, false] rfl rfl (any_of HT_.out (by kernel_rfl)) (fun _ _ _ h => h) (Or.inr ⟨by rfl, rfl⟩) ?_ ?_
        rotate_left
        ·
         simp only [Act.put, List.setIfInBounds_toArray, List.set_cons_zero, List.set_cons_succ, i64_w, i32_w]
         rfl
        refine pure_ (i := 8) (N := some 72) (v := undef) (a' := ?_) #[true, true, true, true, true, true, true, true, true, false, false, false, false, false, false] rfl rfl (any_of HT_.out (by kernel_rfl)) (fun _ _ _ h => h) (Or.inr ⟨by rfl, rfl⟩) ?_ ?_
        rotate_left
        ·
         simp only [Act.put, List.setIfInBounds_toArray, List.set_cons_zero, List.set_cons_succ, i64_w, i32_w]
         rfl
        refine pure_ (i := 9) (N := some 73) (v := undef) (a' := ?_) #[true, true, true, true, true, true, true, true, true, true, false, false, false, false, false] rfl rfl (any_of HT_.out (by kernel_rfl)) (fun _ _ _ h => h) (Or.inr ⟨by rfl, rfl⟩) ?_ ?_
        rotate_left
        ·
         simp only [Act.put, List.setIfInBounds_toArray, List.set_cons_zero, List.set_cons_succ, i64_w, i32_w]
         rfl
        refine pure_ (i := 10) (N := some 74) (v := undef) (a' := ?_) #[true, true, true, true, true, true, true, true, true, true, true, false, false, false, false] rfl rfl (any_of HT_.out (by kernel_rfl)) (fun _ _ _ h => h) (Or.inr ⟨by rfl, rfl⟩) ?_ ?_
        rotate_left
        ·
         simp only [Act.put, List.setIfInBounds_toArray, List.set_cons_zero, List.set_cons_succ, i64_w, i32_w]
         rfl
        refine pure_ (i := 11) (N := some 75) (v := undef) (a' := ?_) #[true, true, true, true, true, true, true, true, true, true, true, true, false, false, false] rfl rfl (any_of HT_.out (by kernel_rfl)) (fun _ _ _ h => h) (Or.inr ⟨by rfl, rfl⟩) ?_ ?_
        rotate_left
        ·
         simp only [Act.put, List.setIfInBounds_toArray, List.set_cons_zero, List.set_cons_succ, i64_w, i32_w]
         rfl
        refine pure_ (i := 12) (N := some 76) (v := undef) (a' := ?_) #[true, true, true, true, true, true, true, true, true, true, true, true, true, false, false] rfl rfl (any_of HT_.out (by kernel_rfl)) (fun _ _ _ h => h) (Or.inr ⟨by rfl, rfl⟩) ?_ ?_
        rotate_left
        ·
         simp only [Act.put, List.setIfInBounds_toArray, List.set_cons_zero, List.set_cons_succ, i64_w, i32_w]
         rfl
        refine pure_ (i := 13) (N := some 77) (v := undef) (a' := ?_) #[true, true, true, true, true, true, true, true, true, true, true, true, true, true, false] rfl rfl (any_of HT_.out (by kernel_rfl)) (fun _ _ _ h => h) (Or.inr ⟨by rfl, rfl⟩) ?_ ?_
        rotate_left
        ·
         simp only [Act.put, List.setIfInBounds_toArray, List.set_cons_zero, List.set_cons_succ, i64_w, i32_w]
         rfl
        refine pure_ (i := 14) (N := some 78) (v := ?_) (a' := ?_) #[true, true, true, true, true, true, true, true, true, true, true, true, true, true, true] rfl rfl (any_of HT_.out (by kernel_rfl)) (fun _ _ _ h => h) (Or.inl ⟨by rfl, ?_⟩) ?_ ?_
        rotate_left
        ·
         intro w'
         go_simp
         with_reducible rfl
        rotate_left
        ·
         simp only [Act.put, List.setIfInBounds_toArray, List.set_cons_zero, List.set_cons_succ, i64_w, i32_w]
         rfl
        refine done_ (done_of HT_.out (by kernel_rfl)) ?_
        try go_wp2
        go_roundg kj12
        case measure => have := HJ2.out; have := HK2.out; have := HJ12.out; omega
        case rel => exact ⟨(wrap64 (x4_2 + 1)), (by first | rfl | (simp; done) | (simp [*]; done)), H', ⟨by have := HJ2.out; have := HK2.out; have := HJ12.out; omega⟩, ⟨gB BK209⟩, ⟨bh HB⟩⟩
     rw [if_neg c9] at H
     have c9b0 : decide (x4_2 < (l0_2.length : Int)) = false := decide_eq_false c9
     clear c9
     obtain rfl := Option.some.inj H
     obtain ⟨hcz47_0, hcz47_1, hcz47_2, hfz47_0, hfz47_1, hfz47_2⟩ := bx3 BK209
     go_wp2
     go_ret
     exact ⟨by first | rfl | (simp [errW_none, errW_some] <;> rfl) | (simp [*, errW_none, errW_some] <;> rfl), bh HB⟩

end Go.Proofs.Ytcbfnmabckjijaa.POrderTurns
