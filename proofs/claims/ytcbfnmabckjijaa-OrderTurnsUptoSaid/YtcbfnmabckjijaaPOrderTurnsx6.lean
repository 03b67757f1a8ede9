-- written by a program of this session (pp.py), out of the kit's print and this session's contracts
import Derived.Test.YtcbfnmabckjijaaPOrderTurnsx0
import Derived.Test.YtcbfnmabckjijaaPOrderTurnsx4
import Derived.Test.YtcbfnmabckjijaaPOrderTurnsx5
import Derived.Test.YtcbfnmabckjijaaVOrderTurnsPg
namespace Go.Proofs.Ytcbfnmabckjijaa.POrderTurns
open Go.RowKit Go.Proofs.YtcbfnmabckjijaaW.PrintWords Go.Proofs.YtcbfnmabckjijaaW.PrintLast Go.Proofs.YtcbfnmabckjijaaW.PrintMore
set_option linter.unusedVariables false
set_option linter.unusedSimpArgs false

mutual
def selvedgeref08_May.j0 : Nat → Int → Bool → Int → Int → List (S129) → List ByteArray → Int → Int → Option (Bool)
 | 0, _, _, _, _, _, _, _, _ => none
 | k + 1, x1, x41, x156000, x156001, x156002, x156003, x156004, x156005 => if x41 = true then (some false) else (selvedgeref08_May.l0 k x1 0 x156000 x156001 x156002 x156003 x156004 x156005)
def selvedgeref08_May.l0 : Nat → Int → Int → Int → Int → List (S129) → List ByteArray → Int → Int → Option (Bool)
 | 0, _, _, _, _, _, _, _, _ => none
 | k + 1, x1, x6, x156000, x156001, x156002, x156003, x156004, x156005 => if x6 < (x156002.length : Int) then (if 0 ≤ x6 then ((selvedgeref07_May.f k ((rd_T129 x156002 x6).f0) ((rd_T129 x156002 x6).f1) ((rd_T129 x156002 x6).f2)).bind fun t158 => (if t158 = true then (if ((rd_T129 x156002 x6).f0) > x1 then (some false) else (selvedgeref08_May.l0 k x1 (wrap64 (x6 + 1)) x156000 x156001 x156002 x156003 x156004 x156005)) else (some false))) else (none)) else (if x156001 = 1 then (selvedgeref08_May.j2 k x1 (decide ((x156003.length : Int) > 0)) x156000 x156001 x156002 x156003 x156004 x156005) else (selvedgeref08_May.j2 k x1 false x156000 x156001 x156002 x156003 x156004 x156005))
def selvedgeref08_May.j2 : Nat → Int → Bool → Int → Int → List (S129) → List ByteArray → Int → Int → Option (Bool)
 | 0, _, _, _, _, _, _, _, _ => none
 | k + 1, x1, x75, x156000, x156001, x156002, x156003, x156004, x156005 => if x75 = true then (some false) else (if x156001 > 1 then ((selvedgeref05_Quorum.f x1).bind fun t160 => (if (x156003.length : Int) < t160 then (selvedgeref08_May.j3 k true x156000 x156001 x156002 x156003 x156004 x156005) else (selvedgeref08_May.j3 k (decide ((x156003.length : Int) > x1)) x156000 x156001 x156002 x156003 x156004 x156005))) else (selvedgeref08_May.j3 k false x156000 x156001 x156002 x156003 x156004 x156005))
def selvedgeref08_May.j3 : Nat → Bool → Int → Int → List (S129) → List ByteArray → Int → Int → Option (Bool)
 | 0, _, _, _, _, _, _, _ => none
 | k + 1, x93, x156000, x156001, x156002, x156003, x156004, x156005 => if x93 = true then (some false) else (selvedgeref08_May.l1 k 0 x156000 x156001 x156002 x156003 x156004 x156005)
def selvedgeref08_May.l1 : Nat → Int → Int → Int → List (S129) → List ByteArray → Int → Int → Option (Bool)
 | 0, _, _, _, _, _, _, _ => none
 | k + 1, x8, x156000, x156001, x156002, x156003, x156004, x156005 => if x8 < (x156003.length : Int) then (if 0 ≤ x8 then (if ((rdOf ByteArray.empty x156003 x8).size : Int) = 32 then (if x8 > 0 then (if 0 ≤ (wrap64 (x8 - 1)) then (if (wrap64 (x8 - 1)) < (x156003.length : Int) then ((selvedgeref01_Less.f k (rdOf ByteArray.empty x156003 (wrap64 (x8 - 1))) (rdOf ByteArray.empty x156003 x8)).bind fun t166 => (if t166 = true then (selvedgeref08_May.l1 k (wrap64 (x8 + 1)) x156000 x156001 x156002 x156003 x156004 x156005) else (some false))) else (none)) else (none)) else (selvedgeref08_May.l1 k (wrap64 (x8 + 1)) x156000 x156001 x156002 x156003 x156004 x156005)) else (some false)) else (none)) else ((selvedgeref03_May.f x156004 x156005).bind fun t161 => ((selvedgeref08_Third.f x156001).bind fun t162 => (if t161 = true then (if t162 = true then (some true) else (if x156004 = 0 then (some (x156005 == 0)) else (some false))) else (some false))))
end
def selvedgeref08_May.f (k : Nat) (a0_0 : Int) (a0_1 : Int) (l0_2 : List (S129)) (l0_3 : List ByteArray) (a0_4 : Int) (a0_5 : Int) (a1 : Int) : Option (Bool) := (selvedgeref05_May.f a1).bind fun t156 => (if t156 = true then (if a0_0 < 1 then (selvedgeref08_May.j0 k a1 true a0_0 a0_1 l0_2 l0_3 a0_4 a0_5) else (if a0_0 > a1 then (selvedgeref08_May.j0 k a1 true a0_0 a0_1 l0_2 l0_3 a0_4 a0_5) else (if a0_1 < 1 then (selvedgeref08_May.j0 k a1 true a0_0 a0_1 l0_2 l0_3 a0_4 a0_5) else (if a0_1 > 1048576 then (selvedgeref08_May.j0 k a1 true a0_0 a0_1 l0_2 l0_3 a0_4 a0_5) else (selvedgeref08_May.j0 k a1 (decide ((l0_2.length : Int) > 4)) a0_0 a0_1 l0_2 l0_3 a0_4 a0_5))))) else (selvedgeref08_May.j0 k a1 true a0_0 a0_1 l0_2 l0_3 a0_4 a0_5))
set_option maxHeartbeats 8000000 in
set_option maxRecDepth 100000 in
theorem selvedgeref08_May.calls (k : Nat) (a0_0 : Int) (a0_1 : Int) (A0_2 : Option Addr) (c0_2 : Nat) (l0_2 : List (S129)) (A0_3 : Option Addr) (c0_3 : Nat) (l0_3 : List ByteArray) (a0_4 : Int) (a0_5 : Int) (a1 : Int) (r : Bool) (w : World) (hr0_2 : Kd.C k129 w A0_2 l0_2.length l0_2) (hc0_2 : l0_2.length ≤ c0_2) (hr0_3 : Kd.C Kd.string w A0_3 l0_3.length l0_3) (hc0_3 : l0_3.length ≤ c0_3) (h : selvedgeref08_May.f k a0_0 a0_1 l0_2 l0_3 a0_4 a0_5 a1 = some r) :
  Calls Try.prog 103 #[.agg #[.int .i64 a0_0, .int .i64 a0_1, .slice A0_2 l0_2.length c0_2, .slice A0_3 l0_3.length c0_3, .int .i64 a0_4, .int .i64 a0_5], .int .i64 a1] w fun e w' => e = .returned (.bool r) ∧ Below w.heap.size w w' := by
 have hu35 := Try.underlying35
 have hu129 := Try.underlying129
 have hu33 := Try.underlying33
 have HR0_2 := am_ hr0_2
 have HC0_2 := am_ hc0_2
 clear hr0_2 hc0_2
 have HR0_3 := am_ hr0_3
 have HC0_3 := am_ hc0_3
 clear hr0_3 hc0_3
 have HB := am_ (Below.refl w.heap.size w)
 have H : ((selvedgeref05_May.f a1).bind fun t156 => (if t156 = true then (if a0_0 < 1 then (selvedgeref08_May.j0 k a1 true a0_0 a0_1 l0_2 l0_3 a0_4 a0_5) else (if a0_0 > a1 then (selvedgeref08_May.j0 k a1 true a0_0 a0_1 l0_2 l0_3 a0_4 a0_5) else (if a0_1 < 1 then (selvedgeref08_May.j0 k a1 true a0_0 a0_1 l0_2 l0_3 a0_4 a0_5) else (if a0_1 > 1048576 then (selvedgeref08_May.j0 k a1 true a0_0 a0_1 l0_2 l0_3 a0_4 a0_5) else (selvedgeref08_May.j0 k a1 (decide ((l0_2.length : Int) > 4)) a0_0 a0_1 l0_2 l0_3 a0_4 a0_5))))) else (selvedgeref08_May.j0 k a1 true a0_0 a0_1 l0_2 l0_3 a0_4 a0_5))) = some r := h
 clear h
 replace H := Option.bind_eq_some_iff.mp H
 obtain ⟨t156, A30, H⟩ := H
 replace H : (if t156 = true then (if a0_0 < 1 then (selvedgeref08_May.j0 k a1 true a0_0 a0_1 l0_2 l0_3 a0_4 a0_5) else (if a0_0 > a1 then (selvedgeref08_May.j0 k a1 true a0_0 a0_1 l0_2 l0_3 a0_4 a0_5) else (if a0_1 < 1 then (selvedgeref08_May.j0 k a1 true a0_0 a0_1 l0_2 l0_3 a0_4 a0_5) else (if a0_1 > 1048576 then (selvedgeref08_May.j0 k a1 true a0_0 a0_1 l0_2 l0_3 a0_4 a0_5) else (selvedgeref08_May.j0 k a1 (decide ((l0_2.length : Int) > 4)) a0_0 a0_1 l0_2 l0_3 a0_4 a0_5))))) else (selvedgeref08_May.j0 k a1 true a0_0 a0_1 l0_2 l0_3 a0_4 a0_5)) = some r := H
 have A3 := am_ A30
 clear A30
 have HC4 := am_ H
 clear H
 go_enter Try.func103, Try.ntmps103
 go_upto_region 2 with (first | ((with_reducible refine gate_dst (N := 2) rfl ?_); (try (refine gate_guard (by rfl) ?_; dsimp only)); refine box_event ?hg (N := 2) ?hd (cs := #[.int .i64 a0_0, .int .i64 a0_1, .slice A0_2 l0_2.length c0_2, .slice A0_3 l0_3.length c0_3, .int .i64 a0_4, .int .i64 a0_5]) (t := 35) ?hr ?_; (case hd => rfl); (case hg => rfl); (case hr => first | (go_simp; done) | (go_simp; rfl)); intro gb155 hg w5 hbox hb; have BK155 := am_ hbox; have GW155 := tG HB hg; have GE155 := tG HB hg; replace HB := tHb HB hb; clear hb hbox hg) | (go_at_call 58; (with_reducible refine (selvedgeref05_May.calls a1 t156 _ A3.out).mono ?_); rintro e w' ⟨rfl, ⟨nd, rfl⟩⟩; (try first | exact ⟨rfl, _, World.drewN_drewN _ _ _⟩ | exact ⟨rfl, _, Eq.trans (World.drewN_drewN _ _ _) (congrArg (World.drewN _) (Nat.add_assoc _ _ _))⟩)))
 (try simp only [Act.put, List.setIfInBounds_toArray, List.set_cons_zero, List.set_cons_succ])
 repeat (go_quiet (first | ((with_reducible refine gate_dst (N := 2) rfl ?_); (try (refine gate_guard (by rfl) ?_; dsimp only)); refine box_event ?hg (N := 2) ?hd (cs := #[.int .i64 a0_0, .int .i64 a0_1, .slice A0_2 l0_2.length c0_2, .slice A0_3 l0_3.length c0_3, .int .i64 a0_4, .int .i64 a0_5]) (t := 35) ?hr ?_; (case hd => rfl); (case hg => rfl); (case hr => first | (go_simp; done) | (go_simp; rfl)); intro gb155 hg w5 hbox hb; have BK155 := am_ hbox; have GW155 := tG HB hg; have GE155 := tG HB hg; replace HB := tHb HB hb; clear hb hbox hg) | (go_at_call 58; (with_reducible refine (selvedgeref05_May.calls a1 t156 _ A3.out).mono ?_); rintro e w' ⟨rfl, ⟨nd, rfl⟩⟩; (try first | exact ⟨rfl, _, World.drewN_drewN _ _ _⟩ | exact ⟨rfl, _, Eq.trans (World.drewN_drewN _ _ _) (congrArg (World.drewN _) (Nat.add_assoc _ _ _))⟩))); go_upto_region 2 with (first | ((with_reducible refine gate_dst (N := 2) rfl ?_); (try (refine gate_guard (by rfl) ?_; dsimp only)); refine box_event ?hg (N := 2) ?hd (cs := #[.int .i64 a0_0, .int .i64 a0_1, .slice A0_2 l0_2.length c0_2, .slice A0_3 l0_3.length c0_3, .int .i64 a0_4, .int .i64 a0_5]) (t := 35) ?hr ?_; (case hd => rfl); (case hg => rfl); (case hr => first | (go_simp; done) | (go_simp; rfl)); intro gb155 hg w5 hbox hb; have BK155 := am_ hbox; have GW155 := tG HB hg; have GE155 := tG HB hg; replace HB := tHb HB hb; clear hb hbox hg) | (go_at_call 58; (with_reducible refine (selvedgeref05_May.calls a1 t156 _ A3.out).mono ?_); rintro e w' ⟨rfl, ⟨nd, rfl⟩⟩; (try first | exact ⟨rfl, _, World.drewN_drewN _ _ _⟩ | exact ⟨rfl, _, Eq.trans (World.drewN_drewN _ _ _) (congrArg (World.drewN _) (Nat.add_assoc _ _ _))⟩))))
 (try simp only [Act.put, List.setIfInBounds_toArray, List.set_cons_zero, List.set_cons_succ])
 go_cut [41] (fun v41 wc => ∃ (kq : Nat) (x41_3 : Bool), v41 = .bool x41_3 ∧ Asc (selvedgeref08_May.j0 kq a1 x41_3 a0_0 a0_1 l0_2 l0_3 a0_4 a0_5 = some r) ∧ Asc (kq ≤ k) ∧ Asc (wc.heap[gb155]? = some (.cells #[.int .i64 a0_0, .int .i64 a0_1, (.slice A0_2 l0_2.length c0_2), (.slice A0_3 l0_3.length c0_3), .int .i64 a0_4, .int .i64 a0_5] 35 (0, 0))) ∧ Asc (Below w.heap.size w wc))
 case first =>
  have H := HC4.out
  clear HC4
  by_cases c6 : t156 = true
  ·
   subst c6
   have H1 : (if a0_0 < 1 then (selvedgeref08_May.j0 k a1 true a0_0 a0_1 l0_2 l0_3 a0_4 a0_5) else (if a0_0 > a1 then (selvedgeref08_May.j0 k a1 true a0_0 a0_1 l0_2 l0_3 a0_4 a0_5) else (if a0_1 < 1 then (selvedgeref08_May.j0 k a1 true a0_0 a0_1 l0_2 l0_3 a0_4 a0_5) else (if a0_1 > 1048576 then (selvedgeref08_May.j0 k a1 true a0_0 a0_1 l0_2 l0_3 a0_4 a0_5) else (selvedgeref08_May.j0 k a1 (decide ((l0_2.length : Int) > 4)) a0_0 a0_1 l0_2 l0_3 a0_4 a0_5))))) = some r := by rw [if_pos rfl] at H; exact H
   clear H
   have H := H1
   clear H1
   by_cases c7 : a0_0 < 1
   ·
    rw [if_pos c7] at H
    have c7b0 : decide (a0_0 < 1) = true := decide_eq_true c7
    clear c7
    (first | rw [c7b0] | (simp only [i64_w, i32_w]; rw [c7b0]) | skip)
    have H' := am_ H
    clear H
    obtain ⟨hcz8_0, hcz8_1, hcz8_2, hcz8_3, hcz8_4, hcz8_5, hfz8_0, hfz8_1, hfz8_2, hfz8_3, hfz8_4, hfz8_5⟩ := bx6 BK155
    go_wp2
    repeat (go_quiet (fail); try go_wp2)
    go_meet
    case rel => exact ⟨_, (true), (by first | rfl | (simp; done) | (simp [*]; done)), H', ⟨by first | omega | exact Nat.le_refl _⟩, ⟨gB BK155⟩, ⟨bh HB⟩⟩
   rw [if_neg c7] at H
   have c7b0 : decide (a0_0 < 1) = false := decide_eq_false c7
   clear c7
   (first | rw [c7b0] | (simp only [i64_w, i32_w]; rw [c7b0]) | skip)
   by_cases c9 : a0_0 > a1
   ·
    rw [if_pos c9] at H
    have c9b0 : decide (a1 < a0_0) = true := decide_eq_true c9
    clear c9
    have H' := am_ H
    clear H
    obtain ⟨hcz10_0, hcz10_1, hcz10_2, hcz10_3, hcz10_4, hcz10_5, hfz10_0, hfz10_1, hfz10_2, hfz10_3, hfz10_4, hfz10_5⟩ := bx6 BK155
    go_wp2
    repeat (go_quiet (fail); try go_wp2)
    go_meet
    case rel => exact ⟨_, (true), (by first | rfl | (simp; done) | (simp [*]; done)), H', ⟨by first | omega | exact Nat.le_refl _⟩, ⟨gB BK155⟩, ⟨bh HB⟩⟩
   rw [if_neg c9] at H
   have c9b0 : decide (a1 < a0_0) = false := decide_eq_false c9
   clear c9
   by_cases c11 : a0_1 < 1
   ·
    rw [if_pos c11] at H
    have c11b0 : decide (a0_1 < 1) = true := decide_eq_true c11
    clear c11
    have H' := am_ H
    clear H
    obtain ⟨hcz12_0, hcz12_1, hcz12_2, hcz12_3, hcz12_4, hcz12_5, hfz12_0, hfz12_1, hfz12_2, hfz12_3, hfz12_4, hfz12_5⟩ := bx6 BK155
    go_wp2
    repeat (go_quiet (fail); try go_wp2)
    go_meet
    case rel => exact ⟨_, (true), (by first | rfl | (simp; done) | (simp [*]; done)), H', ⟨by first | omega | exact Nat.le_refl _⟩, ⟨gB BK155⟩, ⟨bh HB⟩⟩
   rw [if_neg c11] at H
   have c11b0 : decide (a0_1 < 1) = false := decide_eq_false c11
   clear c11
   by_cases c13 : a0_1 > 1048576
   ·
    rw [if_pos c13] at H
    have c13b0 : decide (1048576 < a0_1) = true := decide_eq_true c13
    clear c13
    have H' := am_ H
    clear H
    obtain ⟨hcz14_0, hcz14_1, hcz14_2, hcz14_3, hcz14_4, hcz14_5, hfz14_0, hfz14_1, hfz14_2, hfz14_3, hfz14_4, hfz14_5⟩ := bx6 BK155
    go_wp2
    repeat (go_quiet (fail); try go_wp2)
    go_meet
    case rel => exact ⟨_, (true), (by first | rfl | (simp; done) | (simp [*]; done)), H', ⟨by first | omega | exact Nat.le_refl _⟩, ⟨gB BK155⟩, ⟨bh HB⟩⟩
   rw [if_neg c13] at H
   have c13b0 : decide (1048576 < a0_1) = false := decide_eq_false c13
   clear c13
   have H' := am_ H
   clear H
   obtain ⟨hcz15_0, hcz15_1, hcz15_2, hcz15_3, hcz15_4, hcz15_5, hfz15_0, hfz15_1, hfz15_2, hfz15_3, hfz15_4, hfz15_5⟩ := bx6 BK155
   go_wp2
   repeat (go_quiet (fail); try go_wp2)
   go_meet
   case rel => exact ⟨_, (decide ((l0_2.length : Int) > 4)), (by first | rfl | (simp; done) | (simp [*]; done)), H', ⟨by first | omega | exact Nat.le_refl _⟩, ⟨gB BK155⟩, ⟨bh HB⟩⟩
  replace c6 := Bool.eq_false_iff.mpr c6
  subst c6
  have H1 : (selvedgeref08_May.j0 k a1 true a0_0 a0_1 l0_2 l0_3 a0_4 a0_5) = some r := by rw [if_neg (show ¬ (false = true) by decide)] at H; exact H
  clear H
  have H := H1
  clear H1
  have H' := am_ H
  clear H
  go_wp2
  repeat (go_quiet (fail); try go_wp2)
  go_meet
  case rel => exact ⟨_, (true), (by first | rfl | (simp; done) | (simp [*]; done)), H', ⟨by first | omega | exact Nat.le_refl _⟩, ⟨gB BK155⟩, ⟨bh HB⟩⟩
 case rest =>
  clear HC4
  obtain ⟨kq, x41_3, rfl, HA, HJ3, BK155, HB⟩ := hcut
  cases kq with
  | zero => exact absurd HA.out (by simp [selvedgeref08_May.j0])
  | succ kj3 =>
   have H := HA.out
   clear HA
   simp only [selvedgeref08_May.j0] at H
   by_cases c16 : x41_3 = true
   ·
    subst c16
    have H1 : (some false) = some r := by rw [if_pos rfl] at H; exact H
    clear H
    have H := H1
    clear H1
    obtain rfl := Option.some.inj H
    go_wp2
    repeat (go_quiet (fail); try go_wp2)
    go_ret
    exact ⟨by first | rfl | (simp [errW_none, errW_some] <;> rfl) | (simp [*, errW_none, errW_some] <;> rfl), bh HB⟩
   replace c16 := Bool.eq_false_iff.mpr c16
   subst c16
   have H1 : (selvedgeref08_May.l0 kj3 a1 0 a0_0 a0_1 l0_2 l0_3 a0_4 a0_5) = some r := by rw [if_neg (show ¬ (false = true) by decide)] at H; exact H
   clear H
   have H := H1
   clear H1
   have H' := am_ H
   clear H
   go_wp2
   repeat (go_quiet (fail); try go_wp2)
   go_loopg [6] kj3 (fun kq v6 w' => ∃ (x6_2 : Int), v6 = .int .i64 x6_2 ∧ Asc (selvedgeref08_May.l0 kq a1 x6_2 a0_0 a0_1 l0_2 l0_3 a0_4 a0_5 = some r) ∧ Asc (kq ≤ kj3) ∧ Asc (w'.heap[gb155]? = some (.cells #[.int .i64 a0_0, .int .i64 a0_1, (.slice A0_2 l0_2.length c0_2), (.slice A0_3 l0_3.length c0_3), .int .i64 a0_4, .int .i64 a0_5] 35 (0, 0))) ∧ Asc (Below w.heap.size w w'))
   case atStart => exact ⟨(0), (by first | rfl | (simp; done) | (simp [*]; done)), H', ⟨Nat.le_refl _⟩, ⟨gB BK155⟩, ⟨bh HB⟩⟩
   case round =>
    clear H'
    try clear c16
    obtain ⟨x6_2, rfl, HA, HK2, BK155, HB⟩ := hrel
    cases gk with
    | zero => exact absurd HA.out (by simp [selvedgeref08_May.l0])
    | succ k2 =>
     have H := HA.out
     clear HA
     simp only [selvedgeref08_May.l0] at H
     by_cases c17 : x6_2 < (l0_2.length : Int)
     ·
      rw [if_pos c17] at H
      have c17b0 : decide (x6_2 < (l0_2.length : Int)) = true := decide_eq_true c17
      clear c17
      revert H
      refine gi (fun c18b0 H => ?_)
      replace H := Option.bind_eq_some_iff.mp H
      obtain ⟨t158, A190, H⟩ := H
      replace H : (if t158 = true then (if ((rd_T129 l0_2 x6_2).f0) > a1 then (some false) else (selvedgeref08_May.l0 k2 a1 (wrap64 (x6_2 + 1)) a0_0 a0_1 l0_2 l0_3 a0_4 a0_5)) else (some false)) = some r := H
      have A19 := am_ A190
      clear A190
      by_cases c20 : t158 = true
      ·
       subst c20
       have H1 : (if ((rd_T129 l0_2 x6_2).f0) > a1 then (some false) else (selvedgeref08_May.l0 k2 a1 (wrap64 (x6_2 + 1)) a0_0 a0_1 l0_2 l0_3 a0_4 a0_5)) = some r := by rw [if_pos rfl] at H; exact H
       clear H
       have H := H1
       clear H1
       by_cases c21 : ((rd_T129 l0_2 x6_2).f0) > a1
       ·
        rw [if_pos c21] at H
        have c21b0 : decide (a1 < ((rd_T129 l0_2 x6_2).f0)) = true := decide_eq_true c21
        clear c21
        obtain rfl := Option.some.inj H
        obtain ⟨hcz22_0, hcz22_1, hcz22_2, hcz22_3, hcz22_4, hcz22_5, hfz22_0, hfz22_1, hfz22_2, hfz22_3, hfz22_4, hfz22_5⟩ := bx6 BK155
        have p157 : 0 ≤ (x6_2 : Int) := of_decide_eq_true ‹_›
        have q157 : x6_2 < (l0_2.length : Int) := of_decide_eq_true ‹_›
        obtain ⟨ad157, A157_2, c157_2, e157, hx157_0, hx157_1, hx157_2, hl157_2, hi157_2⟩ := at_T129 HR0_2.out x6_2 p157 q157
        cases e157
        replace hx157_0 := ce HB hx157_0
        replace hx157_1 := ce HB hx157_1
        replace hx157_2 := ce HB hx157_2
        have HR157_2 := am_ hi157_2
        have HC157_2 := am_ hl157_2
        clear hi157_2 hl157_2
        replace p157 := eq_true p157
        replace q157 := eq_true q157
        go_wp2_with (first | (go_at_call 127; (with_reducible refine (selvedgeref07_May.calls k2 ((rd_T129 l0_2 x6_2).f0) ((rd_T129 l0_2 x6_2).f1) _ _ ((rd_T129 l0_2 x6_2).f2) true _ ?side1 ?side2 A19.out).mono ?_); (case side1 => exact gCB HR157_2 HB); (case side2 => exact HC157_2.out); rintro e w23 ⟨rfl, hb⟩; replace BK155 := tBb BK155 hb; replace HB := tHb HB hb; (try clear hb); (try clear hb2); (try clear hk); (try clear hi); obtain ⟨hcz24_0, hcz24_1, hcz24_2, hcz24_3, hcz24_4, hcz24_5, hfz24_0, hfz24_1, hfz24_2, hfz24_3, hfz24_4, hfz24_5⟩ := bx6 BK155; have p159 : 0 ≤ (x6_2 : Int) := of_decide_eq_true ‹_›; have q159 : x6_2 < (l0_2.length : Int) := of_decide_eq_true ‹_›; obtain ⟨ad159, A159_2, c159_2, e159, hx159_0, hx159_1, hx159_2, hl159_2, hi159_2⟩ := at_T129 HR0_2.out x6_2 p159 q159; obtain rfl : ad157 = ad159 := (by injection e159); replace hx159_0 := ce HB hx159_0; replace hx159_1 := ce HB hx159_1; replace hx159_2 := ce HB hx159_2; have HR159_2 := am_ hi159_2; have HC159_2 := am_ hl159_2; clear hi159_2 hl159_2; replace p159 := eq_true p159; replace q159 := eq_true q159))
        (try simp only [Act.put, List.setIfInBounds_toArray, List.set_cons_zero, List.set_cons_succ])
        repeat (go_quiet (first | (go_at_call 127; (with_reducible refine (selvedgeref07_May.calls k2 ((rd_T129 l0_2 x6_2).f0) ((rd_T129 l0_2 x6_2).f1) _ _ ((rd_T129 l0_2 x6_2).f2) true _ ?side1 ?side2 A19.out).mono ?_); (case side1 => exact gCB HR157_2 HB); (case side2 => exact HC157_2.out); rintro e w23 ⟨rfl, hb⟩; replace BK155 := tBb BK155 hb; replace HB := tHb HB hb; (try clear hb); (try clear hb2); (try clear hk); (try clear hi); obtain ⟨hcz24_0, hcz24_1, hcz24_2, hcz24_3, hcz24_4, hcz24_5, hfz24_0, hfz24_1, hfz24_2, hfz24_3, hfz24_4, hfz24_5⟩ := bx6 BK155; have p159 : 0 ≤ (x6_2 : Int) := of_decide_eq_true ‹_›; have q159 : x6_2 < (l0_2.length : Int) := of_decide_eq_true ‹_›; obtain ⟨ad159, A159_2, c159_2, e159, hx159_0, hx159_1, hx159_2, hl159_2, hi159_2⟩ := at_T129 HR0_2.out x6_2 p159 q159; obtain rfl : ad157 = ad159 := (by injection e159); replace hx159_0 := ce HB hx159_0; replace hx159_1 := ce HB hx159_1; replace hx159_2 := ce HB hx159_2; have HR159_2 := am_ hi159_2; have HC159_2 := am_ hl159_2; clear hi159_2 hl159_2; replace p159 := eq_true p159; replace q159 := eq_true q159)); try go_wp2_with (first | (go_at_call 127; (with_reducible refine (selvedgeref07_May.calls k2 ((rd_T129 l0_2 x6_2).f0) ((rd_T129 l0_2 x6_2).f1) _ _ ((rd_T129 l0_2 x6_2).f2) true _ ?side1 ?side2 A19.out).mono ?_); (case side1 => exact gCB HR157_2 HB); (case side2 => exact HC157_2.out); rintro e w23 ⟨rfl, hb⟩; replace BK155 := tBb BK155 hb; replace HB := tHb HB hb; (try clear hb); (try clear hb2); (try clear hk); (try clear hi); obtain ⟨hcz24_0, hcz24_1, hcz24_2, hcz24_3, hcz24_4, hcz24_5, hfz24_0, hfz24_1, hfz24_2, hfz24_3, hfz24_4, hfz24_5⟩ := bx6 BK155; have p159 : 0 ≤ (x6_2 : Int) := of_decide_eq_true ‹_›; have q159 : x6_2 < (l0_2.length : Int) := of_decide_eq_true ‹_›; obtain ⟨ad159, A159_2, c159_2, e159, hx159_0, hx159_1, hx159_2, hl159_2, hi159_2⟩ := at_T129 HR0_2.out x6_2 p159 q159; obtain rfl : ad157 = ad159 := (by injection e159); replace hx159_0 := ce HB hx159_0; replace hx159_1 := ce HB hx159_1; replace hx159_2 := ce HB hx159_2; have HR159_2 := am_ hi159_2; have HC159_2 := am_ hl159_2; clear hi159_2 hl159_2; replace p159 := eq_true p159; replace q159 := eq_true q159)))
        go_ret
        exact ⟨by first | rfl | (simp [errW_none, errW_some] <;> rfl) | (simp [*, errW_none, errW_some] <;> rfl), bh HB⟩
       rw [if_neg c21] at H
       have c21b0 : decide (a1 < ((rd_T129 l0_2 x6_2).f0)) = false := decide_eq_false c21
       clear c21
       have H' := am_ H
       clear H
       obtain ⟨hcz25_0, hcz25_1, hcz25_2, hcz25_3, hcz25_4, hcz25_5, hfz25_0, hfz25_1, hfz25_2, hfz25_3, hfz25_4, hfz25_5⟩ := bx6 BK155
       have p157 : 0 ≤ (x6_2 : Int) := of_decide_eq_true ‹_›
       have q157 : x6_2 < (l0_2.length : Int) := of_decide_eq_true ‹_›
       obtain ⟨ad157, A157_2, c157_2, e157, hx157_0, hx157_1, hx157_2, hl157_2, hi157_2⟩ := at_T129 HR0_2.out x6_2 p157 q157
       cases e157
       replace hx157_0 := ce HB hx157_0
       replace hx157_1 := ce HB hx157_1
       replace hx157_2 := ce HB hx157_2
       have HR157_2 := am_ hi157_2
       have HC157_2 := am_ hl157_2
       clear hi157_2 hl157_2
       replace p157 := eq_true p157
       replace q157 := eq_true q157
       go_wp2_with (first | (go_at_call 127; (with_reducible refine (selvedgeref07_May.calls k2 ((rd_T129 l0_2 x6_2).f0) ((rd_T129 l0_2 x6_2).f1) _ _ ((rd_T129 l0_2 x6_2).f2) true _ ?side1 ?side2 A19.out).mono ?_); (case side1 => exact gCB HR157_2 HB); (case side2 => exact HC157_2.out); rintro e w26 ⟨rfl, hb⟩; replace BK155 := tBb BK155 hb; replace HB := tHb HB hb; (try clear hb); (try clear hb2); (try clear hk); (try clear hi); obtain ⟨hcz27_0, hcz27_1, hcz27_2, hcz27_3, hcz27_4, hcz27_5, hfz27_0, hfz27_1, hfz27_2, hfz27_3, hfz27_4, hfz27_5⟩ := bx6 BK155; have p159 : 0 ≤ (x6_2 : Int) := of_decide_eq_true ‹_›; have q159 : x6_2 < (l0_2.length : Int) := of_decide_eq_true ‹_›; obtain ⟨ad159, A159_2, c159_2, e159, hx159_0, hx159_1, hx159_2, hl159_2, hi159_2⟩ := at_T129 HR0_2.out x6_2 p159 q159; obtain rfl : ad157 = ad159 := (by injection e159); replace hx159_0 := ce HB hx159_0; replace hx159_1 := ce HB hx159_1; replace hx159_2 := ce HB hx159_2; have HR159_2 := am_ hi159_2; have HC159_2 := am_ hl159_2; clear hi159_2 hl159_2; replace p159 := eq_true p159; replace q159 := eq_true q159))
       (try simp only [Act.put, List.setIfInBounds_toArray, List.set_cons_zero, List.set_cons_succ])
       repeat (go_quiet (first | (go_at_call 127; (with_reducible refine (selvedgeref07_May.calls k2 ((rd_T129 l0_2 x6_2).f0) ((rd_T129 l0_2 x6_2).f1) _ _ ((rd_T129 l0_2 x6_2).f2) true _ ?side1 ?side2 A19.out).mono ?_); (case side1 => exact gCB HR157_2 HB); (case side2 => exact HC157_2.out); rintro e w26 ⟨rfl, hb⟩; replace BK155 := tBb BK155 hb; replace HB := tHb HB hb; (try clear hb); (try clear hb2); (try clear hk); (try clear hi); obtain ⟨hcz27_0, hcz27_1, hcz27_2, hcz27_3, hcz27_4, hcz27_5, hfz27_0, hfz27_1, hfz27_2, hfz27_3, hfz27_4, hfz27_5⟩ := bx6 BK155; have p159 : 0 ≤ (x6_2 : Int) := of_decide_eq_true ‹_›; have q159 : x6_2 < (l0_2.length : Int) := of_decide_eq_true ‹_›; obtain ⟨ad159, A159_2, c159_2, e159, hx159_0, hx159_1, hx159_2, hl159_2, hi159_2⟩ := at_T129 HR0_2.out x6_2 p159 q159; obtain rfl : ad157 = ad159 := (by injection e159); replace hx159_0 := ce HB hx159_0; replace hx159_1 := ce HB hx159_1; replace hx159_2 := ce HB hx159_2; have HR159_2 := am_ hi159_2; have HC159_2 := am_ hl159_2; clear hi159_2 hl159_2; replace p159 := eq_true p159; replace q159 := eq_true q159)); try go_wp2_with (first | (go_at_call 127; (with_reducible refine (selvedgeref07_May.calls k2 ((rd_T129 l0_2 x6_2).f0) ((rd_T129 l0_2 x6_2).f1) _ _ ((rd_T129 l0_2 x6_2).f2) true _ ?side1 ?side2 A19.out).mono ?_); (case side1 => exact gCB HR157_2 HB); (case side2 => exact HC157_2.out); rintro e w26 ⟨rfl, hb⟩; replace BK155 := tBb BK155 hb; replace HB := tHb HB hb; (try clear hb); (try clear hb2); (try clear hk); (try clear hi); obtain ⟨hcz27_0, hcz27_1, hcz27_2, hcz27_3, hcz27_4, hcz27_5, hfz27_0, hfz27_1, hfz27_2, hfz27_3, hfz27_4, hfz27_5⟩ := bx6 BK155; have p159 : 0 ≤ (x6_2 : Int) := of_decide_eq_true ‹_›; have q159 : x6_2 < (l0_2.length : Int) := of_decide_eq_true ‹_›; obtain ⟨ad159, A159_2, c159_2, e159, hx159_0, hx159_1, hx159_2, hl159_2, hi159_2⟩ := at_T129 HR0_2.out x6_2 p159 q159; obtain rfl : ad157 = ad159 := (by injection e159); replace hx159_0 := ce HB hx159_0; replace hx159_1 := ce HB hx159_1; replace hx159_2 := ce HB hx159_2; have HR159_2 := am_ hi159_2; have HC159_2 := am_ hl159_2; clear hi159_2 hl159_2; replace p159 := eq_true p159; replace q159 := eq_true q159)))
       go_roundg k2
       case measure => have := HJ3.out; have := HK2.out; omega
       case rel => exact ⟨(wrap64 (x6_2 + 1)), (by first | rfl | (simp; done) | (simp [*]; done)), H', ⟨by have := HJ3.out; have := HK2.out; omega⟩, ⟨gB BK155⟩, ⟨bh HB⟩⟩
      replace c20 := Bool.eq_false_iff.mpr c20
      subst c20
      have H1 : (some false) = some r := by rw [if_neg (show ¬ (false = true) by decide)] at H; exact H
      clear H
      have H := H1
      clear H1
      obtain rfl := Option.some.inj H
      obtain ⟨hcz28_0, hcz28_1, hcz28_2, hcz28_3, hcz28_4, hcz28_5, hfz28_0, hfz28_1, hfz28_2, hfz28_3, hfz28_4, hfz28_5⟩ := bx6 BK155
      have p157 : 0 ≤ (x6_2 : Int) := of_decide_eq_true ‹_›
      have q157 : x6_2 < (l0_2.length : Int) := of_decide_eq_true ‹_›
      obtain ⟨ad157, A157_2, c157_2, e157, hx157_0, hx157_1, hx157_2, hl157_2, hi157_2⟩ := at_T129 HR0_2.out x6_2 p157 q157
      cases e157
      replace hx157_0 := ce HB hx157_0
      replace hx157_1 := ce HB hx157_1
      replace hx157_2 := ce HB hx157_2
      have HR157_2 := am_ hi157_2
      have HC157_2 := am_ hl157_2
      clear hi157_2 hl157_2
      replace p157 := eq_true p157
      replace q157 := eq_true q157
      go_wp2_with (first | (go_at_call 127; (with_reducible refine (selvedgeref07_May.calls k2 ((rd_T129 l0_2 x6_2).f0) ((rd_T129 l0_2 x6_2).f1) _ _ ((rd_T129 l0_2 x6_2).f2) false _ ?side1 ?side2 A19.out).mono ?_); (case side1 => exact gCB HR157_2 HB); (case side2 => exact HC157_2.out); rintro e w29 ⟨rfl, hb⟩; replace BK155 := tBb BK155 hb; replace HB := tHb HB hb; (try clear hb); (try clear hb2); (try clear hk); (try clear hi)))
      (try simp only [Act.put, List.setIfInBounds_toArray, List.set_cons_zero, List.set_cons_succ])
      repeat (go_quiet (first | (go_at_call 127; (with_reducible refine (selvedgeref07_May.calls k2 ((rd_T129 l0_2 x6_2).f0) ((rd_T129 l0_2 x6_2).f1) _ _ ((rd_T129 l0_2 x6_2).f2) false _ ?side1 ?side2 A19.out).mono ?_); (case side1 => exact gCB HR157_2 HB); (case side2 => exact HC157_2.out); rintro e w29 ⟨rfl, hb⟩; replace BK155 := tBb BK155 hb; replace HB := tHb HB hb; (try clear hb); (try clear hb2); (try clear hk); (try clear hi))); try go_wp2_with (first | (go_at_call 127; (with_reducible refine (selvedgeref07_May.calls k2 ((rd_T129 l0_2 x6_2).f0) ((rd_T129 l0_2 x6_2).f1) _ _ ((rd_T129 l0_2 x6_2).f2) false _ ?side1 ?side2 A19.out).mono ?_); (case side1 => exact gCB HR157_2 HB); (case side2 => exact HC157_2.out); rintro e w29 ⟨rfl, hb⟩; replace BK155 := tBb BK155 hb; replace HB := tHb HB hb; (try clear hb); (try clear hb2); (try clear hk); (try clear hi))))
      go_ret
      exact ⟨by first | rfl | (simp [errW_none, errW_some] <;> rfl) | (simp [*, errW_none, errW_some] <;> rfl), bh HB⟩
     rw [if_neg c17] at H
     have c17b0 : decide (x6_2 < (l0_2.length : Int)) = false := decide_eq_false c17
     clear c17
     have HC30 := am_ H
     clear H
     obtain ⟨hcz31_0, hcz31_1, hcz31_2, hcz31_3, hcz31_4, hcz31_5, hfz31_0, hfz31_1, hfz31_2, hfz31_3, hfz31_4, hfz31_5⟩ := bx6 BK155
     go_upto_region 10 with (fail)
     repeat (go_quiet (fail); go_upto_region 10 with (fail))
     go_cut [75] (fun v75 wc => ∃ (kq : Nat) (x75_29 : Bool), v75 = .bool x75_29 ∧ Asc (selvedgeref08_May.j2 kq a1 x75_29 a0_0 a0_1 l0_2 l0_3 a0_4 a0_5 = some r) ∧ Asc (kq ≤ k2) ∧ Asc (wc.heap[gb155]? = some (.cells #[.int .i64 a0_0, .int .i64 a0_1, (.slice A0_2 l0_2.length c0_2), (.slice A0_3 l0_3.length c0_3), .int .i64 a0_4, .int .i64 a0_5] 35 (0, 0))) ∧ Asc (Below w.heap.size w wc))
     case first =>
      have H := HC30.out
      clear HC30
      by_cases c32 : a0_1 = 1
      ·
       rw [if_pos c32] at H
       have c32b0 : (a0_1 == 1) = true := beq_iff_eq.mpr c32
       have c32b1 : (a0_1 != 1) = false := bne_eq_false_iff_eq.mpr c32
       clear c32
       (first | rw [c32b0] | (simp only [i64_w, i32_w]; rw [c32b0]) | skip)
       have H' := am_ H
       clear H
       obtain ⟨hcz33_0, hcz33_1, hcz33_2, hcz33_3, hcz33_4, hcz33_5, hfz33_0, hfz33_1, hfz33_2, hfz33_3, hfz33_4, hfz33_5⟩ := bx6 BK155
       go_wp2
       repeat (go_quiet (fail); try go_wp2)
       go_meet
       case rel => exact ⟨_, (decide ((l0_3.length : Int) > 0)), (by first | rfl | (simp; done) | (simp [*]; done)), H', ⟨by have := HJ3.out; have := HK2.out; first | omega | exact Nat.le_refl _⟩, ⟨gB BK155⟩, ⟨bh HB⟩⟩
      rw [if_neg c32] at H
      have c32b0 : (a0_1 == 1) = false := beq_eq_false_iff_ne.mpr c32
      have c32b1 : (a0_1 != 1) = true := bne_iff_ne.mpr c32
      (first | rw [c32b0] | (simp only [i64_w, i32_w]; rw [c32b0]) | skip)
      have H' := am_ H
      clear H
      obtain ⟨hcz34_0, hcz34_1, hcz34_2, hcz34_3, hcz34_4, hcz34_5, hfz34_0, hfz34_1, hfz34_2, hfz34_3, hfz34_4, hfz34_5⟩ := bx6 BK155
      go_wp2
      repeat (go_quiet (fail); try go_wp2)
      go_meet
      case rel => exact ⟨_, (false), (by first | rfl | (simp; done) | (simp [*]; done)), H', ⟨by have := HJ3.out; have := HK2.out; first | omega | exact Nat.le_refl _⟩, ⟨gB BK155⟩, ⟨bh HB⟩⟩
     case rest =>
      clear HC30
      try clear c17b0 hcz31_0 hcz31_1 hcz31_2 hcz31_3 hcz31_4 hcz31_5 hfz31_0 hfz31_1 hfz31_2 hfz31_3 hfz31_4 hfz31_5
      obtain ⟨kq, x75_29, rfl, HA, HJ29, BK155, HB⟩ := hcut
      cases kq with
      | zero => exact absurd HA.out (by simp [selvedgeref08_May.j2])
      | succ kj29 =>
       have H := HA.out
       clear HA
       simp only [selvedgeref08_May.j2] at H
       by_cases c35 : x75_29 = true
       ·
        subst c35
        have H1 : (some false) = some r := by rw [if_pos rfl] at H; exact H
        clear H
        have H := H1
        clear H1
        obtain rfl := Option.some.inj H
        go_wp2
        repeat (go_quiet (fail); try go_wp2)
        go_ret
        exact ⟨by first | rfl | (simp [errW_none, errW_some] <;> rfl) | (simp [*, errW_none, errW_some] <;> rfl), bh HB⟩
       replace c35 := Bool.eq_false_iff.mpr c35
       subst c35
       have H1 : (if a0_1 > 1 then ((selvedgeref05_Quorum.f a1).bind fun t160 => (if (l0_3.length : Int) < t160 then (selvedgeref08_May.j3 kj29 true a0_0 a0_1 l0_2 l0_3 a0_4 a0_5) else (selvedgeref08_May.j3 kj29 (decide ((l0_3.length : Int) > a1)) a0_0 a0_1 l0_2 l0_3 a0_4 a0_5))) else (selvedgeref08_May.j3 kj29 false a0_0 a0_1 l0_2 l0_3 a0_4 a0_5)) = some r := by rw [if_neg (show ¬ (false = true) by decide)] at H; exact H
       clear H
       have H := H1
       clear H1
       have HC36 := am_ H
       clear H
       go_upto_region 12 with (fail)
       repeat (go_quiet (fail); go_upto_region 12 with (fail))
       go_cut [93] (fun v93 wc => ∃ (kq : Nat) (x93_35 : Bool), v93 = .bool x93_35 ∧ Asc (selvedgeref08_May.j3 kq x93_35 a0_0 a0_1 l0_2 l0_3 a0_4 a0_5 = some r) ∧ Asc (kq ≤ kj29) ∧ Asc (wc.heap[gb155]? = some (.cells #[.int .i64 a0_0, .int .i64 a0_1, (.slice A0_2 l0_2.length c0_2), (.slice A0_3 l0_3.length c0_3), .int .i64 a0_4, .int .i64 a0_5] 35 (0, 0))) ∧ Asc (Below w.heap.size w wc))
       case first =>
        have H := HC36.out
        clear HC36
        by_cases c37 : a0_1 > 1
        ·
         rw [if_pos c37] at H
         have c37b0 : decide (1 < a0_1) = true := decide_eq_true c37
         clear c37
         (first | rw [c37b0] | (simp only [i64_w, i32_w]; rw [c37b0]) | skip)
         replace H := Option.bind_eq_some_iff.mp H
         obtain ⟨t160, A380, H⟩ := H
         replace H : (if (l0_3.length : Int) < t160 then (selvedgeref08_May.j3 kj29 true a0_0 a0_1 l0_2 l0_3 a0_4 a0_5) else (selvedgeref08_May.j3 kj29 (decide ((l0_3.length : Int) > a1)) a0_0 a0_1 l0_2 l0_3 a0_4 a0_5)) = some r := H
         have A38 := am_ A380
         clear A380
         by_cases c39 : (l0_3.length : Int) < t160
         ·
          rw [if_pos c39] at H
          have c39b0 : decide ((l0_3.length : Int) < t160) = true := decide_eq_true c39
          clear c39
          have H' := am_ H
          clear H
          obtain ⟨hcz40_0, hcz40_1, hcz40_2, hcz40_3, hcz40_4, hcz40_5, hfz40_0, hfz40_1, hfz40_2, hfz40_3, hfz40_4, hfz40_5⟩ := bx6 BK155
          go_wp2_with (first | (go_at_call 128; (with_reducible refine (selvedgeref05_Quorum.calls a1 t160 _ A38.out).mono ?_); rintro e w' ⟨rfl, ⟨nd, rfl⟩⟩; (try first | exact ⟨rfl, _, World.drewN_drewN _ _ _⟩ | exact ⟨rfl, _, Eq.trans (World.drewN_drewN _ _ _) (congrArg (World.drewN _) (Nat.add_assoc _ _ _))⟩)))
          (try simp only [Act.put, List.setIfInBounds_toArray, List.set_cons_zero, List.set_cons_succ])
          repeat (go_quiet (first | (go_at_call 128; (with_reducible refine (selvedgeref05_Quorum.calls a1 t160 _ A38.out).mono ?_); rintro e w' ⟨rfl, ⟨nd, rfl⟩⟩; (try first | exact ⟨rfl, _, World.drewN_drewN _ _ _⟩ | exact ⟨rfl, _, Eq.trans (World.drewN_drewN _ _ _) (congrArg (World.drewN _) (Nat.add_assoc _ _ _))⟩))); try go_wp2_with (first | (go_at_call 128; (with_reducible refine (selvedgeref05_Quorum.calls a1 t160 _ A38.out).mono ?_); rintro e w' ⟨rfl, ⟨nd, rfl⟩⟩; (try first | exact ⟨rfl, _, World.drewN_drewN _ _ _⟩ | exact ⟨rfl, _, Eq.trans (World.drewN_drewN _ _ _) (congrArg (World.drewN _) (Nat.add_assoc _ _ _))⟩))))
          go_meet
          case rel => exact ⟨_, (true), (by first | rfl | (simp; done) | (simp [*]; done)), H', ⟨by have := HJ3.out; have := HK2.out; have := HJ29.out; first | omega | exact Nat.le_refl _⟩, ⟨gB BK155⟩, ⟨bh HB⟩⟩
         rw [if_neg c39] at H
         have c39b0 : decide ((l0_3.length : Int) < t160) = false := decide_eq_false c39
         clear c39
         have H' := am_ H
         clear H
         obtain ⟨hcz41_0, hcz41_1, hcz41_2, hcz41_3, hcz41_4, hcz41_5, hfz41_0, hfz41_1, hfz41_2, hfz41_3, hfz41_4, hfz41_5⟩ := bx6 BK155
         go_wp2_with (first | (go_at_call 128; (with_reducible refine (selvedgeref05_Quorum.calls a1 t160 _ A38.out).mono ?_); rintro e w' ⟨rfl, ⟨nd, rfl⟩⟩; (try first | exact ⟨rfl, _, World.drewN_drewN _ _ _⟩ | exact ⟨rfl, _, Eq.trans (World.drewN_drewN _ _ _) (congrArg (World.drewN _) (Nat.add_assoc _ _ _))⟩)))
         (try simp only [Act.put, List.setIfInBounds_toArray, List.set_cons_zero, List.set_cons_succ])
         repeat (go_quiet (first | (go_at_call 128; (with_reducible refine (selvedgeref05_Quorum.calls a1 t160 _ A38.out).mono ?_); rintro e w' ⟨rfl, ⟨nd, rfl⟩⟩; (try first | exact ⟨rfl, _, World.drewN_drewN _ _ _⟩ | exact ⟨rfl, _, Eq.trans (World.drewN_drewN _ _ _) (congrArg (World.drewN _) (Nat.add_assoc _ _ _))⟩))); try go_wp2_with (first | (go_at_call 128; (with_reducible refine (selvedgeref05_Quorum.calls a1 t160 _ A38.out).mono ?_); rintro e w' ⟨rfl, ⟨nd, rfl⟩⟩; (try first | exact ⟨rfl, _, World.drewN_drewN _ _ _⟩ | exact ⟨rfl, _, Eq.trans (World.drewN_drewN _ _ _) (congrArg (World.drewN _) (Nat.add_assoc _ _ _))⟩))))
         go_meet
         case rel => exact ⟨_, (decide ((l0_3.length : Int) > a1)), (by first | rfl | (simp; done) | (simp [*]; done)), H', ⟨by have := HJ3.out; have := HK2.out; have := HJ29.out; first | omega | exact Nat.le_refl _⟩, ⟨gB BK155⟩, ⟨bh HB⟩⟩
        rw [if_neg c37] at H
        have c37b0 : decide (1 < a0_1) = false := decide_eq_false c37
        clear c37
        (first | rw [c37b0] | (simp only [i64_w, i32_w]; rw [c37b0]) | skip)
        have H' := am_ H
        clear H
        obtain ⟨hcz42_0, hcz42_1, hcz42_2, hcz42_3, hcz42_4, hcz42_5, hfz42_0, hfz42_1, hfz42_2, hfz42_3, hfz42_4, hfz42_5⟩ := bx6 BK155
        go_wp2
        repeat (go_quiet (fail); try go_wp2)
        go_meet
        case rel => exact ⟨_, (false), (by first | rfl | (simp; done) | (simp [*]; done)), H', ⟨by have := HJ3.out; have := HK2.out; have := HJ29.out; first | omega | exact Nat.le_refl _⟩, ⟨gB BK155⟩, ⟨bh HB⟩⟩
       case rest =>
        clear HC36
        try clear c35
        obtain ⟨kq, x93_35, rfl, HA, HJ35, BK155, HB⟩ := hcut
        cases kq with
        | zero => exact absurd HA.out (by simp [selvedgeref08_May.j3])
        | succ kj35 =>
         have H := HA.out
         clear HA
         simp only [selvedgeref08_May.j3] at H
         by_cases c43 : x93_35 = true
         ·
          subst c43
          have H1 : (some false) = some r := by rw [if_pos rfl] at H; exact H
          clear H
          have H := H1
          clear H1
          obtain rfl := Option.some.inj H
          go_wp2
          repeat (go_quiet (fail); try go_wp2)
          go_ret
          exact ⟨by first | rfl | (simp [errW_none, errW_some] <;> rfl) | (simp [*, errW_none, errW_some] <;> rfl), bh HB⟩
         replace c43 := Bool.eq_false_iff.mpr c43
         subst c43
         have H1 : (selvedgeref08_May.l1 kj35 0 a0_0 a0_1 l0_2 l0_3 a0_4 a0_5) = some r := by rw [if_neg (show ¬ (false = true) by decide)] at H; exact H
         clear H
         have H := H1
         clear H1
         have H' := am_ H
         clear H
         go_wp2
         repeat (go_quiet (fail); try go_wp2)
         go_loopg [8] kj35 (fun kq v8 w' => ∃ (x8_5 : Int), v8 = .int .i64 x8_5 ∧ Asc (selvedgeref08_May.l1 kq x8_5 a0_0 a0_1 l0_2 l0_3 a0_4 a0_5 = some r) ∧ Asc (kq ≤ kj35) ∧ Asc (w'.heap[gb155]? = some (.cells #[.int .i64 a0_0, .int .i64 a0_1, (.slice A0_2 l0_2.length c0_2), (.slice A0_3 l0_3.length c0_3), .int .i64 a0_4, .int .i64 a0_5] 35 (0, 0))) ∧ Asc (Below w.heap.size w w'))
         case atStart => exact ⟨(0), (by first | rfl | (simp; done) | (simp [*]; done)), H', ⟨Nat.le_refl _⟩, ⟨gB BK155⟩, ⟨bh HB⟩⟩
         case round =>
          clear H'
          try clear c43
          obtain ⟨x8_5, rfl, HA, HK5, BK155, HB⟩ := hrel
          cases gk with
          | zero => exact absurd HA.out (by simp [selvedgeref08_May.l1])
          | succ k5 =>
           have H := HA.out
           clear HA
           simp only [selvedgeref08_May.l1] at H
           by_cases c44 : x8_5 < (l0_3.length : Int)
           ·
            rw [if_pos c44] at H
            have c44b0 : decide (x8_5 < (l0_3.length : Int)) = true := decide_eq_true c44
            clear c44
            revert H
            refine gi (fun c45b0 H => ?_)
            by_cases c46 : ((rdOf ByteArray.empty l0_3 x8_5).size : Int) = 32
            ·
             rw [if_pos c46] at H
             have c46b0 : (((rdOf ByteArray.empty l0_3 x8_5).size : Int) == 32) = true := beq_iff_eq.mpr c46
             have c46b1 : (((rdOf ByteArray.empty l0_3 x8_5).size : Int) != 32) = false := bne_eq_false_iff_eq.mpr c46
             clear c46
             by_cases c47 : x8_5 > 0
             ·
              rw [if_pos c47] at H
              have c47b0 : decide (0 < x8_5) = true := decide_eq_true c47
              clear c47
              obtain ⟨ji48, hji48⟩ : ∃ j_ : Int, (wrap64 (x8_5 - 1)) = j_ := ⟨_, rfl⟩
              replace H : (if 0 ≤ (ji48) then (if (ji48) < (l0_3.length : Int) then ((selvedgeref01_Less.f k5 (rdOf ByteArray.empty l0_3 (ji48)) (rdOf ByteArray.empty l0_3 x8_5)).bind fun t166 => (if t166 = true then (selvedgeref08_May.l1 k5 (wrap64 (x8_5 + 1)) a0_0 a0_1 l0_2 l0_3 a0_4 a0_5) else (some false))) else (none)) else (none)) = some r := by first | (rw [hji48] at H; exact H) | (simp only [hji48] at H ⊢; exact H)
              have hji48w : (IntKind.i64.wrap (x8_5 - 1)) = ji48 := (i64_w _).trans hji48
              revert H
              refine gi (fun c49b0 H => ?_)
              revert H
              refine gi (fun c50b0 H => ?_)
              replace H := Option.bind_eq_some_iff.mp H
              obtain ⟨t166, A510, H⟩ := H
              replace H : (if t166 = true then (selvedgeref08_May.l1 k5 (wrap64 (x8_5 + 1)) a0_0 a0_1 l0_2 l0_3 a0_4 a0_5) else (some false)) = some r := H
              have A51 := am_ A510
              clear A510
              by_cases c52 : t166 = true
              ·
               subst c52
               have H1 : (selvedgeref08_May.l1 k5 (wrap64 (x8_5 + 1)) a0_0 a0_1 l0_2 l0_3 a0_4 a0_5) = some r := by rw [if_pos rfl] at H; exact H
               clear H
               have H := H1
               clear H1
               have H' := am_ H
               clear H
               obtain ⟨hcz53_0, hcz53_1, hcz53_2, hcz53_3, hcz53_4, hcz53_5, hfz53_0, hfz53_1, hfz53_2, hfz53_3, hfz53_4, hfz53_5⟩ := bx6 BK155
               have p163 : 0 ≤ (x8_5 : Int) := of_decide_eq_true ‹_›
               have q163 : x8_5 < (l0_3.length : Int) := of_decide_eq_true ‹_›
               obtain ⟨ad163, e163, hx163_0⟩ := Kd.at_string HR0_3.out x8_5 p163 q163
               cases e163
               replace hx163_0 := ce HB hx163_0
               replace p163 := eq_true p163
               replace q163 := eq_true q163
               have p164 : 0 ≤ ((ji48) : Int) := of_decide_eq_true ‹_›
               have q164 : (ji48) < (l0_3.length : Int) := of_decide_eq_true ‹_›
               obtain ⟨ad164, e164, hx164_0⟩ := Kd.at_string HR0_3.out (ji48) p164 q164
               obtain rfl : ad163 = ad164 := (by injection e164)
               replace hx164_0 := ce HB hx164_0
               replace p164 := eq_true p164
               replace q164 := eq_true q164
               have p165 : 0 ≤ (x8_5 : Int) := of_decide_eq_true ‹_›
               have q165 : x8_5 < (l0_3.length : Int) := of_decide_eq_true ‹_›
               obtain ⟨ad165, e165, hx165_0⟩ := Kd.at_string HR0_3.out x8_5 p165 q165
               obtain rfl : ad163 = ad165 := (by injection e165)
               replace hx165_0 := ce HB hx165_0
               replace p165 := eq_true p165
               replace q165 := eq_true q165
               go_wp2_with (first | (go_at_call 85; (with_reducible refine (selvedgeref01_Less.calls k5 (rdOf ByteArray.empty l0_3 (ji48)) (rdOf ByteArray.empty l0_3 x8_5) true _ A51.out).mono ?_); rintro e w' ⟨rfl, ⟨nd, rfl⟩⟩; (try first | exact ⟨rfl, _, World.drewN_drewN _ _ _⟩ | exact ⟨rfl, _, Eq.trans (World.drewN_drewN _ _ _) (congrArg (World.drewN _) (Nat.add_assoc _ _ _))⟩)))
               (try simp only [Act.put, List.setIfInBounds_toArray, List.set_cons_zero, List.set_cons_succ])
               repeat (go_quiet (first | (go_at_call 85; (with_reducible refine (selvedgeref01_Less.calls k5 (rdOf ByteArray.empty l0_3 (ji48)) (rdOf ByteArray.empty l0_3 x8_5) true _ A51.out).mono ?_); rintro e w' ⟨rfl, ⟨nd, rfl⟩⟩; (try first | exact ⟨rfl, _, World.drewN_drewN _ _ _⟩ | exact ⟨rfl, _, Eq.trans (World.drewN_drewN _ _ _) (congrArg (World.drewN _) (Nat.add_assoc _ _ _))⟩))); try go_wp2_with (first | (go_at_call 85; (with_reducible refine (selvedgeref01_Less.calls k5 (rdOf ByteArray.empty l0_3 (ji48)) (rdOf ByteArray.empty l0_3 x8_5) true _ A51.out).mono ?_); rintro e w' ⟨rfl, ⟨nd, rfl⟩⟩; (try first | exact ⟨rfl, _, World.drewN_drewN _ _ _⟩ | exact ⟨rfl, _, Eq.trans (World.drewN_drewN _ _ _) (congrArg (World.drewN _) (Nat.add_assoc _ _ _))⟩))))
               go_roundg k5
               case measure => have := HJ3.out; have := HK2.out; have := HJ29.out; have := HJ35.out; have := HK5.out; omega
               case rel => exact ⟨(wrap64 (x8_5 + 1)), (by first | rfl | (simp; done) | (simp [*]; done)), H', ⟨by have := HJ3.out; have := HK2.out; have := HJ29.out; have := HJ35.out; have := HK5.out; omega⟩, ⟨gB BK155⟩, ⟨bh HB⟩⟩
              replace c52 := Bool.eq_false_iff.mpr c52
              subst c52
              have H1 : (some false) = some r := by rw [if_neg (show ¬ (false = true) by decide)] at H; exact H
              clear H
              have H := H1
              clear H1
              obtain rfl := Option.some.inj H
              obtain ⟨hcz54_0, hcz54_1, hcz54_2, hcz54_3, hcz54_4, hcz54_5, hfz54_0, hfz54_1, hfz54_2, hfz54_3, hfz54_4, hfz54_5⟩ := bx6 BK155
              have p163 : 0 ≤ (x8_5 : Int) := of_decide_eq_true ‹_›
              have q163 : x8_5 < (l0_3.length : Int) := of_decide_eq_true ‹_›
              obtain ⟨ad163, e163, hx163_0⟩ := Kd.at_string HR0_3.out x8_5 p163 q163
              cases e163
              replace hx163_0 := ce HB hx163_0
              replace p163 := eq_true p163
              replace q163 := eq_true q163
              have p164 : 0 ≤ ((ji48) : Int) := of_decide_eq_true ‹_›
              have q164 : (ji48) < (l0_3.length : Int) := of_decide_eq_true ‹_›
              obtain ⟨ad164, e164, hx164_0⟩ := Kd.at_string HR0_3.out (ji48) p164 q164
              obtain rfl : ad163 = ad164 := (by injection e164)
              replace hx164_0 := ce HB hx164_0
              replace p164 := eq_true p164
              replace q164 := eq_true q164
              have p165 : 0 ≤ (x8_5 : Int) := of_decide_eq_true ‹_›
              have q165 : x8_5 < (l0_3.length : Int) := of_decide_eq_true ‹_›
              obtain ⟨ad165, e165, hx165_0⟩ := Kd.at_string HR0_3.out x8_5 p165 q165
              obtain rfl : ad163 = ad165 := (by injection e165)
              replace hx165_0 := ce HB hx165_0
              replace p165 := eq_true p165
              replace q165 := eq_true q165
              go_wp2_with (first | (go_at_call 85; (with_reducible refine (selvedgeref01_Less.calls k5 (rdOf ByteArray.empty l0_3 (ji48)) (rdOf ByteArray.empty l0_3 x8_5) false _ A51.out).mono ?_); rintro e w' ⟨rfl, ⟨nd, rfl⟩⟩; (try first | exact ⟨rfl, _, World.drewN_drewN _ _ _⟩ | exact ⟨rfl, _, Eq.trans (World.drewN_drewN _ _ _) (congrArg (World.drewN _) (Nat.add_assoc _ _ _))⟩)))
              (try simp only [Act.put, List.setIfInBounds_toArray, List.set_cons_zero, List.set_cons_succ])
              repeat (go_quiet (first | (go_at_call 85; (with_reducible refine (selvedgeref01_Less.calls k5 (rdOf ByteArray.empty l0_3 (ji48)) (rdOf ByteArray.empty l0_3 x8_5) false _ A51.out).mono ?_); rintro e w' ⟨rfl, ⟨nd, rfl⟩⟩; (try first | exact ⟨rfl, _, World.drewN_drewN _ _ _⟩ | exact ⟨rfl, _, Eq.trans (World.drewN_drewN _ _ _) (congrArg (World.drewN _) (Nat.add_assoc _ _ _))⟩))); try go_wp2_with (first | (go_at_call 85; (with_reducible refine (selvedgeref01_Less.calls k5 (rdOf ByteArray.empty l0_3 (ji48)) (rdOf ByteArray.empty l0_3 x8_5) false _ A51.out).mono ?_); rintro e w' ⟨rfl, ⟨nd, rfl⟩⟩; (try first | exact ⟨rfl, _, World.drewN_drewN _ _ _⟩ | exact ⟨rfl, _, Eq.trans (World.drewN_drewN _ _ _) (congrArg (World.drewN _) (Nat.add_assoc _ _ _))⟩))))
              go_ret
              exact ⟨by first | rfl | (simp [errW_none, errW_some] <;> rfl) | (simp only [← hji48]; first | rfl | (simp [errW_none, errW_some] <;> rfl)) | (simp [*, errW_none, errW_some] <;> rfl), bh HB⟩
             rw [if_neg c47] at H
             have c47b0 : decide (0 < x8_5) = false := decide_eq_false c47
             clear c47
             have H' := am_ H
             clear H
             obtain ⟨hcz55_0, hcz55_1, hcz55_2, hcz55_3, hcz55_4, hcz55_5, hfz55_0, hfz55_1, hfz55_2, hfz55_3, hfz55_4, hfz55_5⟩ := bx6 BK155
             have p163 : 0 ≤ (x8_5 : Int) := of_decide_eq_true ‹_›
             have q163 : x8_5 < (l0_3.length : Int) := of_decide_eq_true ‹_›
             obtain ⟨ad163, e163, hx163_0⟩ := Kd.at_string HR0_3.out x8_5 p163 q163
             cases e163
             replace hx163_0 := ce HB hx163_0
             replace p163 := eq_true p163
             replace q163 := eq_true q163
             go_wp2
             repeat (go_quiet (fail); try go_wp2)
             go_roundg k5
             case measure => have := HJ3.out; have := HK2.out; have := HJ29.out; have := HJ35.out; have := HK5.out; omega
             case rel => exact ⟨(wrap64 (x8_5 + 1)), (by first | rfl | (simp; done) | (simp [*]; done)), H', ⟨by have := HJ3.out; have := HK2.out; have := HJ29.out; have := HJ35.out; have := HK5.out; omega⟩, ⟨gB BK155⟩, ⟨bh HB⟩⟩
            rw [if_neg c46] at H
            have c46b0 : (((rdOf ByteArray.empty l0_3 x8_5).size : Int) == 32) = false := beq_eq_false_iff_ne.mpr c46
            have c46b1 : (((rdOf ByteArray.empty l0_3 x8_5).size : Int) != 32) = true := bne_iff_ne.mpr c46
            obtain rfl := Option.some.inj H
            obtain ⟨hcz56_0, hcz56_1, hcz56_2, hcz56_3, hcz56_4, hcz56_5, hfz56_0, hfz56_1, hfz56_2, hfz56_3, hfz56_4, hfz56_5⟩ := bx6 BK155
            have p163 : 0 ≤ (x8_5 : Int) := of_decide_eq_true ‹_›
            have q163 : x8_5 < (l0_3.length : Int) := of_decide_eq_true ‹_›
            obtain ⟨ad163, e163, hx163_0⟩ := Kd.at_string HR0_3.out x8_5 p163 q163
            cases e163
            replace hx163_0 := ce HB hx163_0
            replace p163 := eq_true p163
            replace q163 := eq_true q163
            go_wp2
            repeat (go_quiet (fail); try go_wp2)
            go_ret
            exact ⟨by first | rfl | (simp [errW_none, errW_some] <;> rfl) | (simp [*, errW_none, errW_some] <;> rfl), bh HB⟩
           rw [if_neg c44] at H
           have c44b0 : decide (x8_5 < (l0_3.length : Int)) = false := decide_eq_false c44
           clear c44
           replace H := Option.bind_eq_some_iff.mp H
           obtain ⟨t161, A570, H⟩ := H
           replace H : ((selvedgeref08_Third.f a0_1).bind fun t162 => (if t161 = true then (if t162 = true then (some true) else (if a0_4 = 0 then (some (a0_5 == 0)) else (some false))) else (some false))) = some r := H
           have A57 := am_ A570
           clear A570
           replace H := Option.bind_eq_some_iff.mp H
           obtain ⟨t162, A580, H⟩ := H
           replace H : (if t161 = true then (if t162 = true then (some true) else (if a0_4 = 0 then (some (a0_5 == 0)) else (some false))) else (some false)) = some r := H
           have A58 := am_ A580
           clear A580
           by_cases c59 : t161 = true
           ·
            subst c59
            have H1 : (if t162 = true then (some true) else (if a0_4 = 0 then (some (a0_5 == 0)) else (some false))) = some r := by rw [if_pos rfl] at H; exact H
            clear H
            have H := H1
            clear H1
            by_cases c60 : t162 = true
            ·
             subst c60
             have H1 : (some true) = some r := by rw [if_pos rfl] at H; exact H
             clear H
             have H := H1
             clear H1
             obtain rfl := Option.some.inj H
             obtain ⟨hcz61_0, hcz61_1, hcz61_2, hcz61_3, hcz61_4, hcz61_5, hfz61_0, hfz61_1, hfz61_2, hfz61_3, hfz61_4, hfz61_5⟩ := bx6 BK155
             go_wp2_with (first | (go_at_call 110; (with_reducible refine (selvedgeref03_May.calls a0_4 a0_5 true _ A57.out).mono ?_); rintro e w62 ⟨rfl, hb⟩; replace BK155 := tBb BK155 hb; replace HB := tHb HB hb; (try clear hb); (try clear hb2); (try clear hk); (try clear hi); obtain ⟨hcz63_0, hcz63_1, hcz63_2, hcz63_3, hcz63_4, hcz63_5, hfz63_0, hfz63_1, hfz63_2, hfz63_3, hfz63_4, hfz63_5⟩ := bx6 BK155) | (go_at_call 129; (with_reducible refine (selvedgeref08_Third.calls a0_1 true _ A58.out).mono ?_); rintro e w' ⟨rfl, ⟨nd, rfl⟩⟩; (try first | exact ⟨rfl, _, World.drewN_drewN _ _ _⟩ | exact ⟨rfl, _, Eq.trans (World.drewN_drewN _ _ _) (congrArg (World.drewN _) (Nat.add_assoc _ _ _))⟩)))
             (try simp only [Act.put, List.setIfInBounds_toArray, List.set_cons_zero, List.set_cons_succ])
             repeat (go_quiet (first | (go_at_call 110; (with_reducible refine (selvedgeref03_May.calls a0_4 a0_5 true _ A57.out).mono ?_); rintro e w62 ⟨rfl, hb⟩; replace BK155 := tBb BK155 hb; replace HB := tHb HB hb; (try clear hb); (try clear hb2); (try clear hk); (try clear hi); obtain ⟨hcz63_0, hcz63_1, hcz63_2, hcz63_3, hcz63_4, hcz63_5, hfz63_0, hfz63_1, hfz63_2, hfz63_3, hfz63_4, hfz63_5⟩ := bx6 BK155) | (go_at_call 129; (with_reducible refine (selvedgeref08_Third.calls a0_1 true _ A58.out).mono ?_); rintro e w' ⟨rfl, ⟨nd, rfl⟩⟩; (try first | exact ⟨rfl, _, World.drewN_drewN _ _ _⟩ | exact ⟨rfl, _, Eq.trans (World.drewN_drewN _ _ _) (congrArg (World.drewN _) (Nat.add_assoc _ _ _))⟩))); try go_wp2_with (first | (go_at_call 110; (with_reducible refine (selvedgeref03_May.calls a0_4 a0_5 true _ A57.out).mono ?_); rintro e w62 ⟨rfl, hb⟩; replace BK155 := tBb BK155 hb; replace HB := tHb HB hb; (try clear hb); (try clear hb2); (try clear hk); (try clear hi); obtain ⟨hcz63_0, hcz63_1, hcz63_2, hcz63_3, hcz63_4, hcz63_5, hfz63_0, hfz63_1, hfz63_2, hfz63_3, hfz63_4, hfz63_5⟩ := bx6 BK155) | (go_at_call 129; (with_reducible refine (selvedgeref08_Third.calls a0_1 true _ A58.out).mono ?_); rintro e w' ⟨rfl, ⟨nd, rfl⟩⟩; (try first | exact ⟨rfl, _, World.drewN_drewN _ _ _⟩ | exact ⟨rfl, _, Eq.trans (World.drewN_drewN _ _ _) (congrArg (World.drewN _) (Nat.add_assoc _ _ _))⟩))))
             go_ret
             exact ⟨by first | rfl | (simp [errW_none, errW_some] <;> rfl) | (simp [*, errW_none, errW_some] <;> rfl), bh HB⟩
            replace c60 := Bool.eq_false_iff.mpr c60
            subst c60
            have H1 : (if a0_4 = 0 then (some (a0_5 == 0)) else (some false)) = some r := by rw [if_neg (show ¬ (false = true) by decide)] at H; exact H
            clear H
            have H := H1
            clear H1
            by_cases c64 : a0_4 = 0
            ·
             rw [if_pos c64] at H
             have c64b0 : (a0_4 == 0) = true := beq_iff_eq.mpr c64
             have c64b1 : (a0_4 != 0) = false := bne_eq_false_iff_eq.mpr c64
             clear c64
             obtain rfl := Option.some.inj H
             obtain ⟨hcz65_0, hcz65_1, hcz65_2, hcz65_3, hcz65_4, hcz65_5, hfz65_0, hfz65_1, hfz65_2, hfz65_3, hfz65_4, hfz65_5⟩ := bx6 BK155
             go_wp2_with (first | (go_at_call 110; (with_reducible refine (selvedgeref03_May.calls a0_4 a0_5 true _ A57.out).mono ?_); rintro e w66 ⟨rfl, hb⟩; replace BK155 := tBb BK155 hb; replace HB := tHb HB hb; (try clear hb); (try clear hb2); (try clear hk); (try clear hi); obtain ⟨hcz67_0, hcz67_1, hcz67_2, hcz67_3, hcz67_4, hcz67_5, hfz67_0, hfz67_1, hfz67_2, hfz67_3, hfz67_4, hfz67_5⟩ := bx6 BK155) | (go_at_call 129; (with_reducible refine (selvedgeref08_Third.calls a0_1 false _ A58.out).mono ?_); rintro e w' ⟨rfl, ⟨nd, rfl⟩⟩; (try first | exact ⟨rfl, _, World.drewN_drewN _ _ _⟩ | exact ⟨rfl, _, Eq.trans (World.drewN_drewN _ _ _) (congrArg (World.drewN _) (Nat.add_assoc _ _ _))⟩)))
             (try simp only [Act.put, List.setIfInBounds_toArray, List.set_cons_zero, List.set_cons_succ])
             repeat (go_quiet (first | (go_at_call 110; (with_reducible refine (selvedgeref03_May.calls a0_4 a0_5 true _ A57.out).mono ?_); rintro e w66 ⟨rfl, hb⟩; replace BK155 := tBb BK155 hb; replace HB := tHb HB hb; (try clear hb); (try clear hb2); (try clear hk); (try clear hi); obtain ⟨hcz67_0, hcz67_1, hcz67_2, hcz67_3, hcz67_4, hcz67_5, hfz67_0, hfz67_1, hfz67_2, hfz67_3, hfz67_4, hfz67_5⟩ := bx6 BK155) | (go_at_call 129; (with_reducible refine (selvedgeref08_Third.calls a0_1 false _ A58.out).mono ?_); rintro e w' ⟨rfl, ⟨nd, rfl⟩⟩; (try first | exact ⟨rfl, _, World.drewN_drewN _ _ _⟩ | exact ⟨rfl, _, Eq.trans (World.drewN_drewN _ _ _) (congrArg (World.drewN _) (Nat.add_assoc _ _ _))⟩))); try go_wp2_with (first | (go_at_call 110; (with_reducible refine (selvedgeref03_May.calls a0_4 a0_5 true _ A57.out).mono ?_); rintro e w66 ⟨rfl, hb⟩; replace BK155 := tBb BK155 hb; replace HB := tHb HB hb; (try clear hb); (try clear hb2); (try clear hk); (try clear hi); obtain ⟨hcz67_0, hcz67_1, hcz67_2, hcz67_3, hcz67_4, hcz67_5, hfz67_0, hfz67_1, hfz67_2, hfz67_3, hfz67_4, hfz67_5⟩ := bx6 BK155) | (go_at_call 129; (with_reducible refine (selvedgeref08_Third.calls a0_1 false _ A58.out).mono ?_); rintro e w' ⟨rfl, ⟨nd, rfl⟩⟩; (try first | exact ⟨rfl, _, World.drewN_drewN _ _ _⟩ | exact ⟨rfl, _, Eq.trans (World.drewN_drewN _ _ _) (congrArg (World.drewN _) (Nat.add_assoc _ _ _))⟩))))
             go_ret
             exact ⟨by first | rfl | (simp [errW_none, errW_some] <;> rfl) | (simp [*, errW_none, errW_some] <;> rfl), bh HB⟩
            rw [if_neg c64] at H
            have c64b0 : (a0_4 == 0) = false := beq_eq_false_iff_ne.mpr c64
            have c64b1 : (a0_4 != 0) = true := bne_iff_ne.mpr c64
            obtain rfl := Option.some.inj H
            obtain ⟨hcz68_0, hcz68_1, hcz68_2, hcz68_3, hcz68_4, hcz68_5, hfz68_0, hfz68_1, hfz68_2, hfz68_3, hfz68_4, hfz68_5⟩ := bx6 BK155
            go_wp2_with (first | (go_at_call 110; (with_reducible refine (selvedgeref03_May.calls a0_4 a0_5 true _ A57.out).mono ?_); rintro e w69 ⟨rfl, hb⟩; replace BK155 := tBb BK155 hb; replace HB := tHb HB hb; (try clear hb); (try clear hb2); (try clear hk); (try clear hi); obtain ⟨hcz70_0, hcz70_1, hcz70_2, hcz70_3, hcz70_4, hcz70_5, hfz70_0, hfz70_1, hfz70_2, hfz70_3, hfz70_4, hfz70_5⟩ := bx6 BK155) | (go_at_call 129; (with_reducible refine (selvedgeref08_Third.calls a0_1 false _ A58.out).mono ?_); rintro e w' ⟨rfl, ⟨nd, rfl⟩⟩; (try first | exact ⟨rfl, _, World.drewN_drewN _ _ _⟩ | exact ⟨rfl, _, Eq.trans (World.drewN_drewN _ _ _) (congrArg (World.drewN _) (Nat.add_assoc _ _ _))⟩)))
            (try simp only [Act.put, List.setIfInBounds_toArray, List.set_cons_zero, List.set_cons_succ])
            repeat (go_quiet (first | (go_at_call 110; (with_reducible refine (selvedgeref03_May.calls a0_4 a0_5 true _ A57.out).mono ?_); rintro e w69 ⟨rfl, hb⟩; replace BK155 := tBb BK155 hb; replace HB := tHb HB hb; (try clear hb); (try clear hb2); (try clear hk); (try clear hi); obtain ⟨hcz70_0, hcz70_1, hcz70_2, hcz70_3, hcz70_4, hcz70_5, hfz70_0, hfz70_1, hfz70_2, hfz70_3, hfz70_4, hfz70_5⟩ := bx6 BK155) | (go_at_call 129; (with_reducible refine (selvedgeref08_Third.calls a0_1 false _ A58.out).mono ?_); rintro e w' ⟨rfl, ⟨nd, rfl⟩⟩; (try first | exact ⟨rfl, _, World.drewN_drewN _ _ _⟩ | exact ⟨rfl, _, Eq.trans (World.drewN_drewN _ _ _) (congrArg (World.drewN _) (Nat.add_assoc _ _ _))⟩))); try go_wp2_with (first | (go_at_call 110; (with_reducible refine (selvedgeref03_May.calls a0_4 a0_5 true _ A57.out).mono ?_); rintro e w69 ⟨rfl, hb⟩; replace BK155 := tBb BK155 hb; replace HB := tHb HB hb; (try clear hb); (try clear hb2); (try clear hk); (try clear hi); obtain ⟨hcz70_0, hcz70_1, hcz70_2, hcz70_3, hcz70_4, hcz70_5, hfz70_0, hfz70_1, hfz70_2, hfz70_3, hfz70_4, hfz70_5⟩ := bx6 BK155) | (go_at_call 129; (with_reducible refine (selvedgeref08_Third.calls a0_1 false _ A58.out).mono ?_); rintro e w' ⟨rfl, ⟨nd, rfl⟩⟩; (try first | exact ⟨rfl, _, World.drewN_drewN _ _ _⟩ | exact ⟨rfl, _, Eq.trans (World.drewN_drewN _ _ _) (congrArg (World.drewN _) (Nat.add_assoc _ _ _))⟩))))
            go_ret
            exact ⟨by first | rfl | (simp [errW_none, errW_some] <;> rfl) | (simp [*, errW_none, errW_some] <;> rfl), bh HB⟩
           replace c59 := Bool.eq_false_iff.mpr c59
           subst c59
           have H1 : (some false) = some r := by rw [if_neg (show ¬ (false = true) by decide)] at H; exact H
           clear H
           have H := H1
           clear H1
           obtain rfl := Option.some.inj H
           obtain ⟨hcz71_0, hcz71_1, hcz71_2, hcz71_3, hcz71_4, hcz71_5, hfz71_0, hfz71_1, hfz71_2, hfz71_3, hfz71_4, hfz71_5⟩ := bx6 BK155
           go_wp2_with (first | (go_at_call 110; (with_reducible refine (selvedgeref03_May.calls a0_4 a0_5 false _ A57.out).mono ?_); rintro e w72 ⟨rfl, hb⟩; replace BK155 := tBb BK155 hb; replace HB := tHb HB hb; (try clear hb); (try clear hb2); (try clear hk); (try clear hi); obtain ⟨hcz73_0, hcz73_1, hcz73_2, hcz73_3, hcz73_4, hcz73_5, hfz73_0, hfz73_1, hfz73_2, hfz73_3, hfz73_4, hfz73_5⟩ := bx6 BK155) | (go_at_call 129; (with_reducible refine (selvedgeref08_Third.calls a0_1 t162 _ A58.out).mono ?_); rintro e w' ⟨rfl, ⟨nd, rfl⟩⟩; (try first | exact ⟨rfl, _, World.drewN_drewN _ _ _⟩ | exact ⟨rfl, _, Eq.trans (World.drewN_drewN _ _ _) (congrArg (World.drewN _) (Nat.add_assoc _ _ _))⟩)))
           (try simp only [Act.put, List.setIfInBounds_toArray, List.set_cons_zero, List.set_cons_succ])
           repeat (go_quiet (first | (go_at_call 110; (with_reducible refine (selvedgeref03_May.calls a0_4 a0_5 false _ A57.out).mono ?_); rintro e w72 ⟨rfl, hb⟩; replace BK155 := tBb BK155 hb; replace HB := tHb HB hb; (try clear hb); (try clear hb2); (try clear hk); (try clear hi); obtain ⟨hcz73_0, hcz73_1, hcz73_2, hcz73_3, hcz73_4, hcz73_5, hfz73_0, hfz73_1, hfz73_2, hfz73_3, hfz73_4, hfz73_5⟩ := bx6 BK155) | (go_at_call 129; (with_reducible refine (selvedgeref08_Third.calls a0_1 t162 _ A58.out).mono ?_); rintro e w' ⟨rfl, ⟨nd, rfl⟩⟩; (try first | exact ⟨rfl, _, World.drewN_drewN _ _ _⟩ | exact ⟨rfl, _, Eq.trans (World.drewN_drewN _ _ _) (congrArg (World.drewN _) (Nat.add_assoc _ _ _))⟩))); try go_wp2_with (first | (go_at_call 110; (with_reducible refine (selvedgeref03_May.calls a0_4 a0_5 false _ A57.out).mono ?_); rintro e w72 ⟨rfl, hb⟩; replace BK155 := tBb BK155 hb; replace HB := tHb HB hb; (try clear hb); (try clear hb2); (try clear hk); (try clear hi); obtain ⟨hcz73_0, hcz73_1, hcz73_2, hcz73_3, hcz73_4, hcz73_5, hfz73_0, hfz73_1, hfz73_2, hfz73_3, hfz73_4, hfz73_5⟩ := bx6 BK155) | (go_at_call 129; (with_reducible refine (selvedgeref08_Third.calls a0_1 t162 _ A58.out).mono ?_); rintro e w' ⟨rfl, ⟨nd, rfl⟩⟩; (try first | exact ⟨rfl, _, World.drewN_drewN _ _ _⟩ | exact ⟨rfl, _, Eq.trans (World.drewN_drewN _ _ _) (congrArg (World.drewN _) (Nat.add_assoc _ _ _))⟩))))
           go_ret
           exact ⟨by first | rfl | (simp [errW_none, errW_some] <;> rfl) | (simp [*, errW_none, errW_some] <;> rfl), bh HB⟩

end Go.Proofs.Ytcbfnmabckjijaa.POrderTurns
