-- written by a program of this session (pp.py), out of the kit's print and this session's contracts
import Derived.Test.YtcbfnmabckjijaaPOrderTurnsx0
import Derived.Test.YtcbfnmabckjijaaPOrderTurnsx4
import Derived.Test.YtcbfnmabckjijaaVOrderTurnsPg
namespace Go.Proofs.Ytcbfnmabckjijaa.POrderTurns
open Go.RowKit Go.Proofs.YtcbfnmabckjijaaW.PrintWords Go.Proofs.YtcbfnmabckjijaaW.PrintLast Go.Proofs.YtcbfnmabckjijaaW.PrintMore
set_option linter.unusedVariables false
set_option linter.unusedSimpArgs false

mutual
def selvedgeref07_May.j0 : Nat → Bool → Int → Int → List ByteArray → Option (Bool)
 | 0, _, _, _, _ => none
 | k + 1, x33, x152000, x152001, x152002 => if x33 = true then (some false) else (selvedgeref07_May.l0 k 0 x152000 x152001 x152002)
def selvedgeref07_May.l0 : Nat → Int → Int → Int → List ByteArray → Option (Bool)
 | 0, _, _, _, _ => none
 | k + 1, x3, x152000, x152001, x152002 => if x3 < (x152002.length : Int) then (if 0 ≤ x3 then (if ((rdOf ByteArray.empty x152002 x3).size : Int) < 1 then (some false) else (if ((rdOf ByteArray.empty x152002 x3).size : Int) > 48 then (some false) else (selvedgeref07_May.l0 k (wrap64 (x3 + 1)) x152000 x152001 x152002))) else (none)) else (some true)
end
def selvedgeref07_May.f (k : Nat) (a0_0 : Int) (a0_1 : Int) (l0_2 : List ByteArray) : Option (Bool) := if a0_0 < 1 then (selvedgeref07_May.j0 k true a0_0 a0_1 l0_2) else (if a0_0 > 64 then (selvedgeref07_May.j0 k true a0_0 a0_1 l0_2) else (if a0_1 < 1 then (selvedgeref07_May.j0 k true a0_0 a0_1 l0_2) else (if a0_1 > 1073741824 then (selvedgeref07_May.j0 k true a0_0 a0_1 l0_2) else (if (l0_2.length : Int) < 1 then (selvedgeref07_May.j0 k true a0_0 a0_1 l0_2) else (selvedgeref07_May.j0 k (decide ((l0_2.length : Int) > 4)) a0_0 a0_1 l0_2)))))
set_option maxHeartbeats 8000000 in
set_option maxRecDepth 100000 in
theorem selvedgeref07_May.calls (k : Nat) (a0_0 : Int) (a0_1 : Int) (A0_2 : Option Addr) (c0_2 : Nat) (l0_2 : List ByteArray) (r : Bool) (w : World) (hr0_2 : Kd.C Kd.string w A0_2 l0_2.length l0_2) (hc0_2 : l0_2.length ≤ c0_2) (h : selvedgeref07_May.f k a0_0 a0_1 l0_2 = some r) :
  Calls Try.prog 127 #[.agg #[.int .i64 a0_0, .int .i64 a0_1, .slice A0_2 l0_2.length c0_2]] w fun e w' => e = .returned (.bool r) ∧ Below w.heap.size w w' := by
 have hu129 := Try.underlying129
 have HR0_2 := am_ hr0_2
 have HC0_2 := am_ hc0_2
 clear hr0_2 hc0_2
 have HB := am_ (Below.refl w.heap.size w)
 have H : (if a0_0 < 1 then (selvedgeref07_May.j0 k true a0_0 a0_1 l0_2) else (if a0_0 > 64 then (selvedgeref07_May.j0 k true a0_0 a0_1 l0_2) else (if a0_1 < 1 then (selvedgeref07_May.j0 k true a0_0 a0_1 l0_2) else (if a0_1 > 1073741824 then (selvedgeref07_May.j0 k true a0_0 a0_1 l0_2) else (if (l0_2.length : Int) < 1 then (selvedgeref07_May.j0 k true a0_0 a0_1 l0_2) else (selvedgeref07_May.j0 k (decide ((l0_2.length : Int) > 4)) a0_0 a0_1 l0_2)))))) = some r := h
 clear h
 have HC2 := am_ H
 clear H
 go_enter Try.func127, Try.ntmps127
 go_upto_region 1 with (first | ((with_reducible refine gate_dst (N := 1) rfl ?_); (try (refine gate_guard (by rfl) ?_; dsimp only)); refine box_event ?hg (N := 1) ?hd (cs := #[.int .i64 a0_0, .int .i64 a0_1, .slice A0_2 l0_2.length c0_2]) (t := 129) ?hr ?_; (case hd => rfl); (case hg => rfl); (case hr => first | (go_simp; done) | (go_simp; rfl)); intro gb151 hg w3 hbox hb; have BK151 := am_ hbox; have GW151 := tG HB hg; have GE151 := tG HB hg; replace HB := tHb HB hb; clear hb hbox hg))
 (try simp only [Act.put, List.setIfInBounds_toArray, List.set_cons_zero, List.set_cons_succ])
 go_cut [33] (fun v33 wc => ∃ (kq : Nat) (x33_1 : Bool), v33 = .bool x33_1 ∧ Asc (selvedgeref07_May.j0 kq x33_1 a0_0 a0_1 l0_2 = some r) ∧ Asc (kq ≤ k) ∧ Asc (wc.heap[gb151]? = some (.cells #[.int .i64 a0_0, .int .i64 a0_1, (.slice A0_2 l0_2.length c0_2)] 129 (0, 0))) ∧ Asc (Below w.heap.size w wc))
 case first =>
  have H := HC2.out
  clear HC2
  by_cases c4 : a0_0 < 1
  ·
   rw [if_pos c4] at H
   have c4b0 : decide (a0_0 < 1) = true := decide_eq_true c4
   clear c4
   (first | rw [c4b0] | (simp only [i64_w, i32_w]; rw [c4b0]) | skip)
   have H' := am_ H
   clear H
   obtain ⟨hcz5_0, hcz5_1, hcz5_2, hfz5_0, hfz5_1, hfz5_2⟩ := bx3 BK151
   go_wp2
   go_meet
   case rel => exact ⟨_, (true), (by first | rfl | (simp; done) | (simp [*]; done)), H', ⟨by first | omega | exact Nat.le_refl _⟩, ⟨gB BK151⟩, ⟨bh HB⟩⟩
  rw [if_neg c4] at H
  have c4b0 : decide (a0_0 < 1) = false := decide_eq_false c4
  clear c4
  (first | rw [c4b0] | (simp only [i64_w, i32_w]; rw [c4b0]) | skip)
  by_cases c6 : a0_0 > 64
  ·
   rw [if_pos c6] at H
   have c6b0 : decide (64 < a0_0) = true := decide_eq_true c6
   clear c6
   have H' := am_ H
   clear H
   obtain ⟨hcz7_0, hcz7_1, hcz7_2, hfz7_0, hfz7_1, hfz7_2⟩ := bx3 BK151
   go_wp2
   go_meet
   case rel => exact ⟨_, (true), (by first | rfl | (simp; done) | (simp [*]; done)), H', ⟨by first | omega | exact Nat.le_refl _⟩, ⟨gB BK151⟩, ⟨bh HB⟩⟩
  rw [if_neg c6] at H
  have c6b0 : decide (64 < a0_0) = false := decide_eq_false c6
  clear c6
  by_cases c8 : a0_1 < 1
  ·
   rw [if_pos c8] at H
   have c8b0 : decide (a0_1 < 1) = true := decide_eq_true c8
   clear c8
   have H' := am_ H
   clear H
   obtain ⟨hcz9_0, hcz9_1, hcz9_2, hfz9_0, hfz9_1, hfz9_2⟩ := bx3 BK151
   go_wp2
   go_meet
   case rel => exact ⟨_, (true), (by first | rfl | (simp; done) | (simp [*]; done)), H', ⟨by first | omega | exact Nat.le_refl _⟩, ⟨gB BK151⟩, ⟨bh HB⟩⟩
  rw [if_neg c8] at H
  have c8b0 : decide (a0_1 < 1) = false := decide_eq_false c8
  clear c8
  by_cases c10 : a0_1 > 1073741824
  ·
   rw [if_pos c10] at H
   have c10b0 : decide (1073741824 < a0_1) = true := decide_eq_true c10
   clear c10
   have H' := am_ H
   clear H
   obtain ⟨hcz11_0, hcz11_1, hcz11_2, hfz11_0, hfz11_1, hfz11_2⟩ := bx3 BK151
   go_wp2
   go_meet
   case rel => exact ⟨_, (true), (by first | rfl | (simp; done) | (simp [*]; done)), H', ⟨by first | omega | exact Nat.le_refl _⟩, ⟨gB BK151⟩, ⟨bh HB⟩⟩
  rw [if_neg c10] at H
  have c10b0 : decide (1073741824 < a0_1) = false := decide_eq_false c10
  clear c10
  by_cases c12 : (l0_2.length : Int) < 1
  ·
   rw [if_pos c12] at H
   have c12b0 : decide ((l0_2.length : Int) < 1) = true := decide_eq_true c12
   have c12b1 : decide (l0_2.length < 1) = true := decide_eq_true (by omega)
   clear c12
   have H' := am_ H
   clear H
   obtain ⟨hcz13_0, hcz13_1, hcz13_2, hfz13_0, hfz13_1, hfz13_2⟩ := bx3 BK151
   go_wp2
   go_meet
   case rel => exact ⟨_, (true), (by first | rfl | (simp; done) | (simp [*]; done)), H', ⟨by first | omega | exact Nat.le_refl _⟩, ⟨gB BK151⟩, ⟨bh HB⟩⟩
  rw [if_neg c12] at H
  have c12b0 : decide ((l0_2.length : Int) < 1) = false := decide_eq_false c12
  have c12b1 : decide (l0_2.length < 1) = false := decide_eq_false (by omega)
  clear c12
  have H' := am_ H
  clear H
  obtain ⟨hcz14_0, hcz14_1, hcz14_2, hfz14_0, hfz14_1, hfz14_2⟩ := bx3 BK151
  go_wp2
  go_meet
  case rel => exact ⟨_, (decide ((l0_2.length : Int) > 4)), (by first | rfl | (simp; done) | (simp [*]; done)), H', ⟨by first | omega | exact Nat.le_refl _⟩, ⟨gB BK151⟩, ⟨bh HB⟩⟩
 case rest =>
  clear HC2
  obtain ⟨kq, x33_1, rfl, HA, HJ1, BK151, HB⟩ := hcut
  cases kq with
  | zero => exact absurd HA.out (by simp [selvedgeref07_May.j0])
  | succ kj1 =>
   have H := HA.out
   clear HA
   simp only [selvedgeref07_May.j0] at H
   by_cases c15 : x33_1 = true
   ·
    subst c15
    have H1 : (some false) = some r := by rw [if_pos rfl] at H; exact H
    clear H
    have H := H1
    clear H1
    obtain rfl := Option.some.inj H
    go_wp2
    go_ret
    exact ⟨by first | rfl | (simp [errW_none, errW_some] <;> rfl) | (simp [*, errW_none, errW_some] <;> rfl), bh HB⟩
   replace c15 := Bool.eq_false_iff.mpr c15
   subst c15
   have H1 : (selvedgeref07_May.l0 kj1 0 a0_0 a0_1 l0_2) = some r := by rw [if_neg (show ¬ (false = true) by decide)] at H; exact H
   clear H
   have H := H1
   clear H1
   have H' := am_ H
   clear H
   go_wp2
   go_loopg [3] kj1 (fun kq v3 w' => ∃ (x3_2 : Int), v3 = .int .i64 x3_2 ∧ Asc (selvedgeref07_May.l0 kq x3_2 a0_0 a0_1 l0_2 = some r) ∧ Asc (kq ≤ kj1) ∧ Asc (w'.heap[gb151]? = some (.cells #[.int .i64 a0_0, .int .i64 a0_1, (.slice A0_2 l0_2.length c0_2)] 129 (0, 0))) ∧ Asc (Below w.heap.size w w'))
   case atStart => exact ⟨(0), (by first | rfl | (simp; done) | (simp [*]; done)), H', ⟨Nat.le_refl _⟩, ⟨gB BK151⟩, ⟨bh HB⟩⟩
   case round =>
    clear H'
    try clear c15
    obtain ⟨x3_2, rfl, HA, HK2, BK151, HB⟩ := hrel
    cases gk with
    | zero => exact absurd HA.out (by simp [selvedgeref07_May.l0])
    | succ k2 =>
     have H := HA.out
     clear HA
     simp only [selvedgeref07_May.l0] at H
     by_cases c16 : x3_2 < (l0_2.length : Int)
     ·
      rw [if_pos c16] at H
      have c16b0 : decide (x3_2 < (l0_2.length : Int)) = true := decide_eq_true c16
      clear c16
      revert H
      refine gi (fun c17b0 H => ?_)
      by_cases c18 : ((rdOf ByteArray.empty l0_2 x3_2).size : Int) < 1
      ·
       rw [if_pos c18] at H
       have c18b0 : decide (((rdOf ByteArray.empty l0_2 x3_2).size : Int) < 1) = true := decide_eq_true c18
       have c18b1 : decide ((rdOf ByteArray.empty l0_2 x3_2).size < 1) = true := decide_eq_true (by omega)
       clear c18
       obtain rfl := Option.some.inj H
       obtain ⟨hcz19_0, hcz19_1, hcz19_2, hfz19_0, hfz19_1, hfz19_2⟩ := bx3 BK151
       have p152 : 0 ≤ (x3_2 : Int) := of_decide_eq_true ‹_›
       have q152 : x3_2 < (l0_2.length : Int) := of_decide_eq_true ‹_›
       obtain ⟨ad152, e152, hx152_0⟩ := Kd.at_string HR0_2.out x3_2 p152 q152
       cases e152
       replace hx152_0 := ce HB hx152_0
       replace p152 := eq_true p152
       replace q152 := eq_true q152
       go_wp2
       go_ret
       exact ⟨by first | rfl | (simp [errW_none, errW_some] <;> rfl) | (simp [*, errW_none, errW_some] <;> rfl), bh HB⟩
      rw [if_neg c18] at H
      have c18b0 : decide (((rdOf ByteArray.empty l0_2 x3_2).size : Int) < 1) = false := decide_eq_false c18
      have c18b1 : decide ((rdOf ByteArray.empty l0_2 x3_2).size < 1) = false := decide_eq_false (by omega)
      clear c18
      by_cases c20 : ((rdOf ByteArray.empty l0_2 x3_2).size : Int) > 48
      ·
       rw [if_pos c20] at H
       have c20b0 : decide (48 < ((rdOf ByteArray.empty l0_2 x3_2).size : Int)) = true := decide_eq_true c20
       have c20b1 : decide (48 < (rdOf ByteArray.empty l0_2 x3_2).size) = true := decide_eq_true (by omega)
       clear c20
       obtain rfl := Option.some.inj H
       obtain ⟨hcz21_0, hcz21_1, hcz21_2, hfz21_0, hfz21_1, hfz21_2⟩ := bx3 BK151
       have p152 : 0 ≤ (x3_2 : Int) := of_decide_eq_true ‹_›
       have q152 : x3_2 < (l0_2.length : Int) := of_decide_eq_true ‹_›
       obtain ⟨ad152, e152, hx152_0⟩ := Kd.at_string HR0_2.out x3_2 p152 q152
       cases e152
       replace hx152_0 := ce HB hx152_0
       replace p152 := eq_true p152
       replace q152 := eq_true q152
       have p153 : 0 ≤ (x3_2 : Int) := of_decide_eq_true ‹_›
       have q153 : x3_2 < (l0_2.length : Int) := of_decide_eq_true ‹_›
       obtain ⟨ad153, e153, hx153_0⟩ := Kd.at_string HR0_2.out x3_2 p153 q153
       obtain rfl : ad152 = ad153 := (by injection e153)
       replace hx153_0 := ce HB hx153_0
       replace p153 := eq_true p153
       replace q153 := eq_true q153
       go_wp2
       go_ret
       exact ⟨by first | rfl | (simp [errW_none, errW_some] <;> rfl) | (simp [*, errW_none, errW_some] <;> rfl), bh HB⟩
      rw [if_neg c20] at H
      have c20b0 : decide (48 < ((rdOf ByteArray.empty l0_2 x3_2).size : Int)) = false := decide_eq_false c20
      have c20b1 : decide (48 < (rdOf ByteArray.empty l0_2 x3_2).size) = false := decide_eq_false (by omega)
      clear c20
      have H' := am_ H
      clear H
      obtain ⟨hcz22_0, hcz22_1, hcz22_2, hfz22_0, hfz22_1, hfz22_2⟩ := bx3 BK151
      have p152 : 0 ≤ (x3_2 : Int) := of_decide_eq_true ‹_›
      have q152 : x3_2 < (l0_2.length : Int) := of_decide_eq_true ‹_›
      obtain ⟨ad152, e152, hx152_0⟩ := Kd.at_string HR0_2.out x3_2 p152 q152
      cases e152
      replace hx152_0 := ce HB hx152_0
      replace p152 := eq_true p152
      replace q152 := eq_true q152
      have p153 : 0 ≤ (x3_2 : Int) := of_decide_eq_true ‹_›
      have q153 : x3_2 < (l0_2.length : Int) := of_decide_eq_true ‹_›
      obtain ⟨ad153, e153, hx153_0⟩ := Kd.at_string HR0_2.out x3_2 p153 q153
      obtain rfl : ad152 = ad153 := (by injection e153)
      replace hx153_0 := ce HB hx153_0
      replace p153 := eq_true p153
      replace q153 := eq_true q153
      go_wp2
      go_roundg k2
      case measure => have := HJ1.out; have := HK2.out; omega
      case rel => exact ⟨(wrap64 (x3_2 + 1)), (by first | rfl | (simp; done) | (simp [*]; done)), H', ⟨by have := HJ1.out; have := HK2.out; omega⟩, ⟨gB BK151⟩, ⟨bh HB⟩⟩
     rw [if_neg c16] at H
     have c16b0 : decide (x3_2 < (l0_2.length : Int)) = false := decide_eq_false c16
     clear c16
     obtain rfl := Option.some.inj H
     obtain ⟨hcz23_0, hcz23_1, hcz23_2, hfz23_0, hfz23_1, hfz23_2⟩ := bx3 BK151
     go_wp2
     go_ret
     exact ⟨by first | rfl | (simp [errW_none, errW_some] <;> rfl) | (simp [*, errW_none, errW_some] <;> rfl), bh HB⟩

def selvedgeref05_Quorum.f (a0 : Int) : Option (Int) := (selvedgeref05_May.f a0).bind fun t154 => (if t154 = true then (some (wrap64 (a0 - (wrap64 (Int.tdiv (wrap64 (a0 - 1)) 3))))) else (some 0))
set_option maxHeartbeats 8000000 in
set_option maxRecDepth 100000 in
theorem selvedgeref05_Quorum.calls (a0 : Int) (r : Int) (w : World) (h : selvedgeref05_Quorum.f a0 = some r) :
  Calls Try.prog 128 #[.int .i64 a0] w fun e w' => e = .returned (.int .i64 r) ∧ Drawn0 w w' := by
 have H : ((selvedgeref05_May.f a0).bind fun t154 => (if t154 = true then (some (wrap64 (a0 - (wrap64 (Int.tdiv (wrap64 (a0 - 1)) 3))))) else (some 0))) = some r := h
 clear h
 replace H := Option.bind_eq_some_iff.mp H
 obtain ⟨t154, A20, H⟩ := H
 replace H : (if t154 = true then (some (wrap64 (a0 - (wrap64 (Int.tdiv (wrap64 (a0 - 1)) 3))))) else (some 0)) = some r := H
 have A2 := am_ A20
 clear A20
 by_cases c3 : t154 = true
 ·
  subst c3
  have H1 : (some (wrap64 (a0 - (wrap64 (Int.tdiv (wrap64 (a0 - 1)) 3))))) = some r := by rw [if_pos rfl] at H; exact H
  clear H
  have H := H1
  clear H1
  obtain rfl := Option.some.inj H
  go_enter Try.func128, Try.ntmps128
  go_wp2_with (first | ((with_reducible refine gate_callee (f := 58) rfl ?_); refine goesL_ (some 5) rfl rfl Try.func58 (by kernel_rfl) rfl #[.int .i64 a0] rfl (by (try simp only [List.map_toArray, List.map_cons, List.map_nil]); first | done | rfl | (simp only [List.length_drop, List.length_take]; rfl)) ?_; (with_reducible refine (selvedgeref05_May.calls a0 true _ A2.out).mono ?_); rintro e w' ⟨rfl, ⟨nd, rfl⟩⟩; refine ⟨_, rfl, ?_⟩))
  go_ret
  exact ⟨by first | rfl | (simp; done) | (simp [*]; done), by repeat (first | exact Drawn0.refl _ | apply Drawn0.step)⟩
 replace c3 := Bool.eq_false_iff.mpr c3
 subst c3
 have H1 : (some 0) = some r := by rw [if_neg (show ¬ (false = true) by decide)] at H; exact H
 clear H
 have H := H1
 clear H1
 obtain rfl := Option.some.inj H
 go_enter Try.func128, Try.ntmps128
 go_wp2_with (first | ((with_reducible refine gate_callee (f := 58) rfl ?_); refine goesL_ (some 5) rfl rfl Try.func58 (by kernel_rfl) rfl #[.int .i64 a0] rfl (by (try simp only [List.map_toArray, List.map_cons, List.map_nil]); first | done | rfl | (simp only [List.length_drop, List.length_take]; rfl)) ?_; (with_reducible refine (selvedgeref05_May.calls a0 false _ A2.out).mono ?_); rintro e w' ⟨rfl, ⟨nd, rfl⟩⟩; refine ⟨_, rfl, ?_⟩))
 go_ret
 exact ⟨by first | rfl | (simp; done) | (simp [*]; done), by repeat (first | exact Drawn0.refl _ | apply Drawn0.step)⟩

def selvedgeref08_Third.f (a0 : Int) : Option (Bool) := if a0 > 0 then (some ((Int.tmod a0 3) == 0)) else (some false)
set_option maxHeartbeats 8000000 in
set_option maxRecDepth 100000 in
theorem selvedgeref08_Third.calls (a0 : Int) (r : Bool) (w : World) (h : selvedgeref08_Third.f a0 = some r) :
  Calls Try.prog 129 #[.int .i64 a0] w fun e w' => e = .returned (.bool r) ∧ Drawn0 w w' := by
 have H : (if a0 > 0 then (some ((Int.tmod a0 3) == 0)) else (some false)) = some r := h
 clear h
 by_cases c2 : a0 > 0
 ·
  rw [if_pos c2] at H
  have c2b0 : decide (0 < a0) = true := decide_eq_true c2
  clear c2
  obtain rfl := Option.some.inj H
  go_enter Try.func129, Try.ntmps129
  go_wp2
  go_ret
  exact ⟨by first | rfl | (simp; done) | (simp [*]; done), by repeat (first | exact Drawn0.refl _ | apply Drawn0.step)⟩
 rw [if_neg c2] at H
 have c2b0 : decide (0 < a0) = false := decide_eq_false c2
 clear c2
 obtain rfl := Option.some.inj H
 go_enter Try.func129, Try.ntmps129
 go_wp2
 go_ret
 exact ⟨by first | rfl | (simp; done) | (simp [*]; done), by repeat (first | exact Drawn0.refl _ | apply Drawn0.step)⟩

end Go.Proofs.Ytcbfnmabckjijaa.POrderTurns
