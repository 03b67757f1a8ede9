-- written by a program of this session (pp.py), out of the kit's print and this session's contracts
import Derived.Test.YtcbfnmabckjijaaPOrderTurnsx0
import Derived.Test.YtcbfnmabckjijaaPOrderTurnsx6
import Derived.Test.YtcbfnmabckjijaaPOrderTurnsx7
import Derived.Test.YtcbfnmabckjijaaVOrderTurnsPg
namespace Go.Proofs.Ytcbfnmabckjijaa.POrderTurns
open Go.RowKit Go.Proofs.YtcbfnmabckjijaaW.PrintWords Go.Proofs.YtcbfnmabckjijaaW.PrintLast Go.Proofs.YtcbfnmabckjijaaW.PrintMore
set_option linter.unusedVariables false
set_option linter.unusedSimpArgs false

def selvedgeref08_Bytes.l0 : Nat → List ByteArray → Int → Int → Int → List (S129) → List ByteArray → Int → Int → Option (ByteArray × Int)
 | 0, _, _, _, _, _, _, _, _ => none
 | k + 1, x7, x8, x173000, x173001, x173002, x173003, x173004, x173005 => if x8 < (x173002.length : Int) then (if 0 ≤ x8 then ((selvedgeref07_Bytes.f k ((rd_T129 x173002 x8).f0) ((rd_T129 x173002 x8).f1) ((rd_T129 x173002 x8).f2)).bind fun bt175 => (if x7.length < 8796093022208 then (selvedgeref08_Bytes.l0 k (x7 ++ [bt175.1]) (wrap64 (x8 + 1)) x173000 x173001 x173002 x173003 x173004 x173005) else (none))) else (none)) else ((selvedgeref01_Num.f (IntKind.u64.wrap (x173000))).bind fun t180 => ((selvedgeref01_Num.f (IntKind.u64.wrap (x173001))).bind fun t181 => (if t180.size + t181.size ≤ 9223372036854775807 then ((selvedgeref01_Row.f x7).bind fun t182 => (if (t180 ++ t181).size + t182.size ≤ 9223372036854775807 then ((selvedgeref01_Row.f x173003).bind fun t183 => (if ((t180 ++ t181) ++ t182).size + t183.size ≤ 9223372036854775807 then ((selvedgeref01_Num.f (IntKind.u64.wrap (x173004))).bind fun t184 => (if (((t180 ++ t181) ++ t182) ++ t183).size + t184.size ≤ 9223372036854775807 then ((selvedgeref01_Num.f (IntKind.u64.wrap (x173005))).bind fun t185 => (if ((((t180 ++ t181) ++ t182) ++ t183) ++ t184).size + t185.size ≤ 9223372036854775807 then (some (((((t180 ++ t181) ++ t182) ++ t183) ++ t184) ++ t185, 0)) else (none))) else (none))) else (none))) else (none))) else (none))))
def selvedgeref08_Bytes.f (k : Nat) (a0_0 : Int) (a0_1 : Int) (l0_2 : List (S129)) (l0_3 : List ByteArray) (a0_4 : Int) (a0_5 : Int) (a1 : Int) : Option (ByteArray × Int) := (selvedgeref08_May.f k a0_0 a0_1 l0_2 l0_3 a0_4 a0_5 a1).bind fun t173 => (if t173 = true then (selvedgeref08_Bytes.l0 k ([] : List ByteArray) 0 a0_0 a0_1 l0_2 l0_3 a0_4 a0_5) else (some ((⟨#[]⟩ : ByteArray), 1)))
def selvedgeref08_Bytes.T10 : Bool × List (List Nat × List Nat) := (true, [([], []), ([0], [0]), ([1], [1]), ([2], [2]), ([], []), ([4], [4]), ([5], [5]), ([6, 3], [6]), ([3, 7], [3, 7]), ([], []), ([9, 7], [9]), ([8, 10], [8, 10]), ([], []), ([12], [12]), ([13, 10], [13]), ([11, 14], [11, 14]), ([15, 14, 0, 1, 2, 3, 4, 5, 6, 7, 8, 9, 10, 11, 12, 13, 14, 15], [15])])
def selvedgeref08_Bytes.B10 : List Nat := [0, 1, 3, 7, 0, 16, 48, 127, 255, 0, 767, 2047, 0, 4096, 14079, 32767, 65535]
theorem selvedgeref08_Bytes.tab10 : rtab .any (opsOf Try.f87 10) = selvedgeref08_Bytes.T10 := by kernel_rfl
theorem selvedgeref08_Bytes.bits10 : waitsOk selvedgeref08_Bytes.T10.2 selvedgeref08_Bytes.B10 = true := by kernel_rfl
def selvedgeref08_Bytes.T11 : Bool × List (List Nat × List Nat) := (true, [([], []), ([], []), ([1], [1]), ([2], [2]), ([3], [3]), ([4], [4]), ([0, 5], [0, 5]), ([], []), ([7], [7]), ([8], [8]), ([9], [9]), ([10, 5], [10]), ([6, 11], [6, 11]), ([12, 11, 0, 1, 2, 3, 4, 5, 6, 7, 8, 9, 10, 11, 12], [12]), ([13, 0, 1, 2, 3, 4, 5, 6, 7, 8, 9, 10, 11, 12, 13], [])])
def selvedgeref08_Bytes.B11 : List Nat := [0, 0, 2, 6, 14, 30, 63, 0, 128, 384, 896, 1982, 4095, 8191, 16383]
theorem selvedgeref08_Bytes.tab11 : rtab .any (opsOf Try.f87 11) = selvedgeref08_Bytes.T11 := by kernel_rfl
theorem selvedgeref08_Bytes.bits11 : waitsOk selvedgeref08_Bytes.T11.2 selvedgeref08_Bytes.B11 = true := by kernel_rfl
set_option maxHeartbeats 8000000 in
set_option maxRecDepth 100000 in
theorem selvedgeref08_Bytes.calls (k : Nat) (a0_0 : Int) (a0_1 : Int) (A0_2 : Option Addr) (c0_2 : Nat) (l0_2 : List (S129)) (A0_3 : Option Addr) (c0_3 : Nat) (l0_3 : List ByteArray) (a0_4 : Int) (a0_5 : Int) (a1 : Int) (r1 : ByteArray) (r2 : Int) (w : World) (hr0_2 : Kd.C k129 w A0_2 l0_2.length l0_2) (hc0_2 : l0_2.length ≤ c0_2) (hr0_3 : Kd.C Kd.string w A0_3 l0_3.length l0_3) (hc0_3 : l0_3.length ≤ c0_3) (h : selvedgeref08_Bytes.f k a0_0 a0_1 l0_2 l0_3 a0_4 a0_5 a1 = some (r1, r2)) :
  Calls Try.prog 87 #[.agg #[.int .i64 a0_0, .int .i64 a0_1, .slice A0_2 l0_2.length c0_2, .slice A0_3 l0_3.length c0_3, .int .i64 a0_4, .int .i64 a0_5], .int .i64 a1] w fun e w' => e = .returned (.tuple #[.string r1, .int .i64 r2]) ∧ Below w.heap.size w w' := by
 have hu35 := Try.underlying35
 have hu129 := Try.underlying129
 have HR0_2 := am_ hr0_2
 have HC0_2 := am_ hc0_2
 clear hr0_2 hc0_2
 have HR0_3 := am_ hr0_3
 have HC0_3 := am_ hc0_3
 clear hr0_3 hc0_3
 have HB := am_ (Below.refl w.heap.size w)
 have H : ((selvedgeref08_May.f k a0_0 a0_1 l0_2 l0_3 a0_4 a0_5 a1).bind fun t173 => (if t173 = true then (selvedgeref08_Bytes.l0 k ([] : List ByteArray) 0 a0_0 a0_1 l0_2 l0_3 a0_4 a0_5) else (some ((⟨#[]⟩ : ByteArray), 1)))) = some (r1, r2) := h
 clear h
 replace H := Option.bind_eq_some_iff.mp H
 obtain ⟨t173, A30, H⟩ := H
 replace H : (if t173 = true then (selvedgeref08_Bytes.l0 k ([] : List ByteArray) 0 a0_0 a0_1 l0_2 l0_3 a0_4 a0_5) else (some ((⟨#[]⟩ : ByteArray), 1))) = some (r1, r2) := H
 have A3 := am_ A30
 clear A30
 by_cases c4 : t173 = true
 ·
  subst c4
  have H1 : (selvedgeref08_Bytes.l0 k ([] : List ByteArray) 0 a0_0 a0_1 l0_2 l0_3 a0_4 a0_5) = some (r1, r2) := by rw [if_pos rfl] at H; exact H
  clear H
  have H := H1
  clear H1
  have H' := am_ H
  clear H
  go_enter Try.func87, Try.ntmps87
  go_wp2_with (first | ((with_reducible refine gate_dst (N := 2) rfl ?_); refine box_event ?hg (N := 2) ?hd (cs := #[.int .i64 a0_0, .int .i64 a0_1, .slice A0_2 l0_2.length c0_2, .slice A0_3 l0_3.length c0_3, .int .i64 a0_4, .int .i64 a0_5]) (t := 35) ?hr ?_; (case hd => rfl); (case hg => rfl); (case hr => first | (go_simp; done) | (go_simp; rfl)); intro gb172 hg w5 hbox hb; have BK172 := am_ hbox; have GW172 := tG HB hg; have GE172 := tG HB hg; replace HB := tHb HB hb; clear hb hbox hg; obtain ⟨hcz6_0, hcz6_1, hcz6_2, hcz6_3, hcz6_4, hcz6_5, hfz6_0, hfz6_1, hfz6_2, hfz6_3, hfz6_4, hfz6_5⟩ := bx6 BK172) | ((with_reducible refine gate_callee (f := 103) rfl ?_); refine goesL_ (some 14) rfl rfl Try.func103 (by kernel_rfl) rfl #[.agg #[.int .i64 a0_0, .int .i64 a0_1, .slice A0_2 l0_2.length c0_2, .slice A0_3 l0_3.length c0_3, .int .i64 a0_4, .int .i64 a0_5], .int .i64 a1] rfl (by (try simp only [List.map_toArray, List.map_cons, List.map_nil]); first | done | rfl | (simp only [List.length_drop, List.length_take]; rfl)) ?_; (with_reducible refine (selvedgeref08_May.calls k a0_0 a0_1 _ _ l0_2 _ _ l0_3 a0_4 a0_5 a1 true _ ?side1 ?side2 ?side3 ?side4 A3.out).mono ?_); (case side1 => exact gCB HR0_2 HB); (case side2 => exact HC0_2.out); (case side3 => exact gCB HR0_3 HB); (case side4 => exact HC0_3.out); rintro e w7 ⟨rfl, hb⟩; refine ⟨_, rfl, ?_⟩; replace BK172 := tBb BK172 hb; replace HB := tHb HB hb; (try clear hb); (try clear hb2); (try clear hk); (try clear hi)))
  go_loopg [7, 8] k (fun kq v7 v8 w' => ∃ (x7_1 : List ByteArray) (x8_1 : Int), v8 = .int .i64 x8_1 ∧ Asc (selvedgeref08_Bytes.l0 kq x7_1 x8_1 a0_0 a0_1 l0_2 l0_3 a0_4 a0_5 = some (r1, r2)) ∧ Asc (kq ≤ k) ∧ Asc (Kd.R Kd.string 9 w' w.heap.size (fun _ => True) v7 x7_1) ∧ Asc (w'.heap[gb172]? = some (.cells #[.int .i64 a0_0, .int .i64 a0_1, (.slice A0_2 l0_2.length c0_2), (.slice A0_3 l0_3.length c0_3), .int .i64 a0_4, .int .i64 a0_5] 35 (0, 0))) ∧ Asc (Below w.heap.size w w'))
  case atStart => exact ⟨(([] : List ByteArray)), (0), (by first | rfl | (simp; done) | (simp [*]; done)), H', ⟨Nat.le_refl _⟩, ⟨by first | exact Kd.R_nil _ _ _ _ _ | exact Kd.N_nil _ _ _ _ _ | exact Kd.V_nil _ _ _ _ _ | exact Kd.Q_nil _ _ _ _ _ | exact Kd.S_nil _ _ _ _ _⟩, ⟨gB BK172⟩, ⟨bh HB⟩⟩
  case round =>
   clear H'
   try clear c4 hcz6_0 hcz6_1 hcz6_2 hcz6_3 hcz6_4 hcz6_5 hfz6_0 hfz6_1 hfz6_2 hfz6_3 hfz6_4 hfz6_5
   obtain ⟨x7_1, x8_1, rfl, HA, HK1, HO_7, BK172, HB⟩ := hrel
   cases gk with
   | zero => exact absurd HA.out (by simp [selvedgeref08_Bytes.l0])
   | succ k1 =>
    have H := HA.out
    clear HA
    simp only [selvedgeref08_Bytes.l0] at H
    by_cases c8 : x8_1 < (l0_2.length : Int)
    ·
     rw [if_pos c8] at H
     have c8b0 : decide (x8_1 < (l0_2.length : Int)) = true := decide_eq_true c8
     clear c8
     revert H
     refine gi (fun c9b0 H => ?_)
     replace H := Option.bind_eq_some_iff.mp H
     obtain ⟨⟨t175, t176⟩, A100, H⟩ := H
     replace H : (if x7_1.length < 8796093022208 then (selvedgeref08_Bytes.l0 k1 (x7_1 ++ [t175]) (wrap64 (x8_1 + 1)) a0_0 a0_1 l0_2 l0_3 a0_4 a0_5) else (none)) = some (r1, r2) := H
     have A10 := am_ A100
     clear A100
     revert H
     refine gi' (fun c11 H => ?_)
     have LMc11 := am_ c11
     clear c11
     obtain ⟨y177, hy177⟩ : ∃ y_ : List ByteArray, y_ = (x7_1 ++ [t175]) := ⟨_, rfl⟩
     replace H : (selvedgeref08_Bytes.l0 k1 y177 (wrap64 (x8_1 + 1)) a0_0 a0_1 l0_2 l0_3 a0_4 a0_5) = some (r1, r2) := by first | (rw [hy177]; with_reducible exact H) | (have H2_ := (Option.bind_some _ _).symm.trans H; rw [hy177]; with_reducible exact H2_) | (have H2_ := (Option.bind_some _ _).symm.trans H; with_reducible exact H2_) | with_reducible exact H | (rw [hy177]; exact H) | exact H
     have Ny177 := am_ hy177
     clear hy177
     have H' := am_ H
     clear H
     obtain ⟨hcz12_0, hcz12_1, hcz12_2, hcz12_3, hcz12_4, hcz12_5, hfz12_0, hfz12_1, hfz12_2, hfz12_3, hfz12_4, hfz12_5⟩ := bx6 BK172
     have p174 : 0 ≤ (x8_1 : Int) := of_decide_eq_true ‹_›
     have q174 : x8_1 < (l0_2.length : Int) := of_decide_eq_true ‹_›
     obtain ⟨ad174, A174_2, c174_2, e174, hx174_0, hx174_1, hx174_2, hl174_2, hi174_2⟩ := at_T129 HR0_2.out x8_1 p174 q174
     cases e174
     replace hx174_0 := ce HB hx174_0
     replace hx174_1 := ce HB hx174_1
     replace hx174_2 := ce HB hx174_2
     have HR174_2 := am_ hi174_2
     have HC174_2 := am_ hl174_2
     clear hi174_2 hl174_2
     replace p174 := eq_true p174
     replace q174 := eq_true q174
     go_wp2_with (first | ((with_reducible refine gate_callee (f := 104) rfl ?_); refine goesL_ (some 30) rfl rfl Try.func104 (by kernel_rfl) rfl #[.agg #[.int .i64 ((rd_T129 l0_2 x8_1).f0), .int .i64 ((rd_T129 l0_2 x8_1).f1), .slice A174_2 ((rd_T129 l0_2 x8_1).f2).length c174_2]] rfl (by (try simp only [List.map_toArray, List.map_cons, List.map_nil]); first | done | rfl | (simp only [List.length_drop, List.length_take]; rfl)) ?_; (with_reducible refine (selvedgeref07_Bytes.calls k1 ((rd_T129 l0_2 x8_1).f0) ((rd_T129 l0_2 x8_1).f1) _ _ ((rd_T129 l0_2 x8_1).f2) t175 t176 _ ?side1 ?side2 A10.out).mono ?_); (case side1 => exact gCB HR174_2 HB); (case side2 => exact HC174_2.out); rintro e w13 ⟨rfl, hb⟩; refine ⟨_, rfl, ?_⟩; replace HO_7 := tRb HO_7 hb; replace BK172 := tBb BK172 hb; replace HB := tHb HB hb; (try clear hb); (try clear hb2); (try clear hk); (try clear hi)) | ((with_reducible refine gate_builtin (b := .append) (xs := #[.tmp 33, .tmp 35]) rfl ?_); at_builtin; refine Kd.R_append Kd.string (w0 := w) w.heap.size rfl (.tmp 33) (.tmp 35) 31 9 (.string ⟨#[]⟩) 16 rfl Try.underlying31 info9 rfl (by decide) (by omega) u7 x7_1 t175 [.string t175] (fun _ => True) (fun _ => False) rfl rfl ?aP (fun _ hk => hk.elim) ?aF ?aO ?aB ?aS ?aL ?_; (case aP => exact rfl); (case aB => exact (bh HB)); (case aF => exact (fun _ _ => trivial)); (case aO => exact (hR HO_7)); (case aS => exact (below_size (bh HB))); (case aL => have := LMc11.out; omega); intro v178 w14 ho hb hg hat; rw [← Ny177.out] at ho; replace BK172 := tBg BK172 hg (Kd.R_ne HO_7.out BK172.out (by decide)); replace HB := am_ hb; have HO179 := am_ (ho); clear HO_7 ho hb hg hat))
     go_roundg k1
     case measure => have := HK1.out; omega
     case rel => exact ⟨(y177), (wrap64 (x8_1 + 1)), (by first | rfl | (simp; done) | (simp [*]; done)), H', kS HK1, ⟨hR HO179⟩, ⟨gB BK172⟩, ⟨bh HB⟩⟩
    rw [if_neg c8] at H
    have c8b0 : decide (x8_1 < (l0_2.length : Int)) = false := decide_eq_false c8
    clear c8
    replace H := Option.bind_eq_some_iff.mp H
    obtain ⟨t180, A150, H⟩ := H
    replace H : ((selvedgeref01_Num.f (IntKind.u64.wrap (a0_1))).bind fun t181 => (if t180.size + t181.size ≤ 9223372036854775807 then ((selvedgeref01_Row.f x7_1).bind fun t182 => (if (t180 ++ t181).size + t182.size ≤ 9223372036854775807 then ((selvedgeref01_Row.f l0_3).bind fun t183 => (if ((t180 ++ t181) ++ t182).size + t183.size ≤ 9223372036854775807 then ((selvedgeref01_Num.f (IntKind.u64.wrap (a0_4))).bind fun t184 => (if (((t180 ++ t181) ++ t182) ++ t183).size + t184.size ≤ 9223372036854775807 then ((selvedgeref01_Num.f (IntKind.u64.wrap (a0_5))).bind fun t185 => (if ((((t180 ++ t181) ++ t182) ++ t183) ++ t184).size + t185.size ≤ 9223372036854775807 then (some (((((t180 ++ t181) ++ t182) ++ t183) ++ t184) ++ t185, 0)) else (none))) else (none))) else (none))) else (none))) else (none))) = some (r1, r2) := H
    have A15 := am_ A150
    clear A150
    replace H := Option.bind_eq_some_iff.mp H
    obtain ⟨t181, A160, H⟩ := H
    replace H : (if t180.size + t181.size ≤ 9223372036854775807 then ((selvedgeref01_Row.f x7_1).bind fun t182 => (if (t180 ++ t181).size + t182.size ≤ 9223372036854775807 then ((selvedgeref01_Row.f l0_3).bind fun t183 => (if ((t180 ++ t181) ++ t182).size + t183.size ≤ 9223372036854775807 then ((selvedgeref01_Num.f (IntKind.u64.wrap (a0_4))).bind fun t184 => (if (((t180 ++ t181) ++ t182) ++ t183).size + t184.size ≤ 9223372036854775807 then ((selvedgeref01_Num.f (IntKind.u64.wrap (a0_5))).bind fun t185 => (if ((((t180 ++ t181) ++ t182) ++ t183) ++ t184).size + t185.size ≤ 9223372036854775807 then (some (((((t180 ++ t181) ++ t182) ++ t183) ++ t184) ++ t185, 0)) else (none))) else (none))) else (none))) else (none))) else (none)) = some (r1, r2) := H
    have A16 := am_ A160
    clear A160
    revert H
    refine gi' (fun c17 H => ?_)
    have c17b0 := eq_true c17
    have c17b1 : decide (t180.size + t181.size ≤ 9223372036854775807) = true := decide_eq_true c17
    try have c17b2 : (9223372036854775807 < t180.size + t181.size) = False := eq_false (Nat.not_lt.2 c17)
    replace H := Option.bind_eq_some_iff.mp H
    obtain ⟨t182, A180, H⟩ := H
    replace H : (if (t180 ++ t181).size + t182.size ≤ 9223372036854775807 then ((selvedgeref01_Row.f l0_3).bind fun t183 => (if ((t180 ++ t181) ++ t182).size + t183.size ≤ 9223372036854775807 then ((selvedgeref01_Num.f (IntKind.u64.wrap (a0_4))).bind fun t184 => (if (((t180 ++ t181) ++ t182) ++ t183).size + t184.size ≤ 9223372036854775807 then ((selvedgeref01_Num.f (IntKind.u64.wrap (a0_5))).bind fun t185 => (if ((((t180 ++ t181) ++ t182) ++ t183) ++ t184).size + t185.size ≤ 9223372036854775807 then (some (((((t180 ++ t181) ++ t182) ++ t183) ++ t184) ++ t185, 0)) else (none))) else (none))) else (none))) else (none)) = some (r1, r2) := H
    have A18 := am_ A180
    clear A180
    revert H
    refine gi' (fun c19 H => ?_)
    have c19b0 := eq_true c19
    have c19b1 : decide ((t180 ++ t181).size + t182.size ≤ 9223372036854775807) = true := decide_eq_true c19
    have c19u := c19
    (try simp only [ByteArray.size_append] at c19u)
    (try simp only [show ∀ x : UInt8, (⟨#[x]⟩ : ByteArray).size = 1 from fun _ => rfl] at c19u)
    have c19v := eq_false (Nat.not_lt.2 c19u)
    replace c19u := eq_true c19u
    try have c19b2 : (9223372036854775807 < (t180 ++ t181).size + t182.size) = False := eq_false (Nat.not_lt.2 c19)
    replace H := Option.bind_eq_some_iff.mp H
    obtain ⟨t183, A200, H⟩ := H
    replace H : (if ((t180 ++ t181) ++ t182).size + t183.size ≤ 9223372036854775807 then ((selvedgeref01_Num.f (IntKind.u64.wrap (a0_4))).bind fun t184 => (if (((t180 ++ t181) ++ t182) ++ t183).size + t184.size ≤ 9223372036854775807 then ((selvedgeref01_Num.f (IntKind.u64.wrap (a0_5))).bind fun t185 => (if ((((t180 ++ t181) ++ t182) ++ t183) ++ t184).size + t185.size ≤ 9223372036854775807 then (some (((((t180 ++ t181) ++ t182) ++ t183) ++ t184) ++ t185, 0)) else (none))) else (none))) else (none)) = some (r1, r2) := H
    have A20 := am_ A200
    clear A200
    revert H
    refine gi' (fun c21 H => ?_)
    have c21b0 := eq_true c21
    have c21b1 : decide (((t180 ++ t181) ++ t182).size + t183.size ≤ 9223372036854775807) = true := decide_eq_true c21
    have c21u := c21
    (try simp only [ByteArray.size_append] at c21u)
    (try simp only [show ∀ x : UInt8, (⟨#[x]⟩ : ByteArray).size = 1 from fun _ => rfl] at c21u)
    have c21v := eq_false (Nat.not_lt.2 c21u)
    replace c21u := eq_true c21u
    try have c21b2 : (9223372036854775807 < ((t180 ++ t181) ++ t182).size + t183.size) = False := eq_false (Nat.not_lt.2 c21)
    replace H := Option.bind_eq_some_iff.mp H
    obtain ⟨t184, A220, H⟩ := H
    replace H : (if (((t180 ++ t181) ++ t182) ++ t183).size + t184.size ≤ 9223372036854775807 then ((selvedgeref01_Num.f (IntKind.u64.wrap (a0_5))).bind fun t185 => (if ((((t180 ++ t181) ++ t182) ++ t183) ++ t184).size + t185.size ≤ 9223372036854775807 then (some (((((t180 ++ t181) ++ t182) ++ t183) ++ t184) ++ t185, 0)) else (none))) else (none)) = some (r1, r2) := H
    have A22 := am_ A220
    clear A220
    revert H
    refine gi' (fun c23 H => ?_)
    have c23b0 := eq_true c23
    have c23b1 : decide ((((t180 ++ t181) ++ t182) ++ t183).size + t184.size ≤ 9223372036854775807) = true := decide_eq_true c23
    have c23u := c23
    (try simp only [ByteArray.size_append] at c23u)
    (try simp only [show ∀ x : UInt8, (⟨#[x]⟩ : ByteArray).size = 1 from fun _ => rfl] at c23u)
    have c23v := eq_false (Nat.not_lt.2 c23u)
    replace c23u := eq_true c23u
    try have c23b2 : (9223372036854775807 < (((t180 ++ t181) ++ t182) ++ t183).size + t184.size) = False := eq_false (Nat.not_lt.2 c23)
    replace H := Option.bind_eq_some_iff.mp H
    obtain ⟨t185, A240, H⟩ := H
    replace H : (if ((((t180 ++ t181) ++ t182) ++ t183) ++ t184).size + t185.size ≤ 9223372036854775807 then (some (((((t180 ++ t181) ++ t182) ++ t183) ++ t184) ++ t185, 0)) else (none)) = some (r1, r2) := H
    have A24 := am_ A240
    clear A240
    revert H
    refine gi' (fun c25 H => ?_)
    have c25b0 := eq_true c25
    have c25b1 : decide (((((t180 ++ t181) ++ t182) ++ t183) ++ t184).size + t185.size ≤ 9223372036854775807) = true := decide_eq_true c25
    have c25u := c25
    (try simp only [ByteArray.size_append] at c25u)
    (try simp only [show ∀ x : UInt8, (⟨#[x]⟩ : ByteArray).size = 1 from fun _ => rfl] at c25u)
    have c25v := eq_false (Nat.not_lt.2 c25u)
    replace c25u := eq_true c25u
    try have c25b2 : (9223372036854775807 < ((((t180 ++ t181) ++ t182) ++ t183) ++ t184).size + t185.size) = False := eq_false (Nat.not_lt.2 c25)
    simp only [Option.some.injEq, Prod.mk.injEq] at H
    obtain ⟨rfl, rfl⟩ := H
    obtain ⟨hcz26_0, hcz26_1, hcz26_2, hcz26_3, hcz26_4, hcz26_5, hfz26_0, hfz26_1, hfz26_2, hfz26_3, hfz26_4, hfz26_5⟩ := bx6 BK172
    try go_wp2
    replace HO_7 := am_ (Kd.R_drew HO_7.out)
    replace BK172 := am_ (blk_drew BK172.out)
    replace HB := am_ (below_drew1 HB.out)
    refine start_ (n := 17) (S := fun w' => w'.cell? ⟨gb172, 0, none⟩ = some (.int .i64 a0_0) ∧ w'.cell? ⟨gb172, 1, none⟩ = some (.int .i64 a0_1) ∧ w'.cell? ⟨gb172, 2, none⟩ = some (.slice A0_2 l0_2.length c0_2) ∧ w'.cell? ⟨gb172, 3, none⟩ = some (.slice A0_3 l0_3.length c0_3) ∧ w'.cell? ⟨gb172, 4, none⟩ = some (.int .i64 a0_4) ∧ w'.cell? ⟨gb172, 5, none⟩ = some (.int .i64 a0_5)) (ds := []) #[false, false, false, false, false, false, false, false, false, false, false, false, false, false, false, false, false] (by kernel_rfl) rfl rfl ⟨(blk_cell BK172.out 0).trans rfl, (blk_cell BK172.out 1).trans rfl, (blk_cell BK172.out 2).trans rfl, (blk_cell BK172.out 3).trans rfl, (blk_cell BK172.out 4).trans rfl, (blk_cell BK172.out 5).trans rfl⟩ (fun hHeld => ?_); refine with_tabW selvedgeref08_Bytes.tab10 selvedgeref08_Bytes.bits10 (fun HT_ HW_ => ?_)
    generalize wr.drew = w27 at HO_7 BK172 HB hHeld ⊢
    refine pure_ (i := 0) (N := some 37) (v := ?_) (a' := ?_) #[true, false, false, false, false, false, false, false, false, false, false, false, false, false, false, false, false] rfl rfl (any_of HT_.out (by kernel_rfl)) (fun _ _ _ h => h) (Or.inl ⟨by rfl, ?_⟩) ?_ ?_
    rotate_left
    ·
     intro w'
     go_simp
     with_reducible rfl
    rotate_left
    ·
     simp only [Act.put, List.setIfInBounds_toArray, List.set_cons_zero, List.set_cons_succ, i64_w, i32_w]
     rfl
    refine pure_ (i := 4) (N := some 41) (v := ?_) (a' := ?_) #[true, false, false, false, true, false, false, false, false, false, false, false, false, false, false, false, false] rfl rfl (any_of HT_.out (by kernel_rfl)) (fun _ _ _ h => h) (Or.inl ⟨by rfl, ?_⟩) ?_ ?_
    rotate_left
    ·
     intro w'
     go_simp
     with_reducible rfl
    rotate_left
    ·
     simp only [Act.put, List.setIfInBounds_toArray, List.set_cons_zero, List.set_cons_succ, i64_w, i32_w]
     rfl
    refine pure_ (i := 9) (N := some 46) (v := ?_) (a' := ?_) #[true, false, false, false, true, false, false, false, false, true, false, false, false, false, false, false, false] rfl rfl (any_of HT_.out (by kernel_rfl)) (fun _ _ _ h => h) (Or.inl ⟨by rfl, ?_⟩) ?_ ?_
    rotate_left
    ·
     intro w'
     go_simp
     with_reducible rfl
    rotate_left
    ·
     simp only [Act.put, List.setIfInBounds_toArray, List.set_cons_zero, List.set_cons_succ, i64_w, i32_w]
     rfl
    refine pure_ (i := 12) (N := some 49) (v := ?_) (a' := ?_) #[true, false, false, false, true, false, false, false, false, true, false, false, true, false, false, false, false] rfl rfl (any_of HT_.out (by kernel_rfl)) (fun _ _ _ h => h) (Or.inl ⟨by rfl, ?_⟩) ?_ ?_
    rotate_left
    ·
     intro w'
     go_simp
     with_reducible rfl
    rotate_left
    ·
     simp only [Act.put, List.setIfInBounds_toArray, List.set_cons_zero, List.set_cons_succ, i64_w, i32_w]
     rfl
    refine take_ (i := 1) (N := some 38) (v := ?_) (a' := ?_) #[true, true, false, false, true, false, false, false, false, true, false, false, true, false, false, false, false] rfl rfl (take_ofW HT_.out HW_.out (by kernel_rfl)) (fun _ _ _ h => h) (Or.inl ⟨by rfl, ?_⟩) hHeld ?_ ?_
    rotate_left
    ·
     rintro w' ⟨s0, s1, s2, s3, s4, s5⟩
     go_simp
     with_reducible rfl
    rotate_left
    ·
     simp only [Act.put, List.setIfInBounds_toArray, List.set_cons_zero, List.set_cons_succ, i64_w, i32_w]
     rfl
    refine pure_ (i := 2) (N := some 39) (v := ?_) (a' := ?_) #[true, true, true, false, true, false, false, false, false, true, false, false, true, false, false, false, false] rfl rfl (any_of HT_.out (by kernel_rfl)) (fun _ _ _ h => h) (Or.inl ⟨by rfl, ?_⟩) ?_ ?_
    rotate_left
    ·
     intro w'
     go_simp
     with_reducible rfl
    rotate_left
    ·
     simp only [Act.put, List.setIfInBounds_toArray, List.set_cons_zero, List.set_cons_succ, i64_w, i32_w]
     rfl
    refine take_ (i := 5) (N := some 42) (v := ?_) (a' := ?_) #[true, true, true, false, true, true, false, false, false, true, false, false, true, false, false, false, false] rfl rfl (take_ofW HT_.out HW_.out (by kernel_rfl)) (fun _ _ _ h => h) (Or.inl ⟨by rfl, ?_⟩) hHeld ?_ ?_
    rotate_left
    ·
     rintro w' ⟨s0, s1, s2, s3, s4, s5⟩
     go_simp
     with_reducible rfl
    rotate_left
    ·
     simp only [Act.put, List.setIfInBounds_toArray, List.set_cons_zero, List.set_cons_succ, i64_w, i32_w]
     rfl
    refine pure_ (i := 6) (N := some 43) (v := ?_) (a' := ?_) #[true, true, true, false, true, true, true, false, false, true, false, false, true, false, false, false, false] rfl rfl (any_of HT_.out (by kernel_rfl)) (fun _ _ _ h => h) (Or.inl ⟨by rfl, ?_⟩) ?_ ?_
    rotate_left
    ·
     intro w'
     go_simp
     with_reducible rfl
    rotate_left
    ·
     simp only [Act.put, List.setIfInBounds_toArray, List.set_cons_zero, List.set_cons_succ, i64_w, i32_w]
     rfl
    refine take_ (i := 13) (N := some 50) (v := ?_) (a' := ?_) #[true, true, true, false, true, true, true, false, false, true, false, false, true, true, false, false, false] rfl rfl (take_ofW HT_.out HW_.out (by kernel_rfl)) (fun _ _ _ h => h) (Or.inl ⟨by rfl, ?_⟩) hHeld ?_ ?_
    rotate_left
    ·
     rintro w' ⟨s0, s1, s2, s3, s4, s5⟩
     go_simp
     with_reducible rfl
    rotate_left
    ·
     simp only [Act.put, List.setIfInBounds_toArray, List.set_cons_zero, List.set_cons_succ, i64_w, i32_w]
     rfl
    refine one_ (i := 3) (N := some 40) #[true, true, true, true, true, true, true, false, false, true, false, false, true, true, false, false, false] rfl rfl (one_of HT_.out (by kernel_rfl)) (by decide) (fun K hK => ?_)
    refine goes_ Try.func105 (by kernel_rfl) rfl #[.int .u64 (IntKind.u64.wrap (a0_0))] (by rfl) rfl rfl (by (try simp only [List.map_toArray, List.map_cons, List.map_nil]); first | done | rfl | (simp only [List.length_drop, List.length_take]; rfl)) ?_
    with_reducible refine (selvedgeref01_Num.calls (IntKind.u64.wrap (a0_0)) t180 _ A15.out).mono ?_
    rintro e w28 ⟨rfl, hb⟩
    refine ⟨_, rfl, ?_⟩
    replace HO_7 := tRb HO_7 hb
    replace BK172 := tBb BK172 hb
    replace HB := tHb HB hb
    (try clear hb)
    (try clear hb2)
    (try clear hk)
    (try clear hi)
    refine hK.out _ _ ⟨(blk_cell BK172.out 0).trans rfl, (blk_cell BK172.out 1).trans rfl, (blk_cell BK172.out 2).trans rfl, (blk_cell BK172.out 3).trans rfl, (blk_cell BK172.out 4).trans rfl, (blk_cell BK172.out 5).trans rfl⟩ (fun hHeld => ?_)
    clear hK K
    refine norm_ (a' := ?_) ?_ ?_
    rotate_left
    ·
     show Act.put _ (some 40) _ = _
     simp only [Act.put, List.setIfInBounds_toArray, List.set_cons_zero, List.set_cons_succ, i64_w, i32_w]
     rfl
    refine one_ (i := 7) (N := some 44) #[true, true, true, true, true, true, true, true, false, true, false, false, true, true, false, false, false] rfl rfl (one_of HT_.out (by kernel_rfl)) (by decide) (fun K hK => ?_)
    refine goes_ Try.func105 (by kernel_rfl) rfl #[.int .u64 (IntKind.u64.wrap (a0_1))] (by rfl) rfl rfl (by (try simp only [List.map_toArray, List.map_cons, List.map_nil]); first | done | rfl | (simp only [List.length_drop, List.length_take]; rfl)) ?_
    with_reducible refine (selvedgeref01_Num.calls (IntKind.u64.wrap (a0_1)) t181 _ A16.out).mono ?_
    rintro e w29 ⟨rfl, hb⟩
    refine ⟨_, rfl, ?_⟩
    replace HO_7 := tRb HO_7 hb
    replace BK172 := tBb BK172 hb
    replace HB := tHb HB hb
    (try clear hb)
    (try clear hb2)
    (try clear hk)
    (try clear hi)
    obtain ⟨Ao30, co30, eo30⟩ := Kd.R_slice HO_7.out
    (first | subst eo30 | (injection eo30 with f1_ f2_ f3_; have f4_ := f1_.symm; have f5_ := f3_.symm; clear f1_ f2_ f3_; subst f4_; subst f5_))
    refine hK.out _ _ ⟨(blk_cell BK172.out 0).trans rfl, (blk_cell BK172.out 1).trans rfl, (blk_cell BK172.out 2).trans rfl, (blk_cell BK172.out 3).trans rfl, (blk_cell BK172.out 4).trans rfl, (blk_cell BK172.out 5).trans rfl⟩ (fun hHeld => ?_)
    clear hK K
    refine norm_ (a' := ?_) ?_ ?_
    rotate_left
    ·
     show Act.put _ (some 44) _ = _
     simp only [Act.put, List.setIfInBounds_toArray, List.set_cons_zero, List.set_cons_succ, i64_w, i32_w]
     rfl
    refine pure_ (i := 8) (N := some 45) (v := ?_) (a' := ?_) #[true, true, true, true, true, true, true, true, true, true, false, false, true, true, false, false, false] rfl rfl (any_of HT_.out (by kernel_rfl)) (fun _ _ _ h => h) (Or.inl ⟨by rfl, ?_⟩) ?_ ?_
    rotate_left
    ·
     intro w'
     go_simp
     with_reducible rfl
    rotate_left
    ·
     simp only [Act.put, List.setIfInBounds_toArray, List.set_cons_zero, List.set_cons_succ, i64_w, i32_w]
     rfl
    refine one_ (i := 10) (N := some 47) #[true, true, true, true, true, true, true, true, true, true, true, false, true, true, false, false, false] rfl rfl (one_of HT_.out (by kernel_rfl)) (by decide) (fun K hK => ?_)
    refine goes_ Try.func106 (by kernel_rfl) rfl #[.slice Ao30 x7_1.length co30] (by rfl) rfl rfl (by (try simp only [List.map_toArray, List.map_cons, List.map_nil]); first | done | rfl | (simp only [List.length_drop, List.length_take]; rfl)) ?_
    with_reducible refine (selvedgeref01_Row.calls _ _ x7_1 t182 _ ?side1 ?side2 A18.out).mono ?_
    (case side1 => repeat (first | exact (Kd.R_reads' HO_7.out).2.2 | (with_reducible refine Kd.C_alloc ?_ _) | (with_reducible refine Kd.C_drewN ?_ _) | (with_reducible refine Kd.C_drew ?_)))
    (case side2 => exact (Kd.R_reads' HO_7.out).2.1)
    rintro e w31 ⟨rfl, hb⟩
    refine ⟨_, rfl, ?_⟩
    replace HO_7 := tRb HO_7 hb
    replace BK172 := tBb BK172 hb
    replace HB := tHb HB hb
    (try clear hb)
    (try clear hb2)
    (try clear hk)
    (try clear hi)
    refine hK.out _ _ ⟨(blk_cell BK172.out 0).trans rfl, (blk_cell BK172.out 1).trans rfl, (blk_cell BK172.out 2).trans rfl, (blk_cell BK172.out 3).trans rfl, (blk_cell BK172.out 4).trans rfl, (blk_cell BK172.out 5).trans rfl⟩ (fun hHeld => ?_)
    clear hK K
    refine norm_ (a' := ?_) ?_ ?_
    rotate_left
    ·
     show Act.put _ (some 47) _ = _
     simp only [Act.put, List.setIfInBounds_toArray, List.set_cons_zero, List.set_cons_succ, i64_w, i32_w]
     rfl
    refine pure_ (i := 11) (N := some 48) (v := ?_) (a' := ?_) #[true, true, true, true, true, true, true, true, true, true, true, true, true, true, false, false, false] rfl rfl (any_of HT_.out (by kernel_rfl)) (fun _ _ _ h => h) (Or.inl ⟨by rfl, ?_⟩) ?_ ?_
    rotate_left
    ·
     intro w'
     go_simp
     with_reducible rfl
    rotate_left
    ·
     simp only [Act.put, List.setIfInBounds_toArray, List.set_cons_zero, List.set_cons_succ, i64_w, i32_w]
     rfl
    refine one_ (i := 14) (N := some 51) #[true, true, true, true, true, true, true, true, true, true, true, true, true, true, true, false, false] rfl rfl (one_of HT_.out (by kernel_rfl)) (by decide) (fun K hK => ?_)
    refine goes_ Try.func106 (by kernel_rfl) rfl #[.slice A0_3 l0_3.length c0_3] (by rfl) rfl rfl (by (try simp only [List.map_toArray, List.map_cons, List.map_nil]); first | done | rfl | (simp only [List.length_drop, List.length_take]; rfl)) ?_
    with_reducible refine (selvedgeref01_Row.calls _ _ l0_3 t183 _ ?side1 ?side2 A20.out).mono ?_
    (case side1 => exact gCB HR0_3 HB)
    (case side2 => exact HC0_3.out)
    rintro e w32 ⟨rfl, hb⟩
    refine ⟨_, rfl, ?_⟩
    replace HO_7 := tRb HO_7 hb
    replace BK172 := tBb BK172 hb
    replace HB := tHb HB hb
    (try clear hb)
    (try clear hb2)
    (try clear hk)
    (try clear hi)
    refine hK.out _ _ ⟨(blk_cell BK172.out 0).trans rfl, (blk_cell BK172.out 1).trans rfl, (blk_cell BK172.out 2).trans rfl, (blk_cell BK172.out 3).trans rfl, (blk_cell BK172.out 4).trans rfl, (blk_cell BK172.out 5).trans rfl⟩ (fun hHeld => ?_)
    clear hK K
    refine norm_ (a' := ?_) ?_ ?_
    rotate_left
    ·
     show Act.put _ (some 51) _ = _
     simp only [Act.put, List.setIfInBounds_toArray, List.set_cons_zero, List.set_cons_succ, i64_w, i32_w]
     rfl
    refine pure_ (i := 15) (N := some 52) (v := ?_) (a' := ?_) #[true, true, true, true, true, true, true, true, true, true, true, true, true, true, true, true, false] rfl rfl (any_of HT_.out (by kernel_rfl)) (fun _ _ _ h => h) (Or.inl ⟨by rfl, ?_⟩) ?_ ?_
    rotate_left
    ·
     intro w'
     go_simp
     with_reducible rfl
    rotate_left
    ·
     simp only [Act.put, List.setIfInBounds_toArray, List.set_cons_zero, List.set_cons_succ, i64_w, i32_w]
     rfl
    refine pure_ (i := 16) (N := some 11) (v := ?_) (a' := ?_) #[true, true, true, true, true, true, true, true, true, true, true, true, true, true, true, true, true] rfl rfl (any_of HT_.out (by kernel_rfl)) (fun _ _ _ h => h) (Or.inl ⟨by rfl, ?_⟩) ?_ ?_
    rotate_left
    ·
     intro w'
     go_simp
     with_reducible rfl
    rotate_left
    ·
     simp only [Act.put, List.setIfInBounds_toArray, List.set_cons_zero, List.set_cons_succ, i64_w, i32_w]
     rfl
    refine done_ (done_of HT_.out (by kernel_rfl)) ?_
    try go_wp2
    replace HO_7 := am_ (Kd.R_drew HO_7.out)
    replace BK172 := am_ (blk_drew BK172.out)
    replace HB := am_ (below_drew1 HB.out)
    refine start_ (n := 15) (S := fun w' => w'.cell? ⟨gb172, 0, none⟩ = some (.int .i64 a0_0) ∧ w'.cell? ⟨gb172, 1, none⟩ = some (.int .i64 a0_1) ∧ w'.cell? ⟨gb172, 2, none⟩ = some (.slice A0_2 l0_2.length c0_2) ∧ w'.cell? ⟨gb172, 3, none⟩ = some (.slice A0_3 l0_3.length c0_3) ∧ w'.cell? ⟨gb172, 4, none⟩ = some (.int .i64 a0_4) ∧ w'.cell? ⟨gb172, 5, none⟩ = some (.int .i64 a0_5)) (ds := []) #[false, false, false, false, false, false, false, false, false, false, false, false, false, false, false] (by kernel_rfl) rfl rfl ⟨(blk_cell BK172.out 0).trans rfl, (blk_cell BK172.out 1).trans rfl, (blk_cell BK172.out 2).trans rfl, (blk_cell BK172.out 3).trans rfl, (blk_cell BK172.out 4).trans rfl, (blk_cell BK172.out 5).trans rfl⟩ (fun hHeld => ?_); refine with_tabW selvedgeref08_Bytes.tab11 selvedgeref08_Bytes.bits11 (fun HT_ HW_ => ?_)
    generalize w32.drew = w33 at HO_7 BK172 HB hHeld ⊢
    refine pure_ (i := 0) (N := some 53) (v := ?_) (a' := ?_) #[true, false, false, false, false, false, false, false, false, false, false, false, false, false, false] rfl rfl (any_of HT_.out (by kernel_rfl)) (fun _ _ _ h => h) (Or.inl ⟨by rfl, ?_⟩) ?_ ?_
    rotate_left
    ·
     intro w'
     go_simp
     with_reducible rfl
    rotate_left
    ·
     simp only [Act.put, List.setIfInBounds_toArray, List.set_cons_zero, List.set_cons_succ, i64_w, i32_w]
     rfl
    refine pure_ (i := 1) (N := some 54) (v := ?_) (a' := ?_) #[true, true, false, false, false, false, false, false, false, false, false, false, false, false, false] rfl rfl (any_of HT_.out (by kernel_rfl)) (fun _ _ _ h => h) (Or.inl ⟨by rfl, ?_⟩) ?_ ?_
    rotate_left
    ·
     intro w'
     go_simp
     with_reducible rfl
    rotate_left
    ·
     simp only [Act.put, List.setIfInBounds_toArray, List.set_cons_zero, List.set_cons_succ, i64_w, i32_w]
     rfl
    refine pure_ (i := 2) (N := some 55) (v := ?_) (a' := ?_) #[true, true, true, false, false, false, false, false, false, false, false, false, false, false, false] rfl rfl (any_of HT_.out (by kernel_rfl)) (fun _ _ _ h => h) (Or.inl ⟨by rfl, ?_⟩) ?_ ?_
    rotate_left
    ·
     intro w'
     go_simp
     with_reducible rfl
    rotate_left
    ·
     simp only [Act.put, List.setIfInBounds_toArray, List.set_cons_zero, List.set_cons_succ, i64_w, i32_w]
     rfl
    refine pure_ (i := 7) (N := some 60) (v := ?_) (a' := ?_) #[true, true, true, false, false, false, false, true, false, false, false, false, false, false, false] rfl rfl (any_of HT_.out (by kernel_rfl)) (fun _ _ _ h => h) (Or.inl ⟨by rfl, ?_⟩) ?_ ?_
    rotate_left
    ·
     intro w'
     go_simp
     with_reducible rfl
    rotate_left
    ·
     simp only [Act.put, List.setIfInBounds_toArray, List.set_cons_zero, List.set_cons_succ, i64_w, i32_w]
     rfl
    refine pure_ (i := 8) (N := some 61) (v := ?_) (a' := ?_) #[true, true, true, false, false, false, false, true, true, false, false, false, false, false, false] rfl rfl (any_of HT_.out (by kernel_rfl)) (fun _ _ _ h => h) (Or.inl ⟨by rfl, ?_⟩) ?_ ?_
    rotate_left
    ·
     intro w'
     go_simp
     with_reducible rfl
    rotate_left
    ·
     simp only [Act.put, List.setIfInBounds_toArray, List.set_cons_zero, List.set_cons_succ, i64_w, i32_w]
     rfl
    refine take_ (i := 3) (N := some 56) (v := ?_) (a' := ?_) #[true, true, true, true, false, false, false, true, true, false, false, false, false, false, false] rfl rfl (take_ofW HT_.out HW_.out (by kernel_rfl)) (fun _ _ _ h => h) (Or.inl ⟨by rfl, ?_⟩) hHeld ?_ ?_
    rotate_left
    ·
     rintro w' ⟨s0, s1, s2, s3, s4, s5⟩
     go_simp
     with_reducible rfl
    rotate_left
    ·
     simp only [Act.put, List.setIfInBounds_toArray, List.set_cons_zero, List.set_cons_succ, i64_w, i32_w]
     rfl
    refine pure_ (i := 4) (N := some 57) (v := ?_) (a' := ?_) #[true, true, true, true, true, false, false, true, true, false, false, false, false, false, false] rfl rfl (any_of HT_.out (by kernel_rfl)) (fun _ _ _ h => h) (Or.inl ⟨by rfl, ?_⟩) ?_ ?_
    rotate_left
    ·
     intro w'
     go_simp
     with_reducible rfl
    rotate_left
    ·
     simp only [Act.put, List.setIfInBounds_toArray, List.set_cons_zero, List.set_cons_succ, i64_w, i32_w]
     rfl
    refine take_ (i := 9) (N := some 62) (v := ?_) (a' := ?_) #[true, true, true, true, true, false, false, true, true, true, false, false, false, false, false] rfl rfl (take_ofW HT_.out HW_.out (by kernel_rfl)) (fun _ _ _ h => h) (Or.inl ⟨by rfl, ?_⟩) hHeld ?_ ?_
    rotate_left
    ·
     rintro w' ⟨s0, s1, s2, s3, s4, s5⟩
     go_simp
     with_reducible rfl
    rotate_left
    ·
     simp only [Act.put, List.setIfInBounds_toArray, List.set_cons_zero, List.set_cons_succ, i64_w, i32_w]
     rfl
    refine pure_ (i := 10) (N := some 63) (v := ?_) (a' := ?_) #[true, true, true, true, true, false, false, true, true, true, true, false, false, false, false] rfl rfl (any_of HT_.out (by kernel_rfl)) (fun _ _ _ h => h) (Or.inl ⟨by rfl, ?_⟩) ?_ ?_
    rotate_left
    ·
     intro w'
     go_simp
     with_reducible rfl
    rotate_left
    ·
     simp only [Act.put, List.setIfInBounds_toArray, List.set_cons_zero, List.set_cons_succ, i64_w, i32_w]
     rfl
    refine one_ (i := 5) (N := some 58) #[true, true, true, true, true, true, false, true, true, true, true, false, false, false, false] rfl rfl (one_of HT_.out (by kernel_rfl)) (by decide) (fun K hK => ?_)
    refine goes_ Try.func105 (by kernel_rfl) rfl #[.int .u64 (IntKind.u64.wrap (a0_4))] (by rfl) rfl rfl (by (try simp only [List.map_toArray, List.map_cons, List.map_nil]); first | done | rfl | (simp only [List.length_drop, List.length_take]; rfl)) ?_
    with_reducible refine (selvedgeref01_Num.calls (IntKind.u64.wrap (a0_4)) t184 _ A22.out).mono ?_
    rintro e w34 ⟨rfl, hb⟩
    refine ⟨_, rfl, ?_⟩
    replace HO_7 := tRb HO_7 hb
    replace BK172 := tBb BK172 hb
    replace HB := tHb HB hb
    (try clear hb)
    (try clear hb2)
    (try clear hk)
    (try clear hi)
    refine hK.out _ _ ⟨(blk_cell BK172.out 0).trans rfl, (blk_cell BK172.out 1).trans rfl, (blk_cell BK172.out 2).trans rfl, (blk_cell BK172.out 3).trans rfl, (blk_cell BK172.out 4).trans rfl, (blk_cell BK172.out 5).trans rfl⟩ (fun hHeld => ?_)
    clear hK K
    refine norm_ (a' := ?_) ?_ ?_
    rotate_left
    ·
     show Act.put _ (some 58) _ = _
     simp only [Act.put, List.setIfInBounds_toArray, List.set_cons_zero, List.set_cons_succ, i64_w, i32_w]
     rfl
    refine pure_ (i := 6) (N := some 59) (v := ?_) (a' := ?_) #[true, true, true, true, true, true, true, true, true, true, true, false, false, false, false] rfl rfl (any_of HT_.out (by kernel_rfl)) (fun _ _ _ h => h) (Or.inl ⟨by rfl, ?_⟩) ?_ ?_
    rotate_left
    ·
     intro w'
     go_simp
     with_reducible rfl
    rotate_left
    ·
     simp only [Act.put, List.setIfInBounds_toArray, List.set_cons_zero, List.set_cons_succ, i64_w, i32_w]
     rfl
    refine one_ (i := 11) (N := some 64) #[true, true, true, true, true, true, true, true, true, true, true, true, false, false, false] rfl rfl (one_of HT_.out (by kernel_rfl)) (by decide) (fun K hK => ?_)
    refine goes_ Try.func105 (by kernel_rfl) rfl #[.int .u64 (IntKind.u64.wrap (a0_5))] (by rfl) rfl rfl (by (try simp only [List.map_toArray, List.map_cons, List.map_nil]); first | done | rfl | (simp only [List.length_drop, List.length_take]; rfl)) ?_
    with_reducible refine (selvedgeref01_Num.calls (IntKind.u64.wrap (a0_5)) t185 _ A24.out).mono ?_
    rintro e w35 ⟨rfl, hb⟩
    refine ⟨_, rfl, ?_⟩
    replace HO_7 := tRb HO_7 hb
    replace BK172 := tBb BK172 hb
    replace HB := tHb HB hb
    (try clear hb)
    (try clear hb2)
    (try clear hk)
    (try clear hi)
    refine hK.out _ _ ⟨(blk_cell BK172.out 0).trans rfl, (blk_cell BK172.out 1).trans rfl, (blk_cell BK172.out 2).trans rfl, (blk_cell BK172.out 3).trans rfl, (blk_cell BK172.out 4).trans rfl, (blk_cell BK172.out 5).trans rfl⟩ (fun hHeld => ?_)
    clear hK K
    refine norm_ (a' := ?_) ?_ ?_
    rotate_left
    ·
     show Act.put _ (some 64) _ = _
     simp only [Act.put, List.setIfInBounds_toArray, List.set_cons_zero, List.set_cons_succ, i64_w, i32_w]
     rfl
    refine pure_ (i := 12) (N := some 65) (v := ?_) (a' := ?_) #[true, true, true, true, true, true, true, true, true, true, true, true, true, false, false] rfl rfl (any_of HT_.out (by kernel_rfl)) (fun _ _ _ h => h) (Or.inl ⟨by rfl, ?_⟩) ?_ ?_
    rotate_left
    ·
     intro w'
     go_simp
     with_reducible rfl
    rotate_left
    ·
     simp only [Act.put, List.setIfInBounds_toArray, List.set_cons_zero, List.set_cons_succ, i64_w, i32_w]
     rfl
    refine pure_ (i := 13) (N := some 4) (v := ?_) (a' := ?_) #[true, true, true, true, true, true, true, true, true, true, true, true, true, true, false] rfl rfl (any_of HT_.out (by kernel_rfl)) (fun _ _ _ h => h) (Or.inl ⟨by rfl, ?_⟩) ?_ ?_
    rotate_left
    ·
     intro w'
     go_simp
     with_reducible rfl
    rotate_left
    ·
     simp only [Act.put, List.setIfInBounds_toArray, List.set_cons_zero, List.set_cons_succ, i64_w, i32_w]
     rfl
    refine pure_ (i := 14) (N := some 5) (v := ?_) (a' := ?_) #[true, true, true, true, true, true, true, true, true, true, true, true, true, true, true] rfl rfl (any_of HT_.out (by kernel_rfl)) (fun _ _ _ h => h) (Or.inl ⟨by rfl, ?_⟩) ?_ ?_
    rotate_left
    ·
     intro w'
     go_simp
     with_reducible rfl
    rotate_left
    ·
     simp only [Act.put, List.setIfInBounds_toArray, List.set_cons_zero, List.set_cons_succ, i64_w, i32_w]
     rfl
    refine done_ (done_of HT_.out (by kernel_rfl)) ?_
    try go_wp2
    go_ret2
    exact ⟨by first | rfl | (simp [errW_none, errW_some] <;> rfl) | (simp [*, errW_none, errW_some] <;> rfl), bh HB⟩
 replace c4 := Bool.eq_false_iff.mpr c4
 subst c4
 have H1 : (some ((⟨#[]⟩ : ByteArray), 1)) = some (r1, r2) := by rw [if_neg (show ¬ (false = true) by decide)] at H; exact H
 clear H
 have H := H1
 clear H1
 simp only [Option.some.injEq, Prod.mk.injEq] at H
 obtain ⟨rfl, rfl⟩ := H
 go_enter Try.func87, Try.ntmps87
 go_wp2_with (first | ((with_reducible refine gate_dst (N := 2) rfl ?_); refine box_event ?hg (N := 2) ?hd (cs := #[.int .i64 a0_0, .int .i64 a0_1, .slice A0_2 l0_2.length c0_2, .slice A0_3 l0_3.length c0_3, .int .i64 a0_4, .int .i64 a0_5]) (t := 35) ?hr ?_; (case hd => rfl); (case hg => rfl); (case hr => first | (go_simp; done) | (go_simp; rfl)); intro gb172 hg w36 hbox hb; have BK172 := am_ hbox; have GW172 := tG HB hg; have GE172 := tG HB hg; replace HB := tHb HB hb; clear hb hbox hg; obtain ⟨hcz37_0, hcz37_1, hcz37_2, hcz37_3, hcz37_4, hcz37_5, hfz37_0, hfz37_1, hfz37_2, hfz37_3, hfz37_4, hfz37_5⟩ := bx6 BK172) | ((with_reducible refine gate_callee (f := 103) rfl ?_); refine goesL_ (some 14) rfl rfl Try.func103 (by kernel_rfl) rfl #[.agg #[.int .i64 a0_0, .int .i64 a0_1, .slice A0_2 l0_2.length c0_2, .slice A0_3 l0_3.length c0_3, .int .i64 a0_4, .int .i64 a0_5], .int .i64 a1] rfl (by (try simp only [List.map_toArray, List.map_cons, List.map_nil]); first | done | rfl | (simp only [List.length_drop, List.length_take]; rfl)) ?_; (with_reducible refine (selvedgeref08_May.calls k a0_0 a0_1 _ _ l0_2 _ _ l0_3 a0_4 a0_5 a1 false _ ?side1 ?side2 ?side3 ?side4 A3.out).mono ?_); (case side1 => exact gCB HR0_2 HB); (case side2 => exact HC0_2.out); (case side3 => exact gCB HR0_3 HB); (case side4 => exact HC0_3.out); rintro e w38 ⟨rfl, hb⟩; refine ⟨_, rfl, ?_⟩; replace BK172 := tBb BK172 hb; replace HB := tHb HB hb; (try clear hb); (try clear hb2); (try clear hk); (try clear hi)))
 go_ret2
 exact ⟨by first | rfl | (simp [errW_none, errW_some] <;> rfl) | (simp [*, errW_none, errW_some] <;> rfl), bh HB⟩

def selvedgeref02_Sum.f (a0 : ByteArray) : Option ByteArray := if a0.size ≤ 140737488351232 then some (Sm.sumB a0) else none
theorem selvedgeref02_Sum.calls (a0 : ByteArray) (r : ByteArray) (w : World) (h : selvedgeref02_Sum.f a0 = some r) :
  Calls Try.prog 88 #[.string a0] w fun e w' => e = .returned (.string r) ∧ Below w.heap.size w w' := by
 unfold selvedgeref02_Sum.f at h
 by_cases hs : a0.size ≤ 140737488351232
 ·
  rw [if_pos hs] at h
  obtain rfl := Option.some.inj h
  exact Sa.rsum_c a0 hs w
 rw [if_neg hs] at h; cases h

def selvedgeref08_Digest.f (k : Nat) (a0_0 : Int) (a0_1 : Int) (l0_2 : List (S129)) (l0_3 : List ByteArray) (a0_4 : Int) (a0_5 : Int) (a1 : Int) : Option (ByteArray × Int) := (selvedgeref08_Bytes.f k a0_0 a0_1 l0_2 l0_3 a0_4 a0_5 a1).bind fun bt187 => (if bt187.2 = 0 then (if 1 + bt187.1.size ≤ 9223372036854775807 then ((selvedgeref02_Sum.f ((⟨#[118]⟩ : ByteArray) ++ bt187.1)).bind fun t189 => (some (t189, 0))) else (none)) else (some ((⟨#[]⟩ : ByteArray), bt187.2)))
set_option maxHeartbeats 8000000 in
set_option maxRecDepth 100000 in
theorem selvedgeref08_Digest.calls (k : Nat) (a0_0 : Int) (a0_1 : Int) (A0_2 : Option Addr) (c0_2 : Nat) (l0_2 : List (S129)) (A0_3 : Option Addr) (c0_3 : Nat) (l0_3 : List ByteArray) (a0_4 : Int) (a0_5 : Int) (a1 : Int) (r1 : ByteArray) (r2 : Int) (w : World) (hr0_2 : Kd.C k129 w A0_2 l0_2.length l0_2) (hc0_2 : l0_2.length ≤ c0_2) (hr0_3 : Kd.C Kd.string w A0_3 l0_3.length l0_3) (hc0_3 : l0_3.length ≤ c0_3) (h : selvedgeref08_Digest.f k a0_0 a0_1 l0_2 l0_3 a0_4 a0_5 a1 = some (r1, r2)) :
  Calls Try.prog 59 #[.agg #[.int .i64 a0_0, .int .i64 a0_1, .slice A0_2 l0_2.length c0_2, .slice A0_3 l0_3.length c0_3, .int .i64 a0_4, .int .i64 a0_5], .int .i64 a1] w fun e w' => e = .returned (.tuple #[.string r1, .int .i64 r2]) ∧ Below w.heap.size w w' := by
 have hu35 := Try.underlying35
 have HR0_2 := am_ hr0_2
 have HC0_2 := am_ hc0_2
 clear hr0_2 hc0_2
 have HR0_3 := am_ hr0_3
 have HC0_3 := am_ hc0_3
 clear hr0_3 hc0_3
 have HB := am_ (Below.refl w.heap.size w)
 have H : ((selvedgeref08_Bytes.f k a0_0 a0_1 l0_2 l0_3 a0_4 a0_5 a1).bind fun bt187 => (if bt187.2 = 0 then (if 1 + bt187.1.size ≤ 9223372036854775807 then ((selvedgeref02_Sum.f ((⟨#[118]⟩ : ByteArray) ++ bt187.1)).bind fun t189 => (some (t189, 0))) else (none)) else (some ((⟨#[]⟩ : ByteArray), bt187.2)))) = some (r1, r2) := h
 clear h
 replace H := Option.bind_eq_some_iff.mp H
 obtain ⟨⟨t187, t188⟩, A30, H⟩ := H
 replace H : (if t188 = 0 then (if 1 + t187.size ≤ 9223372036854775807 then ((selvedgeref02_Sum.f ((⟨#[118]⟩ : ByteArray) ++ t187)).bind fun t189 => (some (t189, 0))) else (none)) else (some ((⟨#[]⟩ : ByteArray), t188))) = some (r1, r2) := H
 have A3 := am_ A30
 clear A30
 by_cases c4 : t188 = 0
 ·
  rw [if_pos c4] at H
  have c4b0 : (t188 == 0) = true := beq_iff_eq.mpr c4
  have c4b1 : (t188 != 0) = false := bne_eq_false_iff_eq.mpr c4
  clear c4
  revert H
  refine gi' (fun c5 H => ?_)
  have c5b0 := eq_true c5
  have c5b1 : decide (1 + t187.size ≤ 9223372036854775807) = true := decide_eq_true c5
  try have c5b2 : (9223372036854775807 < 1 + t187.size) = False := eq_false (Nat.not_lt.2 c5)
  replace H := Option.bind_eq_some_iff.mp H
  obtain ⟨t189, A60, H⟩ := H
  replace H : (some (t189, 0)) = some (r1, r2) := H
  have A6 := am_ A60
  clear A60
  simp only [Option.some.injEq, Prod.mk.injEq] at H
  obtain ⟨rfl, rfl⟩ := H
  go_enter Try.func59, Try.ntmps59
  go_wp2_with (first | ((with_reducible refine gate_dst (N := 2) rfl ?_); refine box_event ?hg (N := 2) ?hd (cs := #[.int .i64 a0_0, .int .i64 a0_1, .slice A0_2 l0_2.length c0_2, .slice A0_3 l0_3.length c0_3, .int .i64 a0_4, .int .i64 a0_5]) (t := 35) ?hr ?_; (case hd => rfl); (case hg => rfl); (case hr => first | (go_simp; done) | (go_simp; rfl)); intro gb186 hg w7 hbox hb; have BK186 := am_ hbox; have GW186 := tG HB hg; have GE186 := tG HB hg; replace HB := tHb HB hb; clear hb hbox hg; obtain ⟨hcz8_0, hcz8_1, hcz8_2, hcz8_3, hcz8_4, hcz8_5, hfz8_0, hfz8_1, hfz8_2, hfz8_3, hfz8_4, hfz8_5⟩ := bx6 BK186) | ((with_reducible refine gate_callee (f := 87) rfl ?_); refine goesL_ (some 11) rfl rfl Try.func87 (by kernel_rfl) rfl #[.agg #[.int .i64 a0_0, .int .i64 a0_1, .slice A0_2 l0_2.length c0_2, .slice A0_3 l0_3.length c0_3, .int .i64 a0_4, .int .i64 a0_5], .int .i64 a1] rfl (by (try simp only [List.map_toArray, List.map_cons, List.map_nil]); first | done | rfl | (simp only [List.length_drop, List.length_take]; rfl)) ?_; (with_reducible refine (selvedgeref08_Bytes.calls k a0_0 a0_1 _ _ l0_2 _ _ l0_3 a0_4 a0_5 a1 t187 t188 _ ?side1 ?side2 ?side3 ?side4 A3.out).mono ?_); (case side1 => exact gCB HR0_2 HB); (case side2 => exact HC0_2.out); (case side3 => exact gCB HR0_3 HB); (case side4 => exact HC0_3.out); rintro e w9 ⟨rfl, hb⟩; refine ⟨_, rfl, ?_⟩; replace BK186 := tBb BK186 hb; replace HB := tHb HB hb; (try clear hb); (try clear hb2); (try clear hk); (try clear hi)) | ((with_reducible refine gate_callee (f := 88) rfl ?_); refine goesL_ (some 19) rfl rfl Try.func88 (by kernel_rfl) rfl #[.string ((⟨#[118]⟩ : ByteArray) ++ t187)] rfl (by (try simp only [List.map_toArray, List.map_cons, List.map_nil]); first | done | rfl | (simp only [List.length_drop, List.length_take]; rfl)) ?_; (with_reducible refine (selvedgeref02_Sum.calls ((⟨#[118]⟩ : ByteArray) ++ t187) t189 _ A6.out).mono ?_); rintro e w10 ⟨rfl, hb⟩; refine ⟨_, rfl, ?_⟩; replace BK186 := tBb BK186 hb; replace HB := tHb HB hb; (try clear hb); (try clear hb2); (try clear hk); (try clear hi)))
  go_ret2
  exact ⟨by first | rfl | (simp [errW_none, errW_some] <;> rfl) | (simp [*, errW_none, errW_some] <;> rfl), bh HB⟩
 rw [if_neg c4] at H
 have c4b0 : (t188 == 0) = false := beq_eq_false_iff_ne.mpr c4
 have c4b1 : (t188 != 0) = true := bne_iff_ne.mpr c4
 simp only [Option.some.injEq, Prod.mk.injEq] at H
 obtain ⟨rfl, rfl⟩ := H
 go_enter Try.func59, Try.ntmps59
 go_wp2_with (first | ((with_reducible refine gate_dst (N := 2) rfl ?_); refine box_event ?hg (N := 2) ?hd (cs := #[.int .i64 a0_0, .int .i64 a0_1, .slice A0_2 l0_2.length c0_2, .slice A0_3 l0_3.length c0_3, .int .i64 a0_4, .int .i64 a0_5]) (t := 35) ?hr ?_; (case hd => rfl); (case hg => rfl); (case hr => first | (go_simp; done) | (go_simp; rfl)); intro gb186 hg w11 hbox hb; have BK186 := am_ hbox; have GW186 := tG HB hg; have GE186 := tG HB hg; replace HB := tHb HB hb; clear hb hbox hg; obtain ⟨hcz12_0, hcz12_1, hcz12_2, hcz12_3, hcz12_4, hcz12_5, hfz12_0, hfz12_1, hfz12_2, hfz12_3, hfz12_4, hfz12_5⟩ := bx6 BK186) | ((with_reducible refine gate_callee (f := 87) rfl ?_); refine goesL_ (some 11) rfl rfl Try.func87 (by kernel_rfl) rfl #[.agg #[.int .i64 a0_0, .int .i64 a0_1, .slice A0_2 l0_2.length c0_2, .slice A0_3 l0_3.length c0_3, .int .i64 a0_4, .int .i64 a0_5], .int .i64 a1] rfl (by (try simp only [List.map_toArray, List.map_cons, List.map_nil]); first | done | rfl | (simp only [List.length_drop, List.length_take]; rfl)) ?_; (with_reducible refine (selvedgeref08_Bytes.calls k a0_0 a0_1 _ _ l0_2 _ _ l0_3 a0_4 a0_5 a1 t187 t188 _ ?side1 ?side2 ?side3 ?side4 A3.out).mono ?_); (case side1 => exact gCB HR0_2 HB); (case side2 => exact HC0_2.out); (case side3 => exact gCB HR0_3 HB); (case side4 => exact HC0_3.out); rintro e w13 ⟨rfl, hb⟩; refine ⟨_, rfl, ?_⟩; replace BK186 := tBb BK186 hb; replace HB := tHb HB hb; (try clear hb); (try clear hb2); (try clear hk); (try clear hi)))
 go_ret2
 exact ⟨by first | rfl | (simp [errW_none, errW_some] <;> rfl) | (simp [*, errW_none, errW_some] <;> rfl), bh HB⟩

end Go.Proofs.Ytcbfnmabckjijaa.POrderTurns
