-- written by a program of this session (pp.py), out of the kit's print and this session's contracts
import Derived.Test.YtcbfnmabckjijaaPOrderTurnsx0
import Derived.Test.YtcbfnmabckjijaaPOrderTurnsx3
import Derived.Test.YtcbfnmabckjijaaPOrderTurnsx4
import Derived.Test.YtcbfnmabckjijaaPOrderTurnsx10
import Derived.Test.YtcbfnmabckjijaaPOrderTurnsx11
import Derived.Test.YtcbfnmabckjijaaVOrderTurnsPg
namespace Go.Proofs.Ytcbfnmabckjijaa.POrderTurns
open Go.RowKit Go.Proofs.YtcbfnmabckjijaaW.PrintWords Go.Proofs.YtcbfnmabckjijaaW.PrintLast Go.Proofs.YtcbfnmabckjijaaW.PrintMore
set_option linter.unusedVariables false
set_option linter.unusedSimpArgs false

mutual
def selvedgelaw14_OrderTurns.j0 : Nat → ByteArray → List ByteArray → Bool → Bool → Int → Int → List (S37) → Option (Bool)
 | 0, _, _, _, _, _, _, _ => none
 | k + 1, x1, x2, x7, x26, x226000, x226001, x226002 => if x26 = true then (some x7) else ((selvedgeref11_Right.f k x226000 x226001 x226002).bind fun t228 => ((selvedgeref11_Find.f k x226000 x226001 x226002 x1).bind fun bt229 => (if t228 = true then (selvedgelaw14_OrderTurns.j1 k x1 x2 (!bt229.2.2.2.2.2.2.2) x226000 x226001 x226002 bt229.1 bt229.2.1 bt229.2.2.1 bt229.2.2.2.1 bt229.2.2.2.2.1 bt229.2.2.2.2.2.1 bt229.2.2.2.2.2.2.1) else (selvedgelaw14_OrderTurns.j1 k x1 x2 true x226000 x226001 x226002 bt229.1 bt229.2.1 bt229.2.2.1 bt229.2.2.2.1 bt229.2.2.2.2.1 bt229.2.2.2.2.2.1 bt229.2.2.2.2.2.2.1))))
def selvedgelaw14_OrderTurns.j1 : Nat → ByteArray → List ByteArray → Bool → Int → Int → List (S37) → ByteArray → Int → Int → List (S129) → List ByteArray → Int → Int → Option (Bool)
 | 0, _, _, _, _, _, _, _, _, _, _, _, _, _ => none
 | k + 1, x1, x2, x41, x226000, x226001, x226002, x242000, x242001, x242002, x242003, x242004, x242005, x242006 => if x41 = true then (some true) else ((order_Behind.f k x226000 x226001 x226002 x242000 x242001 x242002 x242003 x242004 x242005 x242006 x2).bind fun bt242 => (selvedgelaw14_OrderTurns.l0 k x1 x2 bt242.1 1))
def selvedgelaw14_OrderTurns.l0 : Nat → ByteArray → List ByteArray → List (S37) → Int → Option (Bool)
 | 0, _, _, _, _ => none
 | k + 1, x1, x2, x12, x14 => if x14 < (x12.length : Int) then (if 0 ≤ (wrap64 (x14 - 1)) then (if (wrap64 (x14 - 1)) < (x12.length : Int) then (if 0 ≤ x14 then (if ((rd_T37 x12 (wrap64 (x14 - 1))).f1.f1) > ((rd_T37 x12 x14).f1.f1) then (some false) else (if ((rd_T37 x12 (wrap64 (x14 - 1))).f1.f1) = ((rd_T37 x12 x14).f1.f1) then (if ((rd_T37 x12 (wrap64 (x14 - 1))).f1.f0) ≥ ((rd_T37 x12 x14).f1.f0) then (some false) else (selvedgelaw14_OrderTurns.l0 k x1 x2 x12 (wrap64 (x14 + 1)))) else (selvedgelaw14_OrderTurns.l0 k x1 x2 x12 (wrap64 (x14 + 1))))) else (none)) else (none)) else (none)) else ((selvedgeref14_Has.f k x2 x1).bind fun t252 => (if t252 = true then (some true) else (if (x12.length : Int) > 0 then (if 0 ≤ (wrap64 ((x12.length : Int) - 1)) then (if (wrap64 ((x12.length : Int) - 1)) < (x12.length : Int) then (some (((rd_T37 x12 (wrap64 ((x12.length : Int) - 1))).f0).toList == x1.toList)) else (none)) else (none)) else (some false))))
end
def selvedgelaw14_OrderTurns.f (k : Nat) (a0_0 : Int) (a0_1 : Int) (l0_2 : List (S37)) (a1 : ByteArray) (l2 : List ByteArray) : Option (Bool) := (selvedgelaw14_shown.f k).bind fun t226 => ((selvedgelaw14_small.f k a0_0 a0_1 l0_2).bind fun t227 => (if t226 = true then (selvedgelaw14_OrderTurns.j0 k a1 l2 t226 (!t227) a0_0 a0_1 l0_2) else (selvedgelaw14_OrderTurns.j0 k a1 l2 t226 true a0_0 a0_1 l0_2)))
set_option maxHeartbeats 8000000 in
set_option maxRecDepth 100000 in
theorem selvedgelaw14_OrderTurns.calls (k : Nat) (a0_0 : Int) (a0_1 : Int) (A0_2 : Option Addr) (c0_2 : Nat) (l0_2 : List (S37)) (a1 : ByteArray) (A2 : Option Addr) (c2 : Nat) (l2 : List ByteArray) (r : Bool) (hr_ : r = true) (w : World) (hr0_2 : Kd.C k37 w A0_2 l0_2.length l0_2) (hc0_2 : l0_2.length ≤ c0_2) (hr2 : Kd.C Kd.string w A2 l2.length l2) (hc2 : l2.length ≤ c2) (h : selvedgelaw14_OrderTurns.f k a0_0 a0_1 l0_2 a1 l2 = some r) :
  Calls Try.prog 8 #[.agg #[.int .i64 a0_0, .int .i64 a0_1, .slice A0_2 l0_2.length c0_2], .string a1, .slice A2 l2.length c2] w fun e w' => e = .returned (.bool r) ∧ Below w.heap.size w w' := by
 have HRT_ := am_ hr_
 clear hr_
 have hu24 := Try.underlying24
 have hu37 := Try.underlying37
 have hu35 := Try.underlying35
 have HR0_2 := am_ hr0_2
 have HC0_2 := am_ hc0_2
 clear hr0_2 hc0_2
 have HR2 := am_ hr2
 have HC2 := am_ hc2
 clear hr2 hc2
 have HB := am_ (Below.refl w.heap.size w)
 have H : ((selvedgelaw14_shown.f k).bind fun t226 => ((selvedgelaw14_small.f k a0_0 a0_1 l0_2).bind fun t227 => (if t226 = true then (selvedgelaw14_OrderTurns.j0 k a1 l2 t226 (!t227) a0_0 a0_1 l0_2) else (selvedgelaw14_OrderTurns.j0 k a1 l2 t226 true a0_0 a0_1 l0_2)))) = some r := h
 clear h
 replace H := Option.bind_eq_some_iff.mp H
 obtain ⟨t226, A40, H⟩ := H
 replace H : ((selvedgelaw14_small.f k a0_0 a0_1 l0_2).bind fun t227 => (if t226 = true then (selvedgelaw14_OrderTurns.j0 k a1 l2 t226 (!t227) a0_0 a0_1 l0_2) else (selvedgelaw14_OrderTurns.j0 k a1 l2 t226 true a0_0 a0_1 l0_2))) = some r := H
 have A4 := am_ A40
 clear A40
 replace H := Option.bind_eq_some_iff.mp H
 obtain ⟨t227, A50, H⟩ := H
 replace H : (if t226 = true then (selvedgelaw14_OrderTurns.j0 k a1 l2 t226 (!t227) a0_0 a0_1 l0_2) else (selvedgelaw14_OrderTurns.j0 k a1 l2 t226 true a0_0 a0_1 l0_2)) = some r := H
 have A5 := am_ A50
 clear A50
 have HC6 := am_ H
 clear H
 go_enter Try.func8, Try.ntmps8
 go_upto_region 3 with (first | ((with_reducible refine gate_dst (N := 3) rfl ?_); (try (refine gate_guard (by rfl) ?_; dsimp only)); refine box_event ?hg (N := 3) ?hd (cs := #[.int .i64 a0_0, .int .i64 a0_1, .slice A0_2 l0_2.length c0_2]) (t := 24) ?hr ?_; (case hd => rfl); (case hg => rfl); (case hr => first | (go_simp; done) | (go_simp; rfl)); intro gb225 hg w7 hbox hb; have BK225 := am_ hbox; have GW225 := tG HB hg; have GE225 := tG HB hg; replace HB := tHb HB hb; clear hb hbox hg) | ((with_reducible refine gate_callee (f := 16) rfl ?_); refine goesL_ (some 18) rfl rfl Try.func16 (by kernel_rfl) rfl #[] rfl (by (try simp only [List.map_toArray, List.map_cons, List.map_nil]); first | done | rfl | (simp only [List.length_drop, List.length_take]; rfl)) ?_; (with_reducible refine (selvedgelaw14_shown.calls k  t226 _ A4.out).mono ?_); rintro e w8 ⟨rfl, hb⟩; refine ⟨_, rfl, ?_⟩; replace BK225 := tBb BK225 hb; replace HB := tHb HB hb; (try clear hb); (try clear hb2); (try clear hk); (try clear hi); obtain ⟨hcz9_0, hcz9_1, hcz9_2, hfz9_0, hfz9_1, hfz9_2⟩ := bx3 BK225) | ((with_reducible refine gate_callee (f := 25) rfl ?_); refine goesL_ (some 20) rfl rfl Try.func25 (by kernel_rfl) rfl #[.agg #[.int .i64 a0_0, .int .i64 a0_1, .slice A0_2 l0_2.length c0_2]] rfl (by (try simp only [List.map_toArray, List.map_cons, List.map_nil]); first | done | rfl | (simp only [List.length_drop, List.length_take]; rfl)) ?_; (with_reducible refine (selvedgelaw14_small.calls k a0_0 a0_1 _ _ l0_2 t227 _ ?side1 ?side2 A5.out).mono ?_); (case side1 => exact gCB HR0_2 HB); (case side2 => exact HC0_2.out); rintro e w10 ⟨rfl, hb⟩; refine ⟨_, rfl, ?_⟩; replace BK225 := tBb BK225 hb; replace HB := tHb HB hb; (try clear hb); (try clear hb2); (try clear hk); (try clear hi)))
 (try simp only [Act.put, List.setIfInBounds_toArray, List.set_cons_zero, List.set_cons_succ])
 go_cut [26] (fun v26 wc => ∃ (kq : Nat) (x26_5 : Bool), v26 = .bool x26_5 ∧ Asc (selvedgelaw14_OrderTurns.j0 kq a1 l2 t226 x26_5 a0_0 a0_1 l0_2 = some r) ∧ Asc (kq ≤ k) ∧ Asc (wc.heap[gb225]? = some (.cells #[.int .i64 a0_0, .int .i64 a0_1, (.slice A0_2 l0_2.length c0_2)] 24 (0, 0))) ∧ Asc (Below w.heap.size w wc))
 case first =>
  have H := HC6.out
  clear HC6
  by_cases c11 : t226 = true
  ·
   subst c11
   have H1 : (selvedgelaw14_OrderTurns.j0 k a1 l2 true (!t227) a0_0 a0_1 l0_2) = some r := by rw [if_pos rfl] at H; exact H
   clear H
   have H := H1
   clear H1
   have H' := am_ H
   clear H
   go_wp2
   go_meet
   case rel => exact ⟨_, (!t227), (by first | rfl | (simp; done) | (simp [*]; done)), H', ⟨by first | omega | exact Nat.le_refl _⟩, ⟨gB BK225⟩, ⟨bh HB⟩⟩
  replace c11 := Bool.eq_false_iff.mpr c11
  subst c11
  have H1 : (selvedgelaw14_OrderTurns.j0 k a1 l2 false true a0_0 a0_1 l0_2) = some r := by rw [if_neg (show ¬ (false = true) by decide)] at H; exact H
  clear H
  have H := H1
  clear H1
  have H' := am_ H
  clear H
  go_wp2
  go_meet
  case rel => exact ⟨_, (true), (by first | rfl | (simp; done) | (simp [*]; done)), H', ⟨by first | omega | exact Nat.le_refl _⟩, ⟨gB BK225⟩, ⟨bh HB⟩⟩
 case rest =>
  clear HC6
  try clear hcz9_0 hcz9_1 hcz9_2 hfz9_0 hfz9_1 hfz9_2
  obtain ⟨kq, x26_5, rfl, HA, HJ5, BK225, HB⟩ := hcut
  cases kq with
  | zero => exact absurd HA.out (by simp [selvedgelaw14_OrderTurns.j0])
  | succ kj5 =>
   have H := HA.out
   clear HA
   simp only [selvedgelaw14_OrderTurns.j0] at H
   by_cases c12 : x26_5 = true
   ·
    subst c12
    have H1 : (some t226) = some r := by rw [if_pos rfl] at H; exact H
    clear H
    have H := H1
    clear H1
    obtain rfl := Option.some.inj H
    go_wp2
    go_ret
    exact ⟨by first | rfl | (simp [errW_none, errW_some] <;> rfl) | (simp [*, errW_none, errW_some] <;> rfl), bh HB⟩
   replace c12 := Bool.eq_false_iff.mpr c12
   subst c12
   have H1 : ((selvedgeref11_Right.f kj5 a0_0 a0_1 l0_2).bind fun t228 => ((selvedgeref11_Find.f kj5 a0_0 a0_1 l0_2 a1).bind fun bt229 => (if t228 = true then (selvedgelaw14_OrderTurns.j1 kj5 a1 l2 (!bt229.2.2.2.2.2.2.2) a0_0 a0_1 l0_2 bt229.1 bt229.2.1 bt229.2.2.1 bt229.2.2.2.1 bt229.2.2.2.2.1 bt229.2.2.2.2.2.1 bt229.2.2.2.2.2.2.1) else (selvedgelaw14_OrderTurns.j1 kj5 a1 l2 true a0_0 a0_1 l0_2 bt229.1 bt229.2.1 bt229.2.2.1 bt229.2.2.2.1 bt229.2.2.2.2.1 bt229.2.2.2.2.2.1 bt229.2.2.2.2.2.2.1)))) = some r := by rw [if_neg (show ¬ (false = true) by decide)] at H; exact H
   clear H
   have H := H1
   clear H1
   replace H := Option.bind_eq_some_iff.mp H
   obtain ⟨t228, A130, H⟩ := H
   replace H : ((selvedgeref11_Find.f kj5 a0_0 a0_1 l0_2 a1).bind fun bt229 => (if t228 = true then (selvedgelaw14_OrderTurns.j1 kj5 a1 l2 (!bt229.2.2.2.2.2.2.2) a0_0 a0_1 l0_2 bt229.1 bt229.2.1 bt229.2.2.1 bt229.2.2.2.1 bt229.2.2.2.2.1 bt229.2.2.2.2.2.1 bt229.2.2.2.2.2.2.1) else (selvedgelaw14_OrderTurns.j1 kj5 a1 l2 true a0_0 a0_1 l0_2 bt229.1 bt229.2.1 bt229.2.2.1 bt229.2.2.2.1 bt229.2.2.2.2.1 bt229.2.2.2.2.2.1 bt229.2.2.2.2.2.2.1))) = some r := H
   have A13 := am_ A130
   clear A130
   replace H := Option.bind_eq_some_iff.mp H
   obtain ⟨⟨t229, t230, t231, t232, t235, t238, t239, t240⟩, A140, H⟩ := H
   replace H : (if t228 = true then (selvedgelaw14_OrderTurns.j1 kj5 a1 l2 (!t240) a0_0 a0_1 l0_2 t229 t230 t231 t232 t235 t238 t239) else (selvedgelaw14_OrderTurns.j1 kj5 a1 l2 true a0_0 a0_1 l0_2 t229 t230 t231 t232 t235 t238 t239)) = some r := H
   have A14 := am_ A140
   clear A140
   have HC15 := am_ H
   clear H
   obtain ⟨hcz16_0, hcz16_1, hcz16_2, hfz16_0, hfz16_1, hfz16_2⟩ := bx3 BK225
   go_upto_region 7 with (first | ((with_reducible refine gate_callee (f := 30) rfl ?_); refine goesL_ (some 29) rfl rfl Try.func30 (by kernel_rfl) rfl #[.agg #[.int .i64 a0_0, .int .i64 a0_1, .slice A0_2 l0_2.length c0_2]] rfl (by (try simp only [List.map_toArray, List.map_cons, List.map_nil]); first | done | rfl | (simp only [List.length_drop, List.length_take]; rfl)) ?_; (with_reducible refine (selvedgeref11_Right.calls kj5 a0_0 a0_1 _ _ l0_2 t228 _ ?side1 ?side2 A13.out).mono ?_); (case side1 => exact gCB HR0_2 HB); (case side2 => exact HC0_2.out); rintro e w17 ⟨rfl, hb⟩; refine ⟨_, rfl, ?_⟩; replace BK225 := tBb BK225 hb; replace HB := tHb HB hb; (try clear hb); (try clear hb2); (try clear hk); (try clear hi); obtain ⟨hcz18_0, hcz18_1, hcz18_2, hfz18_0, hfz18_1, hfz18_2⟩ := bx3 BK225) | ((with_reducible refine gate_callee (f := 31) rfl ?_); refine goesL_ (some 33) rfl rfl Try.func31 (by kernel_rfl) rfl #[.agg #[.int .i64 a0_0, .int .i64 a0_1, .slice A0_2 l0_2.length c0_2], .string a1] rfl (by (try simp only [List.map_toArray, List.map_cons, List.map_nil]); first | done | rfl | (simp only [List.length_drop, List.length_take]; rfl)) ?_; (with_reducible refine (selvedgeref11_Find.calls kj5 a0_0 a0_1 (fun k_ => k_ < w.heap.size) _ _ l0_2 a1 t229 t230 t231 t232 t235 t238 t239 t240 _ ?side1 A14.out).mono ?_); (case side1 => exact Kd.V_mk HC0_2.out (Kd.F_below (Kd.C_F k37_heap HR0_2.out) (bh HB))); rintro e w19 ⟨v233, v236, rfl, ho0, ho1, hb⟩; refine ⟨_, rfl, ?_⟩; have HO234 := am_ (Kd.V_lower (Kd.V_mono (ok' := fun k_ => k_ ≠ gb225) ho0 (fun k_ hk_ => Or.elim hk_ (fun hs_ => fun e_ => Nat.not_le.2 hs_ (by rw [e_]; exact GW225.out)) (fun hn_ => (gFr BK225 k_ hn_)))) (below_size (bh HB))); have HO237 := am_ (Kd.V_lower (Kd.V_mono (ok' := fun k_ => k_ ≠ gb225) ho1 (fun k_ hk_ => Or.elim hk_ (fun hs_ => fun e_ => Nat.not_le.2 hs_ (by rw [e_]; exact GW225.out)) (fun hn_ => (gFr BK225 k_ hn_)))) (below_size (bh HB))); replace BK225 := tBb BK225 hb; replace HB := tHb HB hb; (try clear hb); (try clear hb2); (try clear hk); (try clear hi); (try clear ho0); (try clear ho1)) | ((with_reducible refine gate_dst (N := 10) rfl ?_); (try (refine gate_guard (by rfl) ?_; dsimp only)); refine box_event ?hg (N := 10) ?hd (cs := #[.string (⟨#[]⟩ : ByteArray), .int .i64 0, .int .i64 0, .slice none 0 0, .slice none 0 0, .int .i64 0, .int .i64 0]) (t := 37) ?hr ?_; (case hd => rfl); (case hg => rfl); (case hr => first | (go_simp; done) | (go_simp; rfl)); intro gb241 hg w20 hbox hb; replace HO234 := tVe HO234 hg hb; replace HO237 := tVe HO237 hg hb; have BK241 := am_ hbox; have GW241 := tG HB hg; have GE241 := tG HB hg; replace HB := tHb HB hb; have NB225_241 := tL BK225 hg; have NB241_225 := tR BK225 hg; replace BK225 := tBb BK225 hb; clear hb hbox hg; have hnb21 := NB241_225.out; have hnc21 := NB225_241.out; obtain ⟨hcz22_0, hcz22_1, hcz22_2, hcz22_3, hcz22_4, hcz22_5, hcz22_6, hfz22_0, hfz22_1, hfz22_2, hfz22_3, hfz22_4, hfz22_5, hfz22_6⟩ := bx7 BK241; obtain ⟨Ao23, co23, eo23⟩ := Kd.V_slice HO234.out; subst eo23; obtain ⟨Ao24, co24, eo24⟩ := Kd.V_slice HO237.out; subst eo24))
   (try simp only [Act.put, List.setIfInBounds_toArray, List.set_cons_zero, List.set_cons_succ])
   go_cut [41] (fun v41 wc => ∃ (kq : Nat) (x41_14 : Bool), v41 = .bool x41_14 ∧ Asc (selvedgelaw14_OrderTurns.j1 kq a1 l2 x41_14 a0_0 a0_1 l0_2 t229 t230 t231 t232 t235 t238 t239 = some r) ∧ Asc (kq ≤ kj5) ∧ Asc (Kd.V k129 129 wc w.heap.size (fun k_ => k_ ≠ gb225 ∧ k_ ≠ gb241) (.slice Ao23 t232.length co23) t232) ∧ Asc (Kd.V Kd.string 9 wc w.heap.size (fun k_ => k_ ≠ gb225 ∧ k_ ≠ gb241) (.slice Ao24 t235.length co24) t235) ∧ Asc (wc.heap[gb225]? = some (.cells #[.int .i64 a0_0, .int .i64 a0_1, (.slice A0_2 l0_2.length c0_2)] 24 (0, 0))) ∧ Asc (wc.heap[gb241]? = some (.cells #[.string t229, .int .i64 t230, .int .i64 t231, (.slice Ao23 t232.length co23), (.slice Ao24 t235.length co24), .int .i64 t238, .int .i64 t239] 37 (0, 0))) ∧ Asc (Below w.heap.size w wc))
   case first =>
    have H := HC15.out
    clear HC15
    by_cases c25 : t228 = true
    ·
     subst c25
     have H1 : (selvedgelaw14_OrderTurns.j1 kj5 a1 l2 (!t240) a0_0 a0_1 l0_2 t229 t230 t231 t232 t235 t238 t239) = some r := by rw [if_pos rfl] at H; exact H
     clear H
     have H := H1
     clear H1
     have H' := am_ H
     clear H
     go_wp2
     go_meet
     case rel => exact ⟨_, (!t240), (by first | rfl | (simp; done) | (simp [*]; done)), H', ⟨by have := HJ5.out; first | omega | exact Nat.le_refl _⟩, ⟨gV HO234⟩, ⟨gV HO237⟩, ⟨gB BK225⟩, ⟨gP BK241 rfl⟩, ⟨bh HB⟩⟩
    replace c25 := Bool.eq_false_iff.mpr c25
    subst c25
    have H1 : (selvedgelaw14_OrderTurns.j1 kj5 a1 l2 true a0_0 a0_1 l0_2 t229 t230 t231 t232 t235 t238 t239) = some r := by rw [if_neg (show ¬ (false = true) by decide)] at H; exact H
    clear H
    have H := H1
    clear H1
    have H' := am_ H
    clear H
    go_wp2
    go_meet
    case rel => exact ⟨_, (true), (by first | rfl | (simp; done) | (simp [*]; done)), H', ⟨by have := HJ5.out; first | omega | exact Nat.le_refl _⟩, ⟨gV HO234⟩, ⟨gV HO237⟩, ⟨gB BK225⟩, ⟨gP BK241 rfl⟩, ⟨bh HB⟩⟩
   case rest =>
    clear HC15
    try clear c12 hcz16_0 hcz16_1 hcz16_2 hcz18_0 hcz18_1 hcz18_2 hcz22_0 hcz22_1 hcz22_2 hcz22_3 hcz22_4 hcz22_5 hcz22_6 hfz16_0 hfz16_1 hfz16_2 hfz18_0 hfz18_1 hfz18_2 hfz22_0 hfz22_1 hfz22_2 hfz22_3 hfz22_4 hfz22_5 hfz22_6
    obtain ⟨kq, x41_14, rfl, HA, HJ14, HO_242003, HO_242004, BK225, BK241, HB⟩ := hcut
    cases kq with
    | zero => exact absurd HA.out (by simp [selvedgelaw14_OrderTurns.j1])
    | succ kj14 =>
     have H := HA.out
     clear HA
     simp only [selvedgelaw14_OrderTurns.j1] at H
     by_cases c26 : x41_14 = true
     ·
      subst c26
      have H1 : (some true) = some r := by rw [if_pos rfl] at H; exact H
      clear H
      have H := H1
      clear H1
      obtain rfl := Option.some.inj H
      go_wp2
      go_ret
      exact ⟨by first | rfl | (simp [errW_none, errW_some] <;> rfl) | (simp [*, errW_none, errW_some] <;> rfl), bh HB⟩
     replace c26 := Bool.eq_false_iff.mpr c26
     subst c26
     have H1 : ((order_Behind.f kj14 a0_0 a0_1 l0_2 t229 t230 t231 t232 t235 t238 t239 l2).bind fun bt242 => (selvedgelaw14_OrderTurns.l0 kj14 a1 l2 bt242.1 1)) = some r := by rw [if_neg (show ¬ (false = true) by decide)] at H; exact H
     clear H
     have H := H1
     clear H1
     replace H := Option.bind_eq_some_iff.mp H
     obtain ⟨⟨t242, t245⟩, A270, H⟩ := H
     replace H : (selvedgelaw14_OrderTurns.l0 kj14 a1 l2 t242 1) = some r := H
     have A27 := am_ A270
     clear A270
     have H' := am_ H
     clear H
     have hnb28 := NB225_241.out
     have hnc28 := NB241_225.out
     obtain ⟨hcz29_0, hcz29_1, hcz29_2, hfz29_0, hfz29_1, hfz29_2⟩ := bx3 BK225
     obtain ⟨hcz30_0, hcz30_1, hcz30_2, hcz30_3, hcz30_4, hcz30_5, hcz30_6, hfz30_0, hfz30_1, hfz30_2, hfz30_3, hfz30_4, hfz30_5, hfz30_6⟩ := bx7 BK241
     go_wp2_with (first | ((with_reducible refine gate_callee (f := 26) rfl ?_); refine goesL_ (some 46) rfl rfl Try.func26 (by kernel_rfl) rfl #[.agg #[.int .i64 a0_0, .int .i64 a0_1, .slice A0_2 l0_2.length c0_2], .agg #[.string t229, .int .i64 t230, .int .i64 t231, .slice Ao23 t232.length co23, .slice Ao24 t235.length co24, .int .i64 t238, .int .i64 t239], .slice A2 l2.length c2] rfl (by (try simp only [List.map_toArray, List.map_cons, List.map_nil]); first | done | rfl | (simp only [List.length_drop, List.length_take]; rfl)) ?_; (with_reducible refine (order_Behind.calls kj14 a0_0 a0_1 (fun k_ => k_ < w.heap.size) _ _ l0_2 t229 t230 t231 _ _ t232 _ _ t235 t238 t239 (fun k_ => k_ < w.heap.size) _ _ l2 t242 t245 _ ?side1 ?side2 ?side3 ?side4 ?side5 ?side6 A27.out).mono ?_); (case side1 => exact Kd.V_mk HC0_2.out (Kd.F_below (Kd.C_F k37_heap HR0_2.out) (bh HB))); (case side2 => repeat (first | exact (Kd.V_reads' HO_242003.out).2.2 | (with_reducible refine Kd.C_alloc ?_ _) | (with_reducible refine Kd.C_drewN ?_ _) | (with_reducible refine Kd.C_drew ?_))); (case side3 => exact (Kd.V_reads' HO_242003.out).2.1); (case side4 => repeat (first | exact (Kd.V_reads' HO_242004.out).2.2 | (with_reducible refine Kd.C_alloc ?_ _) | (with_reducible refine Kd.C_drewN ?_ _) | (with_reducible refine Kd.C_drew ?_))); (case side5 => exact (Kd.V_reads' HO_242004.out).2.1); (case side6 => exact Kd.V_mk HC2.out (Kd.F_below (Kd.C_F Kd.heap_string HR2.out) (bh HB))); rintro e w31 ⟨v243, v246, rfl, ho0, ho1, hb⟩; refine ⟨_, rfl, ?_⟩; replace HO_242003 := am_ (Kd.V_elder' (hV HO_242003) (Kd.N_base ho0) hb); replace HO_242004 := am_ (Kd.V_elder' (hV HO_242004) (Kd.N_base ho0) hb); have HO244 := am_ (Kd.N_lower (Kd.N_mono (ok' := fun k_ => k_ ≠ gb225 ∧ k_ ≠ gb241) ho0 (fun k_ hk_ => ⟨Or.elim hk_ (fun hs_ => Or.elim hs_ (fun hs_ => fun e_ => Nat.not_le.2 hs_ (by rw [e_]; exact GW225.out)) (fun hs_ => fun e_ => Nat.not_le.2 hs_ (by rw [e_]; exact GW225.out))) (fun hn_ => (gFr BK225 k_ hn_)), Or.elim hk_ (fun hs_ => Or.elim hs_ (fun hs_ => fun e_ => Nat.not_le.2 hs_ (by rw [e_]; exact GW241.out)) (fun hs_ => fun e_ => Nat.not_le.2 hs_ (by rw [e_]; exact GW241.out))) (fun hn_ => (gFr BK241 k_ hn_))⟩)) (below_size (bh HB))); have HO247 := am_ (Kd.V_lower (Kd.V_mono (ok' := fun k_ => some k_ ≠ (v243 : Value).ownBlock ∧ k_ ≠ gb225 ∧ k_ ≠ gb241) ho1 (fun k_ hk_ => ⟨hk_.2, Or.elim hk_.1 (fun hs_ => Or.elim hs_ (fun hs_ => fun e_ => Nat.not_le.2 hs_ (by rw [e_]; exact GW225.out)) (fun hs_ => fun e_ => Nat.not_le.2 hs_ (by rw [e_]; exact GW225.out))) (fun hn_ => (gFr BK225 k_ hn_)), Or.elim hk_.1 (fun hs_ => Or.elim hs_ (fun hs_ => fun e_ => Nat.not_le.2 hs_ (by rw [e_]; exact GW241.out)) (fun hs_ => fun e_ => Nat.not_le.2 hs_ (by rw [e_]; exact GW241.out))) (fun hn_ => (gFr BK241 k_ hn_))⟩)) (below_size (bh HB))); replace BK225 := tBb BK225 hb; replace BK241 := tBb BK241 hb; replace HB := tHb HB hb; (try clear hb); (try clear hb2); (try clear hk); (try clear hi); (try clear ho0); (try clear ho1)))
     go_loopg [14] kj14 (fun kq v14 w' => ∃ (x14_3 : Int), v14 = .int .i64 x14_3 ∧ Asc (selvedgelaw14_OrderTurns.l0 kq a1 l2 t242 x14_3 = some r) ∧ Asc (kq ≤ kj14) ∧ Asc (Kd.N k37 37 w' w.heap.size (fun k_ => k_ ≠ gb225 ∧ k_ ≠ gb241) v243 t242) ∧ Asc (Kd.V k129 129 w' w.heap.size (fun k_ => some k_ ≠ (v243 : Value).ownBlock ∧ k_ ≠ gb225 ∧ k_ ≠ gb241) (.slice Ao23 t232.length co23) t232) ∧ Asc (Kd.V Kd.string 9 w' w.heap.size (fun k_ => some k_ ≠ (v243 : Value).ownBlock ∧ k_ ≠ gb225 ∧ k_ ≠ gb241) (.slice Ao24 t235.length co24) t235) ∧ Asc (w'.heap[gb225]? = some (.cells #[.int .i64 a0_0, .int .i64 a0_1, (.slice A0_2 l0_2.length c0_2)] 24 (0, 0))) ∧ Asc (w'.heap[gb241]? = some (.cells #[.string t229, .int .i64 t230, .int .i64 t231, (.slice Ao23 t232.length co23), (.slice Ao24 t235.length co24), .int .i64 t238, .int .i64 t239] 37 (0, 0))) ∧ Asc (Below w.heap.size w w'))
     case atStart => exact ⟨(1), (by first | rfl | (simp; done) | (simp [*]; done)), H', ⟨Nat.le_refl _⟩, ⟨hN HO244⟩, ⟨gV HO_242003⟩, ⟨gV HO_242004⟩, ⟨gB BK225⟩, ⟨gB BK241⟩, ⟨bh HB⟩⟩
     case round =>
      clear H'
      try clear c26 hcz29_0 hcz29_1 hcz29_2 hcz30_0 hcz30_1 hcz30_2 hcz30_3 hcz30_4 hcz30_5 hcz30_6 hfz29_0 hfz29_1 hfz29_2 hfz30_0 hfz30_1 hfz30_2 hfz30_3 hfz30_4 hfz30_5 hfz30_6
      obtain ⟨x14_3, rfl, HA, HK3, HO_12, HO_242003, HO_242004, BK225, BK241, HB⟩ := hrel
      cases gk with
      | zero => exact absurd HA.out (by simp [selvedgelaw14_OrderTurns.l0])
      | succ k3 =>
       have H := HA.out
       clear HA
       simp only [selvedgelaw14_OrderTurns.l0] at H
       by_cases c32 : x14_3 < (t242.length : Int)
       ·
        rw [if_pos c32] at H
        have c32b0 : decide (x14_3 < (t242.length : Int)) = true := decide_eq_true c32
        clear c32
        obtain ⟨ji33, hji33⟩ : ∃ j_ : Int, (wrap64 (x14_3 - 1)) = j_ := ⟨_, rfl⟩
        replace H : (if 0 ≤ (ji33) then (if (ji33) < (t242.length : Int) then (if 0 ≤ x14_3 then (if ((rd_T37 t242 (ji33)).f1.f1) > ((rd_T37 t242 x14_3).f1.f1) then (some false) else (if ((rd_T37 t242 (ji33)).f1.f1) = ((rd_T37 t242 x14_3).f1.f1) then (if ((rd_T37 t242 (ji33)).f1.f0) ≥ ((rd_T37 t242 x14_3).f1.f0) then (some false) else (selvedgelaw14_OrderTurns.l0 k3 a1 l2 t242 (wrap64 (x14_3 + 1)))) else (selvedgelaw14_OrderTurns.l0 k3 a1 l2 t242 (wrap64 (x14_3 + 1))))) else (none)) else (none)) else (none)) = some r := by first | (rw [hji33] at H; exact H) | (simp only [hji33] at H ⊢; exact H)
        have hji33w : (IntKind.i64.wrap (x14_3 - 1)) = ji33 := (i64_w _).trans hji33
        revert H
        refine gi (fun c34b0 H => ?_)
        revert H
        refine gi (fun c35b0 H => ?_)
        revert H
        refine gi (fun c36b0 H => ?_)
        by_cases c37 : ((rd_T37 t242 (ji33)).f1.f1) > ((rd_T37 t242 x14_3).f1.f1)
        ·
         rw [if_pos c37] at H
         exact absurd ((Option.some.inj H).trans HRT_.out) (by decide)
        rw [if_neg c37] at H
        have c37b0 : decide (((rd_T37 t242 x14_3).f1.f1) < ((rd_T37 t242 (ji33)).f1.f1)) = false := decide_eq_false c37
        clear c37
        by_cases c50 : ((rd_T37 t242 (ji33)).f1.f1) = ((rd_T37 t242 x14_3).f1.f1)
        ·
         rw [if_pos c50] at H
         have c50b0 : (((rd_T37 t242 (ji33)).f1.f1) == ((rd_T37 t242 x14_3).f1.f1)) = true := beq_iff_eq.mpr c50
         have c50b1 : (((rd_T37 t242 (ji33)).f1.f1) != ((rd_T37 t242 x14_3).f1.f1)) = false := bne_eq_false_iff_eq.mpr c50
         clear c50
         by_cases c51 : ((rd_T37 t242 (ji33)).f1.f0) ≥ ((rd_T37 t242 x14_3).f1.f0)
         ·
          rw [if_pos c51] at H
          exact absurd ((Option.some.inj H).trans HRT_.out) (by decide)
         rw [if_neg c51] at H
         have c51b0 : decide (((rd_T37 t242 x14_3).f1.f0) ≤ ((rd_T37 t242 (ji33)).f1.f0)) = false := decide_eq_false c51
         clear c51
         have H' := am_ H
         clear H
         obtain ⟨Ao64, co64, eo64⟩ := Kd.N_slice HO_12.out
         subst eo64
         have p248 : 0 ≤ ((ji33) : Int) := of_decide_eq_true ‹_›
         have q248 : (ji33) < (t242.length : Int) := of_decide_eq_true ‹_›
         obtain ⟨ad248, A248_3, c248_3, A248_4, c248_4, e248, hx248_0, hx248_1, hx248_2, hx248_3, hx248_4, hx248_5, hx248_6, hl248_3, hi248_3, hl248_4, hi248_4⟩ := at_T37 (Kd.N_reads' HO_12.out).2.2 (ji33) p248 q248
         cases e248
         obtain ⟨ce248, hce248, hMe248, hcc248⟩ := Kd.N_get HO_12.out z37 (ji33) p248 (by first | exact q248 | exact of_decide_eq_true ‹_› | (have e_ := (Kd.N_reads' HO_12.out).1; omega))
         obtain ⟨ua248_3, uc248_3, ua248_4, uc248_4, rfl, ul248_3, ge248_3, ul248_4, ge248_4⟩ := k37_openF hMe248
         have hv248_3 := hcc248 3 _ rfl
         rw [add_field _ _ 3 (by omega)] at hv248_3
         replace hv248_3 := Option.some.inj (hv248_3.symm.trans hx248_3)
         injection hv248_3 with hva_ hvn_ hvc_
         rw [hva_] at ge248_3
         rw [hvc_] at ul248_3
         have HL248_3 := am_ (show Kd.V k129 129 _ w.heap.size _ _ ((rd_T37 t242 (ji33)).f1.f2) from Kd.V_mk ul248_3 ge248_3)
         clear hva_ hvn_ hvc_ ge248_3 ul248_3
         have hv248_4 := hcc248 4 _ rfl
         rw [add_field _ _ 4 (by omega)] at hv248_4
         replace hv248_4 := Option.some.inj (hv248_4.symm.trans hx248_4)
         injection hv248_4 with hva_ hvn_ hvc_
         rw [hva_] at ge248_4
         rw [hvc_] at ul248_4
         have HL248_4 := am_ (show Kd.V Kd.string 9 _ w.heap.size _ _ ((rd_T37 t242 (ji33)).f1.f3) from Kd.V_mk ul248_4 ge248_4)
         clear hva_ hvn_ hvc_ ge248_4 ul248_4 hcc248 hce248
         have HR248_3 := am_ hi248_3
         have HC248_3 := am_ hl248_3
         clear hi248_3 hl248_3
         have HR248_4 := am_ hi248_4
         have HC248_4 := am_ hl248_4
         clear hi248_4 hl248_4
         replace p248 := eq_true p248
         replace q248 := eq_true q248
         go_wp2_with (first | ((with_reducible refine gate_dst (N := 15) rfl ?_); (try (refine gate_guard (by rfl) ?_; dsimp only)); refine box_event ?hg (N := 15) ?hd (cs := #[.int .i64 0, .int .i64 0, .slice none 0 0, .slice none 0 0, .int .i64 0, .int .i64 0]) (t := 35) ?hr ?_; (case hd => rfl); (case hg => rfl); (case hr => first | (go_simp; done) | (go_simp; rfl)); intro gb249 hg w65 hbox hb; replace HO_12 := tNe HO_12 hg hb; replace HO_242003 := tVe HO_242003 hg hb; replace HO_242004 := tVe HO_242004 hg hb; replace HL248_3 := tVe HL248_3 hg hb; replace HL248_4 := tVe HL248_4 hg hb; replace HR248_3 := tCb HR248_3 hb; replace HR248_4 := tCb HR248_4 hb; have BK249 := am_ hbox; have GW249 := tG HB hg; have GE249 := tG HB hg; replace HB := tHb HB hb; have NB225_249 := tL BK225 hg; have NB249_225 := tR BK225 hg; replace BK225 := tBb BK225 hb; have NB241_249 := tL BK241 hg; have NB249_241 := tR BK241 hg; replace BK241 := tBb BK241 hb; clear hb hbox hg; have hnb66 := NB249_225.out; have hnc66 := NB225_249.out; have hnb67 := NB249_241.out; have hnc67 := NB241_249.out; obtain ⟨hcz68_0, hcz68_1, hcz68_2, hcz68_3, hcz68_4, hcz68_5, hfz68_0, hfz68_1, hfz68_2, hfz68_3, hfz68_4, hfz68_5⟩ := bx6 BK249) | ((with_reducible refine gate_store (t := 35) (p := 15) rfl ?_); refine store_event (t := 35) (p := 15) (v := ?vo_w69) (w1 := ((((((w65.setCell ⟨gb249, 0, none⟩ (.int .i64 ((rd_T37 t242 (ji33)).f1.f0))).setCell ⟨gb249, 1, none⟩ (.int .i64 ((rd_T37 t242 (ji33)).f1.f1))).setCell ⟨gb249, 2, none⟩ (.slice A248_3 ((rd_T37 t242 (ji33)).f1.f2).length c248_3)).setCell ⟨gb249, 3, none⟩ (.slice A248_4 ((rd_T37 t242 (ji33)).f1.f3).length c248_4)).setCell ⟨gb249, 4, none⟩ (.int .i64 ((rd_T37 t242 (ji33)).f1.f4.f0))).setCell ⟨gb249, 5, none⟩ (.int .i64 ((rd_T37 t242 (ji33)).f1.f4.f1)))) ?hg ?ho ?hn ?hr ?_; (case ho => rfl); (case hg => rfl); (case hn => rfl); (case hr => first | (go_simp; done) | (go_simp; rfl)); intro w69 hw; replace HO_12 : Asc (Kd.N k37 37 w69 w.heap.size (fun k_ => k_ ≠ gb225 ∧ k_ ≠ gb241 ∧ k_ ≠ gb249) (.slice (some ad248) t242.length co64) t242) := ⟨(by rw [hw]; exact (gN HO_12))⟩; replace HO_242003 : Asc (Kd.V k129 129 w69 w.heap.size (fun k_ => some k_ ≠ (.slice (some ad248) t242.length co64 : Value).ownBlock ∧ k_ ≠ gb225 ∧ k_ ≠ gb241 ∧ k_ ≠ gb249) (.slice Ao23 t232.length co23) t232) := ⟨(by rw [hw]; exact (gV HO_242003))⟩; replace HO_242004 : Asc (Kd.V Kd.string 9 w69 w.heap.size (fun k_ => some k_ ≠ (.slice (some ad248) t242.length co64 : Value).ownBlock ∧ k_ ≠ gb225 ∧ k_ ≠ gb241 ∧ k_ ≠ gb249) (.slice Ao24 t235.length co24) t235) := ⟨(by rw [hw]; exact (gV HO_242004))⟩; replace HL248_3 : Asc (Kd.V k129 129 w69 w.heap.size (fun k_ => some k_ ≠ (.slice (some ad248) t242.length co64 : Value).ownBlock ∧ k_ ≠ gb225 ∧ k_ ≠ gb241 ∧ k_ ≠ gb249) (.slice A248_3 ((rd_T37 t242 (ji33)).f1.f2).length c248_3) ((rd_T37 t242 (ji33)).f1.f2)) := ⟨(by rw [hw]; exact (gV HL248_3))⟩; replace HL248_4 : Asc (Kd.V Kd.string 9 w69 w.heap.size (fun k_ => some k_ ≠ (.slice (some ad248) t242.length co64 : Value).ownBlock ∧ k_ ≠ gb225 ∧ k_ ≠ gb241 ∧ k_ ≠ gb249) (.slice A248_4 ((rd_T37 t242 (ji33)).f1.f3).length c248_4) ((rd_T37 t242 (ji33)).f1.f3)) := ⟨(by rw [hw]; exact (gV HL248_4))⟩; replace BK225 : Asc (w69.heap[gb225]? = some (.cells #[.int .i64 a0_0, .int .i64 a0_1, .slice A0_2 l0_2.length c0_2] 24 (0, 0))) := ⟨(by rw [hw]; exact (gB BK225))⟩; replace BK241 : Asc (w69.heap[gb241]? = some (.cells #[.string t229, .int .i64 t230, .int .i64 t231, .slice Ao23 t232.length co23, .slice Ao24 t235.length co24, .int .i64 t238, .int .i64 t239] 37 (0, 0))) := ⟨(by rw [hw]; exact (gB BK241))⟩; replace BK249 : Asc (w69.heap[gb249]? = some (.cells #[.int .i64 ((rd_T37 t242 (ji33)).f1.f0), .int .i64 ((rd_T37 t242 (ji33)).f1.f1), .slice A248_3 ((rd_T37 t242 (ji33)).f1.f2).length c248_3, .slice A248_4 ((rd_T37 t242 (ji33)).f1.f3).length c248_4, .int .i64 ((rd_T37 t242 (ji33)).f1.f4.f0), .int .i64 ((rd_T37 t242 (ji33)).f1.f4.f1)] 35 (0, 0))) := ⟨(by rw [hw]; exact (gP BK249 rfl))⟩; replace HB : Asc (Below w.heap.size w w69) := ⟨(by rw [hw]; exact (bh HB))⟩; clear hw; have p250 : 0 ≤ (x14_3 : Int) := of_decide_eq_true ‹_›; have q250 : x14_3 < (t242.length : Int) := of_decide_eq_true ‹_›; obtain ⟨ad250, A250_3, c250_3, A250_4, c250_4, e250, hx250_0, hx250_1, hx250_2, hx250_3, hx250_4, hx250_5, hx250_6, hl250_3, hi250_3, hl250_4, hi250_4⟩ := at_T37 (Kd.N_reads' HO_12.out).2.2 x14_3 p250 q250; obtain rfl : ad248 = ad250 := (by injection e250); obtain ⟨ce250, hce250, hMe250, hcc250⟩ := Kd.N_get HO_12.out z37 x14_3 p250 (by first | exact q250 | exact of_decide_eq_true ‹_› | (have e_ := (Kd.N_reads' HO_12.out).1; omega)); obtain ⟨ua250_3, uc250_3, ua250_4, uc250_4, rfl, ul250_3, ge250_3, ul250_4, ge250_4⟩ := k37_openF hMe250; have hv250_3 := hcc250 3 _ rfl; rw [add_field _ _ 3 (by omega)] at hv250_3; replace hv250_3 := Option.some.inj (hv250_3.symm.trans hx250_3); injection hv250_3 with hva_ hvn_ hvc_; rw [hva_] at ge250_3; rw [hvc_] at ul250_3; have HL250_3 := am_ (show Kd.V k129 129 _ w.heap.size _ _ ((rd_T37 t242 x14_3).f1.f2) from Kd.V_mk ul250_3 ge250_3); clear hva_ hvn_ hvc_ ge250_3 ul250_3; have hv250_4 := hcc250 4 _ rfl; rw [add_field _ _ 4 (by omega)] at hv250_4; replace hv250_4 := Option.some.inj (hv250_4.symm.trans hx250_4); injection hv250_4 with hva_ hvn_ hvc_; rw [hva_] at ge250_4; rw [hvc_] at ul250_4; have HL250_4 := am_ (show Kd.V Kd.string 9 _ w.heap.size _ _ ((rd_T37 t242 x14_3).f1.f3) from Kd.V_mk ul250_4 ge250_4); clear hva_ hvn_ hvc_ ge250_4 ul250_4 hcc250 hce250; have HR250_3 := am_ hi250_3; have HC250_3 := am_ hl250_3; clear hi250_3 hl250_3; have HR250_4 := am_ hi250_4; have HC250_4 := am_ hl250_4; clear hi250_4 hl250_4; replace p250 := eq_true p250; replace q250 := eq_true q250) | ((with_reducible refine gate_dst (N := 16) rfl ?_); (try (refine gate_guard (by rfl) ?_; dsimp only)); refine box_event ?hg (N := 16) ?hd (cs := #[.int .i64 0, .int .i64 0, .slice none 0 0, .slice none 0 0, .int .i64 0, .int .i64 0]) (t := 35) ?hr ?_; (case hd => rfl); (case hg => rfl); (case hr => first | (go_simp; done) | (go_simp; rfl)); intro gb251 hg w70 hbox hb; replace HO_12 := tNe HO_12 hg hb; replace HO_242003 := tVe HO_242003 hg hb; replace HO_242004 := tVe HO_242004 hg hb; replace HL248_3 := tVe HL248_3 hg hb; replace HL248_4 := tVe HL248_4 hg hb; replace HL250_3 := tVe HL250_3 hg hb; replace HL250_4 := tVe HL250_4 hg hb; replace HR250_3 := tCb HR250_3 hb; replace HR250_4 := tCb HR250_4 hb; have BK251 := am_ hbox; have GW251 := tG HB hg; have GE251 := tG HB hg; replace HB := tHb HB hb; have NB225_251 := tL BK225 hg; have NB251_225 := tR BK225 hg; replace BK225 := tBb BK225 hb; have NB241_251 := tL BK241 hg; have NB251_241 := tR BK241 hg; replace BK241 := tBb BK241 hb; have NB249_251 := tL BK249 hg; have NB251_249 := tR BK249 hg; replace BK249 := tBb BK249 hb; clear hb hbox hg; have hnb71 := NB251_225.out; have hnc71 := NB225_251.out; have hnb72 := NB251_241.out; have hnc72 := NB241_251.out; have hnb73 := NB251_249.out; have hnc73 := NB249_251.out; obtain ⟨hcz74_0, hcz74_1, hcz74_2, hcz74_3, hcz74_4, hcz74_5, hfz74_0, hfz74_1, hfz74_2, hfz74_3, hfz74_4, hfz74_5⟩ := bx6 BK251; obtain ⟨hcz75_0, hcz75_1, hcz75_2, hcz75_3, hcz75_4, hcz75_5, hfz75_0, hfz75_1, hfz75_2, hfz75_3, hfz75_4, hfz75_5⟩ := bx6 BK249))
         go_roundg k3
         case measure => have := HJ5.out; have := HJ14.out; have := HK3.out; omega
         case rel => exact ⟨(wrap64 (x14_3 + 1)), (by first | rfl | (simp; done) | (simp [*]; done)), H', ⟨by have := HJ5.out; have := HJ14.out; have := HK3.out; omega⟩, ⟨gN HO_12⟩, ⟨gV HO_242003⟩, ⟨gV HO_242004⟩, ⟨gB BK225⟩, ⟨gB BK241⟩, ⟨bh HB⟩⟩
        rw [if_neg c50] at H
        have c50b0 : (((rd_T37 t242 (ji33)).f1.f1) == ((rd_T37 t242 x14_3).f1.f1)) = false := beq_eq_false_iff_ne.mpr c50
        have c50b1 : (((rd_T37 t242 (ji33)).f1.f1) != ((rd_T37 t242 x14_3).f1.f1)) = true := bne_iff_ne.mpr c50
        have H' := am_ H
        clear H
        obtain ⟨Ao76, co76, eo76⟩ := Kd.N_slice HO_12.out
        subst eo76
        have p248 : 0 ≤ ((ji33) : Int) := of_decide_eq_true ‹_›
        have q248 : (ji33) < (t242.length : Int) := of_decide_eq_true ‹_›
        obtain ⟨ad248, A248_3, c248_3, A248_4, c248_4, e248, hx248_0, hx248_1, hx248_2, hx248_3, hx248_4, hx248_5, hx248_6, hl248_3, hi248_3, hl248_4, hi248_4⟩ := at_T37 (Kd.N_reads' HO_12.out).2.2 (ji33) p248 q248
        cases e248
        obtain ⟨ce248, hce248, hMe248, hcc248⟩ := Kd.N_get HO_12.out z37 (ji33) p248 (by first | exact q248 | exact of_decide_eq_true ‹_› | (have e_ := (Kd.N_reads' HO_12.out).1; omega))
        obtain ⟨ua248_3, uc248_3, ua248_4, uc248_4, rfl, ul248_3, ge248_3, ul248_4, ge248_4⟩ := k37_openF hMe248
        have hv248_3 := hcc248 3 _ rfl
        rw [add_field _ _ 3 (by omega)] at hv248_3
        replace hv248_3 := Option.some.inj (hv248_3.symm.trans hx248_3)
        injection hv248_3 with hva_ hvn_ hvc_
        rw [hva_] at ge248_3
        rw [hvc_] at ul248_3
        have HL248_3 := am_ (show Kd.V k129 129 _ w.heap.size _ _ ((rd_T37 t242 (ji33)).f1.f2) from Kd.V_mk ul248_3 ge248_3)
        clear hva_ hvn_ hvc_ ge248_3 ul248_3
        have hv248_4 := hcc248 4 _ rfl
        rw [add_field _ _ 4 (by omega)] at hv248_4
        replace hv248_4 := Option.some.inj (hv248_4.symm.trans hx248_4)
        injection hv248_4 with hva_ hvn_ hvc_
        rw [hva_] at ge248_4
        rw [hvc_] at ul248_4
        have HL248_4 := am_ (show Kd.V Kd.string 9 _ w.heap.size _ _ ((rd_T37 t242 (ji33)).f1.f3) from Kd.V_mk ul248_4 ge248_4)
        clear hva_ hvn_ hvc_ ge248_4 ul248_4 hcc248 hce248
        have HR248_3 := am_ hi248_3
        have HC248_3 := am_ hl248_3
        clear hi248_3 hl248_3
        have HR248_4 := am_ hi248_4
        have HC248_4 := am_ hl248_4
        clear hi248_4 hl248_4
        replace p248 := eq_true p248
        replace q248 := eq_true q248
        go_wp2_with (first | ((with_reducible refine gate_dst (N := 15) rfl ?_); (try (refine gate_guard (by rfl) ?_; dsimp only)); refine box_event ?hg (N := 15) ?hd (cs := #[.int .i64 0, .int .i64 0, .slice none 0 0, .slice none 0 0, .int .i64 0, .int .i64 0]) (t := 35) ?hr ?_; (case hd => rfl); (case hg => rfl); (case hr => first | (go_simp; done) | (go_simp; rfl)); intro gb249 hg w77 hbox hb; replace HO_12 := tNe HO_12 hg hb; replace HO_242003 := tVe HO_242003 hg hb; replace HO_242004 := tVe HO_242004 hg hb; replace HL248_3 := tVe HL248_3 hg hb; replace HL248_4 := tVe HL248_4 hg hb; replace HR248_3 := tCb HR248_3 hb; replace HR248_4 := tCb HR248_4 hb; have BK249 := am_ hbox; have GW249 := tG HB hg; have GE249 := tG HB hg; replace HB := tHb HB hb; have NB225_249 := tL BK225 hg; have NB249_225 := tR BK225 hg; replace BK225 := tBb BK225 hb; have NB241_249 := tL BK241 hg; have NB249_241 := tR BK241 hg; replace BK241 := tBb BK241 hb; clear hb hbox hg; have hnb78 := NB249_225.out; have hnc78 := NB225_249.out; have hnb79 := NB249_241.out; have hnc79 := NB241_249.out; obtain ⟨hcz80_0, hcz80_1, hcz80_2, hcz80_3, hcz80_4, hcz80_5, hfz80_0, hfz80_1, hfz80_2, hfz80_3, hfz80_4, hfz80_5⟩ := bx6 BK249) | ((with_reducible refine gate_store (t := 35) (p := 15) rfl ?_); refine store_event (t := 35) (p := 15) (v := ?vo_w81) (w1 := ((((((w77.setCell ⟨gb249, 0, none⟩ (.int .i64 ((rd_T37 t242 (ji33)).f1.f0))).setCell ⟨gb249, 1, none⟩ (.int .i64 ((rd_T37 t242 (ji33)).f1.f1))).setCell ⟨gb249, 2, none⟩ (.slice A248_3 ((rd_T37 t242 (ji33)).f1.f2).length c248_3)).setCell ⟨gb249, 3, none⟩ (.slice A248_4 ((rd_T37 t242 (ji33)).f1.f3).length c248_4)).setCell ⟨gb249, 4, none⟩ (.int .i64 ((rd_T37 t242 (ji33)).f1.f4.f0))).setCell ⟨gb249, 5, none⟩ (.int .i64 ((rd_T37 t242 (ji33)).f1.f4.f1)))) ?hg ?ho ?hn ?hr ?_; (case ho => rfl); (case hg => rfl); (case hn => rfl); (case hr => first | (go_simp; done) | (go_simp; rfl)); intro w81 hw; replace HO_12 : Asc (Kd.N k37 37 w81 w.heap.size (fun k_ => k_ ≠ gb225 ∧ k_ ≠ gb241 ∧ k_ ≠ gb249) (.slice (some ad248) t242.length co76) t242) := ⟨(by rw [hw]; exact (gN HO_12))⟩; replace HO_242003 : Asc (Kd.V k129 129 w81 w.heap.size (fun k_ => some k_ ≠ (.slice (some ad248) t242.length co76 : Value).ownBlock ∧ k_ ≠ gb225 ∧ k_ ≠ gb241 ∧ k_ ≠ gb249) (.slice Ao23 t232.length co23) t232) := ⟨(by rw [hw]; exact (gV HO_242003))⟩; replace HO_242004 : Asc (Kd.V Kd.string 9 w81 w.heap.size (fun k_ => some k_ ≠ (.slice (some ad248) t242.length co76 : Value).ownBlock ∧ k_ ≠ gb225 ∧ k_ ≠ gb241 ∧ k_ ≠ gb249) (.slice Ao24 t235.length co24) t235) := ⟨(by rw [hw]; exact (gV HO_242004))⟩; replace HL248_3 : Asc (Kd.V k129 129 w81 w.heap.size (fun k_ => some k_ ≠ (.slice (some ad248) t242.length co76 : Value).ownBlock ∧ k_ ≠ gb225 ∧ k_ ≠ gb241 ∧ k_ ≠ gb249) (.slice A248_3 ((rd_T37 t242 (ji33)).f1.f2).length c248_3) ((rd_T37 t242 (ji33)).f1.f2)) := ⟨(by rw [hw]; exact (gV HL248_3))⟩; replace HL248_4 : Asc (Kd.V Kd.string 9 w81 w.heap.size (fun k_ => some k_ ≠ (.slice (some ad248) t242.length co76 : Value).ownBlock ∧ k_ ≠ gb225 ∧ k_ ≠ gb241 ∧ k_ ≠ gb249) (.slice A248_4 ((rd_T37 t242 (ji33)).f1.f3).length c248_4) ((rd_T37 t242 (ji33)).f1.f3)) := ⟨(by rw [hw]; exact (gV HL248_4))⟩; replace BK225 : Asc (w81.heap[gb225]? = some (.cells #[.int .i64 a0_0, .int .i64 a0_1, .slice A0_2 l0_2.length c0_2] 24 (0, 0))) := ⟨(by rw [hw]; exact (gB BK225))⟩; replace BK241 : Asc (w81.heap[gb241]? = some (.cells #[.string t229, .int .i64 t230, .int .i64 t231, .slice Ao23 t232.length co23, .slice Ao24 t235.length co24, .int .i64 t238, .int .i64 t239] 37 (0, 0))) := ⟨(by rw [hw]; exact (gB BK241))⟩; replace BK249 : Asc (w81.heap[gb249]? = some (.cells #[.int .i64 ((rd_T37 t242 (ji33)).f1.f0), .int .i64 ((rd_T37 t242 (ji33)).f1.f1), .slice A248_3 ((rd_T37 t242 (ji33)).f1.f2).length c248_3, .slice A248_4 ((rd_T37 t242 (ji33)).f1.f3).length c248_4, .int .i64 ((rd_T37 t242 (ji33)).f1.f4.f0), .int .i64 ((rd_T37 t242 (ji33)).f1.f4.f1)] 35 (0, 0))) := ⟨(by rw [hw]; exact (gP BK249 rfl))⟩; replace HB : Asc (Below w.heap.size w w81) := ⟨(by rw [hw]; exact (bh HB))⟩; clear hw; have p250 : 0 ≤ (x14_3 : Int) := of_decide_eq_true ‹_›; have q250 : x14_3 < (t242.length : Int) := of_decide_eq_true ‹_›; obtain ⟨ad250, A250_3, c250_3, A250_4, c250_4, e250, hx250_0, hx250_1, hx250_2, hx250_3, hx250_4, hx250_5, hx250_6, hl250_3, hi250_3, hl250_4, hi250_4⟩ := at_T37 (Kd.N_reads' HO_12.out).2.2 x14_3 p250 q250; obtain rfl : ad248 = ad250 := (by injection e250); obtain ⟨ce250, hce250, hMe250, hcc250⟩ := Kd.N_get HO_12.out z37 x14_3 p250 (by first | exact q250 | exact of_decide_eq_true ‹_› | (have e_ := (Kd.N_reads' HO_12.out).1; omega)); obtain ⟨ua250_3, uc250_3, ua250_4, uc250_4, rfl, ul250_3, ge250_3, ul250_4, ge250_4⟩ := k37_openF hMe250; have hv250_3 := hcc250 3 _ rfl; rw [add_field _ _ 3 (by omega)] at hv250_3; replace hv250_3 := Option.some.inj (hv250_3.symm.trans hx250_3); injection hv250_3 with hva_ hvn_ hvc_; rw [hva_] at ge250_3; rw [hvc_] at ul250_3; have HL250_3 := am_ (show Kd.V k129 129 _ w.heap.size _ _ ((rd_T37 t242 x14_3).f1.f2) from Kd.V_mk ul250_3 ge250_3); clear hva_ hvn_ hvc_ ge250_3 ul250_3; have hv250_4 := hcc250 4 _ rfl; rw [add_field _ _ 4 (by omega)] at hv250_4; replace hv250_4 := Option.some.inj (hv250_4.symm.trans hx250_4); injection hv250_4 with hva_ hvn_ hvc_; rw [hva_] at ge250_4; rw [hvc_] at ul250_4; have HL250_4 := am_ (show Kd.V Kd.string 9 _ w.heap.size _ _ ((rd_T37 t242 x14_3).f1.f3) from Kd.V_mk ul250_4 ge250_4); clear hva_ hvn_ hvc_ ge250_4 ul250_4 hcc250 hce250; have HR250_3 := am_ hi250_3; have HC250_3 := am_ hl250_3; clear hi250_3 hl250_3; have HR250_4 := am_ hi250_4; have HC250_4 := am_ hl250_4; clear hi250_4 hl250_4; replace p250 := eq_true p250; replace q250 := eq_true q250) | ((with_reducible refine gate_dst (N := 16) rfl ?_); (try (refine gate_guard (by rfl) ?_; dsimp only)); refine box_event ?hg (N := 16) ?hd (cs := #[.int .i64 0, .int .i64 0, .slice none 0 0, .slice none 0 0, .int .i64 0, .int .i64 0]) (t := 35) ?hr ?_; (case hd => rfl); (case hg => rfl); (case hr => first | (go_simp; done) | (go_simp; rfl)); intro gb251 hg w82 hbox hb; replace HO_12 := tNe HO_12 hg hb; replace HO_242003 := tVe HO_242003 hg hb; replace HO_242004 := tVe HO_242004 hg hb; replace HL248_3 := tVe HL248_3 hg hb; replace HL248_4 := tVe HL248_4 hg hb; replace HL250_3 := tVe HL250_3 hg hb; replace HL250_4 := tVe HL250_4 hg hb; replace HR250_3 := tCb HR250_3 hb; replace HR250_4 := tCb HR250_4 hb; have BK251 := am_ hbox; have GW251 := tG HB hg; have GE251 := tG HB hg; replace HB := tHb HB hb; have NB225_251 := tL BK225 hg; have NB251_225 := tR BK225 hg; replace BK225 := tBb BK225 hb; have NB241_251 := tL BK241 hg; have NB251_241 := tR BK241 hg; replace BK241 := tBb BK241 hb; have NB249_251 := tL BK249 hg; have NB251_249 := tR BK249 hg; replace BK249 := tBb BK249 hb; clear hb hbox hg; have hnb83 := NB251_225.out; have hnc83 := NB225_251.out; have hnb84 := NB251_241.out; have hnc84 := NB241_251.out; have hnb85 := NB251_249.out; have hnc85 := NB249_251.out; obtain ⟨hcz86_0, hcz86_1, hcz86_2, hcz86_3, hcz86_4, hcz86_5, hfz86_0, hfz86_1, hfz86_2, hfz86_3, hfz86_4, hfz86_5⟩ := bx6 BK251; obtain ⟨hcz87_0, hcz87_1, hcz87_2, hcz87_3, hcz87_4, hcz87_5, hfz87_0, hfz87_1, hfz87_2, hfz87_3, hfz87_4, hfz87_5⟩ := bx6 BK249))
        go_roundg k3
        case measure => have := HJ5.out; have := HJ14.out; have := HK3.out; omega
        case rel => exact ⟨(wrap64 (x14_3 + 1)), (by first | rfl | (simp; done) | (simp [*]; done)), H', ⟨by have := HJ5.out; have := HJ14.out; have := HK3.out; omega⟩, ⟨gN HO_12⟩, ⟨gV HO_242003⟩, ⟨gV HO_242004⟩, ⟨gB BK225⟩, ⟨gB BK241⟩, ⟨bh HB⟩⟩
       rw [if_neg c32] at H
       have c32b0 : decide (x14_3 < (t242.length : Int)) = false := decide_eq_false c32
       clear c32
       replace H := Option.bind_eq_some_iff.mp H
       obtain ⟨t252, A880, H⟩ := H
       replace H : (if t252 = true then (some true) else (if (t242.length : Int) > 0 then (if 0 ≤ (wrap64 ((t242.length : Int) - 1)) then (if (wrap64 ((t242.length : Int) - 1)) < (t242.length : Int) then (some (((rd_T37 t242 (wrap64 ((t242.length : Int) - 1))).f0).toList == a1.toList)) else (none)) else (none)) else (some false))) = some r := H
       have A88 := am_ A880
       clear A880
       by_cases c89 : t252 = true
       ·
        subst c89
        have H1 : (some true) = some r := by rw [if_pos rfl] at H; exact H
        clear H
        have H := H1
        clear H1
        obtain rfl := Option.some.inj H
        obtain ⟨Ao90, co90, eo90⟩ := Kd.N_slice HO_12.out
        subst eo90
        go_wp2_with (first | ((with_reducible refine gate_callee (f := 32) rfl ?_); refine goesL_ (some 87) rfl rfl Try.func32 (by kernel_rfl) rfl #[.slice A2 l2.length c2, .string a1] rfl (by (try simp only [List.map_toArray, List.map_cons, List.map_nil]); first | done | rfl | (simp only [List.length_drop, List.length_take]; rfl)) ?_; (with_reducible refine (selvedgeref14_Has.calls k3 _ _ l2 a1 true _ ?side1 ?side2 A88.out).mono ?_); (case side1 => exact gCB HR2 HB); (case side2 => exact HC2.out); rintro e w' ⟨rfl, ⟨nd, rfl⟩⟩; refine ⟨_, rfl, ?_⟩))
        go_ret
        exact ⟨by first | rfl | (simp [errW_none, errW_some] <;> rfl) | (simp [*, errW_none, errW_some] <;> rfl), bh HB⟩
       replace c89 := Bool.eq_false_iff.mpr c89
       subst c89
       have H1 : (if (t242.length : Int) > 0 then (if 0 ≤ (wrap64 ((t242.length : Int) - 1)) then (if (wrap64 ((t242.length : Int) - 1)) < (t242.length : Int) then (some (((rd_T37 t242 (wrap64 ((t242.length : Int) - 1))).f0).toList == a1.toList)) else (none)) else (none)) else (some false)) = some r := by rw [if_neg (show ¬ (false = true) by decide)] at H; exact H
       clear H
       have H := H1
       clear H1
       by_cases c91 : (t242.length : Int) > 0
       ·
        rw [if_pos c91] at H
        have c91b0 : decide (0 < (t242.length : Int)) = true := decide_eq_true c91
        have c91b1 : decide (0 < t242.length) = true := decide_eq_true (by omega)
        clear c91
        obtain ⟨ji92, hji92⟩ : ∃ j_ : Int, (wrap64 ((t242.length : Int) - 1)) = j_ := ⟨_, rfl⟩
        replace H : (if 0 ≤ (ji92) then (if (ji92) < (t242.length : Int) then (some (((rd_T37 t242 (ji92)).f0).toList == a1.toList)) else (none)) else (none)) = some r := by first | (rw [hji92] at H; exact H) | (simp only [hji92] at H ⊢; exact H)
        (try rw [hji92] at A88)
        have hji92w : (IntKind.i64.wrap ((t242.length : Int) - 1)) = ji92 := (i64_w _).trans hji92
        revert H
        refine gi (fun c93b0 H => ?_)
        revert H
        refine gi (fun c94b0 H => ?_)
        obtain rfl := Option.some.inj H
        obtain ⟨Ao95, co95, eo95⟩ := Kd.N_slice HO_12.out
        subst eo95
        go_wp2_with (first | ((with_reducible refine gate_callee (f := 32) rfl ?_); refine goesL_ (some 87) rfl rfl Try.func32 (by kernel_rfl) rfl #[.slice A2 l2.length c2, .string a1] rfl (by (try simp only [List.map_toArray, List.map_cons, List.map_nil]); first | done | rfl | (simp only [List.length_drop, List.length_take]; rfl)) ?_; (with_reducible refine (selvedgeref14_Has.calls k3 _ _ l2 a1 false _ ?side1 ?side2 A88.out).mono ?_); (case side1 => exact gCB HR2 HB); (case side2 => exact HC2.out); rintro e w' ⟨rfl, ⟨nd, rfl⟩⟩; refine ⟨_, rfl, ?_⟩; have p253 : 0 ≤ ((ji92) : Int) := of_decide_eq_true ‹_›; have q253 : (ji92) < (t242.length : Int) := of_decide_eq_true ‹_›; obtain ⟨ad253, A253_3, c253_3, A253_4, c253_4, e253, hx253_0, hx253_1, hx253_2, hx253_3, hx253_4, hx253_5, hx253_6, hl253_3, hi253_3, hl253_4, hi253_4⟩ := at_T37 (Kd.N_reads' HO_12.out).2.2 (ji92) p253 q253; cases e253; obtain ⟨ce253, hce253, hMe253, hcc253⟩ := Kd.N_get HO_12.out z37 (ji92) p253 (by first | exact q253 | exact of_decide_eq_true ‹_› | (have e_ := (Kd.N_reads' HO_12.out).1; omega)); obtain ⟨ua253_3, uc253_3, ua253_4, uc253_4, rfl, ul253_3, ge253_3, ul253_4, ge253_4⟩ := k37_openF hMe253; have hv253_3 := hcc253 3 _ rfl; rw [add_field _ _ 3 (by omega)] at hv253_3; replace hv253_3 := Option.some.inj (hv253_3.symm.trans hx253_3); injection hv253_3 with hva_ hvn_ hvc_; rw [hva_] at ge253_3; rw [hvc_] at ul253_3; have HL253_3 := am_ (show Kd.V k129 129 _ w.heap.size _ _ ((rd_T37 t242 (ji92)).f1.f2) from Kd.V_mk ul253_3 ge253_3); clear hva_ hvn_ hvc_ ge253_3 ul253_3; have hv253_4 := hcc253 4 _ rfl; rw [add_field _ _ 4 (by omega)] at hv253_4; replace hv253_4 := Option.some.inj (hv253_4.symm.trans hx253_4); injection hv253_4 with hva_ hvn_ hvc_; rw [hva_] at ge253_4; rw [hvc_] at ul253_4; have HL253_4 := am_ (show Kd.V Kd.string 9 _ w.heap.size _ _ ((rd_T37 t242 (ji92)).f1.f3) from Kd.V_mk ul253_4 ge253_4); clear hva_ hvn_ hvc_ ge253_4 ul253_4 hcc253 hce253; have HR253_3 := am_ hi253_3; have HC253_3 := am_ hl253_3; clear hi253_3 hl253_3; have HR253_4 := am_ hi253_4; have HC253_4 := am_ hl253_4; clear hi253_4 hl253_4; replace p253 := eq_true p253; replace q253 := eq_true q253))
        go_ret
        exact ⟨by first | rfl | (simp [errW_none, errW_some] <;> rfl) | (simp only [← hji92]; first | rfl | (simp [errW_none, errW_some] <;> rfl)) | (simp [*, errW_none, errW_some] <;> rfl), bh HB⟩
       rw [if_neg c91] at H
       exact absurd ((Option.some.inj H).trans HRT_.out) (by decide)

end Go.Proofs.Ytcbfnmabckjijaa.POrderTurns
