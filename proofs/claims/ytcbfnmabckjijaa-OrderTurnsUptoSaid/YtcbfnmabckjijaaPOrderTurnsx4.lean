-- written by a program of this session (pp.py), out of the kit's print and this session's contracts
import Derived.Test.YtcbfnmabckjijaaPOrderTurnsx0
import Derived.Test.YtcbfnmabckjijaaPOrderTurnsx1
import Derived.Test.YtcbfnmabckjijaaPOrderTurnsx3
import Derived.Test.YtcbfnmabckjijaaVOrderTurnsPg
namespace Go.Proofs.Ytcbfnmabckjijaa.POrderTurns
open Go.RowKit Go.Proofs.YtcbfnmabckjijaaW.PrintWords Go.Proofs.YtcbfnmabckjijaaW.PrintLast Go.Proofs.YtcbfnmabckjijaaW.PrintMore
set_option linter.unusedVariables false
set_option linter.unusedSimpArgs false

def order_Behind.l0 : Nat → List ByteArray → List (S37) → List ByteArray → List (S37) → Int → Int → Option ((List (S37)) × List ByteArray)
 | 0, _, _, _, _, _, _ => none
 | k + 1, x2, x8, x9, x20, x21, x22 => if x22 < x21 then (if 0 ≤ x22 then (if x22 < (x20.length : Int) then ((slices_Contains_string_string.f k x9 ((rd_T37 x20 x22).f0)).bind fun t143 => (if t143 = true then (order_Behind.l0 k x2 x8 x9 x20 x21 (wrap64 (x22 + 1))) else (if x8.length < 1466015503701 then ((order_with.f k x2 ((rd_T37 x20 x22).f0)).bind fun t147 => (order_Behind.l0 k t147 (x8 ++ [(⟨(rd_T37 x20 x22).f0, (⟨(rd_T37 x20 x22).f1.f0, (rd_T37 x20 x22).f1.f1, (rd_T37 x20 x22).f1.f2, (rd_T37 x20 x22).f1.f3, (⟨(rd_T37 x20 x22).f1.f4.f0, (rd_T37 x20 x22).f1.f4.f1⟩ : S33)⟩ : S35)⟩ : S37)]) x9 x20 x21 (wrap64 (x22 + 1)))) else (none)))) else (none)) else (none)) else (some (x8, x2))
def order_Behind.f (k : Nat) (a0_0 : Int) (a0_1 : Int) (l0_2 : List (S37)) (a1_0 : ByteArray) (a1_1 : Int) (a1_2 : Int) (l1_3 : List (S129)) (l1_4 : List ByteArray) (a1_5 : Int) (a1_6 : Int) (l2 : List ByteArray) : Option ((List (S37)) × List ByteArray) := (dag_Past.f a0_0 a0_1 l0_2 a1_0 (wrap64 (a1_2 - 12))).bind fun t138 => (order_Behind.l0 k l2 ([] : List (S37)) l2 t138 (t138.length : Int) 0)
set_option maxHeartbeats 8000000 in
set_option maxRecDepth 100000 in
theorem order_Behind.calls (k : Nat) (a0_0 : Int) (a0_1 : Int) (P0_2_ : Nat → Prop) (A0_2 : Option Addr) (c0_2 : Nat) (l0_2 : List (S37)) (a1_0 : ByteArray) (a1_1 : Int) (a1_2 : Int) (A1_3 : Option Addr) (c1_3 : Nat) (l1_3 : List (S129)) (A1_4 : Option Addr) (c1_4 : Nat) (l1_4 : List ByteArray) (a1_5 : Int) (a1_6 : Int) (P2_ : Nat → Prop) (A2 : Option Addr) (c2 : Nat) (l2 : List ByteArray) (r1 : List (S37)) (r2 : List ByteArray) (w : World) (hs0_2 : Kd.V k37 37 w w.heap.size (fun k_ => P0_2_ k_) (.slice A0_2 l0_2.length c0_2) l0_2) (hr1_3 : Kd.C k129 w A1_3 l1_3.length l1_3) (hc1_3 : l1_3.length ≤ c1_3) (hr1_4 : Kd.C Kd.string w A1_4 l1_4.length l1_4) (hc1_4 : l1_4.length ≤ c1_4) (hs2 : Kd.V Kd.string 9 w w.heap.size (fun k_ => P2_ k_) (.slice A2 l2.length c2) l2) (h : order_Behind.f k a0_0 a0_1 l0_2 a1_0 a1_1 a1_2 l1_3 l1_4 a1_5 a1_6 l2 = some (r1, r2)) :
  Calls Try.prog 26 #[.agg #[.int .i64 a0_0, .int .i64 a0_1, .slice A0_2 l0_2.length c0_2], .agg #[.string a1_0, .int .i64 a1_1, .int .i64 a1_2, .slice A1_3 l1_3.length c1_3, .slice A1_4 l1_4.length c1_4, .int .i64 a1_5, .int .i64 a1_6], .slice A2 l2.length c2] w fun e w' => ∃ v0_ v1_ : Value, e = .returned (.tuple #[v0_, v1_]) ∧ Kd.N k37 37 w' w.heap.size (fun k_ => ((P0_2_ k_ ∨ P2_ k_) ∨ w.heap.size ≤ k_)) v0_ r1 ∧ Kd.V Kd.string 9 w' w.heap.size (fun k_ => ((P0_2_ k_ ∨ P2_ k_) ∨ w.heap.size ≤ k_) ∧ some k_ ≠ (v0_ : Value).ownBlock) v1_ r2 ∧ Below w.heap.size w w' := by
 have hu24 := Try.underlying24
 have hu37 := Try.underlying37
 have HO0_2 := am_ (show Kd.V k37 37 w w.heap.size (fun k_ => ((P0_2_ k_ ∨ P2_ k_) ∨ w.heap.size ≤ k_)) (.slice A0_2 l0_2.length c0_2) l0_2 from Kd.V_mono hs0_2 (fun k_ hk => .inl (.inl hk)))
 have HR1_3 := am_ hr1_3
 have HC1_3 := am_ hc1_3
 clear hr1_3 hc1_3
 have HR1_4 := am_ hr1_4
 have HC1_4 := am_ hc1_4
 clear hr1_4 hc1_4
 have HO2 := am_ (show Kd.V Kd.string 9 w w.heap.size (fun k_ => ((P0_2_ k_ ∨ P2_ k_) ∨ w.heap.size ≤ k_)) (.slice A2 l2.length c2) l2 from Kd.V_mono hs2 (fun k_ hk => .inl (.inr hk)))
 have HB := am_ (Below.refl w.heap.size w)
 have H : ((dag_Past.f a0_0 a0_1 l0_2 a1_0 (wrap64 (a1_2 - 12))).bind fun t138 => (order_Behind.l0 k l2 ([] : List (S37)) l2 t138 (t138.length : Int) 0)) = some (r1, r2) := h
 clear h
 replace H := Option.bind_eq_some_iff.mp H
 obtain ⟨t138, A40, H⟩ := H
 replace H : (order_Behind.l0 k l2 ([] : List (S37)) l2 t138 (t138.length : Int) 0) = some (r1, r2) := H
 have A4 := am_ A40
 clear A40
 have H' := am_ H
 clear H
 go_enter Try.func26, Try.ntmps26
 go_wp2_with (first | ((with_reducible refine gate_dst (N := 3) rfl ?_); refine box_event ?hg (N := 3) ?hd (cs := #[.int .i64 a0_0, .int .i64 a0_1, .slice A0_2 l0_2.length c0_2]) (t := 24) ?hr ?_; (case hd => rfl); (case hg => rfl); (case hr => first | (go_simp; done) | (go_simp; rfl)); intro gb136 hg w5 hbox hb; replace HO0_2 := tVe HO0_2 hg hb; replace HO2 := tVe HO2 hg hb; have BK136 := am_ hbox; have GW136 := tG HB hg; have GE136 := tG HB hg; replace HB := tHb HB hb; clear hb hbox hg) | ((with_reducible refine gate_dst (N := 4) rfl ?_); refine box_event ?hg (N := 4) ?hd (cs := #[.string a1_0, .int .i64 a1_1, .int .i64 a1_2, .slice A1_3 l1_3.length c1_3, .slice A1_4 l1_4.length c1_4, .int .i64 a1_5, .int .i64 a1_6]) (t := 37) ?hr ?_; (case hd => rfl); (case hg => rfl); (case hr => first | (go_simp; done) | (go_simp; rfl)); intro gb137 hg w6 hbox hb; replace HO0_2 := tVe HO0_2 hg hb; replace HO2 := tVe HO2 hg hb; have BK137 := am_ hbox; have GW137 := tG HB hg; have GE137 := tG HB hg; replace HB := tHb HB hb; have NB136_137 := tL BK136 hg; have NB137_136 := tR BK136 hg; replace BK136 := tBb BK136 hb; clear hb hbox hg; have hnb7 := NB136_137.out; have hnc7 := NB137_136.out; obtain ⟨hcz8_0, hcz8_1, hcz8_2, hfz8_0, hfz8_1, hfz8_2⟩ := bx3 BK136; obtain ⟨hcz9_0, hcz9_1, hcz9_2, hcz9_3, hcz9_4, hcz9_5, hcz9_6, hfz9_0, hfz9_1, hfz9_2, hfz9_3, hfz9_4, hfz9_5, hfz9_6⟩ := bx7 BK137) | ((with_reducible refine gate_callee (f := 52) rfl ?_); refine goesL_ (some 20) rfl rfl Try.func52 (by kernel_rfl) rfl #[.agg #[.int .i64 a0_0, .int .i64 a0_1, .slice A0_2 l0_2.length c0_2], .string a1_0, .int .i64 (wrap64 (a1_2 - 12))] rfl (by (try simp only [List.map_toArray, List.map_cons, List.map_nil]); first | done | rfl | (simp only [List.length_drop, List.length_take]; rfl)) ?_; (with_reducible refine (dag_Past.calls a0_0 a0_1 (fun k_ => ((((P0_2_ k_ ∨ P2_ k_) ∨ w.heap.size ≤ k_) ∧ k_ ≠ gb136) ∧ k_ ≠ gb137)) _ _ l0_2 a1_0 (wrap64 (a1_2 - 12)) t138 _ ?side1 A4.out).mono ?_); (case side1 => exact HO0_2.out); rintro e w10 ⟨v139, rfl, ho0, hb⟩; refine ⟨_, rfl, ?_⟩; replace HO0_2 := tVb HO0_2 hb; replace HO2 := tVb HO2 hb; have HO140 := am_ (Kd.V_lower (Kd.V_mono (ok' := fun k_ => ((P0_2_ k_ ∨ P2_ k_) ∨ w.heap.size ≤ k_) ∧ k_ ≠ gb136 ∧ k_ ≠ gb137) ho0 (fun k_ hk_ => ⟨Or.elim hk_ (fun hs_ => hs_.1.1) (fun hn_ => (.inr (Nat.le_trans (below_size (bh HB)) hn_))), Or.elim hk_ (fun hs_ => hs_.1.2) (fun hn_ => (gFr BK136 k_ hn_)), Or.elim hk_ (fun hs_ => hs_.2) (fun hn_ => (gFr BK137 k_ hn_))⟩)) (below_size (bh HB))); replace BK136 := tBb BK136 hb; replace BK137 := tBb BK137 hb; replace HB := tHb HB hb; (try clear hb); (try clear hb2); (try clear hk); (try clear hi); (try clear ho0); obtain ⟨Ao11, co11, eo11⟩ := Kd.V_slice HO140.out; subst eo11))
 go_loopg [2, 8, 22] k (fun kq v2 v8 v22 w' => ∃ (x2_1 : List ByteArray) (x8_1 : List (S37)) (x22_1 : Int), v22 = .int .i64 x22_1 ∧ Asc (order_Behind.l0 kq x2_1 x8_1 l2 t138 (t138.length : Int) x22_1 = some (r1, r2)) ∧ Asc (kq ≤ k) ∧ Asc (Kd.V Kd.string 9 w' w.heap.size (fun k_ => ((P0_2_ k_ ∨ P2_ k_) ∨ w.heap.size ≤ k_) ∧ some k_ ≠ (v8 : Value).ownBlock ∧ k_ ≠ gb136 ∧ k_ ≠ gb137) v2 x2_1) ∧ Asc (Kd.N k37 37 w' w.heap.size (fun k_ => ((P0_2_ k_ ∨ P2_ k_) ∨ w.heap.size ≤ k_) ∧ k_ ≠ gb136 ∧ k_ ≠ gb137) v8 x8_1) ∧ Asc (Kd.V Kd.string 9 w' w.heap.size (fun k_ => ((P0_2_ k_ ∨ P2_ k_) ∨ w.heap.size ≤ k_) ∧ some k_ ≠ (v8 : Value).ownBlock ∧ k_ ≠ gb136 ∧ k_ ≠ gb137) (.slice A2 l2.length c2) l2) ∧ Asc (Kd.V k37 37 w' w.heap.size (fun k_ => ((P0_2_ k_ ∨ P2_ k_) ∨ w.heap.size ≤ k_) ∧ some k_ ≠ (v8 : Value).ownBlock ∧ k_ ≠ gb136 ∧ k_ ≠ gb137) (.slice Ao11 t138.length co11) t138) ∧ Asc (Kd.V k37 37 w' w.heap.size (fun k_ => ((P0_2_ k_ ∨ P2_ k_) ∨ w.heap.size ≤ k_) ∧ some k_ ≠ (v8 : Value).ownBlock ∧ k_ ≠ gb136 ∧ k_ ≠ gb137) (.slice A0_2 l0_2.length c0_2) l0_2) ∧ Asc (w'.heap[gb136]? = some (.cells #[.int .i64 a0_0, .int .i64 a0_1, (.slice A0_2 l0_2.length c0_2)] 24 (0, 0))) ∧ Asc (w'.heap[gb137]? = some (.cells #[.string a1_0, .int .i64 a1_1, .int .i64 a1_2, (.slice A1_3 l1_3.length c1_3), (.slice A1_4 l1_4.length c1_4), .int .i64 a1_5, .int .i64 a1_6] 37 (0, 0))) ∧ Asc (Below w.heap.size w w'))
 case atStart => exact ⟨(l2), (([] : List (S37))), (0), (by first | rfl | (simp; done) | (simp [*]; done)), H', ⟨Nat.le_refl _⟩, ⟨gV HO2⟩, ⟨by first | exact Kd.R_nil _ _ _ _ _ | exact Kd.N_nil _ _ _ _ _ | exact Kd.V_nil _ _ _ _ _ | exact Kd.Q_nil _ _ _ _ _ | exact Kd.S_nil _ _ _ _ _⟩, ⟨gV HO2⟩, ⟨gV HO140⟩, ⟨gV HO0_2⟩, ⟨gB BK136⟩, ⟨gB BK137⟩, ⟨bh HB⟩⟩
 case round =>
  clear H'
  try clear c2 hcz8_0 hcz8_1 hcz8_2 hcz9_0 hcz9_1 hcz9_2 hcz9_3 hcz9_4 hcz9_5 hcz9_6 hfz8_0 hfz8_1 hfz8_2 hfz9_0 hfz9_1 hfz9_2 hfz9_3 hfz9_4 hfz9_5 hfz9_6
  obtain ⟨x2_1, x8_1, x22_1, rfl, HA, HK1, HO_2, HO_8, HO_9, HO_20, HO_137002, BK136, BK137, HB⟩ := hrel
  cases gk with
  | zero => exact absurd HA.out (by simp [order_Behind.l0])
  | succ k1 =>
   have H := HA.out
   clear HA
   simp only [order_Behind.l0] at H
   by_cases c12 : x22_1 < (t138.length : Int)
   ·
    rw [if_pos c12] at H
    have c12b0 : decide (x22_1 < (t138.length : Int)) = true := decide_eq_true c12
    clear c12
    revert H
    refine gi (fun c13b0 H => ?_)
    revert H
    refine gi (fun c14b0 H => ?_)
    replace H := Option.bind_eq_some_iff.mp H
    obtain ⟨t143, A150, H⟩ := H
    replace H : (if t143 = true then (order_Behind.l0 k1 x2_1 x8_1 l2 t138 (t138.length : Int) (wrap64 (x22_1 + 1))) else (if x8_1.length < 1466015503701 then ((order_with.f k1 x2_1 ((rd_T37 t138 x22_1).f0)).bind fun t147 => (order_Behind.l0 k1 t147 (x8_1 ++ [(⟨(rd_T37 t138 x22_1).f0, (⟨(rd_T37 t138 x22_1).f1.f0, (rd_T37 t138 x22_1).f1.f1, (rd_T37 t138 x22_1).f1.f2, (rd_T37 t138 x22_1).f1.f3, (⟨(rd_T37 t138 x22_1).f1.f4.f0, (rd_T37 t138 x22_1).f1.f4.f1⟩ : S33)⟩ : S35)⟩ : S37)]) l2 t138 (t138.length : Int) (wrap64 (x22_1 + 1)))) else (none))) = some (r1, r2) := H
    have A15 := am_ A150
    clear A150
    by_cases c16 : t143 = true
    ·
     subst c16
     have H1 : (order_Behind.l0 k1 x2_1 x8_1 l2 t138 (t138.length : Int) (wrap64 (x22_1 + 1))) = some (r1, r2) := by rw [if_pos rfl] at H; exact H
     clear H
     have H := H1
     clear H1
     have H' := am_ H
     clear H
     have p141 : 0 ≤ (x22_1 : Int) := of_decide_eq_true ‹_›
     have q141 : x22_1 < (t138.length : Int) := of_decide_eq_true ‹_›
     obtain ⟨ad141, A141_3, c141_3, A141_4, c141_4, e141, hx141_0, hx141_1, hx141_2, hx141_3, hx141_4, hx141_5, hx141_6, hl141_3, hi141_3, hl141_4, hi141_4⟩ := at_T37 (Kd.V_reads' HO_20.out).2.2 x22_1 p141 q141
     cases e141
     obtain ⟨ce141, hce141, hMe141, hcc141⟩ := Kd.V_get HO_20.out z37 x22_1 p141 (by first | exact q141 | exact of_decide_eq_true ‹_› | (have e_ := (Kd.V_reads' HO_20.out).1; omega))
     obtain ⟨ua141_3, uc141_3, ua141_4, uc141_4, rfl, ul141_3, ge141_3, ul141_4, ge141_4⟩ := k37_openF hMe141
     have hv141_3 := hcc141 3 _ rfl
     rw [add_field _ _ 3 (by omega)] at hv141_3
     replace hv141_3 := Option.some.inj (hv141_3.symm.trans hx141_3)
     injection hv141_3 with hva_ hvn_ hvc_
     rw [hva_] at ge141_3
     rw [hvc_] at ul141_3
     have HL141_3 := am_ (show Kd.V k129 129 _ w.heap.size _ _ ((rd_T37 t138 x22_1).f1.f2) from Kd.V_mk ul141_3 ge141_3)
     clear hva_ hvn_ hvc_ ge141_3 ul141_3
     have hv141_4 := hcc141 4 _ rfl
     rw [add_field _ _ 4 (by omega)] at hv141_4
     replace hv141_4 := Option.some.inj (hv141_4.symm.trans hx141_4)
     injection hv141_4 with hva_ hvn_ hvc_
     rw [hva_] at ge141_4
     rw [hvc_] at ul141_4
     have HL141_4 := am_ (show Kd.V Kd.string 9 _ w.heap.size _ _ ((rd_T37 t138 x22_1).f1.f3) from Kd.V_mk ul141_4 ge141_4)
     clear hva_ hvn_ hvc_ ge141_4 ul141_4 hcc141 hce141
     have HR141_3 := am_ hi141_3
     have HC141_3 := am_ hl141_3
     clear hi141_3 hl141_3
     have HR141_4 := am_ hi141_4
     have HC141_4 := am_ hl141_4
     clear hi141_4 hl141_4
     replace p141 := eq_true p141
     replace q141 := eq_true q141
     go_wp2_with (first | ((with_reducible refine gate_dst (N := 11) rfl ?_); refine box_event ?hg (N := 11) ?hd (cs := #[.string (⟨#[]⟩ : ByteArray), .int .i64 0, .int .i64 0, .slice none 0 0, .slice none 0 0, .int .i64 0, .int .i64 0]) (t := 37) ?hr ?_; (case hd => rfl); (case hg => rfl); (case hr => first | (go_simp; done) | (go_simp; rfl)); intro gb142 hg w17 hbox hb; replace HO_2 := tVe HO_2 hg hb; replace HO_8 := tNe HO_8 hg hb; replace HO_9 := tVe HO_9 hg hb; replace HO_20 := tVe HO_20 hg hb; replace HO_137002 := tVe HO_137002 hg hb; replace HL141_3 := tVe HL141_3 hg hb; replace HL141_4 := tVe HL141_4 hg hb; replace HR141_3 := tCb HR141_3 hb; replace HR141_4 := tCb HR141_4 hb; have BK142 := am_ hbox; have GW142 := tG HB hg; have GE142 := tG HB hg; replace HB := tHb HB hb; have NB136_142 := tL BK136 hg; have NB142_136 := tR BK136 hg; replace BK136 := tBb BK136 hb; have NB137_142 := tL BK137 hg; have NB142_137 := tR BK137 hg; replace BK137 := tBb BK137 hb; clear hb hbox hg; have hnb18 := NB142_136.out; have hnc18 := NB136_142.out; have hnb19 := NB142_137.out; have hnc19 := NB137_142.out; obtain ⟨hcz20_0, hcz20_1, hcz20_2, hcz20_3, hcz20_4, hcz20_5, hcz20_6, hfz20_0, hfz20_1, hfz20_2, hfz20_3, hfz20_4, hfz20_5, hfz20_6⟩ := bx7 BK142) | ((with_reducible refine gate_callee (f := 53) rfl ?_); refine goesL_ (some 29) rfl rfl Try.func53 (by kernel_rfl) rfl #[.slice A2 l2.length c2, .string ((rd_T37 t138 x22_1).f0)] rfl (by (try simp only [List.map_toArray, List.map_cons, List.map_nil]); first | done | rfl | (simp only [List.length_drop, List.length_take]; rfl)) ?_; (with_reducible refine (slices_Contains_string_string.calls k1 _ _ l2 ((rd_T37 t138 x22_1).f0) true _ ?side1 ?side2 A15.out).mono ?_); (case side1 => refine (Kd.V_reads' (e := 9) (base := w.heap.size) (ok := fun k_ => ((((P0_2_ k_ ∨ P2_ k_) ∨ w.heap.size ≤ k_) ∧ (some k_ ≠ (u8 : Value).ownBlock ∧ (k_ ≠ gb136 ∧ k_ ≠ gb137))) ∧ k_ ≠ gb142)) (n := l2.length) (c := c2) ?_).2.2; exact (gV HO_9)); (case side2 => exact (Kd.V_reads' HO_9.out).2.1); rintro e w' ⟨rfl, ⟨nd, rfl⟩⟩; refine ⟨_, rfl, ?_⟩))
     go_roundg k1
     case measure => have := HK1.out; omega
     case rel => exact ⟨(x2_1), (x8_1), (wrap64 (x22_1 + 1)), (by first | rfl | (simp; done) | (simp [*]; done)), H', kS HK1, ⟨gV HO_2⟩, ⟨gN HO_8⟩, ⟨gV HO_9⟩, ⟨gV HO_20⟩, ⟨gV HO_137002⟩, ⟨gB BK136⟩, ⟨gB BK137⟩, ⟨bh HB⟩⟩
    replace c16 := Bool.eq_false_iff.mpr c16
    subst c16
    have H1 : (if x8_1.length < 1466015503701 then ((order_with.f k1 x2_1 ((rd_T37 t138 x22_1).f0)).bind fun t147 => (order_Behind.l0 k1 t147 (x8_1 ++ [(⟨(rd_T37 t138 x22_1).f0, (⟨(rd_T37 t138 x22_1).f1.f0, (rd_T37 t138 x22_1).f1.f1, (rd_T37 t138 x22_1).f1.f2, (rd_T37 t138 x22_1).f1.f3, (⟨(rd_T37 t138 x22_1).f1.f4.f0, (rd_T37 t138 x22_1).f1.f4.f1⟩ : S33)⟩ : S35)⟩ : S37)]) l2 t138 (t138.length : Int) (wrap64 (x22_1 + 1)))) else (none)) = some (r1, r2) := by rw [if_neg (show ¬ (false = true) by decide)] at H; exact H
    clear H
    have H := H1
    clear H1
    revert H
    refine gi' (fun c21 H => ?_)
    have LMc21 := am_ c21
    clear c21
    obtain ⟨y144, hy144⟩ : ∃ y_ : List (S37), y_ = (x8_1 ++ [(⟨(rd_T37 t138 x22_1).f0, (⟨(rd_T37 t138 x22_1).f1.f0, (rd_T37 t138 x22_1).f1.f1, (rd_T37 t138 x22_1).f1.f2, (rd_T37 t138 x22_1).f1.f3, (⟨(rd_T37 t138 x22_1).f1.f4.f0, (rd_T37 t138 x22_1).f1.f4.f1⟩ : S33)⟩ : S35)⟩ : S37)]) := ⟨_, rfl⟩
    replace H : ((order_with.f k1 x2_1 ((rd_T37 t138 x22_1).f0)).bind fun t147 => (order_Behind.l0 k1 t147 y144 l2 t138 (t138.length : Int) (wrap64 (x22_1 + 1)))) = some (r1, r2) := by first | (rw [hy144]; with_reducible exact H) | (have H2_ := (Option.bind_some _ _).symm.trans H; rw [hy144]; with_reducible exact H2_) | (have H2_ := (Option.bind_some _ _).symm.trans H; with_reducible exact H2_) | with_reducible exact H | (rw [hy144]; exact H) | exact H
    have Ny144 := am_ hy144
    clear hy144
    replace H := Option.bind_eq_some_iff.mp H
    obtain ⟨t147, A220, H⟩ := H
    replace H : (order_Behind.l0 k1 t147 y144 l2 t138 (t138.length : Int) (wrap64 (x22_1 + 1))) = some (r1, r2) := H
    have A22 := am_ A220
    clear A220
    have H' := am_ H
    clear H
    have p141 : 0 ≤ (x22_1 : Int) := of_decide_eq_true ‹_›
    have q141 : x22_1 < (t138.length : Int) := of_decide_eq_true ‹_›
    obtain ⟨ad141, A141_3, c141_3, A141_4, c141_4, e141, hx141_0, hx141_1, hx141_2, hx141_3, hx141_4, hx141_5, hx141_6, hl141_3, hi141_3, hl141_4, hi141_4⟩ := at_T37 (Kd.V_reads' HO_20.out).2.2 x22_1 p141 q141
    cases e141
    obtain ⟨ce141, hce141, hMe141, hcc141⟩ := Kd.V_get HO_20.out z37 x22_1 p141 (by first | exact q141 | exact of_decide_eq_true ‹_› | (have e_ := (Kd.V_reads' HO_20.out).1; omega))
    obtain ⟨ua141_3, uc141_3, ua141_4, uc141_4, rfl, ul141_3, ge141_3, ul141_4, ge141_4⟩ := k37_openF hMe141
    have hv141_3 := hcc141 3 _ rfl
    rw [add_field _ _ 3 (by omega)] at hv141_3
    replace hv141_3 := Option.some.inj (hv141_3.symm.trans hx141_3)
    injection hv141_3 with hva_ hvn_ hvc_
    rw [hva_] at ge141_3
    rw [hvc_] at ul141_3
    have HL141_3 := am_ (show Kd.V k129 129 _ w.heap.size _ _ ((rd_T37 t138 x22_1).f1.f2) from Kd.V_mk ul141_3 ge141_3)
    clear hva_ hvn_ hvc_ ge141_3 ul141_3
    have hv141_4 := hcc141 4 _ rfl
    rw [add_field _ _ 4 (by omega)] at hv141_4
    replace hv141_4 := Option.some.inj (hv141_4.symm.trans hx141_4)
    injection hv141_4 with hva_ hvn_ hvc_
    rw [hva_] at ge141_4
    rw [hvc_] at ul141_4
    have HL141_4 := am_ (show Kd.V Kd.string 9 _ w.heap.size _ _ ((rd_T37 t138 x22_1).f1.f3) from Kd.V_mk ul141_4 ge141_4)
    clear hva_ hvn_ hvc_ ge141_4 ul141_4 hcc141 hce141
    have HR141_3 := am_ hi141_3
    have HC141_3 := am_ hl141_3
    clear hi141_3 hl141_3
    have HR141_4 := am_ hi141_4
    have HC141_4 := am_ hl141_4
    clear hi141_4 hl141_4
    replace p141 := eq_true p141
    replace q141 := eq_true q141
    go_wp2_with (first | ((with_reducible refine gate_dst (N := 11) rfl ?_); refine box_event ?hg (N := 11) ?hd (cs := #[.string (⟨#[]⟩ : ByteArray), .int .i64 0, .int .i64 0, .slice none 0 0, .slice none 0 0, .int .i64 0, .int .i64 0]) (t := 37) ?hr ?_; (case hd => rfl); (case hg => rfl); (case hr => first | (go_simp; done) | (go_simp; rfl)); intro gb142 hg w23 hbox hb; replace HO_2 := tVe HO_2 hg hb; replace HO_8 := tNe HO_8 hg hb; replace HO_9 := tVe HO_9 hg hb; replace HO_20 := tVe HO_20 hg hb; replace HO_137002 := tVe HO_137002 hg hb; replace HL141_3 := tVe HL141_3 hg hb; replace HL141_4 := tVe HL141_4 hg hb; replace HR141_3 := tCb HR141_3 hb; replace HR141_4 := tCb HR141_4 hb; have BK142 := am_ hbox; have GW142 := tG HB hg; have GE142 := tG HB hg; replace HB := tHb HB hb; have NB136_142 := tL BK136 hg; have NB142_136 := tR BK136 hg; replace BK136 := tBb BK136 hb; have NB137_142 := tL BK137 hg; have NB142_137 := tR BK137 hg; replace BK137 := tBb BK137 hb; clear hb hbox hg; have hnb24 := NB142_136.out; have hnc24 := NB136_142.out; have hnb25 := NB142_137.out; have hnc25 := NB137_142.out; obtain ⟨hcz26_0, hcz26_1, hcz26_2, hcz26_3, hcz26_4, hcz26_5, hcz26_6, hfz26_0, hfz26_1, hfz26_2, hfz26_3, hfz26_4, hfz26_5, hfz26_6⟩ := bx7 BK142) | ((with_reducible refine gate_store (t := 37) (p := 11) rfl ?_); refine store_event (t := 37) (p := 11) (v := ?vo_w27) (w1 := (((((((w23.setCell ⟨gb142, 0, none⟩ (.string ((rd_T37 t138 x22_1).f0))).setCell ⟨gb142, 1, none⟩ (.int .i64 ((rd_T37 t138 x22_1).f1.f0))).setCell ⟨gb142, 2, none⟩ (.int .i64 ((rd_T37 t138 x22_1).f1.f1))).setCell ⟨gb142, 3, none⟩ (.slice A141_3 ((rd_T37 t138 x22_1).f1.f2).length c141_3)).setCell ⟨gb142, 4, none⟩ (.slice A141_4 ((rd_T37 t138 x22_1).f1.f3).length c141_4)).setCell ⟨gb142, 5, none⟩ (.int .i64 ((rd_T37 t138 x22_1).f1.f4.f0))).setCell ⟨gb142, 6, none⟩ (.int .i64 ((rd_T37 t138 x22_1).f1.f4.f1)))) ?hg ?ho ?hn ?hr ?_; (case ho => rfl); (case hg => rfl); (case hn => rfl); (case hr => first | (go_simp; done) | (go_simp; rfl)); intro w27 hw; replace HO_2 : Asc (Kd.V Kd.string 9 w27 w.heap.size (fun k_ => ((P0_2_ k_ ∨ P2_ k_) ∨ w.heap.size ≤ k_) ∧ some k_ ≠ (u8 : Value).ownBlock ∧ k_ ≠ gb136 ∧ k_ ≠ gb137 ∧ k_ ≠ gb142) u2 x2_1) := ⟨(by rw [hw]; exact (gV HO_2))⟩; replace HO_8 : Asc (Kd.N k37 37 w27 w.heap.size (fun k_ => ((P0_2_ k_ ∨ P2_ k_) ∨ w.heap.size ≤ k_) ∧ k_ ≠ gb136 ∧ k_ ≠ gb137 ∧ k_ ≠ gb142) u8 x8_1) := ⟨(by rw [hw]; exact (gN HO_8))⟩; replace HO_9 : Asc (Kd.V Kd.string 9 w27 w.heap.size (fun k_ => ((P0_2_ k_ ∨ P2_ k_) ∨ w.heap.size ≤ k_) ∧ some k_ ≠ (u8 : Value).ownBlock ∧ k_ ≠ gb136 ∧ k_ ≠ gb137 ∧ k_ ≠ gb142) (.slice A2 l2.length c2) l2) := ⟨(by rw [hw]; exact (gV HO_9))⟩; replace HO_20 : Asc (Kd.V k37 37 w27 w.heap.size (fun k_ => ((P0_2_ k_ ∨ P2_ k_) ∨ w.heap.size ≤ k_) ∧ some k_ ≠ (u8 : Value).ownBlock ∧ k_ ≠ gb136 ∧ k_ ≠ gb137 ∧ k_ ≠ gb142) (.slice (some ad141) t138.length co11) t138) := ⟨(by rw [hw]; exact (gV HO_20))⟩; replace HO_137002 : Asc (Kd.V k37 37 w27 w.heap.size (fun k_ => ((P0_2_ k_ ∨ P2_ k_) ∨ w.heap.size ≤ k_) ∧ some k_ ≠ (u8 : Value).ownBlock ∧ k_ ≠ gb136 ∧ k_ ≠ gb137 ∧ k_ ≠ gb142) (.slice A0_2 l0_2.length c0_2) l0_2) := ⟨(by rw [hw]; exact (gV HO_137002))⟩; replace HL141_3 : Asc (Kd.V k129 129 w27 w.heap.size (fun k_ => ((P0_2_ k_ ∨ P2_ k_) ∨ w.heap.size ≤ k_) ∧ some k_ ≠ (u8 : Value).ownBlock ∧ k_ ≠ gb136 ∧ k_ ≠ gb137 ∧ k_ ≠ gb142) (.slice A141_3 ((rd_T37 t138 x22_1).f1.f2).length c141_3) ((rd_T37 t138 x22_1).f1.f2)) := ⟨(by rw [hw]; exact (gV HL141_3))⟩; replace HL141_4 : Asc (Kd.V Kd.string 9 w27 w.heap.size (fun k_ => ((P0_2_ k_ ∨ P2_ k_) ∨ w.heap.size ≤ k_) ∧ some k_ ≠ (u8 : Value).ownBlock ∧ k_ ≠ gb136 ∧ k_ ≠ gb137 ∧ k_ ≠ gb142) (.slice A141_4 ((rd_T37 t138 x22_1).f1.f3).length c141_4) ((rd_T37 t138 x22_1).f1.f3)) := ⟨(by rw [hw]; exact (gV HL141_4))⟩; replace BK136 : Asc (w27.heap[gb136]? = some (.cells #[.int .i64 a0_0, .int .i64 a0_1, .slice A0_2 l0_2.length c0_2] 24 (0, 0))) := ⟨(by rw [hw]; exact (gB BK136))⟩; replace BK137 : Asc (w27.heap[gb137]? = some (.cells #[.string a1_0, .int .i64 a1_1, .int .i64 a1_2, .slice A1_3 l1_3.length c1_3, .slice A1_4 l1_4.length c1_4, .int .i64 a1_5, .int .i64 a1_6] 37 (0, 0))) := ⟨(by rw [hw]; exact (gB BK137))⟩; replace BK142 : Asc (w27.heap[gb142]? = some (.cells #[.string ((rd_T37 t138 x22_1).f0), .int .i64 ((rd_T37 t138 x22_1).f1.f0), .int .i64 ((rd_T37 t138 x22_1).f1.f1), .slice A141_3 ((rd_T37 t138 x22_1).f1.f2).length c141_3, .slice A141_4 ((rd_T37 t138 x22_1).f1.f3).length c141_4, .int .i64 ((rd_T37 t138 x22_1).f1.f4.f0), .int .i64 ((rd_T37 t138 x22_1).f1.f4.f1)] 37 (0, 0))) := ⟨(by rw [hw]; exact (gP BK142 rfl))⟩; replace HB : Asc (Below w.heap.size w w27) := ⟨(by rw [hw]; exact (bh HB))⟩; clear hw; obtain ⟨hcz28_0, hcz28_1, hcz28_2, hcz28_3, hcz28_4, hcz28_5, hcz28_6, hfz28_0, hfz28_1, hfz28_2, hfz28_3, hfz28_4, hfz28_5, hfz28_6⟩ := bx7 BK142) | ((with_reducible refine gate_callee (f := 53) rfl ?_); refine goesL_ (some 29) rfl rfl Try.func53 (by kernel_rfl) rfl #[.slice A2 l2.length c2, .string ((rd_T37 t138 x22_1).f0)] rfl (by (try simp only [List.map_toArray, List.map_cons, List.map_nil]); first | done | rfl | (simp only [List.length_drop, List.length_take]; rfl)) ?_; (with_reducible refine (slices_Contains_string_string.calls k1 _ _ l2 ((rd_T37 t138 x22_1).f0) false _ ?side1 ?side2 A15.out).mono ?_); (case side1 => repeat (first | exact (Kd.V_reads' HO_9.out).2.2 | (with_reducible refine Kd.C_alloc ?_ _) | (with_reducible refine Kd.C_drewN ?_ _) | (with_reducible refine Kd.C_drew ?_))); (case side2 => exact (Kd.V_reads' HO_9.out).2.1); rintro e w' ⟨rfl, ⟨nd, rfl⟩⟩; refine ⟨_, rfl, ?_⟩) | ((with_reducible refine gate_builtin (b := .append) (xs := #[.tmp 31, .tmp 33]) rfl ?_); at_builtin; refine Kd.N_append k37 (w0 := w) w.heap.size rfl (.tmp 31) (.tmp 33) 22 37 (.agg #[(.string ⟨#[]⟩), (.int .i64 0), (.int .i64 0), (.slice none 0 0), (.slice none 0 0), (.int .i64 0), (.int .i64 0)]) 96 rfl Try.underlying22 info37 rfl (by decide) (by omega) u8 x8_1 (⟨(rd_T37 t138 x22_1).f0, (⟨(rd_T37 t138 x22_1).f1.f0, (rd_T37 t138 x22_1).f1.f1, (rd_T37 t138 x22_1).f1.f2, (rd_T37 t138 x22_1).f1.f3, (⟨(rd_T37 t138 x22_1).f1.f4.f0, (rd_T37 t138 x22_1).f1.f4.f1⟩ : S33)⟩ : S35)⟩ : S37) [.string ((rd_T37 t138 x22_1).f0), .int .i64 ((rd_T37 t138 x22_1).f1.f0), .int .i64 ((rd_T37 t138 x22_1).f1.f1), .slice A141_3 ((rd_T37 t138 x22_1).f1.f2).length c141_3, .slice A141_4 ((rd_T37 t138 x22_1).f1.f3).length c141_4, .int .i64 ((rd_T37 t138 x22_1).f1.f4.f0), .int .i64 ((rd_T37 t138 x22_1).f1.f4.f1)] (fun k_ => ((P0_2_ k_ ∨ P2_ k_) ∨ w.heap.size ≤ k_) ∧ k_ ≠ gb136 ∧ k_ ≠ gb137 ∧ k_ ≠ gb142) (fun k_ => ((fun k_ => ((P0_2_ k_ ∨ P2_ k_) ∨ w.heap.size ≤ k_) ∧ k_ ≠ gb136 ∧ k_ ≠ gb137 ∧ k_ ≠ gb142)) k_ ∧ some k_ ≠ (u8 : Value).ownBlock) rfl rfl ?aP (fun _ hk => hk) ?aF ?aO ?aB ?aS ?aL ?_; (case aP => exact (k37_mkF _ _ (⟨(rd_T37 t138 x22_1).f0, (⟨(rd_T37 t138 x22_1).f1.f0, (rd_T37 t138 x22_1).f1.f1, (rd_T37 t138 x22_1).f1.f2, (rd_T37 t138 x22_1).f1.f3, (⟨(rd_T37 t138 x22_1).f1.f4.f0, (rd_T37 t138 x22_1).f1.f4.f1⟩ : S33)⟩ : S35)⟩ : S37) (Kd.V_reads' (Kd.V_mono (ok' := (fun k_ => ((fun k_ => ((P0_2_ k_ ∨ P2_ k_) ∨ w.heap.size ≤ k_) ∧ k_ ≠ gb136 ∧ k_ ≠ gb137 ∧ k_ ≠ gb142)) k_ ∧ some k_ ≠ (u8 : Value).ownBlock)) (HL141_3.out) (fun k_ hk => ⟨⟨hk.1, ⟨hk.2.2.1, ⟨hk.2.2.2.1, hk.2.2.2.2⟩⟩⟩, hk.2.1⟩))).2.1 (Kd.V_F (Kd.V_mono (ok' := (fun k_ => ((fun k_ => ((P0_2_ k_ ∨ P2_ k_) ∨ w.heap.size ≤ k_) ∧ k_ ≠ gb136 ∧ k_ ≠ gb137 ∧ k_ ≠ gb142)) k_ ∧ some k_ ≠ (u8 : Value).ownBlock)) (HL141_3.out) (fun k_ hk => ⟨⟨hk.1, ⟨hk.2.2.1, ⟨hk.2.2.2.1, hk.2.2.2.2⟩⟩⟩, hk.2.1⟩))) (Kd.V_reads' (Kd.V_mono (ok' := (fun k_ => ((fun k_ => ((P0_2_ k_ ∨ P2_ k_) ∨ w.heap.size ≤ k_) ∧ k_ ≠ gb136 ∧ k_ ≠ gb137 ∧ k_ ≠ gb142)) k_ ∧ some k_ ≠ (u8 : Value).ownBlock)) (HL141_4.out) (fun k_ hk => ⟨⟨hk.1, ⟨hk.2.2.1, ⟨hk.2.2.2.1, hk.2.2.2.2⟩⟩⟩, hk.2.1⟩))).2.1 (Kd.V_F (Kd.V_mono (ok' := (fun k_ => ((fun k_ => ((P0_2_ k_ ∨ P2_ k_) ∨ w.heap.size ≤ k_) ∧ k_ ≠ gb136 ∧ k_ ≠ gb137 ∧ k_ ≠ gb142)) k_ ∧ some k_ ≠ (u8 : Value).ownBlock)) (HL141_4.out) (fun k_ hk => ⟨⟨hk.1, ⟨hk.2.2.1, ⟨hk.2.2.2.1, hk.2.2.2.2⟩⟩⟩, hk.2.1⟩))))); (case aB => exact (bh HB)); (case aF => exact (fun k_ hk => ⟨(.inr (Nat.le_trans (below_size (bh HB)) hk)), gFr BK136 k_ hk, gFr BK137 k_ hk, gFr BK142 k_ hk⟩)); (case aO => exact (hN HO_8)); (case aS => exact (below_size (bh HB))); (case aL => have := LMc21.out; omega); intro v145 w29 ho hb hg hat; rw [← Ny144.out] at ho; replace HO_2 := am_ (Kd.V_afterv (ok := (fun k_ => ((P0_2_ k_ ∨ P2_ k_) ∨ w.heap.size ≤ k_) ∧ k_ ≠ gb136 ∧ k_ ≠ gb137 ∧ k_ ≠ gb142)) (gV HO_2) hg hat); replace HO_9 := am_ (Kd.V_afterv (ok := (fun k_ => ((P0_2_ k_ ∨ P2_ k_) ∨ w.heap.size ≤ k_) ∧ k_ ≠ gb136 ∧ k_ ≠ gb137 ∧ k_ ≠ gb142)) (gV HO_9) hg hat); replace HO_20 := am_ (Kd.V_afterv (ok := (fun k_ => ((P0_2_ k_ ∨ P2_ k_) ∨ w.heap.size ≤ k_) ∧ k_ ≠ gb136 ∧ k_ ≠ gb137 ∧ k_ ≠ gb142)) (gV HO_20) hg hat); replace HO_137002 := am_ (Kd.V_afterv (ok := (fun k_ => ((P0_2_ k_ ∨ P2_ k_) ∨ w.heap.size ≤ k_) ∧ k_ ≠ gb136 ∧ k_ ≠ gb137 ∧ k_ ≠ gb142)) (gV HO_137002) hg hat); replace BK136 := tBg BK136 hg (Kd.N_ne HO_8.out BK136.out (by decide)); replace BK137 := tBg BK137 hg (Kd.N_away HO_8.out (fun _ hk => hk.2.2.1)); replace HL141_3 := am_ (Kd.V_afterv (ok := (fun k_ => ((P0_2_ k_ ∨ P2_ k_) ∨ w.heap.size ≤ k_) ∧ k_ ≠ gb136 ∧ k_ ≠ gb137 ∧ k_ ≠ gb142)) (gV HL141_3) hg hat); replace HL141_4 := am_ (Kd.V_afterv (ok := (fun k_ => ((P0_2_ k_ ∨ P2_ k_) ∨ w.heap.size ≤ k_) ∧ k_ ≠ gb136 ∧ k_ ≠ gb137 ∧ k_ ≠ gb142)) (gV HL141_4) hg hat); replace BK142 := tBg BK142 hg (Kd.N_away HO_8.out (fun _ hk => hk.2.2.2)); replace HB := am_ hb; have HO146 := am_ (ho); clear HO_8 ho hb hg hat; obtain ⟨hcz30_0, hcz30_1, hcz30_2, hcz30_3, hcz30_4, hcz30_5, hcz30_6, hfz30_0, hfz30_1, hfz30_2, hfz30_3, hfz30_4, hfz30_5, hfz30_6⟩ := bx7 BK142; obtain ⟨Ao31, co31, eo31⟩ := Kd.V_slice HO_2.out; subst eo31) | ((with_reducible refine gate_callee (f := 54) rfl ?_); refine goesL_ (some 38) rfl rfl Try.func54 (by kernel_rfl) rfl #[.slice Ao31 x2_1.length co31, .string ((rd_T37 t138 x22_1).f0)] rfl (by (try simp only [List.map_toArray, List.map_cons, List.map_nil]); first | done | rfl | (simp only [List.length_drop, List.length_take]; rfl)) ?_; (with_reducible refine (order_with.calls k1 (fun k_ => ((((P0_2_ k_ ∨ P2_ k_) ∨ w.heap.size ≤ k_) ∧ (k_ ≠ gb136 ∧ (k_ ≠ gb137 ∧ k_ ≠ gb142))) ∧ some k_ ≠ (v145 : Value).ownBlock)) _ _ x2_1 ((rd_T37 t138 x22_1).f0) t147 _ ?side1 A22.out).mono ?_); (case side1 => exact HO_2.out); rintro e w32 ⟨v148, rfl, ho0, hb⟩; refine ⟨_, rfl, ?_⟩; replace HO_2 := tVb HO_2 hb; replace HO_9 := tVb HO_9 hb; replace HO_20 := tVb HO_20 hb; replace HO_137002 := tVb HO_137002 hb; replace HL141_3 := tVb HL141_3 hb; replace HL141_4 := tVb HL141_4 hb; have HO149 := am_ (Kd.V_lower (Kd.V_mono (ok' := fun k_ => ((P0_2_ k_ ∨ P2_ k_) ∨ w.heap.size ≤ k_) ∧ some k_ ≠ (v145 : Value).ownBlock ∧ k_ ≠ gb136 ∧ k_ ≠ gb137 ∧ k_ ≠ gb142) ho0 (fun k_ hk_ => ⟨Or.elim hk_ (fun hs_ => hs_.1.1) (fun hn_ => (.inr (Nat.le_trans (below_size (bh HB)) hn_))), Or.elim hk_ (fun hs_ => hs_.2) (fun hn_ => (Kd.fresh' (Kd.N_lt (hN HO146)) k_ hn_)), Or.elim hk_ (fun hs_ => hs_.1.2.1) (fun hn_ => (gFr BK136 k_ hn_)), Or.elim hk_ (fun hs_ => hs_.1.2.2.1) (fun hn_ => (gFr BK137 k_ hn_)), Or.elim hk_ (fun hs_ => hs_.1.2.2.2) (fun hn_ => (gFr BK142 k_ hn_))⟩)) (below_size (bh HB))); replace HO146 := tNb HO146 hb; replace BK136 := tBb BK136 hb; replace BK137 := tBb BK137 hb; replace BK142 := tBb BK142 hb; replace HB := tHb HB hb; (try clear hb); (try clear hb2); (try clear hk); (try clear hi); (try clear ho0)))
    go_roundg k1
    case measure => have := HK1.out; omega
    case rel => exact ⟨(t147), (y144), (wrap64 (x22_1 + 1)), (by first | rfl | (simp; done) | (simp [*]; done)), H', kS HK1, ⟨gV HO149⟩, ⟨gN HO146⟩, ⟨gV HO_9⟩, ⟨gV HO_20⟩, ⟨gV HO_137002⟩, ⟨gB BK136⟩, ⟨gB BK137⟩, ⟨bh HB⟩⟩
   rw [if_neg c12] at H
   have c12b0 : decide (x22_1 < (t138.length : Int)) = false := decide_eq_false c12
   clear c12
   simp only [Option.some.injEq, Prod.mk.injEq] at H
   obtain ⟨rfl, rfl⟩ := H
   go_wp2
   go_ret2
   exact ⟨_, _, by first | rfl | (simp [errW_none, errW_some] <;> rfl) | (simp [*, errW_none, errW_some] <;> rfl), gN HO_8, gV HO_2, bh HB⟩

def selvedgeref05_May.f (a0 : Int) : Option (Bool) := if a0 = 4 then (some true) else (if a0 > 4 then (if a0 ≤ 64 then (some ((Int.tmod (wrap64 (a0 - 1)) 3) == 0)) else (some false)) else (some false))
set_option maxHeartbeats 8000000 in
set_option maxRecDepth 100000 in
theorem selvedgeref05_May.calls (a0 : Int) (r : Bool) (w : World) (h : selvedgeref05_May.f a0 = some r) :
  Calls Try.prog 58 #[.int .i64 a0] w fun e w' => e = .returned (.bool r) ∧ Drawn0 w w' := by
 have H : (if a0 = 4 then (some true) else (if a0 > 4 then (if a0 ≤ 64 then (some ((Int.tmod (wrap64 (a0 - 1)) 3) == 0)) else (some false)) else (some false))) = some r := h
 clear h
 by_cases c2 : a0 = 4
 ·
  rw [if_pos c2] at H
  have c2b0 : (a0 == 4) = true := beq_iff_eq.mpr c2
  have c2b1 : (a0 != 4) = false := bne_eq_false_iff_eq.mpr c2
  clear c2
  obtain rfl := Option.some.inj H
  go_enter Try.func58, Try.ntmps58
  go_wp2
  go_ret
  exact ⟨by first | rfl | (simp; done) | (simp [*]; done), by repeat (first | exact Drawn0.refl _ | apply Drawn0.step)⟩
 rw [if_neg c2] at H
 have c2b0 : (a0 == 4) = false := beq_eq_false_iff_ne.mpr c2
 have c2b1 : (a0 != 4) = true := bne_iff_ne.mpr c2
 by_cases c3 : a0 > 4
 ·
  rw [if_pos c3] at H
  have c3b0 : decide (4 < a0) = true := decide_eq_true c3
  clear c3
  by_cases c4 : a0 ≤ 64
  ·
   rw [if_pos c4] at H
   have c4b0 : decide (a0 ≤ 64) = true := decide_eq_true c4
   clear c4
   obtain rfl := Option.some.inj H
   go_enter Try.func58, Try.ntmps58
   go_wp2
   go_ret
   exact ⟨by first | rfl | (simp; done) | (simp [*]; done), by repeat (first | exact Drawn0.refl _ | apply Drawn0.step)⟩
  rw [if_neg c4] at H
  have c4b0 : decide (a0 ≤ 64) = false := decide_eq_false c4
  clear c4
  obtain rfl := Option.some.inj H
  go_enter Try.func58, Try.ntmps58
  go_wp2
  go_ret
  exact ⟨by first | rfl | (simp; done) | (simp [*]; done), by repeat (first | exact Drawn0.refl _ | apply Drawn0.step)⟩
 rw [if_neg c3] at H
 have c3b0 : decide (4 < a0) = false := decide_eq_false c3
 clear c3
 obtain rfl := Option.some.inj H
 go_enter Try.func58, Try.ntmps58
 go_wp2
 go_ret
 exact ⟨by first | rfl | (simp; done) | (simp [*]; done), by repeat (first | exact Drawn0.refl _ | apply Drawn0.step)⟩

mutual
def selvedgeref01_Less.l0 : Nat → ByteArray → ByteArray → Int → Option (Bool)
 | 0, _, _, _ => none
 | k + 1, x0, x1, x5 => if x5 < (x0.size : Int) then (selvedgeref01_Less.j1 k x0 x1 x5 (decide (x5 < (x1.size : Int)))) else (selvedgeref01_Less.j1 k x0 x1 x5 false)
def selvedgeref01_Less.j1 : Nat → ByteArray → ByteArray → Int → Bool → Option (Bool)
 | 0, _, _, _, _ => none
 | k + 1, x0, x1, x5, x15 => if x15 = true then (if 0 ≤ x5 then (if x5 < (x0.size : Int) then (if x5 < (x1.size : Int) then (if (bt x0 x5) = (bt x1 x5) then (selvedgeref01_Less.l0 k x0 x1 (wrap64 (x5 + 1))) else (some (decide ((bt x0 x5) < (bt x1 x5))))) else (none)) else (none)) else (none)) else (some (decide ((x0.size : Int) < (x1.size : Int))))
end
def selvedgeref01_Less.f (k : Nat) (a0 : ByteArray) (a1 : ByteArray) : Option (Bool) := selvedgeref01_Less.l0 k a0 a1 0
set_option maxHeartbeats 8000000 in
set_option maxRecDepth 100000 in
theorem selvedgeref01_Less.calls (k : Nat) (a0 : ByteArray) (a1 : ByteArray) (r : Bool) (w : World) (h : selvedgeref01_Less.f k a0 a1 = some r) :
  Calls Try.prog 85 #[.string a0, .string a1] w fun e w' => e = .returned (.bool r) ∧ Drawn0 w w' := by
 have H : (selvedgeref01_Less.l0 k a0 a1 0) = some r := h
 clear h
 have H' := am_ H
 clear H
 go_enter Try.func85, Try.ntmps85
 go_wp2
 repeat (go_quiet (fail); try go_wp2)
 go_loopg [5] k (fun kq v5 w' => ∃ (x5_1 : Int), v5 = .int .i64 x5_1 ∧ Asc (selvedgeref01_Less.l0 kq a0 a1 x5_1 = some r) ∧ Asc (kq ≤ k) ∧ Drawn0 w w')
 case atStart => exact ⟨(0), (by first | rfl | (simp; done) | (simp [*]; done)), H', ⟨Nat.le_refl _⟩, by repeat (first | exact Drawn0.refl _ | apply Drawn0.step)⟩
 case round =>
  clear H'
  obtain ⟨x5_1, rfl, HA, HK1, ⟨m1, rfl⟩⟩ := hrel
  cases gk with
  | zero => exact absurd HA.out (by simp [selvedgeref01_Less.l0])
  | succ k1 =>
   have H := HA.out
   clear HA
   simp only [selvedgeref01_Less.l0] at H
   have HC3 := am_ H
   clear H
   go_upto_region 2 with (fail)
   repeat (go_quiet (fail); go_upto_region 2 with (fail))
   go_cut [15] (fun v15 wc => ∃ (kq : Nat) (x15_2 : Bool), v15 = .bool x15_2 ∧ Asc (selvedgeref01_Less.j1 kq a0 a1 x5_1 x15_2 = some r) ∧ Asc (kq ≤ k1) ∧ Drawn0 w wc)
   case first =>
    have H := HC3.out
    clear HC3
    by_cases c4 : x5_1 < (a0.size : Int)
    ·
     rw [if_pos c4] at H
     have c4b0 : decide (x5_1 < (a0.size : Int)) = true := decide_eq_true c4
     clear c4
     (first | rw [c4b0] | (simp only [i64_w, i32_w]; rw [c4b0]) | skip)
     have H' := am_ H
     clear H
     go_wp2
     repeat (go_quiet (fail); try go_wp2)
     go_meet
     case rel => exact ⟨_, (decide (x5_1 < (a1.size : Int))), (by first | rfl | (simp; done) | (simp [*]; done)), H', ⟨by have := HK1.out; first | omega | exact Nat.le_refl _⟩, by repeat (first | exact Drawn0.refl _ | apply Drawn0.step)⟩
    rw [if_neg c4] at H
    have c4b0 : decide (x5_1 < (a0.size : Int)) = false := decide_eq_false c4
    clear c4
    (first | rw [c4b0] | (simp only [i64_w, i32_w]; rw [c4b0]) | skip)
    have H' := am_ H
    clear H
    go_wp2
    repeat (go_quiet (fail); try go_wp2)
    go_meet
    case rel => exact ⟨_, (false), (by first | rfl | (simp; done) | (simp [*]; done)), H', ⟨by have := HK1.out; first | omega | exact Nat.le_refl _⟩, by repeat (first | exact Drawn0.refl _ | apply Drawn0.step)⟩
   case rest =>
    clear HC3
    obtain ⟨kq, x15_2, rfl, HA, HJ2, ⟨mc2, rfl⟩⟩ := hcut
    cases kq with
    | zero => exact absurd HA.out (by simp [selvedgeref01_Less.j1])
    | succ kj2 =>
     have H := HA.out
     clear HA
     simp only [selvedgeref01_Less.j1] at H
     by_cases c5 : x15_2 = true
     ·
      subst c5
      have H1 : (if 0 ≤ x5_1 then (if x5_1 < (a0.size : Int) then (if x5_1 < (a1.size : Int) then (if (bt a0 x5_1) = (bt a1 x5_1) then (selvedgeref01_Less.l0 kj2 a0 a1 (wrap64 (x5_1 + 1))) else (some (decide ((bt a0 x5_1) < (bt a1 x5_1))))) else (none)) else (none)) else (none)) = some r := by rw [if_pos rfl] at H; exact H
      clear H
      have H := H1
      clear H1
      revert H
      refine gi (fun c6b0 H => ?_)
      revert H
      refine gi (fun c7b0 H => ?_)
      revert H
      refine gi (fun c9b0 H => ?_)
      by_cases c11 : (bt a0 x5_1) = (bt a1 x5_1)
      ·
       rw [if_pos c11] at H
       have c11b0 : ((bt a0 x5_1) == (bt a1 x5_1)) = true := beq_iff_eq.mpr c11
       have c11b1 : ((bt a0 x5_1) != (bt a1 x5_1)) = false := bne_eq_false_iff_eq.mpr c11
       clear c11
       have H' := am_ H
       clear H
       have p8 : 0 ≤ (x5_1 : Int) := of_decide_eq_true ‹_›
       have q8 : x5_1 < (a0.size : Int) := of_decide_eq_true ‹_›
       have hx8 := bt_at a0 x5_1
       replace p8 := eq_true p8
       replace q8 := eq_true q8
       have p10 : 0 ≤ (x5_1 : Int) := of_decide_eq_true ‹_›
       have q10 : x5_1 < (a1.size : Int) := of_decide_eq_true ‹_›
       have hx10 := bt_at a1 x5_1
       replace p10 := eq_true p10
       replace q10 := eq_true q10
       go_wp2
       repeat (go_quiet (fail); try go_wp2)
       go_roundg kj2
       case measure => have := HK1.out; have := HJ2.out; omega
       case rel => exact ⟨(wrap64 (x5_1 + 1)), (by first | rfl | (simp; done) | (simp [*]; done)), H', ⟨by have := HK1.out; have := HJ2.out; omega⟩, by repeat (first | exact Drawn0.refl _ | apply Drawn0.step)⟩
      rw [if_neg c11] at H
      have c11b0 : ((bt a0 x5_1) == (bt a1 x5_1)) = false := beq_eq_false_iff_ne.mpr c11
      have c11b1 : ((bt a0 x5_1) != (bt a1 x5_1)) = true := bne_iff_ne.mpr c11
      obtain rfl := Option.some.inj H
      have p8 : 0 ≤ (x5_1 : Int) := of_decide_eq_true ‹_›
      have q8 : x5_1 < (a0.size : Int) := of_decide_eq_true ‹_›
      have hx8 := bt_at a0 x5_1
      replace p8 := eq_true p8
      replace q8 := eq_true q8
      have p10 : 0 ≤ (x5_1 : Int) := of_decide_eq_true ‹_›
      have q10 : x5_1 < (a1.size : Int) := of_decide_eq_true ‹_›
      have hx10 := bt_at a1 x5_1
      replace p10 := eq_true p10
      replace q10 := eq_true q10
      have p12 : 0 ≤ (x5_1 : Int) := of_decide_eq_true ‹_›
      have q12 : x5_1 < (a0.size : Int) := of_decide_eq_true ‹_›
      have hx12 := bt_at a0 x5_1
      replace p12 := eq_true p12
      replace q12 := eq_true q12
      have p13 : 0 ≤ (x5_1 : Int) := of_decide_eq_true ‹_›
      have q13 : x5_1 < (a1.size : Int) := of_decide_eq_true ‹_›
      have hx13 := bt_at a1 x5_1
      replace p13 := eq_true p13
      replace q13 := eq_true q13
      go_wp2
      repeat (go_quiet (fail); try go_wp2)
      go_ret
      exact ⟨by first | rfl | (simp; done) | (simp [*]; done), by repeat (first | exact Drawn0.refl _ | apply Drawn0.step)⟩
     replace c5 := Bool.eq_false_iff.mpr c5
     subst c5
     have H1 : (some (decide ((a0.size : Int) < (a1.size : Int)))) = some r := by rw [if_neg (show ¬ (false = true) by decide)] at H; exact H
     clear H
     have H := H1
     clear H1
     obtain rfl := Option.some.inj H
     go_wp2
     repeat (go_quiet (fail); try go_wp2)
     go_ret
     exact ⟨by first | rfl | (simp; done) | (simp [*]; done), by repeat (first | exact Drawn0.refl _ | apply Drawn0.step)⟩

def selvedgeref03_May.f (a0_0 : Int) (a0_1 : Int) : Option (Bool) := if a0_0 ≥ 0 then (if a0_0 < 10007 then (if a0_1 ≥ 0 then (some (decide (a0_1 < 10007))) else (some false)) else (some false)) else (some false)
set_option maxHeartbeats 8000000 in
set_option maxRecDepth 100000 in
theorem selvedgeref03_May.calls (a0_0 : Int) (a0_1 : Int) (r : Bool) (w : World) (h : selvedgeref03_May.f a0_0 a0_1 = some r) :
  Calls Try.prog 110 #[.agg #[.int .i64 a0_0, .int .i64 a0_1]] w fun e w' => e = .returned (.bool r) ∧ Below w.heap.size w w' := by
 have hu33 := Try.underlying33
 have HB := am_ (Below.refl w.heap.size w)
 have H : (if a0_0 ≥ 0 then (if a0_0 < 10007 then (if a0_1 ≥ 0 then (some (decide (a0_1 < 10007))) else (some false)) else (some false)) else (some false)) = some r := h
 clear h
 by_cases c2 : a0_0 ≥ 0
 ·
  rw [if_pos c2] at H
  have c2b0 : decide (0 ≤ a0_0) = true := decide_eq_true c2
  clear c2
  by_cases c3 : a0_0 < 10007
  ·
   rw [if_pos c3] at H
   have c3b0 : decide (a0_0 < 10007) = true := decide_eq_true c3
   clear c3
   by_cases c4 : a0_1 ≥ 0
   ·
    rw [if_pos c4] at H
    have c4b0 : decide (0 ≤ a0_1) = true := decide_eq_true c4
    clear c4
    obtain rfl := Option.some.inj H
    go_enter Try.func110, Try.ntmps110
    go_wp2_with (first | ((with_reducible refine gate_dst (N := 1) rfl ?_); refine box_event ?hg (N := 1) ?hd (cs := #[.int .i64 a0_0, .int .i64 a0_1]) (t := 33) ?hr ?_; (case hd => rfl); (case hg => rfl); (case hr => first | (go_simp; done) | (go_simp; rfl)); intro gb150 hg w5 hbox hb; have BK150 := am_ hbox; have GW150 := tG HB hg; have GE150 := tG HB hg; replace HB := tHb HB hb; clear hb hbox hg; obtain ⟨hcz6_0, hcz6_1, hfz6_0, hfz6_1⟩ := bx2 BK150))
    go_ret
    exact ⟨by first | rfl | (simp [errW_none, errW_some] <;> rfl) | (simp [*, errW_none, errW_some] <;> rfl), bh HB⟩
   rw [if_neg c4] at H
   have c4b0 : decide (0 ≤ a0_1) = false := decide_eq_false c4
   clear c4
   obtain rfl := Option.some.inj H
   go_enter Try.func110, Try.ntmps110
   go_wp2_with (first | ((with_reducible refine gate_dst (N := 1) rfl ?_); refine box_event ?hg (N := 1) ?hd (cs := #[.int .i64 a0_0, .int .i64 a0_1]) (t := 33) ?hr ?_; (case hd => rfl); (case hg => rfl); (case hr => first | (go_simp; done) | (go_simp; rfl)); intro gb150 hg w7 hbox hb; have BK150 := am_ hbox; have GW150 := tG HB hg; have GE150 := tG HB hg; replace HB := tHb HB hb; clear hb hbox hg; obtain ⟨hcz8_0, hcz8_1, hfz8_0, hfz8_1⟩ := bx2 BK150))
   go_ret
   exact ⟨by first | rfl | (simp [errW_none, errW_some] <;> rfl) | (simp [*, errW_none, errW_some] <;> rfl), bh HB⟩
  rw [if_neg c3] at H
  have c3b0 : decide (a0_0 < 10007) = false := decide_eq_false c3
  clear c3
  obtain rfl := Option.some.inj H
  go_enter Try.func110, Try.ntmps110
  go_wp2_with (first | ((with_reducible refine gate_dst (N := 1) rfl ?_); refine box_event ?hg (N := 1) ?hd (cs := #[.int .i64 a0_0, .int .i64 a0_1]) (t := 33) ?hr ?_; (case hd => rfl); (case hg => rfl); (case hr => first | (go_simp; done) | (go_simp; rfl)); intro gb150 hg w9 hbox hb; have BK150 := am_ hbox; have GW150 := tG HB hg; have GE150 := tG HB hg; replace HB := tHb HB hb; clear hb hbox hg; obtain ⟨hcz10_0, hcz10_1, hfz10_0, hfz10_1⟩ := bx2 BK150))
  go_ret
  exact ⟨by first | rfl | (simp [errW_none, errW_some] <;> rfl) | (simp [*, errW_none, errW_some] <;> rfl), bh HB⟩
 rw [if_neg c2] at H
 have c2b0 : decide (0 ≤ a0_0) = false := decide_eq_false c2
 clear c2
 obtain rfl := Option.some.inj H
 go_enter Try.func110, Try.ntmps110
 go_wp2_with (first | ((with_reducible refine gate_dst (N := 1) rfl ?_); refine box_event ?hg (N := 1) ?hd (cs := #[.int .i64 a0_0, .int .i64 a0_1]) (t := 33) ?hr ?_; (case hd => rfl); (case hg => rfl); (case hr => first | (go_simp; done) | (go_simp; rfl)); intro gb150 hg w11 hbox hb; have BK150 := am_ hbox; have GW150 := tG HB hg; have GE150 := tG HB hg; replace HB := tHb HB hb; clear hb hbox hg; obtain ⟨hcz12_0, hcz12_1, hfz12_0, hfz12_1⟩ := bx2 BK150))
 go_ret
 exact ⟨by first | rfl | (simp [errW_none, errW_some] <;> rfl) | (simp [*, errW_none, errW_some] <;> rfl), bh HB⟩

end Go.Proofs.Ytcbfnmabckjijaa.POrderTurns
